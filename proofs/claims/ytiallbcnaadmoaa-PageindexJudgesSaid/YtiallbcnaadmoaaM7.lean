/-
  Parts of a proof: AmPrim, YtiallbcnaadmoaaKTy, YtiallbcnaadmoaaKFns.
-/
import Derived.Below
import Derived.Test.YtiallbcnaadmoaaM1
import Derived.Test.YtiallbcnaadmoaaM4
import Derived.Test.YtiallbcnaadmoaaM5
import Derived.Test.YtiallbcnaadmoaaM6
set_option linter.unusedSimpArgs false
set_option linter.unusedVariables false
section
set_option linter.unusedSimpArgs false
set_option linter.unusedVariables false
namespace Go.Am
open Go.RowKit
theorem Jti {σ : List Blk} {g : Gh} {w w' : World} (hi : Inv ⟨σ, g, w⟩) (hb : Below w.heap.size w w') :
    Inv ⟨σ, g, w'⟩ ∧ J0c ⟨σ, g, w⟩ ⟨σ, g, w'⟩ := by
  have hk : ∀ (r : Nat) x, w.heap[r]? = some x → w'.heap[r]? = some x := fun r x h => by rw [hb.block r (J2O h)]; exact h
  have hc : ∀ r o v, J0F w r o = some v → J0F w' r o = some v := by
    intro r o v h
    have hr : r < w.heap.size := by
      unfold J0F at h
      split at h
      · rename_i hx; exact J2O hx
      · cases h
    unfold J0F at h ⊢
    rw [hb.block r hr]
    exact h
  have t : J0c ⟨σ, g, w⟩ ⟨σ, g, w'⟩ := by
    refine ⟨⟨hb.size, fun r c e fz h => ⟨c, hk r _ h, rfl, fun _ _ => rfl⟩, fun r x h _ => hk r x h, hb.os, hb.output⟩, fun _ _ h => h, fun _ _ h => .inl h, fun r o ⟨b, hb⟩ => .inl ⟨b, hb⟩, Nat.le_refl _, fun _ cs h => ⟨⟨cs, h, rfl⟩, rfl⟩,
      fun _ wm _ rows h => ⟨wm, rows, h, id, Nat.le_refl _, fun _ => rfl⟩⟩
  exact ⟨Jah hi t (fun _ => False) (fun _ _ => ⟨rfl, rfl⟩) (fun _ r o v _ _ h => hc r o v h) (fun _ _ h => h.elim) (fun _ _ _ _ h => h.elim)
    (fun _ _ _ _ h => h.elim) (fun r o h => Nat.lt_of_lt_of_le (hi.const r o h).1 hb.size) (fun _ _ _ _ h => h.elim) (fun _ _ _ h h' => (h' h).elim), t⟩
def JiI : PV → Option Value
  | .b x => some (.bool x)
  | .i k n => some (.int k n)
  | .s l => some (.string ⟨l.toArray⟩)
  | _ => none
theorem JsN {x : PV} {v : Value} (h : JiI x = some v) (w : World) (C : Nat → Nat → Prop) : J0n w C x v := by
  cases x <;> simp only [JiI, Option.some.injEq, reduceCtorEq] at h <;> subst h
  · exact .b _
  · exact .i _ _
  · exact .s _
theorem Jvu {x : PV} {v v' : Value} {w : World} {C : Nat → Nat → Prop} (h : J0n w C x v) (hv : JiI x = some v') : v = v' := by
  cases x <;> simp only [JiI, Option.some.injEq, reduceCtorEq] at hv <;> subst hv <;> cases h <;> rfl
theorem Jlc {P : Program} {f : FuncId} {xs : List PV} {vs : List Value} {r : PV} {v : Value} {blks : List Blk}
    (hf : ∃ fn, P.funcs[f]? = some fn ∧ fn.body.isSome = true ∧ (fn.name == "runtime.NumGoroutine") = false)
    (hx : xs.mapM JiI = some vs) (hr : JiI r = some v)
    (hc : ∀ w, Calls P f vs.toArray w fun e w' => e = .returned v ∧ Below w.heap.size w w') :
    Jan P f (xs.map .p) blks (.p r, blks) := by
  refine ⟨hf, fun g w vals hi hl ha => ?_⟩
  have hvals : vals = vs.toArray := by
    have key : ∀ (xs : List PV) (vs vl : List Value), xs.mapM JiI = some vs → xs.length = vl.length →
        (∀ (i : Nat) x v, (xs.map AV.p)[i]? = some x → vl[i]? = some v → JE ⟨blks, g, w⟩ x v) → vl = vs := by
      intro xs
      induction xs with
      | nil => intro vs vl h1 h2 _; simp at h1 h2; subst h1; exact List.length_eq_zero_iff.1 h2.symm
      | cons x r ih =>
        intro vs vl h1 h2 h3
        simp only [List.mapM_cons, Option.pure_def, Option.bind_eq_bind] at h1
        obtain ⟨v0, hv0, h1⟩ := Option.bind_eq_some_iff.1 h1
        obtain ⟨vr, hvr, h1⟩ := Option.bind_eq_some_iff.1 h1
        simp only [Option.some.injEq] at h1
        subst h1
        cases vl with
        | nil => simp at h2
        | cons u ur =>
          have := h3 0 (.p x) u rfl rfl
          cases this with
          | p _ _ hp =>
            rw [Jvu hp hv0, ih vr ur hvr (by simpa using h2) (fun i x v hx hv => h3 (i + 1) x v hx hv)]
    apply Array.ext'
    rw [key xs vs vals.toList hx (by simpa using hl) (fun i x v h1 h2 => ha i x v h1 (by simpa using h2))]
  subst hvals
  refine (hc w).mono ?_
  rintro e w' ⟨rfl, hb⟩
  obtain ⟨hi', t⟩ := Jti hi hb
  exact ⟨v, g, rfl, hi', t, .p _ _ (JsN hr _ _)⟩
theorem Jq2 {T : J5T} {f : FuncId} {g : List AV → List Blk → Option Res} (h : T f = some (.prim g)) (args blks) : AF T f args blks = g args blks := by
  unfold AF Jbi; rw [h]
def Jw2 (a : Option AFn) (k : Option JaX) (g q : Option (List AV → List Blk → Option Res)) : Option J9q :=
  match a with
  | some a => some (.fn a)
  | none => match k with
    | some k => some (.fork k)
    | none => match g with
      | some g => some (.prim g)
      | none => q.map .prim
theorem Jfi {a : Option AFn} {k : Option JaX} {g q : Option (List AV → List Blk → Option Res)} {e : J9q} (h : Jw2 a k g q = some e) :
    (∃ x, a = some x ∧ e = .fn x) ∨ (∃ x, k = some x ∧ e = .fork x) ∨ (∃ x, g = some x ∧ e = .prim x) ∨ (∃ x, q = some x ∧ e = .prim x) := by
  cases a with
  | some a => exact .inl ⟨a, rfl, by injection h with h; exact h.symm⟩
  | none =>
    cases k with
    | some k => exact .inr (.inl ⟨k, rfl, by injection h with h; exact h.symm⟩)
    | none =>
      cases g with
      | some g => exact .inr (.inr (.inl ⟨g, rfl, by injection h with h; exact h.symm⟩))
      | none =>
        cases q with
        | some q => exact .inr (.inr (.inr ⟨q, rfl, by injection h with h; exact h.symm⟩))
        | none => cases h
def JlB (l : List UInt8) (n : Int) : Option (List UInt8) :=
  if 0 ≤ n ∧ n ≤ 9223372036854775807 ∧ l.length * n.toNat ≤ 140737488355328 then some (List.replicate n.toNat l).flatten else none
def Jot : List AV → List Blk → Option Res
  | [.p (.s l), .p (.i .i64 n)], blks => (JlB l n).map fun r => (.p (.s r), blks)
  | _, _ => none
def J6R (n : Int) (i : Nat) : Int := IntKind.wrap .u8 ((IntKind.wrap .u64 n).fdiv (2 ^ (8 * i)))
def J05 (n : Int) (k : Nat) : List UInt8 := toStr ((List.range k).map (J6R n))
def Jl8 (l : List UInt8) (n size : Int) : Option (List UInt8) :=
  if size < 1 ∨ 8 < size then some l
  else if l.length + 8 ≤ 140737488355328 then some (l ++ J05 n size.toNat) else none
def Jon : List AV → List Blk → Option Res
  | [.p (.s l), .p (.i .i64 n), .p (.i .i64 k)], blks => (Jl8 l n k).map fun r => (.p (.s r), blks)
  | _, _ => none
theorem Jv7 (x : Int) : 0 ≤ IntKind.wrap .u8 x ∧ IntKind.wrap .u8 x < 256 := by
  have h : IntKind.wrap .u8 x = x % 256 := rfl
  rw [h]; omega
theorem Jk0 (n : Int) (i : Nat) : ((UInt8.ofNat (J6R n i).toNat).toNat : Int) = J6R n i := by
  have h : 0 ≤ J6R n i ∧ J6R n i < 256 := Jv7 _
  have h2 : (J6R n i).toNat < 256 := by omega
  rw [UInt8.toNat_ofNat_of_lt' (by simpa using h2)]
  omega
theorem JlT (n : Int) (k : Nat) : J05 n (k + 1) = J05 n k ++ [UInt8.ofNat (J6R n k).toNat] := by
  simp [J05, toStr, List.range_succ]
theorem J07 (n : Int) (k : Nat) : (J05 n k).length = k := by simp [J05, toStr]
theorem Jxc (x y : Bool) : J1c [.b] [.b x] [.b y] = some (decide (x = y)) := by
  simp only [J1c, Jff]
  cases x <;> cases y <;> rfl
theorem Jnj (k : IntKind) (x y : Int) : J1c [.i k] [.i k x] [.i k y] = some (decide (x = y)) := by
  by_cases h : x = y <;> simp [J1c, Jff, h]
theorem Jx8 (x y : List UInt8) : J1c [.s] [.s x] [.s y] = some (decide (x = y)) := by
  by_cases h : x = y <;> simp [J1c, Jff, h]
theorem Jby {p q : Prop} [Decidable p] [Decidable q] : ∀ {k1 k2 : List KD} {a1 a2 b1 b2 : List PV}, J1c k1 a1 b1 = some (decide p) → J1c k2 a2 b2 = some (decide q) → J1c (k1 ++ k2) (cat a1 a2) (cat b1 b2) = some (decide (p ∧ q)) := by
  have key : ∀ (k1 k2 : List KD) (a1 a2 b1 b2 : List PV) (r s : Bool), J1c k1 a1 b1 = some r → J1c k2 a2 b2 = some s → J1c (k1 ++ k2) (a1 ++ a2) (b1 ++ b2) = some (r && s) := by
    intro k1
    induction k1 with
    | nil =>
      intro k2 a1 a2 b1 b2 r s h1 h2
      cases a1 <;> cases b1 <;> simp [J1c] at h1
      subst h1
      simpa using h2
    | cons k ks ih =>
      intro k2 a1 a2 b1 b2 r s h1 h2
      cases a1 with
      | nil => simp [J1c] at h1
      | cons a a1 =>
        cases b1 with
        | nil => simp [J1c] at h1
        | cons b b1 =>
          simp only [J1c] at h1
          split at h1
          · rename_i u c hu hc
            injection h1 with h1
            subst h1
            simp only [List.cons_append, J1c, hu, ih _ _ _ _ _ _ _ hc h2, Bool.and_assoc]
          · cases h1
  intro k1 k2 a1 a2 b1 b2 h1 h2
  rw [key _ _ _ _ _ _ _ _ h1 h2, Bool.decide_and]
theorem Jw9 {α : Type} [DecidableEq α] {n : Nat} {ks : List KD} {r : α → List PV} (h : ∀ x y, J1c ks (r x) (r y) = some (decide (x = y))) (v w : Vector α n) :
    J1c (List.replicate n ks).flatten (JO r v) (JO r w) = some (decide (v = w)) := by
  have key : ∀ (l l' : List α), l.length = l'.length → J1c (List.replicate l.length ks).flatten (l.map r).flatten (l'.map r).flatten = some (decide (l = l')) := by
    intro l
    induction l with
    | nil => intro l' h1; cases l' with
      | nil => simp [J1c]
      | cons a l' => simp at h1
    | cons a l ih =>
      intro l' h1
      cases l' with
      | nil => simp at h1
      | cons b l' =>
        have h2 := Jby (h a b) (ih l' (by simpa using h1))
        simp only [List.length_cons, List.replicate_succ, List.flatten_cons, List.map_cons]
        rw [show (decide (a :: l = b :: l')) = decide (a = b ∧ l = l') by simp]
        exact h2
  have h3 := key v.toList w.toList (by simp)
  rw [show v.toList.length = n by simp] at h3
  rw [show decide (v = w) = decide (v.toList = w.toList) by
    apply decide_eq_decide.2
    exact ⟨fun e => by rw [e], fun e => Vector.toList_inj.1 e⟩]
  exact h3
end Go.Am
end
section
namespace Go.Am
set_option maxRecDepth 8000
set_option maxHeartbeats 4000000
set_option linter.unusedSimpArgs false
set_option linter.unusedVariables false
structure T_api_Row where
  LSN : Int
  Image : Int
  ImageLSN : Int
  deriving DecidableEq
instance : Inhabited T_api_Row := ⟨⟨0, 0, 0⟩⟩
def Je (x : T_api_Row) : List PV := (cat [.i .i64 x.LSN] (cat [.i .i64 x.Image] [.i .i64 x.ImageLSN]))
theorem JbK (x : T_api_Row) : (Je x).length = 3 := by
  simp only [cat, Je, List.length_append, List.length_cons, List.length_nil]
theorem Jkn (x : T_api_Row) : sub (Je x) 0 1 = some [.i .i64 x.LSN] := by unfold Je; exact J8z rfl
theorem JjD (x : T_api_Row) (y : Int) : spl (Je x) 0 [.i .i64 y] = some (Je ⟨y, x.Image, x.ImageLSN⟩) := by unfold Je; exact J8E rfl
theorem JhN (x : T_api_Row) : sub (Je x) 1 1 = some [.i .i64 x.Image] := by
  have e0 : Je x = cat [.i .i64 x.LSN] (cat [.i .i64 x.Image] [.i .i64 x.ImageLSN]) := by unfold Je; simp only [cat, List.append_assoc]
  rw [e0]; exact J53 (by simp only [cat, List.length_append, List.length_cons, List.length_nil]) rfl
theorem Jhx (x : T_api_Row) (y : Int) : spl (Je x) 1 [.i .i64 y] = some (Je ⟨x.LSN, y, x.ImageLSN⟩) := by
  have e0 : Je x = cat [.i .i64 x.LSN] (cat [.i .i64 x.Image] [.i .i64 x.ImageLSN]) := by unfold Je; simp only [cat, List.append_assoc]
  have e1 : Je ⟨x.LSN, y, x.ImageLSN⟩ = cat [.i .i64 x.LSN] (cat [.i .i64 y] [.i .i64 x.ImageLSN]) := by unfold Je; simp only [cat, List.append_assoc]
  rw [e0, e1]; exact J4Y (by simp only [cat, List.length_append, List.length_cons, List.length_nil]) rfl
theorem Jf0 (x : T_api_Row) : sub (Je x) 2 1 = some [.i .i64 x.ImageLSN] := by
  have e0 : Je x = cat (cat [.i .i64 x.LSN] [.i .i64 x.Image]) [.i .i64 x.ImageLSN] := by unfold Je; simp only [cat, List.append_assoc]
  rw [e0]; exact J9V (by simp only [cat, List.length_append, List.length_cons, List.length_nil]) rfl
theorem Jfy (x : T_api_Row) (y : Int) : spl (Je x) 2 [.i .i64 y] = some (Je ⟨x.LSN, x.Image, y⟩) := by
  have e0 : Je x = cat (cat [.i .i64 x.LSN] [.i .i64 x.Image]) [.i .i64 x.ImageLSN] := by unfold Je; simp only [cat, List.append_assoc]
  have e1 : Je ⟨x.LSN, x.Image, y⟩ = cat (cat [.i .i64 x.LSN] [.i .i64 x.Image]) [.i .i64 y] := by unfold Je; simp only [cat, List.append_assoc]
  rw [e0, e1]; exact J9P (by simp only [cat, List.length_append, List.length_cons, List.length_nil]) rfl
theorem Jpd : (default : T_api_Row) = (⟨0, 0, 0⟩ : T_api_Row) := rfl
theorem Jom (x : T_api_Row) : sub (Je x) 0 3 = some (Je x) := J9M (JbK x)
theorem JnF (x y : T_api_Row) : spl (Je x) 0 (Je y) = some (Je y) := J9O ((JbK x).trans (JbK y).symm)
theorem Jk : (∀ x : T_api_Row, (Je x).length = 3) ∧
  (∀ x : T_api_Row, sub (Je x) 0 1 = some [.i .i64 x.LSN]) ∧
  (∀ (x : T_api_Row) (y : Int), spl (Je x) 0 [.i .i64 y] = some (Je ⟨y, x.Image, x.ImageLSN⟩)) ∧
  (∀ x : T_api_Row, sub (Je x) 1 1 = some [.i .i64 x.Image]) ∧
  (∀ (x : T_api_Row) (y : Int), spl (Je x) 1 [.i .i64 y] = some (Je ⟨x.LSN, y, x.ImageLSN⟩)) ∧
  (∀ x : T_api_Row, sub (Je x) 2 1 = some [.i .i64 x.ImageLSN]) ∧
  (∀ (x : T_api_Row) (y : Int), spl (Je x) 2 [.i .i64 y] = some (Je ⟨x.LSN, x.Image, y⟩)) ∧
  ((default : T_api_Row) = (⟨0, 0, 0⟩ : T_api_Row)) ∧
  (∀ x : T_api_Row, sub (Je x) 0 3 = some (Je x)) ∧
  (∀ x y : T_api_Row, spl (Je x) 0 (Je y) = some (Je y)) :=
  ⟨@JbK, @Jkn, @JjD, @JhN, @Jhx, @Jf0, @Jfy, Jpd, @Jom, @JnF⟩
theorem JF : (∀ x : T_api_Row, Je x = (cat [.i .i64 x.LSN] (cat [.i .i64 x.Image] [.i .i64 x.ImageLSN]))) ∧ (default : T_api_Row) = (⟨0, 0, 0⟩ : T_api_Row) := ⟨fun _ => rfl, rfl⟩
structure T_api_Index where
  Rows : List T_api_Row
  deriving DecidableEq
instance : Inhabited T_api_Index := ⟨⟨[]⟩⟩
def Jj (x : T_api_Index) : List PV := [.sl 3 (List.map Je x.Rows)]
theorem J5 : (∀ x : T_api_Index, Jj x = [.sl 3 (List.map Je x.Rows)]) ∧ (default : T_api_Index) = (⟨[]⟩ : T_api_Index) := ⟨fun _ => rfl, rfl⟩
structure J8 where
  Set : Bool
  Data : List UInt8
  deriving DecidableEq
instance : Inhabited J8 := ⟨⟨false, []⟩⟩
def Jh (x : J8) : List PV := (cat [.b x.Set] [.s x.Data])
theorem JI (x : J8) : (Jh x).length = 2 := by
  simp only [cat, Jh, List.length_append, List.length_cons, List.length_nil]
theorem JaK (x : J8) : sub (Jh x) 0 1 = some [.b x.Set] := by unfold Jh; exact J8z rfl
theorem Jj4 (x : J8) (y : Bool) : spl (Jh x) 0 [.b y] = some (Jh ⟨y, x.Data⟩) := by unfold Jh; exact J8E rfl
theorem J7X (x : J8) : sub (Jh x) 1 1 = some [.s x.Data] := by
  have e0 : Jh x = cat [.b x.Set] [.s x.Data] := by unfold Jh; simp only [cat, List.append_assoc]
  rw [e0]; exact J9V (by simp only [cat, List.length_append, List.length_cons, List.length_nil]) rfl
theorem Jid (x : J8) (y : List UInt8) : spl (Jh x) 1 [.s y] = some (Jh ⟨x.Set, y⟩) := by
  have e0 : Jh x = cat [.b x.Set] [.s x.Data] := by unfold Jh; simp only [cat, List.append_assoc]
  have e1 : Jh ⟨x.Set, y⟩ = cat [.b x.Set] [.s y] := by unfold Jh; simp only [cat, List.append_assoc]
  rw [e0, e1]; exact J9P (by simp only [cat, List.length_append, List.length_cons, List.length_nil]) rfl
theorem Jos : (default : J8) = (⟨false, []⟩ : J8) := rfl
theorem JmN (x : J8) : sub (Jh x) 0 2 = some (Jh x) := J9M (JI x)
theorem Jnb (x y : J8) : spl (Jh x) 0 (Jh y) = some (Jh y) := J9O ((JI x).trans (JI y).symm)
theorem J3 : (∀ x : J8, (Jh x).length = 2) ∧
  (∀ x : J8, sub (Jh x) 0 1 = some [.b x.Set]) ∧
  (∀ (x : J8) (y : Bool), spl (Jh x) 0 [.b y] = some (Jh ⟨y, x.Data⟩)) ∧
  (∀ x : J8, sub (Jh x) 1 1 = some [.s x.Data]) ∧
  (∀ (x : J8) (y : List UInt8), spl (Jh x) 1 [.s y] = some (Jh ⟨x.Set, y⟩)) ∧
  ((default : J8) = (⟨false, []⟩ : J8)) ∧
  (∀ x : J8, sub (Jh x) 0 2 = some (Jh x)) ∧
  (∀ x y : J8, spl (Jh x) 0 (Jh y) = some (Jh y)) :=
  ⟨@JI, @JaK, @Jj4, @J7X, @Jid, Jos, @JmN, @Jnb⟩
theorem Ji : (∀ x : J8, Jh x = (cat [.b x.Set] [.s x.Data])) ∧ (default : J8) = (⟨false, []⟩ : J8) := ⟨fun _ => rfl, rfl⟩
theorem J2 : (∀ v : Vector J8 16, (JO Jh v).length = 32) ∧ (∀ v : Vector J8 16, sub (JO Jh v) 0 32 = some (JO Jh v)) ∧ (∀ v y : Vector J8 16, spl (JO Jh v) 0 (JO Jh y) = some (JO Jh y)) :=
  ⟨fun v => J4g JI v, fun v => J9M (J4g JI v), fun v y => J9O ((J4g JI v).trans (J4g JI y).symm)⟩
structure T_api_Page where
  ID : Int
  LSN : Int
  Cells : Vector J8 16
  deriving DecidableEq
instance : Inhabited T_api_Page := ⟨⟨0, 0, (Vector.replicate 16 (⟨false, []⟩ : J8))⟩⟩
def J4 (x : T_api_Page) : List PV := (cat [.i .i64 x.ID] (cat [.i .i64 x.LSN] ((JO Jh) x.Cells)))
theorem JaV (x : T_api_Page) : (J4 x).length = 34 := by
  simp only [cat, J4, (J4g JI x.Cells), List.length_append, List.length_cons, List.length_nil]
theorem JkG (x : T_api_Page) : sub (J4 x) 0 1 = some [.i .i64 x.ID] := by unfold J4; exact J8z rfl
theorem JjZ (x : T_api_Page) (y : Int) : spl (J4 x) 0 [.i .i64 y] = some (J4 ⟨y, x.LSN, x.Cells⟩) := by unfold J4; exact J8E rfl
theorem JiN (x : T_api_Page) : sub (J4 x) 1 1 = some [.i .i64 x.LSN] := by
  have e0 : J4 x = cat [.i .i64 x.ID] (cat [.i .i64 x.LSN] ((JO Jh) x.Cells)) := by unfold J4; simp only [cat, List.append_assoc]
  rw [e0]; exact J53 (by simp only [cat, List.length_append, List.length_cons, List.length_nil, (J4g JI x.Cells)]) rfl
theorem Jjr (x : T_api_Page) (y : Int) : spl (J4 x) 1 [.i .i64 y] = some (J4 ⟨x.ID, y, x.Cells⟩) := by
  have e0 : J4 x = cat [.i .i64 x.ID] (cat [.i .i64 x.LSN] ((JO Jh) x.Cells)) := by unfold J4; simp only [cat, List.append_assoc]
  have e1 : J4 ⟨x.ID, y, x.Cells⟩ = cat [.i .i64 x.ID] (cat [.i .i64 y] ((JO Jh) x.Cells)) := by unfold J4; simp only [cat, List.append_assoc]
  rw [e0, e1]; exact J4Y (by simp only [cat, List.length_append, List.length_cons, List.length_nil, (J4g JI x.Cells)]) rfl
theorem J1v (x : T_api_Page) : sub (J4 x) 2 32 = some ((JO Jh) x.Cells) := by
  have e0 : J4 x = cat (cat [.i .i64 x.ID] [.i .i64 x.LSN]) ((JO Jh) x.Cells) := by unfold J4; simp only [cat, List.append_assoc]
  rw [e0]; exact J9V (by simp only [cat, List.length_append, List.length_cons, List.length_nil, (J4g JI x.Cells)]) (J4g JI _)
theorem J7F (x : T_api_Page) (y : Vector J8 16) : spl (J4 x) 2 ((JO Jh) y) = some (J4 ⟨x.ID, x.LSN, y⟩) := by
  have e0 : J4 x = cat (cat [.i .i64 x.ID] [.i .i64 x.LSN]) ((JO Jh) x.Cells) := by unfold J4; simp only [cat, List.append_assoc]
  have e1 : J4 ⟨x.ID, x.LSN, y⟩ = cat (cat [.i .i64 x.ID] [.i .i64 x.LSN]) ((JO Jh) y) := by unfold J4; simp only [cat, List.append_assoc]
  rw [e0, e1]; exact J9P (by simp only [cat, List.length_append, List.length_cons, List.length_nil, (J4g JI x.Cells)]) ((J4g JI _).trans (J4g JI _).symm)
theorem Jow : (default : T_api_Page) = (⟨0, 0, (Vector.replicate 16 (⟨false, []⟩ : J8))⟩ : T_api_Page) := rfl
theorem Jmo (x : T_api_Page) : sub (J4 x) 0 34 = some (J4 x) := J9M (JaV x)
theorem Jng (x y : T_api_Page) : spl (J4 x) 0 (J4 y) = some (J4 y) := J9O ((JaV x).trans (JaV y).symm)
theorem J6 : (∀ x : T_api_Page, (J4 x).length = 34) ∧
  (∀ x : T_api_Page, sub (J4 x) 0 1 = some [.i .i64 x.ID]) ∧
  (∀ (x : T_api_Page) (y : Int), spl (J4 x) 0 [.i .i64 y] = some (J4 ⟨y, x.LSN, x.Cells⟩)) ∧
  (∀ x : T_api_Page, sub (J4 x) 1 1 = some [.i .i64 x.LSN]) ∧
  (∀ (x : T_api_Page) (y : Int), spl (J4 x) 1 [.i .i64 y] = some (J4 ⟨x.ID, y, x.Cells⟩)) ∧
  (∀ x : T_api_Page, sub (J4 x) 2 32 = some ((JO Jh) x.Cells)) ∧
  (∀ (x : T_api_Page) (y : Vector J8 16), spl (J4 x) 2 ((JO Jh) y) = some (J4 ⟨x.ID, x.LSN, y⟩)) ∧
  ((default : T_api_Page) = (⟨0, 0, (Vector.replicate 16 (⟨false, []⟩ : J8))⟩ : T_api_Page)) ∧
  (∀ x : T_api_Page, sub (J4 x) 0 34 = some (J4 x)) ∧
  (∀ x y : T_api_Page, spl (J4 x) 0 (J4 y) = some (J4 y)) :=
  ⟨@JaV, @JkG, @JjZ, @JiN, @Jjr, @J1v, @J7F, Jow, @Jmo, @Jng⟩
theorem J4h : (∀ v : Vector Int 2, (JO (r_i .i64) v).length = 2) ∧ (∀ v : Vector Int 2, sub (JO (r_i .i64) v) 0 2 = some (JO (r_i .i64) v)) ∧ (∀ v y : Vector Int 2, spl (JO (r_i .i64) v) 0 (JO (r_i .i64) y) = some (JO (r_i .i64) y)) :=
  ⟨fun v => J4g (J5j .i64) v, fun v => J9M (J4g (J5j .i64) v), fun v y => J9O ((J4g (J5j .i64) v).trans (J4g (J5j .i64) y).symm)⟩
structure Js where
  Page : Int
  Slot : Int
  Before : J8
  After : J8
  deriving DecidableEq
instance : Inhabited Js := ⟨⟨0, 0, (⟨false, []⟩ : J8), (⟨false, []⟩ : J8)⟩⟩
def Jf (x : Js) : List PV := (cat [.i .i64 x.Page] (cat [.i .i64 x.Slot] (cat (Jh x.Before) (Jh x.After))))
theorem J0i (x : Js) : (Jf x).length = 6 := by
  simp only [cat, Jf, JI, List.length_append, List.length_cons, List.length_nil]
theorem J9g (x : Js) : sub (Jf x) 0 1 = some [.i .i64 x.Page] := by unfold Jf; exact J8z rfl
theorem Jg1 (x : Js) (y : Int) : spl (Jf x) 0 [.i .i64 y] = some (Jf ⟨y, x.Slot, x.Before, x.After⟩) := by unfold Jf; exact J8E rfl
theorem JfZ (x : Js) : sub (Jf x) 1 1 = some [.i .i64 x.Slot] := by
  have e0 : Jf x = cat [.i .i64 x.Page] (cat [.i .i64 x.Slot] (cat (Jh x.Before) (Jh x.After))) := by unfold Jf; simp only [cat, List.append_assoc]
  rw [e0]; exact J53 (by simp only [cat, List.length_append, List.length_cons, List.length_nil, JI]) rfl
theorem Jg8 (x : Js) (y : Int) : spl (Jf x) 1 [.i .i64 y] = some (Jf ⟨x.Page, y, x.Before, x.After⟩) := by
  have e0 : Jf x = cat [.i .i64 x.Page] (cat [.i .i64 x.Slot] (cat (Jh x.Before) (Jh x.After))) := by unfold Jf; simp only [cat, List.append_assoc]
  have e1 : Jf ⟨x.Page, y, x.Before, x.After⟩ = cat [.i .i64 x.Page] (cat [.i .i64 y] (cat (Jh x.Before) (Jh x.After))) := by unfold Jf; simp only [cat, List.append_assoc]
  rw [e0, e1]; exact J4Y (by simp only [cat, List.length_append, List.length_cons, List.length_nil, JI]) rfl
theorem Jew (x : Js) : sub (Jf x) 2 2 = some (Jh x.Before) := by
  have e0 : Jf x = cat (cat [.i .i64 x.Page] [.i .i64 x.Slot]) (cat (Jh x.Before) (Jh x.After)) := by unfold Jf; simp only [cat, List.append_assoc]
  rw [e0]; exact J53 (by simp only [cat, List.length_append, List.length_cons, List.length_nil, JI]) (JI _)
theorem Jey (x : Js) (y : J8) : spl (Jf x) 2 (Jh y) = some (Jf ⟨x.Page, x.Slot, y, x.After⟩) := by
  have e0 : Jf x = cat (cat [.i .i64 x.Page] [.i .i64 x.Slot]) (cat (Jh x.Before) (Jh x.After)) := by unfold Jf; simp only [cat, List.append_assoc]
  have e1 : Jf ⟨x.Page, x.Slot, y, x.After⟩ = cat (cat [.i .i64 x.Page] [.i .i64 x.Slot]) (cat (Jh y) (Jh x.After)) := by unfold Jf; simp only [cat, List.append_assoc]
  rw [e0, e1]; exact J4Y (by simp only [cat, List.length_append, List.length_cons, List.length_nil, JI]) ((JI _).trans (JI _).symm)
theorem JeK (x : Js) : sub (Jf x) 4 2 = some (Jh x.After) := by
  have e0 : Jf x = cat (cat [.i .i64 x.Page] (cat [.i .i64 x.Slot] (Jh x.Before))) (Jh x.After) := by unfold Jf; simp only [cat, List.append_assoc]
  rw [e0]; exact J9V (by simp only [cat, List.length_append, List.length_cons, List.length_nil, JI]) (JI _)
theorem Jf2 (x : Js) (y : J8) : spl (Jf x) 4 (Jh y) = some (Jf ⟨x.Page, x.Slot, x.Before, y⟩) := by
  have e0 : Jf x = cat (cat [.i .i64 x.Page] (cat [.i .i64 x.Slot] (Jh x.Before))) (Jh x.After) := by unfold Jf; simp only [cat, List.append_assoc]
  have e1 : Jf ⟨x.Page, x.Slot, x.Before, y⟩ = cat (cat [.i .i64 x.Page] (cat [.i .i64 x.Slot] (Jh x.Before))) (Jh y) := by unfold Jf; simp only [cat, List.append_assoc]
  rw [e0, e1]; exact J9P (by simp only [cat, List.length_append, List.length_cons, List.length_nil, JI]) ((JI _).trans (JI _).symm)
theorem JkZ : (default : Js) = (⟨0, 0, (⟨false, []⟩ : J8), (⟨false, []⟩ : J8)⟩ : Js) := rfl
theorem JkL (x : Js) : sub (Jf x) 0 6 = some (Jf x) := J9M (J0i x)
theorem JkK (x y : Js) : spl (Jf x) 0 (Jf y) = some (Jf y) := J9O ((J0i x).trans (J0i y).symm)
theorem JL : (∀ x : Js, (Jf x).length = 6) ∧
  (∀ x : Js, sub (Jf x) 0 1 = some [.i .i64 x.Page]) ∧
  (∀ (x : Js) (y : Int), spl (Jf x) 0 [.i .i64 y] = some (Jf ⟨y, x.Slot, x.Before, x.After⟩)) ∧
  (∀ x : Js, sub (Jf x) 1 1 = some [.i .i64 x.Slot]) ∧
  (∀ (x : Js) (y : Int), spl (Jf x) 1 [.i .i64 y] = some (Jf ⟨x.Page, y, x.Before, x.After⟩)) ∧
  (∀ x : Js, sub (Jf x) 2 2 = some (Jh x.Before)) ∧
  (∀ (x : Js) (y : J8), spl (Jf x) 2 (Jh y) = some (Jf ⟨x.Page, x.Slot, y, x.After⟩)) ∧
  (∀ x : Js, sub (Jf x) 4 2 = some (Jh x.After)) ∧
  (∀ (x : Js) (y : J8), spl (Jf x) 4 (Jh y) = some (Jf ⟨x.Page, x.Slot, x.Before, y⟩)) ∧
  ((default : Js) = (⟨0, 0, (⟨false, []⟩ : J8), (⟨false, []⟩ : J8)⟩ : Js)) ∧
  (∀ x : Js, sub (Jf x) 0 6 = some (Jf x)) ∧
  (∀ x y : Js, spl (Jf x) 0 (Jf y) = some (Jf y)) :=
  ⟨@J0i, @J9g, @Jg1, @JfZ, @Jg8, @Jew, @Jey, @JeK, @Jf2, JkZ, @JkL, @JkK⟩
theorem Ja : (∀ x : Js, Jf x = (cat [.i .i64 x.Page] (cat [.i .i64 x.Slot] (cat (Jh x.Before) (Jh x.After))))) ∧ (default : Js) = (⟨0, 0, (⟨false, []⟩ : J8), (⟨false, []⟩ : J8)⟩ : Js) := ⟨fun _ => rfl, rfl⟩
structure Jg where
  LSN : Int
  Kind : Int
  Tx : Int
  PrevTx : Int
  PrevPage : Int
  Ref : Int
  Change : Js
  Blob : List UInt8
  deriving DecidableEq
instance : Inhabited Jg := ⟨⟨0, 0, 0, 0, 0, 0, (⟨0, 0, (⟨false, []⟩ : J8), (⟨false, []⟩ : J8)⟩ : Js), []⟩⟩
def J7 (x : Jg) : List PV := (cat [.i .i64 x.LSN] (cat [.i .i64 x.Kind] (cat [.i .i64 x.Tx] (cat [.i .i64 x.PrevTx] (cat [.i .i64 x.PrevPage] (cat [.i .i64 x.Ref] (cat (Jf x.Change) [.s x.Blob])))))))
theorem Jax (x : Jg) : (J7 x).length = 13 := by
  simp only [cat, J7, J0i, List.length_append, List.length_cons, List.length_nil]
theorem JhR (x : Jg) : sub (J7 x) 0 1 = some [.i .i64 x.LSN] := by unfold J7; exact J8z rfl
theorem Ji3 (x : Jg) (y : Int) : spl (J7 x) 0 [.i .i64 y] = some (J7 ⟨y, x.Kind, x.Tx, x.PrevTx, x.PrevPage, x.Ref, x.Change, x.Blob⟩) := by unfold J7; exact J8E rfl
theorem Jgf (x : Jg) : sub (J7 x) 1 1 = some [.i .i64 x.Kind] := by
  have e0 : J7 x = cat [.i .i64 x.LSN] (cat [.i .i64 x.Kind] (cat [.i .i64 x.Tx] (cat [.i .i64 x.PrevTx] (cat [.i .i64 x.PrevPage] (cat [.i .i64 x.Ref] (cat (Jf x.Change) [.s x.Blob])))))) := by unfold J7; simp only [cat, List.append_assoc]
  rw [e0]; exact J53 (by simp only [cat, List.length_append, List.length_cons, List.length_nil, J0i]) rfl
theorem JgP (x : Jg) (y : Int) : spl (J7 x) 1 [.i .i64 y] = some (J7 ⟨x.LSN, y, x.Tx, x.PrevTx, x.PrevPage, x.Ref, x.Change, x.Blob⟩) := by
  have e0 : J7 x = cat [.i .i64 x.LSN] (cat [.i .i64 x.Kind] (cat [.i .i64 x.Tx] (cat [.i .i64 x.PrevTx] (cat [.i .i64 x.PrevPage] (cat [.i .i64 x.Ref] (cat (Jf x.Change) [.s x.Blob])))))) := by unfold J7; simp only [cat, List.append_assoc]
  have e1 : J7 ⟨x.LSN, y, x.Tx, x.PrevTx, x.PrevPage, x.Ref, x.Change, x.Blob⟩ = cat [.i .i64 x.LSN] (cat [.i .i64 y] (cat [.i .i64 x.Tx] (cat [.i .i64 x.PrevTx] (cat [.i .i64 x.PrevPage] (cat [.i .i64 x.Ref] (cat (Jf x.Change) [.s x.Blob])))))) := by unfold J7; simp only [cat, List.append_assoc]
  rw [e0, e1]; exact J4Y (by simp only [cat, List.length_append, List.length_cons, List.length_nil, J0i]) rfl
theorem JiS (x : Jg) : sub (J7 x) 2 1 = some [.i .i64 x.Tx] := by
  have e0 : J7 x = cat (cat [.i .i64 x.LSN] [.i .i64 x.Kind]) (cat [.i .i64 x.Tx] (cat [.i .i64 x.PrevTx] (cat [.i .i64 x.PrevPage] (cat [.i .i64 x.Ref] (cat (Jf x.Change) [.s x.Blob]))))) := by unfold J7; simp only [cat, List.append_assoc]
  rw [e0]; exact J53 (by simp only [cat, List.length_append, List.length_cons, List.length_nil, J0i]) rfl
theorem JiP (x : Jg) (y : Int) : spl (J7 x) 2 [.i .i64 y] = some (J7 ⟨x.LSN, x.Kind, y, x.PrevTx, x.PrevPage, x.Ref, x.Change, x.Blob⟩) := by
  have e0 : J7 x = cat (cat [.i .i64 x.LSN] [.i .i64 x.Kind]) (cat [.i .i64 x.Tx] (cat [.i .i64 x.PrevTx] (cat [.i .i64 x.PrevPage] (cat [.i .i64 x.Ref] (cat (Jf x.Change) [.s x.Blob]))))) := by unfold J7; simp only [cat, List.append_assoc]
  have e1 : J7 ⟨x.LSN, x.Kind, y, x.PrevTx, x.PrevPage, x.Ref, x.Change, x.Blob⟩ = cat (cat [.i .i64 x.LSN] [.i .i64 x.Kind]) (cat [.i .i64 y] (cat [.i .i64 x.PrevTx] (cat [.i .i64 x.PrevPage] (cat [.i .i64 x.Ref] (cat (Jf x.Change) [.s x.Blob]))))) := by unfold J7; simp only [cat, List.append_assoc]
  rw [e0, e1]; exact J4Y (by simp only [cat, List.length_append, List.length_cons, List.length_nil, J0i]) rfl
theorem JeY (x : Jg) : sub (J7 x) 3 1 = some [.i .i64 x.PrevTx] := by
  have e0 : J7 x = cat (cat [.i .i64 x.LSN] (cat [.i .i64 x.Kind] [.i .i64 x.Tx])) (cat [.i .i64 x.PrevTx] (cat [.i .i64 x.PrevPage] (cat [.i .i64 x.Ref] (cat (Jf x.Change) [.s x.Blob])))) := by unfold J7; simp only [cat, List.append_assoc]
  rw [e0]; exact J53 (by simp only [cat, List.length_append, List.length_cons, List.length_nil, J0i]) rfl
theorem Jfa (x : Jg) (y : Int) : spl (J7 x) 3 [.i .i64 y] = some (J7 ⟨x.LSN, x.Kind, x.Tx, y, x.PrevPage, x.Ref, x.Change, x.Blob⟩) := by
  have e0 : J7 x = cat (cat [.i .i64 x.LSN] (cat [.i .i64 x.Kind] [.i .i64 x.Tx])) (cat [.i .i64 x.PrevTx] (cat [.i .i64 x.PrevPage] (cat [.i .i64 x.Ref] (cat (Jf x.Change) [.s x.Blob])))) := by unfold J7; simp only [cat, List.append_assoc]
  have e1 : J7 ⟨x.LSN, x.Kind, x.Tx, y, x.PrevPage, x.Ref, x.Change, x.Blob⟩ = cat (cat [.i .i64 x.LSN] (cat [.i .i64 x.Kind] [.i .i64 x.Tx])) (cat [.i .i64 y] (cat [.i .i64 x.PrevPage] (cat [.i .i64 x.Ref] (cat (Jf x.Change) [.s x.Blob])))) := by unfold J7; simp only [cat, List.append_assoc]
  rw [e0, e1]; exact J4Y (by simp only [cat, List.length_append, List.length_cons, List.length_nil, J0i]) rfl
theorem Je0 (x : Jg) : sub (J7 x) 4 1 = some [.i .i64 x.PrevPage] := by
  have e0 : J7 x = cat (cat [.i .i64 x.LSN] (cat [.i .i64 x.Kind] (cat [.i .i64 x.Tx] [.i .i64 x.PrevTx]))) (cat [.i .i64 x.PrevPage] (cat [.i .i64 x.Ref] (cat (Jf x.Change) [.s x.Blob]))) := by unfold J7; simp only [cat, List.append_assoc]
  rw [e0]; exact J53 (by simp only [cat, List.length_append, List.length_cons, List.length_nil, J0i]) rfl
theorem Je4 (x : Jg) (y : Int) : spl (J7 x) 4 [.i .i64 y] = some (J7 ⟨x.LSN, x.Kind, x.Tx, x.PrevTx, y, x.Ref, x.Change, x.Blob⟩) := by
  have e0 : J7 x = cat (cat [.i .i64 x.LSN] (cat [.i .i64 x.Kind] (cat [.i .i64 x.Tx] [.i .i64 x.PrevTx]))) (cat [.i .i64 x.PrevPage] (cat [.i .i64 x.Ref] (cat (Jf x.Change) [.s x.Blob]))) := by unfold J7; simp only [cat, List.append_assoc]
  have e1 : J7 ⟨x.LSN, x.Kind, x.Tx, x.PrevTx, y, x.Ref, x.Change, x.Blob⟩ = cat (cat [.i .i64 x.LSN] (cat [.i .i64 x.Kind] (cat [.i .i64 x.Tx] [.i .i64 x.PrevTx]))) (cat [.i .i64 y] (cat [.i .i64 x.Ref] (cat (Jf x.Change) [.s x.Blob]))) := by unfold J7; simp only [cat, List.append_assoc]
  rw [e0, e1]; exact J4Y (by simp only [cat, List.length_append, List.length_cons, List.length_nil, J0i]) rfl
theorem JhA (x : Jg) : sub (J7 x) 5 1 = some [.i .i64 x.Ref] := by
  have e0 : J7 x = cat (cat [.i .i64 x.LSN] (cat [.i .i64 x.Kind] (cat [.i .i64 x.Tx] (cat [.i .i64 x.PrevTx] [.i .i64 x.PrevPage])))) (cat [.i .i64 x.Ref] (cat (Jf x.Change) [.s x.Blob])) := by unfold J7; simp only [cat, List.append_assoc]
  rw [e0]; exact J53 (by simp only [cat, List.length_append, List.length_cons, List.length_nil, J0i]) rfl
theorem JhY (x : Jg) (y : Int) : spl (J7 x) 5 [.i .i64 y] = some (J7 ⟨x.LSN, x.Kind, x.Tx, x.PrevTx, x.PrevPage, y, x.Change, x.Blob⟩) := by
  have e0 : J7 x = cat (cat [.i .i64 x.LSN] (cat [.i .i64 x.Kind] (cat [.i .i64 x.Tx] (cat [.i .i64 x.PrevTx] [.i .i64 x.PrevPage])))) (cat [.i .i64 x.Ref] (cat (Jf x.Change) [.s x.Blob])) := by unfold J7; simp only [cat, List.append_assoc]
  have e1 : J7 ⟨x.LSN, x.Kind, x.Tx, x.PrevTx, x.PrevPage, y, x.Change, x.Blob⟩ = cat (cat [.i .i64 x.LSN] (cat [.i .i64 x.Kind] (cat [.i .i64 x.Tx] (cat [.i .i64 x.PrevTx] [.i .i64 x.PrevPage])))) (cat [.i .i64 y] (cat (Jf x.Change) [.s x.Blob])) := by unfold J7; simp only [cat, List.append_assoc]
  rw [e0, e1]; exact J4Y (by simp only [cat, List.length_append, List.length_cons, List.length_nil, J0i]) rfl
theorem J8I (x : Jg) : sub (J7 x) 6 6 = some (Jf x.Change) := by
  have e0 : J7 x = cat (cat [.i .i64 x.LSN] (cat [.i .i64 x.Kind] (cat [.i .i64 x.Tx] (cat [.i .i64 x.PrevTx] (cat [.i .i64 x.PrevPage] [.i .i64 x.Ref]))))) (cat (Jf x.Change) [.s x.Blob]) := by unfold J7; simp only [cat, List.append_assoc]
  rw [e0]; exact J53 (by simp only [cat, List.length_append, List.length_cons, List.length_nil, J0i]) (J0i _)
theorem Jfr (x : Jg) (y : Js) : spl (J7 x) 6 (Jf y) = some (J7 ⟨x.LSN, x.Kind, x.Tx, x.PrevTx, x.PrevPage, x.Ref, y, x.Blob⟩) := by
  have e0 : J7 x = cat (cat [.i .i64 x.LSN] (cat [.i .i64 x.Kind] (cat [.i .i64 x.Tx] (cat [.i .i64 x.PrevTx] (cat [.i .i64 x.PrevPage] [.i .i64 x.Ref]))))) (cat (Jf x.Change) [.s x.Blob]) := by unfold J7; simp only [cat, List.append_assoc]
  have e1 : J7 ⟨x.LSN, x.Kind, x.Tx, x.PrevTx, x.PrevPage, x.Ref, y, x.Blob⟩ = cat (cat [.i .i64 x.LSN] (cat [.i .i64 x.Kind] (cat [.i .i64 x.Tx] (cat [.i .i64 x.PrevTx] (cat [.i .i64 x.PrevPage] [.i .i64 x.Ref]))))) (cat (Jf y) [.s x.Blob]) := by unfold J7; simp only [cat, List.append_assoc]
  rw [e0, e1]; exact J4Y (by simp only [cat, List.length_append, List.length_cons, List.length_nil, J0i]) ((J0i _).trans (J0i _).symm)
theorem Jgg (x : Jg) : sub (J7 x) 12 1 = some [.s x.Blob] := by
  have e0 : J7 x = cat (cat [.i .i64 x.LSN] (cat [.i .i64 x.Kind] (cat [.i .i64 x.Tx] (cat [.i .i64 x.PrevTx] (cat [.i .i64 x.PrevPage] (cat [.i .i64 x.Ref] (Jf x.Change))))))) [.s x.Blob] := by unfold J7; simp only [cat, List.append_assoc]
  rw [e0]; exact J9V (by simp only [cat, List.length_append, List.length_cons, List.length_nil, J0i]) rfl
theorem JgK (x : Jg) (y : List UInt8) : spl (J7 x) 12 [.s y] = some (J7 ⟨x.LSN, x.Kind, x.Tx, x.PrevTx, x.PrevPage, x.Ref, x.Change, y⟩) := by
  have e0 : J7 x = cat (cat [.i .i64 x.LSN] (cat [.i .i64 x.Kind] (cat [.i .i64 x.Tx] (cat [.i .i64 x.PrevTx] (cat [.i .i64 x.PrevPage] (cat [.i .i64 x.Ref] (Jf x.Change))))))) [.s x.Blob] := by unfold J7; simp only [cat, List.append_assoc]
  have e1 : J7 ⟨x.LSN, x.Kind, x.Tx, x.PrevTx, x.PrevPage, x.Ref, x.Change, y⟩ = cat (cat [.i .i64 x.LSN] (cat [.i .i64 x.Kind] (cat [.i .i64 x.Tx] (cat [.i .i64 x.PrevTx] (cat [.i .i64 x.PrevPage] (cat [.i .i64 x.Ref] (Jf x.Change))))))) [.s y] := by unfold J7; simp only [cat, List.append_assoc]
  rw [e0, e1]; exact J9P (by simp only [cat, List.length_append, List.length_cons, List.length_nil, J0i]) rfl
theorem Jna : (default : Jg) = (⟨0, 0, 0, 0, 0, 0, (⟨0, 0, (⟨false, []⟩ : J8), (⟨false, []⟩ : J8)⟩ : Js), []⟩ : Jg) := rfl
theorem JkR (x : Jg) : sub (J7 x) 0 13 = some (J7 x) := J9M (Jax x)
theorem Jli (x y : Jg) : spl (J7 x) 0 (J7 y) = some (J7 y) := J9O ((Jax x).trans (Jax y).symm)
theorem J0z : (∀ x : Jg, (J7 x).length = 13) ∧
  (∀ x : Jg, sub (J7 x) 0 1 = some [.i .i64 x.LSN]) ∧
  (∀ (x : Jg) (y : Int), spl (J7 x) 0 [.i .i64 y] = some (J7 ⟨y, x.Kind, x.Tx, x.PrevTx, x.PrevPage, x.Ref, x.Change, x.Blob⟩)) ∧
  (∀ x : Jg, sub (J7 x) 1 1 = some [.i .i64 x.Kind]) ∧
  (∀ (x : Jg) (y : Int), spl (J7 x) 1 [.i .i64 y] = some (J7 ⟨x.LSN, y, x.Tx, x.PrevTx, x.PrevPage, x.Ref, x.Change, x.Blob⟩)) ∧
  (∀ x : Jg, sub (J7 x) 2 1 = some [.i .i64 x.Tx]) ∧
  (∀ (x : Jg) (y : Int), spl (J7 x) 2 [.i .i64 y] = some (J7 ⟨x.LSN, x.Kind, y, x.PrevTx, x.PrevPage, x.Ref, x.Change, x.Blob⟩)) ∧
  (∀ x : Jg, sub (J7 x) 3 1 = some [.i .i64 x.PrevTx]) ∧
  (∀ (x : Jg) (y : Int), spl (J7 x) 3 [.i .i64 y] = some (J7 ⟨x.LSN, x.Kind, x.Tx, y, x.PrevPage, x.Ref, x.Change, x.Blob⟩)) ∧
  (∀ x : Jg, sub (J7 x) 4 1 = some [.i .i64 x.PrevPage]) ∧
  (∀ (x : Jg) (y : Int), spl (J7 x) 4 [.i .i64 y] = some (J7 ⟨x.LSN, x.Kind, x.Tx, x.PrevTx, y, x.Ref, x.Change, x.Blob⟩)) ∧
  (∀ x : Jg, sub (J7 x) 5 1 = some [.i .i64 x.Ref]) ∧
  (∀ (x : Jg) (y : Int), spl (J7 x) 5 [.i .i64 y] = some (J7 ⟨x.LSN, x.Kind, x.Tx, x.PrevTx, x.PrevPage, y, x.Change, x.Blob⟩)) ∧
  (∀ x : Jg, sub (J7 x) 6 6 = some (Jf x.Change)) ∧
  (∀ (x : Jg) (y : Js), spl (J7 x) 6 (Jf y) = some (J7 ⟨x.LSN, x.Kind, x.Tx, x.PrevTx, x.PrevPage, x.Ref, y, x.Blob⟩)) ∧
  (∀ x : Jg, sub (J7 x) 12 1 = some [.s x.Blob]) ∧
  (∀ (x : Jg) (y : List UInt8), spl (J7 x) 12 [.s y] = some (J7 ⟨x.LSN, x.Kind, x.Tx, x.PrevTx, x.PrevPage, x.Ref, x.Change, y⟩)) ∧
  ((default : Jg) = (⟨0, 0, 0, 0, 0, 0, (⟨0, 0, (⟨false, []⟩ : J8), (⟨false, []⟩ : J8)⟩ : Js), []⟩ : Jg)) ∧
  (∀ x : Jg, sub (J7 x) 0 13 = some (J7 x)) ∧
  (∀ x y : Jg, spl (J7 x) 0 (J7 y) = some (J7 y)) :=
  ⟨@Jax, @JhR, @Ji3, @Jgf, @JgP, @JiS, @JiP, @JeY, @Jfa, @Je0, @Je4, @JhA, @JhY, @J8I, @Jfr, @Jgg, @JgK, Jna, @JkR, @Jli⟩
theorem Jd : (∀ x : Jg, J7 x = (cat [.i .i64 x.LSN] (cat [.i .i64 x.Kind] (cat [.i .i64 x.Tx] (cat [.i .i64 x.PrevTx] (cat [.i .i64 x.PrevPage] (cat [.i .i64 x.Ref] (cat (Jf x.Change) [.s x.Blob])))))))) ∧ (default : Jg) = (⟨0, 0, 0, 0, 0, 0, (⟨0, 0, (⟨false, []⟩ : J8), (⟨false, []⟩ : J8)⟩ : Js), []⟩ : Jg) := ⟨fun _ => rfl, rfl⟩
structure T_pagemenddraw_Codes where
  l_ : List Int
  at_ : Int
  deriving DecidableEq
instance : Inhabited T_pagemenddraw_Codes := ⟨⟨[], 0⟩⟩
def J0 (x : T_pagemenddraw_Codes) : List PV := (cat [.sl 1 (List.map (r_i .u8) x.l_)] [.i .i64 x.at_])
theorem J5B (x : T_pagemenddraw_Codes) : (J0 x).length = 2 := by
  simp only [cat, J0, List.length_append, List.length_cons, List.length_nil]
theorem Jcj (x : T_pagemenddraw_Codes) : sub (J0 x) 0 1 = some [.sl 1 (List.map (r_i .u8) x.l_)] := by unfold J0; exact J8z rfl
theorem Jci (x : T_pagemenddraw_Codes) (y : List Int) : spl (J0 x) 0 [.sl 1 (List.map (r_i .u8) y)] = some (J0 ⟨y, x.at_⟩) := by unfold J0; exact J8E rfl
theorem Jc4 (x : T_pagemenddraw_Codes) : sub (J0 x) 1 1 = some [.i .i64 x.at_] := by
  have e0 : J0 x = cat [.sl 1 (List.map (r_i .u8) x.l_)] [.i .i64 x.at_] := by unfold J0; simp only [cat, List.append_assoc]
  rw [e0]; exact J9V (by simp only [cat, List.length_append, List.length_cons, List.length_nil]) rfl
theorem JbX (x : T_pagemenddraw_Codes) (y : Int) : spl (J0 x) 1 [.i .i64 y] = some (J0 ⟨x.l_, y⟩) := by
  have e0 : J0 x = cat [.sl 1 (List.map (r_i .u8) x.l_)] [.i .i64 x.at_] := by unfold J0; simp only [cat, List.append_assoc]
  have e1 : J0 ⟨x.l_, y⟩ = cat [.sl 1 (List.map (r_i .u8) x.l_)] [.i .i64 y] := by unfold J0; simp only [cat, List.append_assoc]
  rw [e0, e1]; exact J9P (by simp only [cat, List.length_append, List.length_cons, List.length_nil]) rfl
theorem JdV : (default : T_pagemenddraw_Codes) = (⟨[], 0⟩ : T_pagemenddraw_Codes) := rfl
theorem Jdj (x : T_pagemenddraw_Codes) : sub (J0 x) 0 2 = some (J0 x) := J9M (J5B x)
theorem Jdh (x y : T_pagemenddraw_Codes) : spl (J0 x) 0 (J0 y) = some (J0 y) := J9O ((J5B x).trans (J5B y).symm)
theorem Jl : (∀ x : T_pagemenddraw_Codes, (J0 x).length = 2) ∧
  (∀ x : T_pagemenddraw_Codes, sub (J0 x) 0 1 = some [.sl 1 (List.map (r_i .u8) x.l_)]) ∧
  (∀ (x : T_pagemenddraw_Codes) (y : List Int), spl (J0 x) 0 [.sl 1 (List.map (r_i .u8) y)] = some (J0 ⟨y, x.at_⟩)) ∧
  (∀ x : T_pagemenddraw_Codes, sub (J0 x) 1 1 = some [.i .i64 x.at_]) ∧
  (∀ (x : T_pagemenddraw_Codes) (y : Int), spl (J0 x) 1 [.i .i64 y] = some (J0 ⟨x.l_, y⟩)) ∧
  ((default : T_pagemenddraw_Codes) = (⟨[], 0⟩ : T_pagemenddraw_Codes)) ∧
  (∀ x : T_pagemenddraw_Codes, sub (J0 x) 0 2 = some (J0 x)) ∧
  (∀ x y : T_pagemenddraw_Codes, spl (J0 x) 0 (J0 y) = some (J0 y)) :=
  ⟨@J5B, @Jcj, @Jci, @Jc4, @JbX, JdV, @Jdj, @Jdh⟩
theorem Jn : (∀ x : T_pagemenddraw_Codes, J0 x = (cat [.sl 1 (List.map (r_i .u8) x.l_)] [.i .i64 x.at_])) ∧ (default : T_pagemenddraw_Codes) = (⟨[], 0⟩ : T_pagemenddraw_Codes) := ⟨fun _ => rfl, rfl⟩
structure T_page_builder where
  s_ : List UInt8
  deriving DecidableEq
instance : Inhabited T_page_builder := ⟨⟨[]⟩⟩
def J11 (x : T_page_builder) : List PV := [.s x.s_]
theorem JS : (∀ x : T_page_builder, J11 x = [.s x.s_]) ∧ (default : T_page_builder) = (⟨[]⟩ : T_page_builder) := ⟨fun _ => rfl, rfl⟩
theorem J7J : (∀ v : Vector Int 16, (JO (r_i .u32) v).length = 16) ∧ (∀ v : Vector Int 16, sub (JO (r_i .u32) v) 0 16 = some (JO (r_i .u32) v)) ∧ (∀ v y : Vector Int 16, spl (JO (r_i .u32) v) 0 (JO (r_i .u32) y) = some (JO (r_i .u32) y)) :=
  ⟨fun v => J4g (J5j .u32) v, fun v => J9M (J4g (J5j .u32) v), fun v y => J9O ((J4g (J5j .u32) v).trans (J4g (J5j .u32) y).symm)⟩
theorem Jc7 (x y : J8) : J1c [.b, .s] (Jh x) (Jh y) = some (decide (x = y)) := by
  have h := (Jby (Jxc x.Set y.Set) (Jx8 x.Data y.Data))
  have e : decide (x.Set = y.Set ∧ (x.Data = y.Data)) = decide (x = y) := decide_eq_decide.2 (by cases x; cases y; simp only [J8.mk.injEq])
  exact h.trans (congrArg some e)
theorem Jmu (x y : T_api_Page) : J1c [(.i .i64), (.i .i64), .b, .s, .b, .s, .b, .s, .b, .s, .b, .s, .b, .s, .b, .s, .b, .s, .b, .s, .b, .s, .b, .s, .b, .s, .b, .s, .b, .s, .b, .s, .b, .s] (J4 x) (J4 y) = some (decide (x = y)) := by
  have h := (Jby (Jnj .i64 x.ID y.ID) (Jby (Jnj .i64 x.LSN y.LSN) (Jw9 (fun x y => (Jc7 x y)) x.Cells y.Cells)))
  have e : decide (x.ID = y.ID ∧ (x.LSN = y.LSN ∧ (x.Cells = y.Cells))) = decide (x = y) := decide_eq_decide.2 (by cases x; cases y; simp only [T_api_Page.mk.injEq])
  exact h.trans (congrArg some e)
theorem J9F (x y : T_api_Page) : J1c [(.i .i64), (.i .i64), .b, .s, .b, .s, .b, .s, .b, .s, .b, .s, .b, .s, .b, .s, .b, .s, .b, .s, .b, .s, .b, .s, .b, .s, .b, .s, .b, .s, .b, .s, .b, .s] (J4 x) (J4 y) = some (x == y) := Jmu x y
theorem JkA (x y : Js) : J1c [(.i .i64), (.i .i64), .b, .s, .b, .s] (Jf x) (Jf y) = some (decide (x = y)) := by
  have h := (Jby (Jnj .i64 x.Page y.Page) (Jby (Jnj .i64 x.Slot y.Slot) (Jby (Jc7 x.Before y.Before) (Jc7 x.After y.After))))
  have e : decide (x.Page = y.Page ∧ (x.Slot = y.Slot ∧ (x.Before = y.Before ∧ (x.After = y.After)))) = decide (x = y) := decide_eq_decide.2 (by cases x; cases y; simp only [Js.mk.injEq])
  exact h.trans (congrArg some e)
theorem J6L (x y : Js) : J1c [(.i .i64), (.i .i64), .b, .s, .b, .s] (Jf x) (Jf y) = some (x == y) := JkA x y
end Go.Am
end
section
namespace Go.Am
set_option maxRecDepth 8000
set_option maxHeartbeats 4000000
set_option linter.unusedSimpArgs false
set_option linter.unusedVariables false
abbrev J5a : FuncId := 4
abbrev J9Y : FuncId := 19
abbrev J3N : FuncId := 24
abbrev J7k : FuncId := 28
abbrev J71 : FuncId := 29
abbrev J4J : FuncId := 30
abbrev Jc : FuncId := 31
abbrev J5g : FuncId := 32
abbrev J7T : FuncId := 33
abbrev J69 : FuncId := 34
abbrev J4L : FuncId := 35
abbrev J76 : FuncId := 36
abbrev J7d : FuncId := 37
abbrev J5Q : FuncId := 38
abbrev J47 : FuncId := 39
abbrev J8a : FuncId := 40
abbrev J4P : FuncId := 64
abbrev J24 : FuncId := 105
abbrev J2r : FuncId := 108
abbrev J4u : FuncId := 110
abbrev J8X : FuncId := 114
abbrev J5p : FuncId := 118
abbrev J8U : FuncId := 119
abbrev J4M : FuncId := 120
abbrev J7c : FuncId := 121
abbrev J43 : FuncId := 122
abbrev J7Q : FuncId := 123
abbrev J3z : FuncId := 124
abbrev J3w : FuncId := 125
abbrev J5M : FuncId := 126
abbrev J7i : FuncId := 127
abbrev J7s : FuncId := 128
abbrev J8j : FuncId := 129
abbrev J1h : FuncId := 130
abbrev J2C : FuncId := 131
abbrev J6t : FuncId := 132
abbrev J7e : FuncId := 133
abbrev J4i : FuncId := 134
abbrev J1j : FuncId := 135
abbrev J5K : FuncId := 170
abbrev J7b : FuncId := 171
abbrev J6v : FuncId := 178
abbrev J6C : FuncId := 179
abbrev J8W : FuncId := 180
abbrev J0D : FuncId := 181
abbrev J01 : FuncId := 182
abbrev J21 : FuncId := 183
abbrev J6O : FuncId := 184
abbrev J70 : FuncId := 185
abbrev J9T : FuncId := 186
abbrev J6q : FuncId := 187
abbrev J4d : FuncId := 191
abbrev J4f : FuncId := 192
abbrev J60 : FuncId := 193
abbrev J1f : FuncId := 194
abbrev J4I : FuncId := 216
abbrev J0Q : FuncId := 218
abbrev J40 : FuncId := 219
abbrev J90 : FuncId := 220
abbrev JD : FuncId := 224
abbrev J0s : FuncId := 225
abbrev J0I : FuncId := 226
abbrev J1F : FuncId := 227
abbrev J1E : FuncId := 228
abbrev J6E : FuncId := 246
abbrev J37 : FuncId := 247
def JcV : Jr := .seq (.reg false [] [⟨.mv (.t 0), some 12, none⟩,
    ⟨.build (J0 default) [(0, 1, (.t 12))], some 13, none⟩,
    ⟨.box 2 (.t 13), some 14, none⟩,
    ⟨.mv (.t 14), some 4, none⟩])
  (.ret)
def J9Q : Jr := .seq (.reg false [] [⟨.mv (.c (.p .np)), some 4, none⟩])
  (.seq (.seq (.reg false [] [⟨.mv (.t 0), some 5, none⟩,
    ⟨.len false (.t 5), some 6, none⟩,
    ⟨.mv (.t 1), some 7, none⟩,
    ⟨.bin .gtr .plain (.t 6) (.t 7), some 8, none⟩])
  (.keep [0, 1, 8] (.cond (.t 8)
  (.reg false [] [⟨.mv (.t 0), some 9, none⟩,
      ⟨.mv (.t 1), some 10, none⟩,
      ⟨.slice (.sl 1) (.t 9) none (some (.t 10)) none, some 11, none⟩,
      ⟨.mv (.t 11), some 0, none⟩])
  (.skip))))
  (.keep [0] JcV))
def J8H : AFn := ⟨2, 15, J9Q, [.tmp 4], false⟩
def J1L : Jr := .seq (.reg false [] [⟨.mv (.c (.p (.i .i64 0))), some 4, none⟩])
  (.seq (.seq (.reg true [] [⟨.mv (.t 0), some 6, none⟩,
    ⟨.nilchk (.t 6), some 7, none⟩,
    ⟨.faddr 1 (.t 7), some 8, none⟩,
    ⟨.load false 1 (.t 8), some 9, none⟩,
    ⟨.mv (.t 0), some 10, none⟩,
    ⟨.nilchk (.t 10), some 11, none⟩,
    ⟨.faddr 0 (.t 11), some 12, none⟩,
    ⟨.load false 1 (.t 12), some 13, none⟩,
    ⟨.len false (.t 13), some 14, none⟩,
    ⟨.bin .geq .plain (.t 9) (.t 14), some 15, none⟩,
    ⟨.mv (.t 15), some 16, none⟩,
    ⟨.mv (.t 1), some 17, some (16, false)⟩,
    ⟨.bin .lss .plain (.t 17) (.c (.p (.i .i64 1))), some 18, some (16, false)⟩,
    ⟨.pick (.t 16) (.c (.p (.b true))) (.t 18), some 19, none⟩])
  (.keep [0, 1, 19] (.cond (.t 19)
  (.seq (.reg false [] [⟨.mv (.c (.p (.i .i64 0))), some 4, none⟩])
    (.ret))
  (.skip))))
  (.seq (.reg true [] [⟨.mv (.t 0), some 20, none⟩,
    ⟨.nilchk (.t 20), some 21, none⟩,
    ⟨.faddr 0 (.t 21), some 22, none⟩,
    ⟨.load false 1 (.t 22), some 23, none⟩,
    ⟨.mv (.t 0), some 24, none⟩,
    ⟨.nilchk (.t 24), some 25, none⟩,
    ⟨.faddr 1 (.t 25), some 26, none⟩,
    ⟨.load false 1 (.t 26), some 27, none⟩,
    ⟨.iaddr 1 (.t 23) (.t 27), some 28, none⟩,
    ⟨.load false 1 (.t 28), some 29, none⟩,
    ⟨.conv (.int .i64) (.t 29), some 30, none⟩,
    ⟨.mv (.t 30), some 5, none⟩])
  (.keep [0, 1, 5] (.seq (.reg false [] [⟨.mv (.t 0), some 31, none⟩,
    ⟨.nilchk (.t 31), some 32, none⟩,
    ⟨.faddr 1 (.t 32), some 33, none⟩,
    ⟨.load false 1 (.t 33), some 34, none⟩,
    ⟨.bin .add .plain (.t 34) (.c (.p (.i .i64 1))), some 35, none⟩,
    ⟨.nilchk (.t 31), some 36, none⟩,
    ⟨.faddr 1 (.t 36), some 37, none⟩,
    ⟨.store 1 (.t 37) (.t 35), none, none⟩])
  (.keep [0, 1, 5] (.seq (.seq (.reg false [] [⟨.mv (.t 1), some 38, none⟩,
    ⟨.bin .gtr .plain (.t 38) (.c (.p (.i .i64 256))), some 39, none⟩])
  (.cond (.t 39)
  (.seq (.reg false [] [⟨.mv (.t 5), some 40, none⟩,
      ⟨.bin .mul .plain (.c (.p (.i .i64 256))) (.t 40), some 41, none⟩,
      ⟨.mv (.t 0), some 42, none⟩,
      ⟨.call Jc [(.t 42), (.c (.p (.i .i64 256)))] 0, some 43, none⟩,
      ⟨.bin .add .plain (.t 41) (.t 43), some 44, none⟩,
      ⟨.mv (.t 1), some 45, none⟩,
      ⟨.bin .rem .plain (.t 44) (.t 45), some 46, none⟩,
      ⟨.mv (.t 46), some 4, none⟩])
    (.ret))
  (.skip)))
  (.seq (.reg false [] [⟨.mv (.t 5), some 47, none⟩,
    ⟨.mv (.t 1), some 48, none⟩,
    ⟨.bin .rem .plain (.t 47) (.t 48), some 49, none⟩,
    ⟨.mv (.t 49), some 4, none⟩])
  (.ret))))))))
def J4U : AFn := ⟨2, 50, J1L, [.tmp 4], false⟩
def J3D : Jr := .seq (.reg false [] [⟨.newbox (Jj default), some 2, none⟩,
    ⟨.mv (.c (.p (.i .i64 0))), some 3, none⟩])
  (.seq (.seq (.reg false [] [⟨.mv (.t 0), some 4, none⟩,
    ⟨.bin .lss .plain (.t 4) (.c (.p (.i .i64 1))), some 5, none⟩,
    ⟨.mv (.t 5), some 6, none⟩,
    ⟨.mv (.t 0), some 7, some (6, false)⟩,
    ⟨.bin .gtr .plain (.t 7) (.c (.p (.i .i64 64))), some 8, some (6, false)⟩,
    ⟨.pick (.t 6) (.c (.p (.b true))) (.t 8), some 9, none⟩])
  (.keep [0, 2, 9] (.cond (.t 9)
  (.seq (.reg false [] [⟨.build (Jj default) [], some 10, none⟩,
      ⟨.store 1 (.t 2) (.t 10), none, none⟩,
      ⟨.mv (.c (.p (.i .i64 1))), some 3, none⟩])
    (.ret))
  (.skip))))
  (.seq (.reg false [] [⟨.mv (.t 0), some 11, none⟩,
    ⟨.mkslice false 3 24 (Je default) (.t 11) (.t 11), some 12, none⟩,
    ⟨.build (Jj default) [(0, 1, (.t 12))], some 13, none⟩,
    ⟨.store 1 (.t 2) (.t 13), none, none⟩,
    ⟨.mv (.c (.p (.i .i64 0))), some 3, none⟩])
  (.ret)))
def J5O : AFn := ⟨1, 14, J3D, [.cell 2 true 1, .tmp 3], false⟩
def J28 : Jr := .seq (.seq (.reg false [] [⟨.mv (.t 5), some 15, none⟩,
    ⟨.mv (.t 3), some 16, none⟩,
    ⟨.bin .lss .plain (.t 15) (.t 16), some 17, none⟩])
  (.keep [0, 3, 4, 5, 17] (.cond (.t 17)
  (.skip)
  (.exit 0))))
  (.seq (.block 1 (.reg false [] [⟨.mv (.t 4), some 20, none⟩,
    ⟨.mv (.t 0), some 21, none⟩,
    ⟨.call Jc [(.t 21), (.c (.p (.i .i64 3)))] 0, some 22, none⟩,
    ⟨.bin .add .plain (.c (.p (.i .i64 97))) (.t 22), some 23, none⟩,
    ⟨.conv (.int .u8) (.t 23), some 24, none⟩,
    ⟨.lits false 1 1 [(.i .u8 0)] [(0, (.t 24))], some 25, none⟩,
    ⟨.app 1 1 [(.i .u8 0)] (.t 20) (.t 25), some 26, none⟩,
    ⟨.mv (.t 26), some 4, none⟩]))
  (.reg false [] [⟨.mv (.t 5), some 18, none⟩,
    ⟨.bin .add .plain (.t 18) (.c (.p (.i .i64 1))), some 19, none⟩,
    ⟨.mv (.t 19), some 5, none⟩]))
def J2X : Jr := .seq (.reg false [] [⟨.mv (.t 4), some 27, none⟩,
    ⟨.conv .toStr (.t 27), some 28, none⟩,
    ⟨.mv (.t 28), some 2, none⟩])
  (.ret)
def J9d : Jr := .seq (.reg false [] [⟨.mv (.t 3), some 13, none⟩,
    ⟨.mkslice true 1 1 [(.i .u8 0)] (.c (.p (.i .i64 0))) (.t 13), some 14, none⟩,
    ⟨.mv (.t 14), some 4, none⟩])
  (.keep [0, 3, 4] (.seq (.seq (.reg false [] [⟨.mv (.c (.p (.i .i64 0))), some 5, none⟩])
  (.block 0 (.loop [0, 3, 4, 5] J28)))
  (.keep [4] J2X)))
def J3A : Jr := .seq (.reg false [] [⟨.mv (.c (.p (.s []))), some 2, none⟩])
  (.seq (.reg false [] [⟨.mv (.t 0), some 6, none⟩,
    ⟨.call Jc [(.t 6), (.c (.p (.i .i64 5)))] 0, some 7, none⟩,
    ⟨.mv (.t 7), some 3, none⟩])
  (.keep [0, 3] (.seq (.seq (.reg false [] [⟨.mv (.t 0), some 8, none⟩,
    ⟨.call Jc [(.t 8), (.c (.p (.i .i64 6)))] 0, some 9, none⟩,
    ⟨.bin .eql .plain (.t 9) (.c (.p (.i .i64 0))), some 10, none⟩])
  (.keep [0, 3, 10] (.cond (.t 10)
  (.reg false [] [⟨.mv (.t 0), some 11, none⟩,
      ⟨.call Jc [(.t 11), (.c (.p (.i .i64 14)))] 0, some 12, none⟩,
      ⟨.mv (.t 12), some 3, none⟩])
  (.skip))))
  (.keep [0, 3] J9d))))
def J15 : AFn := ⟨1, 29, J3A, [.tmp 2], false⟩
def J2B : Jr := .seq (.reg false [] [⟨.mv (.c (.p (.i .i64 0))), some 2, none⟩])
  (.seq (.seq (.reg false [] [⟨.mv (.t 0), some 3, none⟩,
    ⟨.call Jc [(.t 3), (.c (.p (.i .i64 10)))] 0, some 4, none⟩])
  (.block 0 (.seq (.reg false [] [⟨.bin .eql .plain (.t 4) (.c (.p (.i .i64 0))), some 6, none⟩,
    ⟨.mv (.t 6), some 5, none⟩])
  (.cond (.t 5)
  (.seq (.reg false [] [⟨.mv (.t 0), some 7, none⟩,
      ⟨.call Jc [(.t 7), (.c (.p (.i .i64 3)))] 0, some 8, none⟩,
      ⟨.bin .sub .plain (.c (.p (.i .i64 (-1)))) (.t 8), some 9, none⟩,
      ⟨.mv (.t 9), some 2, none⟩])
    (.ret))
  (.seq (.reg false [] [⟨.bin .eql .plain (.t 4) (.c (.p (.i .i64 1))), some 11, none⟩,
      ⟨.mv (.t 11), some 10, none⟩])
    (.cond (.t 10)
    (.seq (.reg false [] [⟨.lits false 1 16 [(.i .i64 0)] [(0, (.c (.p (.i .i64 9223372036854775807)))), (1, (.c (.p (.i .i64 (-9223372036854775808))))), (2, (.c (.p (.i .i64 1099511627776)))), (3, (.c (.p (.i .i64 1099511627777)))), (4, (.c (.p (.i .i64 1073741824)))), (5, (.c (.p (.i .i64 1073741825)))), (6, (.c (.p (.i .i64 64)))), (7, (.c (.p (.i .i64 63)))), (8, (.c (.p (.i .i64 16)))), (9, (.c (.p (.i .i64 15)))), (10, (.c (.p (.i .i64 256)))), (11, (.c (.p (.i .i64 255)))), (12, (.c (.p (.i .i64 4294967296)))), (13, (.c (.p (.i .i64 65536)))), (14, (.c (.p (.i .i64 256)))), (15, (.c (.p (.i .i64 255))))], some 12, none⟩,
        ⟨.mv (.t 0), some 13, none⟩,
        ⟨.call Jc [(.t 13), (.c (.p (.i .i64 16)))] 0, some 14, none⟩,
        ⟨.iaddr 1 (.t 12) (.t 14), some 15, none⟩,
        ⟨.load false 1 (.t 15), some 16, none⟩,
        ⟨.mv (.t 16), some 2, none⟩])
      (.ret))
    (.skip)))))))
  (.seq (.reg false [] [⟨.mv (.t 0), some 17, none⟩,
    ⟨.call Jc [(.t 17), (.c (.p (.i .i64 20)))] 0, some 18, none⟩,
    ⟨.mv (.t 18), some 2, none⟩])
  (.ret)))
def J5s : AFn := ⟨1, 19, J2B, [.tmp 2], false⟩
def J54 : Jr := .seq (.seq (.reg false [] [⟨.mv (.t 7), some 15, none⟩,
    ⟨.mv (.t 2), some 16, none⟩,
    ⟨.bin .lss .plain (.t 15) (.t 16), some 17, none⟩])
  (.keep [0, 1, 2, 7, 17] (.cond (.t 17)
  (.skip)
  (.exit 0))))
  (.seq (.block 1 (.reg false [] [⟨.mv (.t 0), some 20, none⟩,
    ⟨.mv (.t 1), some 21, none⟩,
    ⟨.conv (.int .u64) (.t 21), some 22, none⟩,
    ⟨.mv (.t 7), some 23, none⟩,
    ⟨.bin .mul .plain (.c (.p (.i .i64 8))) (.t 23), some 24, none⟩,
    ⟨.conv (.int .u64) (.t 24), some 25, none⟩,
    ⟨.bin .shr .plain (.t 22) (.t 25), some 26, none⟩,
    ⟨.conv (.int .u8) (.t 26), some 27, none⟩,
    ⟨.lits false 1 1 [(.i .u8 0)] [(0, (.t 27))], some 28, none⟩,
    ⟨.conv .toStr (.t 28), some 29, none⟩,
    ⟨.bin .add .plain (.t 20) (.t 29), some 30, none⟩,
    ⟨.mv (.t 30), some 0, none⟩]))
  (.reg false [] [⟨.mv (.t 7), some 18, none⟩,
    ⟨.bin .add .plain (.t 18) (.c (.p (.i .i64 1))), some 19, none⟩,
    ⟨.mv (.t 19), some 7, none⟩]))
def J6a : Jr := .seq (.reg false [] [⟨.mv (.t 0), some 31, none⟩,
    ⟨.mv (.t 31), some 6, none⟩])
  (.ret)
def J6r : Jr := .seq (.reg false [] [⟨.mv (.c (.p (.s []))), some 6, none⟩])
  (.seq (.seq (.reg false [] [⟨.mv (.t 2), some 8, none⟩,
    ⟨.bin .lss .plain (.t 8) (.c (.p (.i .i64 1))), some 9, none⟩,
    ⟨.mv (.t 9), some 10, none⟩,
    ⟨.mv (.t 2), some 11, some (10, false)⟩,
    ⟨.bin .gtr .plain (.t 11) (.c (.p (.i .i64 8))), some 12, some (10, false)⟩,
    ⟨.pick (.t 10) (.c (.p (.b true))) (.t 12), some 13, none⟩])
  (.keep [0, 1, 2, 13] (.cond (.t 13)
  (.seq (.reg false [] [⟨.mv (.t 0), some 14, none⟩,
      ⟨.mv (.t 14), some 6, none⟩])
    (.ret))
  (.skip))))
  (.seq (.seq (.reg false [] [⟨.mv (.c (.p (.i .i64 0))), some 7, none⟩])
  (.block 0 (.loop [0, 1, 2, 7] J54)))
  (.keep [0] J6a)))
def J3P : AFn := ⟨3, 32, J6r, [.tmp 6], false⟩
def J4W : Jr := .seq (.reg false [] [⟨.bin .lss .plain (.t 35) (.t 34), some 36, none⟩])
  (.seq (.cond (.t 36)
  (.skip)
  (.exit 1))
  (.seq (.block 2 (.seq (.reg false [] [⟨.mv (.t 35), some 37, none⟩,
    ⟨.mv (.t 37), some 9, none⟩])
  (.reg false [] [⟨.mv (.t 8), some 38, none⟩,
    ⟨.mv (.t 0), some 39, none⟩,
    ⟨.mv (.t 1), some 40, none⟩,
    ⟨.mv (.t 9), some 41, none⟩,
    ⟨.bin .add .plain (.t 40) (.t 41), some 42, none⟩,
    ⟨.sidx (.t 39) (.t 42), some 43, none⟩,
    ⟨.conv (.int .u64) (.t 43), some 44, none⟩,
    ⟨.mv (.t 9), some 45, none⟩,
    ⟨.bin .mul .plain (.c (.p (.i .i64 8))) (.t 45), some 46, none⟩,
    ⟨.bin .shl .plain (.t 44) (.t 46), some 47, none⟩,
    ⟨.bin .or .plain (.t 38) (.t 47), some 48, none⟩,
    ⟨.mv (.t 48), some 8, none⟩])))
  (.reg false [] [⟨.bin .add .plain (.t 35) (.c (.p (.i .i64 1))), some 49, none⟩,
    ⟨.mv (.t 49), some 35, none⟩])))
def J5V : Jr := .seq (.reg false [] [⟨.mv (.t 8), some 50, none⟩,
    ⟨.conv (.int .i64) (.t 50), some 51, none⟩,
    ⟨.mv (.t 51), some 6, none⟩,
    ⟨.mv (.c (.p (.i .i64 0))), some 7, none⟩])
  (.ret)
def J2n : Jr := .seq (.reg false [] [⟨.mv (.c (.p (.i .i64 0))), some 6, none⟩,
    ⟨.mv (.c (.p (.i .i64 0))), some 7, none⟩])
  (.seq (.block 0 (.seq (.reg false [] [⟨.mv (.t 2), some 11, none⟩,
    ⟨.bin .lss .plain (.t 11) (.c (.p (.i .i64 1))), some 12, none⟩,
    ⟨.mv (.t 12), some 13, none⟩,
    ⟨.mv (.t 2), some 14, some (13, false)⟩,
    ⟨.bin .gtr .plain (.t 14) (.c (.p (.i .i64 8))), some 15, some (13, false)⟩,
    ⟨.pick (.t 13) (.c (.p (.b true))) (.t 15), some 16, none⟩,
    ⟨.mv (.t 16), some 17, none⟩,
    ⟨.mv (.t 1), some 18, some (17, false)⟩,
    ⟨.bin .lss .plain (.t 18) (.c (.p (.i .i64 0))), some 19, some (17, false)⟩,
    ⟨.pick (.t 17) (.c (.p (.b true))) (.t 19), some 20, none⟩,
    ⟨.mv (.t 20), some 10, none⟩])
  (.keep [0, 1, 2, 10] (.cond (.t 10)
  (.seq (.reg false [] [⟨.mv (.c (.p (.i .i64 0))), some 6, none⟩,
      ⟨.mv (.c (.p (.i .i64 1))), some 7, none⟩])
    (.ret))
  (.seq (.reg false [] [⟨.mv (.t 1), some 22, none⟩,
      ⟨.mv (.t 0), some 23, none⟩,
      ⟨.len true (.t 23), some 24, none⟩,
      ⟨.bin .gtr .plain (.t 22) (.t 24), some 25, none⟩,
      ⟨.mv (.t 25), some 26, none⟩,
      ⟨.mv (.t 0), some 27, some (26, false)⟩,
      ⟨.len true (.t 27), some 28, some (26, false)⟩,
      ⟨.mv (.t 1), some 29, some (26, false)⟩,
      ⟨.bin .sub .plain (.t 28) (.t 29), some 30, some (26, false)⟩,
      ⟨.mv (.t 2), some 31, some (26, false)⟩,
      ⟨.bin .lss .plain (.t 30) (.t 31), some 32, some (26, false)⟩,
      ⟨.pick (.t 26) (.c (.p (.b true))) (.t 32), some 33, none⟩,
      ⟨.mv (.t 33), some 21, none⟩])
    (.keep [0, 1, 2, 21] (.cond (.t 21)
    (.seq (.reg false [] [⟨.mv (.c (.p (.i .i64 0))), some 6, none⟩,
        ⟨.mv (.c (.p (.i .i64 5))), some 7, none⟩])
      (.ret))
    (.skip))))))))
  (.seq (.reg false [] [⟨.mv (.c (.p (.i .u64 0))), some 8, none⟩])
  (.seq (.seq (.reg false [] [⟨.mv (.t 2), some 34, none⟩,
    ⟨.mv (.c (.p (.i .i64 0))), some 35, none⟩])
  (.block 1 (.loop [0, 1, 8, 34, 35] J4W)))
  (.keep [8] J5V))))
def J3V : AFn := ⟨3, 52, J2n, [.tmp 6, .tmp 7], false⟩
def J6w : Jr := .seq (.reg false [] [⟨.newbox (Jj default), some 2, none⟩,
    ⟨.mv (.c (.p (.i .i64 0))), some 3, none⟩])
  (.seq (.seq (.reg false [] [⟨.mv (.t 0), some 4, none⟩,
    ⟨.bin .lss .plain (.t 4) (.c (.p (.i .i64 1))), some 5, none⟩,
    ⟨.mv (.t 5), some 6, none⟩,
    ⟨.mv (.t 0), some 7, some (6, false)⟩,
    ⟨.bin .gtr .plain (.t 7) (.c (.p (.i .i64 64))), some 8, some (6, false)⟩,
    ⟨.pick (.t 6) (.c (.p (.b true))) (.t 8), some 9, none⟩])
  (.keep [0, 2, 9] (.cond (.t 9)
  (.seq (.reg false [] [⟨.build (Jj default) [], some 10, none⟩,
      ⟨.store 1 (.t 2) (.t 10), none, none⟩,
      ⟨.mv (.c (.p (.i .i64 1))), some 3, none⟩])
    (.ret))
  (.skip))))
  (.seq (.reg false [] [⟨.mv (.t 0), some 11, none⟩,
    ⟨.mkslice true 3 24 (Je default) (.t 11) (.t 11), some 12, none⟩,
    ⟨.build (Jj default) [(0, 1, (.t 12))], some 13, none⟩,
    ⟨.store 1 (.t 2) (.t 13), none, none⟩,
    ⟨.mv (.c (.p (.i .i64 0))), some 3, none⟩])
  (.ret)))
def J99 : AFn := ⟨1, 14, J6w, [.cell 2 true 1, .tmp 3], true⟩
def J3s : Jr := .seq (.reg false [] [⟨.newbox (Jh default), some 2, none⟩])
  (.seq (.seq (.reg false [] [⟨.mv (.t 0), some 4, none⟩,
    ⟨.call Jc [(.t 4), (.c (.p (.i .i64 3)))] 0, some 5, none⟩,
    ⟨.bin .eql .plain (.t 5) (.c (.p (.i .i64 0))), some 6, none⟩])
  (.keep [0, 2, 6] (.cond (.t 6)
  (.seq (.reg false [] [⟨.build (Jh default) [], some 7, none⟩,
      ⟨.store 2 (.t 2) (.t 7), none, none⟩])
    (.ret))
  (.skip))))
  (.seq (.reg false [] [⟨.mv (.t 0), some 8, none⟩,
    ⟨.call J4P [(.t 8)] 0, some 9, none⟩,
    ⟨.mv (.t 9), some 3, none⟩])
  (.keep [2, 3] (.seq (.reg false [] [⟨.mv (.t 3), some 10, none⟩,
    ⟨.mv (.t 3), some 11, none⟩,
    ⟨.len true (.t 11), some 12, none⟩,
    ⟨.mm false (.t 12) (.c (.p (.i .i64 12))), some 13, none⟩,
    ⟨.slice .str (.t 10) none (some (.t 13)) none, some 14, none⟩,
    ⟨.build (Jh default) [(0, 1, (.c (.p (.b true)))), (1, 1, (.t 14))], some 15, none⟩,
    ⟨.store 2 (.t 2) (.t 15), none, none⟩])
  (.ret)))))
def J4T : AFn := ⟨1, 16, J3s, [.cell 2 true 2], false⟩
def J8L : Jr := .seq (.reg false [] [⟨.mv (.c (.p (.s []))), some 2, none⟩])
  (.seq (.reg false [] [⟨.mv (.t 0), some 3, none⟩,
    ⟨.mkslice false 1 1 [(.i .u8 0)] (.t 3) (.t 3), some 4, none⟩,
    ⟨.conv .toStr (.t 4), some 5, none⟩,
    ⟨.mv (.t 5), some 2, none⟩])
  (.ret))
def J74 : AFn := ⟨1, 6, J8L, [.tmp 2], false⟩
def Jc3 : Jr := .reg false [] [⟨.mv (.t 5), some 20, none⟩,
    ⟨.bin .add .plain (.t 20) (.c (.p (.i .i64 1))), some 21, none⟩,
    ⟨.mv (.t 21), some 5, none⟩]
def J2G : Jr := .seq (.seq (.reg false [] [⟨.mv (.t 5), some 18, none⟩,
    ⟨.bin .lss .plain (.t 18) (.c (.p (.i .i64 8))), some 19, none⟩])
  (.cond (.t 19)
  (.skip)
  (.exit 2)))
  (.seq (.block 3 (.seq (.reg false [] [⟨.mv (.t 3), some 22, none⟩,
    ⟨.bin .and .plain (.t 22) (.c (.p (.i .u32 1))), some 23, none⟩,
    ⟨.bin .eql .plain (.t 23) (.c (.p (.i .u32 1))), some 24, none⟩])
  (.keep [0, 3, 4, 5, 24] (.cond (.t 24)
  (.reg false [] [⟨.mv (.t 3), some 25, none⟩,
      ⟨.bin .shr .plain (.t 25) (.c (.p (.i .u64 1))), some 26, none⟩,
      ⟨.bin .xor .plain (.t 26) (.c (.p (.i .u32 2197175160))), some 27, none⟩,
      ⟨.mv (.t 27), some 3, none⟩])
  (.reg false [] [⟨.mv (.t 3), some 28, none⟩,
      ⟨.bin .shr .plain (.t 28) (.c (.p (.i .u64 1))), some 29, none⟩,
      ⟨.mv (.t 29), some 3, none⟩])))))
  (.keep [0, 3, 4, 5] Jc3))
def J4Z : Jr := .reg false [] [⟨.mv (.t 4), some 10, none⟩,
    ⟨.bin .add .plain (.t 10) (.c (.p (.i .i64 1))), some 11, none⟩,
    ⟨.mv (.t 11), some 4, none⟩]
def J1D : Jr := .seq (.seq (.reg false [] [⟨.mv (.t 4), some 6, none⟩,
    ⟨.mv (.t 0), some 7, none⟩,
    ⟨.len true (.t 7), some 8, none⟩,
    ⟨.bin .lss .plain (.t 6) (.t 8), some 9, none⟩])
  (.keep [0, 3, 4, 9] (.cond (.t 9)
  (.skip)
  (.exit 0))))
  (.seq (.block 1 (.seq (.reg false [] [⟨.mv (.t 3), some 12, none⟩,
    ⟨.mv (.t 0), some 13, none⟩,
    ⟨.mv (.t 4), some 14, none⟩,
    ⟨.sidx (.t 13) (.t 14), some 15, none⟩,
    ⟨.conv (.int .u32) (.t 15), some 16, none⟩,
    ⟨.bin .xor .plain (.t 12) (.t 16), some 17, none⟩,
    ⟨.mv (.t 17), some 3, none⟩])
  (.keep [0, 3, 4] (.seq (.reg false [] [⟨.mv (.c (.p (.i .i64 0))), some 5, none⟩])
  (.block 2 (.loop [0, 3, 4, 5] J2G))))))
  (.keep [0, 3, 4] J4Z))
def J1R : Jr := .seq (.reg false [] [⟨.mv (.t 3), some 30, none⟩,
    ⟨.un .xor (.t 30), some 31, none⟩,
    ⟨.mv (.t 31), some 2, none⟩])
  (.ret)
def Jae : Jr := .seq (.reg false [] [⟨.mv (.c (.p (.i .u32 0))), some 2, none⟩])
  (.seq (.reg false [] [⟨.mv (.c (.p (.i .u32 4294967295))), some 3, none⟩])
  (.seq (.seq (.reg false [] [⟨.mv (.c (.p (.i .i64 0))), some 4, none⟩])
  (.block 0 (.loop [0, 3, 4] J1D)))
  (.keep [3] J1R)))
def J1w : AFn := ⟨1, 32, Jae, [.tmp 2], false⟩
def J4N : Jr := .seq (.reg false [] [⟨.box 1 (.t 0), some 2, none⟩,
    ⟨.mv (.c (.p (.b false))), some 4, none⟩])
  (.seq (.reg false [] [⟨.mv (.t 1), some 5, none⟩,
    ⟨.bin .geq .plain (.t 5) (.c (.p (.i .i64 0))), some 6, none⟩,
    ⟨.mv (.t 6), some 7, none⟩,
    ⟨.mv (.t 1), some 8, some (7, true)⟩,
    ⟨.faddr 0 (.t 2), some 9, some (7, true)⟩,
    ⟨.load false 1 (.t 9), some 10, some (7, true)⟩,
    ⟨.len false (.t 10), some 11, some (7, true)⟩,
    ⟨.bin .lss .plain (.t 8) (.t 11), some 12, some (7, true)⟩,
    ⟨.pick (.t 7) (.t 12) (.c (.p (.b false))), some 13, none⟩,
    ⟨.mv (.t 13), some 4, none⟩])
  (.ret))
def J4Q : AFn := ⟨2, 14, J4N, [.tmp 4], false⟩
def J0S : Jr := .seq (.reg false [] [⟨.bin .lss .plain (.t 7) (.c (.p (.i .i64 16))), some 8, none⟩])
  (.seq (.cond (.t 8)
  (.skip)
  (.exit 0))
  (.seq (.block 1 (.seq (.reg false [] [⟨.aidx true 16 2 (.t 6) (.t 7), some 9, none⟩,
    ⟨.newbox (Jh default), some 4, none⟩,
    ⟨.store 2 (.t 4) (.t 9), none, none⟩])
  (.keep [1, 4, 6, 7] (.seq (.reg false [] [⟨.faddr 1 (.t 4), some 10, none⟩,
    ⟨.load false 1 (.t 10), some 11, none⟩,
    ⟨.len true (.t 11), some 12, none⟩,
    ⟨.bin .gtr .plain (.t 12) (.c (.p (.i .i64 12))), some 13, none⟩,
    ⟨.mv (.t 13), some 14, none⟩,
    ⟨.faddr 0 (.t 4), some 15, some (14, false)⟩,
    ⟨.load false 1 (.t 15), some 16, some (14, false)⟩,
    ⟨.un .not (.t 16), some 17, some (14, false)⟩,
    ⟨.mv (.t 17), some 18, some (14, false)⟩,
    ⟨.faddr 1 (.t 4), some 19, some (18, true)⟩,
    ⟨.load false 1 (.t 19), some 20, some (18, true)⟩,
    ⟨.bin .neq .plain (.t 20) (.c (.p (.s []))), some 21, some (18, true)⟩,
    ⟨.pick (.t 18) (.t 21) (.c (.p (.b false))), some 22, some (14, false)⟩,
    ⟨.pick (.t 14) (.c (.p (.b true))) (.t 22), some 23, none⟩,
    ⟨.mv (.t 23), some 24, none⟩,
    ⟨.faddr 0 (.t 4), some 25, some (24, false)⟩,
    ⟨.load false 1 (.t 25), some 26, some (24, false)⟩,
    ⟨.mv (.t 26), some 27, some (24, false)⟩,
    ⟨.faddr 1 (.t 1), some 28, some (27, true)⟩,
    ⟨.load false 1 (.t 28), some 29, some (27, true)⟩,
    ⟨.bin .eql .plain (.t 29) (.c (.p (.i .i64 0))), some 30, some (27, true)⟩,
    ⟨.pick (.t 27) (.t 30) (.c (.p (.b false))), some 31, some (24, false)⟩,
    ⟨.pick (.t 24) (.c (.p (.b true))) (.t 31), some 32, none⟩])
  (.keep [1, 6, 7, 32] (.cond (.t 32)
  (.seq (.reg false [] [⟨.mv (.c (.p (.b false))), some 2, none⟩])
    (.ret))
  (.skip)))))))
  (.reg false [] [⟨.bin .add .plain (.t 7) (.c (.p (.i .i64 1))), some 33, none⟩,
    ⟨.mv (.t 33), some 7, none⟩])))
def J5m : Jr := .seq (.reg false [] [⟨.mv (.c (.p (.b true))), some 2, none⟩])
  (.ret)
def J9w : Jr := .seq (.reg false [] [⟨.box 34 (.t 0), some 1, none⟩,
    ⟨.mv (.c (.p (.b false))), some 2, none⟩])
  (.seq (.tidy [2] (.seq (.reg false [] [⟨.faddr 2 (.t 1), some 5, none⟩,
    ⟨.load true 32 (.t 5), some 6, none⟩,
    ⟨.mv (.c (.p (.i .i64 0))), some 7, none⟩])
  (.keep [1, 6, 7] (.block 0 (.loop [1, 6, 7] J0S)))))
  (.keep [] J5m))
def J3b : AFn := ⟨1, 34, J9w, [.tmp 2], false⟩
def J2m : Jr := .seq (.reg false [] [⟨.box 34 (.t 0), some 1, none⟩,
    ⟨.mv (.c (.p (.b false))), some 2, none⟩])
  (.seq (.reg false [] [⟨.faddr 0 (.t 1), some 3, none⟩,
    ⟨.load false 1 (.t 3), some 4, none⟩,
    ⟨.bin .geq .plain (.t 4) (.c (.p (.i .i64 0))), some 5, none⟩,
    ⟨.mv (.t 5), some 6, none⟩,
    ⟨.faddr 0 (.t 1), some 7, some (6, true)⟩,
    ⟨.load false 1 (.t 7), some 8, some (6, true)⟩,
    ⟨.bin .lss .plain (.t 8) (.c (.p (.i .i64 64))), some 9, some (6, true)⟩,
    ⟨.pick (.t 6) (.t 9) (.c (.p (.b false))), some 10, none⟩,
    ⟨.mv (.t 10), some 11, none⟩,
    ⟨.faddr 1 (.t 1), some 12, some (11, true)⟩,
    ⟨.load false 1 (.t 12), some 13, some (11, true)⟩,
    ⟨.bin .geq .plain (.t 13) (.c (.p (.i .i64 0))), some 14, some (11, true)⟩,
    ⟨.pick (.t 11) (.t 14) (.c (.p (.b false))), some 15, none⟩,
    ⟨.mv (.t 15), some 16, none⟩,
    ⟨.faddr 1 (.t 1), some 17, some (16, true)⟩,
    ⟨.load false 1 (.t 17), some 18, some (16, true)⟩,
    ⟨.bin .leq .plain (.t 18) (.c (.p (.i .i64 1099511627776))), some 19, some (16, true)⟩,
    ⟨.pick (.t 16) (.t 19) (.c (.p (.b false))), some 20, none⟩,
    ⟨.mv (.t 20), some 2, none⟩])
  (.ret))
def J5N : AFn := ⟨1, 21, J2m, [.tmp 2], false⟩
def J52 : Jr := .seq (.seq (.reg false [] [⟨.mv (.t 9), some 32, none⟩,
    ⟨.mv (.t 2), some 33, none⟩,
    ⟨.bin .lss .plain (.t 32) (.t 33), some 34, none⟩])
  (.keep [0, 1, 2, 8, 9, 34] (.cond (.t 34)
  (.skip)
  (.exit 0))))
  (.seq (.block 1 (.reg false [] [⟨.mv (.t 8), some 37, none⟩,
    ⟨.mv (.t 0), some 38, none⟩,
    ⟨.mv (.t 1), some 39, none⟩,
    ⟨.mv (.t 9), some 40, none⟩,
    ⟨.bin .add .plain (.t 39) (.t 40), some 41, none⟩,
    ⟨.sidx (.t 38) (.t 41), some 42, none⟩,
    ⟨.conv (.int .u64) (.t 42), some 43, none⟩,
    ⟨.mv (.t 9), some 44, none⟩,
    ⟨.bin .mul .plain (.c (.p (.i .i64 8))) (.t 44), some 45, none⟩,
    ⟨.conv (.int .u64) (.t 45), some 46, none⟩,
    ⟨.bin .shl .plain (.t 43) (.t 46), some 47, none⟩,
    ⟨.bin .or .plain (.t 37) (.t 47), some 48, none⟩,
    ⟨.mv (.t 48), some 8, none⟩]))
  (.reg false [] [⟨.mv (.t 9), some 35, none⟩,
    ⟨.bin .add .plain (.t 35) (.c (.p (.i .i64 1))), some 36, none⟩,
    ⟨.mv (.t 36), some 9, none⟩]))
def J5X : Jr := .seq (.reg false [] [⟨.mv (.t 8), some 49, none⟩,
    ⟨.conv (.int .i64) (.t 49), some 50, none⟩,
    ⟨.mv (.t 50), some 6, none⟩,
    ⟨.mv (.c (.p (.i .i64 0))), some 7, none⟩])
  (.ret)
def J2p : Jr := .seq (.reg false [] [⟨.mv (.c (.p (.i .i64 0))), some 6, none⟩,
    ⟨.mv (.c (.p (.i .i64 0))), some 7, none⟩])
  (.seq (.seq (.reg false [] [⟨.mv (.t 2), some 10, none⟩,
    ⟨.bin .lss .plain (.t 10) (.c (.p (.i .i64 1))), some 11, none⟩,
    ⟨.mv (.t 11), some 12, none⟩,
    ⟨.mv (.t 2), some 13, some (12, false)⟩,
    ⟨.bin .gtr .plain (.t 13) (.c (.p (.i .i64 8))), some 14, some (12, false)⟩,
    ⟨.pick (.t 12) (.c (.p (.b true))) (.t 14), some 15, none⟩,
    ⟨.mv (.t 15), some 16, none⟩,
    ⟨.mv (.t 1), some 17, some (16, false)⟩,
    ⟨.bin .lss .plain (.t 17) (.c (.p (.i .i64 0))), some 18, some (16, false)⟩,
    ⟨.pick (.t 16) (.c (.p (.b true))) (.t 18), some 19, none⟩])
  (.keep [0, 1, 2, 19] (.cond (.t 19)
  (.seq (.reg false [] [⟨.mv (.c (.p (.i .i64 0))), some 6, none⟩,
      ⟨.mv (.c (.p (.i .i64 1))), some 7, none⟩])
    (.ret))
  (.skip))))
  (.seq (.seq (.reg false [] [⟨.mv (.t 1), some 20, none⟩,
    ⟨.mv (.t 0), some 21, none⟩,
    ⟨.len true (.t 21), some 22, none⟩,
    ⟨.bin .gtr .plain (.t 20) (.t 22), some 23, none⟩,
    ⟨.mv (.t 23), some 24, none⟩,
    ⟨.mv (.t 0), some 25, some (24, false)⟩,
    ⟨.len true (.t 25), some 26, some (24, false)⟩,
    ⟨.mv (.t 1), some 27, some (24, false)⟩,
    ⟨.bin .sub .plain (.t 26) (.t 27), some 28, some (24, false)⟩,
    ⟨.mv (.t 2), some 29, some (24, false)⟩,
    ⟨.bin .lss .plain (.t 28) (.t 29), some 30, some (24, false)⟩,
    ⟨.pick (.t 24) (.c (.p (.b true))) (.t 30), some 31, none⟩])
  (.keep [0, 1, 2, 31] (.cond (.t 31)
  (.seq (.reg false [] [⟨.mv (.c (.p (.i .i64 0))), some 6, none⟩,
      ⟨.mv (.c (.p (.i .i64 5))), some 7, none⟩])
    (.ret))
  (.skip))))
  (.seq (.reg false [] [⟨.mv (.c (.p (.i .u64 0))), some 8, none⟩])
  (.seq (.seq (.reg false [] [⟨.mv (.c (.p (.i .i64 0))), some 9, none⟩])
  (.block 0 (.loop [0, 1, 2, 8, 9] J52)))
  (.keep [8] J5X)))))
def J3R : AFn := ⟨3, 51, J2p, [.tmp 6, .tmp 7], false⟩
def Jag : Jr := .seq (.reg false [] [⟨.newbox (J4 default), some 2, none⟩])
  (.seq (.reg false [] [⟨.mv (.t 0), some 3, none⟩,
    ⟨.build (J4 default) [(0, 1, (.t 3))], some 4, none⟩,
    ⟨.store 34 (.t 2) (.t 4), none, none⟩])
  (.ret))
def J98 : AFn := ⟨1, 5, Jag, [.cell 2 true 34], false⟩
def J3n : Jr := .seq (.reg false [] [⟨.mv (.c (.p (.b false))), some 2, none⟩])
  (.seq (.reg false [] [⟨.mv (.t 0), some 3, none⟩,
    ⟨.bin .geq .plain (.t 3) (.c (.p (.i .i64 0))), some 4, none⟩,
    ⟨.mv (.t 4), some 5, none⟩,
    ⟨.mv (.t 0), some 6, some (5, true)⟩,
    ⟨.bin .leq .plain (.t 6) (.c (.p (.i .i64 1099511627776))), some 7, some (5, true)⟩,
    ⟨.pick (.t 5) (.t 7) (.c (.p (.b false))), some 8, none⟩,
    ⟨.mv (.t 8), some 2, none⟩])
  (.ret))
def J3o : AFn := ⟨1, 9, J3n, [.tmp 2], false⟩
def J8g : Jr := .seq (.reg false [] [⟨.mv (.c (.p (.b false))), some 2, none⟩])
  (.seq (.reg false [] [⟨.mv (.t 0), some 3, none⟩,
    ⟨.bin .geq .plain (.t 3) (.c (.p (.i .i64 0))), some 4, none⟩,
    ⟨.mv (.t 4), some 5, none⟩,
    ⟨.mv (.t 0), some 6, some (5, true)⟩,
    ⟨.bin .lss .plain (.t 6) (.c (.p (.i .i64 64))), some 7, some (5, true)⟩,
    ⟨.pick (.t 5) (.t 7) (.c (.p (.b false))), some 8, none⟩,
    ⟨.mv (.t 8), some 2, none⟩])
  (.ret))
def J8b : AFn := ⟨1, 9, J8g, [.tmp 2], false⟩
def Jb0 : Jr := .seq (.reg false [] [⟨.newbox (J4 default), some 2, none⟩])
  (.seq (.reg false [] [⟨.mv (.t 0), some 3, none⟩,
    ⟨.build (J4 default) [(0, 1, (.t 3))], some 4, none⟩,
    ⟨.store 34 (.t 2) (.t 4), none, none⟩])
  (.ret))
def J9X : AFn := ⟨1, 5, Jb0, [.cell 2 true 34], false⟩
def J8Z : Jr := .seq (.reg false [] [⟨.mv (.c (.p (.b false))), some 2, none⟩])
  (.seq (.reg false [] [⟨.mv (.t 0), some 3, none⟩,
    ⟨.bin .geq .plain (.t 3) (.c (.p (.i .i64 0))), some 4, none⟩,
    ⟨.mv (.t 4), some 5, none⟩,
    ⟨.mv (.t 0), some 6, some (5, true)⟩,
    ⟨.bin .leq .plain (.t 6) (.c (.p (.i .i64 1099511627776))), some 7, some (5, true)⟩,
    ⟨.pick (.t 5) (.t 7) (.c (.p (.b false))), some 8, none⟩,
    ⟨.mv (.t 8), some 2, none⟩])
  (.ret))
def J8V : AFn := ⟨1, 9, J8Z, [.tmp 2], false⟩
def J17 : Jr := .seq (.reg false [] [⟨.bin .lss .plain (.t 9) (.c (.p (.i .i64 4))), some 10, none⟩])
  (.seq (.cond (.t 10)
  (.skip)
  (.exit 2))
  (.seq (.block 3 (.seq (.reg false [] [⟨.mv (.t 3), some 11, none⟩,
    ⟨.bin .and .plain (.t 11) (.c (.p (.i .u32 1))), some 12, none⟩,
    ⟨.bin .eql .plain (.t 12) (.c (.p (.i .u32 1))), some 13, none⟩])
  (.keep [0, 1, 2, 3, 4, 9, 13] (.cond (.t 13)
  (.reg false [] [⟨.mv (.t 3), some 14, none⟩,
      ⟨.bin .shr .plain (.t 14) (.c (.p (.i .u64 1))), some 15, none⟩,
      ⟨.bin .xor .plain (.t 15) (.c (.p (.i .u32 2197175160))), some 16, none⟩,
      ⟨.mv (.t 16), some 3, none⟩])
  (.reg false [] [⟨.mv (.t 3), some 17, none⟩,
      ⟨.bin .shr .plain (.t 17) (.c (.p (.i .u64 1))), some 18, none⟩,
      ⟨.mv (.t 18), some 3, none⟩])))))
  (.reg false [] [⟨.bin .add .plain (.t 9) (.c (.p (.i .i64 1))), some 19, none⟩,
    ⟨.mv (.t 19), some 9, none⟩])))
def J2w : Jr := .reg false [] [⟨.mv (.t 2), some 20, none⟩,
    ⟨.mv (.t 3), some 21, none⟩,
    ⟨.aaddr 16 1 (.t 1) (.t 20), some 22, none⟩,
    ⟨.store 1 (.t 22) (.t 21), none, none⟩]
def J1W : Jr := .reg false [] [⟨.bin .add .plain (.t 4) (.c (.p (.i .i64 1))), some 23, none⟩,
    ⟨.mv (.t 23), some 4, none⟩]
def J0p : Jr := .seq (.reg false [] [⟨.bin .lss .plain (.t 4) (.c (.p (.i .i64 16))), some 5, none⟩])
  (.seq (.cond (.t 5)
  (.skip)
  (.exit 0))
  (.seq (.block 1 (.seq (.reg false [] [⟨.mv (.t 4), some 6, none⟩,
    ⟨.mv (.t 6), some 2, none⟩])
  (.seq (.reg false [] [⟨.mv (.t 2), some 7, none⟩,
    ⟨.conv (.int .u32) (.t 7), some 8, none⟩,
    ⟨.mv (.t 8), some 3, none⟩])
  (.keep [0, 1, 2, 3, 4] (.seq (.seq (.reg false [] [⟨.mv (.c (.p (.i .i64 0))), some 9, none⟩])
  (.block 2 (.loop [0, 1, 2, 3, 4, 9] J17)))
  (.keep [0, 1, 2, 3, 4] J2w))))))
  (.keep [0, 1, 4] J1W)))
def J0x : Jr := .seq (.reg false [] [⟨.load true 16 (.t 1), some 24, none⟩,
    ⟨.store 16 (.t 0) (.t 24), none, none⟩])
  (.ret)
def J5D : Jr := .seq (.reg false [] [⟨.newbox (JO (r_i .u32) (Vector.replicate 16 (0 : Int))), some 0, none⟩])
  (.seq (.reg false [] [⟨.newbox (JO (r_i .u32) (Vector.replicate 16 (0 : Int))), some 1, none⟩])
  (.seq (.seq (.reg false [] [⟨.mv (.c (.p (.i .i64 0))), some 4, none⟩])
  (.block 0 (.loop [0, 1, 4] J0p)))
  (.keep [0, 1] J0x)))
def J0g : AFn := ⟨0, 25, J5D, [.cell 0 true 16], false⟩
def J6J : Jr := .seq (.reg false [] [⟨.box 13 (.t 1), some 3, none⟩,
    ⟨.mv (.c (.p (.b false))), some 4, none⟩])
  (.seq (.reg false [] [⟨.mv (.t 0), some 5, none⟩,
    ⟨.bin .geq .plain (.t 5) (.c (.p (.i .i64 0))), some 6, none⟩,
    ⟨.mv (.t 6), some 7, none⟩,
    ⟨.mv (.t 0), some 8, some (7, true)⟩,
    ⟨.faddr 0 (.t 3), some 9, some (7, true)⟩,
    ⟨.load false 1 (.t 9), some 10, some (7, true)⟩,
    ⟨.bin .lss .plain (.t 8) (.t 10), some 11, some (7, true)⟩,
    ⟨.pick (.t 7) (.t 11) (.c (.p (.b false))), some 12, none⟩,
    ⟨.mv (.t 12), some 4, none⟩])
  (.ret))
def J6H : AFn := ⟨2, 13, J6J, [.tmp 4], false⟩
def J8P : Jr := .seq (.reg false [] [⟨.newbox [.b false, .b false, .b false, .b false, .b false, .nf, .nf, .b false, .b false, .b false, .b false, .b false, .nf, .nf, .b false, .b false, .b false, .b false, .b false, .nf, .nf, .b false, .b false, .b false, .b false, .b false, .nf, .nf, .b false, .b false, .b false, .b false, .b false, .nf, .nf, .b false, .b false, .b false, .b false, .b false, .nf, .nf, .b false, .b false, .b false, .b false, .b false, .nf, .nf, .b false, .b false, .b false, .b false, .b false, .nf, .nf, .b false, .b false, .b false, .b false, .b false, .nf, .nf], some 0, none⟩])
  (.seq (.reg false [] [⟨.mv (.c (.fn JD [] [])), some 1, none⟩])
  (.seq (.reg false [] [⟨.mv (.t 1), some 4, none⟩,
    ⟨.build [.b false, .b false, .b false, .b false, .b false, .nf, .nf] [(0, 1, (.c (.p (.b true)))), (1, 1, (.c (.p (.b true)))), (5, 1, (.t 4)), (6, 1, (.c (.fn J0s [] [])))], some 5, none⟩,
    ⟨.newbox [.b false, .b false, .b false, .b false, .b false, .nf, .nf], some 2, none⟩,
    ⟨.store 7 (.t 2) (.t 5), none, none⟩])
  (.keep [0, 1, 2] (.seq (.reg false [] [⟨.mv (.t 1), some 6, none⟩,
    ⟨.build [.b false, .b false, .b false, .b false, .b false, .nf, .nf] [(4, 1, (.c (.p (.b true)))), (5, 1, (.t 6)), (6, 1, (.c (.fn J0s [] [])))], some 7, none⟩,
    ⟨.newbox [.b false, .b false, .b false, .b false, .b false, .nf, .nf], some 3, none⟩,
    ⟨.store 7 (.t 3) (.t 7), none, none⟩])
  (.keep [0, 1, 2, 3] (.seq (.reg false [] [⟨.mv (.t 1), some 8, none⟩,
    ⟨.build [.b false, .b false, .b false, .b false, .b false, .nf, .nf] [(0, 1, (.c (.p (.b true)))), (2, 1, (.c (.p (.b true)))), (5, 1, (.t 8)), (6, 1, (.c (.fn J0I [] [])))], some 9, none⟩,
    ⟨.build [.b false, .b false, .b false, .b false, .b false, .nf, .nf] [(0, 1, (.c (.p (.b true)))), (1, 1, (.c (.p (.b true)))), (2, 1, (.c (.p (.b true)))), (3, 1, (.c (.p (.b true)))), (5, 1, (.c (.fn J1F [] []))), (6, 1, (.c (.fn J0I [] [])))], some 10, none⟩,
    ⟨.load true 7 (.t 2), some 11, none⟩,
    ⟨.load true 7 (.t 2), some 12, none⟩,
    ⟨.load true 7 (.t 2), some 13, none⟩,
    ⟨.load true 7 (.t 3), some 14, none⟩,
    ⟨.mv (.t 1), some 15, none⟩,
    ⟨.build [.b false, .b false, .b false, .b false, .b false, .nf, .nf] [(3, 1, (.c (.p (.b true)))), (5, 1, (.t 15)), (6, 1, (.c (.fn J1E [] [])))], some 16, none⟩,
    ⟨.load true 7 (.t 3), some 17, none⟩,
    ⟨.build [.b false, .b false, .b false, .b false, .b false, .nf, .nf, .b false, .b false, .b false, .b false, .b false, .nf, .nf, .b false, .b false, .b false, .b false, .b false, .nf, .nf, .b false, .b false, .b false, .b false, .b false, .nf, .nf, .b false, .b false, .b false, .b false, .b false, .nf, .nf, .b false, .b false, .b false, .b false, .b false, .nf, .nf, .b false, .b false, .b false, .b false, .b false, .nf, .nf, .b false, .b false, .b false, .b false, .b false, .nf, .nf, .b false, .b false, .b false, .b false, .b false, .nf, .nf] [(7, 7, (.t 9)), (14, 7, (.t 10)), (21, 7, (.t 11)), (28, 7, (.t 12)), (35, 7, (.t 13)), (42, 7, (.t 14)), (49, 7, (.t 16)), (56, 7, (.t 17))], some 18, none⟩,
    ⟨.store 63 (.t 0) (.t 18), none, none⟩])
  (.ret)))))))
def J7l : AFn := ⟨0, 19, J8P, [.cell 0 true 63], false⟩
def J1X : JaX := ⟨1, 8, .reg false [] [⟨.mkarr 3 (.c (.p (.sl 3 []))), some 2, none⟩], [], .reg false [] [⟨.mv (.t 0), some 3, none⟩,
    ⟨.bin .eql .nils (.t 3) (.c (.p (.sl 3 []))), some 4, none⟩], (.t 4),
  .seq (.reg false [] [⟨.mkarr 3 (.c (.p (.sl 3 []))), some 2, none⟩])
  (.ret),
  .skip,
  .seq (.reg false [] [⟨.lits true 3 0 (Je default) [], some 5, none⟩,
    ⟨.mv (.t 0), some 6, none⟩,
    ⟨.app 3 24 (Je default) (.t 5) (.t 6), some 7, none⟩,
    ⟨.mv (.t 7), some 2, none⟩])
  (.ret), [.tmp 2], true⟩
def J2R : Jr := .seq (.reg false [] [⟨.box 2 (.t 0), some 1, none⟩,
    ⟨.mv (.c (.p (.b false))), some 2, none⟩])
  (.seq (.reg false [] [⟨.faddr 1 (.t 1), some 3, none⟩,
    ⟨.load false 1 (.t 3), some 4, none⟩,
    ⟨.len true (.t 4), some 5, none⟩,
    ⟨.bin .leq .plain (.t 5) (.c (.p (.i .i64 12))), some 6, none⟩,
    ⟨.mv (.t 6), some 7, none⟩,
    ⟨.faddr 0 (.t 1), some 8, some (7, true)⟩,
    ⟨.load false 1 (.t 8), some 9, some (7, true)⟩,
    ⟨.mv (.t 9), some 10, some (7, true)⟩,
    ⟨.faddr 1 (.t 1), some 11, some (10, false)⟩,
    ⟨.load false 1 (.t 11), some 12, some (10, false)⟩,
    ⟨.bin .eql .plain (.t 12) (.c (.p (.s []))), some 13, some (10, false)⟩,
    ⟨.pick (.t 10) (.c (.p (.b true))) (.t 13), some 14, some (7, true)⟩,
    ⟨.pick (.t 7) (.t 14) (.c (.p (.b false))), some 15, none⟩,
    ⟨.mv (.t 15), some 2, none⟩])
  (.ret))
def J4H : AFn := ⟨1, 16, J2R, [.tmp 2], false⟩
def J8T : Jr := .seq (.reg false [] [⟨.mv (.c (.p (.i .i64 0))), some 6, none⟩])
  (.seq (.reg false [] [⟨.mv (.t 0), some 10, none⟩,
    ⟨.mv (.t 1), some 11, none⟩,
    ⟨.mv (.t 2), some 12, none⟩,
    ⟨.call J8X [(.t 10), (.t 11), (.t 12)] 0, some 13, none⟩,
    ⟨.mv (.t 13), some 9, none⟩,
    ⟨.extr (.t 9) 0, some 14, none⟩,
    ⟨.extr (.t 9) 1, some 15, none⟩,
    ⟨.mv (.t 14), some 7, none⟩,
    ⟨.mv (.t 15), some 8, none⟩])
  (.keep [7] (.seq (.reg false [] [⟨.mv (.t 7), some 16, none⟩,
    ⟨.mv (.t 16), some 6, none⟩])
  (.ret))))
def J77 : AFn := ⟨3, 17, J8T, [.tmp 6], false⟩
def J2e : Jr := .seq (.reg false [] [⟨.bin .lss .plain (.t 13) (.c (.p (.i .i64 16))), some 14, none⟩])
  (.seq (.cond (.t 14)
  (.skip)
  (.exit 0))
  (.seq (.block 1 (.seq (.reg false [] [⟨.mv (.t 13), some 15, none⟩,
    ⟨.mv (.t 15), some 5, none⟩])
  (.seq (.reg false [] [⟨.mv (.t 5), some 16, none⟩,
    ⟨.bin .mul .plain (.t 16) (.c (.p (.i .i64 13))), some 17, none⟩,
    ⟨.bin .add .plain (.c (.p (.i .i64 12))) (.t 17), some 18, none⟩,
    ⟨.mv (.t 18), some 6, none⟩])
  (.keep [0, 2, 4, 5, 6, 13] (.seq (.reg false [] [⟨.mv (.t 0), some 19, none⟩,
    ⟨.mv (.t 6), some 20, none⟩,
    ⟨.call J40 [(.t 19), (.t 20), (.c (.p (.i .i64 1)))] 0, some 21, none⟩,
    ⟨.mv (.t 21), some 7, none⟩])
  (.keep [0, 2, 4, 5, 6, 7, 13] (.block 2 (.seq (.reg false [] [⟨.mv (.t 7), some 35, none⟩,
    ⟨.bin .eql .plain (.t 35) (.c (.p (.i .i64 255))), some 36, none⟩,
    ⟨.mv (.t 36), some 34, none⟩])
  (.keep [0, 2, 4, 5, 6, 7, 13, 34] (.cond (.t 34)
  (.skip)
  (.seq (.reg false [] [⟨.mv (.t 7), some 38, none⟩,
      ⟨.bin .gtr .plain (.t 38) (.c (.p (.i .i64 12))), some 39, none⟩,
      ⟨.mv (.t 39), some 37, none⟩])
    (.keep [0, 2, 4, 5, 6, 7, 13, 37] (.cond (.t 37)
    (.seq (.reg false [] [⟨.build (J4 default) [], some 40, none⟩,
        ⟨.store 34 (.t 2) (.t 40), none, none⟩,
        ⟨.mv (.c (.p (.b false))), some 3, none⟩])
      (.ret))
    (.reg false [] [⟨.mv (.t 5), some 22, none⟩,
        ⟨.mv (.t 0), some 23, none⟩,
        ⟨.mv (.t 6), some 24, none⟩,
        ⟨.bin .add .plain (.t 24) (.c (.p (.i .i64 1))), some 25, none⟩,
        ⟨.mv (.t 6), some 26, none⟩,
        ⟨.bin .add .plain (.t 26) (.c (.p (.i .i64 1))), some 27, none⟩,
        ⟨.mv (.t 7), some 28, none⟩,
        ⟨.bin .add .plain (.t 27) (.t 28), some 29, none⟩,
        ⟨.slice .str (.t 23) (some (.t 25)) (some (.t 29)) none, some 30, none⟩,
        ⟨.build (Jh default) [(0, 1, (.c (.p (.b true)))), (1, 1, (.t 30))], some 31, none⟩,
        ⟨.faddr 2 (.t 4), some 32, none⟩,
        ⟨.aaddr 16 2 (.t 32) (.t 22), some 33, none⟩,
        ⟨.store 2 (.t 33) (.t 31), none, none⟩]))))))))))))))
  (.reg false [] [⟨.bin .add .plain (.t 13) (.c (.p (.i .i64 1))), some 41, none⟩,
    ⟨.mv (.t 41), some 13, none⟩])))
def J5U : Jr := .seq (.reg false [] [⟨.load true 34 (.t 4), some 42, none⟩,
    ⟨.store 34 (.t 2) (.t 42), none, none⟩,
    ⟨.mv (.c (.p (.b true))), some 3, none⟩])
  (.ret)
def Jac : Jr := .seq (.reg false [] [⟨.newbox (J4 default), some 2, none⟩,
    ⟨.mv (.c (.p (.b false))), some 3, none⟩])
  (.seq (.reg false [] [⟨.mv (.t 0), some 8, none⟩,
    ⟨.call J40 [(.t 8), (.c (.p (.i .i64 8))), (.c (.p (.i .i64 4)))] 0, some 9, none⟩,
    ⟨.mv (.t 0), some 10, none⟩,
    ⟨.call J40 [(.t 10), (.c (.p (.i .i64 0))), (.c (.p (.i .i64 8)))] 0, some 11, none⟩,
    ⟨.build (J4 default) [(0, 1, (.t 9)), (1, 1, (.t 11))], some 12, none⟩,
    ⟨.newbox (J4 default), some 4, none⟩,
    ⟨.store 34 (.t 4) (.t 12), none, none⟩])
  (.keep [0, 2, 4] (.seq (.seq (.reg false [] [⟨.mv (.c (.p (.i .i64 0))), some 13, none⟩])
  (.block 0 (.loop [0, 2, 4, 13] J2e)))
  (.keep [2, 4] J5U))))
def J3Q : AFn := ⟨1, 43, Jac, [.cell 2 true 34, .tmp 3], false⟩
def J6P : Jr := .seq (.reg false [] [⟨.box 13 (.t 0), some 1, none⟩,
    ⟨.mv (.c (.p (.b false))), some 2, none⟩])
  (.seq (.reg false [] [⟨.mv (.c (.p (.b true))), some 2, none⟩])
  (.ret))
def J5l : AFn := ⟨1, 3, J6P, [.tmp 2], false⟩
def J9v : Jr := .seq (.reg false [] [⟨.box 6 (.t 0), some 1, none⟩,
    ⟨.mv (.c (.p (.b false))), some 2, none⟩])
  (.seq (.reg false [] [⟨.load true 6 (.t 1), some 3, none⟩,
    ⟨.build (Jf default) [], some 4, none⟩,
    ⟨.bin .eql (.flat [(.i .i64), (.i .i64), .b, .s, .b, .s]) (.t 3) (.t 4), some 5, none⟩,
    ⟨.mv (.t 5), some 2, none⟩])
  (.ret))
def J8k : AFn := ⟨1, 6, J9v, [.tmp 2], false⟩
def J5u : Jr := .seq (.reg false [] [⟨.box 13 (.t 0), some 1, none⟩,
    ⟨.mv (.c (.p (.b false))), some 2, none⟩])
  (.seq (.reg false [] [⟨.faddr 5 (.t 1), some 3, none⟩,
    ⟨.load false 1 (.t 3), some 4, none⟩,
    ⟨.bin .geq .plain (.t 4) (.c (.p (.i .i64 1))), some 5, none⟩,
    ⟨.mv (.t 5), some 6, none⟩,
    ⟨.faddr 5 (.t 1), some 7, some (6, true)⟩,
    ⟨.load false 1 (.t 7), some 8, some (6, true)⟩,
    ⟨.faddr 3 (.t 1), some 9, some (6, true)⟩,
    ⟨.load false 1 (.t 9), some 10, some (6, true)⟩,
    ⟨.bin .leq .plain (.t 8) (.t 10), some 11, some (6, true)⟩,
    ⟨.pick (.t 6) (.t 11) (.c (.p (.b false))), some 12, none⟩,
    ⟨.mv (.t 12), some 2, none⟩])
  (.ret))
def J5o : AFn := ⟨1, 13, J5u, [.tmp 2], false⟩
def J2z : Jr := .seq (.reg false [] [⟨.box 6 (.t 0), some 1, none⟩,
    ⟨.mv (.c (.p (.b false))), some 2, none⟩])
  (.seq (.reg false [] [⟨.load true 6 (.t 1), some 3, none⟩,
    ⟨.faddr 0 (.t 1), some 4, none⟩,
    ⟨.load false 1 (.t 4), some 5, none⟩,
    ⟨.build (Jf default) [(0, 1, (.t 5))], some 6, none⟩,
    ⟨.bin .eql (.flat [(.i .i64), (.i .i64), .b, .s, .b, .s]) (.t 3) (.t 6), some 7, none⟩,
    ⟨.mv (.t 7), some 8, none⟩,
    ⟨.faddr 0 (.t 1), some 9, some (8, true)⟩,
    ⟨.load false 1 (.t 9), some 10, some (8, true)⟩,
    ⟨.bin .geq .plain (.t 10) (.c (.p (.i .i64 0))), some 11, some (8, true)⟩,
    ⟨.pick (.t 8) (.t 11) (.c (.p (.b false))), some 12, none⟩,
    ⟨.mv (.t 12), some 13, none⟩,
    ⟨.faddr 0 (.t 1), some 14, some (13, true)⟩,
    ⟨.load false 1 (.t 14), some 15, some (13, true)⟩,
    ⟨.bin .lss .plain (.t 15) (.c (.p (.i .i64 64))), some 16, some (13, true)⟩,
    ⟨.pick (.t 13) (.t 16) (.c (.p (.b false))), some 17, none⟩,
    ⟨.mv (.t 17), some 2, none⟩])
  (.ret))
def J5k : AFn := ⟨1, 18, J2z, [.tmp 2], false⟩
def J6B : Jr := .seq (.reg false [] [⟨.mv (.c (.p (.b false))), some 2, none⟩])
  (.seq (.reg false [] [⟨.mv (.t 0), some 3, none⟩,
    ⟨.bin .geq .plain (.t 3) (.c (.p (.i .i64 0))), some 4, none⟩,
    ⟨.mv (.t 4), some 5, none⟩,
    ⟨.mv (.t 0), some 6, some (5, true)⟩,
    ⟨.bin .lss .plain (.t 6) (.c (.p (.i .i64 64))), some 7, some (5, true)⟩,
    ⟨.pick (.t 5) (.t 7) (.c (.p (.b false))), some 8, none⟩,
    ⟨.mv (.t 8), some 2, none⟩])
  (.ret))
def J6A : AFn := ⟨1, 9, J6B, [.tmp 2], false⟩
def J2s : Jr := .seq (.reg false [] [⟨.box 2 (.t 0), some 1, none⟩,
    ⟨.mv (.c (.p (.b false))), some 2, none⟩])
  (.seq (.reg false [] [⟨.faddr 1 (.t 1), some 3, none⟩,
    ⟨.load false 1 (.t 3), some 4, none⟩,
    ⟨.len true (.t 4), some 5, none⟩,
    ⟨.bin .leq .plain (.t 5) (.c (.p (.i .i64 12))), some 6, none⟩,
    ⟨.mv (.t 6), some 7, none⟩,
    ⟨.faddr 0 (.t 1), some 8, some (7, true)⟩,
    ⟨.load false 1 (.t 8), some 9, some (7, true)⟩,
    ⟨.mv (.t 9), some 10, some (7, true)⟩,
    ⟨.faddr 1 (.t 1), some 11, some (10, false)⟩,
    ⟨.load false 1 (.t 11), some 12, some (10, false)⟩,
    ⟨.bin .eql .plain (.t 12) (.c (.p (.s []))), some 13, some (10, false)⟩,
    ⟨.pick (.t 10) (.c (.p (.b true))) (.t 13), some 14, some (7, true)⟩,
    ⟨.pick (.t 7) (.t 14) (.c (.p (.b false))), some 15, none⟩,
    ⟨.mv (.t 15), some 2, none⟩])
  (.ret))
def J4m : AFn := ⟨1, 16, J2s, [.tmp 2], false⟩
def J1i : Jr := .seq (.reg false [] [⟨.mv (.c (.p (.s []))), some 4, none⟩])
  (.seq (.seq (.reg false [] [⟨.mv (.t 1), some 6, none⟩,
    ⟨.len true (.t 6), some 7, none⟩,
    ⟨.bin .eql .plain (.t 7) (.c (.p (.i .i64 0))), some 8, none⟩])
  (.keep [0, 1, 8] (.cond (.t 8)
  (.seq (.reg false [] [⟨.mv (.t 0), some 9, none⟩,
      ⟨.call Jc [(.t 9), (.c (.p (.i .i64 256)))] 0, some 10, none⟩,
      ⟨.conv (.int .u8) (.t 10), some 11, none⟩,
      ⟨.lits false 1 1 [(.i .u8 0)] [(0, (.t 11))], some 12, none⟩,
      ⟨.conv .toStr (.t 12), some 13, none⟩,
      ⟨.mv (.t 13), some 4, none⟩])
    (.ret))
  (.skip))))
  (.seq (.reg false [] [⟨.mv (.t 0), some 14, none⟩,
    ⟨.mv (.t 1), some 15, none⟩,
    ⟨.len true (.t 15), some 16, none⟩,
    ⟨.call Jc [(.t 14), (.t 16)] 0, some 17, none⟩,
    ⟨.mv (.t 17), some 5, none⟩])
  (.keep [0, 1, 5] (.seq (.seq (.reg false [] [⟨.mv (.t 0), some 18, none⟩,
    ⟨.call Jc [(.t 18), (.c (.p (.i .i64 4)))] 0, some 19, none⟩])
  (.block 0 (.seq (.reg false [] [⟨.bin .eql .plain (.t 19) (.c (.p (.i .i64 0))), some 21, none⟩,
    ⟨.mv (.t 21), some 20, none⟩])
  (.cond (.t 20)
  (.seq (.reg true [] [⟨.mv (.t 1), some 22, none⟩,
      ⟨.mv (.t 5), some 23, none⟩,
      ⟨.slice .str (.t 22) none (some (.t 23)) none, some 24, none⟩,
      ⟨.mv (.t 1), some 25, none⟩,
      ⟨.mv (.t 5), some 26, none⟩,
      ⟨.bin .add .plain (.t 26) (.c (.p (.i .i64 1))), some 27, none⟩,
      ⟨.slice .str (.t 25) (some (.t 27)) none none, some 28, none⟩,
      ⟨.bin .add .plain (.t 24) (.t 28), some 29, none⟩,
      ⟨.mv (.t 29), some 4, none⟩])
    (.ret))
  (.seq (.reg false [] [⟨.bin .eql .plain (.t 19) (.c (.p (.i .i64 1))), some 31, none⟩,
      ⟨.mv (.t 31), some 30, none⟩])
    (.cond (.t 30)
    (.seq (.reg false [] [⟨.mv (.t 1), some 32, none⟩,
        ⟨.mv (.t 0), some 33, none⟩,
        ⟨.call Jc [(.t 33), (.c (.p (.i .i64 256)))] 0, some 34, none⟩,
        ⟨.conv (.int .u8) (.t 34), some 35, none⟩,
        ⟨.lits false 1 1 [(.i .u8 0)] [(0, (.t 35))], some 36, none⟩,
        ⟨.conv .toStr (.t 36), some 37, none⟩,
        ⟨.bin .add .plain (.t 32) (.t 37), some 38, none⟩,
        ⟨.mv (.t 38), some 4, none⟩])
      (.ret))
    (.skip)))))))
  (.seq (.reg true [] [⟨.mv (.t 1), some 39, none⟩,
    ⟨.mv (.t 5), some 40, none⟩,
    ⟨.slice .str (.t 39) none (some (.t 40)) none, some 41, none⟩,
    ⟨.mv (.t 1), some 42, none⟩,
    ⟨.mv (.t 5), some 43, none⟩,
    ⟨.sidx (.t 42) (.t 43), some 44, none⟩,
    ⟨.mv (.t 0), some 45, none⟩,
    ⟨.call Jc [(.t 45), (.c (.p (.i .i64 255)))] 0, some 46, none⟩,
    ⟨.bin .add .plain (.c (.p (.i .i64 1))) (.t 46), some 47, none⟩,
    ⟨.conv (.int .u8) (.t 47), some 48, none⟩,
    ⟨.bin .xor .plain (.t 44) (.t 48), some 49, none⟩,
    ⟨.lits false 1 1 [(.i .u8 0)] [(0, (.t 49))], some 50, none⟩,
    ⟨.conv .toStr (.t 50), some 51, none⟩,
    ⟨.bin .add .plain (.t 41) (.t 51), some 52, none⟩,
    ⟨.mv (.t 1), some 53, none⟩,
    ⟨.mv (.t 5), some 54, none⟩,
    ⟨.bin .add .plain (.t 54) (.c (.p (.i .i64 1))), some 55, none⟩,
    ⟨.slice .str (.t 53) (some (.t 55)) none none, some 56, none⟩,
    ⟨.bin .add .plain (.t 52) (.t 56), some 57, none⟩,
    ⟨.mv (.t 57), some 4, none⟩])
  (.ret))))))
def J3O : AFn := ⟨2, 58, J1i, [.tmp 4], false⟩
def Jb3 : Jr := .reg false [] [⟨.mv (.t 5), some 18, none⟩,
    ⟨.bin .add .plain (.t 18) (.c (.p (.i .i64 1))), some 19, none⟩,
    ⟨.mv (.t 19), some 5, none⟩]
def J1Y : Jr := .seq (.seq (.reg false [] [⟨.mv (.t 5), some 13, none⟩,
    ⟨.faddr 0 (.t 3), some 14, none⟩,
    ⟨.load false 1 (.t 14), some 15, none⟩,
    ⟨.len false (.t 15), some 16, none⟩,
    ⟨.bin .lss .plain (.t 13) (.t 16), some 17, none⟩])
  (.keep [0, 2, 3, 5, 17] (.cond (.t 17)
  (.skip)
  (.exit 0))))
  (.seq (.block 1 (.seq (.reg true [(1, 4)] [⟨.faddr 0 (.t 3), some 20, none⟩,
    ⟨.load false 1 (.t 20), some 21, none⟩,
    ⟨.mv (.t 5), some 22, none⟩,
    ⟨.mv (.t 0), some 23, none⟩,
    ⟨.call Jc [(.t 23), (.c (.p (.i .i64 40)))] 0, some 24, none⟩,
    ⟨.iaddr 3 (.t 21) (.t 22), some 25, none⟩,
    ⟨.faddr 0 (.t 25), some 26, none⟩,
    ⟨.store 1 (.t 26) (.t 24), none, none⟩])
  (.keep [0, 2, 3, 5] (.seq (.reg false [] [⟨.mv (.t 0), some 27, none⟩,
    ⟨.call Jc [(.t 27), (.c (.p (.i .i64 3)))] 0, some 28, none⟩,
    ⟨.bin .eql .plain (.t 28) (.c (.p (.i .i64 0))), some 29, none⟩])
  (.keep [0, 2, 3, 5, 29] (.cond (.t 29)
  (.reg true [(1, 7), (4, 7), (1, 10), (4, 10), (4, 13)] [⟨.faddr 0 (.t 3), some 30, none⟩,
      ⟨.load false 1 (.t 30), some 31, none⟩,
      ⟨.mv (.t 5), some 32, none⟩,
      ⟨.faddr 0 (.t 3), some 33, none⟩,
      ⟨.load false 1 (.t 33), some 34, none⟩,
      ⟨.mv (.t 5), some 35, none⟩,
      ⟨.mv (.t 0), some 36, none⟩,
      ⟨.call Jc [(.t 36), (.c (.p (.i .i64 4)))] 0, some 37, none⟩,
      ⟨.bin .add .plain (.c (.p (.i .i64 1))) (.t 37), some 38, none⟩,
      ⟨.mv (.t 0), some 39, none⟩,
      ⟨.call Jc [(.t 39), (.c (.p (.i .i64 40)))] 0, some 40, none⟩,
      ⟨.iaddr 3 (.t 31) (.t 32), some 41, none⟩,
      ⟨.faddr 1 (.t 41), some 42, none⟩,
      ⟨.store 1 (.t 42) (.t 38), none, none⟩,
      ⟨.iaddr 3 (.t 34) (.t 35), some 43, none⟩,
      ⟨.faddr 2 (.t 43), some 44, none⟩,
      ⟨.store 1 (.t 44) (.t 40), none, none⟩])
  (.skip)))))))
  (.keep [0, 2, 3, 5] Jb3))
def J3B : Jr := .seq (.reg false [] [⟨.load true 1 (.t 3), some 45, none⟩,
    ⟨.store 1 (.t 2) (.t 45), none, none⟩])
  (.ret)
def J7h : Jr := .seq (.reg false [] [⟨.newbox (Jj default), some 2, none⟩])
  (.seq (.reg false [] [⟨.mv (.t 0), some 7, none⟩,
    ⟨.call Jc [(.t 7), (.c (.p (.i .i64 5)))] 0, some 8, none⟩,
    ⟨.bin .add .plain (.c (.p (.i .i64 1))) (.t 8), some 9, none⟩,
    ⟨.callo J8U [] [(.t 9)] 1, some 10, none⟩,
    ⟨.mv (.t 10), some 6, none⟩,
    ⟨.extr (.t 6) 0, some 11, none⟩,
    ⟨.extr (.t 6) 1, some 12, none⟩,
    ⟨.newbox (Jj default), some 3, none⟩,
    ⟨.store 1 (.t 3) (.t 11), none, none⟩,
    ⟨.mv (.t 12), some 4, none⟩])
  (.keep [0, 2, 3] (.seq (.seq (.reg false [] [⟨.mv (.c (.p (.i .i64 0))), some 5, none⟩])
  (.block 0 (.loop [0, 2, 3, 5] J1Y)))
  (.keep [2, 3] J3B))))
def J2f : AFn := ⟨1, 46, J7h, [.cell 2 true 1], false⟩
def J2a : Jr := .seq (.seq (.reg false [] [⟨.mv (.t 6), some 23, none⟩,
    ⟨.bin .gtr .plain (.t 23) (.c (.p (.i .i64 0))), some 24, none⟩])
  (.cond (.t 24)
  (.skip)
  (.exit 0)))
  (.seq (.block 1 (.reg false [] [⟨.mv (.t 0), some 27, none⟩,
    ⟨.call Jc [(.t 27), (.c (.p (.i .i64 16)))] 0, some 28, none⟩,
    ⟨.mv (.t 0), some 29, none⟩,
    ⟨.call J4M [(.t 29)] 0, some 30, none⟩,
    ⟨.faddr 2 (.t 5), some 31, none⟩,
    ⟨.aaddr 16 2 (.t 31) (.t 28), some 32, none⟩,
    ⟨.store 2 (.t 32) (.t 30), none, none⟩]))
  (.reg false [] [⟨.mv (.t 6), some 25, none⟩,
    ⟨.bin .sub .plain (.t 25) (.c (.p (.i .i64 1))), some 26, none⟩,
    ⟨.mv (.t 26), some 6, none⟩]))
def J2W : Jr := .seq (.reg false [] [⟨.load true 34 (.t 5), some 33, none⟩,
    ⟨.store 34 (.t 4) (.t 33), none, none⟩])
  (.ret)
def J6X : Jr := .seq (.seq (.reg false [] [⟨.faddr 1 (.t 5), some 18, none⟩,
    ⟨.load false 1 (.t 18), some 19, none⟩,
    ⟨.bin .gtr .plain (.t 19) (.c (.p (.i .i64 0))), some 20, none⟩])
  (.keep [0, 4, 5, 20] (.cond (.t 20)
  (.seq (.reg false [] [⟨.mv (.t 0), some 21, none⟩,
      ⟨.call Jc [(.t 21), (.c (.p (.i .i64 6)))] 0, some 22, none⟩,
      ⟨.mv (.t 22), some 6, none⟩])
    (.keep [0, 4, 5, 6] (.block 0 (.loop [0, 4, 5, 6] J2a))))
  (.skip))))
  (.keep [4, 5] J2W)
def J3u : Jr := .seq (.reg false [] [⟨.newbox (J4 default), some 4, none⟩])
  (.seq (.reg false [] [⟨.mv (.t 1), some 7, none⟩,
    ⟨.mv (.t 0), some 8, none⟩,
    ⟨.call Jc [(.t 8), (.c (.p (.i .i64 50)))] 0, some 9, none⟩,
    ⟨.build (J4 default) [(0, 1, (.t 7)), (1, 1, (.t 9))], some 10, none⟩,
    ⟨.newbox (J4 default), some 5, none⟩,
    ⟨.store 34 (.t 5) (.t 10), none, none⟩])
  (.keep [0, 4, 5] (.seq (.seq (.reg false [] [⟨.mv (.t 0), some 11, none⟩,
    ⟨.call Jc [(.t 11), (.c (.p (.i .i64 10)))] 0, some 12, none⟩,
    ⟨.bin .eql .plain (.t 12) (.c (.p (.i .i64 9))), some 13, none⟩])
  (.keep [0, 4, 5, 13] (.cond (.t 13)
  (.reg false [] [⟨.mv (.t 0), some 14, none⟩,
      ⟨.call Jc [(.t 14), (.c (.p (.i .i64 2)))] 0, some 15, none⟩,
      ⟨.bin .sub .plain (.c (.p (.i .i64 1099511627776))) (.t 15), some 16, none⟩,
      ⟨.faddr 1 (.t 5), some 17, none⟩,
      ⟨.store 1 (.t 17) (.t 16), none, none⟩])
  (.skip))))
  (.keep [0, 4, 5] J6X))))
def J16 : AFn := ⟨2, 34, J3u, [.cell 4 true 34], false⟩
def J2L : Jr := .seq (.reg false [] [⟨.box 1 (.t 1), some 3, none⟩,
    ⟨.newbox (Jj default), some 4, none⟩])
  (.seq (.reg false [] [⟨.faddr 0 (.t 3), some 6, none⟩,
    ⟨.load false 1 (.t 6), some 7, none⟩,
    ⟨.appn 3 24 (Je default) (.t 7), some 8, none⟩,
    ⟨.faddr 0 (.t 3), some 9, none⟩,
    ⟨.store 1 (.t 9) (.t 8), none, none⟩])
  (.keep [0, 3, 4] (.seq (.reg true [(1, 6)] [⟨.faddr 0 (.t 3), some 10, none⟩,
    ⟨.load false 1 (.t 10), some 11, none⟩,
    ⟨.mv (.t 0), some 12, none⟩,
    ⟨.faddr 0 (.t 3), some 13, none⟩,
    ⟨.load false 1 (.t 13), some 14, none⟩,
    ⟨.len false (.t 14), some 15, none⟩,
    ⟨.call Jc [(.t 12), (.t 15)] 0, some 16, none⟩,
    ⟨.iaddr 3 (.t 11) (.t 16), some 17, none⟩,
    ⟨.mv (.t 17), some 5, none⟩])
  (.keep [0, 3, 4, 5] (.seq (.seq (.reg false [] [⟨.mv (.t 0), some 18, none⟩,
    ⟨.call Jc [(.t 18), (.c (.p (.i .i64 4)))] 0, some 19, none⟩])
  (.block 0 (.seq (.reg false [] [⟨.bin .eql .plain (.t 19) (.c (.p (.i .i64 0))), some 21, none⟩,
    ⟨.mv (.t 21), some 20, none⟩])
  (.cond (.t 20)
  (.reg false [] [⟨.mv (.t 5), some 22, none⟩,
      ⟨.mv (.t 0), some 23, none⟩,
      ⟨.call J24 [(.t 23)] 0, some 24, none⟩,
      ⟨.nilchk (.t 22), some 25, none⟩,
      ⟨.faddr 0 (.t 25), some 26, none⟩,
      ⟨.store 1 (.t 26) (.t 24), none, none⟩])
  (.seq (.reg false [] [⟨.bin .eql .plain (.t 19) (.c (.p (.i .i64 1))), some 28, none⟩,
      ⟨.mv (.t 28), some 27, none⟩])
    (.cond (.t 27)
    (.reg false [] [⟨.mv (.t 5), some 29, none⟩,
        ⟨.mv (.t 0), some 30, none⟩,
        ⟨.call J24 [(.t 30)] 0, some 31, none⟩,
        ⟨.nilchk (.t 29), some 32, none⟩,
        ⟨.faddr 1 (.t 32), some 33, none⟩,
        ⟨.store 1 (.t 33) (.t 31), none, none⟩])
    (.seq (.reg false [] [⟨.bin .eql .plain (.t 19) (.c (.p (.i .i64 2))), some 35, none⟩,
        ⟨.mv (.t 35), some 34, none⟩])
      (.cond (.t 34)
      (.reg false [] [⟨.mv (.t 5), some 36, none⟩,
          ⟨.mv (.t 0), some 37, none⟩,
          ⟨.call J24 [(.t 37)] 0, some 38, none⟩,
          ⟨.nilchk (.t 36), some 39, none⟩,
          ⟨.faddr 2 (.t 39), some 40, none⟩,
          ⟨.store 1 (.t 40) (.t 38), none, none⟩])
      (.seq (.reg false [] [⟨.bin .eql .plain (.t 19) (.c (.p (.i .i64 3))), some 42, none⟩,
          ⟨.mv (.t 42), some 41, none⟩])
        (.cond (.t 41)
        (.reg true [(1, 3)] [⟨.faddr 0 (.t 3), some 43, none⟩,
            ⟨.load false 1 (.t 43), some 44, none⟩,
            ⟨.mv (.t 0), some 45, none⟩,
            ⟨.call Jc [(.t 45), (.c (.p (.i .i64 6)))] 0, some 46, none⟩,
            ⟨.bin .add .plain (.c (.p (.i .i64 60))) (.t 46), some 47, none⟩,
            ⟨.appz 3 24 (Je default) (.t 44) (.t 47), some 48, none⟩,
            ⟨.faddr 0 (.t 3), some 49, none⟩,
            ⟨.store 1 (.t 49) (.t 48), none, none⟩])
        (.skip)))))))))))
  (.seq (.reg false [] [⟨.load true 1 (.t 3), some 50, none⟩,
    ⟨.store 1 (.t 4) (.t 50), none, none⟩])
  (.ret)))))))
def J93 : AFn := ⟨2, 51, J2L, [.cell 4 true 1], false⟩
def J8N : Jr := .seq (.reg false [] [⟨.mv (.c (.p (.s []))), some 0, none⟩])
  (.seq (.reg false [] [⟨.call J43 [(.c (.p (.i .i64 256)))] 0, some 1, none⟩,
    ⟨.mv (.t 1), some 0, none⟩])
  (.ret))
def J73 : AFn := ⟨0, 2, J8N, [.tmp 0], false⟩
def J9G : Jr := .seq (.reg false [] [⟨.mv (.c (.p (.s []))), some 0, none⟩])
  (.seq (.reg false [] [⟨.call J2C [(.c (.p (.s [0]))), (.c (.p (.i .i64 256)))] 0, some 1, none⟩,
    ⟨.mv (.t 1), some 0, none⟩])
  (.ret))
def J8f : AFn := ⟨0, 2, J9G, [.tmp 0], false⟩
def J0v : Jr := .seq (.seq (.reg false [] [⟨.mv (.t 3), some 15, none⟩,
    ⟨.faddr 0 (.t 1), some 16, none⟩,
    ⟨.load false 1 (.t 16), some 17, none⟩,
    ⟨.len false (.t 17), some 18, none⟩,
    ⟨.bin .lss .plain (.t 15) (.t 18), some 19, none⟩])
  (.keep [1, 3, 19] (.cond (.t 19)
  (.skip)
  (.exit 0))))
  (.seq (.block 1 (.seq (.reg false [] [⟨.faddr 0 (.t 1), some 22, none⟩,
    ⟨.load false 1 (.t 22), some 23, none⟩,
    ⟨.mv (.t 3), some 24, none⟩,
    ⟨.iaddr 3 (.t 23) (.t 24), some 25, none⟩,
    ⟨.load true 3 (.t 25), some 26, none⟩,
    ⟨.newbox (Je default), some 4, none⟩,
    ⟨.store 3 (.t 4) (.t 26), none, none⟩])
  (.keep [1, 3, 4] (.seq (.reg false [] [⟨.faddr 0 (.t 4), some 27, none⟩,
    ⟨.load false 1 (.t 27), some 28, none⟩,
    ⟨.call J6q [(.t 28)] 0, some 29, none⟩,
    ⟨.un .not (.t 29), some 30, none⟩,
    ⟨.mv (.t 30), some 31, none⟩,
    ⟨.faddr 1 (.t 4), some 32, some (31, false)⟩,
    ⟨.load false 1 (.t 32), some 33, some (31, false)⟩,
    ⟨.call J6q [(.t 33)] 0, some 34, some (31, false)⟩,
    ⟨.un .not (.t 34), some 35, some (31, false)⟩,
    ⟨.pick (.t 31) (.c (.p (.b true))) (.t 35), some 36, none⟩,
    ⟨.mv (.t 36), some 37, none⟩,
    ⟨.faddr 2 (.t 4), some 38, some (37, false)⟩,
    ⟨.load false 1 (.t 38), some 39, some (37, false)⟩,
    ⟨.call J6q [(.t 39)] 0, some 40, some (37, false)⟩,
    ⟨.un .not (.t 40), some 41, some (37, false)⟩,
    ⟨.pick (.t 37) (.c (.p (.b true))) (.t 41), some 42, none⟩,
    ⟨.mv (.t 42), some 43, none⟩,
    ⟨.faddr 1 (.t 4), some 44, some (43, false)⟩,
    ⟨.load false 1 (.t 44), some 45, some (43, false)⟩,
    ⟨.bin .eql .plain (.t 45) (.c (.p (.i .i64 0))), some 46, some (43, false)⟩,
    ⟨.mv (.t 46), some 47, some (43, false)⟩,
    ⟨.faddr 2 (.t 4), some 48, some (47, true)⟩,
    ⟨.load false 1 (.t 48), some 49, some (47, true)⟩,
    ⟨.bin .neq .plain (.t 49) (.c (.p (.i .i64 0))), some 50, some (47, true)⟩,
    ⟨.pick (.t 47) (.t 50) (.c (.p (.b false))), some 51, some (43, false)⟩,
    ⟨.pick (.t 43) (.c (.p (.b true))) (.t 51), some 52, none⟩])
  (.keep [1, 3, 52] (.cond (.t 52)
  (.seq (.reg false [] [⟨.mv (.c (.p (.b false))), some 2, none⟩])
    (.ret))
  (.skip)))))))
  (.reg false [] [⟨.mv (.t 3), some 20, none⟩,
    ⟨.bin .add .plain (.t 20) (.c (.p (.i .i64 1))), some 21, none⟩,
    ⟨.mv (.t 21), some 3, none⟩]))
def J4C : Jr := .seq (.reg false [] [⟨.mv (.c (.p (.b true))), some 2, none⟩])
  (.ret)
def J55 : Jr := .seq (.reg false [] [⟨.box 1 (.t 0), some 1, none⟩,
    ⟨.mv (.c (.p (.b false))), some 2, none⟩])
  (.seq (.seq (.reg false [] [⟨.faddr 0 (.t 1), some 5, none⟩,
    ⟨.load false 1 (.t 5), some 6, none⟩,
    ⟨.len false (.t 6), some 7, none⟩,
    ⟨.bin .lss .plain (.t 7) (.c (.p (.i .i64 1))), some 8, none⟩,
    ⟨.mv (.t 8), some 9, none⟩,
    ⟨.faddr 0 (.t 1), some 10, some (9, false)⟩,
    ⟨.load false 1 (.t 10), some 11, some (9, false)⟩,
    ⟨.len false (.t 11), some 12, some (9, false)⟩,
    ⟨.bin .gtr .plain (.t 12) (.c (.p (.i .i64 64))), some 13, some (9, false)⟩,
    ⟨.pick (.t 9) (.c (.p (.b true))) (.t 13), some 14, none⟩])
  (.keep [1, 14] (.cond (.t 14)
  (.seq (.reg false [] [⟨.mv (.c (.p (.b false))), some 2, none⟩])
    (.ret))
  (.skip))))
  (.seq (.tidy [2] (.seq (.reg false [] [⟨.mv (.c (.p (.i .i64 0))), some 3, none⟩])
  (.block 0 (.loop [1, 3] J0v))))
  (.keep [] J4C)))
def J2E : AFn := ⟨1, 53, J55, [.tmp 2], false⟩
def J3Z : Jr := .seq (.reg false [] [⟨.box 34 (.t 0), some 1, none⟩,
    ⟨.mv (.c (.p (.b false))), some 2, none⟩])
  (.seq (.reg false [] [⟨.faddr 0 (.t 1), some 3, none⟩,
    ⟨.load false 1 (.t 3), some 4, none⟩,
    ⟨.call J6O [(.t 4)] 0, some 5, none⟩,
    ⟨.mv (.t 5), some 6, none⟩,
    ⟨.faddr 1 (.t 1), some 7, some (6, true)⟩,
    ⟨.load false 1 (.t 7), some 8, some (6, true)⟩,
    ⟨.bin .geq .plain (.t 8) (.c (.p (.i .i64 0))), some 9, some (6, true)⟩,
    ⟨.pick (.t 6) (.t 9) (.c (.p (.b false))), some 10, none⟩,
    ⟨.mv (.t 10), some 11, none⟩,
    ⟨.faddr 1 (.t 1), some 12, some (11, true)⟩,
    ⟨.load false 1 (.t 12), some 13, some (11, true)⟩,
    ⟨.bin .leq .plain (.t 13) (.c (.p (.i .i64 1099511627776))), some 14, some (11, true)⟩,
    ⟨.pick (.t 11) (.t 14) (.c (.p (.b false))), some 15, none⟩,
    ⟨.mv (.t 15), some 2, none⟩])
  (.ret))
def J7n : AFn := ⟨1, 16, J3Z, [.tmp 2], false⟩
def J88 : Jr := .reg true [(6, 8), (6, 11), (8, 14)] [⟨.mv (.t 0), some 10, none⟩,
    ⟨.mv (.t 0), some 11, none⟩,
    ⟨.nilchk (.t 11), some 12, none⟩,
    ⟨.faddr 0 (.t 12), some 13, none⟩,
    ⟨.load false 1 (.t 13), some 14, none⟩,
    ⟨.mv (.t 4), some 15, none⟩,
    ⟨.call J2r [(.t 14), (.t 15), (.c (.p (.i .i64 1)))] 0, some 16, none⟩,
    ⟨.faddr 1 (.t 3), some 17, none⟩,
    ⟨.load false 1 (.t 17), some 18, none⟩,
    ⟨.bin .add .plain (.t 16) (.t 18), some 19, none⟩,
    ⟨.faddr 1 (.t 3), some 20, none⟩,
    ⟨.load false 1 (.t 20), some 21, none⟩,
    ⟨.len true (.t 21), some 22, none⟩,
    ⟨.bin .sub .plain (.c (.p (.i .i64 12))) (.t 22), some 23, none⟩,
    ⟨.call J2C [(.c (.p (.s [0]))), (.t 23)] 0, some 24, none⟩,
    ⟨.bin .add .plain (.t 19) (.t 24), some 25, none⟩,
    ⟨.nilchk (.t 10), some 26, none⟩,
    ⟨.faddr 0 (.t 26), some 27, none⟩,
    ⟨.store 1 (.t 27) (.t 25), none, none⟩]
def J3J : Jr := .seq (.reg false [] [⟨.box 2 (.t 1), some 3, none⟩])
  (.seq (.reg false [] [⟨.mv (.c (.p (.i .i64 255))), some 4, none⟩])
  (.seq (.seq (.reg false [] [⟨.faddr 0 (.t 3), some 5, none⟩,
    ⟨.load false 1 (.t 5), some 6, none⟩])
  (.cond (.t 6)
  (.reg false [] [⟨.faddr 1 (.t 3), some 7, none⟩,
      ⟨.load false 1 (.t 7), some 8, none⟩,
      ⟨.len true (.t 8), some 9, none⟩,
      ⟨.mv (.t 9), some 4, none⟩])
  (.skip)))
  (.keep [0, 3, 4] J88)))
def J2U : AFn := ⟨2, 28, J3J, [], false⟩
def J56 : Jr := .seq (.reg false [] [⟨.bin .lss .plain (.t 9) (.t 8), some 10, none⟩])
  (.seq (.cond (.t 10)
  (.skip)
  (.exit 0))
  (.seq (.block 1 (.seq (.reg false [] [⟨.mv (.t 9), some 11, none⟩,
    ⟨.mv (.t 11), some 5, none⟩])
  (.seq (.reg false [] [⟨.mv (.t 4), some 12, none⟩,
    ⟨.mv (.t 0), some 13, none⟩,
    ⟨.mv (.t 5), some 14, none⟩,
    ⟨.sidx (.t 13) (.t 14), some 15, none⟩,
    ⟨.conv (.int .u32) (.t 15), some 16, none⟩,
    ⟨.bin .xor .plain (.t 12) (.t 16), some 17, none⟩,
    ⟨.mv (.t 17), some 4, none⟩])
  (.keep [0, 3, 4, 8, 9] (.seq (.reg false [] [⟨.mv (.t 4), some 18, none⟩,
    ⟨.bin .shr .plain (.t 18) (.c (.p (.i .u64 4))), some 19, none⟩,
    ⟨.mv (.t 4), some 20, none⟩,
    ⟨.bin .and .plain (.t 20) (.c (.p (.i .u32 15))), some 21, none⟩,
    ⟨.aaddr 16 1 (.t 3) (.t 21), some 22, none⟩,
    ⟨.load false 1 (.t 22), some 23, none⟩,
    ⟨.bin .xor .plain (.t 19) (.t 23), some 24, none⟩,
    ⟨.mv (.t 24), some 4, none⟩])
  (.keep [0, 3, 4, 8, 9] (.reg false [] [⟨.mv (.t 4), some 25, none⟩,
    ⟨.bin .shr .plain (.t 25) (.c (.p (.i .u64 4))), some 26, none⟩,
    ⟨.mv (.t 4), some 27, none⟩,
    ⟨.bin .and .plain (.t 27) (.c (.p (.i .u32 15))), some 28, none⟩,
    ⟨.aaddr 16 1 (.t 3) (.t 28), some 29, none⟩,
    ⟨.load false 1 (.t 29), some 30, none⟩,
    ⟨.bin .xor .plain (.t 26) (.t 30), some 31, none⟩,
    ⟨.mv (.t 31), some 4, none⟩])))))))
  (.reg false [] [⟨.bin .add .plain (.t 9) (.c (.p (.i .i64 1))), some 32, none⟩,
    ⟨.mv (.t 32), some 9, none⟩])))
def J66 : Jr := .seq (.reg false [] [⟨.mv (.t 4), some 33, none⟩,
    ⟨.un .xor (.t 33), some 34, none⟩,
    ⟨.mv (.t 34), some 2, none⟩])
  (.ret)
def Jao : Jr := .seq (.reg false [] [⟨.mv (.c (.p (.i .u32 0))), some 2, none⟩])
  (.seq (.reg false [] [⟨.call J4d [] 0, some 6, none⟩,
    ⟨.newbox (JO (r_i .u32) (Vector.replicate 16 (0 : Int))), some 3, none⟩,
    ⟨.store 16 (.t 3) (.t 6), none, none⟩])
  (.keep [0, 3] (.seq (.reg false [] [⟨.mv (.c (.p (.i .u32 4294967295))), some 4, none⟩])
  (.seq (.seq (.reg false [] [⟨.mv (.t 0), some 7, none⟩,
    ⟨.len true (.t 7), some 8, none⟩,
    ⟨.mv (.c (.p (.i .i64 0))), some 9, none⟩])
  (.keep [0, 3, 4, 8, 9] (.block 0 (.loop [0, 3, 4, 8, 9] J56))))
  (.keep [4] J66)))))
def J3S : AFn := ⟨1, 35, Jao, [.tmp 2], false⟩
def J0Y : Jr := .seq (.seq (.reg false [] [⟨.mv (.t 3), some 4, none⟩,
    ⟨.bin .lss .plain (.t 4) (.c (.p (.i .i64 16))), some 5, none⟩])
  (.cond (.t 5)
  (.skip)
  (.exit 0)))
  (.seq (.block 1 (.seq (.reg false [] [⟨.mv (.t 3), some 8, none⟩,
    ⟨.faddr 2 (.t 1), some 9, none⟩,
    ⟨.aaddr 16 2 (.t 9) (.t 8), some 10, none⟩,
    ⟨.load true 2 (.t 10), some 11, none⟩,
    ⟨.call J4I [(.t 11)] 0, some 12, none⟩,
    ⟨.un .not (.t 12), some 13, none⟩,
    ⟨.mv (.t 13), some 14, none⟩,
    ⟨.faddr 1 (.t 1), some 15, some (14, false)⟩,
    ⟨.load false 1 (.t 15), some 16, some (14, false)⟩,
    ⟨.bin .eql .plain (.t 16) (.c (.p (.i .i64 0))), some 17, some (14, false)⟩,
    ⟨.mv (.t 17), some 18, some (14, false)⟩,
    ⟨.mv (.t 3), some 19, some (18, true)⟩,
    ⟨.faddr 2 (.t 1), some 20, some (18, true)⟩,
    ⟨.aaddr 16 2 (.t 20) (.t 19), some 21, some (18, true)⟩,
    ⟨.faddr 0 (.t 21), some 22, some (18, true)⟩,
    ⟨.load false 1 (.t 22), some 23, some (18, true)⟩,
    ⟨.pick (.t 18) (.t 23) (.c (.p (.b false))), some 24, some (14, false)⟩,
    ⟨.pick (.t 14) (.c (.p (.b true))) (.t 24), some 25, none⟩])
  (.keep [1, 3, 25] (.cond (.t 25)
  (.seq (.reg false [] [⟨.mv (.c (.p (.b false))), some 2, none⟩])
    (.ret))
  (.skip)))))
  (.reg false [] [⟨.mv (.t 3), some 6, none⟩,
    ⟨.bin .add .plain (.t 6) (.c (.p (.i .i64 1))), some 7, none⟩,
    ⟨.mv (.t 7), some 3, none⟩]))
def J4v : Jr := .seq (.reg false [] [⟨.mv (.c (.p (.b true))), some 2, none⟩])
  (.ret)
def J8J : Jr := .seq (.reg false [] [⟨.box 34 (.t 0), some 1, none⟩,
    ⟨.mv (.c (.p (.b false))), some 2, none⟩])
  (.seq (.seq (.reg false [] [⟨.mv (.c (.p (.i .i64 0))), some 3, none⟩])
  (.block 0 (.loop [1, 3] J0Y)))
  (.keep [] J4v))
def J2D : AFn := ⟨1, 26, J8J, [.tmp 2], false⟩
def J0w : Jr := .seq (.reg false [] [⟨.box 3 (.t 0), some 1, none⟩,
    ⟨.mv (.c (.p (.b false))), some 2, none⟩])
  (.seq (.reg false [] [⟨.faddr 0 (.t 1), some 3, none⟩,
    ⟨.load false 1 (.t 3), some 4, none⟩,
    ⟨.call J21 [(.t 4)] 0, some 5, none⟩,
    ⟨.un .not (.t 5), some 6, none⟩,
    ⟨.mv (.t 6), some 7, none⟩,
    ⟨.faddr 1 (.t 1), some 8, some (7, false)⟩,
    ⟨.load false 1 (.t 8), some 9, some (7, false)⟩,
    ⟨.call J21 [(.t 9)] 0, some 10, some (7, false)⟩,
    ⟨.un .not (.t 10), some 11, some (7, false)⟩,
    ⟨.pick (.t 7) (.c (.p (.b true))) (.t 11), some 12, none⟩,
    ⟨.mv (.t 12), some 13, none⟩,
    ⟨.faddr 2 (.t 1), some 14, some (13, false)⟩,
    ⟨.load false 1 (.t 14), some 15, some (13, false)⟩,
    ⟨.call J21 [(.t 15)] 0, some 16, some (13, false)⟩,
    ⟨.un .not (.t 16), some 17, some (13, false)⟩,
    ⟨.pick (.t 13) (.c (.p (.b true))) (.t 17), some 18, none⟩,
    ⟨.mv (.t 18), some 19, none⟩,
    ⟨.faddr 1 (.t 1), some 20, some (19, false)⟩,
    ⟨.load false 1 (.t 20), some 21, some (19, false)⟩,
    ⟨.bin .eql .plain (.t 21) (.c (.p (.i .i64 0))), some 22, some (19, false)⟩,
    ⟨.mv (.t 22), some 23, some (19, false)⟩,
    ⟨.faddr 2 (.t 1), some 24, some (23, true)⟩,
    ⟨.load false 1 (.t 24), some 25, some (23, true)⟩,
    ⟨.bin .neq .plain (.t 25) (.c (.p (.i .i64 0))), some 26, some (23, true)⟩,
    ⟨.pick (.t 23) (.t 26) (.c (.p (.b false))), some 27, some (19, false)⟩,
    ⟨.pick (.t 19) (.c (.p (.b true))) (.t 27), some 28, none⟩,
    ⟨.mv (.t 28), some 2, none⟩])
  (.ret))
def J3i : AFn := ⟨1, 29, J0w, [.tmp 2], false⟩
def J1A : Jr := .seq (.reg false [] [⟨.box 6 (.t 0), some 1, none⟩,
    ⟨.mv (.c (.p (.b false))), some 2, none⟩])
  (.seq (.reg false [] [⟨.faddr 0 (.t 1), some 3, none⟩,
    ⟨.load false 1 (.t 3), some 4, none⟩,
    ⟨.call J6E [(.t 4)] 0, some 5, none⟩,
    ⟨.mv (.t 5), some 6, none⟩,
    ⟨.faddr 1 (.t 1), some 7, some (6, true)⟩,
    ⟨.load false 1 (.t 7), some 8, some (6, true)⟩,
    ⟨.bin .geq .plain (.t 8) (.c (.p (.i .i64 0))), some 9, some (6, true)⟩,
    ⟨.pick (.t 6) (.t 9) (.c (.p (.b false))), some 10, none⟩,
    ⟨.mv (.t 10), some 11, none⟩,
    ⟨.faddr 1 (.t 1), some 12, some (11, true)⟩,
    ⟨.load false 1 (.t 12), some 13, some (11, true)⟩,
    ⟨.bin .lss .plain (.t 13) (.c (.p (.i .i64 16))), some 14, some (11, true)⟩,
    ⟨.pick (.t 11) (.t 14) (.c (.p (.b false))), some 15, none⟩,
    ⟨.mv (.t 15), some 16, none⟩,
    ⟨.faddr 2 (.t 1), some 17, some (16, true)⟩,
    ⟨.load true 2 (.t 17), some 18, some (16, true)⟩,
    ⟨.call J37 [(.t 18)] 0, some 19, some (16, true)⟩,
    ⟨.pick (.t 16) (.t 19) (.c (.p (.b false))), some 20, none⟩,
    ⟨.mv (.t 20), some 21, none⟩,
    ⟨.faddr 4 (.t 1), some 22, some (21, true)⟩,
    ⟨.load true 2 (.t 22), some 23, some (21, true)⟩,
    ⟨.call J37 [(.t 23)] 0, some 24, some (21, true)⟩,
    ⟨.pick (.t 21) (.t 24) (.c (.p (.b false))), some 25, none⟩,
    ⟨.mv (.t 25), some 2, none⟩])
  (.ret))
def J6K : AFn := ⟨1, 26, J1A, [.tmp 2], false⟩
def J3E : Jr := .seq (.reg false [] [⟨.bin .lss .plain (.t 29) (.c (.p (.i .i64 16))), some 30, none⟩])
  (.seq (.cond (.t 30)
  (.skip)
  (.exit 1))
  (.seq (.block 2 (.seq (.reg false [] [⟨.aidx true 16 2 (.t 28) (.t 29), some 31, none⟩,
    ⟨.newbox (Jh default), some 7, none⟩,
    ⟨.store 2 (.t 7) (.t 31), none, none⟩])
  (.keep [1, 4, 5, 7, 28, 29] (.reg false [] [⟨.mv (.t 5), some 32, none⟩,
    ⟨.load true 2 (.t 7), some 33, none⟩,
    ⟨.callv (.t 32) [(.t 33)] 0, some 34, none⟩]))))
  (.reg false [] [⟨.bin .add .plain (.t 29) (.c (.p (.i .i64 1))), some 35, none⟩,
    ⟨.mv (.t 35), some 29, none⟩])))
def J4F : Jr := .seq (.reg true [(3, 10)] [⟨.mv (.t 4), some 36, none⟩,
    ⟨.nilchk (.t 36), some 37, none⟩,
    ⟨.faddr 0 (.t 37), some 38, none⟩,
    ⟨.load false 1 (.t 38), some 39, none⟩,
    ⟨.mv (.t 4), some 40, none⟩,
    ⟨.nilchk (.t 40), some 41, none⟩,
    ⟨.faddr 0 (.t 41), some 42, none⟩,
    ⟨.load false 1 (.t 42), some 43, none⟩,
    ⟨.len true (.t 43), some 44, none⟩,
    ⟨.bin .sub .plain (.c (.p (.i .i64 244))) (.t 44), some 45, none⟩,
    ⟨.call J2C [(.c (.p (.s [0]))), (.t 45)] 0, some 46, none⟩,
    ⟨.bin .add .plain (.t 39) (.t 46), some 47, none⟩,
    ⟨.mv (.t 47), some 8, none⟩])
  (.keep [1, 8] (.seq (.reg true [(2, 6), (4, 6)] [⟨.mv (.t 8), some 48, none⟩,
    ⟨.mv (.t 8), some 49, none⟩,
    ⟨.call J6t [(.t 49)] 0, some 50, none⟩,
    ⟨.conv (.int .i64) (.t 50), some 51, none⟩,
    ⟨.call J2r [(.t 48), (.t 51), (.c (.p (.i .i64 4)))] 0, some 52, none⟩,
    ⟨.faddr 1 (.t 1), some 53, none⟩,
    ⟨.load false 1 (.t 53), some 54, none⟩,
    ⟨.call J2r [(.t 52), (.t 54), (.c (.p (.i .i64 8)))] 0, some 55, none⟩,
    ⟨.mv (.t 55), some 2, none⟩,
    ⟨.mv (.c (.p (.i .i64 0))), some 3, none⟩])
  (.ret)))
def J3X : Jr := .seq (.reg false [] [⟨.box 34 (.t 0), some 1, none⟩,
    ⟨.mv (.c (.p (.s []))), some 2, none⟩,
    ⟨.mv (.c (.p (.i .i64 0))), some 3, none⟩])
  (.keep [1] (.seq (.block 0 (.seq (.reg false [] [⟨.load true 34 (.t 1), some 10, none⟩,
    ⟨.call J7s [(.t 10)] 0, some 11, none⟩,
    ⟨.un .not (.t 11), some 12, none⟩,
    ⟨.mv (.t 12), some 9, none⟩])
  (.keep [1, 9] (.cond (.t 9)
  (.seq (.reg false [] [⟨.mv (.c (.p (.s []))), some 2, none⟩,
      ⟨.mv (.c (.p (.i .i64 1))), some 3, none⟩])
    (.ret))
  (.seq (.reg false [] [⟨.load true 34 (.t 1), some 14, none⟩,
      ⟨.call J8j [(.t 14)] 0, some 15, none⟩,
      ⟨.un .not (.t 15), some 16, none⟩,
      ⟨.mv (.t 16), some 13, none⟩])
    (.keep [1, 13] (.cond (.t 13)
    (.seq (.reg false [] [⟨.mv (.c (.p (.s []))), some 2, none⟩,
        ⟨.mv (.c (.p (.i .i64 22))), some 3, none⟩])
      (.ret))
    (.skip))))))))
  (.seq (.reg true [(2, 4)] [⟨.faddr 1 (.t 1), some 17, none⟩,
    ⟨.load false 1 (.t 17), some 18, none⟩,
    ⟨.call J2r [(.c (.p (.s []))), (.t 18), (.c (.p (.i .i64 8)))] 0, some 19, none⟩,
    ⟨.faddr 0 (.t 1), some 20, none⟩,
    ⟨.load false 1 (.t 20), some 21, none⟩,
    ⟨.call J2r [(.t 19), (.t 21), (.c (.p (.i .i64 4)))] 0, some 22, none⟩,
    ⟨.build (J11 default) [(0, 1, (.t 22))], some 23, none⟩,
    ⟨.box 1 (.t 23), some 24, none⟩,
    ⟨.mv (.t 24), some 4, none⟩])
  (.keep [1, 4] (.seq (.reg false [] [⟨.mv (.t 4), some 25, none⟩,
    ⟨.mkfn J1h [(.t 25)] [], some 26, none⟩,
    ⟨.mv (.t 26), some 5, none⟩])
  (.keep [1, 4, 5] (.seq (.tidy [1, 2, 3, 4] (.seq (.reg false [] [⟨.faddr 2 (.t 1), some 27, none⟩,
    ⟨.load true 32 (.t 27), some 28, none⟩,
    ⟨.mv (.c (.p (.i .i64 0))), some 29, none⟩])
  (.keep [1, 4, 5, 28, 29] (.block 1 (.loop [1, 4, 5, 28, 29] J3E)))))
  (.keep [1, 4] J4F))))))))
def J2H : AFn := ⟨1, 56, J3X, [.tmp 2, .tmp 3], false⟩
def J3Y : Jr := .seq (.reg false [] [⟨.box 34 (.t 0), some 1, none⟩,
    ⟨.mv (.c (.p (.i .i64 0))), some 2, none⟩])
  (.seq (.block 0 (.seq (.reg false [] [⟨.load true 34 (.t 1), some 4, none⟩,
    ⟨.call J5K [(.t 4)] 0, some 5, none⟩,
    ⟨.un .not (.t 5), some 6, none⟩,
    ⟨.mv (.t 6), some 3, none⟩])
  (.keep [1, 3] (.cond (.t 3)
  (.seq (.reg false [] [⟨.mv (.c (.p (.i .i64 1))), some 2, none⟩])
    (.ret))
  (.seq (.reg false [] [⟨.load true 34 (.t 1), some 8, none⟩,
      ⟨.call J7b [(.t 8)] 0, some 9, none⟩,
      ⟨.un .not (.t 9), some 10, none⟩,
      ⟨.mv (.t 10), some 7, none⟩])
    (.keep [7] (.cond (.t 7)
    (.seq (.reg false [] [⟨.mv (.c (.p (.i .i64 22))), some 2, none⟩])
      (.ret))
    (.skip))))))))
  (.seq (.reg false [] [⟨.mv (.c (.p (.i .i64 0))), some 2, none⟩])
  (.ret)))
def J7r : AFn := ⟨1, 11, J3Y, [.tmp 2], false⟩
def JZ : Jr := .seq (.reg false [] [⟨.bin .lss .plain (.t 8) (.t 7), some 9, none⟩])
  (.seq (.cond (.t 9)
  (.skip)
  (.exit 0))
  (.seq (.block 1 (.seq (.reg false [] [⟨.mv (.t 8), some 10, none⟩,
    ⟨.mv (.t 10), some 5, none⟩])
  (.seq (.reg false [] [⟨.mv (.t 1), some 11, none⟩,
    ⟨.mv (.t 0), some 12, none⟩,
    ⟨.mv (.t 5), some 13, none⟩,
    ⟨.iaddr 3 (.t 12) (.t 13), some 14, none⟩,
    ⟨.load true 3 (.t 14), some 15, none⟩,
    ⟨.callv (.t 11) [(.t 15)] 0, some 16, none⟩])
  (.keep [0, 1, 5, 7, 8, 16] (.cond (.t 16)
  (.seq (.reg false [] [⟨.mv (.t 5), some 17, none⟩,
      ⟨.mv (.t 17), some 4, none⟩])
    (.ret))
  (.skip))))))
  (.reg false [] [⟨.bin .add .plain (.t 8) (.c (.p (.i .i64 1))), some 18, none⟩,
    ⟨.mv (.t 18), some 8, none⟩])))
def J0t : Jr := .seq (.reg false [] [⟨.mv (.c (.p (.i .i64 (-1)))), some 4, none⟩])
  (.ret)
def J1n : Jr := .seq (.reg false [] [⟨.mv (.c (.p (.i .i64 0))), some 4, none⟩])
  (.seq (.seq (.reg false [] [⟨.mv (.t 0), some 6, none⟩,
    ⟨.len false (.t 6), some 7, none⟩,
    ⟨.mv (.c (.p (.i .i64 0))), some 8, none⟩])
  (.keep [0, 1, 7, 8] (.block 0 (.loop [0, 1, 7, 8] JZ))))
  (.keep [] J0t))
def JX : AFn := ⟨2, 19, J1n, [.tmp 4], false⟩
def J14 : Jr := .seq (.reg false [] [⟨.mv (.c (.p (.b false))), some 4, none⟩])
  (.seq (.reg false [] [⟨.mv (.t 0), some 5, none⟩,
    ⟨.mv (.t 1), some 6, none⟩,
    ⟨.call J0Q [(.t 5), (.t 6)] 0, some 7, none⟩,
    ⟨.bin .geq .plain (.t 7) (.c (.p (.i .i64 0))), some 8, none⟩,
    ⟨.mv (.t 8), some 4, none⟩])
  (.ret))
def J0E : AFn := ⟨2, 9, J14, [.tmp 4], false⟩
def J2S : Jr := .seq (.reg false [] [⟨.box 1 (.t 0), some 1, none⟩,
    ⟨.mv (.c (.p (.b false))), some 2, none⟩])
  (.seq (.reg false [] [⟨.faddr 0 (.t 1), some 3, none⟩,
    ⟨.load false 1 (.t 3), some 4, none⟩,
    ⟨.len false (.t 4), some 5, none⟩,
    ⟨.bin .geq .plain (.t 5) (.c (.p (.i .i64 1))), some 6, none⟩,
    ⟨.mv (.t 6), some 7, none⟩,
    ⟨.faddr 0 (.t 1), some 8, some (7, true)⟩,
    ⟨.load false 1 (.t 8), some 9, some (7, true)⟩,
    ⟨.len false (.t 9), some 10, some (7, true)⟩,
    ⟨.bin .leq .plain (.t 10) (.c (.p (.i .i64 64))), some 11, some (7, true)⟩,
    ⟨.pick (.t 7) (.t 11) (.c (.p (.b false))), some 12, none⟩,
    ⟨.mv (.t 12), some 13, none⟩,
    ⟨.faddr 0 (.t 1), some 14, some (13, true)⟩,
    ⟨.load false 1 (.t 14), some 15, some (13, true)⟩,
    ⟨.call J0D [(.t 15), (.c (.fn J01 [] []))] 0, some 16, some (13, true)⟩,
    ⟨.un .not (.t 16), some 17, some (13, true)⟩,
    ⟨.pick (.t 13) (.t 17) (.c (.p (.b false))), some 18, none⟩,
    ⟨.mv (.t 18), some 2, none⟩])
  (.ret))
def J4V : AFn := ⟨1, 19, J2S, [.tmp 2], false⟩
def Jt : Jr := .cond (.t 47)
  (.seq (.reg false [] [⟨.mv (.c (.p (.b false))), some 2, none⟩])
    (.ret))
  (.seq (.seq (.reg false [] [⟨.faddr 0 (.t 3), some 68, none⟩,
      ⟨.load false 1 (.t 68), some 69, none⟩,
      ⟨.un .not (.t 69), some 70, none⟩,
      ⟨.mv (.t 70), some 71, none⟩,
      ⟨.faddr 2 (.t 1), some 72, some (71, true)⟩,
      ⟨.load false 1 (.t 72), some 73, some (71, true)⟩,
      ⟨.bin .neq .plain (.t 73) (.c (.p (.i .i64 0))), some 74, some (71, true)⟩,
      ⟨.mv (.t 74), some 75, some (71, true)⟩,
      ⟨.faddr 3 (.t 1), some 76, some (75, false)⟩,
      ⟨.load false 1 (.t 76), some 77, some (75, false)⟩,
      ⟨.bin .neq .plain (.t 77) (.c (.p (.i .i64 0))), some 78, some (75, false)⟩,
      ⟨.pick (.t 75) (.c (.p (.b true))) (.t 78), some 79, some (71, true)⟩,
      ⟨.pick (.t 71) (.t 79) (.c (.p (.b false))), some 80, none⟩,
      ⟨.mv (.t 80), some 67, none⟩])
    (.keep [1, 3, 67] (.cond (.t 67)
    (.skip)
    (.seq (.reg false [] [⟨.faddr 2 (.t 3), some 81, none⟩,
        ⟨.load false 1 (.t 81), some 82, none⟩,
        ⟨.un .not (.t 82), some 83, none⟩,
        ⟨.mv (.t 83), some 84, none⟩,
        ⟨.faddr 4 (.t 1), some 85, some (84, true)⟩,
        ⟨.load false 1 (.t 85), some 86, some (84, true)⟩,
        ⟨.bin .neq .plain (.t 86) (.c (.p (.i .i64 0))), some 87, some (84, true)⟩,
        ⟨.pick (.t 84) (.t 87) (.c (.p (.b false))), some 88, none⟩,
        ⟨.mv (.t 88), some 67, none⟩])
      (.keep [1, 3, 67] (.cond (.t 67)
      (.skip)
      (.seq (.reg false [] [⟨.faddr 3 (.t 3), some 89, none⟩,
          ⟨.load false 1 (.t 89), some 90, none⟩,
          ⟨.un .not (.t 90), some 91, none⟩,
          ⟨.mv (.t 91), some 92, none⟩,
          ⟨.faddr 5 (.t 1), some 93, some (92, true)⟩,
          ⟨.load false 1 (.t 93), some 94, some (92, true)⟩,
          ⟨.bin .neq .plain (.t 94) (.c (.p (.i .i64 0))), some 95, some (92, true)⟩,
          ⟨.pick (.t 92) (.t 95) (.c (.p (.b false))), some 96, none⟩,
          ⟨.mv (.t 96), some 67, none⟩])
        (.keep [1, 3, 67] (.cond (.t 67)
        (.skip)
        (.reg false [] [⟨.faddr 4 (.t 3), some 97, none⟩,
            ⟨.load false 1 (.t 97), some 98, none⟩,
            ⟨.un .not (.t 98), some 99, none⟩,
            ⟨.mv (.t 99), some 100, none⟩,
            ⟨.faddr 12 (.t 1), some 101, some (100, true)⟩,
            ⟨.load false 1 (.t 101), some 102, some (100, true)⟩,
            ⟨.bin .neq .plain (.t 102) (.c (.p (.s []))), some 103, some (100, true)⟩,
            ⟨.pick (.t 100) (.t 103) (.c (.p (.b false))), some 104, none⟩,
            ⟨.mv (.t 104), some 67, none⟩]))))))))))
    (.cond (.t 67)
    (.seq (.reg false [] [⟨.mv (.c (.p (.b false))), some 2, none⟩])
      (.ret))
    (.skip)))
def JJ : Jr := .seq (.reg false [] [⟨.faddr 12 (.t 1), some 105, none⟩,
    ⟨.load false 1 (.t 105), some 106, none⟩,
    ⟨.len true (.t 106), some 107, none⟩,
    ⟨.bin .leq .plain (.t 107) (.c (.p (.i .i64 8192))), some 108, none⟩,
    ⟨.mv (.t 108), some 109, none⟩,
    ⟨.faddr 5 (.t 3), some 110, some (109, true)⟩,
    ⟨.load false 1 (.t 110), some 111, some (109, true)⟩,
    ⟨.load true 13 (.t 1), some 112, some (109, true)⟩,
    ⟨.callv (.t 111) [(.t 112)] 0, some 113, some (109, true)⟩,
    ⟨.pick (.t 109) (.t 113) (.c (.p (.b false))), some 114, none⟩,
    ⟨.mv (.t 114), some 115, none⟩,
    ⟨.faddr 6 (.t 3), some 116, some (115, true)⟩,
    ⟨.load false 1 (.t 116), some 117, some (115, true)⟩,
    ⟨.faddr 6 (.t 1), some 118, some (115, true)⟩,
    ⟨.load true 6 (.t 118), some 119, some (115, true)⟩,
    ⟨.callv (.t 117) [(.t 119)] 0, some 120, some (115, true)⟩,
    ⟨.pick (.t 115) (.t 120) (.c (.p (.b false))), some 121, none⟩,
    ⟨.mv (.t 121), some 2, none⟩])
  (.ret)
def J0k : Jr := .seq (.block 0 (.seq (.seq (.reg false [] [⟨.faddr 0 (.t 3), some 48, none⟩,
    ⟨.load false 1 (.t 48), some 49, none⟩,
    ⟨.mv (.t 49), some 50, none⟩,
    ⟨.faddr 2 (.t 1), some 51, some (50, true)⟩,
    ⟨.load false 1 (.t 51), some 52, some (50, true)⟩,
    ⟨.bin .lss .plain (.t 52) (.c (.p (.i .i64 1))), some 53, some (50, true)⟩,
    ⟨.mv (.t 53), some 54, some (50, true)⟩,
    ⟨.faddr 2 (.t 1), some 55, some (54, false)⟩,
    ⟨.load false 1 (.t 55), some 56, some (54, false)⟩,
    ⟨.bin .gtr .plain (.t 56) (.c (.p (.i .i64 1073741824))), some 57, some (54, false)⟩,
    ⟨.pick (.t 54) (.c (.p (.b true))) (.t 57), some 58, some (50, true)⟩,
    ⟨.pick (.t 50) (.t 58) (.c (.p (.b false))), some 59, none⟩,
    ⟨.mv (.t 59), some 47, none⟩])
  (.keep [1, 3, 47] (.cond (.t 47)
  (.skip)
  (.reg false [] [⟨.faddr 1 (.t 3), some 60, none⟩,
      ⟨.load false 1 (.t 60), some 61, none⟩,
      ⟨.mv (.t 61), some 62, none⟩,
      ⟨.faddr 3 (.t 1), some 63, some (62, true)⟩,
      ⟨.load false 1 (.t 63), some 64, some (62, true)⟩,
      ⟨.bin .eql .plain (.t 64) (.c (.p (.i .i64 0))), some 65, some (62, true)⟩,
      ⟨.pick (.t 62) (.t 65) (.c (.p (.b false))), some 66, none⟩,
      ⟨.mv (.t 66), some 47, none⟩]))))
  (.keep [1, 3, 47] Jt)))
  (.keep [1, 3] JJ)
def JU : Jr := .seq (.reg false [] [⟨.box 13 (.t 0), some 1, none⟩,
    ⟨.mv (.c (.p (.b false))), some 2, none⟩])
  (.seq (.seq (.reg false [] [⟨.faddr 0 (.t 1), some 4, none⟩,
    ⟨.load false 1 (.t 4), some 5, none⟩,
    ⟨.bin .lss .plain (.t 5) (.c (.p (.i .i64 1))), some 6, none⟩,
    ⟨.mv (.t 6), some 7, none⟩,
    ⟨.faddr 0 (.t 1), some 8, some (7, false)⟩,
    ⟨.load false 1 (.t 8), some 9, some (7, false)⟩,
    ⟨.bin .gtr .plain (.t 9) (.c (.p (.i .i64 1099511627776))), some 10, some (7, false)⟩,
    ⟨.pick (.t 7) (.c (.p (.b true))) (.t 10), some 11, none⟩,
    ⟨.mv (.t 11), some 12, none⟩,
    ⟨.faddr 1 (.t 1), some 13, some (12, false)⟩,
    ⟨.load false 1 (.t 13), some 14, some (12, false)⟩,
    ⟨.bin .lss .plain (.t 14) (.c (.p (.i .i64 1))), some 15, some (12, false)⟩,
    ⟨.pick (.t 12) (.c (.p (.b true))) (.t 15), some 16, none⟩,
    ⟨.mv (.t 16), some 17, none⟩,
    ⟨.faddr 1 (.t 1), some 18, some (17, false)⟩,
    ⟨.load false 1 (.t 18), some 19, some (17, false)⟩,
    ⟨.bin .gtr .plain (.t 19) (.c (.p (.i .i64 8))), some 20, some (17, false)⟩,
    ⟨.pick (.t 17) (.c (.p (.b true))) (.t 20), some 21, none⟩,
    ⟨.mv (.t 21), some 22, none⟩,
    ⟨.faddr 3 (.t 1), some 23, some (22, false)⟩,
    ⟨.load false 1 (.t 23), some 24, some (22, false)⟩,
    ⟨.load true 13 (.t 1), some 25, some (22, false)⟩,
    ⟨.call J4f [(.t 24), (.t 25)] 0, some 26, some (22, false)⟩,
    ⟨.un .not (.t 26), some 27, some (22, false)⟩,
    ⟨.pick (.t 22) (.c (.p (.b true))) (.t 27), some 28, none⟩,
    ⟨.mv (.t 28), some 29, none⟩,
    ⟨.faddr 4 (.t 1), some 30, some (29, false)⟩,
    ⟨.load false 1 (.t 30), some 31, some (29, false)⟩,
    ⟨.load true 13 (.t 1), some 32, some (29, false)⟩,
    ⟨.call J4f [(.t 31), (.t 32)] 0, some 33, some (29, false)⟩,
    ⟨.un .not (.t 33), some 34, some (29, false)⟩,
    ⟨.pick (.t 29) (.c (.p (.b true))) (.t 34), some 35, none⟩,
    ⟨.mv (.t 35), some 36, none⟩,
    ⟨.faddr 5 (.t 1), some 37, some (36, false)⟩,
    ⟨.load false 1 (.t 37), some 38, some (36, false)⟩,
    ⟨.load true 13 (.t 1), some 39, some (36, false)⟩,
    ⟨.call J4f [(.t 38), (.t 39)] 0, some 40, some (36, false)⟩,
    ⟨.un .not (.t 40), some 41, some (36, false)⟩,
    ⟨.pick (.t 36) (.c (.p (.b true))) (.t 41), some 42, none⟩])
  (.keep [1, 42] (.cond (.t 42)
  (.seq (.reg false [] [⟨.mv (.c (.p (.b false))), some 2, none⟩])
    (.ret))
  (.skip))))
  (.seq (.reg true [(0, 2), (0, 4), (2, 4)] [⟨.call J60 [] 0, some 43, none⟩,
    ⟨.faddr 1 (.t 1), some 44, none⟩,
    ⟨.load false 1 (.t 44), some 45, none⟩,
    ⟨.aidx true 9 7 (.t 43) (.t 45), some 46, none⟩,
    ⟨.newbox [.b false, .b false, .b false, .b false, .b false, .nf, .nf], some 3, none⟩,
    ⟨.store 7 (.t 3) (.t 46), none, none⟩])
  (.keep [1, 3] J0k)))
def J0u : AFn := ⟨1, 122, JU, [.tmp 2], false⟩
def J0J : Jr := .seq (.reg false [] [⟨.newbox (J4 default), some 2, none⟩,
    ⟨.mv (.c (.p (.i .i64 0))), some 3, none⟩])
  (.seq (.block 0 (.seq (.reg false [] [⟨.mv (.t 0), some 9, none⟩,
    ⟨.len true (.t 9), some 10, none⟩,
    ⟨.bin .neq .plain (.t 10) (.c (.p (.i .i64 256))), some 11, none⟩,
    ⟨.mv (.t 11), some 8, none⟩])
  (.keep [0, 2, 8] (.cond (.t 8)
  (.seq (.reg false [] [⟨.build (J4 default) [], some 12, none⟩,
      ⟨.store 34 (.t 2) (.t 12), none, none⟩,
      ⟨.mv (.c (.p (.i .i64 2))), some 3, none⟩])
    (.ret))
  (.seq (.reg false [] [⟨.mv (.t 0), some 14, none⟩,
      ⟨.call J8a [] 0, some 15, none⟩,
      ⟨.bin .eql .plain (.t 14) (.t 15), some 16, none⟩,
      ⟨.mv (.t 16), some 13, none⟩])
    (.keep [0, 2, 13] (.cond (.t 13)
    (.seq (.reg false [] [⟨.build (J4 default) [], some 17, none⟩,
        ⟨.store 34 (.t 2) (.t 17), none, none⟩,
        ⟨.mv (.c (.p (.i .i64 7))), some 3, none⟩])
      (.ret))
    (.seq (.reg true [] [⟨.mv (.t 0), some 19, none⟩,
        ⟨.slice .str (.t 19) none (some (.c (.p (.i .i64 8)))) none, some 20, none⟩,
        ⟨.mv (.t 0), some 21, none⟩,
        ⟨.slice .str (.t 21) (some (.c (.p (.i .i64 248)))) none none, some 22, none⟩,
        ⟨.bin .neq .plain (.t 20) (.t 22), some 23, none⟩,
        ⟨.mv (.t 23), some 18, none⟩])
      (.keep [0, 2, 18] (.cond (.t 18)
      (.seq (.reg false [] [⟨.build (J4 default) [], some 24, none⟩,
          ⟨.store 34 (.t 2) (.t 24), none, none⟩,
          ⟨.mv (.c (.p (.i .i64 27))), some 3, none⟩])
        (.ret))
      (.seq (.reg true [] [⟨.mv (.t 0), some 26, none⟩,
          ⟨.call J40 [(.t 26), (.c (.p (.i .i64 244))), (.c (.p (.i .i64 4)))] 0, some 27, none⟩,
          ⟨.mv (.t 0), some 28, none⟩,
          ⟨.slice .str (.t 28) none (some (.c (.p (.i .i64 244)))) none, some 29, none⟩,
          ⟨.call J6t [(.t 29)] 0, some 30, none⟩,
          ⟨.conv (.int .i64) (.t 30), some 31, none⟩,
          ⟨.bin .neq .plain (.t 27) (.t 31), some 32, none⟩,
          ⟨.mv (.t 32), some 25, none⟩])
        (.keep [0, 2, 25] (.cond (.t 25)
        (.seq (.reg false [] [⟨.build (J4 default) [], some 33, none⟩,
            ⟨.store 34 (.t 2) (.t 33), none, none⟩,
            ⟨.mv (.c (.p (.i .i64 3))), some 3, none⟩])
          (.ret))
        (.skip))))))))))))))
  (.seq (.reg false [] [⟨.mv (.t 0), some 35, none⟩,
    ⟨.call J90 [(.t 35)] 0, some 36, none⟩,
    ⟨.mv (.t 36), some 34, none⟩,
    ⟨.extr (.t 34) 0, some 37, none⟩,
    ⟨.extr (.t 34) 1, some 38, none⟩,
    ⟨.newbox (J4 default), some 4, none⟩,
    ⟨.store 34 (.t 4) (.t 37), none, none⟩,
    ⟨.mv (.t 38), some 5, none⟩])
  (.keep [0, 2, 4, 5] (.seq (.seq (.reg false [] [⟨.load true 34 (.t 4), some 40, none⟩,
    ⟨.call J7d [(.t 40)] 0, some 41, none⟩,
    ⟨.mv (.t 41), some 39, none⟩,
    ⟨.extr (.t 39) 0, some 42, none⟩,
    ⟨.extr (.t 39) 1, some 43, none⟩,
    ⟨.mv (.t 42), some 6, none⟩,
    ⟨.mv (.t 43), some 7, none⟩])
  (.keep [0, 2, 4, 5, 6, 7] (.seq (.reg false [] [⟨.mv (.t 5), some 44, none⟩,
    ⟨.un .not (.t 44), some 45, none⟩,
    ⟨.mv (.t 45), some 46, none⟩,
    ⟨.mv (.t 7), some 47, some (46, false)⟩,
    ⟨.bin .neq .plain (.t 47) (.c (.p (.i .i64 0))), some 48, some (46, false)⟩,
    ⟨.pick (.t 46) (.c (.p (.b true))) (.t 48), some 49, none⟩,
    ⟨.mv (.t 49), some 50, none⟩,
    ⟨.mv (.t 6), some 51, some (50, false)⟩,
    ⟨.mv (.t 0), some 52, some (50, false)⟩,
    ⟨.bin .neq .plain (.t 51) (.t 52), some 53, some (50, false)⟩,
    ⟨.pick (.t 50) (.c (.p (.b true))) (.t 53), some 54, none⟩])
  (.keep [2, 4, 54] (.cond (.t 54)
  (.seq (.reg false [] [⟨.build (J4 default) [], some 55, none⟩,
      ⟨.store 34 (.t 2) (.t 55), none, none⟩,
      ⟨.mv (.c (.p (.i .i64 4))), some 3, none⟩])
    (.ret))
  (.skip))))))
  (.seq (.reg false [] [⟨.load true 34 (.t 4), some 56, none⟩,
    ⟨.store 34 (.t 2) (.t 56), none, none⟩,
    ⟨.mv (.c (.p (.i .i64 0))), some 3, none⟩])
  (.ret))))))
def J75 : AFn := ⟨1, 57, J0J, [.cell 2 true 34, .tmp 3], false⟩
def JaA : Jr := .seq (.reg false [] [⟨.mv (.t 5), some 35, none⟩,
    ⟨.mv (.t 7), some 36, none⟩,
    ⟨.call J4u [(.t 35), (.t 36), (.c (.p (.i .i64 1)))] 0, some 37, none⟩,
    ⟨.mv (.t 37), some 5, none⟩])
  (.keep [1, 5, 6] (.reg true [(5, 13)] [⟨.mv (.t 5), some 38, none⟩,
    ⟨.mv (.t 6), some 39, none⟩,
    ⟨.faddr 2 (.t 1), some 40, none⟩,
    ⟨.aaddr 16 2 (.t 40) (.t 39), some 41, none⟩,
    ⟨.faddr 1 (.t 41), some 42, none⟩,
    ⟨.load false 1 (.t 42), some 43, none⟩,
    ⟨.mv (.t 6), some 44, none⟩,
    ⟨.faddr 2 (.t 1), some 45, none⟩,
    ⟨.aaddr 16 2 (.t 45) (.t 44), some 46, none⟩,
    ⟨.faddr 1 (.t 46), some 47, none⟩,
    ⟨.load false 1 (.t 47), some 48, none⟩,
    ⟨.len true (.t 48), some 49, none⟩,
    ⟨.bin .sub .plain (.c (.p (.i .i64 12))) (.t 49), some 50, none⟩,
    ⟨.call J43 [(.t 50)] 0, some 51, none⟩,
    ⟨.bin .add .plain (.t 43) (.t 51), some 52, none⟩,
    ⟨.bin .add .plain (.t 38) (.t 52), some 53, none⟩,
    ⟨.mv (.t 53), some 5, none⟩]))
def J8D : Jr := .reg false [] [⟨.mv (.t 6), some 22, none⟩,
    ⟨.bin .add .plain (.t 22) (.c (.p (.i .i64 1))), some 23, none⟩,
    ⟨.mv (.t 23), some 6, none⟩]
def J1m : Jr := .seq (.seq (.reg false [] [⟨.mv (.t 6), some 20, none⟩,
    ⟨.bin .lss .plain (.t 20) (.c (.p (.i .i64 16))), some 21, none⟩])
  (.cond (.t 21)
  (.skip)
  (.exit 0)))
  (.seq (.block 1 (.seq (.reg false [] [⟨.mv (.c (.p (.i .i64 255))), some 7, none⟩])
  (.seq (.seq (.reg false [] [⟨.mv (.t 6), some 24, none⟩,
    ⟨.faddr 2 (.t 1), some 25, none⟩,
    ⟨.aaddr 16 2 (.t 25) (.t 24), some 26, none⟩,
    ⟨.faddr 0 (.t 26), some 27, none⟩,
    ⟨.load false 1 (.t 27), some 28, none⟩])
  (.keep [1, 5, 6, 7, 28] (.cond (.t 28)
  (.reg false [] [⟨.mv (.t 6), some 29, none⟩,
      ⟨.faddr 2 (.t 1), some 30, none⟩,
      ⟨.aaddr 16 2 (.t 30) (.t 29), some 31, none⟩,
      ⟨.faddr 1 (.t 31), some 32, none⟩,
      ⟨.load false 1 (.t 32), some 33, none⟩,
      ⟨.len true (.t 33), some 34, none⟩,
      ⟨.mv (.t 34), some 7, none⟩])
  (.skip))))
  (.keep [1, 5, 6, 7] JaA))))
  (.keep [1, 5, 6] J8D))
def J2y : Jr := .seq (.reg false [] [⟨.mv (.t 5), some 54, none⟩,
    ⟨.mv (.t 5), some 55, none⟩,
    ⟨.len true (.t 55), some 56, none⟩,
    ⟨.bin .sub .plain (.c (.p (.i .i64 244))) (.t 56), some 57, none⟩,
    ⟨.call J43 [(.t 57)] 0, some 58, none⟩,
    ⟨.bin .add .plain (.t 54) (.t 58), some 59, none⟩,
    ⟨.mv (.t 59), some 5, none⟩])
  (.keep [1, 5] (.seq (.reg false [] [⟨.mv (.t 5), some 60, none⟩,
    ⟨.mv (.t 5), some 61, none⟩,
    ⟨.call J7Q [(.t 61)] 0, some 62, none⟩,
    ⟨.conv (.int .i64) (.t 62), some 63, none⟩,
    ⟨.call J4u [(.t 60), (.t 63), (.c (.p (.i .i64 4)))] 0, some 64, none⟩,
    ⟨.mv (.t 64), some 5, none⟩])
  (.keep [1, 5] (.seq (.reg false [] [⟨.mv (.t 5), some 65, none⟩,
    ⟨.faddr 1 (.t 1), some 66, none⟩,
    ⟨.load false 1 (.t 66), some 67, none⟩,
    ⟨.call J4u [(.t 65), (.t 67), (.c (.p (.i .i64 8)))] 0, some 68, none⟩,
    ⟨.mv (.t 68), some 2, none⟩,
    ⟨.mv (.c (.p (.i .i64 0))), some 3, none⟩])
  (.ret)))))
def J5y : Jr := .seq (.reg false [] [⟨.box 34 (.t 0), some 1, none⟩,
    ⟨.mv (.c (.p (.s []))), some 2, none⟩,
    ⟨.mv (.c (.p (.i .i64 0))), some 3, none⟩])
  (.keep [1] (.seq (.seq (.reg false [] [⟨.load true 34 (.t 1), some 8, none⟩,
    ⟨.call J7c [(.t 8)] 0, some 9, none⟩,
    ⟨.mv (.t 9), some 4, none⟩])
  (.keep [1, 4] (.seq (.reg false [] [⟨.mv (.t 4), some 10, none⟩,
    ⟨.bin .neq .plain (.t 10) (.c (.p (.i .i64 0))), some 11, none⟩])
  (.cond (.t 11)
  (.seq (.reg false [] [⟨.mv (.t 4), some 12, none⟩,
      ⟨.mv (.c (.p (.s []))), some 2, none⟩,
      ⟨.mv (.t 12), some 3, none⟩])
    (.ret))
  (.skip)))))
  (.seq (.reg false [] [⟨.faddr 1 (.t 1), some 13, none⟩,
    ⟨.load false 1 (.t 13), some 14, none⟩,
    ⟨.call J4u [(.c (.p (.s []))), (.t 14), (.c (.p (.i .i64 8)))] 0, some 15, none⟩,
    ⟨.mv (.t 15), some 5, none⟩])
  (.keep [1, 5] (.seq (.reg false [] [⟨.mv (.t 5), some 16, none⟩,
    ⟨.faddr 0 (.t 1), some 17, none⟩,
    ⟨.load false 1 (.t 17), some 18, none⟩,
    ⟨.call J4u [(.t 16), (.t 18), (.c (.p (.i .i64 4)))] 0, some 19, none⟩,
    ⟨.mv (.t 19), some 5, none⟩])
  (.keep [1, 5] (.seq (.seq (.reg false [] [⟨.mv (.c (.p (.i .i64 0))), some 6, none⟩])
  (.block 0 (.loop [1, 5, 6] J1m)))
  (.keep [1, 5] J2y))))))))
def J1B : AFn := ⟨1, 69, J5y, [.tmp 2, .tmp 3], false⟩
def J5e : Jr := .reg true [] [⟨.mv (.t 0), some 3, none⟩,
    ⟨.mv (.t 0), some 4, none⟩,
    ⟨.nilchk (.t 4), some 5, none⟩,
    ⟨.faddr 0 (.t 5), some 6, none⟩,
    ⟨.load false 1 (.t 6), some 7, none⟩,
    ⟨.faddr 5 (.t 1), some 8, none⟩,
    ⟨.load false 1 (.t 8), some 9, none⟩,
    ⟨.mm true (.t 7) (.t 9), some 10, none⟩,
    ⟨.nilchk (.t 3), some 11, none⟩,
    ⟨.faddr 0 (.t 11), some 12, none⟩,
    ⟨.store 1 (.t 12) (.t 10), none, none⟩]
def J3M : AFn := ⟨2, 13, J5e, [], false⟩
def J5G : Jr := .seq (.reg false [] [⟨.box 1 (.t 0), some 3, none⟩,
    ⟨.newbox (Jj default), some 6, none⟩])
  (.seq (.reg false [] [⟨.faddr 0 (.t 3), some 7, none⟩,
    ⟨.load false 1 (.t 7), some 8, none⟩,
    ⟨.call J1f [(.t 8)] 1, some 9, none⟩,
    ⟨.faddr 0 (.t 3), some 10, none⟩,
    ⟨.store 1 (.t 10) (.t 9), none, none⟩])
  (.keep [1, 2, 3, 6] (.seq (.reg false [] [⟨.mv (.t 2), some 11, none⟩,
    ⟨.faddr 0 (.t 3), some 12, none⟩,
    ⟨.load false 1 (.t 12), some 13, none⟩,
    ⟨.mv (.t 1), some 14, none⟩,
    ⟨.iaddr 3 (.t 13) (.t 14), some 15, none⟩,
    ⟨.callv (.t 11) [(.t 15)] 0, some 16, none⟩])
  (.keep [3, 6] (.seq (.reg false [] [⟨.load true 1 (.t 3), some 17, none⟩,
    ⟨.store 1 (.t 6) (.t 17), none, none⟩])
  (.ret))))))
def J4j : AFn := ⟨3, 18, J5G, [.cell 6 true 1], false⟩
def J13 : Jr := .seq (.reg false [] [⟨.box 1 (.t 0), some 2, none⟩,
    ⟨.box 13 (.t 1), some 3, none⟩,
    ⟨.newbox (Jj default), some 4, none⟩,
    ⟨.mv (.c (.p (.i .i64 0))), some 5, none⟩])
  (.keep [2, 3, 4] (.seq (.block 0 (.seq (.reg false [] [⟨.load true 1 (.t 2), some 7, none⟩,
    ⟨.call J3z [(.t 7)] 0, some 8, none⟩,
    ⟨.un .not (.t 8), some 9, none⟩,
    ⟨.mv (.t 9), some 6, none⟩])
  (.keep [2, 3, 4, 6] (.cond (.t 6)
  (.seq (.reg false [] [⟨.build (Jj default) [], some 10, none⟩,
      ⟨.store 1 (.t 4) (.t 10), none, none⟩,
      ⟨.mv (.c (.p (.i .i64 28))), some 5, none⟩])
    (.ret))
  (.seq (.reg false [] [⟨.load true 13 (.t 3), some 12, none⟩,
      ⟨.call J7e [(.t 12)] 0, some 13, none⟩,
      ⟨.un .not (.t 13), some 14, none⟩,
      ⟨.mv (.t 14), some 11, none⟩])
    (.keep [2, 3, 4, 11] (.cond (.t 11)
    (.seq (.reg false [] [⟨.build (Jj default) [], some 15, none⟩,
        ⟨.store 1 (.t 4) (.t 15), none, none⟩,
        ⟨.mv (.c (.p (.i .i64 12))), some 5, none⟩])
      (.ret))
    (.seq (.reg false [] [⟨.faddr 1 (.t 3), some 17, none⟩,
        ⟨.load false 1 (.t 17), some 18, none⟩,
        ⟨.bin .neq .plain (.t 18) (.c (.p (.i .i64 7))), some 19, none⟩,
        ⟨.mv (.t 19), some 16, none⟩])
      (.keep [2, 3, 4, 16] (.cond (.t 16)
      (.seq (.reg false [] [⟨.load true 1 (.t 2), some 20, none⟩,
          ⟨.store 1 (.t 4) (.t 20), none, none⟩,
          ⟨.mv (.c (.p (.i .i64 0))), some 5, none⟩])
        (.ret))
      (.seq (.reg false [] [⟨.load true 1 (.t 2), some 22, none⟩,
          ⟨.faddr 6 (.t 3), some 23, none⟩,
          ⟨.faddr 0 (.t 23), some 24, none⟩,
          ⟨.load false 1 (.t 24), some 25, none⟩,
          ⟨.call J3w [(.t 22), (.t 25)] 0, some 26, none⟩,
          ⟨.un .not (.t 26), some 27, none⟩,
          ⟨.mv (.t 27), some 21, none⟩])
        (.keep [2, 3, 4, 21] (.cond (.t 21)
        (.seq (.reg false [] [⟨.build (Jj default) [], some 28, none⟩,
            ⟨.store 1 (.t 4) (.t 28), none, none⟩,
            ⟨.mv (.c (.p (.i .i64 1))), some 5, none⟩])
          (.ret))
        (.skip))))))))))))))
  (.seq (.reg false [] [⟨.load true 1 (.t 2), some 29, none⟩,
    ⟨.faddr 6 (.t 3), some 30, none⟩,
    ⟨.faddr 0 (.t 30), some 31, none⟩,
    ⟨.load false 1 (.t 31), some 32, none⟩,
    ⟨.mkfn J1j [] [(.t 3)], some 33, none⟩,
    ⟨.call J4i [(.t 29), (.t 32), (.t 33)] 0, some 34, none⟩,
    ⟨.store 1 (.t 4) (.t 34), none, none⟩,
    ⟨.mv (.c (.p (.i .i64 0))), some 5, none⟩])
  (.ret))))
def J5n : AFn := ⟨2, 35, J13, [.cell 4 true 1, .tmp 5], false⟩
def J1e : Jr := .seq (.reg false [] [⟨.newbox (J4 default), some 4, none⟩,
    ⟨.mv (.c (.p (.i .i64 0))), some 5, none⟩])
  (.seq (.seq (.reg false [] [⟨.mv (.t 1), some 8, none⟩,
    ⟨.call J6O [(.t 8)] 0, some 9, none⟩,
    ⟨.un .not (.t 9), some 10, none⟩])
  (.keep [0, 1, 4, 10] (.cond (.t 10)
  (.seq (.reg false [] [⟨.build (J4 default) [], some 11, none⟩,
      ⟨.store 34 (.t 4) (.t 11), none, none⟩,
      ⟨.mv (.c (.p (.i .i64 1))), some 5, none⟩])
    (.ret))
  (.skip))))
  (.seq (.reg false [] [⟨.mv (.t 0), some 13, none⟩,
    ⟨.call J70 [(.t 13)] 0, some 14, none⟩,
    ⟨.mv (.t 14), some 12, none⟩,
    ⟨.extr (.t 12) 0, some 15, none⟩,
    ⟨.extr (.t 12) 1, some 16, none⟩,
    ⟨.newbox (J4 default), some 6, none⟩,
    ⟨.store 34 (.t 6) (.t 15), none, none⟩,
    ⟨.mv (.t 16), some 7, none⟩])
  (.keep [1, 4, 6, 7] (.seq (.block 0 (.seq (.reg false [] [⟨.mv (.t 7), some 18, none⟩,
    ⟨.bin .eql .plain (.t 18) (.c (.p (.i .i64 7))), some 19, none⟩,
    ⟨.mv (.t 19), some 17, none⟩])
  (.keep [1, 4, 6, 7, 17] (.cond (.t 17)
  (.seq (.reg false [] [⟨.mv (.t 1), some 20, none⟩,
      ⟨.call J9T [(.t 20)] 0, some 21, none⟩,
      ⟨.store 34 (.t 4) (.t 21), none, none⟩,
      ⟨.mv (.c (.p (.i .i64 0))), some 5, none⟩])
    (.ret))
  (.seq (.reg false [] [⟨.mv (.t 7), some 23, none⟩,
      ⟨.bin .neq .plain (.t 23) (.c (.p (.i .i64 0))), some 24, none⟩,
      ⟨.mv (.t 24), some 22, none⟩])
    (.keep [1, 4, 6, 7, 22] (.cond (.t 22)
    (.seq (.reg false [] [⟨.build (J4 default) [], some 25, none⟩,
        ⟨.mv (.t 7), some 26, none⟩,
        ⟨.store 34 (.t 4) (.t 25), none, none⟩,
        ⟨.mv (.t 26), some 5, none⟩])
      (.ret))
    (.seq (.reg false [] [⟨.faddr 0 (.t 6), some 28, none⟩,
        ⟨.load false 1 (.t 28), some 29, none⟩,
        ⟨.mv (.t 1), some 30, none⟩,
        ⟨.bin .neq .plain (.t 29) (.t 30), some 31, none⟩,
        ⟨.mv (.t 31), some 27, none⟩])
      (.keep [4, 6, 27] (.cond (.t 27)
      (.seq (.reg false [] [⟨.build (J4 default) [], some 32, none⟩,
          ⟨.store 34 (.t 4) (.t 32), none, none⟩,
          ⟨.mv (.c (.p (.i .i64 6))), some 5, none⟩])
        (.ret))
      (.skip)))))))))))
  (.seq (.reg false [] [⟨.load true 34 (.t 6), some 33, none⟩,
    ⟨.store 34 (.t 4) (.t 33), none, none⟩,
    ⟨.mv (.c (.p (.i .i64 0))), some 5, none⟩])
  (.ret))))))
def J5P : AFn := ⟨2, 34, J1e, [.cell 4 true 34, .tmp 5], false⟩
def JaI : Jr := .reg false [] [⟨.mv (.t 7), some 55, none⟩,
    ⟨.bin .add .plain (.t 55) (.c (.p (.i .i64 1))), some 56, none⟩,
    ⟨.mv (.t 56), some 7, none⟩]
def J12 : Jr := .seq (.seq (.reg false [] [⟨.mv (.t 7), some 53, none⟩,
    ⟨.bin .lss .plain (.t 53) (.c (.p (.i .i64 16))), some 54, none⟩])
  (.cond (.t 54)
  (.skip)
  (.exit 1)))
  (.seq (.block 2 (.seq (.reg false [] [⟨.mv (.t 7), some 57, none⟩,
    ⟨.bin .mul .plain (.t 57) (.c (.p (.i .i64 13))), some 58, none⟩,
    ⟨.bin .add .plain (.c (.p (.i .i64 12))) (.t 58), some 59, none⟩,
    ⟨.mv (.t 59), some 8, none⟩])
  (.keep [0, 2, 6, 7, 8] (.seq (.reg false [] [⟨.mv (.t 0), some 60, none⟩,
    ⟨.mv (.t 8), some 61, none⟩,
    ⟨.sidx (.t 60) (.t 61), some 62, none⟩,
    ⟨.conv (.int .i64) (.t 62), some 63, none⟩,
    ⟨.mv (.t 63), some 9, none⟩])
  (.keep [0, 2, 6, 7, 8, 9] (.seq (.seq (.reg false [] [⟨.mv (.t 9), some 64, none⟩,
    ⟨.bin .eql .plain (.t 64) (.c (.p (.i .i64 255))), some 65, none⟩])
  (.cond (.t 65)
  (.exit 2)
  (.skip)))
  (.seq (.seq (.reg false [] [⟨.mv (.t 9), some 66, none⟩,
    ⟨.bin .gtr .plain (.t 66) (.c (.p (.i .i64 12))), some 67, none⟩])
  (.cond (.t 67)
  (.seq (.reg false [] [⟨.build (J4 default) [], some 68, none⟩,
      ⟨.store 34 (.t 2) (.t 68), none, none⟩,
      ⟨.mv (.c (.p (.i .i64 4))), some 3, none⟩])
    (.ret))
  (.skip)))
  (.reg false [] [⟨.mv (.t 7), some 69, none⟩,
    ⟨.mv (.t 0), some 70, none⟩,
    ⟨.mv (.t 8), some 71, none⟩,
    ⟨.bin .add .plain (.t 71) (.c (.p (.i .i64 1))), some 72, none⟩,
    ⟨.mv (.t 8), some 73, none⟩,
    ⟨.bin .add .plain (.t 73) (.c (.p (.i .i64 1))), some 74, none⟩,
    ⟨.mv (.t 9), some 75, none⟩,
    ⟨.bin .add .plain (.t 74) (.t 75), some 76, none⟩,
    ⟨.slice .str (.t 70) (some (.t 72)) (some (.t 76)) none, some 77, none⟩,
    ⟨.build (Jh default) [(0, 1, (.c (.p (.b true)))), (1, 1, (.t 77))], some 78, none⟩,
    ⟨.faddr 2 (.t 6), some 79, none⟩,
    ⟨.aaddr 16 2 (.t 79) (.t 69), some 80, none⟩,
    ⟨.store 2 (.t 80) (.t 78), none, none⟩]))))))))
  (.keep [0, 2, 6, 7] JaI))
def J1k : Jr := .seq (.seq (.reg false [] [⟨.load true 34 (.t 6), some 82, none⟩,
    ⟨.call J5g [(.t 82)] 0, some 83, none⟩,
    ⟨.mv (.t 83), some 81, none⟩,
    ⟨.extr (.t 81) 0, some 84, none⟩,
    ⟨.extr (.t 81) 1, some 85, none⟩,
    ⟨.mv (.t 84), some 10, none⟩,
    ⟨.mv (.t 85), some 11, none⟩])
  (.keep [0, 2, 6, 10, 11] (.seq (.reg false [] [⟨.mv (.t 11), some 86, none⟩,
    ⟨.bin .neq .plain (.t 86) (.c (.p (.i .i64 0))), some 87, none⟩,
    ⟨.mv (.t 87), some 88, none⟩,
    ⟨.mv (.t 10), some 89, some (88, false)⟩,
    ⟨.mv (.t 0), some 90, some (88, false)⟩,
    ⟨.bin .neq .plain (.t 89) (.t 90), some 91, some (88, false)⟩,
    ⟨.pick (.t 88) (.c (.p (.b true))) (.t 91), some 92, none⟩])
  (.keep [2, 6, 92] (.cond (.t 92)
  (.seq (.reg false [] [⟨.build (J4 default) [], some 93, none⟩,
      ⟨.store 34 (.t 2) (.t 93), none, none⟩,
      ⟨.mv (.c (.p (.i .i64 4))), some 3, none⟩])
    (.ret))
  (.skip))))))
  (.seq (.reg false [] [⟨.load true 34 (.t 6), some 94, none⟩,
    ⟨.store 34 (.t 2) (.t 94), none, none⟩,
    ⟨.mv (.c (.p (.i .i64 0))), some 3, none⟩])
  (.ret))
def J1Q : Jr := .seq (.reg false [] [⟨.newbox (J4 default), some 2, none⟩,
    ⟨.mv (.c (.p (.i .i64 0))), some 3, none⟩])
  (.seq (.block 0 (.seq (.reg false [] [⟨.mv (.t 0), some 13, none⟩,
    ⟨.len true (.t 13), some 14, none⟩,
    ⟨.bin .neq .plain (.t 14) (.c (.p (.i .i64 256))), some 15, none⟩,
    ⟨.mv (.t 15), some 12, none⟩])
  (.keep [0, 2, 12] (.cond (.t 12)
  (.seq (.reg false [] [⟨.build (J4 default) [], some 16, none⟩,
      ⟨.store 34 (.t 2) (.t 16), none, none⟩,
      ⟨.mv (.c (.p (.i .i64 2))), some 3, none⟩])
    (.ret))
  (.seq (.reg false [] [⟨.mv (.t 0), some 18, none⟩,
      ⟨.call J69 [] 0, some 19, none⟩,
      ⟨.bin .eql .plain (.t 18) (.t 19), some 20, none⟩,
      ⟨.mv (.t 20), some 17, none⟩])
    (.keep [0, 2, 17] (.cond (.t 17)
    (.seq (.reg false [] [⟨.build (J4 default) [], some 21, none⟩,
        ⟨.store 34 (.t 2) (.t 21), none, none⟩,
        ⟨.mv (.c (.p (.i .i64 7))), some 3, none⟩])
      (.ret))
    (.seq (.reg true [] [⟨.mv (.t 0), some 23, none⟩,
        ⟨.slice .str (.t 23) none (some (.c (.p (.i .i64 8)))) none, some 24, none⟩,
        ⟨.mv (.t 0), some 25, none⟩,
        ⟨.slice .str (.t 25) (some (.c (.p (.i .i64 248)))) none none, some 26, none⟩,
        ⟨.bin .neq .plain (.t 24) (.t 26), some 27, none⟩,
        ⟨.mv (.t 27), some 22, none⟩])
      (.keep [0, 2, 22] (.cond (.t 22)
      (.seq (.reg false [] [⟨.build (J4 default) [], some 28, none⟩,
          ⟨.store 34 (.t 2) (.t 28), none, none⟩,
          ⟨.mv (.c (.p (.i .i64 27))), some 3, none⟩])
        (.ret))
      (.skip)))))))))))
  (.seq (.reg false [] [⟨.mv (.t 0), some 30, none⟩,
    ⟨.call J6v [(.t 30), (.c (.p (.i .i64 244))), (.c (.p (.i .i64 4)))] 0, some 31, none⟩,
    ⟨.mv (.t 31), some 29, none⟩,
    ⟨.extr (.t 29) 0, some 32, none⟩,
    ⟨.extr (.t 29) 1, some 33, none⟩,
    ⟨.mv (.t 32), some 4, none⟩,
    ⟨.mv (.t 33), some 5, none⟩])
  (.keep [0, 2, 4] (.seq (.seq (.reg false [] [⟨.mv (.t 4), some 34, none⟩,
    ⟨.conv (.int .u32) (.t 34), some 35, none⟩,
    ⟨.mv (.t 0), some 36, none⟩,
    ⟨.slice .str (.t 36) none (some (.c (.p (.i .i64 244)))) none, some 37, none⟩,
    ⟨.call J7Q [(.t 37)] 0, some 38, none⟩,
    ⟨.bin .neq .plain (.t 35) (.t 38), some 39, none⟩])
  (.keep [0, 2, 39] (.cond (.t 39)
  (.seq (.reg false [] [⟨.build (J4 default) [], some 40, none⟩,
      ⟨.store 34 (.t 2) (.t 40), none, none⟩,
      ⟨.mv (.c (.p (.i .i64 3))), some 3, none⟩])
    (.ret))
  (.skip))))
  (.seq (.reg false [] [⟨.newbox (J4 default), some 6, none⟩])
  (.seq (.reg false [] [⟨.mv (.t 0), some 42, none⟩,
    ⟨.call J6v [(.t 42), (.c (.p (.i .i64 0))), (.c (.p (.i .i64 8)))] 0, some 43, none⟩,
    ⟨.mv (.t 43), some 41, none⟩,
    ⟨.extr (.t 41) 0, some 44, none⟩,
    ⟨.extr (.t 41) 1, some 45, none⟩,
    ⟨.faddr 1 (.t 6), some 46, none⟩,
    ⟨.store 1 (.t 46) (.t 44), none, none⟩])
  (.keep [0, 2, 6] (.seq (.reg false [] [⟨.mv (.t 0), some 48, none⟩,
    ⟨.call J6v [(.t 48), (.c (.p (.i .i64 8))), (.c (.p (.i .i64 4)))] 0, some 49, none⟩,
    ⟨.mv (.t 49), some 47, none⟩,
    ⟨.extr (.t 47) 0, some 50, none⟩,
    ⟨.extr (.t 47) 1, some 51, none⟩,
    ⟨.faddr 0 (.t 6), some 52, none⟩,
    ⟨.store 1 (.t 52) (.t 50), none, none⟩])
  (.keep [0, 2, 6] (.seq (.seq (.reg false [] [⟨.mv (.c (.p (.i .i64 0))), some 7, none⟩])
  (.block 1 (.loop [0, 2, 6, 7] J12)))
  (.keep [0, 2, 6] J1k)))))))))))
def J1U : AFn := ⟨1, 95, J1Q, [.cell 2 true 34, .tmp 3], false⟩
def J1T : Jr := .seq (.reg false [] [⟨.mv (.c (.p (.b false))), some 0, none⟩])
  (.seq (.reg false [] [⟨.call J5Q [(.c (.p (.i .i64 2)))] 0, some 6, none⟩,
    ⟨.mv (.t 6), some 5, none⟩,
    ⟨.extr (.t 5) 0, some 7, none⟩,
    ⟨.extr (.t 5) 1, some 8, none⟩,
    ⟨.newbox (Jj default), some 1, none⟩,
    ⟨.store 1 (.t 1) (.t 7), none, none⟩,
    ⟨.mv (.t 8), some 2, none⟩])
  (.keep [1, 2] (.seq (.reg false [] [⟨.load true 1 (.t 1), some 10, none⟩,
    ⟨.build (Jf default) [(0, 1, (.c (.p (.i .i64 1))))], some 11, none⟩,
    ⟨.build (J7 default) [(0, 1, (.c (.p (.i .i64 9)))), (1, 1, (.c (.p (.i .i64 7)))), (5, 1, (.c (.p (.i .i64 5)))), (6, 6, (.t 11))], some 12, none⟩,
    ⟨.call J47 [(.t 10), (.t 12)] 0, some 13, none⟩,
    ⟨.mv (.t 13), some 9, none⟩,
    ⟨.extr (.t 9) 0, some 14, none⟩,
    ⟨.extr (.t 9) 1, some 15, none⟩,
    ⟨.store 1 (.t 1) (.t 14), none, none⟩,
    ⟨.mv (.t 15), some 3, none⟩])
  (.keep [1, 2, 3] (.seq (.reg false [] [⟨.load true 1 (.t 1), some 17, none⟩,
    ⟨.build (Jf default) [(0, 1, (.c (.p (.i .i64 1))))], some 18, none⟩,
    ⟨.build (J7 default) [(0, 1, (.c (.p (.i .i64 10)))), (1, 1, (.c (.p (.i .i64 7)))), (5, 1, (.c (.p (.i .i64 3)))), (6, 6, (.t 18))], some 19, none⟩,
    ⟨.call J47 [(.t 17), (.t 19)] 0, some 20, none⟩,
    ⟨.mv (.t 20), some 16, none⟩,
    ⟨.extr (.t 16) 0, some 21, none⟩,
    ⟨.extr (.t 16) 1, some 22, none⟩,
    ⟨.store 1 (.t 1) (.t 21), none, none⟩,
    ⟨.mv (.t 22), some 4, none⟩])
  (.keep [1, 2, 3, 4] (.seq (.reg false [] [⟨.mv (.t 2), some 23, none⟩,
    ⟨.bin .eql .plain (.t 23) (.c (.p (.i .i64 0))), some 24, none⟩,
    ⟨.mv (.t 24), some 25, none⟩,
    ⟨.mv (.t 3), some 26, some (25, true)⟩,
    ⟨.bin .eql .plain (.t 26) (.c (.p (.i .i64 0))), some 27, some (25, true)⟩,
    ⟨.pick (.t 25) (.t 27) (.c (.p (.b false))), some 28, none⟩,
    ⟨.mv (.t 28), some 29, none⟩,
    ⟨.mv (.t 4), some 30, some (29, true)⟩,
    ⟨.bin .eql .plain (.t 30) (.c (.p (.i .i64 0))), some 31, some (29, true)⟩,
    ⟨.pick (.t 29) (.t 31) (.c (.p (.b false))), some 32, none⟩,
    ⟨.mv (.t 32), some 33, none⟩,
    ⟨.faddr 0 (.t 1), some 34, some (33, true)⟩,
    ⟨.load false 1 (.t 34), some 35, some (33, true)⟩,
    ⟨.len false (.t 35), some 36, some (33, true)⟩,
    ⟨.bin .eql .plain (.t 36) (.c (.p (.i .i64 2))), some 37, some (33, true)⟩,
    ⟨.pick (.t 33) (.t 37) (.c (.p (.b false))), some 38, none⟩,
    ⟨.mv (.t 38), some 39, none⟩,
    ⟨.faddr 0 (.t 1), some 40, some (39, true)⟩,
    ⟨.load false 1 (.t 40), some 41, some (39, true)⟩,
    ⟨.iaddr 3 (.t 41) (.c (.p (.i .i64 1))), some 42, some (39, true)⟩,
    ⟨.faddr 0 (.t 42), some 43, some (39, true)⟩,
    ⟨.load false 1 (.t 43), some 44, some (39, true)⟩,
    ⟨.bin .eql .plain (.t 44) (.c (.p (.i .i64 5))), some 45, some (39, true)⟩,
    ⟨.pick (.t 39) (.t 45) (.c (.p (.b false))), some 46, none⟩,
    ⟨.mv (.t 46), some 0, none⟩])
  (.ret))))))))
def J79 : AFn := ⟨0, 47, J1T, [.tmp 0], false⟩
def J04 : Jr := .seq (.reg false [] [⟨.box 1 (.t 0), some 4, none⟩,
    ⟨.newbox (J4 default), some 8, none⟩,
    ⟨.mv (.c (.p (.i .i64 0))), some 9, none⟩])
  (.keep [1, 2, 3, 4, 8] (.seq (.block 0 (.seq (.reg false [] [⟨.load true 1 (.t 4), some 14, none⟩,
    ⟨.call J3z [(.t 14)] 0, some 15, none⟩,
    ⟨.un .not (.t 15), some 16, none⟩,
    ⟨.mv (.t 16), some 13, none⟩])
  (.keep [1, 2, 3, 4, 8, 13] (.cond (.t 13)
  (.seq (.reg false [] [⟨.build (J4 default) [], some 17, none⟩,
      ⟨.store 34 (.t 8) (.t 17), none, none⟩,
      ⟨.mv (.c (.p (.i .i64 28))), some 9, none⟩])
    (.ret))
  (.seq (.reg false [] [⟨.load true 1 (.t 4), some 19, none⟩,
      ⟨.mv (.t 1), some 20, none⟩,
      ⟨.call J3w [(.t 19), (.t 20)] 0, some 21, none⟩,
      ⟨.un .not (.t 21), some 22, none⟩,
      ⟨.mv (.t 22), some 23, none⟩,
      ⟨.mv (.t 2), some 24, some (23, false)⟩,
      ⟨.bin .lss .plain (.t 24) (.c (.p (.i .i64 0))), some 25, some (23, false)⟩,
      ⟨.pick (.t 23) (.c (.p (.b true))) (.t 25), some 26, none⟩,
      ⟨.mv (.t 26), some 18, none⟩])
    (.keep [1, 2, 3, 4, 8, 18] (.cond (.t 18)
    (.seq (.reg false [] [⟨.build (J4 default) [], some 27, none⟩,
        ⟨.store 34 (.t 8) (.t 27), none, none⟩,
        ⟨.mv (.c (.p (.i .i64 1))), some 9, none⟩])
      (.ret))
    (.skip))))))))
  (.seq (.reg false [] [⟨.mv (.t 3), some 29, none⟩,
    ⟨.mv (.t 1), some 30, none⟩,
    ⟨.call J5M [(.t 29), (.t 30)] 0, some 31, none⟩,
    ⟨.mv (.t 31), some 28, none⟩,
    ⟨.extr (.t 28) 0, some 32, none⟩,
    ⟨.extr (.t 28) 1, some 33, none⟩,
    ⟨.newbox (J4 default), some 10, none⟩,
    ⟨.store 34 (.t 10) (.t 32), none, none⟩,
    ⟨.mv (.t 33), some 11, none⟩])
  (.keep [1, 2, 4, 8, 10, 11] (.seq (.seq (.reg false [] [⟨.faddr 0 (.t 4), some 34, none⟩,
    ⟨.load false 1 (.t 34), some 35, none⟩,
    ⟨.mv (.t 1), some 36, none⟩,
    ⟨.iaddr 3 (.t 35) (.t 36), some 37, none⟩,
    ⟨.faddr 0 (.t 37), some 38, none⟩,
    ⟨.load false 1 (.t 38), some 39, none⟩,
    ⟨.mv (.t 39), some 12, none⟩])
  (.keep [2, 8, 10, 11, 12] (.block 1 (.seq (.reg false [] [⟨.mv (.t 11), some 41, none⟩,
    ⟨.bin .neq .plain (.t 41) (.c (.p (.i .i64 0))), some 42, none⟩,
    ⟨.mv (.t 42), some 40, none⟩])
  (.keep [2, 8, 10, 11, 12, 40] (.cond (.t 40)
  (.seq (.reg false [] [⟨.build (J4 default) [], some 43, none⟩,
      ⟨.mv (.t 11), some 44, none⟩,
      ⟨.store 34 (.t 8) (.t 43), none, none⟩,
      ⟨.mv (.t 44), some 9, none⟩])
    (.ret))
  (.seq (.reg false [] [⟨.faddr 1 (.t 10), some 46, none⟩,
      ⟨.load false 1 (.t 46), some 47, none⟩,
      ⟨.mv (.t 2), some 48, none⟩,
      ⟨.bin .gtr .plain (.t 47) (.t 48), some 49, none⟩,
      ⟨.mv (.t 49), some 50, none⟩,
      ⟨.faddr 1 (.t 10), some 51, some (50, true)⟩,
      ⟨.load false 1 (.t 51), some 52, some (50, true)⟩,
      ⟨.mv (.t 12), some 53, some (50, true)⟩,
      ⟨.bin .gtr .plain (.t 52) (.t 53), some 54, some (50, true)⟩,
      ⟨.pick (.t 50) (.t 54) (.c (.p (.b false))), some 55, none⟩,
      ⟨.mv (.t 55), some 45, none⟩])
    (.keep [8, 10, 12, 45] (.cond (.t 45)
    (.seq (.reg false [] [⟨.build (J4 default) [], some 56, none⟩,
        ⟨.store 34 (.t 8) (.t 56), none, none⟩,
        ⟨.mv (.c (.p (.i .i64 9))), some 9, none⟩])
      (.ret))
    (.seq (.reg false [] [⟨.faddr 1 (.t 10), some 58, none⟩,
        ⟨.load false 1 (.t 58), some 59, none⟩,
        ⟨.mv (.t 12), some 60, none⟩,
        ⟨.bin .lss .plain (.t 59) (.t 60), some 61, none⟩,
        ⟨.mv (.t 61), some 57, none⟩])
      (.keep [8, 10, 57] (.cond (.t 57)
      (.seq (.reg false [] [⟨.build (J4 default) [], some 62, none⟩,
          ⟨.store 34 (.t 8) (.t 62), none, none⟩,
          ⟨.mv (.c (.p (.i .i64 8))), some 9, none⟩])
        (.ret))
      (.skip)))))))))))))
  (.seq (.reg false [] [⟨.load true 34 (.t 10), some 63, none⟩,
    ⟨.store 34 (.t 8) (.t 63), none, none⟩,
    ⟨.mv (.c (.p (.i .i64 0))), some 9, none⟩])
  (.ret)))))))
def J4S : AFn := ⟨4, 64, J04, [.cell 8 true 34, .tmp 9], false⟩
def J0O : Jr := .seq (.reg false [] [⟨.newbox (J4 default), some 4, none⟩,
    ⟨.mv (.c (.p (.i .i64 0))), some 5, none⟩])
  (.seq (.seq (.reg false [] [⟨.mv (.t 1), some 8, none⟩,
    ⟨.bin .lss .plain (.t 8) (.c (.p (.i .i64 0))), some 9, none⟩,
    ⟨.mv (.t 9), some 10, none⟩,
    ⟨.mv (.t 1), some 11, some (10, false)⟩,
    ⟨.bin .geq .plain (.t 11) (.c (.p (.i .i64 64))), some 12, some (10, false)⟩,
    ⟨.pick (.t 10) (.c (.p (.b true))) (.t 12), some 13, none⟩])
  (.keep [0, 1, 4, 13] (.cond (.t 13)
  (.seq (.reg false [] [⟨.build (J4 default) [], some 14, none⟩,
      ⟨.store 34 (.t 4) (.t 14), none, none⟩,
      ⟨.mv (.c (.p (.i .i64 1))), some 5, none⟩])
    (.ret))
  (.skip))))
  (.seq (.reg false [] [⟨.mv (.t 0), some 16, none⟩,
    ⟨.call J6C [(.t 16)] 0, some 17, none⟩,
    ⟨.mv (.t 17), some 15, none⟩,
    ⟨.extr (.t 15) 0, some 18, none⟩,
    ⟨.extr (.t 15) 1, some 19, none⟩,
    ⟨.newbox (J4 default), some 6, none⟩,
    ⟨.store 34 (.t 6) (.t 18), none, none⟩,
    ⟨.mv (.t 19), some 7, none⟩])
  (.keep [1, 4, 6, 7] (.seq (.seq (.reg false [] [⟨.mv (.t 7), some 20, none⟩,
    ⟨.bin .eql .plain (.t 20) (.c (.p (.i .i64 7))), some 21, none⟩])
  (.cond (.t 21)
  (.seq (.reg false [] [⟨.mv (.t 1), some 22, none⟩,
      ⟨.call J8W [(.t 22)] 0, some 23, none⟩,
      ⟨.store 34 (.t 4) (.t 23), none, none⟩,
      ⟨.mv (.c (.p (.i .i64 0))), some 5, none⟩])
    (.ret))
  (.skip)))
  (.seq (.seq (.reg false [] [⟨.mv (.t 7), some 24, none⟩,
    ⟨.bin .eql .plain (.t 24) (.c (.p (.i .i64 0))), some 25, none⟩,
    ⟨.mv (.t 25), some 26, none⟩,
    ⟨.faddr 0 (.t 6), some 27, some (26, true)⟩,
    ⟨.load false 1 (.t 27), some 28, some (26, true)⟩,
    ⟨.mv (.t 1), some 29, some (26, true)⟩,
    ⟨.bin .neq .plain (.t 28) (.t 29), some 30, some (26, true)⟩,
    ⟨.pick (.t 26) (.t 30) (.c (.p (.b false))), some 31, none⟩])
  (.keep [4, 6, 7, 31] (.cond (.t 31)
  (.seq (.reg false [] [⟨.build (J4 default) [], some 32, none⟩,
      ⟨.store 34 (.t 4) (.t 32), none, none⟩,
      ⟨.mv (.c (.p (.i .i64 6))), some 5, none⟩])
    (.ret))
  (.skip))))
  (.seq (.reg false [] [⟨.load true 34 (.t 6), some 33, none⟩,
    ⟨.mv (.t 7), some 34, none⟩,
    ⟨.store 34 (.t 4) (.t 33), none, none⟩,
    ⟨.mv (.t 34), some 5, none⟩])
  (.ret)))))))
def J5x : AFn := ⟨2, 35, J0O, [.cell 4 true 34, .tmp 5], false⟩
def J0l : Jr := .seq (.reg false [] [⟨.box 1 (.t 0), some 4, none⟩,
    ⟨.newbox (J4 default), some 8, none⟩,
    ⟨.mv (.c (.p (.i .i64 0))), some 9, none⟩])
  (.keep [1, 2, 3, 4, 8] (.seq (.seq (.reg false [] [⟨.load true 1 (.t 4), some 12, none⟩,
    ⟨.call J7i [(.t 12)] 0, some 13, none⟩,
    ⟨.un .not (.t 13), some 14, none⟩])
  (.keep [1, 2, 3, 4, 8, 14] (.cond (.t 14)
  (.seq (.reg false [] [⟨.build (J4 default) [], some 15, none⟩,
      ⟨.store 34 (.t 8) (.t 15), none, none⟩,
      ⟨.mv (.c (.p (.i .i64 28))), some 9, none⟩])
    (.ret))
  (.skip))))
  (.seq (.seq (.reg false [] [⟨.mv (.t 1), some 16, none⟩,
    ⟨.bin .lss .plain (.t 16) (.c (.p (.i .i64 0))), some 17, none⟩,
    ⟨.mv (.t 17), some 18, none⟩,
    ⟨.mv (.t 1), some 19, some (18, false)⟩,
    ⟨.faddr 0 (.t 4), some 20, some (18, false)⟩,
    ⟨.load false 1 (.t 20), some 21, some (18, false)⟩,
    ⟨.len false (.t 21), some 22, some (18, false)⟩,
    ⟨.bin .geq .plain (.t 19) (.t 22), some 23, some (18, false)⟩,
    ⟨.pick (.t 18) (.c (.p (.b true))) (.t 23), some 24, none⟩,
    ⟨.mv (.t 24), some 25, none⟩,
    ⟨.mv (.t 2), some 26, some (25, false)⟩,
    ⟨.bin .lss .plain (.t 26) (.c (.p (.i .i64 0))), some 27, some (25, false)⟩,
    ⟨.pick (.t 25) (.c (.p (.b true))) (.t 27), some 28, none⟩])
  (.keep [1, 2, 3, 4, 8, 28] (.cond (.t 28)
  (.seq (.reg false [] [⟨.build (J4 default) [], some 29, none⟩,
      ⟨.store 34 (.t 8) (.t 29), none, none⟩,
      ⟨.mv (.c (.p (.i .i64 1))), some 9, none⟩])
    (.ret))
  (.skip))))
  (.seq (.reg false [] [⟨.mv (.t 3), some 31, none⟩,
    ⟨.mv (.t 1), some 32, none⟩,
    ⟨.call J5p [(.t 31), (.t 32)] 0, some 33, none⟩,
    ⟨.mv (.t 33), some 30, none⟩,
    ⟨.extr (.t 30) 0, some 34, none⟩,
    ⟨.extr (.t 30) 1, some 35, none⟩,
    ⟨.newbox (J4 default), some 10, none⟩,
    ⟨.store 34 (.t 10) (.t 34), none, none⟩,
    ⟨.mv (.t 35), some 11, none⟩])
  (.keep [1, 2, 4, 8, 10, 11] (.seq (.block 0 (.seq (.reg false [] [⟨.mv (.t 11), some 37, none⟩,
    ⟨.bin .neq .plain (.t 37) (.c (.p (.i .i64 0))), some 38, none⟩,
    ⟨.mv (.t 38), some 36, none⟩])
  (.keep [1, 2, 4, 8, 10, 11, 36] (.cond (.t 36)
  (.seq (.reg false [] [⟨.build (J4 default) [], some 39, none⟩,
      ⟨.mv (.t 11), some 40, none⟩,
      ⟨.store 34 (.t 8) (.t 39), none, none⟩,
      ⟨.mv (.t 40), some 9, none⟩])
    (.ret))
  (.seq (.reg true [] [⟨.faddr 1 (.t 10), some 42, none⟩,
      ⟨.load false 1 (.t 42), some 43, none⟩,
      ⟨.mv (.t 2), some 44, none⟩,
      ⟨.bin .gtr .plain (.t 43) (.t 44), some 45, none⟩,
      ⟨.mv (.t 45), some 46, none⟩,
      ⟨.faddr 1 (.t 10), some 47, some (46, true)⟩,
      ⟨.load false 1 (.t 47), some 48, some (46, true)⟩,
      ⟨.faddr 0 (.t 4), some 49, some (46, true)⟩,
      ⟨.load false 1 (.t 49), some 50, some (46, true)⟩,
      ⟨.mv (.t 1), some 51, some (46, true)⟩,
      ⟨.iaddr 3 (.t 50) (.t 51), some 52, some (46, true)⟩,
      ⟨.faddr 0 (.t 52), some 53, some (46, true)⟩,
      ⟨.load false 1 (.t 53), some 54, some (46, true)⟩,
      ⟨.bin .gtr .plain (.t 48) (.t 54), some 55, some (46, true)⟩,
      ⟨.pick (.t 46) (.t 55) (.c (.p (.b false))), some 56, none⟩,
      ⟨.mv (.t 56), some 41, none⟩])
    (.keep [1, 4, 8, 10, 41] (.cond (.t 41)
    (.seq (.reg false [] [⟨.build (J4 default) [], some 57, none⟩,
        ⟨.store 34 (.t 8) (.t 57), none, none⟩,
        ⟨.mv (.c (.p (.i .i64 9))), some 9, none⟩])
      (.ret))
    (.seq (.reg true [] [⟨.faddr 1 (.t 10), some 59, none⟩,
        ⟨.load false 1 (.t 59), some 60, none⟩,
        ⟨.faddr 0 (.t 4), some 61, none⟩,
        ⟨.load false 1 (.t 61), some 62, none⟩,
        ⟨.mv (.t 1), some 63, none⟩,
        ⟨.iaddr 3 (.t 62) (.t 63), some 64, none⟩,
        ⟨.faddr 0 (.t 64), some 65, none⟩,
        ⟨.load false 1 (.t 65), some 66, none⟩,
        ⟨.bin .lss .plain (.t 60) (.t 66), some 67, none⟩,
        ⟨.mv (.t 67), some 58, none⟩])
      (.keep [8, 10, 58] (.cond (.t 58)
      (.seq (.reg false [] [⟨.build (J4 default) [], some 68, none⟩,
          ⟨.store 34 (.t 8) (.t 68), none, none⟩,
          ⟨.mv (.c (.p (.i .i64 8))), some 9, none⟩])
        (.ret))
      (.skip)))))))))))
  (.seq (.reg false [] [⟨.load true 34 (.t 10), some 69, none⟩,
    ⟨.store 34 (.t 8) (.t 69), none, none⟩,
    ⟨.mv (.c (.p (.i .i64 0))), some 9, none⟩])
  (.ret))))))))
def J72 : AFn := ⟨4, 70, J0l, [.cell 8 true 34, .tmp 9], false⟩
def J0d : Jr := .seq (.reg false [] [⟨.bin .lss .plain (.t 103) (.t 102), some 104, none⟩])
  (.seq (.cond (.t 104)
  (.skip)
  (.exit 4))
  (.seq (.block 5 (.seq (.reg false [] [⟨.iaddr 2 (.t 101) (.t 103), some 105, none⟩,
    ⟨.load true 2 (.t 105), some 106, none⟩,
    ⟨.newbox (JO (r_i .i64) (Vector.replicate 2 (0 : Int))), some 21, none⟩,
    ⟨.store 2 (.t 21) (.t 106), none, none⟩])
  (.keep [2, 3, 4, 11, 13, 14, 17, 19, 21, 66, 67, 68, 78, 79, 80, 101, 102, 103] (.seq (.reg false [] [⟨.load true 1 (.t 17), some 108, none⟩,
    ⟨.aaddr 2 1 (.t 21) (.c (.p (.i .i64 0))), some 109, none⟩,
    ⟨.load false 1 (.t 109), some 110, none⟩,
    ⟨.aaddr 2 1 (.t 21) (.c (.p (.i .i64 1))), some 111, none⟩,
    ⟨.load false 1 (.t 111), some 112, none⟩,
    ⟨.mv (.t 19), some 113, none⟩,
    ⟨.call J4L [(.t 108), (.t 110), (.t 112), (.t 113)] 0, some 114, none⟩,
    ⟨.mv (.t 114), some 107, none⟩,
    ⟨.extr (.t 107) 0, some 115, none⟩,
    ⟨.extr (.t 107) 1, some 116, none⟩,
    ⟨.newbox (J4 default), some 22, none⟩,
    ⟨.store 34 (.t 22) (.t 115), none, none⟩,
    ⟨.mv (.t 116), some 23, none⟩])
  (.keep [2, 3, 4, 11, 13, 14, 17, 19, 21, 22, 23, 66, 67, 68, 78, 79, 80, 101, 102, 103] (.seq (.reg false [] [⟨.load true 1 (.t 17), some 118, none⟩,
    ⟨.aaddr 2 1 (.t 21) (.c (.p (.i .i64 0))), some 119, none⟩,
    ⟨.load false 1 (.t 119), some 120, none⟩,
    ⟨.aaddr 2 1 (.t 21) (.c (.p (.i .i64 1))), some 121, none⟩,
    ⟨.load false 1 (.t 121), some 122, none⟩,
    ⟨.mv (.t 19), some 123, none⟩,
    ⟨.call J76 [(.t 118), (.t 120), (.t 122), (.t 123)] 0, some 124, none⟩,
    ⟨.mv (.t 124), some 117, none⟩,
    ⟨.extr (.t 117) 0, some 125, none⟩,
    ⟨.extr (.t 117) 1, some 126, none⟩,
    ⟨.newbox (J4 default), some 24, none⟩,
    ⟨.store 34 (.t 24) (.t 125), none, none⟩,
    ⟨.mv (.t 126), some 25, none⟩])
  (.keep [2, 3, 4, 11, 13, 14, 17, 19, 22, 23, 24, 25, 66, 67, 68, 78, 79, 80, 101, 102, 103] (.seq (.reg false [] [⟨.load true 34 (.t 22), some 127, none⟩,
    ⟨.load true 34 (.t 24), some 128, none⟩,
    ⟨.bin .neq (.flat [(.i .i64), (.i .i64), .b, .s, .b, .s, .b, .s, .b, .s, .b, .s, .b, .s, .b, .s, .b, .s, .b, .s, .b, .s, .b, .s, .b, .s, .b, .s, .b, .s, .b, .s, .b, .s]) (.t 127) (.t 128), some 129, none⟩,
    ⟨.mv (.t 129), some 130, none⟩,
    ⟨.mv (.t 23), some 131, some (130, false)⟩,
    ⟨.mv (.t 25), some 132, some (130, false)⟩,
    ⟨.bin .neq .plain (.t 131) (.t 132), some 133, some (130, false)⟩,
    ⟨.pick (.t 130) (.c (.p (.b true))) (.t 133), some 134, none⟩])
  (.keep [2, 3, 4, 11, 13, 14, 17, 19, 66, 67, 68, 78, 79, 80, 101, 102, 103, 134] (.cond (.t 134)
  (.seq (.reg false [] [⟨.mv (.c (.p (.b false))), some 10, none⟩])
    (.ret))
  (.skip)))))))))))
  (.reg false [] [⟨.bin .add .plain (.t 103) (.c (.p (.i .i64 1))), some 135, none⟩,
    ⟨.mv (.t 135), some 103, none⟩])))
def J1t : Jr := .reg false [] [⟨.bin .add .plain (.t 80) (.c (.p (.i .i64 1))), some 136, none⟩,
    ⟨.mv (.t 136), some 80, none⟩]
def J08 : Jr := .seq (.reg false [] [⟨.bin .lss .plain (.t 80) (.t 79), some 81, none⟩])
  (.seq (.cond (.t 81)
  (.skip)
  (.exit 2))
  (.seq (.tidy [2, 3, 4, 10, 11, 13, 14, 17, 66, 67, 68, 78, 79, 80] (.block 3 (.seq (.reg false [] [⟨.iaddr 1 (.t 78) (.t 80), some 82, none⟩,
    ⟨.load false 1 (.t 82), some 83, none⟩,
    ⟨.mv (.t 83), some 19, none⟩])
  (.keep [2, 3, 4, 11, 13, 14, 17, 19, 66, 67, 68, 78, 79, 80] (.seq (.reg true [(4, 10), (8, 10), (4, 13), (8, 13), (4, 15), (8, 15)] [⟨.mv (.t 2), some 84, none⟩,
    ⟨.mv (.t 3), some 85, none⟩,
    ⟨.build (JO (r_i .i64) (Vector.replicate 2 (0 : Int))) [(0, 1, (.t 84)), (1, 1, (.t 85))], some 86, none⟩,
    ⟨.faddr 0 (.t 13), some 87, none⟩,
    ⟨.load false 1 (.t 87), some 88, none⟩,
    ⟨.mv (.t 3), some 89, none⟩,
    ⟨.build (JO (r_i .i64) (Vector.replicate 2 (0 : Int))) [(0, 1, (.t 88)), (1, 1, (.t 89))], some 90, none⟩,
    ⟨.faddr 0 (.t 13), some 91, none⟩,
    ⟨.load false 1 (.t 91), some 92, none⟩,
    ⟨.mv (.t 11), some 93, none⟩,
    ⟨.call Jc [(.t 93), (.c (.p (.i .i64 60)))] 0, some 94, none⟩,
    ⟨.build (JO (r_i .i64) (Vector.replicate 2 (0 : Int))) [(0, 1, (.t 92)), (1, 1, (.t 94))], some 95, none⟩,
    ⟨.mv (.t 11), some 96, none⟩,
    ⟨.call Jc [(.t 96), (.c (.p (.i .i64 6)))] 0, some 97, none⟩,
    ⟨.mv (.t 11), some 98, none⟩,
    ⟨.call Jc [(.t 98), (.c (.p (.i .i64 60)))] 0, some 99, none⟩,
    ⟨.build (JO (r_i .i64) (Vector.replicate 2 (0 : Int))) [(0, 1, (.t 97)), (1, 1, (.t 99))], some 100, none⟩,
    ⟨.lits false 2 4 (JO (r_i .i64) (Vector.replicate 2 (0 : Int))) [(0, (.t 86)), (1, (.t 90)), (2, (.t 95)), (3, (.t 100))], some 101, none⟩,
    ⟨.len false (.t 101), some 102, none⟩,
    ⟨.mv (.c (.p (.i .i64 0))), some 103, none⟩])
  (.keep [2, 3, 4, 11, 13, 14, 17, 19, 66, 67, 68, 78, 79, 80, 101, 102, 103] (.block 4 (.loop [2, 3, 4, 11, 13, 14, 17, 19, 66, 67, 68, 78, 79, 80, 101, 102, 103] J0d))))))))
  (.keep [2, 3, 4, 11, 13, 14, 17, 66, 67, 68, 78, 79, 80] J1t)))
def J0e : Jr := .reg false [] [⟨.bin .add .plain (.t 68) (.c (.p (.i .i64 1))), some 137, none⟩,
    ⟨.mv (.t 137), some 68, none⟩]
def JM : Jr := .seq (.reg false [] [⟨.bin .lss .plain (.t 68) (.t 67), some 69, none⟩])
  (.seq (.cond (.t 69)
  (.skip)
  (.exit 0))
  (.seq (.tidy [2, 3, 4, 10, 11, 13, 14, 66, 67, 68] (.block 1 (.seq (.reg false [] [⟨.iaddr 1 (.t 66) (.t 68), some 70, none⟩,
    ⟨.load true 1 (.t 70), some 71, none⟩,
    ⟨.newbox (Jj default), some 17, none⟩,
    ⟨.store 1 (.t 17) (.t 71), none, none⟩])
  (.keep [2, 3, 4, 11, 13, 14, 17, 66, 67, 68] (.seq (.reg false [] [⟨.mv (.t 4), some 72, none⟩,
    ⟨.mv (.t 14), some 73, none⟩,
    ⟨.mv (.t 11), some 74, none⟩,
    ⟨.mv (.t 14), some 75, none⟩,
    ⟨.call J3N [(.t 74), (.t 75)] 0, some 76, none⟩,
    ⟨.call J69 [] 0, some 77, none⟩,
    ⟨.lits false 1 4 [(.s [])] [(0, (.t 72)), (1, (.t 73)), (2, (.t 76)), (3, (.t 77))], some 78, none⟩,
    ⟨.len false (.t 78), some 79, none⟩,
    ⟨.mv (.c (.p (.i .i64 0))), some 80, none⟩])
  (.keep [2, 3, 4, 11, 13, 14, 17, 66, 67, 68, 78, 79, 80] (.block 2 (.loop [2, 3, 4, 11, 13, 14, 17, 66, 67, 68, 78, 79, 80] J08))))))))
  (.keep [2, 3, 4, 11, 13, 14, 66, 67, 68] J0e)))
def JQ : Jr := .seq (.reg false [] [⟨.mv (.c (.p (.b true))), some 10, none⟩])
  (.ret)
def J0h : Jr := .seq (.reg false [] [⟨.box 1 (.t 1), some 6, none⟩,
    ⟨.mv (.c (.p (.b false))), some 10, none⟩])
  (.seq (.seq (.reg false [] [⟨.call J7k [] 0, some 26, none⟩,
    ⟨.un .not (.t 26), some 27, none⟩,
    ⟨.mv (.t 27), some 28, none⟩,
    ⟨.faddr 0 (.t 6), some 29, some (28, false)⟩,
    ⟨.load false 1 (.t 29), some 30, some (28, false)⟩,
    ⟨.len false (.t 30), some 31, some (28, false)⟩,
    ⟨.bin .gtr .plain (.t 31) (.c (.p (.i .i64 100))), some 32, some (28, false)⟩,
    ⟨.pick (.t 28) (.c (.p (.b true))) (.t 32), some 33, none⟩,
    ⟨.mv (.t 33), some 34, none⟩,
    ⟨.mv (.t 4), some 35, some (34, false)⟩,
    ⟨.len true (.t 35), some 36, some (34, false)⟩,
    ⟨.bin .gtr .plain (.t 36) (.c (.p (.i .i64 600))), some 37, some (34, false)⟩,
    ⟨.pick (.t 34) (.c (.p (.b true))) (.t 37), some 38, none⟩])
  (.keep [0, 2, 3, 4, 6, 38] (.cond (.t 38)
  (.seq (.reg false [] [⟨.faddr 0 (.t 6), some 39, none⟩,
      ⟨.load false 1 (.t 39), some 40, none⟩,
      ⟨.len false (.t 40), some 41, none⟩,
      ⟨.bin .gtr .plain (.t 41) (.c (.p (.i .i64 100))), some 42, none⟩,
      ⟨.mv (.t 42), some 43, none⟩,
      ⟨.mv (.t 4), some 44, some (43, false)⟩,
      ⟨.len true (.t 44), some 45, some (43, false)⟩,
      ⟨.bin .gtr .plain (.t 45) (.c (.p (.i .i64 600))), some 46, some (43, false)⟩,
      ⟨.pick (.t 43) (.c (.p (.b true))) (.t 46), some 47, none⟩,
      ⟨.mv (.t 47), some 10, none⟩])
    (.ret))
  (.skip))))
  (.seq (.reg false [] [⟨.mv (.t 0), some 48, none⟩,
    ⟨.call J9Y [(.t 48), (.c (.p (.i .i64 200)))] 1, some 49, none⟩,
    ⟨.mv (.t 49), some 11, none⟩])
  (.keep [2, 3, 4, 6, 11] (.seq (.reg false [] [⟨.mv (.t 11), some 50, none⟩,
    ⟨.call J71 [(.t 50)] 0, some 51, none⟩,
    ⟨.newbox (Jj default), some 12, none⟩,
    ⟨.store 1 (.t 12) (.t 51), none, none⟩])
  (.keep [2, 3, 4, 6, 11, 12] (.seq (.reg false [] [⟨.mv (.t 11), some 52, none⟩,
    ⟨.mv (.t 11), some 53, none⟩,
    ⟨.call Jc [(.t 53), (.c (.p (.i .i64 5)))] 0, some 54, none⟩,
    ⟨.call J4J [(.t 52), (.t 54)] 0, some 55, none⟩,
    ⟨.newbox (J4 default), some 13, none⟩,
    ⟨.store 34 (.t 13) (.t 55), none, none⟩])
  (.keep [2, 3, 4, 6, 11, 12, 13] (.seq (.reg false [] [⟨.load true 34 (.t 13), some 57, none⟩,
    ⟨.call J5g [(.t 57)] 0, some 58, none⟩,
    ⟨.mv (.t 58), some 56, none⟩,
    ⟨.extr (.t 56) 0, some 59, none⟩,
    ⟨.extr (.t 56) 1, some 60, none⟩,
    ⟨.mv (.t 59), some 14, none⟩,
    ⟨.mv (.t 60), some 15, none⟩])
  (.keep [2, 3, 4, 6, 11, 12, 13, 14] (.seq (.tidy [10] (.seq (.reg true [(0, 4), (1, 4)] [⟨.load true 1 (.t 6), some 61, none⟩,
    ⟨.load true 1 (.t 12), some 62, none⟩,
    ⟨.mv (.t 11), some 63, none⟩,
    ⟨.load true 1 (.t 12), some 64, none⟩,
    ⟨.call J7T [(.t 63), (.t 64)] 0, some 65, none⟩,
    ⟨.lits false 1 3 (Jj default) [(0, (.t 61)), (1, (.t 62)), (2, (.t 65))], some 66, none⟩,
    ⟨.len false (.t 66), some 67, none⟩,
    ⟨.mv (.c (.p (.i .i64 0))), some 68, none⟩])
  (.keep [2, 3, 4, 11, 13, 14, 66, 67, 68] (.block 0 (.loop [2, 3, 4, 11, 13, 14, 66, 67, 68] JM)))))
  (.keep [] JQ)))))))))))
def JH : AFn := ⟨5, 138, J0h, [.tmp 10], false⟩
theorem Jqs : J8H.res = [.tmp 4] ∧ J8H.fresh = false := ⟨rfl, rfl⟩
theorem J81 : J4U.res = [.tmp 4] ∧ J4U.fresh = false := ⟨rfl, rfl⟩
theorem JaS : J5O.res = [.cell 2 true 1, .tmp 3] ∧ J5O.fresh = false := ⟨rfl, rfl⟩
theorem JhI : J15.res = [.tmp 2] ∧ J15.fresh = false := ⟨rfl, rfl⟩
theorem JaH : J5s.res = [.tmp 2] ∧ J5s.fresh = false := ⟨rfl, rfl⟩
theorem JdS : J3P.res = [.tmp 6] ∧ J3P.fresh = false := ⟨rfl, rfl⟩
theorem J96 : J3V.res = [.tmp 6, .tmp 7] ∧ J3V.fresh = false := ⟨rfl, rfl⟩
theorem JdX : J99.res = [.cell 2 true 1, .tmp 3] ∧ J99.fresh = true := ⟨rfl, rfl⟩
theorem Jcb : J4T.res = [.cell 2 true 2] ∧ J4T.fresh = false := ⟨rfl, rfl⟩
theorem Jmz : J74.res = [.tmp 2] ∧ J74.fresh = false := ⟨rfl, rfl⟩
theorem JpH : J1w.res = [.tmp 2] ∧ J1w.fresh = false := ⟨rfl, rfl⟩
theorem Jce : J4Q.res = [.tmp 4] ∧ J4Q.fresh = false := ⟨rfl, rfl⟩
theorem Jb5 : J3b.res = [.tmp 2] ∧ J3b.fresh = false := ⟨rfl, rfl⟩
theorem J9p : J5N.res = [.tmp 2] ∧ J5N.fresh = false := ⟨rfl, rfl⟩
theorem J9c : J3R.res = [.tmp 6, .tmp 7] ∧ J3R.fresh = false := ⟨rfl, rfl⟩
theorem Jpx : J98.res = [.cell 2 true 34] ∧ J98.fresh = false := ⟨rfl, rfl⟩
theorem JaZ : J3o.res = [.tmp 2] ∧ J3o.fresh = false := ⟨rfl, rfl⟩
theorem JgU : J8b.res = [.tmp 2] ∧ J8b.fresh = false := ⟨rfl, rfl⟩
theorem JqY : J9X.res = [.cell 2 true 34] ∧ J9X.fresh = false := ⟨rfl, rfl⟩
theorem Jis : J8V.res = [.tmp 2] ∧ J8V.fresh = false := ⟨rfl, rfl⟩
theorem JgJ : J0g.res = [.cell 0 true 16] ∧ J0g.fresh = false := ⟨rfl, rfl⟩
theorem JeC : J6H.res = [.tmp 4] ∧ J6H.fresh = false := ⟨rfl, rfl⟩
theorem Jn8 : J7l.res = [.cell 0 true 63] ∧ J7l.fresh = false := ⟨rfl, rfl⟩
theorem Ja1 : J4H.res = [.tmp 2] ∧ J4H.fresh = false := ⟨rfl, rfl⟩
theorem Jmx : J77.res = [.tmp 6] ∧ J77.fresh = false := ⟨rfl, rfl⟩
theorem Jiu : J3Q.res = [.cell 2 true 34, .tmp 3] ∧ J3Q.fresh = false := ⟨rfl, rfl⟩
theorem JjA : J5l.res = [.tmp 2] ∧ J5l.fresh = false := ⟨rfl, rfl⟩
theorem Jo2 : J8k.res = [.tmp 2] ∧ J8k.fresh = false := ⟨rfl, rfl⟩
theorem Jd8 : J5o.res = [.tmp 2] ∧ J5o.fresh = false := ⟨rfl, rfl⟩
theorem JaD : J5k.res = [.tmp 2] ∧ J5k.fresh = false := ⟨rfl, rfl⟩
theorem Jel : J6A.res = [.tmp 2] ∧ J6A.fresh = false := ⟨rfl, rfl⟩
theorem J9B : J4m.res = [.tmp 2] ∧ J4m.fresh = false := ⟨rfl, rfl⟩
theorem J6V : J3O.res = [.tmp 4] ∧ J3O.fresh = false := ⟨rfl, rfl⟩
theorem JmE : J2f.res = [.cell 2 true 1] ∧ J2f.fresh = false := ⟨rfl, rfl⟩
theorem Jie : J16.res = [.cell 4 true 34] ∧ J16.fresh = false := ⟨rfl, rfl⟩
theorem Jam : J93.res = [.cell 4 true 1] ∧ J93.fresh = false := ⟨rfl, rfl⟩
theorem Jmr : J73.res = [.tmp 0] ∧ J73.fresh = false := ⟨rfl, rfl⟩
theorem JnW : J8f.res = [.tmp 0] ∧ J8f.fresh = false := ⟨rfl, rfl⟩
theorem J62 : J2E.res = [.tmp 2] ∧ J2E.fresh = false := ⟨rfl, rfl⟩
theorem JbY : J7n.res = [.tmp 2] ∧ J7n.fresh = false := ⟨rfl, rfl⟩
theorem Jgc : J2U.res = [] ∧ J2U.fresh = false := ⟨rfl, rfl⟩
theorem JpB : J3S.res = [.tmp 2] ∧ J3S.fresh = false := ⟨rfl, rfl⟩
theorem JbW : J2D.res = [.tmp 2] ∧ J2D.fresh = false := ⟨rfl, rfl⟩
theorem J4w : J3i.res = [.tmp 2] ∧ J3i.fresh = false := ⟨rfl, rfl⟩
theorem J8e : J6K.res = [.tmp 2] ∧ J6K.fresh = false := ⟨rfl, rfl⟩
theorem Jc2 : J2H.res = [.tmp 2, .tmp 3] ∧ J2H.fresh = false := ⟨rfl, rfl⟩
theorem JbV : J7r.res = [.tmp 2] ∧ J7r.fresh = false := ⟨rfl, rfl⟩
theorem J6d : JX.res = [.tmp 4] ∧ JX.fresh = false := ⟨rfl, rfl⟩
theorem J9s : J0E.res = [.tmp 4] ∧ J0E.fresh = false := ⟨rfl, rfl⟩
theorem Ja6 : J4V.res = [.tmp 2] ∧ J4V.fresh = false := ⟨rfl, rfl⟩
theorem JB : J0u.res = [.tmp 2] ∧ J0u.fresh = false := ⟨rfl, rfl⟩
theorem J50 : J75.res = [.cell 2 true 34, .tmp 3] ∧ J75.fresh = false := ⟨rfl, rfl⟩
theorem Jeq : J1B.res = [.tmp 2, .tmp 3] ∧ J1B.fresh = false := ⟨rfl, rfl⟩
theorem JfY : J3M.res = [] ∧ J3M.fresh = false := ⟨rfl, rfl⟩
theorem Jh8 : J4j.res = [.cell 6 true 1] ∧ J4j.fresh = false := ⟨rfl, rfl⟩
theorem J6N : J5n.res = [.cell 4 true 1, .tmp 5] ∧ J5n.fresh = false := ⟨rfl, rfl⟩
theorem J7A : J5P.res = [.cell 4 true 34, .tmp 5] ∧ J5P.fresh = false := ⟨rfl, rfl⟩
theorem J4k : J1U.res = [.cell 2 true 34, .tmp 3] ∧ J1U.fresh = false := ⟨rfl, rfl⟩
theorem J8O : J79.res = [.tmp 0] ∧ J79.fresh = false := ⟨rfl, rfl⟩
theorem J2c : J4S.res = [.cell 8 true 34, .tmp 9] ∧ J4S.fresh = false := ⟨rfl, rfl⟩
theorem J5h : J5x.res = [.cell 4 true 34, .tmp 5] ∧ J5x.fresh = false := ⟨rfl, rfl⟩
theorem J3e : J72.res = [.cell 8 true 34, .tmp 9] ∧ J72.fresh = false := ⟨rfl, rfl⟩
theorem J1M : JH.res = [.tmp 10] ∧ JH.fresh = false := ⟨rfl, rfl⟩
def fns : List (FuncId × AFn) := [(J9Y, J8H), (Jc, J4U), (J5Q, J5O), (J4P, J15), (J24, J5s), (J4u, J3P), (J8X, J3V), (J8U, J99), (J4M, J4T), (J43, J74), (J7Q, J1w), (J3w, J4Q), (J8j, J3b), (J5K, J5N), (J6v, J3R), (J8W, J98), (J21, J3o), (J6O, J8b), (J9T, J9X), (J6q, J8V), (J4d, J0g), (J4f, J6H), (J60, J7l), (J4I, J4H), (J40, J77), (J90, J3Q), (JD, J5l), (J0s, J8k), (J1F, J5o), (J1E, J5k), (J6E, J6A), (J37, J4m), (J3N, J3O), (J71, J2f), (J4J, J16), (J7T, J93), (J69, J73), (J8a, J8f), (J7i, J2E), (J7s, J7n), (J1h, J2U), (J6t, J3S), (J7b, J2D), (J01, J3i), (J0I, J6K), (J7d, J2H), (J7c, J7r), (J0Q, JX), (J0D, J0E), (J3z, J4V), (J7e, J0u), (J70, J75), (J5g, J1B), (J1j, J3M), (J4i, J4j), (J47, J5n), (J5M, J5P), (J6C, J1U), (J7k, J79), (J4L, J4S), (J5p, J5x), (J76, J72), (J5a, JH)]
def Jno : List (FuncId × JaX) := [(J1f, J1X)]
def Jnm : List (FuncId × (List AV → List Blk → Option Res)) := [(J2r, Jon), (J2C, Jot)]
def lkF {α : Type} (f : FuncId) : List (FuncId × α) → Option α
  | [] => none
  | (g, a) :: r => if f = g then some a else lkF f r
def J1 (prims : FuncId → Option (List AV → List Blk → Option Res)) : J5T := fun f => Jw2 (lkF f fns) (lkF f Jno) (lkF f Jnm) (prims f)
theorem Jql (p) : J1 p J9Y = some (.fn J8H) := rfl
theorem Jig (p) : J1 p Jc = some (.fn J4U) := rfl
theorem JjY (p) : J1 p J5Q = some (.fn J5O) := rfl
theorem Ji8 (p) : J1 p J4P = some (.fn J15) := rfl
theorem JiH (p) : J1 p J24 = some (.fn J5s) := rfl
theorem Jpv (p) : J1 p J4u = some (.fn J3P) := rfl
theorem Jp2 (p) : J1 p J8X = some (.fn J3V) := rfl
theorem Jpo (p) : J1 p J8U = some (.fn J99) := rfl
theorem JhF (p) : J1 p J4M = some (.fn J4T) := rfl
theorem Jmq (p) : J1 p J43 = some (.fn J74) := rfl
theorem Jpf (p) : J1 p J7Q = some (.fn J1w) := rfl
theorem Jhu (p) : J1 p J3w = some (.fn J4Q) := rfl
theorem JnX (p) : J1 p J8j = some (.fn J3b) := rfl
theorem Jkh (p) : J1 p J5K = some (.fn J5N) := rfl
theorem JoN (p) : J1 p J6v = some (.fn J3R) := rfl
theorem Jph (p) : J1 p J8W = some (.fn J98) := rfl
theorem Jf8 (p) : J1 p J21 = some (.fn J3o) := rfl
theorem JoK (p) : J1 p J6O = some (.fn J8b) := rfl
theorem JqR (p) : J1 p J9T = some (.fn J9X) := rfl
theorem Jpn (p) : J1 p J6q = some (.fn J8V) := rfl
theorem Jgh (p) : J1 p J4d = some (.fn J0g) := rfl
theorem Jlh (p) : J1 p J4f = some (.fn J6H) := rfl
theorem Jn7 (p) : J1 p J60 = some (.fn J7l) := rfl
theorem Jhy (p) : J1 p J4I = some (.fn J4H) := rfl
theorem JmK (p) : J1 p J40 = some (.fn J77) := rfl
theorem JpC (p) : J1 p J90 = some (.fn J3Q) := rfl
theorem JiK (p) : J1 p JD = some (.fn J5l) := rfl
theorem Joe (p) : J1 p J0s = some (.fn J8k) := rfl
theorem Jjz (p) : J1 p J1F = some (.fn J5o) := rfl
theorem JiM (p) : J1 p J1E = some (.fn J5k) := rfl
theorem Jl4 (p) : J1 p J6E = some (.fn J6A) := rfl
theorem Jh1 (p) : J1 p J37 = some (.fn J4m) := rfl
theorem Jgd (p) : J1 p J3N = some (.fn J3O) := rfl
theorem JmV (p) : J1 p J71 = some (.fn J2f) := rfl
theorem Ji0 (p) : J1 p J4J = some (.fn J16) := rfl
theorem Jp8 (p) : J1 p J7T = some (.fn J93) := rfl
theorem Jnc (p) : J1 p J69 = some (.fn J73) := rfl
theorem Joz (p) : J1 p J8a = some (.fn J8f) := rfl
theorem JmZ (p) : J1 p J7i = some (.fn J2E) := rfl
theorem JmL (p) : J1 p J7s = some (.fn J7n) := rfl
theorem Jgb (p) : J1 p J1h = some (.fn J2U) := rfl
theorem Jps (p) : J1 p J6t = some (.fn J3S) := rfl
theorem Jmt (p) : J1 p J7b = some (.fn J2D) := rfl
theorem JeQ (p) : J1 p J01 = some (.fn J3i) := rfl
theorem JkT (p) : J1 p J0I = some (.fn J6K) := rfl
theorem JmQ (p) : J1 p J7d = some (.fn J2H) := rfl
theorem Jmy (p) : J1 p J7c = some (.fn J7r) := rfl
theorem Ja9 (p) : J1 p J0Q = some (.fn JX) := rfl
theorem J9u (p) : J1 p J0D = some (.fn J0E) := rfl
theorem Jhv (p) : J1 p J3z = some (.fn J4V) := rfl
theorem JmP (p) : J1 p J7e = some (.fn J0u) := rfl
theorem Jn9 (p) : J1 p J70 = some (.fn J75) := rfl
theorem Jlb (p) : J1 p J5g = some (.fn J1B) := rfl
theorem Jge (p) : J1 p J1j = some (.fn J3M) := rfl
theorem Jgq (p) : J1 p J4i = some (.fn J4j) := rfl
theorem Jjj (p) : J1 p J47 = some (.fn J5n) := rfl
theorem JkD (p) : J1 p J5M = some (.fn J5P) := rfl
theorem JkS (p) : J1 p J6C = some (.fn J1U) := rfl
theorem JmS (p) : J1 p J7k = some (.fn J79) := rfl
theorem JhT (p) : J1 p J4L = some (.fn J4S) := rfl
theorem JiY (p) : J1 p J5p = some (.fn J5x) := rfl
theorem Jms (p) : J1 p J76 = some (.fn J72) := rfl
theorem Jdg (p) : J1 p J5a = some (.fn JH) := rfl
theorem Jbb (p) : J1 p J1f = some (.fork J1X) := rfl
theorem JoX (p) : J1 p J2r = some (.prim Jon) := rfl
theorem JiC (p) : J1 p J2C = some (.prim Jot) := rfl
end Go.Am
end
