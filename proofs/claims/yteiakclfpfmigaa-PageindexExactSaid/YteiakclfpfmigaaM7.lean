/-
  Parts of a proof: AmPrim, YteiakclfpfmigaaKTy, YteiakclfpfmigaaKFns.
-/
import Derived.Below
import Derived.Test.YteiakclfpfmigaaM1
import Derived.Test.YteiakclfpfmigaaM4
import Derived.Test.YteiakclfpfmigaaM5
import Derived.Test.YteiakclfpfmigaaM6
set_option linter.unusedSimpArgs false
set_option linter.unusedVariables false
section
set_option linter.unusedSimpArgs false
set_option linter.unusedVariables false
namespace Go.Am
open Go.RowKit
theorem Jqw {σ : List Blk} {g : Gh} {w w' : World} (hi : Inv ⟨σ, g, w⟩) (hb : Below w.heap.size w w') :
    Inv ⟨σ, g, w'⟩ ∧ J09 ⟨σ, g, w⟩ ⟨σ, g, w'⟩ := by
  have hk : ∀ (r : Nat) x, w.heap[r]? = some x → w'.heap[r]? = some x := fun r x h => by rw [hb.block r (J2K h)]; exact h
  have hc : ∀ r o v, J0A w r o = some v → J0A w' r o = some v := by
    intro r o v h
    have hr : r < w.heap.size := by
      unfold J0A at h
      split at h
      · rename_i hx; exact J2K hx
      · cases h
    unfold J0A at h ⊢
    rw [hb.block r hr]
    exact h
  have t : J09 ⟨σ, g, w⟩ ⟨σ, g, w'⟩ := by
    refine ⟨⟨hb.size, fun r c e fz h => ⟨c, hk r _ h, rfl, fun _ _ => rfl⟩, fun r x h _ => hk r x h, hb.os, hb.output⟩, fun _ _ h => h, fun _ _ h => .inl h, fun r o ⟨b, hb⟩ => .inl ⟨b, hb⟩, Nat.le_refl _, fun _ cs h => ⟨⟨cs, h, rfl⟩, rfl⟩,
      fun _ wm _ rows h => ⟨wm, rows, h, id, Nat.le_refl _, fun _ => rfl⟩⟩
  exact ⟨J9c hi t (fun _ => False) (fun _ _ => ⟨rfl, rfl⟩) (fun _ r o v _ _ h => hc r o v h) (fun _ _ h => h.elim) (fun _ _ _ _ h => h.elim)
    (fun _ _ _ _ h => h.elim) (fun r o h => Nat.lt_of_lt_of_le (hi.const r o h).1 hb.size) (fun _ _ _ _ h => h.elim) (fun _ _ _ h h' => (h' h).elim), t⟩
def Jhm : PV → Option Value
  | .b x => some (.bool x)
  | .i k n => some (.int k n)
  | .s l => some (.string ⟨l.toArray⟩)
  | _ => none
theorem JqM {x : PV} {v : Value} (h : Jhm x = some v) (w : World) (C : Nat → Nat → Prop) : J0j w C x v := by
  cases x <;> simp only [Jhm, Option.some.injEq, reduceCtorEq] at h <;> subst h
  · exact .b _
  · exact .i _ _
  · exact .s _
theorem Js0 {x : PV} {v v' : Value} {w : World} {C : Nat → Nat → Prop} (h : J0j w C x v) (hv : Jhm x = some v') : v = v' := by
  cases x <;> simp only [Jhm, Option.some.injEq, reduceCtorEq] at hv <;> subst hv <;> cases h <;> rfl
theorem Jno {P : Program} {f : FuncId} {xs : List PV} {vs : List Value} {r : PV} {v : Value} {blks : List Blk}
    (hf : ∃ fn, P.funcs[f]? = some fn ∧ fn.body.isSome = true ∧ (fn.name == "runtime.NumGoroutine") = false)
    (hx : xs.mapM Jhm = some vs) (hr : Jhm r = some v)
    (hc : ∀ w, Calls P f vs.toArray w fun e w' => e = .returned v ∧ Below w.heap.size w w') :
    Ja3 P f (xs.map .p) blks (.p r, blks) := by
  refine ⟨hf, fun g w vals hi hl ha => ?_⟩
  have hvals : vals = vs.toArray := by
    have key : ∀ (xs : List PV) (vs vl : List Value), xs.mapM Jhm = some vs → xs.length = vl.length →
        (∀ (i : Nat) x v, (xs.map AV.p)[i]? = some x → vl[i]? = some v → JI ⟨blks, g, w⟩ x v) → vl = vs := by
      intro xs
      induction xs with
      | nil => intro vs vl h1 h2 _; simp at h1 h2; subst h1; exact List.length_eq_zero_iff.1 h2.symm
      | cons x r ih =>
        intro vs vl h1 h2 h3
        simp only [List.mapM_cons, Option.pure_def, Option.bind_eq_bind] at h1
        obtain ⟨v0, hv0, h1⟩ := Option.bind_eq_some_iff.1 h1
        obtain ⟨vr, hvr, h1⟩ := Option.bind_eq_some_iff.1 h1
        simp only [Option.some.injEq] at h1
        subst h1
        cases vl with
        | nil => simp at h2
        | cons u ur =>
          have := h3 0 (.p x) u rfl rfl
          cases this with
          | p _ _ hp =>
            rw [Js0 hp hv0, ih vr ur hvr (by simpa using h2) (fun i x v hx hv => h3 (i + 1) x v hx hv)]
    apply Array.ext'
    rw [key xs vs vals.toList hx (by simpa using hl) (fun i x v h1 h2 => ha i x v h1 (by simpa using h2))]
  subst hvals
  refine (hc w).mono ?_
  rintro e w' ⟨rfl, hb⟩
  obtain ⟨hi', t⟩ := Jqw hi hb
  exact ⟨v, g, rfl, hi', t, .p _ _ (JqM hr _ _)⟩
theorem Jre {T : J5V} {f : FuncId} {g : List AV → List Blk → Option Res} (h : T f = some (.prim g)) (args blks) : AF T f args blks = g args blks := by
  unfold AF J9D; rw [h]
def Jtu (a : Option AFn) (k : Option Ja5) (g q : Option (List AV → List Blk → Option Res)) : Option J8u :=
  match a with
  | some a => some (.fn a)
  | none => match k with
    | some k => some (.fork k)
    | none => match g with
      | some g => some (.prim g)
      | none => q.map .prim
theorem Jej {a : Option AFn} {k : Option Ja5} {g q : Option (List AV → List Blk → Option Res)} {e : J8u} (h : Jtu a k g q = some e) :
    (∃ x, a = some x ∧ e = .fn x) ∨ (∃ x, k = some x ∧ e = .fork x) ∨ (∃ x, g = some x ∧ e = .prim x) ∨ (∃ x, q = some x ∧ e = .prim x) := by
  cases a with
  | some a => exact .inl ⟨a, rfl, by injection h with h; exact h.symm⟩
  | none =>
    cases k with
    | some k => exact .inr (.inl ⟨k, rfl, by injection h with h; exact h.symm⟩)
    | none =>
      cases g with
      | some g => exact .inr (.inr (.inl ⟨g, rfl, by injection h with h; exact h.symm⟩))
      | none =>
        cases q with
        | some q => exact .inr (.inr (.inr ⟨q, rfl, by injection h with h; exact h.symm⟩))
        | none => cases h
def J6C (n : Int) (i : Nat) : Int := IntKind.wrap .u8 ((IntKind.wrap .u64 n).fdiv (2 ^ (8 * i)))
def J0R (n : Int) (k : Nat) : List UInt8 := toStr ((List.range k).map (J6C n))
def Jjm (l : List UInt8) (n size : Int) : Option (List UInt8) :=
  if size < 1 ∨ 8 < size then some l
  else if l.length + 8 ≤ 140737488355328 then some (l ++ J0R n size.toNat) else none
def JlJ : List AV → List Blk → Option Res
  | [.p (.s l), .p (.i .i64 n), .p (.i .i64 k)], blks => (Jjm l n k).map fun r => (.p (.s r), blks)
  | _, _ => none
theorem JrD (x : Int) : 0 ≤ IntKind.wrap .u8 x ∧ IntKind.wrap .u8 x < 256 := by
  have h : IntKind.wrap .u8 x = x % 256 := rfl
  rw [h]; omega
theorem Jio (n : Int) (i : Nat) : ((UInt8.ofNat (J6C n i).toNat).toNat : Int) = J6C n i := by
  have h : 0 ≤ J6C n i ∧ J6C n i < 256 := JrD _
  have h2 : (J6C n i).toNat < 256 := by omega
  rw [UInt8.toNat_ofNat_of_lt' (by simpa using h2)]
  omega
theorem JjR (n : Int) (k : Nat) : J0R n (k + 1) = J0R n k ++ [UInt8.ofNat (J6C n k).toNat] := by
  simp [J0R, toStr, List.range_succ]
theorem J2b (n : Int) (k : Nat) : (J0R n k).length = k := by simp [J0R, toStr]
theorem JtF (x y : Bool) : J1g [.b] [.b x] [.b y] = some (decide (x = y)) := by
  simp only [J1g, Jec]
  cases x <;> cases y <;> rfl
theorem Ja4 (k : IntKind) (x y : Int) : J1g [.i k] [.i k x] [.i k y] = some (decide (x = y)) := by
  by_cases h : x = y <;> simp [J1g, Jec, h]
theorem JqW (x y : List UInt8) : J1g [.s] [.s x] [.s y] = some (decide (x = y)) := by
  by_cases h : x = y <;> simp [J1g, Jec, h]
theorem J6t {p q : Prop} [Decidable p] [Decidable q] : ∀ {k1 k2 : List KD} {a1 a2 b1 b2 : List PV}, J1g k1 a1 b1 = some (decide p) → J1g k2 a2 b2 = some (decide q) → J1g (k1 ++ k2) (cat a1 a2) (cat b1 b2) = some (decide (p ∧ q)) := by
  have key : ∀ (k1 k2 : List KD) (a1 a2 b1 b2 : List PV) (r s : Bool), J1g k1 a1 b1 = some r → J1g k2 a2 b2 = some s → J1g (k1 ++ k2) (a1 ++ a2) (b1 ++ b2) = some (r && s) := by
    intro k1
    induction k1 with
    | nil =>
      intro k2 a1 a2 b1 b2 r s h1 h2
      cases a1 <;> cases b1 <;> simp [J1g] at h1
      subst h1
      simpa using h2
    | cons k ks ih =>
      intro k2 a1 a2 b1 b2 r s h1 h2
      cases a1 with
      | nil => simp [J1g] at h1
      | cons a a1 =>
        cases b1 with
        | nil => simp [J1g] at h1
        | cons b b1 =>
          simp only [J1g] at h1
          split at h1
          · rename_i u c hu hc
            injection h1 with h1
            subst h1
            simp only [List.cons_append, J1g, hu, ih _ _ _ _ _ _ _ hc h2, Bool.and_assoc]
          · cases h1
  intro k1 k2 a1 a2 b1 b2 h1 h2
  rw [key _ _ _ _ _ _ _ _ h1 h2, Bool.decide_and]
end Go.Am
end
section
namespace Go.Am
set_option maxRecDepth 8000
set_option maxHeartbeats 4000000
set_option linter.unusedSimpArgs false
set_option linter.unusedVariables false
structure T_api_Row where
  LSN : Int
  Image : Int
  ImageLSN : Int
  deriving DecidableEq
instance : Inhabited T_api_Row := ⟨⟨0, 0, 0⟩⟩
def J7 (x : T_api_Row) : List PV := (cat [.i .i64 x.LSN] (cat [.i .i64 x.Image] [.i .i64 x.ImageLSN]))
theorem Jas (x : T_api_Row) : (J7 x).length = 3 := by
  simp only [cat, J7, List.length_append, List.length_cons, List.length_nil]
theorem Jin (x : T_api_Row) : sub (J7 x) 0 1 = some [.i .i64 x.LSN] := by unfold J7; exact J8U rfl
theorem Ji8 (x : T_api_Row) (y : Int) : spl (J7 x) 0 [.i .i64 y] = some (J7 ⟨y, x.Image, x.ImageLSN⟩) := by unfold J7; exact J9B rfl
theorem JgM (x : T_api_Row) : sub (J7 x) 1 1 = some [.i .i64 x.Image] := by
  have e0 : J7 x = cat [.i .i64 x.LSN] (cat [.i .i64 x.Image] [.i .i64 x.ImageLSN]) := by unfold J7; simp only [cat, List.append_assoc]
  rw [e0]; exact J5y (by simp only [cat, List.length_append, List.length_cons, List.length_nil]) rfl
theorem JgE (x : T_api_Row) (y : Int) : spl (J7 x) 1 [.i .i64 y] = some (J7 ⟨x.LSN, y, x.ImageLSN⟩) := by
  have e0 : J7 x = cat [.i .i64 x.LSN] (cat [.i .i64 x.Image] [.i .i64 x.ImageLSN]) := by unfold J7; simp only [cat, List.append_assoc]
  have e1 : J7 ⟨x.LSN, y, x.ImageLSN⟩ = cat [.i .i64 x.LSN] (cat [.i .i64 y] [.i .i64 x.ImageLSN]) := by unfold J7; simp only [cat, List.append_assoc]
  rw [e0, e1]; exact J5A (by simp only [cat, List.length_append, List.length_cons, List.length_nil]) rfl
theorem Je9 (x : T_api_Row) : sub (J7 x) 2 1 = some [.i .i64 x.ImageLSN] := by
  have e0 : J7 x = cat (cat [.i .i64 x.LSN] [.i .i64 x.Image]) [.i .i64 x.ImageLSN] := by unfold J7; simp only [cat, List.append_assoc]
  rw [e0]; exact J9K (by simp only [cat, List.length_append, List.length_cons, List.length_nil]) rfl
theorem JdV (x : T_api_Row) (y : Int) : spl (J7 x) 2 [.i .i64 y] = some (J7 ⟨x.LSN, x.Image, y⟩) := by
  have e0 : J7 x = cat (cat [.i .i64 x.LSN] [.i .i64 x.Image]) [.i .i64 x.ImageLSN] := by unfold J7; simp only [cat, List.append_assoc]
  have e1 : J7 ⟨x.LSN, x.Image, y⟩ = cat (cat [.i .i64 x.LSN] [.i .i64 x.Image]) [.i .i64 y] := by unfold J7; simp only [cat, List.append_assoc]
  rw [e0, e1]; exact J9X (by simp only [cat, List.length_append, List.length_cons, List.length_nil]) rfl
theorem Jmn : (default : T_api_Row) = (⟨0, 0, 0⟩ : T_api_Row) := rfl
theorem JlX (x : T_api_Row) : sub (J7 x) 0 3 = some (J7 x) := Jbo (Jas x)
theorem Jlx (x y : T_api_Row) : spl (J7 x) 0 (J7 y) = some (J7 y) := Jbj ((Jas x).trans (Jas y).symm)
theorem Je : (∀ x : T_api_Row, (J7 x).length = 3) ∧
  (∀ x : T_api_Row, sub (J7 x) 0 1 = some [.i .i64 x.LSN]) ∧
  (∀ (x : T_api_Row) (y : Int), spl (J7 x) 0 [.i .i64 y] = some (J7 ⟨y, x.Image, x.ImageLSN⟩)) ∧
  (∀ x : T_api_Row, sub (J7 x) 1 1 = some [.i .i64 x.Image]) ∧
  (∀ (x : T_api_Row) (y : Int), spl (J7 x) 1 [.i .i64 y] = some (J7 ⟨x.LSN, y, x.ImageLSN⟩)) ∧
  (∀ x : T_api_Row, sub (J7 x) 2 1 = some [.i .i64 x.ImageLSN]) ∧
  (∀ (x : T_api_Row) (y : Int), spl (J7 x) 2 [.i .i64 y] = some (J7 ⟨x.LSN, x.Image, y⟩)) ∧
  ((default : T_api_Row) = (⟨0, 0, 0⟩ : T_api_Row)) ∧
  (∀ x : T_api_Row, sub (J7 x) 0 3 = some (J7 x)) ∧
  (∀ x y : T_api_Row, spl (J7 x) 0 (J7 y) = some (J7 y)) :=
  ⟨@Jas, @Jin, @Ji8, @JgM, @JgE, @Je9, @JdV, Jmn, @JlX, @Jlx⟩
theorem Jl : (∀ x : T_api_Row, J7 x = (cat [.i .i64 x.LSN] (cat [.i .i64 x.Image] [.i .i64 x.ImageLSN]))) ∧ (default : T_api_Row) = (⟨0, 0, 0⟩ : T_api_Row) := ⟨fun _ => rfl, rfl⟩
structure T_api_Index where
  Rows : List T_api_Row
  deriving DecidableEq
instance : Inhabited T_api_Index := ⟨⟨[]⟩⟩
def J5 (x : T_api_Index) : List PV := [.sl 3 (List.map J7 x.Rows)]
theorem J1 : (∀ x : T_api_Index, J5 x = [.sl 3 (List.map J7 x.Rows)]) ∧ (default : T_api_Index) = (⟨[]⟩ : T_api_Index) := ⟨fun _ => rfl, rfl⟩
structure Jm where
  Set : Bool
  Data : List UInt8
  deriving DecidableEq
instance : Inhabited Jm := ⟨⟨false, []⟩⟩
def Jr (x : Jm) : List PV := (cat [.b x.Set] [.s x.Data])
theorem J18 (x : Jm) : (Jr x).length = 2 := by
  simp only [cat, Jr, List.length_append, List.length_cons, List.length_nil]
theorem Jhe (x : Jm) : sub (Jr x) 0 1 = some [.b x.Set] := by unfold Jr; exact J8U rfl
theorem JhC (x : Jm) (y : Bool) : spl (Jr x) 0 [.b y] = some (Jr ⟨y, x.Data⟩) := by unfold Jr; exact J9B rfl
theorem Jgf (x : Jm) : sub (Jr x) 1 1 = some [.s x.Data] := by
  have e0 : Jr x = cat [.b x.Set] [.s x.Data] := by unfold Jr; simp only [cat, List.append_assoc]
  rw [e0]; exact J9K (by simp only [cat, List.length_append, List.length_cons, List.length_nil]) rfl
theorem Jgx (x : Jm) (y : List UInt8) : spl (Jr x) 1 [.s y] = some (Jr ⟨x.Set, y⟩) := by
  have e0 : Jr x = cat [.b x.Set] [.s x.Data] := by unfold Jr; simp only [cat, List.append_assoc]
  have e1 : Jr ⟨x.Set, y⟩ = cat [.b x.Set] [.s y] := by unfold Jr; simp only [cat, List.append_assoc]
  rw [e0, e1]; exact J9X (by simp only [cat, List.length_append, List.length_cons, List.length_nil]) rfl
theorem Jlo : (default : Jm) = (⟨false, []⟩ : Jm) := rfl
theorem JkC (x : Jm) : sub (Jr x) 0 2 = some (Jr x) := Jbo (J18 x)
theorem JkL (x y : Jm) : spl (Jr x) 0 (Jr y) = some (Jr y) := Jbj ((J18 x).trans (J18 y).symm)
theorem Ja : (∀ x : Jm, (Jr x).length = 2) ∧
  (∀ x : Jm, sub (Jr x) 0 1 = some [.b x.Set]) ∧
  (∀ (x : Jm) (y : Bool), spl (Jr x) 0 [.b y] = some (Jr ⟨y, x.Data⟩)) ∧
  (∀ x : Jm, sub (Jr x) 1 1 = some [.s x.Data]) ∧
  (∀ (x : Jm) (y : List UInt8), spl (Jr x) 1 [.s y] = some (Jr ⟨x.Set, y⟩)) ∧
  ((default : Jm) = (⟨false, []⟩ : Jm)) ∧
  (∀ x : Jm, sub (Jr x) 0 2 = some (Jr x)) ∧
  (∀ x y : Jm, spl (Jr x) 0 (Jr y) = some (Jr y)) :=
  ⟨@J18, @Jhe, @JhC, @Jgf, @Jgx, Jlo, @JkC, @JkL⟩
theorem Jj : (∀ x : Jm, Jr x = (cat [.b x.Set] [.s x.Data])) ∧ (default : Jm) = (⟨false, []⟩ : Jm) := ⟨fun _ => rfl, rfl⟩
structure Jk where
  Page : Int
  Slot : Int
  Before : Jm
  After : Jm
  deriving DecidableEq
instance : Inhabited Jk := ⟨⟨0, 0, (⟨false, []⟩ : Jm), (⟨false, []⟩ : Jm)⟩⟩
def Jf (x : Jk) : List PV := (cat [.i .i64 x.Page] (cat [.i .i64 x.Slot] (cat (Jr x.Before) (Jr x.After))))
theorem J0b (x : Jk) : (Jf x).length = 6 := by
  simp only [cat, Jf, J18, List.length_append, List.length_cons, List.length_nil]
theorem J1C (x : Jk) : sub (Jf x) 0 1 = some [.i .i64 x.Page] := by unfold Jf; exact J8U rfl
theorem J8n (x : Jk) (y : Int) : spl (Jf x) 0 [.i .i64 y] = some (Jf ⟨y, x.Slot, x.Before, x.After⟩) := by unfold Jf; exact J9B rfl
theorem JeU (x : Jk) : sub (Jf x) 1 1 = some [.i .i64 x.Slot] := by
  have e0 : Jf x = cat [.i .i64 x.Page] (cat [.i .i64 x.Slot] (cat (Jr x.Before) (Jr x.After))) := by unfold Jf; simp only [cat, List.append_assoc]
  rw [e0]; exact J5y (by simp only [cat, List.length_append, List.length_cons, List.length_nil, J18]) rfl
theorem JeM (x : Jk) (y : Int) : spl (Jf x) 1 [.i .i64 y] = some (Jf ⟨x.Page, y, x.Before, x.After⟩) := by
  have e0 : Jf x = cat [.i .i64 x.Page] (cat [.i .i64 x.Slot] (cat (Jr x.Before) (Jr x.After))) := by unfold Jf; simp only [cat, List.append_assoc]
  have e1 : Jf ⟨x.Page, y, x.Before, x.After⟩ = cat [.i .i64 x.Page] (cat [.i .i64 y] (cat (Jr x.Before) (Jr x.After))) := by unfold Jf; simp only [cat, List.append_assoc]
  rw [e0, e1]; exact J5A (by simp only [cat, List.length_append, List.length_cons, List.length_nil, J18]) rfl
theorem JdD (x : Jk) : sub (Jf x) 2 2 = some (Jr x.Before) := by
  have e0 : Jf x = cat (cat [.i .i64 x.Page] [.i .i64 x.Slot]) (cat (Jr x.Before) (Jr x.After)) := by unfold Jf; simp only [cat, List.append_assoc]
  rw [e0]; exact J5y (by simp only [cat, List.length_append, List.length_cons, List.length_nil, J18]) (J18 _)
theorem Jdk (x : Jk) (y : Jm) : spl (Jf x) 2 (Jr y) = some (Jf ⟨x.Page, x.Slot, y, x.After⟩) := by
  have e0 : Jf x = cat (cat [.i .i64 x.Page] [.i .i64 x.Slot]) (cat (Jr x.Before) (Jr x.After)) := by unfold Jf; simp only [cat, List.append_assoc]
  have e1 : Jf ⟨x.Page, x.Slot, y, x.After⟩ = cat (cat [.i .i64 x.Page] [.i .i64 x.Slot]) (cat (Jr y) (Jr x.After)) := by unfold Jf; simp only [cat, List.append_assoc]
  rw [e0, e1]; exact J5A (by simp only [cat, List.length_append, List.length_cons, List.length_nil, J18]) ((J18 _).trans (J18 _).symm)
theorem JdK (x : Jk) : sub (Jf x) 4 2 = some (Jr x.After) := by
  have e0 : Jf x = cat (cat [.i .i64 x.Page] (cat [.i .i64 x.Slot] (Jr x.Before))) (Jr x.After) := by unfold Jf; simp only [cat, List.append_assoc]
  rw [e0]; exact J9K (by simp only [cat, List.length_append, List.length_cons, List.length_nil, J18]) (J18 _)
theorem JdN (x : Jk) (y : Jm) : spl (Jf x) 4 (Jr y) = some (Jf ⟨x.Page, x.Slot, x.Before, y⟩) := by
  have e0 : Jf x = cat (cat [.i .i64 x.Page] (cat [.i .i64 x.Slot] (Jr x.Before))) (Jr x.After) := by unfold Jf; simp only [cat, List.append_assoc]
  have e1 : Jf ⟨x.Page, x.Slot, x.Before, y⟩ = cat (cat [.i .i64 x.Page] (cat [.i .i64 x.Slot] (Jr x.Before))) (Jr y) := by unfold Jf; simp only [cat, List.append_assoc]
  rw [e0, e1]; exact J9X (by simp only [cat, List.length_append, List.length_cons, List.length_nil, J18]) ((J18 _).trans (J18 _).symm)
theorem Jj3 : (default : Jk) = (⟨0, 0, (⟨false, []⟩ : Jm), (⟨false, []⟩ : Jm)⟩ : Jk) := rfl
theorem Jia (x : Jk) : sub (Jf x) 0 6 = some (Jf x) := Jbo (J0b x)
theorem Jip (x y : Jk) : spl (Jf x) 0 (Jf y) = some (Jf y) := Jbj ((J0b x).trans (J0b y).symm)
theorem J8 : (∀ x : Jk, (Jf x).length = 6) ∧
  (∀ x : Jk, sub (Jf x) 0 1 = some [.i .i64 x.Page]) ∧
  (∀ (x : Jk) (y : Int), spl (Jf x) 0 [.i .i64 y] = some (Jf ⟨y, x.Slot, x.Before, x.After⟩)) ∧
  (∀ x : Jk, sub (Jf x) 1 1 = some [.i .i64 x.Slot]) ∧
  (∀ (x : Jk) (y : Int), spl (Jf x) 1 [.i .i64 y] = some (Jf ⟨x.Page, y, x.Before, x.After⟩)) ∧
  (∀ x : Jk, sub (Jf x) 2 2 = some (Jr x.Before)) ∧
  (∀ (x : Jk) (y : Jm), spl (Jf x) 2 (Jr y) = some (Jf ⟨x.Page, x.Slot, y, x.After⟩)) ∧
  (∀ x : Jk, sub (Jf x) 4 2 = some (Jr x.After)) ∧
  (∀ (x : Jk) (y : Jm), spl (Jf x) 4 (Jr y) = some (Jf ⟨x.Page, x.Slot, x.Before, y⟩)) ∧
  ((default : Jk) = (⟨0, 0, (⟨false, []⟩ : Jm), (⟨false, []⟩ : Jm)⟩ : Jk)) ∧
  (∀ x : Jk, sub (Jf x) 0 6 = some (Jf x)) ∧
  (∀ x y : Jk, spl (Jf x) 0 (Jf y) = some (Jf y)) :=
  ⟨@J0b, @J1C, @J8n, @JeU, @JeM, @JdD, @Jdk, @JdK, @JdN, Jj3, @Jia, @Jip⟩
theorem Jc : (∀ x : Jk, Jf x = (cat [.i .i64 x.Page] (cat [.i .i64 x.Slot] (cat (Jr x.Before) (Jr x.After))))) ∧ (default : Jk) = (⟨0, 0, (⟨false, []⟩ : Jm), (⟨false, []⟩ : Jm)⟩ : Jk) := ⟨fun _ => rfl, rfl⟩
structure J3 where
  LSN : Int
  Kind : Int
  Tx : Int
  PrevTx : Int
  PrevPage : Int
  Ref : Int
  Change : Jk
  Blob : List UInt8
  deriving DecidableEq
instance : Inhabited J3 := ⟨⟨0, 0, 0, 0, 0, 0, (⟨0, 0, (⟨false, []⟩ : Jm), (⟨false, []⟩ : Jm)⟩ : Jk), []⟩⟩
def J4 (x : J3) : List PV := (cat [.i .i64 x.LSN] (cat [.i .i64 x.Kind] (cat [.i .i64 x.Tx] (cat [.i .i64 x.PrevTx] (cat [.i .i64 x.PrevPage] (cat [.i .i64 x.Ref] (cat (Jf x.Change) [.s x.Blob])))))))
theorem J9g (x : J3) : (J4 x).length = 13 := by
  simp only [cat, J4, J0b, List.length_append, List.length_cons, List.length_nil]
theorem JgD (x : J3) : sub (J4 x) 0 1 = some [.i .i64 x.LSN] := by unfold J4; exact J8U rfl
theorem Jgl (x : J3) (y : Int) : spl (J4 x) 0 [.i .i64 y] = some (J4 ⟨y, x.Kind, x.Tx, x.PrevTx, x.PrevPage, x.Ref, x.Change, x.Blob⟩) := by unfold J4; exact J9B rfl
theorem Jfj (x : J3) : sub (J4 x) 1 1 = some [.i .i64 x.Kind] := by
  have e0 : J4 x = cat [.i .i64 x.LSN] (cat [.i .i64 x.Kind] (cat [.i .i64 x.Tx] (cat [.i .i64 x.PrevTx] (cat [.i .i64 x.PrevPage] (cat [.i .i64 x.Ref] (cat (Jf x.Change) [.s x.Blob])))))) := by unfold J4; simp only [cat, List.append_assoc]
  rw [e0]; exact J5y (by simp only [cat, List.length_append, List.length_cons, List.length_nil, J0b]) rfl
theorem Jfo (x : J3) (y : Int) : spl (J4 x) 1 [.i .i64 y] = some (J4 ⟨x.LSN, y, x.Tx, x.PrevTx, x.PrevPage, x.Ref, x.Change, x.Blob⟩) := by
  have e0 : J4 x = cat [.i .i64 x.LSN] (cat [.i .i64 x.Kind] (cat [.i .i64 x.Tx] (cat [.i .i64 x.PrevTx] (cat [.i .i64 x.PrevPage] (cat [.i .i64 x.Ref] (cat (Jf x.Change) [.s x.Blob])))))) := by unfold J4; simp only [cat, List.append_assoc]
  have e1 : J4 ⟨x.LSN, y, x.Tx, x.PrevTx, x.PrevPage, x.Ref, x.Change, x.Blob⟩ = cat [.i .i64 x.LSN] (cat [.i .i64 y] (cat [.i .i64 x.Tx] (cat [.i .i64 x.PrevTx] (cat [.i .i64 x.PrevPage] (cat [.i .i64 x.Ref] (cat (Jf x.Change) [.s x.Blob])))))) := by unfold J4; simp only [cat, List.append_assoc]
  rw [e0, e1]; exact J5A (by simp only [cat, List.length_append, List.length_cons, List.length_nil, J0b]) rfl
theorem Jhi (x : J3) : sub (J4 x) 2 1 = some [.i .i64 x.Tx] := by
  have e0 : J4 x = cat (cat [.i .i64 x.LSN] [.i .i64 x.Kind]) (cat [.i .i64 x.Tx] (cat [.i .i64 x.PrevTx] (cat [.i .i64 x.PrevPage] (cat [.i .i64 x.Ref] (cat (Jf x.Change) [.s x.Blob]))))) := by unfold J4; simp only [cat, List.append_assoc]
  rw [e0]; exact J5y (by simp only [cat, List.length_append, List.length_cons, List.length_nil, J0b]) rfl
theorem JhN (x : J3) (y : Int) : spl (J4 x) 2 [.i .i64 y] = some (J4 ⟨x.LSN, x.Kind, y, x.PrevTx, x.PrevPage, x.Ref, x.Change, x.Blob⟩) := by
  have e0 : J4 x = cat (cat [.i .i64 x.LSN] [.i .i64 x.Kind]) (cat [.i .i64 x.Tx] (cat [.i .i64 x.PrevTx] (cat [.i .i64 x.PrevPage] (cat [.i .i64 x.Ref] (cat (Jf x.Change) [.s x.Blob]))))) := by unfold J4; simp only [cat, List.append_assoc]
  have e1 : J4 ⟨x.LSN, x.Kind, y, x.PrevTx, x.PrevPage, x.Ref, x.Change, x.Blob⟩ = cat (cat [.i .i64 x.LSN] [.i .i64 x.Kind]) (cat [.i .i64 y] (cat [.i .i64 x.PrevTx] (cat [.i .i64 x.PrevPage] (cat [.i .i64 x.Ref] (cat (Jf x.Change) [.s x.Blob]))))) := by unfold J4; simp only [cat, List.append_assoc]
  rw [e0, e1]; exact J5A (by simp only [cat, List.length_append, List.length_cons, List.length_nil, J0b]) rfl
theorem Je0 (x : J3) : sub (J4 x) 3 1 = some [.i .i64 x.PrevTx] := by
  have e0 : J4 x = cat (cat [.i .i64 x.LSN] (cat [.i .i64 x.Kind] [.i .i64 x.Tx])) (cat [.i .i64 x.PrevTx] (cat [.i .i64 x.PrevPage] (cat [.i .i64 x.Ref] (cat (Jf x.Change) [.s x.Blob])))) := by unfold J4; simp only [cat, List.append_assoc]
  rw [e0]; exact J5y (by simp only [cat, List.length_append, List.length_cons, List.length_nil, J0b]) rfl
theorem Jed (x : J3) (y : Int) : spl (J4 x) 3 [.i .i64 y] = some (J4 ⟨x.LSN, x.Kind, x.Tx, y, x.PrevPage, x.Ref, x.Change, x.Blob⟩) := by
  have e0 : J4 x = cat (cat [.i .i64 x.LSN] (cat [.i .i64 x.Kind] [.i .i64 x.Tx])) (cat [.i .i64 x.PrevTx] (cat [.i .i64 x.PrevPage] (cat [.i .i64 x.Ref] (cat (Jf x.Change) [.s x.Blob])))) := by unfold J4; simp only [cat, List.append_assoc]
  have e1 : J4 ⟨x.LSN, x.Kind, x.Tx, y, x.PrevPage, x.Ref, x.Change, x.Blob⟩ = cat (cat [.i .i64 x.LSN] (cat [.i .i64 x.Kind] [.i .i64 x.Tx])) (cat [.i .i64 y] (cat [.i .i64 x.PrevPage] (cat [.i .i64 x.Ref] (cat (Jf x.Change) [.s x.Blob])))) := by unfold J4; simp only [cat, List.append_assoc]
  rw [e0, e1]; exact J5A (by simp only [cat, List.length_append, List.length_cons, List.length_nil, J0b]) rfl
theorem JcZ (x : J3) : sub (J4 x) 4 1 = some [.i .i64 x.PrevPage] := by
  have e0 : J4 x = cat (cat [.i .i64 x.LSN] (cat [.i .i64 x.Kind] (cat [.i .i64 x.Tx] [.i .i64 x.PrevTx]))) (cat [.i .i64 x.PrevPage] (cat [.i .i64 x.Ref] (cat (Jf x.Change) [.s x.Blob]))) := by unfold J4; simp only [cat, List.append_assoc]
  rw [e0]; exact J5y (by simp only [cat, List.length_append, List.length_cons, List.length_nil, J0b]) rfl
theorem JcQ (x : J3) (y : Int) : spl (J4 x) 4 [.i .i64 y] = some (J4 ⟨x.LSN, x.Kind, x.Tx, x.PrevTx, y, x.Ref, x.Change, x.Blob⟩) := by
  have e0 : J4 x = cat (cat [.i .i64 x.LSN] (cat [.i .i64 x.Kind] (cat [.i .i64 x.Tx] [.i .i64 x.PrevTx]))) (cat [.i .i64 x.PrevPage] (cat [.i .i64 x.Ref] (cat (Jf x.Change) [.s x.Blob]))) := by unfold J4; simp only [cat, List.append_assoc]
  have e1 : J4 ⟨x.LSN, x.Kind, x.Tx, x.PrevTx, y, x.Ref, x.Change, x.Blob⟩ = cat (cat [.i .i64 x.LSN] (cat [.i .i64 x.Kind] (cat [.i .i64 x.Tx] [.i .i64 x.PrevTx]))) (cat [.i .i64 y] (cat [.i .i64 x.Ref] (cat (Jf x.Change) [.s x.Blob]))) := by unfold J4; simp only [cat, List.append_assoc]
  rw [e0, e1]; exact J5A (by simp only [cat, List.length_append, List.length_cons, List.length_nil, J0b]) rfl
theorem Jgo (x : J3) : sub (J4 x) 5 1 = some [.i .i64 x.Ref] := by
  have e0 : J4 x = cat (cat [.i .i64 x.LSN] (cat [.i .i64 x.Kind] (cat [.i .i64 x.Tx] (cat [.i .i64 x.PrevTx] [.i .i64 x.PrevPage])))) (cat [.i .i64 x.Ref] (cat (Jf x.Change) [.s x.Blob])) := by unfold J4; simp only [cat, List.append_assoc]
  rw [e0]; exact J5y (by simp only [cat, List.length_append, List.length_cons, List.length_nil, J0b]) rfl
theorem JgB (x : J3) (y : Int) : spl (J4 x) 5 [.i .i64 y] = some (J4 ⟨x.LSN, x.Kind, x.Tx, x.PrevTx, x.PrevPage, y, x.Change, x.Blob⟩) := by
  have e0 : J4 x = cat (cat [.i .i64 x.LSN] (cat [.i .i64 x.Kind] (cat [.i .i64 x.Tx] (cat [.i .i64 x.PrevTx] [.i .i64 x.PrevPage])))) (cat [.i .i64 x.Ref] (cat (Jf x.Change) [.s x.Blob])) := by unfold J4; simp only [cat, List.append_assoc]
  have e1 : J4 ⟨x.LSN, x.Kind, x.Tx, x.PrevTx, x.PrevPage, y, x.Change, x.Blob⟩ = cat (cat [.i .i64 x.LSN] (cat [.i .i64 x.Kind] (cat [.i .i64 x.Tx] (cat [.i .i64 x.PrevTx] [.i .i64 x.PrevPage])))) (cat [.i .i64 y] (cat (Jf x.Change) [.s x.Blob])) := by unfold J4; simp only [cat, List.append_assoc]
  rw [e0, e1]; exact J5A (by simp only [cat, List.length_append, List.length_cons, List.length_nil, J0b]) rfl
theorem J0H (x : J3) : sub (J4 x) 6 6 = some (Jf x.Change) := by
  have e0 : J4 x = cat (cat [.i .i64 x.LSN] (cat [.i .i64 x.Kind] (cat [.i .i64 x.Tx] (cat [.i .i64 x.PrevTx] (cat [.i .i64 x.PrevPage] [.i .i64 x.Ref]))))) (cat (Jf x.Change) [.s x.Blob]) := by unfold J4; simp only [cat, List.append_assoc]
  rw [e0]; exact J5y (by simp only [cat, List.length_append, List.length_cons, List.length_nil, J0b]) (J0b _)
theorem J81 (x : J3) (y : Jk) : spl (J4 x) 6 (Jf y) = some (J4 ⟨x.LSN, x.Kind, x.Tx, x.PrevTx, x.PrevPage, x.Ref, y, x.Blob⟩) := by
  have e0 : J4 x = cat (cat [.i .i64 x.LSN] (cat [.i .i64 x.Kind] (cat [.i .i64 x.Tx] (cat [.i .i64 x.PrevTx] (cat [.i .i64 x.PrevPage] [.i .i64 x.Ref]))))) (cat (Jf x.Change) [.s x.Blob]) := by unfold J4; simp only [cat, List.append_assoc]
  have e1 : J4 ⟨x.LSN, x.Kind, x.Tx, x.PrevTx, x.PrevPage, x.Ref, y, x.Blob⟩ = cat (cat [.i .i64 x.LSN] (cat [.i .i64 x.Kind] (cat [.i .i64 x.Tx] (cat [.i .i64 x.PrevTx] (cat [.i .i64 x.PrevPage] [.i .i64 x.Ref]))))) (cat (Jf y) [.s x.Blob]) := by unfold J4; simp only [cat, List.append_assoc]
  rw [e0, e1]; exact J5A (by simp only [cat, List.length_append, List.length_cons, List.length_nil, J0b]) ((J0b _).trans (J0b _).symm)
theorem Jfx (x : J3) : sub (J4 x) 12 1 = some [.s x.Blob] := by
  have e0 : J4 x = cat (cat [.i .i64 x.LSN] (cat [.i .i64 x.Kind] (cat [.i .i64 x.Tx] (cat [.i .i64 x.PrevTx] (cat [.i .i64 x.PrevPage] (cat [.i .i64 x.Ref] (Jf x.Change))))))) [.s x.Blob] := by unfold J4; simp only [cat, List.append_assoc]
  rw [e0]; exact J9K (by simp only [cat, List.length_append, List.length_cons, List.length_nil, J0b]) rfl
theorem Jfk (x : J3) (y : List UInt8) : spl (J4 x) 12 [.s y] = some (J4 ⟨x.LSN, x.Kind, x.Tx, x.PrevTx, x.PrevPage, x.Ref, x.Change, y⟩) := by
  have e0 : J4 x = cat (cat [.i .i64 x.LSN] (cat [.i .i64 x.Kind] (cat [.i .i64 x.Tx] (cat [.i .i64 x.PrevTx] (cat [.i .i64 x.PrevPage] (cat [.i .i64 x.Ref] (Jf x.Change))))))) [.s x.Blob] := by unfold J4; simp only [cat, List.append_assoc]
  have e1 : J4 ⟨x.LSN, x.Kind, x.Tx, x.PrevTx, x.PrevPage, x.Ref, x.Change, y⟩ = cat (cat [.i .i64 x.LSN] (cat [.i .i64 x.Kind] (cat [.i .i64 x.Tx] (cat [.i .i64 x.PrevTx] (cat [.i .i64 x.PrevPage] (cat [.i .i64 x.Ref] (Jf x.Change))))))) [.s y] := by unfold J4; simp only [cat, List.append_assoc]
  rw [e0, e1]; exact J9X (by simp only [cat, List.length_append, List.length_cons, List.length_nil, J0b]) rfl
theorem JkV : (default : J3) = (⟨0, 0, 0, 0, 0, 0, (⟨0, 0, (⟨false, []⟩ : Jm), (⟨false, []⟩ : Jm)⟩ : Jk), []⟩ : J3) := rfl
theorem JjC (x : J3) : sub (J4 x) 0 13 = some (J4 x) := Jbo (J9g x)
theorem JjH (x y : J3) : spl (J4 x) 0 (J4 y) = some (J4 y) := Jbj ((J9g x).trans (J9g y).symm)
theorem Jh : (∀ x : J3, (J4 x).length = 13) ∧
  (∀ x : J3, sub (J4 x) 0 1 = some [.i .i64 x.LSN]) ∧
  (∀ (x : J3) (y : Int), spl (J4 x) 0 [.i .i64 y] = some (J4 ⟨y, x.Kind, x.Tx, x.PrevTx, x.PrevPage, x.Ref, x.Change, x.Blob⟩)) ∧
  (∀ x : J3, sub (J4 x) 1 1 = some [.i .i64 x.Kind]) ∧
  (∀ (x : J3) (y : Int), spl (J4 x) 1 [.i .i64 y] = some (J4 ⟨x.LSN, y, x.Tx, x.PrevTx, x.PrevPage, x.Ref, x.Change, x.Blob⟩)) ∧
  (∀ x : J3, sub (J4 x) 2 1 = some [.i .i64 x.Tx]) ∧
  (∀ (x : J3) (y : Int), spl (J4 x) 2 [.i .i64 y] = some (J4 ⟨x.LSN, x.Kind, y, x.PrevTx, x.PrevPage, x.Ref, x.Change, x.Blob⟩)) ∧
  (∀ x : J3, sub (J4 x) 3 1 = some [.i .i64 x.PrevTx]) ∧
  (∀ (x : J3) (y : Int), spl (J4 x) 3 [.i .i64 y] = some (J4 ⟨x.LSN, x.Kind, x.Tx, y, x.PrevPage, x.Ref, x.Change, x.Blob⟩)) ∧
  (∀ x : J3, sub (J4 x) 4 1 = some [.i .i64 x.PrevPage]) ∧
  (∀ (x : J3) (y : Int), spl (J4 x) 4 [.i .i64 y] = some (J4 ⟨x.LSN, x.Kind, x.Tx, x.PrevTx, y, x.Ref, x.Change, x.Blob⟩)) ∧
  (∀ x : J3, sub (J4 x) 5 1 = some [.i .i64 x.Ref]) ∧
  (∀ (x : J3) (y : Int), spl (J4 x) 5 [.i .i64 y] = some (J4 ⟨x.LSN, x.Kind, x.Tx, x.PrevTx, x.PrevPage, y, x.Change, x.Blob⟩)) ∧
  (∀ x : J3, sub (J4 x) 6 6 = some (Jf x.Change)) ∧
  (∀ (x : J3) (y : Jk), spl (J4 x) 6 (Jf y) = some (J4 ⟨x.LSN, x.Kind, x.Tx, x.PrevTx, x.PrevPage, x.Ref, y, x.Blob⟩)) ∧
  (∀ x : J3, sub (J4 x) 12 1 = some [.s x.Blob]) ∧
  (∀ (x : J3) (y : List UInt8), spl (J4 x) 12 [.s y] = some (J4 ⟨x.LSN, x.Kind, x.Tx, x.PrevTx, x.PrevPage, x.Ref, x.Change, y⟩)) ∧
  ((default : J3) = (⟨0, 0, 0, 0, 0, 0, (⟨0, 0, (⟨false, []⟩ : Jm), (⟨false, []⟩ : Jm)⟩ : Jk), []⟩ : J3)) ∧
  (∀ x : J3, sub (J4 x) 0 13 = some (J4 x)) ∧
  (∀ x y : J3, spl (J4 x) 0 (J4 y) = some (J4 y)) :=
  ⟨@J9g, @JgD, @Jgl, @Jfj, @Jfo, @Jhi, @JhN, @Je0, @Jed, @JcZ, @JcQ, @Jgo, @JgB, @J0H, @J81, @Jfx, @Jfk, JkV, @JjC, @JjH⟩
theorem Jg : (∀ x : J3, J4 x = (cat [.i .i64 x.LSN] (cat [.i .i64 x.Kind] (cat [.i .i64 x.Tx] (cat [.i .i64 x.PrevTx] (cat [.i .i64 x.PrevPage] (cat [.i .i64 x.Ref] (cat (Jf x.Change) [.s x.Blob])))))))) ∧ (default : J3) = (⟨0, 0, 0, 0, 0, 0, (⟨0, 0, (⟨false, []⟩ : Jm), (⟨false, []⟩ : Jm)⟩ : Jk), []⟩ : J3) := ⟨fun _ => rfl, rfl⟩
theorem J5f : (∀ v : Vector Int 3, (J1Q (r_i .i64) v).length = 3) ∧ (∀ v : Vector Int 3, sub (J1Q (r_i .i64) v) 0 3 = some (J1Q (r_i .i64) v)) ∧ (∀ v y : Vector Int 3, spl (J1Q (r_i .i64) v) 0 (J1Q (r_i .i64) y) = some (J1Q (r_i .i64) y)) :=
  ⟨fun v => JiA (J8a .i64) v, fun v => Jbo (JiA (J8a .i64) v), fun v y => Jbj ((JiA (J8a .i64) v).trans (JiA (J8a .i64) y).symm)⟩
structure T_pagemenddraw_Codes where
  l_ : List Int
  at_ : Int
  deriving DecidableEq
instance : Inhabited T_pagemenddraw_Codes := ⟨⟨[], 0⟩⟩
def J0 (x : T_pagemenddraw_Codes) : List PV := (cat [.sl 1 (List.map (r_i .u8) x.l_)] [.i .i64 x.at_])
theorem J5s (x : T_pagemenddraw_Codes) : (J0 x).length = 2 := by
  simp only [cat, J0, List.length_append, List.length_cons, List.length_nil]
theorem Jbf (x : T_pagemenddraw_Codes) : sub (J0 x) 0 1 = some [.sl 1 (List.map (r_i .u8) x.l_)] := by unfold J0; exact J8U rfl
theorem Jbe (x : T_pagemenddraw_Codes) (y : List Int) : spl (J0 x) 0 [.sl 1 (List.map (r_i .u8) y)] = some (J0 ⟨y, x.at_⟩) := by unfold J0; exact J9B rfl
theorem JaL (x : T_pagemenddraw_Codes) : sub (J0 x) 1 1 = some [.i .i64 x.at_] := by
  have e0 : J0 x = cat [.sl 1 (List.map (r_i .u8) x.l_)] [.i .i64 x.at_] := by unfold J0; simp only [cat, List.append_assoc]
  rw [e0]; exact J9K (by simp only [cat, List.length_append, List.length_cons, List.length_nil]) rfl
theorem JaM (x : T_pagemenddraw_Codes) (y : Int) : spl (J0 x) 1 [.i .i64 y] = some (J0 ⟨x.l_, y⟩) := by
  have e0 : J0 x = cat [.sl 1 (List.map (r_i .u8) x.l_)] [.i .i64 x.at_] := by unfold J0; simp only [cat, List.append_assoc]
  have e1 : J0 ⟨x.l_, y⟩ = cat [.sl 1 (List.map (r_i .u8) x.l_)] [.i .i64 y] := by unfold J0; simp only [cat, List.append_assoc]
  rw [e0, e1]; exact J9X (by simp only [cat, List.length_append, List.length_cons, List.length_nil]) rfl
theorem JcP : (default : T_pagemenddraw_Codes) = (⟨[], 0⟩ : T_pagemenddraw_Codes) := rfl
theorem Jc9 (x : T_pagemenddraw_Codes) : sub (J0 x) 0 2 = some (J0 x) := Jbo (J5s x)
theorem Jc4 (x y : T_pagemenddraw_Codes) : spl (J0 x) 0 (J0 y) = some (J0 y) := Jbj ((J5s x).trans (J5s y).symm)
theorem Jd : (∀ x : T_pagemenddraw_Codes, (J0 x).length = 2) ∧
  (∀ x : T_pagemenddraw_Codes, sub (J0 x) 0 1 = some [.sl 1 (List.map (r_i .u8) x.l_)]) ∧
  (∀ (x : T_pagemenddraw_Codes) (y : List Int), spl (J0 x) 0 [.sl 1 (List.map (r_i .u8) y)] = some (J0 ⟨y, x.at_⟩)) ∧
  (∀ x : T_pagemenddraw_Codes, sub (J0 x) 1 1 = some [.i .i64 x.at_]) ∧
  (∀ (x : T_pagemenddraw_Codes) (y : Int), spl (J0 x) 1 [.i .i64 y] = some (J0 ⟨x.l_, y⟩)) ∧
  ((default : T_pagemenddraw_Codes) = (⟨[], 0⟩ : T_pagemenddraw_Codes)) ∧
  (∀ x : T_pagemenddraw_Codes, sub (J0 x) 0 2 = some (J0 x)) ∧
  (∀ x y : T_pagemenddraw_Codes, spl (J0 x) 0 (J0 y) = some (J0 y)) :=
  ⟨@J5s, @Jbf, @Jbe, @JaL, @JaM, JcP, @Jc9, @Jc4⟩
theorem Jp : (∀ x : T_pagemenddraw_Codes, J0 x = (cat [.sl 1 (List.map (r_i .u8) x.l_)] [.i .i64 x.at_])) ∧ (default : T_pagemenddraw_Codes) = (⟨[], 0⟩ : T_pagemenddraw_Codes) := ⟨fun _ => rfl, rfl⟩
theorem JlP (x y : T_api_Row) : J1g [(.i .i64), (.i .i64), (.i .i64)] (J7 x) (J7 y) = some (decide (x = y)) := by
  have h := (J6t (Ja4 .i64 x.LSN y.LSN) (J6t (Ja4 .i64 x.Image y.Image) (Ja4 .i64 x.ImageLSN y.ImageLSN)))
  have e : decide (x.LSN = y.LSN ∧ (x.Image = y.Image ∧ (x.ImageLSN = y.ImageLSN))) = decide (x = y) := decide_eq_decide.2 (by cases x; cases y; simp only [T_api_Row.mk.injEq])
  exact h.trans (congrArg some e)
theorem JcR (x y : T_api_Row) : J1g [(.i .i64), (.i .i64), (.i .i64)] (J7 x) (J7 y) = some (x == y) := JlP x y
theorem JeJ (x y : Jm) : J1g [.b, .s] (Jr x) (Jr y) = some (decide (x = y)) := by
  have h := (J6t (JtF x.Set y.Set) (JqW x.Data y.Data))
  have e : decide (x.Set = y.Set ∧ (x.Data = y.Data)) = decide (x = y) := decide_eq_decide.2 (by cases x; cases y; simp only [Jm.mk.injEq])
  exact h.trans (congrArg some e)
theorem JcC (x y : Jk) : J1g [(.i .i64), (.i .i64), .b, .s, .b, .s] (Jf x) (Jf y) = some (decide (x = y)) := by
  have h := (J6t (Ja4 .i64 x.Page y.Page) (J6t (Ja4 .i64 x.Slot y.Slot) (J6t (JeJ x.Before y.Before) (JeJ x.After y.After))))
  have e : decide (x.Page = y.Page ∧ (x.Slot = y.Slot ∧ (x.Before = y.Before ∧ (x.After = y.After)))) = decide (x = y) := decide_eq_decide.2 (by cases x; cases y; simp only [Jk.mk.injEq])
  exact h.trans (congrArg some e)
theorem J6m (x y : Jk) : J1g [(.i .i64), (.i .i64), .b, .s, .b, .s] (Jf x) (Jf y) = some (x == y) := JcC x y
theorem Jjw (x y : J3) : J1g [(.i .i64), (.i .i64), (.i .i64), (.i .i64), (.i .i64), (.i .i64), (.i .i64), (.i .i64), .b, .s, .b, .s, .s] (J4 x) (J4 y) = some (decide (x = y)) := by
  have h := (J6t (Ja4 .i64 x.LSN y.LSN) (J6t (Ja4 .i64 x.Kind y.Kind) (J6t (Ja4 .i64 x.Tx y.Tx) (J6t (Ja4 .i64 x.PrevTx y.PrevTx) (J6t (Ja4 .i64 x.PrevPage y.PrevPage) (J6t (Ja4 .i64 x.Ref y.Ref) (J6t (JcC x.Change y.Change) (JqW x.Blob y.Blob))))))))
  have e : decide (x.LSN = y.LSN ∧ (x.Kind = y.Kind ∧ (x.Tx = y.Tx ∧ (x.PrevTx = y.PrevTx ∧ (x.PrevPage = y.PrevPage ∧ (x.Ref = y.Ref ∧ (x.Change = y.Change ∧ (x.Blob = y.Blob)))))))) = decide (x = y) := decide_eq_decide.2 (by cases x; cases y; simp only [J3.mk.injEq])
  exact h.trans (congrArg some e)
theorem J2y (x y : J3) : J1g [(.i .i64), (.i .i64), (.i .i64), (.i .i64), (.i .i64), (.i .i64), (.i .i64), (.i .i64), .b, .s, .b, .s, .s] (J4 x) (J4 y) = some (x == y) := Jjw x y
end Go.Am
end
section
namespace Go.Am
set_option maxRecDepth 8000
set_option maxHeartbeats 4000000
set_option linter.unusedSimpArgs false
set_option linter.unusedVariables false
abbrev J5q : FuncId := 4
abbrev J8W : FuncId := 16
abbrev J6H : FuncId := 20
abbrev J6T : FuncId := 21
abbrev J7l : FuncId := 22
abbrev J3c : FuncId := 23
abbrev J9 : FuncId := 24
abbrev J3i : FuncId := 25
abbrev J7K : FuncId := 26
abbrev J4J : FuncId := 27
abbrev J3w : FuncId := 28
abbrev J5n : FuncId := 29
abbrev J4p : FuncId := 30
abbrev J6p : FuncId := 31
abbrev J1j : FuncId := 32
abbrev J2A : FuncId := 33
abbrev J3S : FuncId := 34
abbrev J4j : FuncId := 35
abbrev J6h : FuncId := 36
abbrev J4G : FuncId := 37
abbrev J6c : FuncId := 38
abbrev J1S : FuncId := 70
abbrev J3W : FuncId := 71
abbrev J2V : FuncId := 72
abbrev J6N : FuncId := 73
abbrev J3D : FuncId := 74
abbrev J1r : FuncId := 75
abbrev J1e : FuncId := 76
abbrev J6W : FuncId := 77
abbrev J7n : FuncId := 78
abbrev J14 : FuncId := 79
abbrev J0l : FuncId := 80
abbrev J4x : FuncId := 81
abbrev J47 : FuncId := 82
abbrev J5r : FuncId := 83
abbrev J0z : FuncId := 84
abbrev JW : FuncId := 85
abbrev J7o : FuncId := 86
abbrev J05 : FuncId := 87
abbrev J5u : FuncId := 88
abbrev J2P : FuncId := 89
abbrev J4g : FuncId := 111
abbrev J5S : FuncId := 112
abbrev J0I : FuncId := 113
abbrev J6K : FuncId := 114
abbrev J4s : FuncId := 115
abbrev J0L : FuncId := 119
abbrev J3H : FuncId := 125
abbrev JH : FuncId := 129
abbrev J0m : FuncId := 130
abbrev J0C : FuncId := 131
abbrev J1B : FuncId := 132
abbrev J1x : FuncId := 133
abbrev J6J : FuncId := 134
abbrev J6k : FuncId := 140
abbrev J3a : FuncId := 141
def Jc3 : Jt := .seq (.reg false [] [⟨.mv (.t 0), some 12, none⟩,
    ⟨.build (J0 default) [(0, 1, (.t 12))], some 13, none⟩,
    ⟨.box 2 (.t 13), some 14, none⟩,
    ⟨.mv (.t 14), some 4, none⟩])
  (.ret)
def J8T : Jt := .seq (.reg false [] [⟨.mv (.c (.p .np)), some 4, none⟩])
  (.seq (.seq (.reg false [] [⟨.mv (.t 0), some 5, none⟩,
    ⟨.len false (.t 5), some 6, none⟩,
    ⟨.mv (.t 1), some 7, none⟩,
    ⟨.bin .gtr .plain (.t 6) (.t 7), some 8, none⟩])
  (.keep [0, 1, 8] (.cond (.t 8)
  (.reg false [] [⟨.mv (.t 0), some 9, none⟩,
      ⟨.mv (.t 1), some 10, none⟩,
      ⟨.slice (.sl 1) (.t 9) none (some (.t 10)) none, some 11, none⟩,
      ⟨.mv (.t 11), some 0, none⟩])
  (.skip))))
  (.keep [0] Jc3))
def J7V : AFn := ⟨2, 15, J8T, [.tmp 4], false⟩
def J1D : Jt := .seq (.reg false [] [⟨.mv (.c (.p (.i .i64 0))), some 4, none⟩])
  (.seq (.seq (.reg true [] [⟨.mv (.t 0), some 6, none⟩,
    ⟨.nilchk (.t 6), some 7, none⟩,
    ⟨.faddr 1 (.t 7), some 8, none⟩,
    ⟨.load false 1 (.t 8), some 9, none⟩,
    ⟨.mv (.t 0), some 10, none⟩,
    ⟨.nilchk (.t 10), some 11, none⟩,
    ⟨.faddr 0 (.t 11), some 12, none⟩,
    ⟨.load false 1 (.t 12), some 13, none⟩,
    ⟨.len false (.t 13), some 14, none⟩,
    ⟨.bin .geq .plain (.t 9) (.t 14), some 15, none⟩,
    ⟨.mv (.t 15), some 16, none⟩,
    ⟨.mv (.t 1), some 17, some (16, false)⟩,
    ⟨.bin .lss .plain (.t 17) (.c (.p (.i .i64 1))), some 18, some (16, false)⟩,
    ⟨.pick (.t 16) (.c (.p (.b true))) (.t 18), some 19, none⟩])
  (.keep [0, 1, 19] (.cond (.t 19)
  (.seq (.reg false [] [⟨.mv (.c (.p (.i .i64 0))), some 4, none⟩])
    (.ret))
  (.skip))))
  (.seq (.reg true [] [⟨.mv (.t 0), some 20, none⟩,
    ⟨.nilchk (.t 20), some 21, none⟩,
    ⟨.faddr 0 (.t 21), some 22, none⟩,
    ⟨.load false 1 (.t 22), some 23, none⟩,
    ⟨.mv (.t 0), some 24, none⟩,
    ⟨.nilchk (.t 24), some 25, none⟩,
    ⟨.faddr 1 (.t 25), some 26, none⟩,
    ⟨.load false 1 (.t 26), some 27, none⟩,
    ⟨.iaddr 1 (.t 23) (.t 27), some 28, none⟩,
    ⟨.load false 1 (.t 28), some 29, none⟩,
    ⟨.conv (.int .i64) (.t 29), some 30, none⟩,
    ⟨.mv (.t 30), some 5, none⟩])
  (.keep [0, 1, 5] (.seq (.reg false [] [⟨.mv (.t 0), some 31, none⟩,
    ⟨.nilchk (.t 31), some 32, none⟩,
    ⟨.faddr 1 (.t 32), some 33, none⟩,
    ⟨.load false 1 (.t 33), some 34, none⟩,
    ⟨.bin .add .plain (.t 34) (.c (.p (.i .i64 1))), some 35, none⟩,
    ⟨.nilchk (.t 31), some 36, none⟩,
    ⟨.faddr 1 (.t 36), some 37, none⟩,
    ⟨.store 1 (.t 37) (.t 35), none, none⟩])
  (.keep [0, 1, 5] (.seq (.seq (.reg false [] [⟨.mv (.t 1), some 38, none⟩,
    ⟨.bin .gtr .plain (.t 38) (.c (.p (.i .i64 256))), some 39, none⟩])
  (.cond (.t 39)
  (.seq (.reg false [] [⟨.mv (.t 5), some 40, none⟩,
      ⟨.bin .mul .plain (.c (.p (.i .i64 256))) (.t 40), some 41, none⟩,
      ⟨.mv (.t 0), some 42, none⟩,
      ⟨.call J9 [(.t 42), (.c (.p (.i .i64 256)))] 0, some 43, none⟩,
      ⟨.bin .add .plain (.t 41) (.t 43), some 44, none⟩,
      ⟨.mv (.t 1), some 45, none⟩,
      ⟨.bin .rem .plain (.t 44) (.t 45), some 46, none⟩,
      ⟨.mv (.t 46), some 4, none⟩])
    (.ret))
  (.skip)))
  (.seq (.reg false [] [⟨.mv (.t 5), some 47, none⟩,
    ⟨.mv (.t 1), some 48, none⟩,
    ⟨.bin .rem .plain (.t 47) (.t 48), some 49, none⟩,
    ⟨.mv (.t 49), some 4, none⟩])
  (.ret))))))))
def J4U : AFn := ⟨2, 50, J1D, [.tmp 4], false⟩
def J2M : Jt := .seq (.seq (.reg false [] [⟨.mv (.t 5), some 13, none⟩,
    ⟨.faddr 0 (.t 2), some 14, none⟩,
    ⟨.load false 1 (.t 14), some 15, none⟩,
    ⟨.len false (.t 15), some 16, none⟩,
    ⟨.bin .lss .plain (.t 13) (.t 16), some 17, none⟩])
  (.keep [2, 3, 5, 17] (.cond (.t 17)
  (.skip)
  (.exit 0))))
  (.seq (.block 1 (.seq (.reg true [] [⟨.faddr 0 (.t 2), some 20, none⟩,
    ⟨.load false 1 (.t 20), some 21, none⟩,
    ⟨.mv (.t 5), some 22, none⟩,
    ⟨.iaddr 3 (.t 21) (.t 22), some 23, none⟩,
    ⟨.load true 3 (.t 23), some 24, none⟩,
    ⟨.faddr 0 (.t 3), some 25, none⟩,
    ⟨.load false 1 (.t 25), some 26, none⟩,
    ⟨.mv (.t 5), some 27, none⟩,
    ⟨.iaddr 3 (.t 26) (.t 27), some 28, none⟩,
    ⟨.load true 3 (.t 28), some 29, none⟩,
    ⟨.bin .neq (.flat [(.i .i64), (.i .i64), (.i .i64)]) (.t 24) (.t 29), some 30, none⟩])
  (.keep [2, 3, 5, 30] (.cond (.t 30)
  (.seq (.reg false [] [⟨.mv (.c (.p (.b false))), some 4, none⟩])
    (.ret))
  (.skip)))))
  (.reg false [] [⟨.mv (.t 5), some 18, none⟩,
    ⟨.bin .add .plain (.t 18) (.c (.p (.i .i64 1))), some 19, none⟩,
    ⟨.mv (.t 19), some 5, none⟩]))
def J5a : Jt := .seq (.reg false [] [⟨.mv (.c (.p (.b true))), some 4, none⟩])
  (.ret)
def J7F : Jt := .seq (.reg false [] [⟨.box 1 (.t 0), some 2, none⟩,
    ⟨.box 1 (.t 1), some 3, none⟩,
    ⟨.mv (.c (.p (.b false))), some 4, none⟩])
  (.keep [2, 3] (.seq (.seq (.reg false [] [⟨.faddr 0 (.t 2), some 6, none⟩,
    ⟨.load false 1 (.t 6), some 7, none⟩,
    ⟨.len false (.t 7), some 8, none⟩,
    ⟨.faddr 0 (.t 3), some 9, none⟩,
    ⟨.load false 1 (.t 9), some 10, none⟩,
    ⟨.len false (.t 10), some 11, none⟩,
    ⟨.bin .neq .plain (.t 8) (.t 11), some 12, none⟩])
  (.keep [2, 3, 12] (.cond (.t 12)
  (.seq (.reg false [] [⟨.mv (.c (.p (.b false))), some 4, none⟩])
    (.ret))
  (.skip))))
  (.seq (.seq (.reg false [] [⟨.mv (.c (.p (.i .i64 0))), some 5, none⟩])
  (.block 0 (.loop [2, 3, 5] J2M)))
  (.keep [] J5a))))
def J3f : AFn := ⟨2, 31, J7F, [.tmp 4], false⟩
def J1f : Jt := .seq (.reg false [] [⟨.mv (.c (.p (.s []))), some 4, none⟩])
  (.seq (.seq (.reg false [] [⟨.mv (.t 1), some 6, none⟩,
    ⟨.len true (.t 6), some 7, none⟩,
    ⟨.bin .eql .plain (.t 7) (.c (.p (.i .i64 0))), some 8, none⟩])
  (.keep [0, 1, 8] (.cond (.t 8)
  (.seq (.reg false [] [⟨.mv (.t 0), some 9, none⟩,
      ⟨.call J9 [(.t 9), (.c (.p (.i .i64 256)))] 0, some 10, none⟩,
      ⟨.conv (.int .u8) (.t 10), some 11, none⟩,
      ⟨.lits false 1 1 [(.i .u8 0)] [(0, (.t 11))], some 12, none⟩,
      ⟨.conv .toStr (.t 12), some 13, none⟩,
      ⟨.mv (.t 13), some 4, none⟩])
    (.ret))
  (.skip))))
  (.seq (.reg false [] [⟨.mv (.t 0), some 14, none⟩,
    ⟨.mv (.t 1), some 15, none⟩,
    ⟨.len true (.t 15), some 16, none⟩,
    ⟨.call J9 [(.t 14), (.t 16)] 0, some 17, none⟩,
    ⟨.mv (.t 17), some 5, none⟩])
  (.keep [0, 1, 5] (.seq (.seq (.reg false [] [⟨.mv (.t 0), some 18, none⟩,
    ⟨.call J9 [(.t 18), (.c (.p (.i .i64 4)))] 0, some 19, none⟩])
  (.block 0 (.seq (.reg false [] [⟨.bin .eql .plain (.t 19) (.c (.p (.i .i64 0))), some 21, none⟩,
    ⟨.mv (.t 21), some 20, none⟩])
  (.cond (.t 20)
  (.seq (.reg true [] [⟨.mv (.t 1), some 22, none⟩,
      ⟨.mv (.t 5), some 23, none⟩,
      ⟨.slice .str (.t 22) none (some (.t 23)) none, some 24, none⟩,
      ⟨.mv (.t 1), some 25, none⟩,
      ⟨.mv (.t 5), some 26, none⟩,
      ⟨.bin .add .plain (.t 26) (.c (.p (.i .i64 1))), some 27, none⟩,
      ⟨.slice .str (.t 25) (some (.t 27)) none none, some 28, none⟩,
      ⟨.bin .add .plain (.t 24) (.t 28), some 29, none⟩,
      ⟨.mv (.t 29), some 4, none⟩])
    (.ret))
  (.seq (.reg false [] [⟨.bin .eql .plain (.t 19) (.c (.p (.i .i64 1))), some 31, none⟩,
      ⟨.mv (.t 31), some 30, none⟩])
    (.cond (.t 30)
    (.seq (.reg false [] [⟨.mv (.t 1), some 32, none⟩,
        ⟨.mv (.t 0), some 33, none⟩,
        ⟨.call J9 [(.t 33), (.c (.p (.i .i64 256)))] 0, some 34, none⟩,
        ⟨.conv (.int .u8) (.t 34), some 35, none⟩,
        ⟨.lits false 1 1 [(.i .u8 0)] [(0, (.t 35))], some 36, none⟩,
        ⟨.conv .toStr (.t 36), some 37, none⟩,
        ⟨.bin .add .plain (.t 32) (.t 37), some 38, none⟩,
        ⟨.mv (.t 38), some 4, none⟩])
      (.ret))
    (.skip)))))))
  (.seq (.reg true [] [⟨.mv (.t 1), some 39, none⟩,
    ⟨.mv (.t 5), some 40, none⟩,
    ⟨.slice .str (.t 39) none (some (.t 40)) none, some 41, none⟩,
    ⟨.mv (.t 1), some 42, none⟩,
    ⟨.mv (.t 5), some 43, none⟩,
    ⟨.sidx (.t 42) (.t 43), some 44, none⟩,
    ⟨.mv (.t 0), some 45, none⟩,
    ⟨.call J9 [(.t 45), (.c (.p (.i .i64 255)))] 0, some 46, none⟩,
    ⟨.bin .add .plain (.c (.p (.i .i64 1))) (.t 46), some 47, none⟩,
    ⟨.conv (.int .u8) (.t 47), some 48, none⟩,
    ⟨.bin .xor .plain (.t 44) (.t 48), some 49, none⟩,
    ⟨.lits false 1 1 [(.i .u8 0)] [(0, (.t 49))], some 50, none⟩,
    ⟨.conv .toStr (.t 50), some 51, none⟩,
    ⟨.bin .add .plain (.t 41) (.t 51), some 52, none⟩,
    ⟨.mv (.t 1), some 53, none⟩,
    ⟨.mv (.t 5), some 54, none⟩,
    ⟨.bin .add .plain (.t 54) (.c (.p (.i .i64 1))), some 55, none⟩,
    ⟨.slice .str (.t 53) (some (.t 55)) none none, some 56, none⟩,
    ⟨.bin .add .plain (.t 52) (.t 56), some 57, none⟩,
    ⟨.mv (.t 57), some 4, none⟩])
  (.ret))))))
def J3U : AFn := ⟨2, 58, J1f, [.tmp 4], false⟩
def J3N : Jt := .seq (.reg false [] [⟨.newbox (J5 default), some 2, none⟩,
    ⟨.mv (.c (.p (.i .i64 0))), some 3, none⟩])
  (.seq (.seq (.reg false [] [⟨.mv (.t 0), some 4, none⟩,
    ⟨.bin .lss .plain (.t 4) (.c (.p (.i .i64 1))), some 5, none⟩,
    ⟨.mv (.t 5), some 6, none⟩,
    ⟨.mv (.t 0), some 7, some (6, false)⟩,
    ⟨.bin .gtr .plain (.t 7) (.c (.p (.i .i64 64))), some 8, some (6, false)⟩,
    ⟨.pick (.t 6) (.c (.p (.b true))) (.t 8), some 9, none⟩])
  (.keep [0, 2, 9] (.cond (.t 9)
  (.seq (.reg false [] [⟨.build (J5 default) [], some 10, none⟩,
      ⟨.store 1 (.t 2) (.t 10), none, none⟩,
      ⟨.mv (.c (.p (.i .i64 1))), some 3, none⟩])
    (.ret))
  (.skip))))
  (.seq (.reg false [] [⟨.mv (.t 0), some 11, none⟩,
    ⟨.mkslice false 3 24 (J7 default) (.t 11) (.t 11), some 12, none⟩,
    ⟨.build (J5 default) [(0, 1, (.t 12))], some 13, none⟩,
    ⟨.store 1 (.t 2) (.t 13), none, none⟩,
    ⟨.mv (.c (.p (.i .i64 0))), some 3, none⟩])
  (.ret)))
def J5F : AFn := ⟨1, 14, J3N, [.cell 2 true 1, .tmp 3], false⟩
def J69 : Jt := .seq (.reg false [] [⟨.newbox (J5 default), some 2, none⟩,
    ⟨.mv (.c (.p (.i .i64 0))), some 3, none⟩])
  (.seq (.seq (.reg false [] [⟨.mv (.t 0), some 4, none⟩,
    ⟨.bin .lss .plain (.t 4) (.c (.p (.i .i64 1))), some 5, none⟩,
    ⟨.mv (.t 5), some 6, none⟩,
    ⟨.mv (.t 0), some 7, some (6, false)⟩,
    ⟨.bin .gtr .plain (.t 7) (.c (.p (.i .i64 64))), some 8, some (6, false)⟩,
    ⟨.pick (.t 6) (.c (.p (.b true))) (.t 8), some 9, none⟩])
  (.keep [0, 2, 9] (.cond (.t 9)
  (.seq (.reg false [] [⟨.build (J5 default) [], some 10, none⟩,
      ⟨.store 1 (.t 2) (.t 10), none, none⟩,
      ⟨.mv (.c (.p (.i .i64 1))), some 3, none⟩])
    (.ret))
  (.skip))))
  (.seq (.reg false [] [⟨.mv (.t 0), some 11, none⟩,
    ⟨.mkslice true 3 24 (J7 default) (.t 11) (.t 11), some 12, none⟩,
    ⟨.build (J5 default) [(0, 1, (.t 12))], some 13, none⟩,
    ⟨.store 1 (.t 2) (.t 13), none, none⟩,
    ⟨.mv (.c (.p (.i .i64 0))), some 3, none⟩])
  (.ret)))
def J8c : AFn := ⟨1, 14, J69, [.cell 2 true 1, .tmp 3], true⟩
def J2u : Jt := .seq (.reg false [] [⟨.mv (.c (.p (.i .i64 0))), some 2, none⟩])
  (.seq (.seq (.reg false [] [⟨.mv (.t 0), some 3, none⟩,
    ⟨.call J9 [(.t 3), (.c (.p (.i .i64 10)))] 0, some 4, none⟩])
  (.block 0 (.seq (.reg false [] [⟨.bin .eql .plain (.t 4) (.c (.p (.i .i64 0))), some 6, none⟩,
    ⟨.mv (.t 6), some 5, none⟩])
  (.cond (.t 5)
  (.seq (.reg false [] [⟨.mv (.t 0), some 7, none⟩,
      ⟨.call J9 [(.t 7), (.c (.p (.i .i64 3)))] 0, some 8, none⟩,
      ⟨.bin .sub .plain (.c (.p (.i .i64 (-1)))) (.t 8), some 9, none⟩,
      ⟨.mv (.t 9), some 2, none⟩])
    (.ret))
  (.seq (.reg false [] [⟨.bin .eql .plain (.t 4) (.c (.p (.i .i64 1))), some 11, none⟩,
      ⟨.mv (.t 11), some 10, none⟩])
    (.cond (.t 10)
    (.seq (.reg false [] [⟨.lits false 1 16 [(.i .i64 0)] [(0, (.c (.p (.i .i64 9223372036854775807)))), (1, (.c (.p (.i .i64 (-9223372036854775808))))), (2, (.c (.p (.i .i64 1099511627776)))), (3, (.c (.p (.i .i64 1099511627777)))), (4, (.c (.p (.i .i64 1073741824)))), (5, (.c (.p (.i .i64 1073741825)))), (6, (.c (.p (.i .i64 64)))), (7, (.c (.p (.i .i64 63)))), (8, (.c (.p (.i .i64 16)))), (9, (.c (.p (.i .i64 15)))), (10, (.c (.p (.i .i64 256)))), (11, (.c (.p (.i .i64 255)))), (12, (.c (.p (.i .i64 4294967296)))), (13, (.c (.p (.i .i64 65536)))), (14, (.c (.p (.i .i64 256)))), (15, (.c (.p (.i .i64 255))))], some 12, none⟩,
        ⟨.mv (.t 0), some 13, none⟩,
        ⟨.call J9 [(.t 13), (.c (.p (.i .i64 16)))] 0, some 14, none⟩,
        ⟨.iaddr 1 (.t 12) (.t 14), some 15, none⟩,
        ⟨.load false 1 (.t 15), some 16, none⟩,
        ⟨.mv (.t 16), some 2, none⟩])
      (.ret))
    (.skip)))))))
  (.seq (.reg false [] [⟨.mv (.t 0), some 17, none⟩,
    ⟨.call J9 [(.t 17), (.c (.p (.i .i64 20)))] 0, some 18, none⟩,
    ⟨.mv (.t 18), some 2, none⟩])
  (.ret)))
def J5e : AFn := ⟨1, 19, J2u, [.tmp 2], false⟩
def J1X : Jt := .seq (.seq (.reg false [] [⟨.mv (.t 5), some 15, none⟩,
    ⟨.mv (.t 3), some 16, none⟩,
    ⟨.bin .lss .plain (.t 15) (.t 16), some 17, none⟩])
  (.keep [0, 3, 4, 5, 17] (.cond (.t 17)
  (.skip)
  (.exit 0))))
  (.seq (.block 1 (.reg false [] [⟨.mv (.t 4), some 20, none⟩,
    ⟨.mv (.t 0), some 21, none⟩,
    ⟨.call J9 [(.t 21), (.c (.p (.i .i64 3)))] 0, some 22, none⟩,
    ⟨.bin .add .plain (.c (.p (.i .i64 97))) (.t 22), some 23, none⟩,
    ⟨.conv (.int .u8) (.t 23), some 24, none⟩,
    ⟨.lits false 1 1 [(.i .u8 0)] [(0, (.t 24))], some 25, none⟩,
    ⟨.app 1 1 [(.i .u8 0)] (.t 20) (.t 25), some 26, none⟩,
    ⟨.mv (.t 26), some 4, none⟩]))
  (.reg false [] [⟨.mv (.t 5), some 18, none⟩,
    ⟨.bin .add .plain (.t 18) (.c (.p (.i .i64 1))), some 19, none⟩,
    ⟨.mv (.t 19), some 5, none⟩]))
def J2X : Jt := .seq (.reg false [] [⟨.mv (.t 4), some 27, none⟩,
    ⟨.conv .toStr (.t 27), some 28, none⟩,
    ⟨.mv (.t 28), some 2, none⟩])
  (.ret)
def J8k : Jt := .seq (.reg false [] [⟨.mv (.t 3), some 13, none⟩,
    ⟨.mkslice true 1 1 [(.i .u8 0)] (.c (.p (.i .i64 0))) (.t 13), some 14, none⟩,
    ⟨.mv (.t 14), some 4, none⟩])
  (.keep [0, 3, 4] (.seq (.seq (.reg false [] [⟨.mv (.c (.p (.i .i64 0))), some 5, none⟩])
  (.block 0 (.loop [0, 3, 4, 5] J1X)))
  (.keep [4] J2X)))
def J3C : Jt := .seq (.reg false [] [⟨.mv (.c (.p (.s []))), some 2, none⟩])
  (.seq (.reg false [] [⟨.mv (.t 0), some 6, none⟩,
    ⟨.call J9 [(.t 6), (.c (.p (.i .i64 5)))] 0, some 7, none⟩,
    ⟨.mv (.t 7), some 3, none⟩])
  (.keep [0, 3] (.seq (.seq (.reg false [] [⟨.mv (.t 0), some 8, none⟩,
    ⟨.call J9 [(.t 8), (.c (.p (.i .i64 6)))] 0, some 9, none⟩,
    ⟨.bin .eql .plain (.t 9) (.c (.p (.i .i64 0))), some 10, none⟩])
  (.keep [0, 3, 10] (.cond (.t 10)
  (.reg false [] [⟨.mv (.t 0), some 11, none⟩,
      ⟨.call J9 [(.t 11), (.c (.p (.i .i64 14)))] 0, some 12, none⟩,
      ⟨.mv (.t 12), some 3, none⟩])
  (.skip))))
  (.keep [0, 3] J8k))))
def J0Z : AFn := ⟨1, 29, J3C, [.tmp 2], false⟩
def J4V : Jt := .seq (.reg false [] [⟨.box 1 (.t 0), some 2, none⟩,
    ⟨.mv (.c (.p (.b false))), some 4, none⟩])
  (.seq (.reg false [] [⟨.mv (.t 1), some 5, none⟩,
    ⟨.bin .geq .plain (.t 5) (.c (.p (.i .i64 0))), some 6, none⟩,
    ⟨.mv (.t 6), some 7, none⟩,
    ⟨.mv (.t 1), some 8, some (7, true)⟩,
    ⟨.faddr 0 (.t 2), some 9, some (7, true)⟩,
    ⟨.load false 1 (.t 9), some 10, some (7, true)⟩,
    ⟨.len false (.t 10), some 11, some (7, true)⟩,
    ⟨.bin .lss .plain (.t 8) (.t 11), some 12, some (7, true)⟩,
    ⟨.pick (.t 7) (.t 12) (.c (.p (.b false))), some 13, none⟩,
    ⟨.mv (.t 13), some 4, none⟩])
  (.ret))
def J4K : AFn := ⟨2, 14, J4V, [.tmp 4], false⟩
def J9f : Jt := .seq (.reg false [] [⟨.box 1 (.t 0), some 3, none⟩,
    ⟨.box 3 (.t 2), some 5, none⟩,
    ⟨.newbox (J5 default), some 6, none⟩])
  (.keep [1, 3, 5, 6] (.seq (.reg false [] [⟨.faddr 0 (.t 3), some 7, none⟩,
    ⟨.load false 1 (.t 7), some 8, none⟩,
    ⟨.appn 3 24 (J7 default) (.t 8), some 9, none⟩,
    ⟨.faddr 0 (.t 3), some 10, none⟩,
    ⟨.store 1 (.t 10) (.t 9), none, none⟩])
  (.keep [1, 3, 5, 6] (.seq (.reg false [] [⟨.faddr 0 (.t 3), some 11, none⟩,
    ⟨.load false 1 (.t 11), some 12, none⟩,
    ⟨.mv (.t 1), some 13, none⟩,
    ⟨.load true 3 (.t 5), some 14, none⟩,
    ⟨.iaddr 3 (.t 12) (.t 13), some 15, none⟩,
    ⟨.store 3 (.t 15) (.t 14), none, none⟩])
  (.keep [3, 6] (.seq (.reg false [] [⟨.load true 1 (.t 3), some 16, none⟩,
    ⟨.store 1 (.t 6) (.t 16), none, none⟩])
  (.ret)))))))
def J8b : AFn := ⟨3, 17, J9f, [.cell 6 true 1], false⟩
def J3v : Jt := .seq (.reg false [] [⟨.mv (.c (.p (.b false))), some 2, none⟩])
  (.seq (.reg false [] [⟨.mv (.t 0), some 3, none⟩,
    ⟨.bin .geq .plain (.t 3) (.c (.p (.i .i64 0))), some 4, none⟩,
    ⟨.mv (.t 4), some 5, none⟩,
    ⟨.mv (.t 0), some 6, some (5, true)⟩,
    ⟨.bin .leq .plain (.t 6) (.c (.p (.i .i64 1099511627776))), some 7, some (5, true)⟩,
    ⟨.pick (.t 5) (.t 7) (.c (.p (.b false))), some 8, none⟩,
    ⟨.mv (.t 8), some 2, none⟩])
  (.ret))
def J3x : AFn := ⟨1, 9, J3v, [.tmp 2], false⟩
def J8i : Jt := .seq (.reg false [] [⟨.mv (.c (.p (.b false))), some 2, none⟩])
  (.seq (.reg false [] [⟨.mv (.t 0), some 3, none⟩,
    ⟨.bin .geq .plain (.t 3) (.c (.p (.i .i64 0))), some 4, none⟩,
    ⟨.mv (.t 4), some 5, none⟩,
    ⟨.mv (.t 0), some 6, some (5, true)⟩,
    ⟨.bin .leq .plain (.t 6) (.c (.p (.i .i64 1099511627776))), some 7, some (5, true)⟩,
    ⟨.pick (.t 5) (.t 7) (.c (.p (.b false))), some 8, none⟩,
    ⟨.mv (.t 8), some 2, none⟩])
  (.ret))
def J89 : AFn := ⟨1, 9, J8i, [.tmp 2], false⟩
def J4Z : Jt := .seq (.seq (.reg false [] [⟨.mv (.t 7), some 15, none⟩,
    ⟨.mv (.t 2), some 16, none⟩,
    ⟨.bin .lss .plain (.t 15) (.t 16), some 17, none⟩])
  (.keep [0, 1, 2, 7, 17] (.cond (.t 17)
  (.skip)
  (.exit 0))))
  (.seq (.block 1 (.reg false [] [⟨.mv (.t 0), some 20, none⟩,
    ⟨.mv (.t 1), some 21, none⟩,
    ⟨.conv (.int .u64) (.t 21), some 22, none⟩,
    ⟨.mv (.t 7), some 23, none⟩,
    ⟨.bin .mul .plain (.c (.p (.i .i64 8))) (.t 23), some 24, none⟩,
    ⟨.conv (.int .u64) (.t 24), some 25, none⟩,
    ⟨.bin .shr .plain (.t 22) (.t 25), some 26, none⟩,
    ⟨.conv (.int .u8) (.t 26), some 27, none⟩,
    ⟨.lits false 1 1 [(.i .u8 0)] [(0, (.t 27))], some 28, none⟩,
    ⟨.conv .toStr (.t 28), some 29, none⟩,
    ⟨.bin .add .plain (.t 20) (.t 29), some 30, none⟩,
    ⟨.mv (.t 30), some 0, none⟩]))
  (.reg false [] [⟨.mv (.t 7), some 18, none⟩,
    ⟨.bin .add .plain (.t 18) (.c (.p (.i .i64 1))), some 19, none⟩,
    ⟨.mv (.t 19), some 7, none⟩]))
def J5R : Jt := .seq (.reg false [] [⟨.mv (.t 0), some 31, none⟩,
    ⟨.mv (.t 31), some 6, none⟩])
  (.ret)
def J6a : Jt := .seq (.reg false [] [⟨.mv (.c (.p (.s []))), some 6, none⟩])
  (.seq (.seq (.reg false [] [⟨.mv (.t 2), some 8, none⟩,
    ⟨.bin .lss .plain (.t 8) (.c (.p (.i .i64 1))), some 9, none⟩,
    ⟨.mv (.t 9), some 10, none⟩,
    ⟨.mv (.t 2), some 11, some (10, false)⟩,
    ⟨.bin .gtr .plain (.t 11) (.c (.p (.i .i64 8))), some 12, some (10, false)⟩,
    ⟨.pick (.t 10) (.c (.p (.b true))) (.t 12), some 13, none⟩])
  (.keep [0, 1, 2, 13] (.cond (.t 13)
  (.seq (.reg false [] [⟨.mv (.t 0), some 14, none⟩,
      ⟨.mv (.t 14), some 6, none⟩])
    (.ret))
  (.skip))))
  (.seq (.seq (.reg false [] [⟨.mv (.c (.p (.i .i64 0))), some 7, none⟩])
  (.block 0 (.loop [0, 1, 2, 7] J4Z)))
  (.keep [0] J5R)))
def J40 : AFn := ⟨3, 32, J6a, [.tmp 6], false⟩
def J0u : Jt := .seq (.reg false [] [⟨.box 3 (.t 0), some 1, none⟩,
    ⟨.mv (.c (.p (.b false))), some 2, none⟩])
  (.seq (.reg false [] [⟨.faddr 0 (.t 1), some 3, none⟩,
    ⟨.load false 1 (.t 3), some 4, none⟩,
    ⟨.call J14 [(.t 4)] 0, some 5, none⟩,
    ⟨.un .not (.t 5), some 6, none⟩,
    ⟨.mv (.t 6), some 7, none⟩,
    ⟨.faddr 1 (.t 1), some 8, some (7, false)⟩,
    ⟨.load false 1 (.t 8), some 9, some (7, false)⟩,
    ⟨.call J14 [(.t 9)] 0, some 10, some (7, false)⟩,
    ⟨.un .not (.t 10), some 11, some (7, false)⟩,
    ⟨.pick (.t 7) (.c (.p (.b true))) (.t 11), some 12, none⟩,
    ⟨.mv (.t 12), some 13, none⟩,
    ⟨.faddr 2 (.t 1), some 14, some (13, false)⟩,
    ⟨.load false 1 (.t 14), some 15, some (13, false)⟩,
    ⟨.call J14 [(.t 15)] 0, some 16, some (13, false)⟩,
    ⟨.un .not (.t 16), some 17, some (13, false)⟩,
    ⟨.pick (.t 13) (.c (.p (.b true))) (.t 17), some 18, none⟩,
    ⟨.mv (.t 18), some 19, none⟩,
    ⟨.faddr 1 (.t 1), some 20, some (19, false)⟩,
    ⟨.load false 1 (.t 20), some 21, some (19, false)⟩,
    ⟨.bin .eql .plain (.t 21) (.c (.p (.i .i64 0))), some 22, some (19, false)⟩,
    ⟨.mv (.t 22), some 23, some (19, false)⟩,
    ⟨.faddr 2 (.t 1), some 24, some (23, true)⟩,
    ⟨.load false 1 (.t 24), some 25, some (23, true)⟩,
    ⟨.bin .neq .plain (.t 25) (.c (.p (.i .i64 0))), some 26, some (23, true)⟩,
    ⟨.pick (.t 23) (.t 26) (.c (.p (.b false))), some 27, some (19, false)⟩,
    ⟨.pick (.t 19) (.c (.p (.b true))) (.t 27), some 28, none⟩,
    ⟨.mv (.t 28), some 2, none⟩])
  (.ret))
def J3m : AFn := ⟨1, 29, J0u, [.tmp 2], false⟩
def J4W : Jt := .seq (.reg false [] [⟨.bin .lss .plain (.t 35) (.t 34), some 36, none⟩])
  (.seq (.cond (.t 36)
  (.skip)
  (.exit 1))
  (.seq (.block 2 (.seq (.reg false [] [⟨.mv (.t 35), some 37, none⟩,
    ⟨.mv (.t 37), some 9, none⟩])
  (.reg false [] [⟨.mv (.t 8), some 38, none⟩,
    ⟨.mv (.t 0), some 39, none⟩,
    ⟨.mv (.t 1), some 40, none⟩,
    ⟨.mv (.t 9), some 41, none⟩,
    ⟨.bin .add .plain (.t 40) (.t 41), some 42, none⟩,
    ⟨.sidx (.t 39) (.t 42), some 43, none⟩,
    ⟨.conv (.int .u64) (.t 43), some 44, none⟩,
    ⟨.mv (.t 9), some 45, none⟩,
    ⟨.bin .mul .plain (.c (.p (.i .i64 8))) (.t 45), some 46, none⟩,
    ⟨.bin .shl .plain (.t 44) (.t 46), some 47, none⟩,
    ⟨.bin .or .plain (.t 38) (.t 47), some 48, none⟩,
    ⟨.mv (.t 48), some 8, none⟩])))
  (.reg false [] [⟨.bin .add .plain (.t 35) (.c (.p (.i .i64 1))), some 49, none⟩,
    ⟨.mv (.t 49), some 35, none⟩])))
def J5K : Jt := .seq (.reg false [] [⟨.mv (.t 8), some 50, none⟩,
    ⟨.conv (.int .i64) (.t 50), some 51, none⟩,
    ⟨.mv (.t 51), some 6, none⟩,
    ⟨.mv (.c (.p (.i .i64 0))), some 7, none⟩])
  (.ret)
def J2g : Jt := .seq (.reg false [] [⟨.mv (.c (.p (.i .i64 0))), some 6, none⟩,
    ⟨.mv (.c (.p (.i .i64 0))), some 7, none⟩])
  (.seq (.block 0 (.seq (.reg false [] [⟨.mv (.t 2), some 11, none⟩,
    ⟨.bin .lss .plain (.t 11) (.c (.p (.i .i64 1))), some 12, none⟩,
    ⟨.mv (.t 12), some 13, none⟩,
    ⟨.mv (.t 2), some 14, some (13, false)⟩,
    ⟨.bin .gtr .plain (.t 14) (.c (.p (.i .i64 8))), some 15, some (13, false)⟩,
    ⟨.pick (.t 13) (.c (.p (.b true))) (.t 15), some 16, none⟩,
    ⟨.mv (.t 16), some 17, none⟩,
    ⟨.mv (.t 1), some 18, some (17, false)⟩,
    ⟨.bin .lss .plain (.t 18) (.c (.p (.i .i64 0))), some 19, some (17, false)⟩,
    ⟨.pick (.t 17) (.c (.p (.b true))) (.t 19), some 20, none⟩,
    ⟨.mv (.t 20), some 10, none⟩])
  (.keep [0, 1, 2, 10] (.cond (.t 10)
  (.seq (.reg false [] [⟨.mv (.c (.p (.i .i64 0))), some 6, none⟩,
      ⟨.mv (.c (.p (.i .i64 1))), some 7, none⟩])
    (.ret))
  (.seq (.reg false [] [⟨.mv (.t 1), some 22, none⟩,
      ⟨.mv (.t 0), some 23, none⟩,
      ⟨.len true (.t 23), some 24, none⟩,
      ⟨.bin .gtr .plain (.t 22) (.t 24), some 25, none⟩,
      ⟨.mv (.t 25), some 26, none⟩,
      ⟨.mv (.t 0), some 27, some (26, false)⟩,
      ⟨.len true (.t 27), some 28, some (26, false)⟩,
      ⟨.mv (.t 1), some 29, some (26, false)⟩,
      ⟨.bin .sub .plain (.t 28) (.t 29), some 30, some (26, false)⟩,
      ⟨.mv (.t 2), some 31, some (26, false)⟩,
      ⟨.bin .lss .plain (.t 30) (.t 31), some 32, some (26, false)⟩,
      ⟨.pick (.t 26) (.c (.p (.b true))) (.t 32), some 33, none⟩,
      ⟨.mv (.t 33), some 21, none⟩])
    (.keep [0, 1, 2, 21] (.cond (.t 21)
    (.seq (.reg false [] [⟨.mv (.c (.p (.i .i64 0))), some 6, none⟩,
        ⟨.mv (.c (.p (.i .i64 5))), some 7, none⟩])
      (.ret))
    (.skip))))))))
  (.seq (.reg false [] [⟨.mv (.c (.p (.i .u64 0))), some 8, none⟩])
  (.seq (.seq (.reg false [] [⟨.mv (.t 2), some 34, none⟩,
    ⟨.mv (.c (.p (.i .i64 0))), some 35, none⟩])
  (.block 1 (.loop [0, 1, 8, 34, 35] J4W)))
  (.keep [8] J5K))))
def J42 : AFn := ⟨3, 52, J2g, [.tmp 6, .tmp 7], false⟩
def J4X : Jt := .seq (.seq (.reg false [] [⟨.mv (.t 9), some 32, none⟩,
    ⟨.mv (.t 2), some 33, none⟩,
    ⟨.bin .lss .plain (.t 32) (.t 33), some 34, none⟩])
  (.keep [0, 1, 2, 8, 9, 34] (.cond (.t 34)
  (.skip)
  (.exit 0))))
  (.seq (.block 1 (.reg false [] [⟨.mv (.t 8), some 37, none⟩,
    ⟨.mv (.t 0), some 38, none⟩,
    ⟨.mv (.t 1), some 39, none⟩,
    ⟨.mv (.t 9), some 40, none⟩,
    ⟨.bin .add .plain (.t 39) (.t 40), some 41, none⟩,
    ⟨.sidx (.t 38) (.t 41), some 42, none⟩,
    ⟨.conv (.int .u64) (.t 42), some 43, none⟩,
    ⟨.mv (.t 9), some 44, none⟩,
    ⟨.bin .mul .plain (.c (.p (.i .i64 8))) (.t 44), some 45, none⟩,
    ⟨.conv (.int .u64) (.t 45), some 46, none⟩,
    ⟨.bin .shl .plain (.t 43) (.t 46), some 47, none⟩,
    ⟨.bin .or .plain (.t 37) (.t 47), some 48, none⟩,
    ⟨.mv (.t 48), some 8, none⟩]))
  (.reg false [] [⟨.mv (.t 9), some 35, none⟩,
    ⟨.bin .add .plain (.t 35) (.c (.p (.i .i64 1))), some 36, none⟩,
    ⟨.mv (.t 36), some 9, none⟩]))
def J5L : Jt := .seq (.reg false [] [⟨.mv (.t 8), some 49, none⟩,
    ⟨.conv (.int .i64) (.t 49), some 50, none⟩,
    ⟨.mv (.t 50), some 6, none⟩,
    ⟨.mv (.c (.p (.i .i64 0))), some 7, none⟩])
  (.ret)
def J2i : Jt := .seq (.reg false [] [⟨.mv (.c (.p (.i .i64 0))), some 6, none⟩,
    ⟨.mv (.c (.p (.i .i64 0))), some 7, none⟩])
  (.seq (.seq (.reg false [] [⟨.mv (.t 2), some 10, none⟩,
    ⟨.bin .lss .plain (.t 10) (.c (.p (.i .i64 1))), some 11, none⟩,
    ⟨.mv (.t 11), some 12, none⟩,
    ⟨.mv (.t 2), some 13, some (12, false)⟩,
    ⟨.bin .gtr .plain (.t 13) (.c (.p (.i .i64 8))), some 14, some (12, false)⟩,
    ⟨.pick (.t 12) (.c (.p (.b true))) (.t 14), some 15, none⟩,
    ⟨.mv (.t 15), some 16, none⟩,
    ⟨.mv (.t 1), some 17, some (16, false)⟩,
    ⟨.bin .lss .plain (.t 17) (.c (.p (.i .i64 0))), some 18, some (16, false)⟩,
    ⟨.pick (.t 16) (.c (.p (.b true))) (.t 18), some 19, none⟩])
  (.keep [0, 1, 2, 19] (.cond (.t 19)
  (.seq (.reg false [] [⟨.mv (.c (.p (.i .i64 0))), some 6, none⟩,
      ⟨.mv (.c (.p (.i .i64 1))), some 7, none⟩])
    (.ret))
  (.skip))))
  (.seq (.seq (.reg false [] [⟨.mv (.t 1), some 20, none⟩,
    ⟨.mv (.t 0), some 21, none⟩,
    ⟨.len true (.t 21), some 22, none⟩,
    ⟨.bin .gtr .plain (.t 20) (.t 22), some 23, none⟩,
    ⟨.mv (.t 23), some 24, none⟩,
    ⟨.mv (.t 0), some 25, some (24, false)⟩,
    ⟨.len true (.t 25), some 26, some (24, false)⟩,
    ⟨.mv (.t 1), some 27, some (24, false)⟩,
    ⟨.bin .sub .plain (.t 26) (.t 27), some 28, some (24, false)⟩,
    ⟨.mv (.t 2), some 29, some (24, false)⟩,
    ⟨.bin .lss .plain (.t 28) (.t 29), some 30, some (24, false)⟩,
    ⟨.pick (.t 24) (.c (.p (.b true))) (.t 30), some 31, none⟩])
  (.keep [0, 1, 2, 31] (.cond (.t 31)
  (.seq (.reg false [] [⟨.mv (.c (.p (.i .i64 0))), some 6, none⟩,
      ⟨.mv (.c (.p (.i .i64 5))), some 7, none⟩])
    (.ret))
  (.skip))))
  (.seq (.reg false [] [⟨.mv (.c (.p (.i .u64 0))), some 8, none⟩])
  (.seq (.seq (.reg false [] [⟨.mv (.c (.p (.i .i64 0))), some 9, none⟩])
  (.block 0 (.loop [0, 1, 2, 8, 9] J4X)))
  (.keep [8] J5L)))))
def J3Y : AFn := ⟨3, 51, J2i, [.tmp 6, .tmp 7], false⟩
def J3I : Jt := .seq (.reg false [] [⟨.newbox (Jr default), some 2, none⟩])
  (.seq (.seq (.reg false [] [⟨.mv (.t 0), some 4, none⟩,
    ⟨.call J9 [(.t 4), (.c (.p (.i .i64 3)))] 0, some 5, none⟩,
    ⟨.bin .eql .plain (.t 5) (.c (.p (.i .i64 0))), some 6, none⟩])
  (.keep [0, 2, 6] (.cond (.t 6)
  (.seq (.reg false [] [⟨.build (Jr default) [], some 7, none⟩,
      ⟨.store 2 (.t 2) (.t 7), none, none⟩])
    (.ret))
  (.skip))))
  (.seq (.reg false [] [⟨.mv (.t 0), some 8, none⟩,
    ⟨.call J2V [(.t 8)] 0, some 9, none⟩,
    ⟨.mv (.t 9), some 3, none⟩])
  (.keep [2, 3] (.seq (.reg false [] [⟨.mv (.t 3), some 10, none⟩,
    ⟨.mv (.t 3), some 11, none⟩,
    ⟨.len true (.t 11), some 12, none⟩,
    ⟨.mm false (.t 12) (.c (.p (.i .i64 12))), some 13, none⟩,
    ⟨.slice .str (.t 10) none (some (.t 13)) none, some 14, none⟩,
    ⟨.build (Jr default) [(0, 1, (.c (.p (.b true)))), (1, 1, (.t 14))], some 15, none⟩,
    ⟨.store 2 (.t 2) (.t 15), none, none⟩])
  (.ret)))))
def J4S : AFn := ⟨1, 16, J3I, [.cell 2 true 2], false⟩
def J6o : Jt := .seq (.reg false [] [⟨.box 13 (.t 1), some 3, none⟩,
    ⟨.mv (.c (.p (.b false))), some 4, none⟩])
  (.seq (.reg false [] [⟨.mv (.t 0), some 5, none⟩,
    ⟨.bin .geq .plain (.t 5) (.c (.p (.i .i64 0))), some 6, none⟩,
    ⟨.mv (.t 6), some 7, none⟩,
    ⟨.mv (.t 0), some 8, some (7, true)⟩,
    ⟨.faddr 0 (.t 3), some 9, some (7, true)⟩,
    ⟨.load false 1 (.t 9), some 10, some (7, true)⟩,
    ⟨.bin .lss .plain (.t 8) (.t 10), some 11, some (7, true)⟩,
    ⟨.pick (.t 7) (.t 11) (.c (.p (.b false))), some 12, none⟩,
    ⟨.mv (.t 12), some 4, none⟩])
  (.ret))
def J6l : AFn := ⟨2, 13, J6o, [.tmp 4], false⟩
def J83 : Jt := .seq (.reg false [] [⟨.newbox [.b false, .b false, .b false, .b false, .b false, .nf, .nf, .b false, .b false, .b false, .b false, .b false, .nf, .nf, .b false, .b false, .b false, .b false, .b false, .nf, .nf, .b false, .b false, .b false, .b false, .b false, .nf, .nf, .b false, .b false, .b false, .b false, .b false, .nf, .nf, .b false, .b false, .b false, .b false, .b false, .nf, .nf, .b false, .b false, .b false, .b false, .b false, .nf, .nf, .b false, .b false, .b false, .b false, .b false, .nf, .nf, .b false, .b false, .b false, .b false, .b false, .nf, .nf], some 0, none⟩])
  (.seq (.reg false [] [⟨.mv (.c (.fn JH [] [])), some 1, none⟩])
  (.seq (.reg false [] [⟨.mv (.t 1), some 4, none⟩,
    ⟨.build [.b false, .b false, .b false, .b false, .b false, .nf, .nf] [(0, 1, (.c (.p (.b true)))), (1, 1, (.c (.p (.b true)))), (5, 1, (.t 4)), (6, 1, (.c (.fn J0m [] [])))], some 5, none⟩,
    ⟨.newbox [.b false, .b false, .b false, .b false, .b false, .nf, .nf], some 2, none⟩,
    ⟨.store 7 (.t 2) (.t 5), none, none⟩])
  (.keep [0, 1, 2] (.seq (.reg false [] [⟨.mv (.t 1), some 6, none⟩,
    ⟨.build [.b false, .b false, .b false, .b false, .b false, .nf, .nf] [(4, 1, (.c (.p (.b true)))), (5, 1, (.t 6)), (6, 1, (.c (.fn J0m [] [])))], some 7, none⟩,
    ⟨.newbox [.b false, .b false, .b false, .b false, .b false, .nf, .nf], some 3, none⟩,
    ⟨.store 7 (.t 3) (.t 7), none, none⟩])
  (.keep [0, 1, 2, 3] (.seq (.reg false [] [⟨.mv (.t 1), some 8, none⟩,
    ⟨.build [.b false, .b false, .b false, .b false, .b false, .nf, .nf] [(0, 1, (.c (.p (.b true)))), (2, 1, (.c (.p (.b true)))), (5, 1, (.t 8)), (6, 1, (.c (.fn J0C [] [])))], some 9, none⟩,
    ⟨.build [.b false, .b false, .b false, .b false, .b false, .nf, .nf] [(0, 1, (.c (.p (.b true)))), (1, 1, (.c (.p (.b true)))), (2, 1, (.c (.p (.b true)))), (3, 1, (.c (.p (.b true)))), (5, 1, (.c (.fn J1B [] []))), (6, 1, (.c (.fn J0C [] [])))], some 10, none⟩,
    ⟨.load true 7 (.t 2), some 11, none⟩,
    ⟨.load true 7 (.t 2), some 12, none⟩,
    ⟨.load true 7 (.t 2), some 13, none⟩,
    ⟨.load true 7 (.t 3), some 14, none⟩,
    ⟨.mv (.t 1), some 15, none⟩,
    ⟨.build [.b false, .b false, .b false, .b false, .b false, .nf, .nf] [(3, 1, (.c (.p (.b true)))), (5, 1, (.t 15)), (6, 1, (.c (.fn J1x [] [])))], some 16, none⟩,
    ⟨.load true 7 (.t 3), some 17, none⟩,
    ⟨.build [.b false, .b false, .b false, .b false, .b false, .nf, .nf, .b false, .b false, .b false, .b false, .b false, .nf, .nf, .b false, .b false, .b false, .b false, .b false, .nf, .nf, .b false, .b false, .b false, .b false, .b false, .nf, .nf, .b false, .b false, .b false, .b false, .b false, .nf, .nf, .b false, .b false, .b false, .b false, .b false, .nf, .nf, .b false, .b false, .b false, .b false, .b false, .nf, .nf, .b false, .b false, .b false, .b false, .b false, .nf, .nf, .b false, .b false, .b false, .b false, .b false, .nf, .nf] [(7, 7, (.t 9)), (14, 7, (.t 10)), (21, 7, (.t 11)), (28, 7, (.t 12)), (35, 7, (.t 13)), (42, 7, (.t 14)), (49, 7, (.t 16)), (56, 7, (.t 17))], some 18, none⟩,
    ⟨.store 63 (.t 0) (.t 18), none, none⟩])
  (.ret)))))))
def J6X : AFn := ⟨0, 19, J83, [.cell 0 true 63], false⟩
def J1H : Ja5 := ⟨1, 8, .reg false [] [⟨.mkarr 3 (.c (.p (.sl 3 []))), some 2, none⟩], [], .reg false [] [⟨.mv (.t 0), some 3, none⟩,
    ⟨.bin .eql .nils (.t 3) (.c (.p (.sl 3 []))), some 4, none⟩], (.t 4),
  .seq (.reg false [] [⟨.mkarr 3 (.c (.p (.sl 3 []))), some 2, none⟩])
  (.ret),
  .skip,
  .seq (.reg false [] [⟨.lits true 3 0 (J7 default) [], some 5, none⟩,
    ⟨.mv (.t 0), some 6, none⟩,
    ⟨.app 3 24 (J7 default) (.t 5) (.t 6), some 7, none⟩,
    ⟨.mv (.t 7), some 2, none⟩])
  (.ret), [.tmp 2], true⟩
def J6q : Jt := .seq (.reg false [] [⟨.mv (.c (.p (.b false))), some 4, none⟩])
  (.seq (.reg false [] [⟨.mv (.t 0), some 5, none⟩,
    ⟨.bin .geq .plain (.t 5) (.c (.p (.i .i64 0))), some 6, none⟩,
    ⟨.mv (.t 6), some 7, none⟩,
    ⟨.mv (.t 0), some 8, some (7, true)⟩,
    ⟨.mv (.t 1), some 9, some (7, true)⟩,
    ⟨.bin .lss .plain (.t 8) (.t 9), some 10, some (7, true)⟩,
    ⟨.pick (.t 7) (.t 10) (.c (.p (.b false))), some 11, none⟩,
    ⟨.mv (.t 11), some 4, none⟩])
  (.ret))
def J6j : AFn := ⟨2, 12, J6q, [.tmp 4], false⟩
def J2Q : Jt := .seq (.reg false [] [⟨.box 2 (.t 0), some 1, none⟩,
    ⟨.mv (.c (.p (.b false))), some 2, none⟩])
  (.seq (.reg false [] [⟨.faddr 1 (.t 1), some 3, none⟩,
    ⟨.load false 1 (.t 3), some 4, none⟩,
    ⟨.len true (.t 4), some 5, none⟩,
    ⟨.bin .leq .plain (.t 5) (.c (.p (.i .i64 12))), some 6, none⟩,
    ⟨.mv (.t 6), some 7, none⟩,
    ⟨.faddr 0 (.t 1), some 8, some (7, true)⟩,
    ⟨.load false 1 (.t 8), some 9, some (7, true)⟩,
    ⟨.mv (.t 9), some 10, some (7, true)⟩,
    ⟨.faddr 1 (.t 1), some 11, some (10, false)⟩,
    ⟨.load false 1 (.t 11), some 12, some (10, false)⟩,
    ⟨.bin .eql .plain (.t 12) (.c (.p (.s []))), some 13, some (10, false)⟩,
    ⟨.pick (.t 10) (.c (.p (.b true))) (.t 13), some 14, some (7, true)⟩,
    ⟨.pick (.t 7) (.t 14) (.c (.p (.b false))), some 15, none⟩,
    ⟨.mv (.t 15), some 2, none⟩])
  (.ret))
def J4M : AFn := ⟨1, 16, J2Q, [.tmp 2], false⟩
def J6w : Jt := .seq (.reg false [] [⟨.box 13 (.t 0), some 1, none⟩,
    ⟨.mv (.c (.p (.b false))), some 2, none⟩])
  (.seq (.reg false [] [⟨.mv (.c (.p (.b true))), some 2, none⟩])
  (.ret))
def J5m : AFn := ⟨1, 3, J6w, [.tmp 2], false⟩
def J8K : Jt := .seq (.reg false [] [⟨.box 6 (.t 0), some 1, none⟩,
    ⟨.mv (.c (.p (.b false))), some 2, none⟩])
  (.seq (.reg false [] [⟨.load true 6 (.t 1), some 3, none⟩,
    ⟨.build (Jf default) [], some 4, none⟩,
    ⟨.bin .eql (.flat [(.i .i64), (.i .i64), .b, .s, .b, .s]) (.t 3) (.t 4), some 5, none⟩,
    ⟨.mv (.t 5), some 2, none⟩])
  (.ret))
def J7z : AFn := ⟨1, 6, J8K, [.tmp 2], false⟩
def J5c : Jt := .seq (.reg false [] [⟨.box 13 (.t 0), some 1, none⟩,
    ⟨.mv (.c (.p (.b false))), some 2, none⟩])
  (.seq (.reg false [] [⟨.faddr 5 (.t 1), some 3, none⟩,
    ⟨.load false 1 (.t 3), some 4, none⟩,
    ⟨.bin .geq .plain (.t 4) (.c (.p (.i .i64 1))), some 5, none⟩,
    ⟨.mv (.t 5), some 6, none⟩,
    ⟨.faddr 5 (.t 1), some 7, some (6, true)⟩,
    ⟨.load false 1 (.t 7), some 8, some (6, true)⟩,
    ⟨.faddr 3 (.t 1), some 9, some (6, true)⟩,
    ⟨.load false 1 (.t 9), some 10, some (6, true)⟩,
    ⟨.bin .leq .plain (.t 8) (.t 10), some 11, some (6, true)⟩,
    ⟨.pick (.t 6) (.t 11) (.c (.p (.b false))), some 12, none⟩,
    ⟨.mv (.t 12), some 2, none⟩])
  (.ret))
def J5b : AFn := ⟨1, 13, J5c, [.tmp 2], false⟩
def J2v : Jt := .seq (.reg false [] [⟨.box 6 (.t 0), some 1, none⟩,
    ⟨.mv (.c (.p (.b false))), some 2, none⟩])
  (.seq (.reg false [] [⟨.load true 6 (.t 1), some 3, none⟩,
    ⟨.faddr 0 (.t 1), some 4, none⟩,
    ⟨.load false 1 (.t 4), some 5, none⟩,
    ⟨.build (Jf default) [(0, 1, (.t 5))], some 6, none⟩,
    ⟨.bin .eql (.flat [(.i .i64), (.i .i64), .b, .s, .b, .s]) (.t 3) (.t 6), some 7, none⟩,
    ⟨.mv (.t 7), some 8, none⟩,
    ⟨.faddr 0 (.t 1), some 9, some (8, true)⟩,
    ⟨.load false 1 (.t 9), some 10, some (8, true)⟩,
    ⟨.bin .geq .plain (.t 10) (.c (.p (.i .i64 0))), some 11, some (8, true)⟩,
    ⟨.pick (.t 8) (.t 11) (.c (.p (.b false))), some 12, none⟩,
    ⟨.mv (.t 12), some 13, none⟩,
    ⟨.faddr 0 (.t 1), some 14, some (13, true)⟩,
    ⟨.load false 1 (.t 14), some 15, some (13, true)⟩,
    ⟨.bin .lss .plain (.t 15) (.c (.p (.i .i64 64))), some 16, some (13, true)⟩,
    ⟨.pick (.t 13) (.t 16) (.c (.p (.b false))), some 17, none⟩,
    ⟨.mv (.t 17), some 2, none⟩])
  (.ret))
def J57 : AFn := ⟨1, 18, J2v, [.tmp 2], false⟩
def J1t : Jt := .seq (.reg false [] [⟨.box 6 (.t 0), some 1, none⟩,
    ⟨.mv (.c (.p (.b false))), some 2, none⟩])
  (.seq (.reg false [] [⟨.faddr 0 (.t 1), some 3, none⟩,
    ⟨.load false 1 (.t 3), some 4, none⟩,
    ⟨.bin .geq .plain (.t 4) (.c (.p (.i .i64 0))), some 5, none⟩,
    ⟨.mv (.t 5), some 6, none⟩,
    ⟨.faddr 0 (.t 1), some 7, some (6, true)⟩,
    ⟨.load false 1 (.t 7), some 8, some (6, true)⟩,
    ⟨.bin .lss .plain (.t 8) (.c (.p (.i .i64 64))), some 9, some (6, true)⟩,
    ⟨.pick (.t 6) (.t 9) (.c (.p (.b false))), some 10, none⟩,
    ⟨.mv (.t 10), some 11, none⟩,
    ⟨.faddr 1 (.t 1), some 12, some (11, true)⟩,
    ⟨.load false 1 (.t 12), some 13, some (11, true)⟩,
    ⟨.bin .geq .plain (.t 13) (.c (.p (.i .i64 0))), some 14, some (11, true)⟩,
    ⟨.pick (.t 11) (.t 14) (.c (.p (.b false))), some 15, none⟩,
    ⟨.mv (.t 15), some 16, none⟩,
    ⟨.faddr 1 (.t 1), some 17, some (16, true)⟩,
    ⟨.load false 1 (.t 17), some 18, some (16, true)⟩,
    ⟨.bin .lss .plain (.t 18) (.c (.p (.i .i64 16))), some 19, some (16, true)⟩,
    ⟨.pick (.t 16) (.t 19) (.c (.p (.b false))), some 20, none⟩,
    ⟨.mv (.t 20), some 21, none⟩,
    ⟨.faddr 2 (.t 1), some 22, some (21, true)⟩,
    ⟨.load true 2 (.t 22), some 23, some (21, true)⟩,
    ⟨.call J3H [(.t 23)] 0, some 24, some (21, true)⟩,
    ⟨.pick (.t 21) (.t 24) (.c (.p (.b false))), some 25, none⟩,
    ⟨.mv (.t 25), some 26, none⟩,
    ⟨.faddr 4 (.t 1), some 27, some (26, true)⟩,
    ⟨.load true 2 (.t 27), some 28, some (26, true)⟩,
    ⟨.call J3H [(.t 28)] 0, some 29, some (26, true)⟩,
    ⟨.pick (.t 26) (.t 29) (.c (.p (.b false))), some 30, none⟩,
    ⟨.mv (.t 30), some 2, none⟩])
  (.ret))
def J71 : AFn := ⟨1, 31, J1t, [.tmp 2], false⟩
def J6i : Jt := .seq (.reg false [] [⟨.mv (.c (.p (.b false))), some 2, none⟩])
  (.seq (.reg false [] [⟨.mv (.t 0), some 3, none⟩,
    ⟨.bin .geq .plain (.t 3) (.c (.p (.i .i64 0))), some 4, none⟩,
    ⟨.mv (.t 4), some 5, none⟩,
    ⟨.mv (.t 0), some 6, some (5, true)⟩,
    ⟨.bin .lss .plain (.t 6) (.c (.p (.i .i64 64))), some 7, some (5, true)⟩,
    ⟨.pick (.t 5) (.t 7) (.c (.p (.b false))), some 8, none⟩,
    ⟨.mv (.t 8), some 2, none⟩])
  (.ret))
def J6g : AFn := ⟨1, 9, J6i, [.tmp 2], false⟩
def J2j : Jt := .seq (.reg false [] [⟨.box 2 (.t 0), some 1, none⟩,
    ⟨.mv (.c (.p (.b false))), some 2, none⟩])
  (.seq (.reg false [] [⟨.faddr 1 (.t 1), some 3, none⟩,
    ⟨.load false 1 (.t 3), some 4, none⟩,
    ⟨.len true (.t 4), some 5, none⟩,
    ⟨.bin .leq .plain (.t 5) (.c (.p (.i .i64 12))), some 6, none⟩,
    ⟨.mv (.t 6), some 7, none⟩,
    ⟨.faddr 0 (.t 1), some 8, some (7, true)⟩,
    ⟨.load false 1 (.t 8), some 9, some (7, true)⟩,
    ⟨.mv (.t 9), some 10, some (7, true)⟩,
    ⟨.faddr 1 (.t 1), some 11, some (10, false)⟩,
    ⟨.load false 1 (.t 11), some 12, some (10, false)⟩,
    ⟨.bin .eql .plain (.t 12) (.c (.p (.s []))), some 13, some (10, false)⟩,
    ⟨.pick (.t 10) (.c (.p (.b true))) (.t 13), some 14, some (7, true)⟩,
    ⟨.pick (.t 7) (.t 14) (.c (.p (.b false))), some 15, none⟩,
    ⟨.mv (.t 15), some 2, none⟩])
  (.ret))
def J4n : AFn := ⟨1, 16, J2j, [.tmp 2], false⟩
def J9E : Jt := .reg false [] [⟨.mv (.t 5), some 18, none⟩,
    ⟨.bin .add .plain (.t 18) (.c (.p (.i .i64 1))), some 19, none⟩,
    ⟨.mv (.t 19), some 5, none⟩]
def J1L : Jt := .seq (.seq (.reg false [] [⟨.mv (.t 5), some 13, none⟩,
    ⟨.faddr 0 (.t 3), some 14, none⟩,
    ⟨.load false 1 (.t 14), some 15, none⟩,
    ⟨.len false (.t 15), some 16, none⟩,
    ⟨.bin .lss .plain (.t 13) (.t 16), some 17, none⟩])
  (.keep [0, 2, 3, 5, 17] (.cond (.t 17)
  (.skip)
  (.exit 0))))
  (.seq (.block 1 (.seq (.reg true [(1, 4)] [⟨.faddr 0 (.t 3), some 20, none⟩,
    ⟨.load false 1 (.t 20), some 21, none⟩,
    ⟨.mv (.t 5), some 22, none⟩,
    ⟨.mv (.t 0), some 23, none⟩,
    ⟨.call J9 [(.t 23), (.c (.p (.i .i64 40)))] 0, some 24, none⟩,
    ⟨.iaddr 3 (.t 21) (.t 22), some 25, none⟩,
    ⟨.faddr 0 (.t 25), some 26, none⟩,
    ⟨.store 1 (.t 26) (.t 24), none, none⟩])
  (.keep [0, 2, 3, 5] (.seq (.reg false [] [⟨.mv (.t 0), some 27, none⟩,
    ⟨.call J9 [(.t 27), (.c (.p (.i .i64 3)))] 0, some 28, none⟩,
    ⟨.bin .eql .plain (.t 28) (.c (.p (.i .i64 0))), some 29, none⟩])
  (.keep [0, 2, 3, 5, 29] (.cond (.t 29)
  (.reg true [(1, 7), (4, 7), (1, 10), (4, 10), (4, 13)] [⟨.faddr 0 (.t 3), some 30, none⟩,
      ⟨.load false 1 (.t 30), some 31, none⟩,
      ⟨.mv (.t 5), some 32, none⟩,
      ⟨.faddr 0 (.t 3), some 33, none⟩,
      ⟨.load false 1 (.t 33), some 34, none⟩,
      ⟨.mv (.t 5), some 35, none⟩,
      ⟨.mv (.t 0), some 36, none⟩,
      ⟨.call J9 [(.t 36), (.c (.p (.i .i64 4)))] 0, some 37, none⟩,
      ⟨.bin .add .plain (.c (.p (.i .i64 1))) (.t 37), some 38, none⟩,
      ⟨.mv (.t 0), some 39, none⟩,
      ⟨.call J9 [(.t 39), (.c (.p (.i .i64 40)))] 0, some 40, none⟩,
      ⟨.iaddr 3 (.t 31) (.t 32), some 41, none⟩,
      ⟨.faddr 1 (.t 41), some 42, none⟩,
      ⟨.store 1 (.t 42) (.t 38), none, none⟩,
      ⟨.iaddr 3 (.t 34) (.t 35), some 43, none⟩,
      ⟨.faddr 2 (.t 43), some 44, none⟩,
      ⟨.store 1 (.t 44) (.t 40), none, none⟩])
  (.skip)))))))
  (.keep [0, 2, 3, 5] J9E))
def J3L : Jt := .seq (.reg false [] [⟨.load true 1 (.t 3), some 45, none⟩,
    ⟨.store 1 (.t 2) (.t 45), none, none⟩])
  (.ret)
def J70 : Jt := .seq (.reg false [] [⟨.newbox (J5 default), some 2, none⟩])
  (.seq (.reg false [] [⟨.mv (.t 0), some 7, none⟩,
    ⟨.call J9 [(.t 7), (.c (.p (.i .i64 5)))] 0, some 8, none⟩,
    ⟨.bin .add .plain (.c (.p (.i .i64 1))) (.t 8), some 9, none⟩,
    ⟨.callo J6c [] [(.t 9)] 1, some 10, none⟩,
    ⟨.mv (.t 10), some 6, none⟩,
    ⟨.extr (.t 6) 0, some 11, none⟩,
    ⟨.extr (.t 6) 1, some 12, none⟩,
    ⟨.newbox (J5 default), some 3, none⟩,
    ⟨.store 1 (.t 3) (.t 11), none, none⟩,
    ⟨.mv (.t 12), some 4, none⟩])
  (.keep [0, 2, 3] (.seq (.seq (.reg false [] [⟨.mv (.c (.p (.i .i64 0))), some 5, none⟩])
  (.block 0 (.loop [0, 2, 3, 5] J1L)))
  (.keep [2, 3] J3L))))
def J1Z : AFn := ⟨1, 46, J70, [.cell 2 true 1], false⟩
def J2J : Jt := .seq (.reg false [] [⟨.box 1 (.t 1), some 3, none⟩,
    ⟨.newbox (J5 default), some 4, none⟩])
  (.seq (.reg false [] [⟨.faddr 0 (.t 3), some 6, none⟩,
    ⟨.load false 1 (.t 6), some 7, none⟩,
    ⟨.appn 3 24 (J7 default) (.t 7), some 8, none⟩,
    ⟨.faddr 0 (.t 3), some 9, none⟩,
    ⟨.store 1 (.t 9) (.t 8), none, none⟩])
  (.keep [0, 3, 4] (.seq (.reg true [(1, 6)] [⟨.faddr 0 (.t 3), some 10, none⟩,
    ⟨.load false 1 (.t 10), some 11, none⟩,
    ⟨.mv (.t 0), some 12, none⟩,
    ⟨.faddr 0 (.t 3), some 13, none⟩,
    ⟨.load false 1 (.t 13), some 14, none⟩,
    ⟨.len false (.t 14), some 15, none⟩,
    ⟨.call J9 [(.t 12), (.t 15)] 0, some 16, none⟩,
    ⟨.iaddr 3 (.t 11) (.t 16), some 17, none⟩,
    ⟨.mv (.t 17), some 5, none⟩])
  (.keep [0, 3, 4, 5] (.seq (.seq (.reg false [] [⟨.mv (.t 0), some 18, none⟩,
    ⟨.call J9 [(.t 18), (.c (.p (.i .i64 4)))] 0, some 19, none⟩])
  (.block 0 (.seq (.reg false [] [⟨.bin .eql .plain (.t 19) (.c (.p (.i .i64 0))), some 21, none⟩,
    ⟨.mv (.t 21), some 20, none⟩])
  (.cond (.t 20)
  (.reg false [] [⟨.mv (.t 5), some 22, none⟩,
      ⟨.mv (.t 0), some 23, none⟩,
      ⟨.call J1S [(.t 23)] 0, some 24, none⟩,
      ⟨.nilchk (.t 22), some 25, none⟩,
      ⟨.faddr 0 (.t 25), some 26, none⟩,
      ⟨.store 1 (.t 26) (.t 24), none, none⟩])
  (.seq (.reg false [] [⟨.bin .eql .plain (.t 19) (.c (.p (.i .i64 1))), some 28, none⟩,
      ⟨.mv (.t 28), some 27, none⟩])
    (.cond (.t 27)
    (.reg false [] [⟨.mv (.t 5), some 29, none⟩,
        ⟨.mv (.t 0), some 30, none⟩,
        ⟨.call J1S [(.t 30)] 0, some 31, none⟩,
        ⟨.nilchk (.t 29), some 32, none⟩,
        ⟨.faddr 1 (.t 32), some 33, none⟩,
        ⟨.store 1 (.t 33) (.t 31), none, none⟩])
    (.seq (.reg false [] [⟨.bin .eql .plain (.t 19) (.c (.p (.i .i64 2))), some 35, none⟩,
        ⟨.mv (.t 35), some 34, none⟩])
      (.cond (.t 34)
      (.reg false [] [⟨.mv (.t 5), some 36, none⟩,
          ⟨.mv (.t 0), some 37, none⟩,
          ⟨.call J1S [(.t 37)] 0, some 38, none⟩,
          ⟨.nilchk (.t 36), some 39, none⟩,
          ⟨.faddr 2 (.t 39), some 40, none⟩,
          ⟨.store 1 (.t 40) (.t 38), none, none⟩])
      (.seq (.reg false [] [⟨.bin .eql .plain (.t 19) (.c (.p (.i .i64 3))), some 42, none⟩,
          ⟨.mv (.t 42), some 41, none⟩])
        (.cond (.t 41)
        (.reg true [(1, 3)] [⟨.faddr 0 (.t 3), some 43, none⟩,
            ⟨.load false 1 (.t 43), some 44, none⟩,
            ⟨.mv (.t 0), some 45, none⟩,
            ⟨.call J9 [(.t 45), (.c (.p (.i .i64 6)))] 0, some 46, none⟩,
            ⟨.bin .add .plain (.c (.p (.i .i64 60))) (.t 46), some 47, none⟩,
            ⟨.appz 3 24 (J7 default) (.t 44) (.t 47), some 48, none⟩,
            ⟨.faddr 0 (.t 3), some 49, none⟩,
            ⟨.store 1 (.t 49) (.t 48), none, none⟩])
        (.skip)))))))))))
  (.seq (.reg false [] [⟨.load true 1 (.t 3), some 50, none⟩,
    ⟨.store 1 (.t 4) (.t 50), none, none⟩])
  (.ret)))))))
def J87 : AFn := ⟨2, 51, J2J, [.cell 4 true 1], false⟩
def JU : Jt := .seq (.reg false [] [⟨.bin .lss .plain (.t 8) (.t 7), some 9, none⟩])
  (.seq (.cond (.t 9)
  (.skip)
  (.exit 0))
  (.seq (.block 1 (.seq (.reg false [] [⟨.mv (.t 8), some 10, none⟩,
    ⟨.mv (.t 10), some 5, none⟩])
  (.seq (.reg false [] [⟨.mv (.t 1), some 11, none⟩,
    ⟨.mv (.t 0), some 12, none⟩,
    ⟨.mv (.t 5), some 13, none⟩,
    ⟨.iaddr 3 (.t 12) (.t 13), some 14, none⟩,
    ⟨.load true 3 (.t 14), some 15, none⟩,
    ⟨.callv (.t 11) [(.t 15)] 0, some 16, none⟩])
  (.keep [0, 1, 5, 7, 8, 16] (.cond (.t 16)
  (.seq (.reg false [] [⟨.mv (.t 5), some 17, none⟩,
      ⟨.mv (.t 17), some 4, none⟩])
    (.ret))
  (.skip))))))
  (.reg false [] [⟨.bin .add .plain (.t 8) (.c (.p (.i .i64 1))), some 18, none⟩,
    ⟨.mv (.t 18), some 8, none⟩])))
def J0o : Jt := .seq (.reg false [] [⟨.mv (.c (.p (.i .i64 (-1)))), some 4, none⟩])
  (.ret)
def J1i : Jt := .seq (.reg false [] [⟨.mv (.c (.p (.i .i64 0))), some 4, none⟩])
  (.seq (.seq (.reg false [] [⟨.mv (.t 0), some 6, none⟩,
    ⟨.len false (.t 6), some 7, none⟩,
    ⟨.mv (.c (.p (.i .i64 0))), some 8, none⟩])
  (.keep [0, 1, 7, 8] (.block 0 (.loop [0, 1, 7, 8] JU))))
  (.keep [] J0o))
def JS : AFn := ⟨2, 19, J1i, [.tmp 4], false⟩
def J0X : Jt := .seq (.reg false [] [⟨.mv (.c (.p (.b false))), some 4, none⟩])
  (.seq (.reg false [] [⟨.mv (.t 0), some 5, none⟩,
    ⟨.mv (.t 1), some 6, none⟩,
    ⟨.call J0L [(.t 5), (.t 6)] 0, some 7, none⟩,
    ⟨.bin .geq .plain (.t 7) (.c (.p (.i .i64 0))), some 8, none⟩,
    ⟨.mv (.t 8), some 4, none⟩])
  (.ret))
def J0y : AFn := ⟨2, 9, J0X, [.tmp 4], false⟩
def J2U : Jt := .seq (.reg false [] [⟨.box 1 (.t 0), some 1, none⟩,
    ⟨.mv (.c (.p (.b false))), some 2, none⟩])
  (.seq (.reg false [] [⟨.faddr 0 (.t 1), some 3, none⟩,
    ⟨.load false 1 (.t 3), some 4, none⟩,
    ⟨.len false (.t 4), some 5, none⟩,
    ⟨.bin .geq .plain (.t 5) (.c (.p (.i .i64 1))), some 6, none⟩,
    ⟨.mv (.t 6), some 7, none⟩,
    ⟨.faddr 0 (.t 1), some 8, some (7, true)⟩,
    ⟨.load false 1 (.t 8), some 9, some (7, true)⟩,
    ⟨.len false (.t 9), some 10, some (7, true)⟩,
    ⟨.bin .leq .plain (.t 10) (.c (.p (.i .i64 64))), some 11, some (7, true)⟩,
    ⟨.pick (.t 7) (.t 11) (.c (.p (.b false))), some 12, none⟩,
    ⟨.mv (.t 12), some 13, none⟩,
    ⟨.faddr 0 (.t 1), some 14, some (13, true)⟩,
    ⟨.load false 1 (.t 14), some 15, some (13, true)⟩,
    ⟨.call J0z [(.t 15), (.c (.fn JW [] []))] 0, some 16, some (13, true)⟩,
    ⟨.un .not (.t 16), some 17, some (13, true)⟩,
    ⟨.pick (.t 13) (.t 17) (.c (.p (.b false))), some 18, none⟩,
    ⟨.mv (.t 18), some 2, none⟩])
  (.ret))
def J4L : AFn := ⟨1, 19, J2U, [.tmp 2], false⟩
def J0r : Jt := .seq (.seq (.reg false [] [⟨.mv (.t 3), some 15, none⟩,
    ⟨.faddr 0 (.t 1), some 16, none⟩,
    ⟨.load false 1 (.t 16), some 17, none⟩,
    ⟨.len false (.t 17), some 18, none⟩,
    ⟨.bin .lss .plain (.t 15) (.t 18), some 19, none⟩])
  (.keep [1, 3, 19] (.cond (.t 19)
  (.skip)
  (.exit 0))))
  (.seq (.block 1 (.seq (.reg false [] [⟨.faddr 0 (.t 1), some 22, none⟩,
    ⟨.load false 1 (.t 22), some 23, none⟩,
    ⟨.mv (.t 3), some 24, none⟩,
    ⟨.iaddr 3 (.t 23) (.t 24), some 25, none⟩,
    ⟨.load true 3 (.t 25), some 26, none⟩,
    ⟨.newbox (J7 default), some 4, none⟩,
    ⟨.store 3 (.t 4) (.t 26), none, none⟩])
  (.keep [1, 3, 4] (.seq (.reg false [] [⟨.faddr 0 (.t 4), some 27, none⟩,
    ⟨.load false 1 (.t 27), some 28, none⟩,
    ⟨.call J4x [(.t 28)] 0, some 29, none⟩,
    ⟨.un .not (.t 29), some 30, none⟩,
    ⟨.mv (.t 30), some 31, none⟩,
    ⟨.faddr 1 (.t 4), some 32, some (31, false)⟩,
    ⟨.load false 1 (.t 32), some 33, some (31, false)⟩,
    ⟨.call J4x [(.t 33)] 0, some 34, some (31, false)⟩,
    ⟨.un .not (.t 34), some 35, some (31, false)⟩,
    ⟨.pick (.t 31) (.c (.p (.b true))) (.t 35), some 36, none⟩,
    ⟨.mv (.t 36), some 37, none⟩,
    ⟨.faddr 2 (.t 4), some 38, some (37, false)⟩,
    ⟨.load false 1 (.t 38), some 39, some (37, false)⟩,
    ⟨.call J4x [(.t 39)] 0, some 40, some (37, false)⟩,
    ⟨.un .not (.t 40), some 41, some (37, false)⟩,
    ⟨.pick (.t 37) (.c (.p (.b true))) (.t 41), some 42, none⟩,
    ⟨.mv (.t 42), some 43, none⟩,
    ⟨.faddr 1 (.t 4), some 44, some (43, false)⟩,
    ⟨.load false 1 (.t 44), some 45, some (43, false)⟩,
    ⟨.bin .eql .plain (.t 45) (.c (.p (.i .i64 0))), some 46, some (43, false)⟩,
    ⟨.mv (.t 46), some 47, some (43, false)⟩,
    ⟨.faddr 2 (.t 4), some 48, some (47, true)⟩,
    ⟨.load false 1 (.t 48), some 49, some (47, true)⟩,
    ⟨.bin .neq .plain (.t 49) (.c (.p (.i .i64 0))), some 50, some (47, true)⟩,
    ⟨.pick (.t 47) (.t 50) (.c (.p (.b false))), some 51, some (43, false)⟩,
    ⟨.pick (.t 43) (.c (.p (.b true))) (.t 51), some 52, none⟩])
  (.keep [1, 3, 52] (.cond (.t 52)
  (.seq (.reg false [] [⟨.mv (.c (.p (.b false))), some 2, none⟩])
    (.ret))
  (.skip)))))))
  (.reg false [] [⟨.mv (.t 3), some 20, none⟩,
    ⟨.bin .add .plain (.t 20) (.c (.p (.i .i64 1))), some 21, none⟩,
    ⟨.mv (.t 21), some 3, none⟩]))
def J4y : Jt := .seq (.reg false [] [⟨.mv (.c (.p (.b true))), some 2, none⟩])
  (.ret)
def J4Y : Jt := .seq (.reg false [] [⟨.box 1 (.t 0), some 1, none⟩,
    ⟨.mv (.c (.p (.b false))), some 2, none⟩])
  (.seq (.seq (.reg false [] [⟨.faddr 0 (.t 1), some 5, none⟩,
    ⟨.load false 1 (.t 5), some 6, none⟩,
    ⟨.len false (.t 6), some 7, none⟩,
    ⟨.bin .lss .plain (.t 7) (.c (.p (.i .i64 1))), some 8, none⟩,
    ⟨.mv (.t 8), some 9, none⟩,
    ⟨.faddr 0 (.t 1), some 10, some (9, false)⟩,
    ⟨.load false 1 (.t 10), some 11, some (9, false)⟩,
    ⟨.len false (.t 11), some 12, some (9, false)⟩,
    ⟨.bin .gtr .plain (.t 12) (.c (.p (.i .i64 64))), some 13, some (9, false)⟩,
    ⟨.pick (.t 9) (.c (.p (.b true))) (.t 13), some 14, none⟩])
  (.keep [1, 14] (.cond (.t 14)
  (.seq (.reg false [] [⟨.mv (.c (.p (.b false))), some 2, none⟩])
    (.ret))
  (.skip))))
  (.seq (.tidy [2] (.seq (.reg false [] [⟨.mv (.c (.p (.i .i64 0))), some 3, none⟩])
  (.block 0 (.loop [1, 3] J0r))))
  (.keep [] J4y)))
def J2x : AFn := ⟨1, 53, J4Y, [.tmp 2], false⟩
def J4l : Jt := .seq (.reg false [] [⟨.mv (.c (.p (.i .i64 0))), some 5, none⟩])
  (.seq (.reg false [] [⟨.load false 1 (.t 2), some 9, none⟩,
    ⟨.mv (.t 0), some 10, none⟩,
    ⟨.bin .mul .plain (.t 10) (.c (.p (.i .i64 24))), some 11, none⟩,
    ⟨.bin .add .plain (.c (.p (.i .i64 2))) (.t 11), some 12, none⟩,
    ⟨.mv (.t 1), some 13, none⟩,
    ⟨.bin .mul .plain (.t 13) (.c (.p (.i .i64 8))), some 14, none⟩,
    ⟨.bin .add .plain (.t 12) (.t 14), some 15, none⟩,
    ⟨.call J7o [(.t 9), (.t 15), (.c (.p (.i .i64 8)))] 0, some 16, none⟩,
    ⟨.mv (.t 16), some 8, none⟩,
    ⟨.extr (.t 8) 0, some 17, none⟩,
    ⟨.extr (.t 8) 1, some 18, none⟩,
    ⟨.mv (.t 17), some 6, none⟩,
    ⟨.mv (.t 18), some 7, none⟩])
  (.keep [6] (.seq (.reg false [] [⟨.mv (.t 6), some 19, none⟩,
    ⟨.mv (.t 19), some 5, none⟩])
  (.ret))))
def J31 : AFn := ⟨3, 20, J4l, [.tmp 5], false⟩
def J1I : Jt := .seq (.reg false [] [⟨.bin .lss .plain (.t 36) (.t 35), some 37, none⟩])
  (.seq (.cond (.t 37)
  (.skip)
  (.exit 1))
  (.seq (.block 2 (.seq (.reg false [] [⟨.mv (.t 36), some 38, none⟩,
    ⟨.mv (.t 38), some 8, none⟩])
  (.reg true [(1, 4), (1, 7), (1, 10), (1, 12)] [⟨.faddr 0 (.t 7), some 39, none⟩,
    ⟨.load false 1 (.t 39), some 40, none⟩,
    ⟨.mv (.t 6), some 41, none⟩,
    ⟨.mv (.t 8), some 42, none⟩,
    ⟨.callv (.t 41) [(.t 42), (.c (.p (.i .i64 0)))] 0, some 43, none⟩,
    ⟨.mv (.t 6), some 44, none⟩,
    ⟨.mv (.t 8), some 45, none⟩,
    ⟨.callv (.t 44) [(.t 45), (.c (.p (.i .i64 1)))] 0, some 46, none⟩,
    ⟨.mv (.t 6), some 47, none⟩,
    ⟨.mv (.t 8), some 48, none⟩,
    ⟨.callv (.t 47) [(.t 48), (.c (.p (.i .i64 2)))] 0, some 49, none⟩,
    ⟨.build (J7 default) [(0, 1, (.t 43)), (1, 1, (.t 46)), (2, 1, (.t 49))], some 50, none⟩,
    ⟨.lits false 3 1 (J7 default) [(0, (.t 50))], some 51, none⟩,
    ⟨.app 3 24 (J7 default) (.t 40) (.t 51), some 52, none⟩,
    ⟨.faddr 0 (.t 7), some 53, none⟩,
    ⟨.store 1 (.t 53) (.t 52), none, none⟩])))
  (.reg false [] [⟨.bin .add .plain (.t 36) (.c (.p (.i .i64 1))), some 54, none⟩,
    ⟨.mv (.t 54), some 36, none⟩])))
def J1m : Jt := .seq (.seq (.reg false [] [⟨.load true 1 (.t 7), some 55, none⟩,
    ⟨.call J1j [(.t 55)] 0, some 56, none⟩,
    ⟨.un .not (.t 56), some 57, none⟩])
  (.keep [2, 7, 57] (.cond (.t 57)
  (.seq (.reg false [] [⟨.buildo (J5 default) [] [(0, 3)], some 58, none⟩,
      ⟨.store 1 (.t 2) (.t 58), none, none⟩,
      ⟨.mv (.c (.p (.i .i64 28))), some 3, none⟩])
    (.ret))
  (.skip))))
  (.seq (.reg false [] [⟨.load true 1 (.t 7), some 59, none⟩,
    ⟨.store 1 (.t 2) (.t 59), none, none⟩,
    ⟨.mv (.c (.p (.i .i64 0))), some 3, none⟩])
  (.ret))
def J16 : Jt := .seq (.reg false [] [⟨.box 1 (.t 0), some 1, none⟩,
    ⟨.newboxo (J5 default) [(0, 3)], some 2, none⟩,
    ⟨.mv (.c (.p (.i .i64 0))), some 3, none⟩])
  (.keep [1, 2] (.seq (.reg false [] [⟨.load false 1 (.t 1), some 10, none⟩,
    ⟨.call J7o [(.t 10), (.c (.p (.i .i64 0))), (.c (.p (.i .i64 2)))] 0, some 11, none⟩,
    ⟨.mv (.t 11), some 9, none⟩,
    ⟨.extr (.t 9) 0, some 12, none⟩,
    ⟨.extr (.t 9) 1, some 13, none⟩,
    ⟨.mv (.t 12), some 4, none⟩,
    ⟨.mv (.t 13), some 5, none⟩])
  (.keep [1, 2, 4, 5] (.seq (.block 0 (.seq (.reg false [] [⟨.mv (.t 5), some 15, none⟩,
    ⟨.bin .neq .plain (.t 15) (.c (.p (.i .i64 0))), some 16, none⟩,
    ⟨.mv (.t 16), some 17, none⟩,
    ⟨.load false 1 (.t 1), some 18, some (17, false)⟩,
    ⟨.len true (.t 18), some 19, some (17, false)⟩,
    ⟨.mv (.t 4), some 20, some (17, false)⟩,
    ⟨.bin .mul .plain (.t 20) (.c (.p (.i .i64 24))), some 21, some (17, false)⟩,
    ⟨.bin .add .plain (.c (.p (.i .i64 2))) (.t 21), some 22, some (17, false)⟩,
    ⟨.bin .lss .plain (.t 19) (.t 22), some 23, some (17, false)⟩,
    ⟨.pick (.t 17) (.c (.p (.b true))) (.t 23), some 24, none⟩,
    ⟨.mv (.t 24), some 14, none⟩])
  (.keep [1, 2, 4, 14] (.cond (.t 14)
  (.seq (.reg false [] [⟨.buildo (J5 default) [] [(0, 3)], some 25, none⟩,
      ⟨.store 1 (.t 2) (.t 25), none, none⟩,
      ⟨.mv (.c (.p (.i .i64 5))), some 3, none⟩])
    (.ret))
  (.seq (.reg false [] [⟨.load false 1 (.t 1), some 27, none⟩,
      ⟨.len true (.t 27), some 28, none⟩,
      ⟨.mv (.t 4), some 29, none⟩,
      ⟨.bin .mul .plain (.t 29) (.c (.p (.i .i64 24))), some 30, none⟩,
      ⟨.bin .add .plain (.c (.p (.i .i64 2))) (.t 30), some 31, none⟩,
      ⟨.bin .gtr .plain (.t 28) (.t 31), some 32, none⟩,
      ⟨.mv (.t 32), some 26, none⟩])
    (.keep [1, 2, 4, 26] (.cond (.t 26)
    (.seq (.reg false [] [⟨.buildo (J5 default) [] [(0, 3)], some 33, none⟩,
        ⟨.store 1 (.t 2) (.t 33), none, none⟩,
        ⟨.mv (.c (.p (.i .i64 4))), some 3, none⟩])
      (.ret))
    (.skip))))))))
  (.seq (.reg false [] [⟨.mkfn J05 [] [(.t 1)], some 34, none⟩,
    ⟨.mv (.t 34), some 6, none⟩])
  (.seq (.reg false [] [⟨.newboxo (J5 default) [(0, 3)], some 7, none⟩])
  (.seq (.seq (.reg false [] [⟨.mv (.t 4), some 35, none⟩,
    ⟨.mv (.c (.p (.i .i64 0))), some 36, none⟩])
  (.block 1 (.loop [2, 6, 7, 35, 36] J1I)))
  (.keep [2, 7] J1m))))))))
def J17 : AFn := ⟨1, 60, J16, [.cell 2 true 1, .tmp 3], false⟩
def J37 : Jt := .seq (.seq (.reg false [] [⟨.mv (.t 7), some 34, none⟩,
    ⟨.mv (.t 4), some 35, none⟩,
    ⟨.bin .lss .plain (.t 34) (.t 35), some 36, none⟩])
  (.keep [0, 2, 4, 6, 7, 36] (.cond (.t 36)
  (.skip)
  (.exit 1))))
  (.seq (.block 2 (.seq (.reg false [] [⟨.newbox (J7 default), some 8, none⟩])
  (.seq (.reg false [] [⟨.mv (.t 0), some 40, none⟩,
    ⟨.mv (.t 7), some 41, none⟩,
    ⟨.bin .mul .plain (.c (.p (.i .i64 24))) (.t 41), some 42, none⟩,
    ⟨.bin .add .plain (.c (.p (.i .i64 2))) (.t 42), some 43, none⟩,
    ⟨.call J5u [(.t 40), (.t 43), (.c (.p (.i .i64 8)))] 0, some 44, none⟩,
    ⟨.mv (.t 44), some 39, none⟩,
    ⟨.extr (.t 39) 0, some 45, none⟩,
    ⟨.extr (.t 39) 1, some 46, none⟩,
    ⟨.faddr 0 (.t 8), some 47, none⟩,
    ⟨.store 1 (.t 47) (.t 45), none, none⟩])
  (.keep [0, 2, 4, 6, 7, 8] (.seq (.reg false [] [⟨.mv (.t 0), some 49, none⟩,
    ⟨.mv (.t 7), some 50, none⟩,
    ⟨.bin .mul .plain (.c (.p (.i .i64 24))) (.t 50), some 51, none⟩,
    ⟨.bin .add .plain (.c (.p (.i .i64 10))) (.t 51), some 52, none⟩,
    ⟨.call J5u [(.t 49), (.t 52), (.c (.p (.i .i64 8)))] 0, some 53, none⟩,
    ⟨.mv (.t 53), some 48, none⟩,
    ⟨.extr (.t 48) 0, some 54, none⟩,
    ⟨.extr (.t 48) 1, some 55, none⟩,
    ⟨.faddr 1 (.t 8), some 56, none⟩,
    ⟨.store 1 (.t 56) (.t 54), none, none⟩])
  (.keep [0, 2, 4, 6, 7, 8] (.seq (.reg false [] [⟨.mv (.t 0), some 58, none⟩,
    ⟨.mv (.t 7), some 59, none⟩,
    ⟨.bin .mul .plain (.c (.p (.i .i64 24))) (.t 59), some 60, none⟩,
    ⟨.bin .add .plain (.c (.p (.i .i64 18))) (.t 60), some 61, none⟩,
    ⟨.call J5u [(.t 58), (.t 61), (.c (.p (.i .i64 8)))] 0, some 62, none⟩,
    ⟨.mv (.t 62), some 57, none⟩,
    ⟨.extr (.t 57) 0, some 63, none⟩,
    ⟨.extr (.t 57) 1, some 64, none⟩,
    ⟨.faddr 2 (.t 8), some 65, none⟩,
    ⟨.store 1 (.t 65) (.t 63), none, none⟩])
  (.keep [0, 2, 4, 6, 7, 8] (.reg false [] [⟨.faddr 0 (.t 6), some 66, none⟩,
    ⟨.load false 1 (.t 66), some 67, none⟩,
    ⟨.load true 3 (.t 8), some 68, none⟩,
    ⟨.lits false 3 1 (J7 default) [(0, (.t 68))], some 69, none⟩,
    ⟨.app 3 24 (J7 default) (.t 67) (.t 69), some 70, none⟩,
    ⟨.faddr 0 (.t 6), some 71, none⟩,
    ⟨.store 1 (.t 71) (.t 70), none, none⟩])))))))))
  (.reg false [] [⟨.mv (.t 7), some 37, none⟩,
    ⟨.bin .add .plain (.t 37) (.c (.p (.i .i64 1))), some 38, none⟩,
    ⟨.mv (.t 38), some 7, none⟩]))
def J2w : Jt := .seq (.seq (.reg false [] [⟨.load true 1 (.t 6), some 72, none⟩,
    ⟨.call J2A [(.t 72)] 0, some 73, none⟩,
    ⟨.un .not (.t 73), some 74, none⟩])
  (.keep [2, 6, 74] (.cond (.t 74)
  (.seq (.reg false [] [⟨.buildo (J5 default) [] [(0, 3)], some 75, none⟩,
      ⟨.store 1 (.t 2) (.t 75), none, none⟩,
      ⟨.mv (.c (.p (.i .i64 28))), some 3, none⟩])
    (.ret))
  (.skip))))
  (.seq (.reg false [] [⟨.load true 1 (.t 6), some 76, none⟩,
    ⟨.store 1 (.t 2) (.t 76), none, none⟩,
    ⟨.mv (.c (.p (.i .i64 0))), some 3, none⟩])
  (.ret))
def J27 : Jt := .seq (.reg false [] [⟨.newboxo (J5 default) [(0, 3)], some 2, none⟩,
    ⟨.mv (.c (.p (.i .i64 0))), some 3, none⟩])
  (.seq (.reg false [] [⟨.mv (.t 0), some 10, none⟩,
    ⟨.call J5u [(.t 10), (.c (.p (.i .i64 0))), (.c (.p (.i .i64 2)))] 0, some 11, none⟩,
    ⟨.mv (.t 11), some 9, none⟩,
    ⟨.extr (.t 9) 0, some 12, none⟩,
    ⟨.extr (.t 9) 1, some 13, none⟩,
    ⟨.mv (.t 12), some 4, none⟩,
    ⟨.mv (.t 13), some 5, none⟩])
  (.keep [0, 2, 4, 5] (.seq (.block 0 (.seq (.reg false [] [⟨.mv (.t 5), some 15, none⟩,
    ⟨.bin .neq .plain (.t 15) (.c (.p (.i .i64 0))), some 16, none⟩,
    ⟨.mv (.t 16), some 17, none⟩,
    ⟨.mv (.t 0), some 18, some (17, false)⟩,
    ⟨.len true (.t 18), some 19, some (17, false)⟩,
    ⟨.bin .sub .plain (.t 19) (.c (.p (.i .i64 2))), some 20, some (17, false)⟩,
    ⟨.mv (.t 4), some 21, some (17, false)⟩,
    ⟨.bin .mul .plain (.c (.p (.i .i64 24))) (.t 21), some 22, some (17, false)⟩,
    ⟨.bin .lss .plain (.t 20) (.t 22), some 23, some (17, false)⟩,
    ⟨.pick (.t 17) (.c (.p (.b true))) (.t 23), some 24, none⟩,
    ⟨.mv (.t 24), some 14, none⟩])
  (.keep [0, 2, 4, 14] (.cond (.t 14)
  (.seq (.reg false [] [⟨.buildo (J5 default) [] [(0, 3)], some 25, none⟩,
      ⟨.store 1 (.t 2) (.t 25), none, none⟩,
      ⟨.mv (.c (.p (.i .i64 5))), some 3, none⟩])
    (.ret))
  (.seq (.reg false [] [⟨.mv (.t 0), some 27, none⟩,
      ⟨.len true (.t 27), some 28, none⟩,
      ⟨.bin .sub .plain (.t 28) (.c (.p (.i .i64 2))), some 29, none⟩,
      ⟨.mv (.t 4), some 30, none⟩,
      ⟨.bin .mul .plain (.c (.p (.i .i64 24))) (.t 30), some 31, none⟩,
      ⟨.bin .gtr .plain (.t 29) (.t 31), some 32, none⟩,
      ⟨.mv (.t 32), some 26, none⟩])
    (.keep [0, 2, 4, 26] (.cond (.t 26)
    (.seq (.reg false [] [⟨.buildo (J5 default) [] [(0, 3)], some 33, none⟩,
        ⟨.store 1 (.t 2) (.t 33), none, none⟩,
        ⟨.mv (.c (.p (.i .i64 4))), some 3, none⟩])
      (.ret))
    (.skip))))))))
  (.seq (.reg false [] [⟨.newboxo (J5 default) [(0, 3)], some 6, none⟩])
  (.seq (.tidy [2, 3, 6] (.seq (.reg false [] [⟨.mv (.c (.p (.i .i64 0))), some 7, none⟩])
  (.block 1 (.loop [0, 2, 4, 6, 7] J37))))
  (.keep [2, 6] J2w))))))
def J28 : AFn := ⟨1, 77, J27, [.cell 2 true 1, .tmp 3], false⟩
def J56 : Jt := .seq (.reg false [] [⟨.newbox (Jf default), some 2, none⟩])
  (.seq (.reg false [] [⟨.mv (.t 0), some 3, none⟩,
    ⟨.call J9 [(.t 3), (.c (.p (.i .i64 4)))] 0, some 4, none⟩,
    ⟨.mv (.t 0), some 5, none⟩,
    ⟨.call J9 [(.t 5), (.c (.p (.i .i64 3)))] 0, some 6, none⟩,
    ⟨.mv (.t 0), some 7, none⟩,
    ⟨.call J2P [(.t 7)] 0, some 8, none⟩,
    ⟨.mv (.t 0), some 9, none⟩,
    ⟨.call J2P [(.t 9)] 0, some 10, none⟩,
    ⟨.build (Jf default) [(0, 1, (.t 4)), (1, 1, (.t 6)), (2, 2, (.t 8)), (4, 2, (.t 10))], some 11, none⟩,
    ⟨.store 6 (.t 2) (.t 11), none, none⟩])
  (.ret))
def J3O : AFn := ⟨1, 12, J56, [.cell 2 true 6], false⟩
def J5H : Jt := .seq (.reg true [(9, 12)] [⟨.load true 13 (.t 4), some 55, none⟩,
    ⟨.mv (.t 5), some 56, none⟩,
    ⟨.mv (.t 56), some 57, none⟩,
    ⟨.faddr 2 (.t 1), some 58, some (57, true)⟩,
    ⟨.load false 1 (.t 58), some 59, some (57, true)⟩,
    ⟨.bin .geq .plain (.t 59) (.c (.p (.i .i64 1))), some 60, some (57, true)⟩,
    ⟨.pick (.t 57) (.t 60) (.c (.p (.b false))), some 61, none⟩,
    ⟨.mv (.t 61), some 62, none⟩,
    ⟨.faddr 2 (.t 1), some 63, some (62, true)⟩,
    ⟨.load false 1 (.t 63), some 64, some (62, true)⟩,
    ⟨.bin .leq .plain (.t 64) (.c (.p (.i .i64 1073741824))), some 65, some (62, true)⟩,
    ⟨.pick (.t 62) (.t 65) (.c (.p (.b false))), some 66, none⟩,
    ⟨.store 13 (.t 2) (.t 55), none, none⟩,
    ⟨.mv (.t 66), some 3, none⟩])
  (.ret)
def J3K : Jt := .cond (.t 91)
  (.seq (.reg false [] [⟨.faddr 12 (.t 1), some 94, none⟩,
      ⟨.load false 1 (.t 94), some 95, none⟩,
      ⟨.faddr 12 (.t 4), some 96, none⟩,
      ⟨.store 1 (.t 96) (.t 95), none, none⟩])
    (.keep [1, 2, 4] (.seq (.reg true [(2, 5)] [⟨.load true 13 (.t 4), some 97, none⟩,
      ⟨.faddr 12 (.t 1), some 98, none⟩,
      ⟨.load false 1 (.t 98), some 99, none⟩,
      ⟨.len true (.t 99), some 100, none⟩,
      ⟨.bin .leq .plain (.t 100) (.c (.p (.i .i64 8192))), some 101, none⟩,
      ⟨.store 13 (.t 2) (.t 97), none, none⟩,
      ⟨.mv (.t 101), some 3, none⟩])
    (.ret))))
  (.seq (.reg false [] [⟨.bin .eql .plain (.t 12) (.c (.p (.i .i64 7))), some 103, none⟩,
      ⟨.mv (.t 103), some 102, none⟩])
    (.cond (.t 102)
    (.seq (.reg true [(4, 6)] [⟨.faddr 5 (.t 1), some 104, none⟩,
        ⟨.load false 1 (.t 104), some 105, none⟩,
        ⟨.faddr 6 (.t 1), some 106, none⟩,
        ⟨.faddr 0 (.t 106), some 107, none⟩,
        ⟨.load false 1 (.t 107), some 108, none⟩,
        ⟨.faddr 5 (.t 4), some 109, none⟩,
        ⟨.store 1 (.t 109) (.t 105), none, none⟩,
        ⟨.faddr 6 (.t 4), some 110, none⟩,
        ⟨.faddr 0 (.t 110), some 111, none⟩,
        ⟨.store 1 (.t 111) (.t 108), none, none⟩])
      (.keep [1, 2, 4] (.seq (.reg true [(8, 11)] [⟨.load true 13 (.t 4), some 112, none⟩,
        ⟨.faddr 6 (.t 1), some 113, none⟩,
        ⟨.faddr 0 (.t 113), some 114, none⟩,
        ⟨.load false 1 (.t 114), some 115, none⟩,
        ⟨.bin .geq .plain (.t 115) (.c (.p (.i .i64 0))), some 116, none⟩,
        ⟨.mv (.t 116), some 117, none⟩,
        ⟨.faddr 6 (.t 1), some 118, some (117, true)⟩,
        ⟨.faddr 0 (.t 118), some 119, some (117, true)⟩,
        ⟨.load false 1 (.t 119), some 120, some (117, true)⟩,
        ⟨.bin .lss .plain (.t 120) (.c (.p (.i .i64 64))), some 121, some (117, true)⟩,
        ⟨.pick (.t 117) (.t 121) (.c (.p (.b false))), some 122, none⟩,
        ⟨.store 13 (.t 2) (.t 112), none, none⟩,
        ⟨.mv (.t 122), some 3, none⟩])
      (.ret))))
    (.skip)))
def J2d : Jt := .cond (.t 67)
  (.seq (.reg true [(3, 5)] [⟨.faddr 2 (.t 1), some 71, none⟩,
      ⟨.load false 1 (.t 71), some 72, none⟩,
      ⟨.faddr 3 (.t 1), some 73, none⟩,
      ⟨.load false 1 (.t 73), some 74, none⟩,
      ⟨.faddr 2 (.t 4), some 75, none⟩,
      ⟨.store 1 (.t 75) (.t 72), none, none⟩,
      ⟨.faddr 3 (.t 4), some 76, none⟩,
      ⟨.store 1 (.t 76) (.t 74), none, none⟩])
    (.keep [1, 2, 4] (.seq (.reg true [(11, 14)] [⟨.load true 13 (.t 4), some 77, none⟩,
      ⟨.faddr 2 (.t 1), some 78, none⟩,
      ⟨.load false 1 (.t 78), some 79, none⟩,
      ⟨.bin .geq .plain (.t 79) (.c (.p (.i .i64 1))), some 80, none⟩,
      ⟨.mv (.t 80), some 81, none⟩,
      ⟨.faddr 2 (.t 1), some 82, some (81, true)⟩,
      ⟨.load false 1 (.t 82), some 83, some (81, true)⟩,
      ⟨.bin .leq .plain (.t 83) (.c (.p (.i .i64 1073741824))), some 84, some (81, true)⟩,
      ⟨.pick (.t 81) (.t 84) (.c (.p (.b false))), some 85, none⟩,
      ⟨.mv (.t 85), some 86, none⟩,
      ⟨.faddr 3 (.t 1), some 87, some (86, true)⟩,
      ⟨.load false 1 (.t 87), some 88, some (86, true)⟩,
      ⟨.bin .gtr .plain (.t 88) (.c (.p (.i .i64 0))), some 89, some (86, true)⟩,
      ⟨.pick (.t 86) (.t 89) (.c (.p (.b false))), some 90, none⟩,
      ⟨.store 13 (.t 2) (.t 77), none, none⟩,
      ⟨.mv (.t 90), some 3, none⟩])
    (.ret))))
  (.seq (.seq (.reg false [] [⟨.bin .eql .plain (.t 12) (.c (.p (.i .i64 6))), some 92, none⟩,
      ⟨.mv (.t 92), some 91, none⟩])
    (.cond (.t 91)
    (.skip)
    (.reg false [] [⟨.bin .eql .plain (.t 12) (.c (.p (.i .i64 8))), some 93, none⟩,
        ⟨.mv (.t 93), some 91, none⟩])))
    (.keep [1, 2, 4, 12, 91] J3K))
def J0B : Jt := .cond (.t 13)
  (.seq (.reg true [(3, 9), (5, 9), (7, 9), (5, 11), (7, 11), (7, 13)] [⟨.faddr 2 (.t 1), some 16, none⟩,
      ⟨.load false 1 (.t 16), some 17, none⟩,
      ⟨.faddr 3 (.t 1), some 18, none⟩,
      ⟨.load false 1 (.t 18), some 19, none⟩,
      ⟨.faddr 4 (.t 1), some 20, none⟩,
      ⟨.load false 1 (.t 20), some 21, none⟩,
      ⟨.faddr 6 (.t 1), some 22, none⟩,
      ⟨.load true 6 (.t 22), some 23, none⟩,
      ⟨.faddr 2 (.t 4), some 24, none⟩,
      ⟨.store 1 (.t 24) (.t 17), none, none⟩,
      ⟨.faddr 3 (.t 4), some 25, none⟩,
      ⟨.store 1 (.t 25) (.t 19), none, none⟩,
      ⟨.faddr 4 (.t 4), some 26, none⟩,
      ⟨.store 1 (.t 26) (.t 21), none, none⟩,
      ⟨.faddr 6 (.t 4), some 27, none⟩,
      ⟨.store 6 (.t 27) (.t 23), none, none⟩])
    (.keep [1, 2, 4] (.seq (.reg false [] [⟨.faddr 6 (.t 1), some 28, none⟩,
      ⟨.load true 6 (.t 28), some 29, none⟩,
      ⟨.call J6J [(.t 29)] 0, some 30, none⟩,
      ⟨.mv (.t 30), some 5, none⟩])
    (.keep [1, 2, 4, 5] (.seq (.seq (.reg false [] [⟨.faddr 1 (.t 1), some 31, none⟩,
      ⟨.load false 1 (.t 31), some 32, none⟩,
      ⟨.bin .eql .plain (.t 32) (.c (.p (.i .i64 2))), some 33, none⟩])
    (.keep [1, 2, 4, 5, 33] (.cond (.t 33)
    (.seq (.reg false [] [⟨.faddr 5 (.t 1), some 34, none⟩,
        ⟨.load false 1 (.t 34), some 35, none⟩,
        ⟨.faddr 5 (.t 4), some 36, none⟩,
        ⟨.store 1 (.t 36) (.t 35), none, none⟩])
      (.keep [1, 2, 4, 5] (.reg false [] [⟨.mv (.t 5), some 37, none⟩,
        ⟨.mv (.t 37), some 38, none⟩,
        ⟨.faddr 3 (.t 1), some 39, some (38, true)⟩,
        ⟨.load false 1 (.t 39), some 40, some (38, true)⟩,
        ⟨.bin .gtr .plain (.t 40) (.c (.p (.i .i64 0))), some 41, some (38, true)⟩,
        ⟨.pick (.t 38) (.t 41) (.c (.p (.b false))), some 42, none⟩,
        ⟨.mv (.t 42), some 43, none⟩,
        ⟨.faddr 5 (.t 1), some 44, some (43, true)⟩,
        ⟨.load false 1 (.t 44), some 45, some (43, true)⟩,
        ⟨.bin .geq .plain (.t 45) (.c (.p (.i .i64 1))), some 46, some (43, true)⟩,
        ⟨.pick (.t 43) (.t 46) (.c (.p (.b false))), some 47, none⟩,
        ⟨.mv (.t 47), some 48, none⟩,
        ⟨.faddr 5 (.t 1), some 49, some (48, true)⟩,
        ⟨.load false 1 (.t 49), some 50, some (48, true)⟩,
        ⟨.faddr 3 (.t 1), some 51, some (48, true)⟩,
        ⟨.load false 1 (.t 51), some 52, some (48, true)⟩,
        ⟨.bin .leq .plain (.t 50) (.t 52), some 53, some (48, true)⟩,
        ⟨.pick (.t 48) (.t 53) (.c (.p (.b false))), some 54, none⟩,
        ⟨.mv (.t 54), some 5, none⟩])))
    (.skip))))
    (.keep [1, 2, 4, 5] J5H))))))
  (.seq (.seq (.reg false [] [⟨.bin .eql .plain (.t 12) (.c (.p (.i .i64 3))), some 68, none⟩,
      ⟨.mv (.t 68), some 67, none⟩])
    (.cond (.t 67)
    (.skip)
    (.seq (.reg false [] [⟨.bin .eql .plain (.t 12) (.c (.p (.i .i64 4))), some 69, none⟩,
        ⟨.mv (.t 69), some 67, none⟩])
      (.cond (.t 67)
      (.skip)
      (.reg false [] [⟨.bin .eql .plain (.t 12) (.c (.p (.i .i64 5))), some 70, none⟩,
          ⟨.mv (.t 70), some 67, none⟩])))))
    (.keep [1, 2, 4, 12, 67] J2d))
def J4C : Jt := .seq (.reg false [] [⟨.load true 13 (.t 4), some 123, none⟩,
    ⟨.store 13 (.t 2) (.t 123), none, none⟩,
    ⟨.mv (.c (.p (.b false))), some 3, none⟩])
  (.ret)
def J6Z : Jt := .seq (.reg false [] [⟨.box 13 (.t 0), some 1, none⟩,
    ⟨.newbox (J4 default), some 2, none⟩,
    ⟨.mv (.c (.p (.b false))), some 3, none⟩])
  (.keep [1, 2] (.seq (.reg false [] [⟨.faddr 0 (.t 1), some 6, none⟩,
    ⟨.load false 1 (.t 6), some 7, none⟩,
    ⟨.faddr 1 (.t 1), some 8, none⟩,
    ⟨.load false 1 (.t 8), some 9, none⟩,
    ⟨.build (J4 default) [(0, 1, (.t 7)), (1, 1, (.t 9))], some 10, none⟩,
    ⟨.newbox (J4 default), some 4, none⟩,
    ⟨.store 13 (.t 4) (.t 10), none, none⟩])
  (.keep [1, 2, 4] (.seq (.seq (.reg false [] [⟨.faddr 1 (.t 1), some 11, none⟩,
    ⟨.load false 1 (.t 11), some 12, none⟩])
  (.block 0 (.seq (.seq (.reg false [] [⟨.bin .eql .plain (.t 12) (.c (.p (.i .i64 1))), some 14, none⟩,
    ⟨.mv (.t 14), some 13, none⟩])
  (.cond (.t 13)
  (.skip)
  (.reg false [] [⟨.bin .eql .plain (.t 12) (.c (.p (.i .i64 2))), some 15, none⟩,
      ⟨.mv (.t 15), some 13, none⟩])))
  (.keep [1, 2, 4, 12, 13] J0B))))
  (.keep [2, 4] J4C)))))
def J2z : AFn := ⟨1, 124, J6Z, [.cell 2 true 13, .tmp 3], false⟩
def J1s : Jt := .seq (.reg false [] [⟨.box 6 (.t 0), some 1, none⟩,
    ⟨.mv (.c (.p (.b false))), some 2, none⟩])
  (.seq (.reg false [] [⟨.faddr 0 (.t 1), some 3, none⟩,
    ⟨.load false 1 (.t 3), some 4, none⟩,
    ⟨.call J6k [(.t 4)] 0, some 5, none⟩,
    ⟨.mv (.t 5), some 6, none⟩,
    ⟨.faddr 1 (.t 1), some 7, some (6, true)⟩,
    ⟨.load false 1 (.t 7), some 8, some (6, true)⟩,
    ⟨.bin .geq .plain (.t 8) (.c (.p (.i .i64 0))), some 9, some (6, true)⟩,
    ⟨.pick (.t 6) (.t 9) (.c (.p (.b false))), some 10, none⟩,
    ⟨.mv (.t 10), some 11, none⟩,
    ⟨.faddr 1 (.t 1), some 12, some (11, true)⟩,
    ⟨.load false 1 (.t 12), some 13, some (11, true)⟩,
    ⟨.bin .lss .plain (.t 13) (.c (.p (.i .i64 16))), some 14, some (11, true)⟩,
    ⟨.pick (.t 11) (.t 14) (.c (.p (.b false))), some 15, none⟩,
    ⟨.mv (.t 15), some 16, none⟩,
    ⟨.faddr 2 (.t 1), some 17, some (16, true)⟩,
    ⟨.load true 2 (.t 17), some 18, some (16, true)⟩,
    ⟨.call J3a [(.t 18)] 0, some 19, some (16, true)⟩,
    ⟨.pick (.t 16) (.t 19) (.c (.p (.b false))), some 20, none⟩,
    ⟨.mv (.t 20), some 21, none⟩,
    ⟨.faddr 4 (.t 1), some 22, some (21, true)⟩,
    ⟨.load true 2 (.t 22), some 23, some (21, true)⟩,
    ⟨.call J3a [(.t 23)] 0, some 24, some (21, true)⟩,
    ⟨.pick (.t 21) (.t 24) (.c (.p (.b false))), some 25, none⟩,
    ⟨.mv (.t 25), some 2, none⟩])
  (.ret))
def J6n : AFn := ⟨1, 26, J1s, [.tmp 2], false⟩
def J3o : Jt := .cond (.t 51)
  (.reg false [] [⟨.mv (.t 0), some 54, none⟩,
      ⟨.call J2V [(.t 54)] 0, some 55, none⟩,
      ⟨.faddr 12 (.t 3), some 56, none⟩,
      ⟨.store 1 (.t 56) (.t 55), none, none⟩])
  (.seq (.reg false [] [⟨.bin .eql .plain (.t 12) (.c (.p (.i .i64 7))), some 58, none⟩,
      ⟨.mv (.t 58), some 57, none⟩])
    (.cond (.t 57)
    (.reg false [] [⟨.mv (.t 0), some 59, none⟩,
        ⟨.call J9 [(.t 59), (.c (.p (.i .i64 4)))] 0, some 60, none⟩,
        ⟨.mv (.t 0), some 61, none⟩,
        ⟨.call J9 [(.t 61), (.c (.p (.i .i64 10)))] 0, some 62, none⟩,
        ⟨.faddr 6 (.t 3), some 63, none⟩,
        ⟨.faddr 0 (.t 63), some 64, none⟩,
        ⟨.store 1 (.t 64) (.t 60), none, none⟩,
        ⟨.faddr 5 (.t 3), some 65, none⟩,
        ⟨.store 1 (.t 65) (.t 62), none, none⟩])
    (.skip)))
def J3q : Jt := .cond (.t 39)
  (.reg false [] [⟨.mv (.t 0), some 43, none⟩,
      ⟨.call J9 [(.t 43), (.c (.p (.i .i64 5)))] 0, some 44, none⟩,
      ⟨.bin .add .plain (.c (.p (.i .i64 1))) (.t 44), some 45, none⟩,
      ⟨.mv (.t 0), some 46, none⟩,
      ⟨.call J9 [(.t 46), (.c (.p (.i .i64 9)))] 0, some 47, none⟩,
      ⟨.bin .add .plain (.c (.p (.i .i64 1))) (.t 47), some 48, none⟩,
      ⟨.faddr 2 (.t 3), some 49, none⟩,
      ⟨.store 1 (.t 49) (.t 45), none, none⟩,
      ⟨.faddr 3 (.t 3), some 50, none⟩,
      ⟨.store 1 (.t 50) (.t 48), none, none⟩])
  (.seq (.seq (.reg false [] [⟨.bin .eql .plain (.t 12) (.c (.p (.i .i64 6))), some 52, none⟩,
      ⟨.mv (.t 52), some 51, none⟩])
    (.cond (.t 51)
    (.skip)
    (.reg false [] [⟨.bin .eql .plain (.t 12) (.c (.p (.i .i64 8))), some 53, none⟩,
        ⟨.mv (.t 53), some 51, none⟩])))
    (.keep [0, 2, 3, 12, 51] J3o))
def J12 : Jt := .cond (.t 13)
  (.seq (.reg false [] [⟨.mv (.t 0), some 16, none⟩,
      ⟨.call J9 [(.t 16), (.c (.p (.i .i64 5)))] 0, some 17, none⟩,
      ⟨.bin .add .plain (.c (.p (.i .i64 1))) (.t 17), some 18, none⟩,
      ⟨.mv (.t 0), some 19, none⟩,
      ⟨.call J9 [(.t 19), (.c (.p (.i .i64 9)))] 0, some 20, none⟩,
      ⟨.bin .add .plain (.c (.p (.i .i64 1))) (.t 20), some 21, none⟩,
      ⟨.mv (.t 0), some 22, none⟩,
      ⟨.call J9 [(.t 22), (.c (.p (.i .i64 10)))] 0, some 23, none⟩,
      ⟨.mv (.t 0), some 24, none⟩,
      ⟨.call J3W [(.t 24)] 0, some 25, none⟩,
      ⟨.faddr 2 (.t 3), some 26, none⟩,
      ⟨.store 1 (.t 26) (.t 18), none, none⟩,
      ⟨.faddr 3 (.t 3), some 27, none⟩,
      ⟨.store 1 (.t 27) (.t 21), none, none⟩,
      ⟨.faddr 4 (.t 3), some 28, none⟩,
      ⟨.store 1 (.t 28) (.t 23), none, none⟩,
      ⟨.faddr 6 (.t 3), some 29, none⟩,
      ⟨.store 6 (.t 29) (.t 25), none, none⟩])
    (.keep [0, 2, 3] (.seq (.reg false [] [⟨.faddr 1 (.t 3), some 30, none⟩,
      ⟨.load false 1 (.t 30), some 31, none⟩,
      ⟨.bin .eql .plain (.t 31) (.c (.p (.i .i64 2))), some 32, none⟩])
    (.keep [0, 2, 3, 32] (.cond (.t 32)
    (.reg false [] [⟨.mv (.t 0), some 33, none⟩,
        ⟨.faddr 3 (.t 3), some 34, none⟩,
        ⟨.load false 1 (.t 34), some 35, none⟩,
        ⟨.call J9 [(.t 33), (.t 35)] 0, some 36, none⟩,
        ⟨.bin .add .plain (.c (.p (.i .i64 1))) (.t 36), some 37, none⟩,
        ⟨.faddr 5 (.t 3), some 38, none⟩,
        ⟨.store 1 (.t 38) (.t 37), none, none⟩])
    (.skip))))))
  (.seq (.seq (.reg false [] [⟨.bin .eql .plain (.t 12) (.c (.p (.i .i64 3))), some 40, none⟩,
      ⟨.mv (.t 40), some 39, none⟩])
    (.cond (.t 39)
    (.skip)
    (.seq (.reg false [] [⟨.bin .eql .plain (.t 12) (.c (.p (.i .i64 4))), some 41, none⟩,
        ⟨.mv (.t 41), some 39, none⟩])
      (.cond (.t 39)
      (.skip)
      (.reg false [] [⟨.bin .eql .plain (.t 12) (.c (.p (.i .i64 5))), some 42, none⟩,
          ⟨.mv (.t 42), some 39, none⟩])))))
    (.keep [0, 2, 3, 12, 39] J3q))
def J36 : Jt := .seq (.reg false [] [⟨.newbox (J4 default), some 2, none⟩])
  (.seq (.reg false [] [⟨.mv (.t 0), some 4, none⟩,
    ⟨.call J9 [(.t 4), (.c (.p (.i .i64 90)))] 0, some 5, none⟩,
    ⟨.bin .add .plain (.c (.p (.i .i64 10))) (.t 5), some 6, none⟩,
    ⟨.mv (.t 0), some 7, none⟩,
    ⟨.call J9 [(.t 7), (.c (.p (.i .i64 8)))] 0, some 8, none⟩,
    ⟨.bin .add .plain (.c (.p (.i .i64 1))) (.t 8), some 9, none⟩,
    ⟨.build (J4 default) [(0, 1, (.t 6)), (1, 1, (.t 9))], some 10, none⟩,
    ⟨.newbox (J4 default), some 3, none⟩,
    ⟨.store 13 (.t 3) (.t 10), none, none⟩])
  (.keep [0, 2, 3] (.seq (.seq (.reg false [] [⟨.faddr 1 (.t 3), some 11, none⟩,
    ⟨.load false 1 (.t 11), some 12, none⟩])
  (.block 0 (.seq (.seq (.reg false [] [⟨.bin .eql .plain (.t 12) (.c (.p (.i .i64 1))), some 14, none⟩,
    ⟨.mv (.t 14), some 13, none⟩])
  (.cond (.t 13)
  (.skip)
  (.reg false [] [⟨.bin .eql .plain (.t 12) (.c (.p (.i .i64 2))), some 15, none⟩,
      ⟨.mv (.t 15), some 13, none⟩])))
  (.keep [0, 2, 3, 12, 13] J12))))
  (.seq (.reg false [] [⟨.load true 13 (.t 3), some 66, none⟩,
    ⟨.store 13 (.t 2) (.t 66), none, none⟩])
  (.ret)))))
def J1J : AFn := ⟨1, 67, J36, [.cell 2 true 13], false⟩
def J3A : Jt := .reg true [(3, 6)] [⟨.mv (.t 0), some 4, none⟩,
    ⟨.mv (.t 0), some 5, none⟩,
    ⟨.load false 1 (.t 1), some 6, none⟩,
    ⟨.load false 1 (.t 2), some 7, none⟩,
    ⟨.nilchk (.t 4), some 8, none⟩,
    ⟨.faddr 1 (.t 8), some 9, none⟩,
    ⟨.store 1 (.t 9) (.t 6), none, none⟩,
    ⟨.nilchk (.t 5), some 10, none⟩,
    ⟨.faddr 2 (.t 10), some 11, none⟩,
    ⟨.store 1 (.t 11) (.t 7), none, none⟩]
def J2m : AFn := ⟨3, 12, J3A, [], false⟩
def J38 : Jt := .seq (.reg false [] [⟨.box 1 (.t 0), some 3, none⟩,
    ⟨.newbox (J5 default), some 6, none⟩])
  (.seq (.reg false [] [⟨.faddr 0 (.t 3), some 7, none⟩,
    ⟨.load false 1 (.t 7), some 8, none⟩,
    ⟨.call J0I [(.t 8)] 1, some 9, none⟩,
    ⟨.faddr 0 (.t 3), some 10, none⟩,
    ⟨.store 1 (.t 10) (.t 9), none, none⟩])
  (.keep [1, 2, 3, 6] (.seq (.reg false [] [⟨.mv (.t 2), some 11, none⟩,
    ⟨.faddr 0 (.t 3), some 12, none⟩,
    ⟨.load false 1 (.t 12), some 13, none⟩,
    ⟨.mv (.t 1), some 14, none⟩,
    ⟨.iaddr 3 (.t 13) (.t 14), some 15, none⟩,
    ⟨.callv (.t 11) [(.t 15)] 0, some 16, none⟩])
  (.keep [3, 6] (.seq (.reg false [] [⟨.load true 1 (.t 3), some 17, none⟩,
    ⟨.store 1 (.t 6) (.t 17), none, none⟩])
  (.ret))))))
def J3h : AFn := ⟨3, 18, J38, [.cell 6 true 1], false⟩
def JZ : Jt := .seq (.reg false [] [⟨.box 1 (.t 0), some 4, none⟩,
    ⟨.box 1 (.t 2), some 6, none⟩,
    ⟨.box 1 (.t 3), some 7, none⟩,
    ⟨.newbox (J5 default), some 8, none⟩,
    ⟨.mv (.c (.p (.i .i64 0))), some 9, none⟩])
  (.keep [1, 4, 6, 7, 8] (.seq (.block 0 (.seq (.reg false [] [⟨.load true 1 (.t 4), some 11, none⟩,
    ⟨.call J1j [(.t 11)] 0, some 12, none⟩,
    ⟨.un .not (.t 12), some 13, none⟩,
    ⟨.mv (.t 13), some 10, none⟩])
  (.keep [1, 4, 6, 7, 8, 10] (.cond (.t 10)
  (.seq (.reg false [] [⟨.build (J5 default) [], some 14, none⟩,
      ⟨.store 1 (.t 8) (.t 14), none, none⟩,
      ⟨.mv (.c (.p (.i .i64 28))), some 9, none⟩])
    (.ret))
  (.seq (.reg false [] [⟨.load true 1 (.t 4), some 16, none⟩,
      ⟨.mv (.t 1), some 17, none⟩,
      ⟨.call J3D [(.t 16), (.t 17)] 0, some 18, none⟩,
      ⟨.un .not (.t 18), some 19, none⟩,
      ⟨.mv (.t 19), some 20, none⟩,
      ⟨.load false 1 (.t 6), some 21, some (20, false)⟩,
      ⟨.call J14 [(.t 21)] 0, some 22, some (20, false)⟩,
      ⟨.un .not (.t 22), some 23, some (20, false)⟩,
      ⟨.pick (.t 20) (.c (.p (.b true))) (.t 23), some 24, none⟩,
      ⟨.mv (.t 24), some 25, none⟩,
      ⟨.load false 1 (.t 7), some 26, some (25, false)⟩,
      ⟨.call J14 [(.t 26)] 0, some 27, some (25, false)⟩,
      ⟨.un .not (.t 27), some 28, some (25, false)⟩,
      ⟨.pick (.t 25) (.c (.p (.b true))) (.t 28), some 29, none⟩,
      ⟨.mv (.t 29), some 30, none⟩,
      ⟨.load false 1 (.t 6), some 31, some (30, false)⟩,
      ⟨.bin .eql .plain (.t 31) (.c (.p (.i .i64 0))), some 32, some (30, false)⟩,
      ⟨.mv (.t 32), some 33, some (30, false)⟩,
      ⟨.load false 1 (.t 7), some 34, some (33, true)⟩,
      ⟨.bin .neq .plain (.t 34) (.c (.p (.i .i64 0))), some 35, some (33, true)⟩,
      ⟨.pick (.t 33) (.t 35) (.c (.p (.b false))), some 36, some (30, false)⟩,
      ⟨.pick (.t 30) (.c (.p (.b true))) (.t 36), some 37, none⟩,
      ⟨.mv (.t 37), some 15, none⟩])
    (.keep [1, 4, 6, 7, 8, 15] (.cond (.t 15)
    (.seq (.reg false [] [⟨.build (J5 default) [], some 38, none⟩,
        ⟨.store 1 (.t 8) (.t 38), none, none⟩,
        ⟨.mv (.c (.p (.i .i64 1))), some 9, none⟩])
      (.ret))
    (.skip))))))))
  (.seq (.reg false [] [⟨.load true 1 (.t 4), some 39, none⟩,
    ⟨.mv (.t 1), some 40, none⟩,
    ⟨.mkfn J0l [] [(.t 6), (.t 7)], some 41, none⟩,
    ⟨.call J1r [(.t 39), (.t 40), (.t 41)] 0, some 42, none⟩,
    ⟨.store 1 (.t 8) (.t 42), none, none⟩,
    ⟨.mv (.c (.p (.i .i64 0))), some 9, none⟩])
  (.ret))))
def J3r : AFn := ⟨4, 43, JZ, [.cell 8 true 1, .tmp 9], false⟩
def J0c : Jt := .seq (.reg false [] [⟨.box 1 (.t 0), some 4, none⟩,
    ⟨.newbox (J5 default), some 8, none⟩,
    ⟨.mv (.c (.p (.i .i64 0))), some 9, none⟩])
  (.keep [1, 2, 3, 4, 8] (.seq (.seq (.reg false [] [⟨.load true 1 (.t 4), some 11, none⟩,
    ⟨.call J2A [(.t 11)] 0, some 12, none⟩,
    ⟨.un .not (.t 12), some 13, none⟩])
  (.keep [1, 2, 3, 4, 8, 13] (.cond (.t 13)
  (.seq (.reg false [] [⟨.build (J5 default) [], some 14, none⟩,
      ⟨.store 1 (.t 8) (.t 14), none, none⟩,
      ⟨.mv (.c (.p (.i .i64 28))), some 9, none⟩])
    (.ret))
  (.skip))))
  (.seq (.seq (.reg false [] [⟨.mv (.t 1), some 15, none⟩,
    ⟨.bin .lss .plain (.t 15) (.c (.p (.i .i64 0))), some 16, none⟩,
    ⟨.mv (.t 16), some 17, none⟩,
    ⟨.mv (.t 1), some 18, some (17, false)⟩,
    ⟨.faddr 0 (.t 4), some 19, some (17, false)⟩,
    ⟨.load false 1 (.t 19), some 20, some (17, false)⟩,
    ⟨.len false (.t 20), some 21, some (17, false)⟩,
    ⟨.bin .geq .plain (.t 18) (.t 21), some 22, some (17, false)⟩,
    ⟨.pick (.t 17) (.c (.p (.b true))) (.t 22), some 23, none⟩,
    ⟨.mv (.t 23), some 24, none⟩,
    ⟨.mv (.t 2), some 25, some (24, false)⟩,
    ⟨.call J4x [(.t 25)] 0, some 26, some (24, false)⟩,
    ⟨.un .not (.t 26), some 27, some (24, false)⟩,
    ⟨.pick (.t 24) (.c (.p (.b true))) (.t 27), some 28, none⟩,
    ⟨.mv (.t 28), some 29, none⟩,
    ⟨.mv (.t 3), some 30, some (29, false)⟩,
    ⟨.call J4x [(.t 30)] 0, some 31, some (29, false)⟩,
    ⟨.un .not (.t 31), some 32, some (29, false)⟩,
    ⟨.pick (.t 29) (.c (.p (.b true))) (.t 32), some 33, none⟩,
    ⟨.mv (.t 33), some 34, none⟩,
    ⟨.mv (.t 2), some 35, some (34, false)⟩,
    ⟨.bin .eql .plain (.t 35) (.c (.p (.i .i64 0))), some 36, some (34, false)⟩,
    ⟨.mv (.t 36), some 37, some (34, false)⟩,
    ⟨.mv (.t 3), some 38, some (37, true)⟩,
    ⟨.bin .neq .plain (.t 38) (.c (.p (.i .i64 0))), some 39, some (37, true)⟩,
    ⟨.pick (.t 37) (.t 39) (.c (.p (.b false))), some 40, some (34, false)⟩,
    ⟨.pick (.t 34) (.c (.p (.b true))) (.t 40), some 41, none⟩])
  (.keep [1, 2, 3, 4, 8, 41] (.cond (.t 41)
  (.seq (.reg false [] [⟨.build (J5 default) [], some 42, none⟩,
      ⟨.store 1 (.t 8) (.t 42), none, none⟩,
      ⟨.mv (.c (.p (.i .i64 1))), some 9, none⟩])
    (.ret))
  (.skip))))
  (.seq (.reg false [] [⟨.faddr 0 (.t 4), some 43, none⟩,
    ⟨.load false 1 (.t 43), some 44, none⟩,
    ⟨.mv (.t 1), some 45, none⟩,
    ⟨.iaddr 3 (.t 44) (.t 45), some 46, none⟩,
    ⟨.load true 3 (.t 46), some 47, none⟩,
    ⟨.newbox (J7 default), some 10, none⟩,
    ⟨.store 3 (.t 10) (.t 47), none, none⟩])
  (.keep [1, 2, 3, 4, 8, 10] (.seq (.reg false [] [⟨.mv (.t 2), some 48, none⟩,
    ⟨.mv (.t 3), some 49, none⟩,
    ⟨.faddr 1 (.t 10), some 50, none⟩,
    ⟨.store 1 (.t 50) (.t 48), none, none⟩,
    ⟨.faddr 2 (.t 10), some 51, none⟩,
    ⟨.store 1 (.t 51) (.t 49), none, none⟩])
  (.keep [1, 4, 8, 10] (.seq (.reg false [] [⟨.load true 1 (.t 4), some 52, none⟩,
    ⟨.mv (.t 1), some 53, none⟩,
    ⟨.load true 3 (.t 10), some 54, none⟩,
    ⟨.call J7n [(.t 52), (.t 53), (.t 54)] 0, some 55, none⟩,
    ⟨.store 1 (.t 8) (.t 55), none, none⟩,
    ⟨.mv (.c (.p (.i .i64 0))), some 9, none⟩])
  (.ret)))))))))
def J5j : AFn := ⟨4, 56, J0c, [.cell 8 true 1, .tmp 9], false⟩
def J1P : Jt := .seq (.reg false [] [⟨.bin .lss .plain (.t 17) (.t 16), some 18, none⟩])
  (.seq (.cond (.t 18)
  (.skip)
  (.exit 0))
  (.seq (.block 1 (.seq (.reg false [] [⟨.iaddr 3 (.t 15) (.t 17), some 19, none⟩,
    ⟨.load true 3 (.t 19), some 20, none⟩,
    ⟨.newbox (J7 default), some 6, none⟩,
    ⟨.store 3 (.t 6) (.t 20), none, none⟩])
  (.keep [4, 6, 15, 16, 17] (.reg true [(3, 5), (3, 8), (6, 8)] [⟨.mv (.t 4), some 21, none⟩,
    ⟨.faddr 0 (.t 6), some 22, none⟩,
    ⟨.load false 1 (.t 22), some 23, none⟩,
    ⟨.call J47 [(.t 21), (.t 23), (.c (.p (.i .i64 8)))] 0, some 24, none⟩,
    ⟨.faddr 1 (.t 6), some 25, none⟩,
    ⟨.load false 1 (.t 25), some 26, none⟩,
    ⟨.call J47 [(.t 24), (.t 26), (.c (.p (.i .i64 8)))] 0, some 27, none⟩,
    ⟨.faddr 2 (.t 6), some 28, none⟩,
    ⟨.load false 1 (.t 28), some 29, none⟩,
    ⟨.call J47 [(.t 27), (.t 29), (.c (.p (.i .i64 8)))] 0, some 30, none⟩,
    ⟨.mv (.t 30), some 4, none⟩]))))
  (.reg false [] [⟨.bin .add .plain (.t 17) (.c (.p (.i .i64 1))), some 31, none⟩,
    ⟨.mv (.t 31), some 17, none⟩])))
def J2r : Jt := .seq (.reg false [] [⟨.mv (.t 4), some 32, none⟩,
    ⟨.mv (.t 32), some 2, none⟩,
    ⟨.mv (.c (.p (.i .i64 0))), some 3, none⟩])
  (.ret)
def J33 : Jt := .seq (.reg false [] [⟨.box 1 (.t 0), some 1, none⟩,
    ⟨.mv (.c (.p (.s []))), some 2, none⟩,
    ⟨.mv (.c (.p (.i .i64 0))), some 3, none⟩])
  (.keep [1] (.seq (.seq (.reg false [] [⟨.load true 1 (.t 1), some 7, none⟩,
    ⟨.call J1j [(.t 7)] 0, some 8, none⟩,
    ⟨.un .not (.t 8), some 9, none⟩])
  (.keep [1, 9] (.cond (.t 9)
  (.seq (.reg false [] [⟨.mv (.c (.p (.s []))), some 2, none⟩,
      ⟨.mv (.c (.p (.i .i64 28))), some 3, none⟩])
    (.ret))
  (.skip))))
  (.seq (.reg false [] [⟨.faddr 0 (.t 1), some 10, none⟩,
    ⟨.load false 1 (.t 10), some 11, none⟩,
    ⟨.len false (.t 11), some 12, none⟩,
    ⟨.call J47 [(.c (.p (.s []))), (.t 12), (.c (.p (.i .i64 2)))] 0, some 13, none⟩,
    ⟨.mv (.t 13), some 4, none⟩])
  (.keep [1, 4] (.seq (.tidy [2, 3, 4] (.seq (.reg false [] [⟨.faddr 0 (.t 1), some 14, none⟩,
    ⟨.load false 1 (.t 14), some 15, none⟩,
    ⟨.len false (.t 15), some 16, none⟩,
    ⟨.mv (.c (.p (.i .i64 0))), some 17, none⟩])
  (.keep [4, 15, 16, 17] (.block 0 (.loop [4, 15, 16, 17] J1P)))))
  (.keep [4] J2r))))))
def J15 : AFn := ⟨1, 33, J33, [.tmp 2, .tmp 3], false⟩
def J34 : Jt := .seq (.seq (.reg false [] [⟨.mv (.t 5), some 13, none⟩,
    ⟨.faddr 0 (.t 1), some 14, none⟩,
    ⟨.load false 1 (.t 14), some 15, none⟩,
    ⟨.len false (.t 15), some 16, none⟩,
    ⟨.bin .lss .plain (.t 13) (.t 16), some 17, none⟩])
  (.keep [1, 4, 5, 17] (.cond (.t 17)
  (.skip)
  (.exit 0))))
  (.seq (.block 1 (.seq (.reg false [] [⟨.mv (.t 4), some 20, none⟩,
    ⟨.faddr 0 (.t 1), some 21, none⟩,
    ⟨.load false 1 (.t 21), some 22, none⟩,
    ⟨.mv (.t 5), some 23, none⟩,
    ⟨.iaddr 3 (.t 22) (.t 23), some 24, none⟩,
    ⟨.faddr 0 (.t 24), some 25, none⟩,
    ⟨.load false 1 (.t 25), some 26, none⟩,
    ⟨.call J5r [(.t 20), (.t 26), (.c (.p (.i .i64 8)))] 0, some 27, none⟩,
    ⟨.mv (.t 27), some 4, none⟩])
  (.keep [1, 4, 5] (.seq (.reg false [] [⟨.mv (.t 4), some 28, none⟩,
    ⟨.faddr 0 (.t 1), some 29, none⟩,
    ⟨.load false 1 (.t 29), some 30, none⟩,
    ⟨.mv (.t 5), some 31, none⟩,
    ⟨.iaddr 3 (.t 30) (.t 31), some 32, none⟩,
    ⟨.faddr 1 (.t 32), some 33, none⟩,
    ⟨.load false 1 (.t 33), some 34, none⟩,
    ⟨.call J5r [(.t 28), (.t 34), (.c (.p (.i .i64 8)))] 0, some 35, none⟩,
    ⟨.mv (.t 35), some 4, none⟩])
  (.keep [1, 4, 5] (.reg false [] [⟨.mv (.t 4), some 36, none⟩,
    ⟨.faddr 0 (.t 1), some 37, none⟩,
    ⟨.load false 1 (.t 37), some 38, none⟩,
    ⟨.mv (.t 5), some 39, none⟩,
    ⟨.iaddr 3 (.t 38) (.t 39), some 40, none⟩,
    ⟨.faddr 2 (.t 40), some 41, none⟩,
    ⟨.load false 1 (.t 41), some 42, none⟩,
    ⟨.call J5r [(.t 36), (.t 42), (.c (.p (.i .i64 8)))] 0, some 43, none⟩,
    ⟨.mv (.t 43), some 4, none⟩]))))))
  (.reg false [] [⟨.mv (.t 5), some 18, none⟩,
    ⟨.bin .add .plain (.t 18) (.c (.p (.i .i64 1))), some 19, none⟩,
    ⟨.mv (.t 19), some 5, none⟩]))
def J4b : Jt := .seq (.reg false [] [⟨.mv (.t 4), some 44, none⟩,
    ⟨.mv (.t 44), some 2, none⟩,
    ⟨.mv (.c (.p (.i .i64 0))), some 3, none⟩])
  (.ret)
def J5k : Jt := .seq (.reg false [] [⟨.box 1 (.t 0), some 1, none⟩,
    ⟨.mv (.c (.p (.s []))), some 2, none⟩,
    ⟨.mv (.c (.p (.i .i64 0))), some 3, none⟩])
  (.keep [1] (.seq (.seq (.reg false [] [⟨.load true 1 (.t 1), some 6, none⟩,
    ⟨.call J2A [(.t 6)] 0, some 7, none⟩,
    ⟨.un .not (.t 7), some 8, none⟩])
  (.keep [1, 8] (.cond (.t 8)
  (.seq (.reg false [] [⟨.mv (.c (.p (.s []))), some 2, none⟩,
      ⟨.mv (.c (.p (.i .i64 28))), some 3, none⟩])
    (.ret))
  (.skip))))
  (.seq (.reg false [] [⟨.faddr 0 (.t 1), some 9, none⟩,
    ⟨.load false 1 (.t 9), some 10, none⟩,
    ⟨.len false (.t 10), some 11, none⟩,
    ⟨.call J5r [(.c (.p (.s []))), (.t 11), (.c (.p (.i .i64 2)))] 0, some 12, none⟩,
    ⟨.mv (.t 12), some 4, none⟩])
  (.keep [1, 4] (.seq (.seq (.reg false [] [⟨.mv (.c (.p (.i .i64 0))), some 5, none⟩])
  (.block 0 (.loop [1, 4, 5] J34)))
  (.keep [4] J4b))))))
def J25 : AFn := ⟨1, 45, J5k, [.tmp 2, .tmp 3], false⟩
def Jx : Jt := .cond (.t 47)
  (.seq (.reg false [] [⟨.mv (.c (.p (.b false))), some 2, none⟩])
    (.ret))
  (.seq (.seq (.reg false [] [⟨.faddr 0 (.t 3), some 68, none⟩,
      ⟨.load false 1 (.t 68), some 69, none⟩,
      ⟨.un .not (.t 69), some 70, none⟩,
      ⟨.mv (.t 70), some 71, none⟩,
      ⟨.faddr 2 (.t 1), some 72, some (71, true)⟩,
      ⟨.load false 1 (.t 72), some 73, some (71, true)⟩,
      ⟨.bin .neq .plain (.t 73) (.c (.p (.i .i64 0))), some 74, some (71, true)⟩,
      ⟨.mv (.t 74), some 75, some (71, true)⟩,
      ⟨.faddr 3 (.t 1), some 76, some (75, false)⟩,
      ⟨.load false 1 (.t 76), some 77, some (75, false)⟩,
      ⟨.bin .neq .plain (.t 77) (.c (.p (.i .i64 0))), some 78, some (75, false)⟩,
      ⟨.pick (.t 75) (.c (.p (.b true))) (.t 78), some 79, some (71, true)⟩,
      ⟨.pick (.t 71) (.t 79) (.c (.p (.b false))), some 80, none⟩,
      ⟨.mv (.t 80), some 67, none⟩])
    (.keep [1, 3, 67] (.cond (.t 67)
    (.skip)
    (.seq (.reg false [] [⟨.faddr 2 (.t 3), some 81, none⟩,
        ⟨.load false 1 (.t 81), some 82, none⟩,
        ⟨.un .not (.t 82), some 83, none⟩,
        ⟨.mv (.t 83), some 84, none⟩,
        ⟨.faddr 4 (.t 1), some 85, some (84, true)⟩,
        ⟨.load false 1 (.t 85), some 86, some (84, true)⟩,
        ⟨.bin .neq .plain (.t 86) (.c (.p (.i .i64 0))), some 87, some (84, true)⟩,
        ⟨.pick (.t 84) (.t 87) (.c (.p (.b false))), some 88, none⟩,
        ⟨.mv (.t 88), some 67, none⟩])
      (.keep [1, 3, 67] (.cond (.t 67)
      (.skip)
      (.seq (.reg false [] [⟨.faddr 3 (.t 3), some 89, none⟩,
          ⟨.load false 1 (.t 89), some 90, none⟩,
          ⟨.un .not (.t 90), some 91, none⟩,
          ⟨.mv (.t 91), some 92, none⟩,
          ⟨.faddr 5 (.t 1), some 93, some (92, true)⟩,
          ⟨.load false 1 (.t 93), some 94, some (92, true)⟩,
          ⟨.bin .neq .plain (.t 94) (.c (.p (.i .i64 0))), some 95, some (92, true)⟩,
          ⟨.pick (.t 92) (.t 95) (.c (.p (.b false))), some 96, none⟩,
          ⟨.mv (.t 96), some 67, none⟩])
        (.keep [1, 3, 67] (.cond (.t 67)
        (.skip)
        (.reg false [] [⟨.faddr 4 (.t 3), some 97, none⟩,
            ⟨.load false 1 (.t 97), some 98, none⟩,
            ⟨.un .not (.t 98), some 99, none⟩,
            ⟨.mv (.t 99), some 100, none⟩,
            ⟨.faddr 12 (.t 1), some 101, some (100, true)⟩,
            ⟨.load false 1 (.t 101), some 102, some (100, true)⟩,
            ⟨.bin .neq .plain (.t 102) (.c (.p (.s []))), some 103, some (100, true)⟩,
            ⟨.pick (.t 100) (.t 103) (.c (.p (.b false))), some 104, none⟩,
            ⟨.mv (.t 104), some 67, none⟩]))))))))))
    (.cond (.t 67)
    (.seq (.reg false [] [⟨.mv (.c (.p (.b false))), some 2, none⟩])
      (.ret))
    (.skip)))
def JJ : Jt := .seq (.reg false [] [⟨.faddr 12 (.t 1), some 105, none⟩,
    ⟨.load false 1 (.t 105), some 106, none⟩,
    ⟨.len true (.t 106), some 107, none⟩,
    ⟨.bin .leq .plain (.t 107) (.c (.p (.i .i64 8192))), some 108, none⟩,
    ⟨.mv (.t 108), some 109, none⟩,
    ⟨.faddr 5 (.t 3), some 110, some (109, true)⟩,
    ⟨.load false 1 (.t 110), some 111, some (109, true)⟩,
    ⟨.load true 13 (.t 1), some 112, some (109, true)⟩,
    ⟨.callv (.t 111) [(.t 112)] 0, some 113, some (109, true)⟩,
    ⟨.pick (.t 109) (.t 113) (.c (.p (.b false))), some 114, none⟩,
    ⟨.mv (.t 114), some 115, none⟩,
    ⟨.faddr 6 (.t 3), some 116, some (115, true)⟩,
    ⟨.load false 1 (.t 116), some 117, some (115, true)⟩,
    ⟨.faddr 6 (.t 1), some 118, some (115, true)⟩,
    ⟨.load true 6 (.t 118), some 119, some (115, true)⟩,
    ⟨.callv (.t 117) [(.t 119)] 0, some 120, some (115, true)⟩,
    ⟨.pick (.t 115) (.t 120) (.c (.p (.b false))), some 121, none⟩,
    ⟨.mv (.t 121), some 2, none⟩])
  (.ret)
def J0d : Jt := .seq (.block 0 (.seq (.seq (.reg false [] [⟨.faddr 0 (.t 3), some 48, none⟩,
    ⟨.load false 1 (.t 48), some 49, none⟩,
    ⟨.mv (.t 49), some 50, none⟩,
    ⟨.faddr 2 (.t 1), some 51, some (50, true)⟩,
    ⟨.load false 1 (.t 51), some 52, some (50, true)⟩,
    ⟨.bin .lss .plain (.t 52) (.c (.p (.i .i64 1))), some 53, some (50, true)⟩,
    ⟨.mv (.t 53), some 54, some (50, true)⟩,
    ⟨.faddr 2 (.t 1), some 55, some (54, false)⟩,
    ⟨.load false 1 (.t 55), some 56, some (54, false)⟩,
    ⟨.bin .gtr .plain (.t 56) (.c (.p (.i .i64 1073741824))), some 57, some (54, false)⟩,
    ⟨.pick (.t 54) (.c (.p (.b true))) (.t 57), some 58, some (50, true)⟩,
    ⟨.pick (.t 50) (.t 58) (.c (.p (.b false))), some 59, none⟩,
    ⟨.mv (.t 59), some 47, none⟩])
  (.keep [1, 3, 47] (.cond (.t 47)
  (.skip)
  (.reg false [] [⟨.faddr 1 (.t 3), some 60, none⟩,
      ⟨.load false 1 (.t 60), some 61, none⟩,
      ⟨.mv (.t 61), some 62, none⟩,
      ⟨.faddr 3 (.t 1), some 63, some (62, true)⟩,
      ⟨.load false 1 (.t 63), some 64, some (62, true)⟩,
      ⟨.bin .eql .plain (.t 64) (.c (.p (.i .i64 0))), some 65, some (62, true)⟩,
      ⟨.pick (.t 62) (.t 65) (.c (.p (.b false))), some 66, none⟩,
      ⟨.mv (.t 66), some 47, none⟩]))))
  (.keep [1, 3, 47] Jx)))
  (.keep [1, 3] JJ)
def JO : Jt := .seq (.reg false [] [⟨.box 13 (.t 0), some 1, none⟩,
    ⟨.mv (.c (.p (.b false))), some 2, none⟩])
  (.seq (.seq (.reg false [] [⟨.faddr 0 (.t 1), some 4, none⟩,
    ⟨.load false 1 (.t 4), some 5, none⟩,
    ⟨.bin .lss .plain (.t 5) (.c (.p (.i .i64 1))), some 6, none⟩,
    ⟨.mv (.t 6), some 7, none⟩,
    ⟨.faddr 0 (.t 1), some 8, some (7, false)⟩,
    ⟨.load false 1 (.t 8), some 9, some (7, false)⟩,
    ⟨.bin .gtr .plain (.t 9) (.c (.p (.i .i64 1099511627776))), some 10, some (7, false)⟩,
    ⟨.pick (.t 7) (.c (.p (.b true))) (.t 10), some 11, none⟩,
    ⟨.mv (.t 11), some 12, none⟩,
    ⟨.faddr 1 (.t 1), some 13, some (12, false)⟩,
    ⟨.load false 1 (.t 13), some 14, some (12, false)⟩,
    ⟨.bin .lss .plain (.t 14) (.c (.p (.i .i64 1))), some 15, some (12, false)⟩,
    ⟨.pick (.t 12) (.c (.p (.b true))) (.t 15), some 16, none⟩,
    ⟨.mv (.t 16), some 17, none⟩,
    ⟨.faddr 1 (.t 1), some 18, some (17, false)⟩,
    ⟨.load false 1 (.t 18), some 19, some (17, false)⟩,
    ⟨.bin .gtr .plain (.t 19) (.c (.p (.i .i64 8))), some 20, some (17, false)⟩,
    ⟨.pick (.t 17) (.c (.p (.b true))) (.t 20), some 21, none⟩,
    ⟨.mv (.t 21), some 22, none⟩,
    ⟨.faddr 3 (.t 1), some 23, some (22, false)⟩,
    ⟨.load false 1 (.t 23), some 24, some (22, false)⟩,
    ⟨.load true 13 (.t 1), some 25, some (22, false)⟩,
    ⟨.call J4g [(.t 24), (.t 25)] 0, some 26, some (22, false)⟩,
    ⟨.un .not (.t 26), some 27, some (22, false)⟩,
    ⟨.pick (.t 22) (.c (.p (.b true))) (.t 27), some 28, none⟩,
    ⟨.mv (.t 28), some 29, none⟩,
    ⟨.faddr 4 (.t 1), some 30, some (29, false)⟩,
    ⟨.load false 1 (.t 30), some 31, some (29, false)⟩,
    ⟨.load true 13 (.t 1), some 32, some (29, false)⟩,
    ⟨.call J4g [(.t 31), (.t 32)] 0, some 33, some (29, false)⟩,
    ⟨.un .not (.t 33), some 34, some (29, false)⟩,
    ⟨.pick (.t 29) (.c (.p (.b true))) (.t 34), some 35, none⟩,
    ⟨.mv (.t 35), some 36, none⟩,
    ⟨.faddr 5 (.t 1), some 37, some (36, false)⟩,
    ⟨.load false 1 (.t 37), some 38, some (36, false)⟩,
    ⟨.load true 13 (.t 1), some 39, some (36, false)⟩,
    ⟨.call J4g [(.t 38), (.t 39)] 0, some 40, some (36, false)⟩,
    ⟨.un .not (.t 40), some 41, some (36, false)⟩,
    ⟨.pick (.t 36) (.c (.p (.b true))) (.t 41), some 42, none⟩])
  (.keep [1, 42] (.cond (.t 42)
  (.seq (.reg false [] [⟨.mv (.c (.p (.b false))), some 2, none⟩])
    (.ret))
  (.skip))))
  (.seq (.reg true [(0, 2), (0, 4), (2, 4)] [⟨.call J5S [] 0, some 43, none⟩,
    ⟨.faddr 1 (.t 1), some 44, none⟩,
    ⟨.load false 1 (.t 44), some 45, none⟩,
    ⟨.aidx true 9 7 (.t 43) (.t 45), some 46, none⟩,
    ⟨.newbox [.b false, .b false, .b false, .b false, .b false, .nf, .nf], some 3, none⟩,
    ⟨.store 7 (.t 3) (.t 46), none, none⟩])
  (.keep [1, 3] J0d)))
def J0q : AFn := ⟨1, 122, JO, [.tmp 2], false⟩
def J0P : Jt := .seq (.reg false [] [⟨.box 13 (.t 0), some 1, none⟩,
    ⟨.mv (.c (.p (.b false))), some 2, none⟩])
  (.seq (.reg false [] [⟨.load true 13 (.t 1), some 6, none⟩,
    ⟨.call J6K [(.t 6)] 0, some 7, none⟩,
    ⟨.mv (.t 7), some 5, none⟩,
    ⟨.extr (.t 5) 0, some 8, none⟩,
    ⟨.extr (.t 5) 1, some 9, none⟩,
    ⟨.newbox (J4 default), some 3, none⟩,
    ⟨.store 13 (.t 3) (.t 8), none, none⟩,
    ⟨.mv (.t 9), some 4, none⟩])
  (.keep [1, 3, 4] (.seq (.reg false [] [⟨.mv (.t 4), some 10, none⟩,
    ⟨.mv (.t 10), some 11, none⟩,
    ⟨.load true 13 (.t 3), some 12, some (11, true)⟩,
    ⟨.load true 13 (.t 1), some 13, some (11, true)⟩,
    ⟨.bin .eql (.flat [(.i .i64), (.i .i64), (.i .i64), (.i .i64), (.i .i64), (.i .i64), (.i .i64), (.i .i64), .b, .s, .b, .s, .s]) (.t 12) (.t 13), some 14, some (11, true)⟩,
    ⟨.pick (.t 11) (.t 14) (.c (.p (.b false))), some 15, none⟩,
    ⟨.mv (.t 15), some 16, none⟩,
    ⟨.faddr 0 (.t 1), some 17, some (16, true)⟩,
    ⟨.load false 1 (.t 17), some 18, some (16, true)⟩,
    ⟨.bin .geq .plain (.t 18) (.c (.p (.i .i64 1))), some 19, some (16, true)⟩,
    ⟨.pick (.t 16) (.t 19) (.c (.p (.b false))), some 20, none⟩,
    ⟨.mv (.t 20), some 21, none⟩,
    ⟨.faddr 0 (.t 1), some 22, some (21, true)⟩,
    ⟨.load false 1 (.t 22), some 23, some (21, true)⟩,
    ⟨.bin .leq .plain (.t 23) (.c (.p (.i .i64 1099511627776))), some 24, some (21, true)⟩,
    ⟨.pick (.t 21) (.t 24) (.c (.p (.b false))), some 25, none⟩,
    ⟨.mv (.t 25), some 26, none⟩,
    ⟨.faddr 3 (.t 1), some 27, some (26, true)⟩,
    ⟨.load false 1 (.t 27), some 28, some (26, true)⟩,
    ⟨.faddr 0 (.t 1), some 29, some (26, true)⟩,
    ⟨.load false 1 (.t 29), some 30, some (26, true)⟩,
    ⟨.call J4s [(.t 28), (.t 30)] 0, some 31, some (26, true)⟩,
    ⟨.pick (.t 26) (.t 31) (.c (.p (.b false))), some 32, none⟩,
    ⟨.mv (.t 32), some 33, none⟩,
    ⟨.faddr 4 (.t 1), some 34, some (33, true)⟩,
    ⟨.load false 1 (.t 34), some 35, some (33, true)⟩,
    ⟨.faddr 0 (.t 1), some 36, some (33, true)⟩,
    ⟨.load false 1 (.t 36), some 37, some (33, true)⟩,
    ⟨.call J4s [(.t 35), (.t 37)] 0, some 38, some (33, true)⟩,
    ⟨.pick (.t 33) (.t 38) (.c (.p (.b false))), some 39, none⟩,
    ⟨.mv (.t 39), some 40, none⟩,
    ⟨.faddr 5 (.t 1), some 41, some (40, true)⟩,
    ⟨.load false 1 (.t 41), some 42, some (40, true)⟩,
    ⟨.faddr 0 (.t 1), some 43, some (40, true)⟩,
    ⟨.load false 1 (.t 43), some 44, some (40, true)⟩,
    ⟨.call J4s [(.t 42), (.t 44)] 0, some 45, some (40, true)⟩,
    ⟨.pick (.t 40) (.t 45) (.c (.p (.b false))), some 46, none⟩,
    ⟨.mv (.t 46), some 2, none⟩])
  (.ret))))
def J6S : AFn := ⟨1, 47, J0P, [.tmp 2], false⟩
def J55 : Jt := .reg true [] [⟨.mv (.t 0), some 3, none⟩,
    ⟨.mv (.t 0), some 4, none⟩,
    ⟨.nilchk (.t 4), some 5, none⟩,
    ⟨.faddr 0 (.t 5), some 6, none⟩,
    ⟨.load false 1 (.t 6), some 7, none⟩,
    ⟨.faddr 5 (.t 1), some 8, none⟩,
    ⟨.load false 1 (.t 8), some 9, none⟩,
    ⟨.mm true (.t 7) (.t 9), some 10, none⟩,
    ⟨.nilchk (.t 3), some 11, none⟩,
    ⟨.faddr 0 (.t 11), some 12, none⟩,
    ⟨.store 1 (.t 12) (.t 10), none, none⟩]
def J3Q : AFn := ⟨2, 13, J55, [], false⟩
def J0U : Jt := .seq (.reg false [] [⟨.box 1 (.t 0), some 2, none⟩,
    ⟨.box 13 (.t 1), some 3, none⟩,
    ⟨.newbox (J5 default), some 4, none⟩,
    ⟨.mv (.c (.p (.i .i64 0))), some 5, none⟩])
  (.keep [2, 3, 4] (.seq (.block 0 (.seq (.reg false [] [⟨.load true 1 (.t 2), some 7, none⟩,
    ⟨.call J1j [(.t 7)] 0, some 8, none⟩,
    ⟨.un .not (.t 8), some 9, none⟩,
    ⟨.mv (.t 9), some 6, none⟩])
  (.keep [2, 3, 4, 6] (.cond (.t 6)
  (.seq (.reg false [] [⟨.build (J5 default) [], some 10, none⟩,
      ⟨.store 1 (.t 4) (.t 10), none, none⟩,
      ⟨.mv (.c (.p (.i .i64 28))), some 5, none⟩])
    (.ret))
  (.seq (.reg false [] [⟨.load true 13 (.t 3), some 12, none⟩,
      ⟨.call J6N [(.t 12)] 0, some 13, none⟩,
      ⟨.un .not (.t 13), some 14, none⟩,
      ⟨.mv (.t 14), some 11, none⟩])
    (.keep [2, 3, 4, 11] (.cond (.t 11)
    (.seq (.reg false [] [⟨.build (J5 default) [], some 15, none⟩,
        ⟨.store 1 (.t 4) (.t 15), none, none⟩,
        ⟨.mv (.c (.p (.i .i64 12))), some 5, none⟩])
      (.ret))
    (.seq (.reg false [] [⟨.faddr 1 (.t 3), some 17, none⟩,
        ⟨.load false 1 (.t 17), some 18, none⟩,
        ⟨.bin .neq .plain (.t 18) (.c (.p (.i .i64 7))), some 19, none⟩,
        ⟨.mv (.t 19), some 16, none⟩])
      (.keep [2, 3, 4, 16] (.cond (.t 16)
      (.seq (.reg false [] [⟨.load true 1 (.t 2), some 20, none⟩,
          ⟨.store 1 (.t 4) (.t 20), none, none⟩,
          ⟨.mv (.c (.p (.i .i64 0))), some 5, none⟩])
        (.ret))
      (.seq (.reg false [] [⟨.load true 1 (.t 2), some 22, none⟩,
          ⟨.faddr 6 (.t 3), some 23, none⟩,
          ⟨.faddr 0 (.t 23), some 24, none⟩,
          ⟨.load false 1 (.t 24), some 25, none⟩,
          ⟨.call J3D [(.t 22), (.t 25)] 0, some 26, none⟩,
          ⟨.un .not (.t 26), some 27, none⟩,
          ⟨.mv (.t 27), some 21, none⟩])
        (.keep [2, 3, 4, 21] (.cond (.t 21)
        (.seq (.reg false [] [⟨.build (J5 default) [], some 28, none⟩,
            ⟨.store 1 (.t 4) (.t 28), none, none⟩,
            ⟨.mv (.c (.p (.i .i64 1))), some 5, none⟩])
          (.ret))
        (.skip))))))))))))))
  (.seq (.reg false [] [⟨.load true 1 (.t 2), some 29, none⟩,
    ⟨.faddr 6 (.t 3), some 30, none⟩,
    ⟨.faddr 0 (.t 30), some 31, none⟩,
    ⟨.load false 1 (.t 31), some 32, none⟩,
    ⟨.mkfn J1e [] [(.t 3)], some 33, none⟩,
    ⟨.call J1r [(.t 29), (.t 32), (.t 33)] 0, some 34, none⟩,
    ⟨.store 1 (.t 4) (.t 34), none, none⟩,
    ⟨.mv (.c (.p (.i .i64 0))), some 5, none⟩])
  (.ret))))
def J5d : AFn := ⟨2, 35, J0U, [.cell 4 true 1, .tmp 5], false⟩
def J24 : Jt := .seq (.reg false [] [⟨.box 1 (.t 0), some 2, none⟩,
    ⟨.box 13 (.t 1), some 3, none⟩,
    ⟨.newbox (J5 default), some 4, none⟩,
    ⟨.mv (.c (.p (.i .i64 0))), some 5, none⟩])
  (.keep [2, 3, 4] (.seq (.block 0 (.seq (.reg false [] [⟨.load true 1 (.t 2), some 8, none⟩,
    ⟨.call J2A [(.t 8)] 0, some 9, none⟩,
    ⟨.un .not (.t 9), some 10, none⟩,
    ⟨.mv (.t 10), some 7, none⟩])
  (.keep [2, 3, 4, 7] (.cond (.t 7)
  (.seq (.reg false [] [⟨.build (J5 default) [], some 11, none⟩,
      ⟨.store 1 (.t 4) (.t 11), none, none⟩,
      ⟨.mv (.c (.p (.i .i64 28))), some 5, none⟩])
    (.ret))
  (.seq (.reg false [] [⟨.load true 13 (.t 3), some 13, none⟩,
      ⟨.call J6W [(.t 13)] 0, some 14, none⟩,
      ⟨.un .not (.t 14), some 15, none⟩,
      ⟨.mv (.t 15), some 12, none⟩])
    (.keep [2, 3, 4, 12] (.cond (.t 12)
    (.seq (.reg false [] [⟨.build (J5 default) [], some 16, none⟩,
        ⟨.store 1 (.t 4) (.t 16), none, none⟩,
        ⟨.mv (.c (.p (.i .i64 12))), some 5, none⟩])
      (.ret))
    (.seq (.reg false [] [⟨.faddr 1 (.t 3), some 18, none⟩,
        ⟨.load false 1 (.t 18), some 19, none⟩,
        ⟨.bin .neq .plain (.t 19) (.c (.p (.i .i64 7))), some 20, none⟩,
        ⟨.mv (.t 20), some 17, none⟩])
      (.keep [2, 3, 4, 17] (.cond (.t 17)
      (.seq (.reg false [] [⟨.load true 1 (.t 2), some 21, none⟩,
          ⟨.store 1 (.t 4) (.t 21), none, none⟩,
          ⟨.mv (.c (.p (.i .i64 0))), some 5, none⟩])
        (.ret))
      (.seq (.reg false [] [⟨.faddr 6 (.t 3), some 23, none⟩,
          ⟨.faddr 0 (.t 23), some 24, none⟩,
          ⟨.load false 1 (.t 24), some 25, none⟩,
          ⟨.faddr 0 (.t 2), some 26, none⟩,
          ⟨.load false 1 (.t 26), some 27, none⟩,
          ⟨.len false (.t 27), some 28, none⟩,
          ⟨.bin .geq .plain (.t 25) (.t 28), some 29, none⟩,
          ⟨.mv (.t 29), some 22, none⟩])
        (.keep [2, 3, 4, 22] (.cond (.t 22)
        (.seq (.reg false [] [⟨.build (J5 default) [], some 30, none⟩,
            ⟨.store 1 (.t 4) (.t 30), none, none⟩,
            ⟨.mv (.c (.p (.i .i64 1))), some 5, none⟩])
          (.ret))
        (.skip))))))))))))))
  (.seq (.reg false [] [⟨.faddr 0 (.t 2), some 31, none⟩,
    ⟨.load false 1 (.t 31), some 32, none⟩,
    ⟨.faddr 6 (.t 3), some 33, none⟩,
    ⟨.faddr 0 (.t 33), some 34, none⟩,
    ⟨.load false 1 (.t 34), some 35, none⟩,
    ⟨.iaddr 3 (.t 32) (.t 35), some 36, none⟩,
    ⟨.load true 3 (.t 36), some 37, none⟩,
    ⟨.newbox (J7 default), some 6, none⟩,
    ⟨.store 3 (.t 6) (.t 37), none, none⟩])
  (.keep [2, 3, 4, 6] (.seq (.reg false [] [⟨.faddr 0 (.t 6), some 38, none⟩,
    ⟨.load false 1 (.t 38), some 39, none⟩,
    ⟨.faddr 5 (.t 3), some 40, none⟩,
    ⟨.load false 1 (.t 40), some 41, none⟩,
    ⟨.mm true (.t 39) (.t 41), some 42, none⟩,
    ⟨.faddr 0 (.t 6), some 43, none⟩,
    ⟨.store 1 (.t 43) (.t 42), none, none⟩])
  (.keep [2, 3, 4, 6] (.seq (.reg false [] [⟨.load true 1 (.t 2), some 44, none⟩,
    ⟨.faddr 6 (.t 3), some 45, none⟩,
    ⟨.faddr 0 (.t 45), some 46, none⟩,
    ⟨.load false 1 (.t 46), some 47, none⟩,
    ⟨.load true 3 (.t 6), some 48, none⟩,
    ⟨.call J7n [(.t 44), (.t 47), (.t 48)] 0, some 49, none⟩,
    ⟨.store 1 (.t 4) (.t 49), none, none⟩,
    ⟨.mv (.c (.p (.i .i64 0))), some 5, none⟩])
  (.ret))))))))
def J7H : AFn := ⟨2, 50, J24, [.cell 4 true 1, .tmp 5], false⟩
def J1F : Jt := .seq (.reg false [] [⟨.mv (.c (.p (.b false))), some 0, none⟩])
  (.seq (.reg false [] [⟨.call J4G [(.c (.p (.i .i64 2)))] 0, some 6, none⟩,
    ⟨.mv (.t 6), some 5, none⟩,
    ⟨.extr (.t 5) 0, some 7, none⟩,
    ⟨.extr (.t 5) 1, some 8, none⟩,
    ⟨.newbox (J5 default), some 1, none⟩,
    ⟨.store 1 (.t 1) (.t 7), none, none⟩,
    ⟨.mv (.t 8), some 2, none⟩])
  (.keep [1, 2] (.seq (.reg false [] [⟨.load true 1 (.t 1), some 10, none⟩,
    ⟨.build (Jf default) [(0, 1, (.c (.p (.i .i64 1))))], some 11, none⟩,
    ⟨.build (J4 default) [(0, 1, (.c (.p (.i .i64 9)))), (1, 1, (.c (.p (.i .i64 7)))), (5, 1, (.c (.p (.i .i64 5)))), (6, 6, (.t 11))], some 12, none⟩,
    ⟨.call J3i [(.t 10), (.t 12)] 0, some 13, none⟩,
    ⟨.mv (.t 13), some 9, none⟩,
    ⟨.extr (.t 9) 0, some 14, none⟩,
    ⟨.extr (.t 9) 1, some 15, none⟩,
    ⟨.store 1 (.t 1) (.t 14), none, none⟩,
    ⟨.mv (.t 15), some 3, none⟩])
  (.keep [1, 2, 3] (.seq (.reg false [] [⟨.load true 1 (.t 1), some 17, none⟩,
    ⟨.build (Jf default) [(0, 1, (.c (.p (.i .i64 1))))], some 18, none⟩,
    ⟨.build (J4 default) [(0, 1, (.c (.p (.i .i64 10)))), (1, 1, (.c (.p (.i .i64 7)))), (5, 1, (.c (.p (.i .i64 3)))), (6, 6, (.t 18))], some 19, none⟩,
    ⟨.call J3i [(.t 17), (.t 19)] 0, some 20, none⟩,
    ⟨.mv (.t 20), some 16, none⟩,
    ⟨.extr (.t 16) 0, some 21, none⟩,
    ⟨.extr (.t 16) 1, some 22, none⟩,
    ⟨.store 1 (.t 1) (.t 21), none, none⟩,
    ⟨.mv (.t 22), some 4, none⟩])
  (.keep [1, 2, 3, 4] (.seq (.reg false [] [⟨.mv (.t 2), some 23, none⟩,
    ⟨.bin .eql .plain (.t 23) (.c (.p (.i .i64 0))), some 24, none⟩,
    ⟨.mv (.t 24), some 25, none⟩,
    ⟨.mv (.t 3), some 26, some (25, true)⟩,
    ⟨.bin .eql .plain (.t 26) (.c (.p (.i .i64 0))), some 27, some (25, true)⟩,
    ⟨.pick (.t 25) (.t 27) (.c (.p (.b false))), some 28, none⟩,
    ⟨.mv (.t 28), some 29, none⟩,
    ⟨.mv (.t 4), some 30, some (29, true)⟩,
    ⟨.bin .eql .plain (.t 30) (.c (.p (.i .i64 0))), some 31, some (29, true)⟩,
    ⟨.pick (.t 29) (.t 31) (.c (.p (.b false))), some 32, none⟩,
    ⟨.mv (.t 32), some 33, none⟩,
    ⟨.faddr 0 (.t 1), some 34, some (33, true)⟩,
    ⟨.load false 1 (.t 34), some 35, some (33, true)⟩,
    ⟨.len false (.t 35), some 36, some (33, true)⟩,
    ⟨.bin .eql .plain (.t 36) (.c (.p (.i .i64 2))), some 37, some (33, true)⟩,
    ⟨.pick (.t 33) (.t 37) (.c (.p (.b false))), some 38, none⟩,
    ⟨.mv (.t 38), some 39, none⟩,
    ⟨.faddr 0 (.t 1), some 40, some (39, true)⟩,
    ⟨.load false 1 (.t 40), some 41, some (39, true)⟩,
    ⟨.iaddr 3 (.t 41) (.c (.p (.i .i64 1))), some 42, some (39, true)⟩,
    ⟨.faddr 0 (.t 42), some 43, some (39, true)⟩,
    ⟨.load false 1 (.t 43), some 44, some (39, true)⟩,
    ⟨.bin .eql .plain (.t 44) (.c (.p (.i .i64 5))), some 45, some (39, true)⟩,
    ⟨.pick (.t 39) (.t 45) (.c (.p (.b false))), some 46, none⟩,
    ⟨.mv (.t 46), some 0, none⟩])
  (.ret))))))))
def J6P : AFn := ⟨0, 47, J1F, [.tmp 0], false⟩
def J0h : Jt := .seq (.reg false [] [⟨.bin .lss .plain (.t 93) (.t 92), some 94, none⟩])
  (.seq (.cond (.t 94)
  (.skip)
  (.exit 2))
  (.seq (.block 3 (.seq (.reg false [] [⟨.iaddr 13 (.t 91) (.t 93), some 95, none⟩,
    ⟨.load true 13 (.t 95), some 96, none⟩,
    ⟨.newbox (J4 default), some 20, none⟩,
    ⟨.store 13 (.t 20) (.t 96), none, none⟩])
  (.keep [3, 4, 5, 6, 9, 15, 18, 20, 76, 77, 78, 91, 92, 93] (.seq (.reg false [] [⟨.load true 1 (.t 18), some 98, none⟩,
    ⟨.load true 13 (.t 20), some 99, none⟩,
    ⟨.call J3i [(.t 98), (.t 99)] 0, some 100, none⟩,
    ⟨.mv (.t 100), some 97, none⟩,
    ⟨.extr (.t 97) 0, some 101, none⟩,
    ⟨.extr (.t 97) 1, some 102, none⟩,
    ⟨.newbox (J5 default), some 21, none⟩,
    ⟨.store 1 (.t 21) (.t 101), none, none⟩,
    ⟨.mv (.t 102), some 22, none⟩])
  (.keep [3, 4, 5, 6, 9, 15, 18, 20, 21, 22, 76, 77, 78, 91, 92, 93] (.seq (.reg false [] [⟨.load true 1 (.t 18), some 104, none⟩,
    ⟨.load true 13 (.t 20), some 105, none⟩,
    ⟨.call J7K [(.t 104), (.t 105)] 0, some 106, none⟩,
    ⟨.mv (.t 106), some 103, none⟩,
    ⟨.extr (.t 103) 0, some 107, none⟩,
    ⟨.extr (.t 103) 1, some 108, none⟩,
    ⟨.newbox (J5 default), some 23, none⟩,
    ⟨.store 1 (.t 23) (.t 107), none, none⟩,
    ⟨.mv (.t 108), some 24, none⟩])
  (.keep [3, 4, 5, 6, 9, 15, 18, 21, 22, 23, 24, 76, 77, 78, 91, 92, 93] (.seq (.reg false [] [⟨.mv (.t 22), some 109, none⟩,
    ⟨.mv (.t 24), some 110, none⟩,
    ⟨.bin .neq .plain (.t 109) (.t 110), some 111, none⟩,
    ⟨.mv (.t 111), some 112, none⟩,
    ⟨.load true 1 (.t 21), some 113, some (112, false)⟩,
    ⟨.load true 1 (.t 23), some 114, some (112, false)⟩,
    ⟨.call J4J [(.t 113), (.t 114)] 0, some 115, some (112, false)⟩,
    ⟨.un .not (.t 115), some 116, some (112, false)⟩,
    ⟨.pick (.t 112) (.c (.p (.b true))) (.t 116), some 117, none⟩])
  (.keep [3, 4, 5, 6, 9, 15, 18, 76, 77, 78, 91, 92, 93, 117] (.cond (.t 117)
  (.seq (.reg false [] [⟨.mv (.c (.p (.b false))), some 14, none⟩])
    (.ret))
  (.skip)))))))))))
  (.reg false [] [⟨.bin .add .plain (.t 93) (.c (.p (.i .i64 1))), some 118, none⟩,
    ⟨.mv (.t 118), some 93, none⟩])))
def J0f : Jt := .seq (.reg false [] [⟨.bin .lss .plain (.t 136) (.t 135), some 137, none⟩])
  (.seq (.cond (.t 137)
  (.skip)
  (.exit 4))
  (.seq (.block 5 (.seq (.reg false [] [⟨.iaddr 3 (.t 134) (.t 136), some 138, none⟩,
    ⟨.load true 3 (.t 138), some 139, none⟩,
    ⟨.newbox (J1Q (r_i .i64) (Vector.replicate 3 (0 : Int))), some 26, none⟩,
    ⟨.store 3 (.t 26) (.t 139), none, none⟩])
  (.keep [3, 4, 5, 6, 9, 15, 18, 26, 76, 77, 78, 134, 135, 136] (.seq (.reg false [] [⟨.load true 1 (.t 18), some 141, none⟩,
    ⟨.aaddr 3 1 (.t 26) (.c (.p (.i .i64 0))), some 142, none⟩,
    ⟨.load false 1 (.t 142), some 143, none⟩,
    ⟨.aaddr 3 1 (.t 26) (.c (.p (.i .i64 1))), some 144, none⟩,
    ⟨.load false 1 (.t 144), some 145, none⟩,
    ⟨.aaddr 3 1 (.t 26) (.c (.p (.i .i64 2))), some 146, none⟩,
    ⟨.load false 1 (.t 146), some 147, none⟩,
    ⟨.call J3w [(.t 141), (.t 143), (.t 145), (.t 147)] 0, some 148, none⟩,
    ⟨.mv (.t 148), some 140, none⟩,
    ⟨.extr (.t 140) 0, some 149, none⟩,
    ⟨.extr (.t 140) 1, some 150, none⟩,
    ⟨.newbox (J5 default), some 27, none⟩,
    ⟨.store 1 (.t 27) (.t 149), none, none⟩,
    ⟨.mv (.t 150), some 28, none⟩])
  (.keep [3, 4, 5, 6, 9, 15, 18, 26, 27, 28, 76, 77, 78, 134, 135, 136] (.seq (.reg false [] [⟨.load true 1 (.t 18), some 152, none⟩,
    ⟨.aaddr 3 1 (.t 26) (.c (.p (.i .i64 0))), some 153, none⟩,
    ⟨.load false 1 (.t 153), some 154, none⟩,
    ⟨.aaddr 3 1 (.t 26) (.c (.p (.i .i64 1))), some 155, none⟩,
    ⟨.load false 1 (.t 155), some 156, none⟩,
    ⟨.aaddr 3 1 (.t 26) (.c (.p (.i .i64 2))), some 157, none⟩,
    ⟨.load false 1 (.t 157), some 158, none⟩,
    ⟨.call J5n [(.t 152), (.t 154), (.t 156), (.t 158)] 0, some 159, none⟩,
    ⟨.mv (.t 159), some 151, none⟩,
    ⟨.extr (.t 151) 0, some 160, none⟩,
    ⟨.extr (.t 151) 1, some 161, none⟩,
    ⟨.newbox (J5 default), some 29, none⟩,
    ⟨.store 1 (.t 29) (.t 160), none, none⟩,
    ⟨.mv (.t 161), some 30, none⟩])
  (.keep [3, 4, 5, 6, 9, 15, 18, 27, 28, 29, 30, 76, 77, 78, 134, 135, 136] (.seq (.reg false [] [⟨.mv (.t 28), some 162, none⟩,
    ⟨.mv (.t 30), some 163, none⟩,
    ⟨.bin .neq .plain (.t 162) (.t 163), some 164, none⟩,
    ⟨.mv (.t 164), some 165, none⟩,
    ⟨.load true 1 (.t 27), some 166, some (165, false)⟩,
    ⟨.load true 1 (.t 29), some 167, some (165, false)⟩,
    ⟨.call J4J [(.t 166), (.t 167)] 0, some 168, some (165, false)⟩,
    ⟨.un .not (.t 168), some 169, some (165, false)⟩,
    ⟨.pick (.t 165) (.c (.p (.b true))) (.t 169), some 170, none⟩])
  (.keep [3, 4, 5, 6, 9, 15, 18, 76, 77, 78, 134, 135, 136, 170] (.cond (.t 170)
  (.seq (.reg false [] [⟨.mv (.c (.p (.b false))), some 14, none⟩])
    (.ret))
  (.skip)))))))))))
  (.reg false [] [⟨.bin .add .plain (.t 136) (.c (.p (.i .i64 1))), some 171, none⟩,
    ⟨.mv (.t 171), some 136, none⟩])))
def J0g : Jt := .seq (.reg false [] [⟨.bin .lss .plain (.t 211) (.t 210), some 212, none⟩])
  (.seq (.cond (.t 212)
  (.skip)
  (.exit 6))
  (.seq (.block 7 (.seq (.reg false [] [⟨.iaddr 1 (.t 209) (.t 211), some 213, none⟩,
    ⟨.load false 1 (.t 213), some 214, none⟩,
    ⟨.mv (.t 214), some 36, none⟩])
  (.keep [3, 4, 5, 6, 9, 15, 36, 76, 77, 78, 209, 210, 211] (.seq (.reg false [] [⟨.mv (.t 36), some 216, none⟩,
    ⟨.call J4j [(.t 216)] 0, some 217, none⟩,
    ⟨.mv (.t 217), some 215, none⟩,
    ⟨.extr (.t 215) 0, some 218, none⟩,
    ⟨.extr (.t 215) 1, some 219, none⟩,
    ⟨.newbox (J5 default), some 37, none⟩,
    ⟨.store 1 (.t 37) (.t 218), none, none⟩,
    ⟨.mv (.t 219), some 38, none⟩])
  (.keep [3, 4, 5, 6, 9, 15, 36, 37, 38, 76, 77, 78, 209, 210, 211] (.seq (.reg false [] [⟨.mv (.t 36), some 221, none⟩,
    ⟨.call J6h [(.t 221)] 0, some 222, none⟩,
    ⟨.mv (.t 222), some 220, none⟩,
    ⟨.extr (.t 220) 0, some 223, none⟩,
    ⟨.extr (.t 220) 1, some 224, none⟩,
    ⟨.newbox (J5 default), some 39, none⟩,
    ⟨.store 1 (.t 39) (.t 223), none, none⟩,
    ⟨.mv (.t 224), some 40, none⟩])
  (.keep [3, 4, 5, 6, 9, 15, 37, 38, 39, 40, 76, 77, 78, 209, 210, 211] (.seq (.reg false [] [⟨.mv (.t 38), some 225, none⟩,
    ⟨.mv (.t 40), some 226, none⟩,
    ⟨.bin .neq .plain (.t 225) (.t 226), some 227, none⟩,
    ⟨.mv (.t 227), some 228, none⟩,
    ⟨.load true 1 (.t 37), some 229, some (228, false)⟩,
    ⟨.load true 1 (.t 39), some 230, some (228, false)⟩,
    ⟨.call J4J [(.t 229), (.t 230)] 0, some 231, some (228, false)⟩,
    ⟨.un .not (.t 231), some 232, some (228, false)⟩,
    ⟨.pick (.t 228) (.c (.p (.b true))) (.t 232), some 233, none⟩])
  (.keep [3, 4, 5, 6, 9, 15, 76, 77, 78, 209, 210, 211, 233] (.cond (.t 233)
  (.seq (.reg false [] [⟨.mv (.c (.p (.b false))), some 14, none⟩])
    (.ret))
  (.skip)))))))))))
  (.reg false [] [⟨.bin .add .plain (.t 211) (.c (.p (.i .i64 1))), some 234, none⟩,
    ⟨.mv (.t 234), some 211, none⟩])))
def J06 : Jt := .seq (.reg false [] [⟨.load true 1 (.t 18), some 173, none⟩,
    ⟨.call J4p [(.t 173)] 0, some 174, none⟩,
    ⟨.mv (.t 174), some 172, none⟩,
    ⟨.extr (.t 172) 0, some 175, none⟩,
    ⟨.extr (.t 172) 1, some 176, none⟩,
    ⟨.mv (.t 175), some 31, none⟩,
    ⟨.mv (.t 176), some 32, none⟩])
  (.keep [3, 4, 5, 6, 9, 15, 18, 31, 32, 76, 77, 78] (.seq (.reg false [] [⟨.load true 1 (.t 18), some 178, none⟩,
    ⟨.call J6p [(.t 178)] 0, some 179, none⟩,
    ⟨.mv (.t 179), some 177, none⟩,
    ⟨.extr (.t 177) 0, some 180, none⟩,
    ⟨.extr (.t 177) 1, some 181, none⟩,
    ⟨.mv (.t 180), some 33, none⟩,
    ⟨.mv (.t 181), some 34, none⟩])
  (.keep [3, 4, 5, 6, 9, 15, 18, 31, 32, 33, 34, 76, 77, 78] (.seq (.seq (.reg true [(10, 11)] [⟨.mv (.t 31), some 182, none⟩,
    ⟨.mv (.t 33), some 183, none⟩,
    ⟨.bin .neq .plain (.t 182) (.t 183), some 184, none⟩,
    ⟨.mv (.t 184), some 185, none⟩,
    ⟨.mv (.t 32), some 186, some (185, false)⟩,
    ⟨.mv (.t 34), some 187, some (185, false)⟩,
    ⟨.bin .neq .plain (.t 186) (.t 187), some 188, some (185, false)⟩,
    ⟨.pick (.t 185) (.c (.p (.b true))) (.t 188), some 189, none⟩,
    ⟨.mv (.t 189), some 190, none⟩,
    ⟨.load true 1 (.t 18), some 191, some (190, false)⟩,
    ⟨.call J1j [(.t 191)] 0, some 192, some (190, false)⟩,
    ⟨.load true 1 (.t 18), some 193, some (190, false)⟩,
    ⟨.call J2A [(.t 193)] 0, some 194, some (190, false)⟩,
    ⟨.bin .neq .bool (.t 192) (.t 194), some 195, some (190, false)⟩,
    ⟨.pick (.t 190) (.c (.p (.b true))) (.t 195), some 196, none⟩])
  (.keep [3, 4, 5, 6, 9, 15, 33, 76, 77, 78, 196] (.cond (.t 196)
  (.seq (.reg false [] [⟨.mv (.c (.p (.b false))), some 14, none⟩])
    (.ret))
  (.skip))))
  (.seq (.reg false [] [⟨.mv (.t 6), some 197, none⟩,
    ⟨.mv (.t 33), some 198, none⟩,
    ⟨.mv (.t 15), some 199, none⟩,
    ⟨.mv (.t 33), some 200, none⟩,
    ⟨.call J3S [(.t 199), (.t 200)] 0, some 201, none⟩,
    ⟨.mv (.t 33), some 202, none⟩,
    ⟨.mv (.t 15), some 203, none⟩,
    ⟨.mv (.t 33), some 204, none⟩,
    ⟨.len true (.t 204), some 205, none⟩,
    ⟨.bin .add .plain (.t 205) (.c (.p (.i .i64 1))), some 206, none⟩,
    ⟨.call J9 [(.t 203), (.t 206)] 0, some 207, none⟩,
    ⟨.slice .str (.t 202) none (some (.t 207)) none, some 208, none⟩,
    ⟨.lits false 1 4 [(.s [])] [(0, (.t 197)), (1, (.t 198)), (2, (.t 201)), (3, (.t 208))], some 209, none⟩,
    ⟨.len false (.t 209), some 210, none⟩,
    ⟨.mv (.c (.p (.i .i64 0))), some 211, none⟩])
  (.keep [3, 4, 5, 6, 9, 15, 76, 77, 78, 209, 210, 211] (.block 6 (.loop [3, 4, 5, 6, 9, 15, 76, 77, 78, 209, 210, 211] J0g))))))))
def J1z : Jt := .seq (.tidy [3, 4, 5, 6, 9, 14, 15, 18, 76, 77, 78] (.seq (.reg false [] [⟨.mv (.t 3), some 119, none⟩,
    ⟨.mv (.t 4), some 120, none⟩,
    ⟨.mv (.t 5), some 121, none⟩,
    ⟨.build (J1Q (r_i .i64) (Vector.replicate 3 (0 : Int))) [(0, 1, (.t 119)), (1, 1, (.t 120)), (2, 1, (.t 121))], some 122, none⟩,
    ⟨.mv (.t 15), some 123, none⟩,
    ⟨.call J9 [(.t 123), (.c (.p (.i .i64 6)))] 0, some 124, none⟩,
    ⟨.bin .sub .plain (.t 124) (.c (.p (.i .i64 1))), some 125, none⟩,
    ⟨.mv (.t 15), some 126, none⟩,
    ⟨.call J9 [(.t 126), (.c (.p (.i .i64 4)))] 0, some 127, none⟩,
    ⟨.mv (.t 15), some 128, none⟩,
    ⟨.call J9 [(.t 128), (.c (.p (.i .i64 30)))] 0, some 129, none⟩,
    ⟨.build (J1Q (r_i .i64) (Vector.replicate 3 (0 : Int))) [(0, 1, (.t 125)), (1, 1, (.t 127)), (2, 1, (.t 129))], some 130, none⟩,
    ⟨.mv (.t 15), some 131, none⟩,
    ⟨.call J9 [(.t 131), (.c (.p (.i .i64 2)))] 0, some 132, none⟩,
    ⟨.build (J1Q (r_i .i64) (Vector.replicate 3 (0 : Int))) [(0, 1, (.c (.p (.i .i64 0)))), (1, 1, (.c (.p (.i .i64 0)))), (2, 1, (.t 132))], some 133, none⟩,
    ⟨.lits false 3 3 (J1Q (r_i .i64) (Vector.replicate 3 (0 : Int))) [(0, (.t 122)), (1, (.t 130)), (2, (.t 133))], some 134, none⟩,
    ⟨.len false (.t 134), some 135, none⟩,
    ⟨.mv (.c (.p (.i .i64 0))), some 136, none⟩])
  (.keep [3, 4, 5, 6, 9, 15, 18, 76, 77, 78, 134, 135, 136] (.block 4 (.loop [3, 4, 5, 6, 9, 15, 18, 76, 77, 78, 134, 135, 136] J0f)))))
  (.keep [3, 4, 5, 6, 9, 15, 18, 76, 77, 78] J06)
def JQ : Jt := .reg false [] [⟨.bin .add .plain (.t 78) (.c (.p (.i .i64 1))), some 235, none⟩,
    ⟨.mv (.t 235), some 78, none⟩]
def JE : Jt := .seq (.reg false [] [⟨.bin .lss .plain (.t 78) (.t 77), some 79, none⟩])
  (.seq (.cond (.t 79)
  (.skip)
  (.exit 0))
  (.seq (.tidy [3, 4, 5, 6, 9, 14, 15, 76, 77, 78] (.block 1 (.seq (.reg false [] [⟨.iaddr 1 (.t 76) (.t 78), some 80, none⟩,
    ⟨.load true 1 (.t 80), some 81, none⟩,
    ⟨.newbox (J5 default), some 18, none⟩,
    ⟨.store 1 (.t 18) (.t 81), none, none⟩])
  (.keep [3, 4, 5, 6, 9, 15, 18, 76, 77, 78] (.seq (.tidy [3, 4, 5, 6, 9, 14, 15, 18, 76, 77, 78] (.seq (.reg true [(0, 2), (0, 4), (0, 6)] [⟨.load true 13 (.t 9), some 82, none⟩,
    ⟨.mv (.t 15), some 83, none⟩,
    ⟨.call J3c [(.t 83)] 0, some 84, none⟩,
    ⟨.mv (.t 15), some 85, none⟩,
    ⟨.call J9 [(.t 85), (.c (.p (.i .i64 59)))] 0, some 86, none⟩,
    ⟨.mv (.t 15), some 87, none⟩,
    ⟨.call J9 [(.t 87), (.c (.p (.i .i64 6)))] 0, some 88, none⟩,
    ⟨.build (Jf default) [(0, 1, (.t 88))], some 89, none⟩,
    ⟨.build (J4 default) [(0, 1, (.c (.p (.i .i64 60)))), (1, 1, (.c (.p (.i .i64 7)))), (5, 1, (.t 86)), (6, 6, (.t 89))], some 90, none⟩,
    ⟨.lits false 13 3 (J4 default) [(0, (.t 82)), (1, (.t 84)), (2, (.t 90))], some 91, none⟩,
    ⟨.len false (.t 91), some 92, none⟩,
    ⟨.mv (.c (.p (.i .i64 0))), some 93, none⟩])
  (.keep [3, 4, 5, 6, 9, 15, 18, 76, 77, 78, 91, 92, 93] (.block 2 (.loop [3, 4, 5, 6, 9, 15, 18, 76, 77, 78, 91, 92, 93] J0h)))))
  (.keep [3, 4, 5, 6, 9, 15, 18, 76, 77, 78] J1z))))))
  (.keep [3, 4, 5, 6, 9, 15, 76, 77, 78] JQ)))
def Jv : Jt := .seq (.reg false [] [⟨.mv (.t 3), some 237, none⟩,
    ⟨.call J4G [(.t 237)] 0, some 238, none⟩,
    ⟨.mv (.t 238), some 236, none⟩,
    ⟨.extr (.t 236) 0, some 239, none⟩,
    ⟨.extr (.t 236) 1, some 240, none⟩,
    ⟨.newbox (J5 default), some 41, none⟩,
    ⟨.store 1 (.t 41) (.t 239), none, none⟩,
    ⟨.mv (.t 240), some 42, none⟩])
  (.keep [3, 41, 42] (.seq (.reg false [] [⟨.mv (.t 3), some 242, none⟩,
    ⟨.callo J6c [] [(.t 242)] 1, some 243, none⟩,
    ⟨.mv (.t 243), some 241, none⟩,
    ⟨.extr (.t 241) 0, some 244, none⟩,
    ⟨.extr (.t 241) 1, some 245, none⟩,
    ⟨.newbox (J5 default), some 43, none⟩,
    ⟨.store 1 (.t 43) (.t 244), none, none⟩,
    ⟨.mv (.t 245), some 44, none⟩])
  (.keep [41, 42, 43, 44] (.seq (.reg false [] [⟨.mv (.t 42), some 246, none⟩,
    ⟨.mv (.t 44), some 247, none⟩,
    ⟨.bin .eql .plain (.t 246) (.t 247), some 248, none⟩,
    ⟨.mv (.t 248), some 249, none⟩,
    ⟨.load true 1 (.t 41), some 250, some (249, true)⟩,
    ⟨.load true 1 (.t 43), some 251, some (249, true)⟩,
    ⟨.call J4J [(.t 250), (.t 251)] 0, some 252, some (249, true)⟩,
    ⟨.pick (.t 249) (.t 252) (.c (.p (.b false))), some 253, none⟩,
    ⟨.mv (.t 253), some 14, none⟩])
  (.ret)))))
def J0i : Jt := .seq (.reg false [] [⟨.box 1 (.t 1), some 8, none⟩,
    ⟨.box 13 (.t 2), some 9, none⟩,
    ⟨.mv (.c (.p (.b false))), some 14, none⟩])
  (.keep [0, 3, 4, 5, 6, 8, 9] (.seq (.seq (.reg false [] [⟨.call J6H [] 0, some 45, none⟩,
    ⟨.un .not (.t 45), some 46, none⟩,
    ⟨.mv (.t 46), some 47, none⟩,
    ⟨.faddr 0 (.t 8), some 48, some (47, false)⟩,
    ⟨.load false 1 (.t 48), some 49, some (47, false)⟩,
    ⟨.len false (.t 49), some 50, some (47, false)⟩,
    ⟨.bin .gtr .plain (.t 50) (.c (.p (.i .i64 100))), some 51, some (47, false)⟩,
    ⟨.pick (.t 47) (.c (.p (.b true))) (.t 51), some 52, none⟩,
    ⟨.mv (.t 52), some 53, none⟩,
    ⟨.mv (.t 6), some 54, some (53, false)⟩,
    ⟨.len true (.t 54), some 55, some (53, false)⟩,
    ⟨.bin .gtr .plain (.t 55) (.c (.p (.i .i64 400))), some 56, some (53, false)⟩,
    ⟨.pick (.t 53) (.c (.p (.b true))) (.t 56), some 57, none⟩])
  (.keep [0, 3, 4, 5, 6, 8, 9, 57] (.cond (.t 57)
  (.seq (.reg false [] [⟨.faddr 0 (.t 8), some 58, none⟩,
      ⟨.load false 1 (.t 58), some 59, none⟩,
      ⟨.len false (.t 59), some 60, none⟩,
      ⟨.bin .gtr .plain (.t 60) (.c (.p (.i .i64 100))), some 61, none⟩,
      ⟨.mv (.t 61), some 62, none⟩,
      ⟨.mv (.t 6), some 63, some (62, false)⟩,
      ⟨.len true (.t 63), some 64, some (62, false)⟩,
      ⟨.bin .gtr .plain (.t 64) (.c (.p (.i .i64 400))), some 65, some (62, false)⟩,
      ⟨.pick (.t 62) (.c (.p (.b true))) (.t 65), some 66, none⟩,
      ⟨.mv (.t 66), some 14, none⟩])
    (.ret))
  (.skip))))
  (.seq (.reg false [] [⟨.mv (.t 0), some 67, none⟩,
    ⟨.call J8W [(.t 67), (.c (.p (.i .i64 120)))] 1, some 68, none⟩,
    ⟨.mv (.t 68), some 15, none⟩])
  (.keep [3, 4, 5, 6, 8, 9, 15] (.seq (.reg false [] [⟨.mv (.t 15), some 69, none⟩,
    ⟨.call J6T [(.t 69)] 0, some 70, none⟩,
    ⟨.newbox (J5 default), some 16, none⟩,
    ⟨.store 1 (.t 16) (.t 70), none, none⟩])
  (.keep [3, 4, 5, 6, 8, 9, 15, 16] (.seq (.tidy [3, 14] (.seq (.reg true [(0, 4), (1, 4)] [⟨.load true 1 (.t 8), some 71, none⟩,
    ⟨.load true 1 (.t 16), some 72, none⟩,
    ⟨.mv (.t 15), some 73, none⟩,
    ⟨.load true 1 (.t 16), some 74, none⟩,
    ⟨.call J7l [(.t 73), (.t 74)] 0, some 75, none⟩,
    ⟨.lits false 1 3 (J5 default) [(0, (.t 71)), (1, (.t 72)), (2, (.t 75))], some 76, none⟩,
    ⟨.len false (.t 76), some 77, none⟩,
    ⟨.mv (.c (.p (.i .i64 0))), some 78, none⟩])
  (.keep [3, 4, 5, 6, 9, 15, 76, 77, 78] (.block 0 (.loop [3, 4, 5, 6, 9, 15, 76, 77, 78] JE)))))
  (.keep [3] Jv))))))))
def JC : AFn := ⟨7, 254, J0i, [.tmp 14], false⟩
theorem JnF : J7V.res = [.tmp 4] ∧ J7V.fresh = false := ⟨rfl, rfl⟩
theorem J7r : J4U.res = [.tmp 4] ∧ J4U.fresh = false := ⟨rfl, rfl⟩
theorem Jbu : J3f.res = [.tmp 4] ∧ J3f.fresh = false := ⟨rfl, rfl⟩
theorem J6F : J3U.res = [.tmp 4] ∧ J3U.fresh = false := ⟨rfl, rfl⟩
theorem Ja6 : J5F.res = [.cell 2 true 1, .tmp 3] ∧ J5F.fresh = false := ⟨rfl, rfl⟩
theorem JcU : J8c.res = [.cell 2 true 1, .tmp 3] ∧ J8c.fresh = true := ⟨rfl, rfl⟩
theorem J9s : J5e.res = [.tmp 2] ∧ J5e.fresh = false := ⟨rfl, rfl⟩
theorem Jgv : J0Z.res = [.tmp 2] ∧ J0Z.fresh = false := ⟨rfl, rfl⟩
theorem JaW : J4K.res = [.tmp 4] ∧ J4K.fresh = false := ⟨rfl, rfl⟩
theorem Jmt : J8b.res = [.cell 6 true 1] ∧ J8b.fresh = false := ⟨rfl, rfl⟩
theorem J9S : J3x.res = [.tmp 2] ∧ J3x.fresh = false := ⟨rfl, rfl⟩
theorem Jh3 : J89.res = [.tmp 2] ∧ J89.fresh = false := ⟨rfl, rfl⟩
theorem JcM : J40.res = [.tmp 6] ∧ J40.fresh = false := ⟨rfl, rfl⟩
theorem J4z : J3m.res = [.tmp 2] ∧ J3m.fresh = false := ⟨rfl, rfl⟩
theorem J8g : J42.res = [.tmp 6, .tmp 7] ∧ J42.fresh = false := ⟨rfl, rfl⟩
theorem J8e : J3Y.res = [.tmp 6, .tmp 7] ∧ J3Y.fresh = false := ⟨rfl, rfl⟩
theorem Jb2 : J4S.res = [.cell 2 true 2] ∧ J4S.fresh = false := ⟨rfl, rfl⟩
theorem Jdd : J6l.res = [.tmp 4] ∧ J6l.fresh = false := ⟨rfl, rfl⟩
theorem Jko : J6X.res = [.cell 0 true 63] ∧ J6X.fresh = false := ⟨rfl, rfl⟩
theorem Jdp : J6j.res = [.tmp 4] ∧ J6j.fresh = false := ⟨rfl, rfl⟩
theorem J93 : J4M.res = [.tmp 2] ∧ J4M.fresh = false := ⟨rfl, rfl⟩
theorem JhO : J5m.res = [.tmp 2] ∧ J5m.fresh = false := ⟨rfl, rfl⟩
theorem Jlp : J7z.res = [.tmp 2] ∧ J7z.fresh = false := ⟨rfl, rfl⟩
theorem JbF : J5b.res = [.tmp 2] ∧ J5b.fresh = false := ⟨rfl, rfl⟩
theorem J9o : J57.res = [.tmp 2] ∧ J57.fresh = false := ⟨rfl, rfl⟩
theorem J6O : J71.res = [.tmp 2] ∧ J71.fresh = false := ⟨rfl, rfl⟩
theorem Jdy : J6g.res = [.tmp 2] ∧ J6g.fresh = false := ⟨rfl, rfl⟩
theorem J8D : J4n.res = [.tmp 2] ∧ J4n.fresh = false := ⟨rfl, rfl⟩
theorem Jkq : J1Z.res = [.cell 2 true 1] ∧ J1Z.fresh = false := ⟨rfl, rfl⟩
theorem J9b : J87.res = [.cell 4 true 1] ∧ J87.fresh = false := ⟨rfl, rfl⟩
theorem J63 : JS.res = [.tmp 4] ∧ JS.fresh = false := ⟨rfl, rfl⟩
theorem J8x : J0y.res = [.tmp 4] ∧ J0y.fresh = false := ⟨rfl, rfl⟩
theorem J97 : J4L.res = [.tmp 2] ∧ J4L.fresh = false := ⟨rfl, rfl⟩
theorem J5M : J2x.res = [.tmp 2] ∧ J2x.fresh = false := ⟨rfl, rfl⟩
theorem Jda : J31.res = [.tmp 5] ∧ J31.fresh = false := ⟨rfl, rfl⟩
theorem J5w : J17.res = [.cell 2 true 1, .tmp 3] ∧ J17.fresh = false := ⟨rfl, rfl⟩
theorem J7G : J28.res = [.cell 2 true 1, .tmp 3] ∧ J28.fresh = false := ⟨rfl, rfl⟩
theorem JeN : J3O.res = [.cell 2 true 6] ∧ J3O.fresh = false := ⟨rfl, rfl⟩
theorem J3k : J2z.res = [.cell 2 true 13, .tmp 3] ∧ J2z.fresh = false := ⟨rfl, rfl⟩
theorem J7C : J6n.res = [.tmp 2] ∧ J6n.fresh = false := ⟨rfl, rfl⟩
theorem J4i : J1J.res = [.cell 2 true 13] ∧ J1J.fresh = false := ⟨rfl, rfl⟩
theorem Jc8 : J2m.res = [] ∧ J2m.fresh = false := ⟨rfl, rfl⟩
theorem Jay : J3h.res = [.cell 6 true 1] ∧ J3h.fresh = false := ⟨rfl, rfl⟩
theorem J2q : J3r.res = [.cell 8 true 1, .tmp 9] ∧ J3r.fresh = false := ⟨rfl, rfl⟩
theorem J39 : J5j.res = [.cell 8 true 1, .tmp 9] ∧ J5j.fresh = false := ⟨rfl, rfl⟩
theorem JaF : J15.res = [.tmp 2, .tmp 3] ∧ J15.fresh = false := ⟨rfl, rfl⟩
theorem JdB : J25.res = [.tmp 2, .tmp 3] ∧ J25.fresh = false := ⟨rfl, rfl⟩
theorem JG : J0q.res = [.tmp 2] ∧ J0q.fresh = false := ⟨rfl, rfl⟩
theorem J5N : J6S.res = [.tmp 2] ∧ J6S.fresh = false := ⟨rfl, rfl⟩
theorem JeO : J3Q.res = [] ∧ J3Q.fresh = false := ⟨rfl, rfl⟩
theorem J6y : J5d.res = [.cell 4 true 1, .tmp 5] ∧ J5d.fresh = false := ⟨rfl, rfl⟩
theorem J8G : J7H.res = [.cell 4 true 1, .tmp 5] ∧ J7H.fresh = false := ⟨rfl, rfl⟩
theorem J82 : J6P.res = [.tmp 0] ∧ J6P.fresh = false := ⟨rfl, rfl⟩
theorem JV : JC.res = [.tmp 14] ∧ JC.fresh = false := ⟨rfl, rfl⟩
def fns : List (FuncId × AFn) := [(J8W, J7V), (J9, J4U), (J4J, J3f), (J3S, J3U), (J4G, J5F), (J6c, J8c), (J1S, J5e), (J2V, J0Z), (J3D, J4K), (J7n, J8b), (J14, J3x), (J4x, J89), (J5r, J40), (JW, J3m), (J7o, J42), (J5u, J3Y), (J2P, J4S), (J4g, J6l), (J5S, J6X), (J4s, J6j), (J3H, J4M), (JH, J5m), (J0m, J7z), (J1B, J5b), (J1x, J57), (J6J, J71), (J6k, J6g), (J3a, J4n), (J6T, J1Z), (J7l, J87), (J0L, JS), (J0z, J0y), (J1j, J4L), (J2A, J2x), (J05, J31), (J4j, J17), (J6h, J28), (J3W, J3O), (J6K, J2z), (J0C, J6n), (J3c, J1J), (J0l, J2m), (J1r, J3h), (J3w, J3r), (J5n, J5j), (J4p, J15), (J6p, J25), (J6N, J0q), (J6W, J6S), (J1e, J3Q), (J3i, J5d), (J7K, J7H), (J6H, J6P), (J5q, JC)]
def JkX : List (FuncId × Ja5) := [(J0I, J1H)]
def Jl2 : List (FuncId × (List AV → List Blk → Option Res)) := [(J47, JlJ)]
def lkF {α : Type} (f : FuncId) : List (FuncId × α) → Option α
  | [] => none
  | (g, a) :: r => if f = g then some a else lkF f r
def J2 (prims : FuncId → Option (List AV → List Blk → Option Res)) : J5V := fun f => Jtu (lkF f fns) (lkF f JkX) (lkF f Jl2) (prims f)
theorem Jo1 (p) : J2 p J8W = some (.fn J7V) := rfl
theorem Jgs (p) : J2 p J9 = some (.fn J4U) := rfl
theorem Jmf (p) : J2 p J4J = some (.fn J3f) := rfl
theorem JeX (p) : J2 p J3S = some (.fn J3U) := rfl
theorem JiG (p) : J2 p J4G = some (.fn J5F) := rfl
theorem Jmk (p) : J2 p J6c = some (.fn J8c) := rfl
theorem Jht (p) : J2 p J1S = some (.fn J5e) := rfl
theorem Jgw (p) : J2 p J2V = some (.fn J0Z) := rfl
theorem Jgz (p) : J2 p J3D = some (.fn J4K) := rfl
theorem JmO (p) : J2 p J7n = some (.fn J8b) := rfl
theorem JdX (p) : J2 p J14 = some (.fn J3x) := rfl
theorem Jmm (p) : J2 p J4x = some (.fn J89) := rfl
theorem JmS (p) : J2 p J5r = some (.fn J40) := rfl
theorem JdP (p) : J2 p JW = some (.fn J3m) := rfl
theorem Jmr (p) : J2 p J7o = some (.fn J42) := rfl
theorem JmQ (p) : J2 p J5u = some (.fn J3Y) := rfl
theorem JgI (p) : J2 p J2P = some (.fn J4S) := rfl
theorem Jjq (p) : J2 p J4g = some (.fn J6l) := rfl
theorem Jky (p) : J2 p J5S = some (.fn J6X) := rfl
theorem Jjy (p) : J2 p J4s = some (.fn J6j) := rfl
theorem Jgu (p) : J2 p J3H = some (.fn J4M) := rfl
theorem Jhp (p) : J2 p JH = some (.fn J5m) := rfl
theorem Jm0 (p) : J2 p J0m = some (.fn J7z) := rfl
theorem JhV (p) : J2 p J1B = some (.fn J5b) := rfl
theorem JhI (p) : J2 p J1x = some (.fn J57) := rfl
theorem JkF (p) : J2 p J6J = some (.fn J71) := rfl
theorem JiZ (p) : J2 p J6k = some (.fn J6g) := rfl
theorem Jfe (p) : J2 p J3a = some (.fn J4n) := rfl
theorem JkJ (p) : J2 p J6T = some (.fn J1Z) := rfl
theorem JmT (p) : J2 p J7l = some (.fn J87) := rfl
theorem J94 (p) : J2 p J0L = some (.fn JS) := rfl
theorem J8v (p) : J2 p J0z = some (.fn J0y) := rfl
theorem JgG (p) : J2 p J1j = some (.fn J4L) := rfl
theorem JkQ (p) : J2 p J2A = some (.fn J2x) := rfl
theorem Jdo (p) : J2 p J05 = some (.fn J31) := rfl
theorem JfL (p) : J2 p J4j = some (.fn J17) := rfl
theorem JjK (p) : J2 p J6h = some (.fn J28) := rfl
theorem JeR (p) : J2 p J3W = some (.fn J3O) := rfl
theorem Jku (p) : J2 p J6K = some (.fn J2z) := rfl
theorem Jjk (p) : J2 p J0C = some (.fn J6n) := rfl
theorem JfE (p) : J2 p J3c = some (.fn J1J) := rfl
theorem Jca (p) : J2 p J0l = some (.fn J2m) := rfl
theorem JaA (p) : J2 p J1r = some (.fn J3h) := rfl
theorem Je8 (p) : J2 p J3w = some (.fn J3r) := rfl
theorem Ji1 (p) : J2 p J5n = some (.fn J5j) := rfl
theorem JfO (p) : J2 p J4p = some (.fn J15) := rfl
theorem JjE (p) : J2 p J6p = some (.fn J25) := rfl
theorem Jkw (p) : J2 p J6N = some (.fn J0q) := rfl
theorem JkN (p) : J2 p J6W = some (.fn J6S) := rfl
theorem JeP (p) : J2 p J1e = some (.fn J3Q) := rfl
theorem Jhc (p) : J2 p J3i = some (.fn J5d) := rfl
theorem Jln (p) : J2 p J7K = some (.fn J7H) := rfl
theorem JkH (p) : J2 p J6H = some (.fn J6P) := rfl
theorem JcK (p) : J2 p J5q = some (.fn JC) := rfl
theorem J9R (p) : J2 p J0I = some (.fork J1H) := rfl
theorem Jmi (p) : J2 p J47 = some (.prim JlJ) := rfl
end Go.Am
end
