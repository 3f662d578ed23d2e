/-
  Parts of a proof: AmPrim, YteiakclfpfmigaaKTy, YteiakclfpfmigaaKFns, YteiakclfpfmigaaKS1.
-/
import Derived.Below
import Derived.Test.YteiakclfpfmigaaM1
import Derived.Test.YteiakclfpfmigaaM4
import Derived.Test.YteiakclfpfmigaaM5
import Derived.Test.YteiakclfpfmigaaM6
set_option linter.unusedSimpArgs false
set_option linter.unusedVariables false
section
set_option linter.unusedSimpArgs false
set_option linter.unusedVariables false
namespace Go.Am
open Go.RowKit
theorem JiP {σ : List Blk} {g : Gh} {w w' : World} (hi : Inv ⟨σ, g, w⟩) (hb : Below w.heap.size w w') :
    Inv ⟨σ, g, w'⟩ ∧ JU ⟨σ, g, w⟩ ⟨σ, g, w'⟩ := by
  have hk : ∀ (r : Nat) x, w.heap[r]? = some x → w'.heap[r]? = some x := fun r x h => by rw [hb.block r (J1L h)]; exact h
  have hc : ∀ r o v, J0h w r o = some v → J0h w' r o = some v := by
    intro r o v h
    have hr : r < w.heap.size := by
      unfold J0h at h
      split at h
      · rename_i hx; exact J1L hx
      · cases h
    unfold J0h at h ⊢
    rw [hb.block r hr]
    exact h
  have t : JU ⟨σ, g, w⟩ ⟨σ, g, w'⟩ := by
    refine ⟨⟨hb.size, fun r c e fz h => ⟨c, hk r _ h, rfl, fun _ _ => rfl⟩, fun r x h _ => hk r x h, hb.os, hb.output⟩, fun _ _ h => h, fun _ _ h => .inl h, fun r o ⟨b, hb⟩ => .inl ⟨b, hb⟩, Nat.le_refl _, fun _ cs h => ⟨⟨cs, h, rfl⟩, rfl⟩,
      fun _ wm _ rows h => ⟨wm, rows, h, id, Nat.le_refl _, fun _ => rfl⟩⟩
  exact ⟨J67 hi t (fun _ => False) (fun _ _ => ⟨rfl, rfl⟩) (fun _ r o v _ _ h => hc r o v h) (fun _ _ h => h.elim) (fun _ _ _ _ h => h.elim)
    (fun _ _ _ _ h => h.elim) (fun r o h => Nat.lt_of_lt_of_le (hi.const r o h).1 hb.size) (fun _ _ _ _ h => h.elim) (fun _ _ _ h h' => (h' h).elim), t⟩
def JcD : PV → Option Value
  | .b x => some (.bool x)
  | .i k n => some (.int k n)
  | .s l => some (.string ⟨l.toArray⟩)
  | _ => none
theorem JjS {x : PV} {v : Value} (h : JcD x = some v) (w : World) (C : Nat → Nat → Prop) : J01 w C x v := by
  cases x <;> simp only [JcD, Option.some.injEq, reduceCtorEq] at h <;> subst h
  · exact .b _
  · exact .i _ _
  · exact .s _
theorem Jlg {x : PV} {v v' : Value} {w : World} {C : Nat → Nat → Prop} (h : J01 w C x v) (hv : JcD x = some v') : v = v' := by
  cases x <;> simp only [JcD, Option.some.injEq, reduceCtorEq] at hv <;> subst hv <;> cases h <;> rfl
theorem JgQ {P : Program} {f : FuncId} {xs : List PV} {vs : List Value} {r : PV} {v : Value} {blks : List Blk}
    (hf : ∃ fn, P.funcs[f]? = some fn ∧ fn.body.isSome = true ∧ (fn.name == "runtime.NumGoroutine") = false)
    (hx : xs.mapM JcD = some vs) (hr : JcD r = some v)
    (hc : ∀ w, Calls P f vs.toArray w fun e w' => e = .returned v ∧ Below w.heap.size w w') :
    J6t P f (xs.map .p) blks (.p r, blks) := by
  refine ⟨hf, fun g w vals hi hl ha => ?_⟩
  have hvals : vals = vs.toArray := by
    have key : ∀ (xs : List PV) (vs vl : List Value), xs.mapM JcD = some vs → xs.length = vl.length →
        (∀ (i : Nat) x v, (xs.map AV.p)[i]? = some x → vl[i]? = some v → Jw ⟨blks, g, w⟩ x v) → vl = vs := by
      intro xs
      induction xs with
      | nil => intro vs vl h1 h2 _; simp at h1 h2; subst h1; exact List.length_eq_zero_iff.1 h2.symm
      | cons x r ih =>
        intro vs vl h1 h2 h3
        simp only [List.mapM_cons, Option.pure_def, Option.bind_eq_bind] at h1
        obtain ⟨v0, hv0, h1⟩ := Option.bind_eq_some_iff.1 h1
        obtain ⟨vr, hvr, h1⟩ := Option.bind_eq_some_iff.1 h1
        simp only [Option.some.injEq] at h1
        subst h1
        cases vl with
        | nil => simp at h2
        | cons u ur =>
          have := h3 0 (.p x) u rfl rfl
          cases this with
          | p _ _ hp =>
            rw [Jlg hp hv0, ih vr ur hvr (by simpa using h2) (fun i x v hx hv => h3 (i + 1) x v hx hv)]
    apply Array.ext'
    rw [key xs vs vals.toList hx (by simpa using hl) (fun i x v h1 h2 => ha i x v h1 (by simpa using h2))]
  subst hvals
  refine (hc w).mono ?_
  rintro e w' ⟨rfl, hb⟩
  obtain ⟨hi', t⟩ := JiP hi hb
  exact ⟨v, g, rfl, hi', t, .p _ _ (JjS hr _ _)⟩
theorem JlG {T : J3r} {f : FuncId} {g : List AV → List Blk → Option Res} (h : T f = some (.prim g)) (args blks) : AF T f args blks = g args blks := by
  unfold AF J6w; rw [h]
def Jmi (a : Option AFn) (k : Option J6B) (g q : Option (List AV → List Blk → Option Res)) : Option J5s :=
  match a with
  | some a => some (.fn a)
  | none => match k with
    | some k => some (.fork k)
    | none => match g with
      | some g => some (.prim g)
      | none => q.map .prim
theorem Ja0 {a : Option AFn} {k : Option J6B} {g q : Option (List AV → List Blk → Option Res)} {e : J5s} (h : Jmi a k g q = some e) :
    (∃ x, a = some x ∧ e = .fn x) ∨ (∃ x, k = some x ∧ e = .fork x) ∨ (∃ x, g = some x ∧ e = .prim x) ∨ (∃ x, q = some x ∧ e = .prim x) := by
  cases a with
  | some a => exact .inl ⟨a, rfl, by injection h with h; exact h.symm⟩
  | none =>
    cases k with
    | some k => exact .inr (.inl ⟨k, rfl, by injection h with h; exact h.symm⟩)
    | none =>
      cases g with
      | some g => exact .inr (.inr (.inl ⟨g, rfl, by injection h with h; exact h.symm⟩))
      | none =>
        cases q with
        | some q => exact .inr (.inr (.inr ⟨q, rfl, by injection h with h; exact h.symm⟩))
        | none => cases h
def J4N (n : Int) (i : Nat) : Int := IntKind.wrap .u8 ((IntKind.wrap .u64 n).fdiv (2 ^ (8 * i)))
def J0Z (n : Int) (k : Nat) : List UInt8 := toStr ((List.range k).map (J4N n))
def Je5 (l : List UInt8) (n size : Int) : Option (List UInt8) :=
  if size < 1 ∨ 8 < size then some l
  else if l.length + 8 ≤ 140737488355328 then some (l ++ J0Z n size.toNat) else none
def Jgd : List AV → List Blk → Option Res
  | [.p (.s l), .p (.i .i64 n), .p (.i .i64 k)], blks => (Je5 l n k).map fun r => (.p (.s r), blks)
  | _, _ => none
theorem JkI (x : Int) : 0 ≤ IntKind.wrap .u8 x ∧ IntKind.wrap .u8 x < 256 := by
  have h : IntKind.wrap .u8 x = x % 256 := rfl
  rw [h]; omega
theorem Jd3 (n : Int) (i : Nat) : ((UInt8.ofNat (J4N n i).toNat).toNat : Int) = J4N n i := by
  have h : 0 ≤ J4N n i ∧ J4N n i < 256 := JkI _
  have h2 : (J4N n i).toNat < 256 := by omega
  rw [UInt8.toNat_ofNat_of_lt' (by simpa using h2)]
  omega
theorem Jii (n : Int) (k : Nat) : J0Z n (k + 1) = J0Z n k ++ [UInt8.ofNat (J4N n k).toNat] := by
  simp [J0Z, toStr, List.range_succ]
theorem J1I (n : Int) (k : Nat) : (J0Z n k).length = k := by simp [J0Z, toStr]
theorem Jn9 (x y : Bool) : J0R [.b] [.b x] [.b y] = some (decide (x = y)) := by
  simp only [J0R, Ja7]
  cases x <;> cases y <;> rfl
theorem Jdx (k : IntKind) (x y : Int) : J0R [.i k] [.i k x] [.i k y] = some (decide (x = y)) := by
  by_cases h : x = y <;> simp [J0R, Ja7, h]
theorem JmY (x y : List UInt8) : J0R [.s] [.s x] [.s y] = some (decide (x = y)) := by
  by_cases h : x = y <;> simp [J0R, Ja7, h]
theorem J7O {p q : Prop} [Decidable p] [Decidable q] : ∀ {k1 k2 : List KD} {a1 a2 b1 b2 : List PV}, J0R k1 a1 b1 = some (decide p) → J0R k2 a2 b2 = some (decide q) → J0R (k1 ++ k2) (cat a1 a2) (cat b1 b2) = some (decide (p ∧ q)) := by
  have key : ∀ (k1 k2 : List KD) (a1 a2 b1 b2 : List PV) (r s : Bool), J0R k1 a1 b1 = some r → J0R k2 a2 b2 = some s → J0R (k1 ++ k2) (a1 ++ a2) (b1 ++ b2) = some (r && s) := by
    intro k1
    induction k1 with
    | nil =>
      intro k2 a1 a2 b1 b2 r s h1 h2
      cases a1 <;> cases b1 <;> simp [J0R] at h1
      subst h1
      simpa using h2
    | cons k ks ih =>
      intro k2 a1 a2 b1 b2 r s h1 h2
      cases a1 with
      | nil => simp [J0R] at h1
      | cons a a1 =>
        cases b1 with
        | nil => simp [J0R] at h1
        | cons b b1 =>
          simp only [J0R] at h1
          split at h1
          · rename_i u c hu hc
            injection h1 with h1
            subst h1
            simp only [List.cons_append, J0R, hu, ih _ _ _ _ _ _ _ hc h2, Bool.and_assoc]
          · cases h1
  intro k1 k2 a1 a2 b1 b2 h1 h2
  rw [key _ _ _ _ _ _ _ _ h1 h2, Bool.decide_and]
end Go.Am
end
section
namespace Go.Am
set_option maxRecDepth 8000
set_option maxHeartbeats 4000000
set_option linter.unusedSimpArgs false
set_option linter.unusedVariables false
structure T_api_Row where
  LSN : Int
  Image : Int
  ImageLSN : Int
  deriving DecidableEq
instance : Inhabited T_api_Row := ⟨⟨0, 0, 0⟩⟩
def J4 (x : T_api_Row) : List PV := (cat [.i .i64 x.LSN] (cat [.i .i64 x.Image] [.i .i64 x.ImageLSN]))
theorem J7c (x : T_api_Row) : (J4 x).length = 3 := by
  simp only [cat, J4, List.length_append, List.length_cons, List.length_nil]
theorem Jdk (x : T_api_Row) : sub (J4 x) 0 1 = some [.i .i64 x.LSN] := by unfold J4; exact J6F rfl
theorem Jdo (x : T_api_Row) (y : Int) : spl (J4 x) 0 [.i .i64 y] = some (J4 ⟨y, x.Image, x.ImageLSN⟩) := by unfold J4; exact J6v rfl
theorem JbA (x : T_api_Row) : sub (J4 x) 1 1 = some [.i .i64 x.Image] := by
  have e0 : J4 x = cat [.i .i64 x.LSN] (cat [.i .i64 x.Image] [.i .i64 x.ImageLSN]) := by unfold J4; simp only [cat, List.append_assoc]
  rw [e0]; exact J3g (by simp only [cat, List.length_append, List.length_cons, List.length_nil]) rfl
theorem JbP (x : T_api_Row) (y : Int) : spl (J4 x) 1 [.i .i64 y] = some (J4 ⟨x.LSN, y, x.ImageLSN⟩) := by
  have e0 : J4 x = cat [.i .i64 x.LSN] (cat [.i .i64 x.Image] [.i .i64 x.ImageLSN]) := by unfold J4; simp only [cat, List.append_assoc]
  have e1 : J4 ⟨x.LSN, y, x.ImageLSN⟩ = cat [.i .i64 x.LSN] (cat [.i .i64 y] [.i .i64 x.ImageLSN]) := by unfold J4; simp only [cat, List.append_assoc]
  rw [e0, e1]; exact J3f (by simp only [cat, List.length_append, List.length_cons, List.length_nil]) rfl
theorem Ja1 (x : T_api_Row) : sub (J4 x) 2 1 = some [.i .i64 x.ImageLSN] := by
  have e0 : J4 x = cat (cat [.i .i64 x.LSN] [.i .i64 x.Image]) [.i .i64 x.ImageLSN] := by unfold J4; simp only [cat, List.append_assoc]
  rw [e0]; exact J6K (by simp only [cat, List.length_append, List.length_cons, List.length_nil]) rfl
theorem Ja2 (x : T_api_Row) (y : Int) : spl (J4 x) 2 [.i .i64 y] = some (J4 ⟨x.LSN, x.Image, y⟩) := by
  have e0 : J4 x = cat (cat [.i .i64 x.LSN] [.i .i64 x.Image]) [.i .i64 x.ImageLSN] := by unfold J4; simp only [cat, List.append_assoc]
  have e1 : J4 ⟨x.LSN, x.Image, y⟩ = cat (cat [.i .i64 x.LSN] [.i .i64 x.Image]) [.i .i64 y] := by unfold J4; simp only [cat, List.append_assoc]
  rw [e0, e1]; exact J6x (by simp only [cat, List.length_append, List.length_cons, List.length_nil]) rfl
theorem Jgp : (default : T_api_Row) = (⟨0, 0, 0⟩ : T_api_Row) := rfl
theorem JfB (x : T_api_Row) : sub (J4 x) 0 3 = some (J4 x) := J9c (J7c x)
theorem Jfe (x y : T_api_Row) : spl (J4 x) 0 (J4 y) = some (J4 y) := J9o ((J7c x).trans (J7c y).symm)
theorem Je : (∀ x : T_api_Row, (J4 x).length = 3) ∧
  (∀ x : T_api_Row, sub (J4 x) 0 1 = some [.i .i64 x.LSN]) ∧
  (∀ (x : T_api_Row) (y : Int), spl (J4 x) 0 [.i .i64 y] = some (J4 ⟨y, x.Image, x.ImageLSN⟩)) ∧
  (∀ x : T_api_Row, sub (J4 x) 1 1 = some [.i .i64 x.Image]) ∧
  (∀ (x : T_api_Row) (y : Int), spl (J4 x) 1 [.i .i64 y] = some (J4 ⟨x.LSN, y, x.ImageLSN⟩)) ∧
  (∀ x : T_api_Row, sub (J4 x) 2 1 = some [.i .i64 x.ImageLSN]) ∧
  (∀ (x : T_api_Row) (y : Int), spl (J4 x) 2 [.i .i64 y] = some (J4 ⟨x.LSN, x.Image, y⟩)) ∧
  ((default : T_api_Row) = (⟨0, 0, 0⟩ : T_api_Row)) ∧
  (∀ x : T_api_Row, sub (J4 x) 0 3 = some (J4 x)) ∧
  (∀ x y : T_api_Row, spl (J4 x) 0 (J4 y) = some (J4 y)) :=
  ⟨@J7c, @Jdk, @Jdo, @JbA, @JbP, @Ja1, @Ja2, Jgp, @JfB, @Jfe⟩
theorem Ju : (∀ x : T_api_Row, J4 x = (cat [.i .i64 x.LSN] (cat [.i .i64 x.Image] [.i .i64 x.ImageLSN]))) ∧ (default : T_api_Row) = (⟨0, 0, 0⟩ : T_api_Row) := ⟨fun _ => rfl, rfl⟩
structure T_api_Index where
  Rows : List T_api_Row
  deriving DecidableEq
instance : Inhabited T_api_Index := ⟨⟨[]⟩⟩
def Ja (x : T_api_Index) : List PV := [.sl 3 (List.map J4 x.Rows)]
theorem J1 : (∀ x : T_api_Index, Ja x = [.sl 3 (List.map J4 x.Rows)]) ∧ (default : T_api_Index) = (⟨[]⟩ : T_api_Index) := ⟨fun _ => rfl, rfl⟩
structure Jg where
  Set : Bool
  Data : List UInt8
  deriving DecidableEq
instance : Inhabited Jg := ⟨⟨false, []⟩⟩
def Jj (x : Jg) : List PV := (cat [.b x.Set] [.s x.Data])
theorem J0H (x : Jg) : (Jj x).length = 2 := by
  simp only [cat, Jj, List.length_append, List.length_cons, List.length_nil]
theorem Jcy (x : Jg) : sub (Jj x) 0 1 = some [.b x.Set] := by unfold Jj; exact J6F rfl
theorem Jcv (x : Jg) (y : Bool) : spl (Jj x) 0 [.b y] = some (Jj ⟨y, x.Data⟩) := by unfold Jj; exact J6v rfl
theorem JbG (x : Jg) : sub (Jj x) 1 1 = some [.s x.Data] := by
  have e0 : Jj x = cat [.b x.Set] [.s x.Data] := by unfold Jj; simp only [cat, List.append_assoc]
  rw [e0]; exact J6K (by simp only [cat, List.length_append, List.length_cons, List.length_nil]) rfl
theorem Jbx (x : Jg) (y : List UInt8) : spl (Jj x) 1 [.s y] = some (Jj ⟨x.Set, y⟩) := by
  have e0 : Jj x = cat [.b x.Set] [.s x.Data] := by unfold Jj; simp only [cat, List.append_assoc]
  have e1 : Jj ⟨x.Set, y⟩ = cat [.b x.Set] [.s y] := by unfold Jj; simp only [cat, List.append_assoc]
  rw [e0, e1]; exact J6x (by simp only [cat, List.length_append, List.length_cons, List.length_nil]) rfl
theorem Jfr : (default : Jg) = (⟨false, []⟩ : Jg) := rfl
theorem JeL (x : Jg) : sub (Jj x) 0 2 = some (Jj x) := J9c (J0H x)
theorem JeU (x y : Jg) : spl (Jj x) 0 (Jj y) = some (Jj y) := J9o ((J0H x).trans (J0H y).symm)
theorem Jk : (∀ x : Jg, (Jj x).length = 2) ∧
  (∀ x : Jg, sub (Jj x) 0 1 = some [.b x.Set]) ∧
  (∀ (x : Jg) (y : Bool), spl (Jj x) 0 [.b y] = some (Jj ⟨y, x.Data⟩)) ∧
  (∀ x : Jg, sub (Jj x) 1 1 = some [.s x.Data]) ∧
  (∀ (x : Jg) (y : List UInt8), spl (Jj x) 1 [.s y] = some (Jj ⟨x.Set, y⟩)) ∧
  ((default : Jg) = (⟨false, []⟩ : Jg)) ∧
  (∀ x : Jg, sub (Jj x) 0 2 = some (Jj x)) ∧
  (∀ x y : Jg, spl (Jj x) 0 (Jj y) = some (Jj y)) :=
  ⟨@J0H, @Jcy, @Jcv, @JbG, @Jbx, Jfr, @JeL, @JeU⟩
theorem J9 : (∀ x : Jg, Jj x = (cat [.b x.Set] [.s x.Data])) ∧ (default : Jg) = (⟨false, []⟩ : Jg) := ⟨fun _ => rfl, rfl⟩
structure Jf where
  Page : Int
  Slot : Int
  Before : Jg
  After : Jg
  deriving DecidableEq
instance : Inhabited Jf := ⟨⟨0, 0, (⟨false, []⟩ : Jg), (⟨false, []⟩ : Jg)⟩⟩
def J8 (x : Jf) : List PV := (cat [.i .i64 x.Page] (cat [.i .i64 x.Slot] (cat (Jj x.Before) (Jj x.After))))
theorem JY (x : Jf) : (J8 x).length = 6 := by
  simp only [cat, J8, J0H, List.length_append, List.length_cons, List.length_nil]
theorem J5q (x : Jf) : sub (J8 x) 0 1 = some [.i .i64 x.Page] := by unfold J8; exact J6F rfl
theorem Jas (x : Jf) (y : Int) : spl (J8 x) 0 [.i .i64 y] = some (J8 ⟨y, x.Slot, x.Before, x.After⟩) := by unfold J8; exact J6v rfl
theorem Jan (x : Jf) : sub (J8 x) 1 1 = some [.i .i64 x.Slot] := by
  have e0 : J8 x = cat [.i .i64 x.Page] (cat [.i .i64 x.Slot] (cat (Jj x.Before) (Jj x.After))) := by unfold J8; simp only [cat, List.append_assoc]
  rw [e0]; exact J3g (by simp only [cat, List.length_append, List.length_cons, List.length_nil, J0H]) rfl
theorem Jao (x : Jf) (y : Int) : spl (J8 x) 1 [.i .i64 y] = some (J8 ⟨x.Page, y, x.Before, x.After⟩) := by
  have e0 : J8 x = cat [.i .i64 x.Page] (cat [.i .i64 x.Slot] (cat (Jj x.Before) (Jj x.After))) := by unfold J8; simp only [cat, List.append_assoc]
  have e1 : J8 ⟨x.Page, y, x.Before, x.After⟩ = cat [.i .i64 x.Page] (cat [.i .i64 y] (cat (Jj x.Before) (Jj x.After))) := by unfold J8; simp only [cat, List.append_assoc]
  rw [e0, e1]; exact J3f (by simp only [cat, List.length_append, List.length_cons, List.length_nil, J0H]) rfl
theorem J9g (x : Jf) : sub (J8 x) 2 2 = some (Jj x.Before) := by
  have e0 : J8 x = cat (cat [.i .i64 x.Page] [.i .i64 x.Slot]) (cat (Jj x.Before) (Jj x.After)) := by unfold J8; simp only [cat, List.append_assoc]
  rw [e0]; exact J3g (by simp only [cat, List.length_append, List.length_cons, List.length_nil, J0H]) (J0H _)
theorem J9i (x : Jf) (y : Jg) : spl (J8 x) 2 (Jj y) = some (J8 ⟨x.Page, x.Slot, y, x.After⟩) := by
  have e0 : J8 x = cat (cat [.i .i64 x.Page] [.i .i64 x.Slot]) (cat (Jj x.Before) (Jj x.After)) := by unfold J8; simp only [cat, List.append_assoc]
  have e1 : J8 ⟨x.Page, x.Slot, y, x.After⟩ = cat (cat [.i .i64 x.Page] [.i .i64 x.Slot]) (cat (Jj y) (Jj x.After)) := by unfold J8; simp only [cat, List.append_assoc]
  rw [e0, e1]; exact J3f (by simp only [cat, List.length_append, List.length_cons, List.length_nil, J0H]) ((J0H _).trans (J0H _).symm)
theorem Jab (x : Jf) : sub (J8 x) 4 2 = some (Jj x.After) := by
  have e0 : J8 x = cat (cat [.i .i64 x.Page] (cat [.i .i64 x.Slot] (Jj x.Before))) (Jj x.After) := by unfold J8; simp only [cat, List.append_assoc]
  rw [e0]; exact J6K (by simp only [cat, List.length_append, List.length_cons, List.length_nil, J0H]) (J0H _)
theorem Ja4 (x : Jf) (y : Jg) : spl (J8 x) 4 (Jj y) = some (J8 ⟨x.Page, x.Slot, x.Before, y⟩) := by
  have e0 : J8 x = cat (cat [.i .i64 x.Page] (cat [.i .i64 x.Slot] (Jj x.Before))) (Jj x.After) := by unfold J8; simp only [cat, List.append_assoc]
  have e1 : J8 ⟨x.Page, x.Slot, x.Before, y⟩ = cat (cat [.i .i64 x.Page] (cat [.i .i64 x.Slot] (Jj x.Before))) (Jj y) := by unfold J8; simp only [cat, List.append_assoc]
  rw [e0, e1]; exact J6x (by simp only [cat, List.length_append, List.length_cons, List.length_nil, J0H]) ((J0H _).trans (J0H _).symm)
theorem JdM : (default : Jf) = (⟨0, 0, (⟨false, []⟩ : Jg), (⟨false, []⟩ : Jg)⟩ : Jf) := rfl
theorem JcY (x : Jf) : sub (J8 x) 0 6 = some (J8 x) := J9c (JY x)
theorem Jdu (x y : Jf) : spl (J8 x) 0 (J8 y) = some (J8 y) := J9o ((JY x).trans (JY y).symm)
theorem Jh : (∀ x : Jf, (J8 x).length = 6) ∧
  (∀ x : Jf, sub (J8 x) 0 1 = some [.i .i64 x.Page]) ∧
  (∀ (x : Jf) (y : Int), spl (J8 x) 0 [.i .i64 y] = some (J8 ⟨y, x.Slot, x.Before, x.After⟩)) ∧
  (∀ x : Jf, sub (J8 x) 1 1 = some [.i .i64 x.Slot]) ∧
  (∀ (x : Jf) (y : Int), spl (J8 x) 1 [.i .i64 y] = some (J8 ⟨x.Page, y, x.Before, x.After⟩)) ∧
  (∀ x : Jf, sub (J8 x) 2 2 = some (Jj x.Before)) ∧
  (∀ (x : Jf) (y : Jg), spl (J8 x) 2 (Jj y) = some (J8 ⟨x.Page, x.Slot, y, x.After⟩)) ∧
  (∀ x : Jf, sub (J8 x) 4 2 = some (Jj x.After)) ∧
  (∀ (x : Jf) (y : Jg), spl (J8 x) 4 (Jj y) = some (J8 ⟨x.Page, x.Slot, x.Before, y⟩)) ∧
  ((default : Jf) = (⟨0, 0, (⟨false, []⟩ : Jg), (⟨false, []⟩ : Jg)⟩ : Jf)) ∧
  (∀ x : Jf, sub (J8 x) 0 6 = some (J8 x)) ∧
  (∀ x y : Jf, spl (J8 x) 0 (J8 y) = some (J8 y)) :=
  ⟨@JY, @J5q, @Jas, @Jan, @Jao, @J9g, @J9i, @Jab, @Ja4, JdM, @JcY, @Jdu⟩
theorem J5 : (∀ x : Jf, J8 x = (cat [.i .i64 x.Page] (cat [.i .i64 x.Slot] (cat (Jj x.Before) (Jj x.After))))) ∧ (default : Jf) = (⟨0, 0, (⟨false, []⟩ : Jg), (⟨false, []⟩ : Jg)⟩ : Jf) := ⟨fun _ => rfl, rfl⟩
structure J6 where
  LSN : Int
  Kind : Int
  Tx : Int
  PrevTx : Int
  PrevPage : Int
  Ref : Int
  Change : Jf
  Blob : List UInt8
  deriving DecidableEq
instance : Inhabited J6 := ⟨⟨0, 0, 0, 0, 0, 0, (⟨0, 0, (⟨false, []⟩ : Jg), (⟨false, []⟩ : Jg)⟩ : Jf), []⟩⟩
def J2 (x : J6) : List PV := (cat [.i .i64 x.LSN] (cat [.i .i64 x.Kind] (cat [.i .i64 x.Tx] (cat [.i .i64 x.PrevTx] (cat [.i .i64 x.PrevPage] (cat [.i .i64 x.Ref] (cat (J8 x.Change) [.s x.Blob])))))))
theorem J6f (x : J6) : (J2 x).length = 13 := by
  simp only [cat, J2, JY, List.length_append, List.length_cons, List.length_nil]
theorem Jbw (x : J6) : sub (J2 x) 0 1 = some [.i .i64 x.LSN] := by unfold J2; exact J6F rfl
theorem JbK (x : J6) (y : Int) : spl (J2 x) 0 [.i .i64 y] = some (J2 ⟨y, x.Kind, x.Tx, x.PrevTx, x.PrevPage, x.Ref, x.Change, x.Blob⟩) := by unfold J2; exact J6v rfl
theorem JaV (x : J6) : sub (J2 x) 1 1 = some [.i .i64 x.Kind] := by
  have e0 : J2 x = cat [.i .i64 x.LSN] (cat [.i .i64 x.Kind] (cat [.i .i64 x.Tx] (cat [.i .i64 x.PrevTx] (cat [.i .i64 x.PrevPage] (cat [.i .i64 x.Ref] (cat (J8 x.Change) [.s x.Blob])))))) := by unfold J2; simp only [cat, List.append_assoc]
  rw [e0]; exact J3g (by simp only [cat, List.length_append, List.length_cons, List.length_nil, JY]) rfl
theorem Jau (x : J6) (y : Int) : spl (J2 x) 1 [.i .i64 y] = some (J2 ⟨x.LSN, y, x.Tx, x.PrevTx, x.PrevPage, x.Ref, x.Change, x.Blob⟩) := by
  have e0 : J2 x = cat [.i .i64 x.LSN] (cat [.i .i64 x.Kind] (cat [.i .i64 x.Tx] (cat [.i .i64 x.PrevTx] (cat [.i .i64 x.PrevPage] (cat [.i .i64 x.Ref] (cat (J8 x.Change) [.s x.Blob])))))) := by unfold J2; simp only [cat, List.append_assoc]
  have e1 : J2 ⟨x.LSN, y, x.Tx, x.PrevTx, x.PrevPage, x.Ref, x.Change, x.Blob⟩ = cat [.i .i64 x.LSN] (cat [.i .i64 y] (cat [.i .i64 x.Tx] (cat [.i .i64 x.PrevTx] (cat [.i .i64 x.PrevPage] (cat [.i .i64 x.Ref] (cat (J8 x.Change) [.s x.Blob])))))) := by unfold J2; simp only [cat, List.append_assoc]
  rw [e0, e1]; exact J3f (by simp only [cat, List.length_append, List.length_cons, List.length_nil, JY]) rfl
theorem Jcq (x : J6) : sub (J2 x) 2 1 = some [.i .i64 x.Tx] := by
  have e0 : J2 x = cat (cat [.i .i64 x.LSN] [.i .i64 x.Kind]) (cat [.i .i64 x.Tx] (cat [.i .i64 x.PrevTx] (cat [.i .i64 x.PrevPage] (cat [.i .i64 x.Ref] (cat (J8 x.Change) [.s x.Blob]))))) := by unfold J2; simp only [cat, List.append_assoc]
  rw [e0]; exact J3g (by simp only [cat, List.length_append, List.length_cons, List.length_nil, JY]) rfl
theorem Jc9 (x : J6) (y : Int) : spl (J2 x) 2 [.i .i64 y] = some (J2 ⟨x.LSN, x.Kind, y, x.PrevTx, x.PrevPage, x.Ref, x.Change, x.Blob⟩) := by
  have e0 : J2 x = cat (cat [.i .i64 x.LSN] [.i .i64 x.Kind]) (cat [.i .i64 x.Tx] (cat [.i .i64 x.PrevTx] (cat [.i .i64 x.PrevPage] (cat [.i .i64 x.Ref] (cat (J8 x.Change) [.s x.Blob]))))) := by unfold J2; simp only [cat, List.append_assoc]
  have e1 : J2 ⟨x.LSN, x.Kind, y, x.PrevTx, x.PrevPage, x.Ref, x.Change, x.Blob⟩ = cat (cat [.i .i64 x.LSN] [.i .i64 x.Kind]) (cat [.i .i64 y] (cat [.i .i64 x.PrevTx] (cat [.i .i64 x.PrevPage] (cat [.i .i64 x.Ref] (cat (J8 x.Change) [.s x.Blob]))))) := by unfold J2; simp only [cat, List.append_assoc]
  rw [e0, e1]; exact J3f (by simp only [cat, List.length_append, List.length_cons, List.length_nil, JY]) rfl
theorem J9G (x : J6) : sub (J2 x) 3 1 = some [.i .i64 x.PrevTx] := by
  have e0 : J2 x = cat (cat [.i .i64 x.LSN] (cat [.i .i64 x.Kind] [.i .i64 x.Tx])) (cat [.i .i64 x.PrevTx] (cat [.i .i64 x.PrevPage] (cat [.i .i64 x.Ref] (cat (J8 x.Change) [.s x.Blob])))) := by unfold J2; simp only [cat, List.append_assoc]
  rw [e0]; exact J3g (by simp only [cat, List.length_append, List.length_cons, List.length_nil, JY]) rfl
theorem J9z (x : J6) (y : Int) : spl (J2 x) 3 [.i .i64 y] = some (J2 ⟨x.LSN, x.Kind, x.Tx, y, x.PrevPage, x.Ref, x.Change, x.Blob⟩) := by
  have e0 : J2 x = cat (cat [.i .i64 x.LSN] (cat [.i .i64 x.Kind] [.i .i64 x.Tx])) (cat [.i .i64 x.PrevTx] (cat [.i .i64 x.PrevPage] (cat [.i .i64 x.Ref] (cat (J8 x.Change) [.s x.Blob])))) := by unfold J2; simp only [cat, List.append_assoc]
  have e1 : J2 ⟨x.LSN, x.Kind, x.Tx, y, x.PrevPage, x.Ref, x.Change, x.Blob⟩ = cat (cat [.i .i64 x.LSN] (cat [.i .i64 x.Kind] [.i .i64 x.Tx])) (cat [.i .i64 y] (cat [.i .i64 x.PrevPage] (cat [.i .i64 x.Ref] (cat (J8 x.Change) [.s x.Blob])))) := by unfold J2; simp only [cat, List.append_assoc]
  rw [e0, e1]; exact J3f (by simp only [cat, List.length_append, List.length_cons, List.length_nil, JY]) rfl
theorem J8R (x : J6) : sub (J2 x) 4 1 = some [.i .i64 x.PrevPage] := by
  have e0 : J2 x = cat (cat [.i .i64 x.LSN] (cat [.i .i64 x.Kind] (cat [.i .i64 x.Tx] [.i .i64 x.PrevTx]))) (cat [.i .i64 x.PrevPage] (cat [.i .i64 x.Ref] (cat (J8 x.Change) [.s x.Blob]))) := by unfold J2; simp only [cat, List.append_assoc]
  rw [e0]; exact J3g (by simp only [cat, List.length_append, List.length_cons, List.length_nil, JY]) rfl
theorem J8W (x : J6) (y : Int) : spl (J2 x) 4 [.i .i64 y] = some (J2 ⟨x.LSN, x.Kind, x.Tx, x.PrevTx, y, x.Ref, x.Change, x.Blob⟩) := by
  have e0 : J2 x = cat (cat [.i .i64 x.LSN] (cat [.i .i64 x.Kind] (cat [.i .i64 x.Tx] [.i .i64 x.PrevTx]))) (cat [.i .i64 x.PrevPage] (cat [.i .i64 x.Ref] (cat (J8 x.Change) [.s x.Blob]))) := by unfold J2; simp only [cat, List.append_assoc]
  have e1 : J2 ⟨x.LSN, x.Kind, x.Tx, x.PrevTx, y, x.Ref, x.Change, x.Blob⟩ = cat (cat [.i .i64 x.LSN] (cat [.i .i64 x.Kind] (cat [.i .i64 x.Tx] [.i .i64 x.PrevTx]))) (cat [.i .i64 y] (cat [.i .i64 x.Ref] (cat (J8 x.Change) [.s x.Blob]))) := by unfold J2; simp only [cat, List.append_assoc]
  rw [e0, e1]; exact J3f (by simp only [cat, List.length_append, List.length_cons, List.length_nil, JY]) rfl
theorem Jby (x : J6) : sub (J2 x) 5 1 = some [.i .i64 x.Ref] := by
  have e0 : J2 x = cat (cat [.i .i64 x.LSN] (cat [.i .i64 x.Kind] (cat [.i .i64 x.Tx] (cat [.i .i64 x.PrevTx] [.i .i64 x.PrevPage])))) (cat [.i .i64 x.Ref] (cat (J8 x.Change) [.s x.Blob])) := by unfold J2; simp only [cat, List.append_assoc]
  rw [e0]; exact J3g (by simp only [cat, List.length_append, List.length_cons, List.length_nil, JY]) rfl
theorem Jbv (x : J6) (y : Int) : spl (J2 x) 5 [.i .i64 y] = some (J2 ⟨x.LSN, x.Kind, x.Tx, x.PrevTx, x.PrevPage, y, x.Change, x.Blob⟩) := by
  have e0 : J2 x = cat (cat [.i .i64 x.LSN] (cat [.i .i64 x.Kind] (cat [.i .i64 x.Tx] (cat [.i .i64 x.PrevTx] [.i .i64 x.PrevPage])))) (cat [.i .i64 x.Ref] (cat (J8 x.Change) [.s x.Blob])) := by unfold J2; simp only [cat, List.append_assoc]
  have e1 : J2 ⟨x.LSN, x.Kind, x.Tx, x.PrevTx, x.PrevPage, y, x.Change, x.Blob⟩ = cat (cat [.i .i64 x.LSN] (cat [.i .i64 x.Kind] (cat [.i .i64 x.Tx] (cat [.i .i64 x.PrevTx] [.i .i64 x.PrevPage])))) (cat [.i .i64 y] (cat (J8 x.Change) [.s x.Blob])) := by unfold J2; simp only [cat, List.append_assoc]
  rw [e0, e1]; exact J3f (by simp only [cat, List.length_append, List.length_cons, List.length_nil, JY]) rfl
theorem J55 (x : J6) : sub (J2 x) 6 6 = some (J8 x.Change) := by
  have e0 : J2 x = cat (cat [.i .i64 x.LSN] (cat [.i .i64 x.Kind] (cat [.i .i64 x.Tx] (cat [.i .i64 x.PrevTx] (cat [.i .i64 x.PrevPage] [.i .i64 x.Ref]))))) (cat (J8 x.Change) [.s x.Blob]) := by unfold J2; simp only [cat, List.append_assoc]
  rw [e0]; exact J3g (by simp only [cat, List.length_append, List.length_cons, List.length_nil, JY]) (JY _)
theorem J9C (x : J6) (y : Jf) : spl (J2 x) 6 (J8 y) = some (J2 ⟨x.LSN, x.Kind, x.Tx, x.PrevTx, x.PrevPage, x.Ref, y, x.Blob⟩) := by
  have e0 : J2 x = cat (cat [.i .i64 x.LSN] (cat [.i .i64 x.Kind] (cat [.i .i64 x.Tx] (cat [.i .i64 x.PrevTx] (cat [.i .i64 x.PrevPage] [.i .i64 x.Ref]))))) (cat (J8 x.Change) [.s x.Blob]) := by unfold J2; simp only [cat, List.append_assoc]
  have e1 : J2 ⟨x.LSN, x.Kind, x.Tx, x.PrevTx, x.PrevPage, x.Ref, y, x.Blob⟩ = cat (cat [.i .i64 x.LSN] (cat [.i .i64 x.Kind] (cat [.i .i64 x.Tx] (cat [.i .i64 x.PrevTx] (cat [.i .i64 x.PrevPage] [.i .i64 x.Ref]))))) (cat (J8 y) [.s x.Blob]) := by unfold J2; simp only [cat, List.append_assoc]
  rw [e0, e1]; exact J3f (by simp only [cat, List.length_append, List.length_cons, List.length_nil, JY]) ((JY _).trans (JY _).symm)
theorem JaR (x : J6) : sub (J2 x) 12 1 = some [.s x.Blob] := by
  have e0 : J2 x = cat (cat [.i .i64 x.LSN] (cat [.i .i64 x.Kind] (cat [.i .i64 x.Tx] (cat [.i .i64 x.PrevTx] (cat [.i .i64 x.PrevPage] (cat [.i .i64 x.Ref] (J8 x.Change))))))) [.s x.Blob] := by unfold J2; simp only [cat, List.append_assoc]
  rw [e0]; exact J6K (by simp only [cat, List.length_append, List.length_cons, List.length_nil, JY]) rfl
theorem Jb1 (x : J6) (y : List UInt8) : spl (J2 x) 12 [.s y] = some (J2 ⟨x.LSN, x.Kind, x.Tx, x.PrevTx, x.PrevPage, x.Ref, x.Change, y⟩) := by
  have e0 : J2 x = cat (cat [.i .i64 x.LSN] (cat [.i .i64 x.Kind] (cat [.i .i64 x.Tx] (cat [.i .i64 x.PrevTx] (cat [.i .i64 x.PrevPage] (cat [.i .i64 x.Ref] (J8 x.Change))))))) [.s x.Blob] := by unfold J2; simp only [cat, List.append_assoc]
  have e1 : J2 ⟨x.LSN, x.Kind, x.Tx, x.PrevTx, x.PrevPage, x.Ref, x.Change, y⟩ = cat (cat [.i .i64 x.LSN] (cat [.i .i64 x.Kind] (cat [.i .i64 x.Tx] (cat [.i .i64 x.PrevTx] (cat [.i .i64 x.PrevPage] (cat [.i .i64 x.Ref] (J8 x.Change))))))) [.s y] := by unfold J2; simp only [cat, List.append_assoc]
  rw [e0, e1]; exact J6x (by simp only [cat, List.length_append, List.length_cons, List.length_nil, JY]) rfl
theorem Jf2 : (default : J6) = (⟨0, 0, 0, 0, 0, 0, (⟨0, 0, (⟨false, []⟩ : Jg), (⟨false, []⟩ : Jg)⟩ : Jf), []⟩ : J6) := rfl
theorem JdH (x : J6) : sub (J2 x) 0 13 = some (J2 x) := J9c (J6f x)
theorem Jec (x y : J6) : spl (J2 x) 0 (J2 y) = some (J2 y) := J9o ((J6f x).trans (J6f y).symm)
theorem Jq : (∀ x : J6, (J2 x).length = 13) ∧
  (∀ x : J6, sub (J2 x) 0 1 = some [.i .i64 x.LSN]) ∧
  (∀ (x : J6) (y : Int), spl (J2 x) 0 [.i .i64 y] = some (J2 ⟨y, x.Kind, x.Tx, x.PrevTx, x.PrevPage, x.Ref, x.Change, x.Blob⟩)) ∧
  (∀ x : J6, sub (J2 x) 1 1 = some [.i .i64 x.Kind]) ∧
  (∀ (x : J6) (y : Int), spl (J2 x) 1 [.i .i64 y] = some (J2 ⟨x.LSN, y, x.Tx, x.PrevTx, x.PrevPage, x.Ref, x.Change, x.Blob⟩)) ∧
  (∀ x : J6, sub (J2 x) 2 1 = some [.i .i64 x.Tx]) ∧
  (∀ (x : J6) (y : Int), spl (J2 x) 2 [.i .i64 y] = some (J2 ⟨x.LSN, x.Kind, y, x.PrevTx, x.PrevPage, x.Ref, x.Change, x.Blob⟩)) ∧
  (∀ x : J6, sub (J2 x) 3 1 = some [.i .i64 x.PrevTx]) ∧
  (∀ (x : J6) (y : Int), spl (J2 x) 3 [.i .i64 y] = some (J2 ⟨x.LSN, x.Kind, x.Tx, y, x.PrevPage, x.Ref, x.Change, x.Blob⟩)) ∧
  (∀ x : J6, sub (J2 x) 4 1 = some [.i .i64 x.PrevPage]) ∧
  (∀ (x : J6) (y : Int), spl (J2 x) 4 [.i .i64 y] = some (J2 ⟨x.LSN, x.Kind, x.Tx, x.PrevTx, y, x.Ref, x.Change, x.Blob⟩)) ∧
  (∀ x : J6, sub (J2 x) 5 1 = some [.i .i64 x.Ref]) ∧
  (∀ (x : J6) (y : Int), spl (J2 x) 5 [.i .i64 y] = some (J2 ⟨x.LSN, x.Kind, x.Tx, x.PrevTx, x.PrevPage, y, x.Change, x.Blob⟩)) ∧
  (∀ x : J6, sub (J2 x) 6 6 = some (J8 x.Change)) ∧
  (∀ (x : J6) (y : Jf), spl (J2 x) 6 (J8 y) = some (J2 ⟨x.LSN, x.Kind, x.Tx, x.PrevTx, x.PrevPage, x.Ref, y, x.Blob⟩)) ∧
  (∀ x : J6, sub (J2 x) 12 1 = some [.s x.Blob]) ∧
  (∀ (x : J6) (y : List UInt8), spl (J2 x) 12 [.s y] = some (J2 ⟨x.LSN, x.Kind, x.Tx, x.PrevTx, x.PrevPage, x.Ref, x.Change, y⟩)) ∧
  ((default : J6) = (⟨0, 0, 0, 0, 0, 0, (⟨0, 0, (⟨false, []⟩ : Jg), (⟨false, []⟩ : Jg)⟩ : Jf), []⟩ : J6)) ∧
  (∀ x : J6, sub (J2 x) 0 13 = some (J2 x)) ∧
  (∀ x y : J6, spl (J2 x) 0 (J2 y) = some (J2 y)) :=
  ⟨@J6f, @Jbw, @JbK, @JaV, @Jau, @Jcq, @Jc9, @J9G, @J9z, @J8R, @J8W, @Jby, @Jbv, @J55, @J9C, @JaR, @Jb1, Jf2, @JdH, @Jec⟩
theorem J7 : (∀ x : J6, J2 x = (cat [.i .i64 x.LSN] (cat [.i .i64 x.Kind] (cat [.i .i64 x.Tx] (cat [.i .i64 x.PrevTx] (cat [.i .i64 x.PrevPage] (cat [.i .i64 x.Ref] (cat (J8 x.Change) [.s x.Blob])))))))) ∧ (default : J6) = (⟨0, 0, 0, 0, 0, 0, (⟨0, 0, (⟨false, []⟩ : Jg), (⟨false, []⟩ : Jg)⟩ : Jf), []⟩ : J6) := ⟨fun _ => rfl, rfl⟩
structure T_pagemenddraw_Codes where
  l_ : List Int
  at_ : Int
  deriving DecidableEq
instance : Inhabited T_pagemenddraw_Codes := ⟨⟨[], 0⟩⟩
def J0 (x : T_pagemenddraw_Codes) : List PV := (cat [.sl 1 (List.map (r_i .u8) x.l_)] [.i .i64 x.at_])
theorem J3d (x : T_pagemenddraw_Codes) : (J0 x).length = 2 := by
  simp only [cat, J0, List.length_append, List.length_cons, List.length_nil]
theorem J7A (x : T_pagemenddraw_Codes) : sub (J0 x) 0 1 = some [.sl 1 (List.map (r_i .u8) x.l_)] := by unfold J0; exact J6F rfl
theorem J7F (x : T_pagemenddraw_Codes) (y : List Int) : spl (J0 x) 0 [.sl 1 (List.map (r_i .u8) y)] = some (J0 ⟨y, x.at_⟩) := by unfold J0; exact J6v rfl
theorem J7s (x : T_pagemenddraw_Codes) : sub (J0 x) 1 1 = some [.i .i64 x.at_] := by
  have e0 : J0 x = cat [.sl 1 (List.map (r_i .u8) x.l_)] [.i .i64 x.at_] := by unfold J0; simp only [cat, List.append_assoc]
  rw [e0]; exact J6K (by simp only [cat, List.length_append, List.length_cons, List.length_nil]) rfl
theorem J7u (x : T_pagemenddraw_Codes) (y : Int) : spl (J0 x) 1 [.i .i64 y] = some (J0 ⟨x.l_, y⟩) := by
  have e0 : J0 x = cat [.sl 1 (List.map (r_i .u8) x.l_)] [.i .i64 x.at_] := by unfold J0; simp only [cat, List.append_assoc]
  have e1 : J0 ⟨x.l_, y⟩ = cat [.sl 1 (List.map (r_i .u8) x.l_)] [.i .i64 y] := by unfold J0; simp only [cat, List.append_assoc]
  rw [e0, e1]; exact J6x (by simp only [cat, List.length_append, List.length_cons, List.length_nil]) rfl
theorem J8X : (default : T_pagemenddraw_Codes) = (⟨[], 0⟩ : T_pagemenddraw_Codes) := rfl
theorem J8m (x : T_pagemenddraw_Codes) : sub (J0 x) 0 2 = some (J0 x) := J9c (J3d x)
theorem J8o (x y : T_pagemenddraw_Codes) : spl (J0 x) 0 (J0 y) = some (J0 y) := J9o ((J3d x).trans (J3d y).symm)
theorem JB : (∀ x : T_pagemenddraw_Codes, (J0 x).length = 2) ∧
  (∀ x : T_pagemenddraw_Codes, sub (J0 x) 0 1 = some [.sl 1 (List.map (r_i .u8) x.l_)]) ∧
  (∀ (x : T_pagemenddraw_Codes) (y : List Int), spl (J0 x) 0 [.sl 1 (List.map (r_i .u8) y)] = some (J0 ⟨y, x.at_⟩)) ∧
  (∀ x : T_pagemenddraw_Codes, sub (J0 x) 1 1 = some [.i .i64 x.at_]) ∧
  (∀ (x : T_pagemenddraw_Codes) (y : Int), spl (J0 x) 1 [.i .i64 y] = some (J0 ⟨x.l_, y⟩)) ∧
  ((default : T_pagemenddraw_Codes) = (⟨[], 0⟩ : T_pagemenddraw_Codes)) ∧
  (∀ x : T_pagemenddraw_Codes, sub (J0 x) 0 2 = some (J0 x)) ∧
  (∀ x y : T_pagemenddraw_Codes, spl (J0 x) 0 (J0 y) = some (J0 y)) :=
  ⟨@J3d, @J7A, @J7F, @J7s, @J7u, J8X, @J8m, @J8o⟩
theorem JG : (∀ x : T_pagemenddraw_Codes, J0 x = (cat [.sl 1 (List.map (r_i .u8) x.l_)] [.i .i64 x.at_])) ∧ (default : T_pagemenddraw_Codes) = (⟨[], 0⟩ : T_pagemenddraw_Codes) := ⟨fun _ => rfl, rfl⟩
theorem JfY (x y : T_api_Row) : J0R [(.i .i64), (.i .i64), (.i .i64)] (J4 x) (J4 y) = some (decide (x = y)) := by
  have h := (J7O (Jdx .i64 x.LSN y.LSN) (J7O (Jdx .i64 x.Image y.Image) (Jdx .i64 x.ImageLSN y.ImageLSN)))
  have e : decide (x.LSN = y.LSN ∧ (x.Image = y.Image ∧ (x.ImageLSN = y.ImageLSN))) = decide (x = y) := decide_eq_decide.2 (by cases x; cases y; simp only [T_api_Row.mk.injEq])
  exact h.trans (congrArg some e)
theorem J8O (x y : T_api_Row) : J0R [(.i .i64), (.i .i64), (.i .i64)] (J4 x) (J4 y) = some (x == y) := JfY x y
theorem Jam (x y : Jg) : J0R [.b, .s] (Jj x) (Jj y) = some (decide (x = y)) := by
  have h := (J7O (Jn9 x.Set y.Set) (JmY x.Data y.Data))
  have e : decide (x.Set = y.Set ∧ (x.Data = y.Data)) = decide (x = y) := decide_eq_decide.2 (by cases x; cases y; simp only [Jg.mk.injEq])
  exact h.trans (congrArg some e)
theorem Jdy (x y : Jf) : J0R [(.i .i64), (.i .i64), .b, .s, .b, .s] (J8 x) (J8 y) = some (decide (x = y)) := by
  have h := (J7O (Jdx .i64 x.Page y.Page) (J7O (Jdx .i64 x.Slot y.Slot) (J7O (Jam x.Before y.Before) (Jam x.After y.After))))
  have e : decide (x.Page = y.Page ∧ (x.Slot = y.Slot ∧ (x.Before = y.Before ∧ (x.After = y.After)))) = decide (x = y) := decide_eq_decide.2 (by cases x; cases y; simp only [Jf.mk.injEq])
  exact h.trans (congrArg some e)
theorem J3S (x y : Jf) : J0R [(.i .i64), (.i .i64), .b, .s, .b, .s] (J8 x) (J8 y) = some (x == y) := Jdy x y
end Go.Am
end
section
namespace Go.Am
set_option maxRecDepth 8000
set_option maxHeartbeats 4000000
set_option linter.unusedSimpArgs false
set_option linter.unusedVariables false
abbrev J2J : FuncId := 5
abbrev J5Q : FuncId := 16
abbrev J4d : FuncId := 20
abbrev J4a : FuncId := 21
abbrev Jp : FuncId := 24
abbrev J0X : FuncId := 25
abbrev J3V : FuncId := 27
abbrev J1A : FuncId := 28
abbrev J2y : FuncId := 30
abbrev J1i : FuncId := 32
abbrev J2s : FuncId := 35
abbrev J3n : FuncId := 37
abbrev J5f : FuncId := 38
abbrev J46 : FuncId := 73
abbrev J2b : FuncId := 74
abbrev J0T : FuncId := 75
abbrev J0M : FuncId := 76
abbrev J0A : FuncId := 79
abbrev J03 : FuncId := 80
abbrev J2m : FuncId := 82
abbrev J0g : FuncId := 84
abbrev JN : FuncId := 85
abbrev J4A : FuncId := 86
abbrev JS : FuncId := 87
abbrev J2w : FuncId := 111
abbrev J3s : FuncId := 112
abbrev J0m : FuncId := 113
abbrev J0q : FuncId := 119
abbrev Jv : FuncId := 129
abbrev J05 : FuncId := 130
abbrev J0j : FuncId := 131
abbrev J0Y : FuncId := 132
abbrev J0W : FuncId := 133
abbrev J3N : FuncId := 140
abbrev J1Y : FuncId := 141
def J7W : Jy := .seq (.reg false [] [⟨.mv (.t 0), some 12, none⟩,
    ⟨.build (J0 default) [(0, 1, (.t 12))], some 13, none⟩,
    ⟨.box 2 (.t 13), some 14, none⟩,
    ⟨.mv (.t 14), some 4, none⟩])
  (.ret)
def J5K : Jy := .seq (.reg false [] [⟨.mv (.c (.p .np)), some 4, none⟩])
  (.seq (.seq (.reg false [] [⟨.mv (.t 0), some 5, none⟩,
    ⟨.len false (.t 5), some 6, none⟩,
    ⟨.mv (.t 1), some 7, none⟩,
    ⟨.bin .gtr .plain (.t 6) (.t 7), some 8, none⟩])
  (.keep [0, 1, 8] (.cond (.t 8)
  (.reg false [] [⟨.mv (.t 0), some 9, none⟩,
      ⟨.mv (.t 1), some 10, none⟩,
      ⟨.slice (.sl 1) (.t 9) none (some (.t 10)) none, some 11, none⟩,
      ⟨.mv (.t 11), some 0, none⟩])
  (.skip))))
  (.keep [0] J7W))
def J59 : AFn := ⟨2, 15, J5K, [.tmp 4], false⟩
def J12 : Jy := .seq (.reg false [] [⟨.mv (.c (.p (.i .i64 0))), some 4, none⟩])
  (.seq (.seq (.reg true [] [⟨.mv (.t 0), some 6, none⟩,
    ⟨.nilchk (.t 6), some 7, none⟩,
    ⟨.faddr 1 (.t 7), some 8, none⟩,
    ⟨.load false 1 (.t 8), some 9, none⟩,
    ⟨.mv (.t 0), some 10, none⟩,
    ⟨.nilchk (.t 10), some 11, none⟩,
    ⟨.faddr 0 (.t 11), some 12, none⟩,
    ⟨.load false 1 (.t 12), some 13, none⟩,
    ⟨.len false (.t 13), some 14, none⟩,
    ⟨.bin .geq .plain (.t 9) (.t 14), some 15, none⟩,
    ⟨.mv (.t 15), some 16, none⟩,
    ⟨.mv (.t 1), some 17, some (16, false)⟩,
    ⟨.bin .lss .plain (.t 17) (.c (.p (.i .i64 1))), some 18, some (16, false)⟩,
    ⟨.pick (.t 16) (.c (.p (.b true))) (.t 18), some 19, none⟩])
  (.keep [0, 1, 19] (.cond (.t 19)
  (.seq (.reg false [] [⟨.mv (.c (.p (.i .i64 0))), some 4, none⟩])
    (.ret))
  (.skip))))
  (.seq (.reg true [] [⟨.mv (.t 0), some 20, none⟩,
    ⟨.nilchk (.t 20), some 21, none⟩,
    ⟨.faddr 0 (.t 21), some 22, none⟩,
    ⟨.load false 1 (.t 22), some 23, none⟩,
    ⟨.mv (.t 0), some 24, none⟩,
    ⟨.nilchk (.t 24), some 25, none⟩,
    ⟨.faddr 1 (.t 25), some 26, none⟩,
    ⟨.load false 1 (.t 26), some 27, none⟩,
    ⟨.iaddr 1 (.t 23) (.t 27), some 28, none⟩,
    ⟨.load false 1 (.t 28), some 29, none⟩,
    ⟨.conv (.int .i64) (.t 29), some 30, none⟩,
    ⟨.mv (.t 30), some 5, none⟩])
  (.keep [0, 1, 5] (.seq (.reg false [] [⟨.mv (.t 0), some 31, none⟩,
    ⟨.nilchk (.t 31), some 32, none⟩,
    ⟨.faddr 1 (.t 32), some 33, none⟩,
    ⟨.load false 1 (.t 33), some 34, none⟩,
    ⟨.bin .add .plain (.t 34) (.c (.p (.i .i64 1))), some 35, none⟩,
    ⟨.nilchk (.t 31), some 36, none⟩,
    ⟨.faddr 1 (.t 36), some 37, none⟩,
    ⟨.store 1 (.t 37) (.t 35), none, none⟩])
  (.keep [0, 1, 5] (.seq (.seq (.reg false [] [⟨.mv (.t 1), some 38, none⟩,
    ⟨.bin .gtr .plain (.t 38) (.c (.p (.i .i64 256))), some 39, none⟩])
  (.cond (.t 39)
  (.seq (.reg false [] [⟨.mv (.t 5), some 40, none⟩,
      ⟨.bin .mul .plain (.c (.p (.i .i64 256))) (.t 40), some 41, none⟩,
      ⟨.mv (.t 0), some 42, none⟩,
      ⟨.call Jp [(.t 42), (.c (.p (.i .i64 256)))] 0, some 43, none⟩,
      ⟨.bin .add .plain (.t 41) (.t 43), some 44, none⟩,
      ⟨.mv (.t 1), some 45, none⟩,
      ⟨.bin .rem .plain (.t 44) (.t 45), some 46, none⟩,
      ⟨.mv (.t 46), some 4, none⟩])
    (.ret))
  (.skip)))
  (.seq (.reg false [] [⟨.mv (.t 5), some 47, none⟩,
    ⟨.mv (.t 1), some 48, none⟩,
    ⟨.bin .rem .plain (.t 47) (.t 48), some 49, none⟩,
    ⟨.mv (.t 49), some 4, none⟩])
  (.ret))))))))
def J2L : AFn := ⟨2, 50, J12, [.tmp 4], false⟩
def J1K : Jy := .seq (.seq (.reg false [] [⟨.mv (.t 5), some 13, none⟩,
    ⟨.faddr 0 (.t 2), some 14, none⟩,
    ⟨.load false 1 (.t 14), some 15, none⟩,
    ⟨.len false (.t 15), some 16, none⟩,
    ⟨.bin .lss .plain (.t 13) (.t 16), some 17, none⟩])
  (.keep [2, 3, 5, 17] (.cond (.t 17)
  (.skip)
  (.exit 0))))
  (.seq (.block 1 (.seq (.reg true [] [⟨.faddr 0 (.t 2), some 20, none⟩,
    ⟨.load false 1 (.t 20), some 21, none⟩,
    ⟨.mv (.t 5), some 22, none⟩,
    ⟨.iaddr 3 (.t 21) (.t 22), some 23, none⟩,
    ⟨.load true 3 (.t 23), some 24, none⟩,
    ⟨.faddr 0 (.t 3), some 25, none⟩,
    ⟨.load false 1 (.t 25), some 26, none⟩,
    ⟨.mv (.t 5), some 27, none⟩,
    ⟨.iaddr 3 (.t 26) (.t 27), some 28, none⟩,
    ⟨.load true 3 (.t 28), some 29, none⟩,
    ⟨.bin .neq (.flat [(.i .i64), (.i .i64), (.i .i64)]) (.t 24) (.t 29), some 30, none⟩])
  (.keep [2, 3, 5, 30] (.cond (.t 30)
  (.seq (.reg false [] [⟨.mv (.c (.p (.b false))), some 4, none⟩])
    (.ret))
  (.skip)))))
  (.reg false [] [⟨.mv (.t 5), some 18, none⟩,
    ⟨.bin .add .plain (.t 18) (.c (.p (.i .i64 1))), some 19, none⟩,
    ⟨.mv (.t 19), some 5, none⟩]))
def J31 : Jy := .seq (.reg false [] [⟨.mv (.c (.p (.b true))), some 4, none⟩])
  (.ret)
def J4X : Jy := .seq (.reg false [] [⟨.box 1 (.t 0), some 2, none⟩,
    ⟨.box 1 (.t 1), some 3, none⟩,
    ⟨.mv (.c (.p (.b false))), some 4, none⟩])
  (.keep [2, 3] (.seq (.seq (.reg false [] [⟨.faddr 0 (.t 2), some 6, none⟩,
    ⟨.load false 1 (.t 6), some 7, none⟩,
    ⟨.len false (.t 7), some 8, none⟩,
    ⟨.faddr 0 (.t 3), some 9, none⟩,
    ⟨.load false 1 (.t 9), some 10, none⟩,
    ⟨.len false (.t 10), some 11, none⟩,
    ⟨.bin .neq .plain (.t 8) (.t 11), some 12, none⟩])
  (.keep [2, 3, 12] (.cond (.t 12)
  (.seq (.reg false [] [⟨.mv (.c (.p (.b false))), some 4, none⟩])
    (.ret))
  (.skip))))
  (.seq (.seq (.reg false [] [⟨.mv (.c (.p (.i .i64 0))), some 5, none⟩])
  (.block 0 (.loop [2, 3, 5] J1K)))
  (.keep [] J31))))
def J1X : AFn := ⟨2, 31, J4X, [.tmp 4], false⟩
def J2g : Jy := .seq (.reg false [] [⟨.newbox (Ja default), some 2, none⟩,
    ⟨.mv (.c (.p (.i .i64 0))), some 3, none⟩])
  (.seq (.seq (.reg false [] [⟨.mv (.t 0), some 4, none⟩,
    ⟨.bin .lss .plain (.t 4) (.c (.p (.i .i64 1))), some 5, none⟩,
    ⟨.mv (.t 5), some 6, none⟩,
    ⟨.mv (.t 0), some 7, some (6, false)⟩,
    ⟨.bin .gtr .plain (.t 7) (.c (.p (.i .i64 64))), some 8, some (6, false)⟩,
    ⟨.pick (.t 6) (.c (.p (.b true))) (.t 8), some 9, none⟩])
  (.keep [0, 2, 9] (.cond (.t 9)
  (.seq (.reg false [] [⟨.build (Ja default) [], some 10, none⟩,
      ⟨.store 1 (.t 2) (.t 10), none, none⟩,
      ⟨.mv (.c (.p (.i .i64 1))), some 3, none⟩])
    (.ret))
  (.skip))))
  (.seq (.reg false [] [⟨.mv (.t 0), some 11, none⟩,
    ⟨.mkslice false 3 24 (J4 default) (.t 11) (.t 11), some 12, none⟩,
    ⟨.build (Ja default) [(0, 1, (.t 12))], some 13, none⟩,
    ⟨.store 1 (.t 2) (.t 13), none, none⟩,
    ⟨.mv (.c (.p (.i .i64 0))), some 3, none⟩])
  (.ret)))
def J3o : AFn := ⟨1, 14, J2g, [.cell 2 true 1, .tmp 3], false⟩
def J3J : Jy := .seq (.reg false [] [⟨.newbox (Ja default), some 2, none⟩,
    ⟨.mv (.c (.p (.i .i64 0))), some 3, none⟩])
  (.seq (.seq (.reg false [] [⟨.mv (.t 0), some 4, none⟩,
    ⟨.bin .lss .plain (.t 4) (.c (.p (.i .i64 1))), some 5, none⟩,
    ⟨.mv (.t 5), some 6, none⟩,
    ⟨.mv (.t 0), some 7, some (6, false)⟩,
    ⟨.bin .gtr .plain (.t 7) (.c (.p (.i .i64 64))), some 8, some (6, false)⟩,
    ⟨.pick (.t 6) (.c (.p (.b true))) (.t 8), some 9, none⟩])
  (.keep [0, 2, 9] (.cond (.t 9)
  (.seq (.reg false [] [⟨.build (Ja default) [], some 10, none⟩,
      ⟨.store 1 (.t 2) (.t 10), none, none⟩,
      ⟨.mv (.c (.p (.i .i64 1))), some 3, none⟩])
    (.ret))
  (.skip))))
  (.seq (.reg false [] [⟨.mv (.t 0), some 11, none⟩,
    ⟨.mkslice true 3 24 (J4 default) (.t 11) (.t 11), some 12, none⟩,
    ⟨.build (Ja default) [(0, 1, (.t 12))], some 13, none⟩,
    ⟨.store 1 (.t 2) (.t 13), none, none⟩,
    ⟨.mv (.c (.p (.i .i64 0))), some 3, none⟩])
  (.ret)))
def J5j : AFn := ⟨1, 14, J3J, [.cell 2 true 1, .tmp 3], true⟩
def J2N : Jy := .seq (.reg false [] [⟨.box 1 (.t 0), some 2, none⟩,
    ⟨.mv (.c (.p (.b false))), some 4, none⟩])
  (.seq (.reg false [] [⟨.mv (.t 1), some 5, none⟩,
    ⟨.bin .geq .plain (.t 5) (.c (.p (.i .i64 0))), some 6, none⟩,
    ⟨.mv (.t 6), some 7, none⟩,
    ⟨.mv (.t 1), some 8, some (7, true)⟩,
    ⟨.faddr 0 (.t 2), some 9, some (7, true)⟩,
    ⟨.load false 1 (.t 9), some 10, some (7, true)⟩,
    ⟨.len false (.t 10), some 11, some (7, true)⟩,
    ⟨.bin .lss .plain (.t 8) (.t 11), some 12, some (7, true)⟩,
    ⟨.pick (.t 7) (.t 12) (.c (.p (.b false))), some 13, none⟩,
    ⟨.mv (.t 13), some 4, none⟩])
  (.ret))
def J2P : AFn := ⟨2, 14, J2N, [.tmp 4], false⟩
def J23 : Jy := .seq (.reg false [] [⟨.mv (.c (.p (.b false))), some 2, none⟩])
  (.seq (.reg false [] [⟨.mv (.t 0), some 3, none⟩,
    ⟨.bin .geq .plain (.t 3) (.c (.p (.i .i64 0))), some 4, none⟩,
    ⟨.mv (.t 4), some 5, none⟩,
    ⟨.mv (.t 0), some 6, some (5, true)⟩,
    ⟨.bin .leq .plain (.t 6) (.c (.p (.i .i64 1099511627776))), some 7, some (5, true)⟩,
    ⟨.pick (.t 5) (.t 7) (.c (.p (.b false))), some 8, none⟩,
    ⟨.mv (.t 8), some 2, none⟩])
  (.ret))
def J22 : AFn := ⟨1, 9, J23, [.tmp 2], false⟩
def J08 : Jy := .seq (.reg false [] [⟨.box 3 (.t 0), some 1, none⟩,
    ⟨.mv (.c (.p (.b false))), some 2, none⟩])
  (.seq (.reg false [] [⟨.faddr 0 (.t 1), some 3, none⟩,
    ⟨.load false 1 (.t 3), some 4, none⟩,
    ⟨.call J0A [(.t 4)] 0, some 5, none⟩,
    ⟨.un .not (.t 5), some 6, none⟩,
    ⟨.mv (.t 6), some 7, none⟩,
    ⟨.faddr 1 (.t 1), some 8, some (7, false)⟩,
    ⟨.load false 1 (.t 8), some 9, some (7, false)⟩,
    ⟨.call J0A [(.t 9)] 0, some 10, some (7, false)⟩,
    ⟨.un .not (.t 10), some 11, some (7, false)⟩,
    ⟨.pick (.t 7) (.c (.p (.b true))) (.t 11), some 12, none⟩,
    ⟨.mv (.t 12), some 13, none⟩,
    ⟨.faddr 2 (.t 1), some 14, some (13, false)⟩,
    ⟨.load false 1 (.t 14), some 15, some (13, false)⟩,
    ⟨.call J0A [(.t 15)] 0, some 16, some (13, false)⟩,
    ⟨.un .not (.t 16), some 17, some (13, false)⟩,
    ⟨.pick (.t 13) (.c (.p (.b true))) (.t 17), some 18, none⟩,
    ⟨.mv (.t 18), some 19, none⟩,
    ⟨.faddr 1 (.t 1), some 20, some (19, false)⟩,
    ⟨.load false 1 (.t 20), some 21, some (19, false)⟩,
    ⟨.bin .eql .plain (.t 21) (.c (.p (.i .i64 0))), some 22, some (19, false)⟩,
    ⟨.mv (.t 22), some 23, some (19, false)⟩,
    ⟨.faddr 2 (.t 1), some 24, some (23, true)⟩,
    ⟨.load false 1 (.t 24), some 25, some (23, true)⟩,
    ⟨.bin .neq .plain (.t 25) (.c (.p (.i .i64 0))), some 26, some (23, true)⟩,
    ⟨.pick (.t 23) (.t 26) (.c (.p (.b false))), some 27, some (19, false)⟩,
    ⟨.pick (.t 19) (.c (.p (.b true))) (.t 27), some 28, none⟩,
    ⟨.mv (.t 28), some 2, none⟩])
  (.ret))
def J27 : AFn := ⟨1, 29, J08, [.tmp 2], false⟩
def J2Q : Jy := .seq (.reg false [] [⟨.bin .lss .plain (.t 35) (.t 34), some 36, none⟩])
  (.seq (.cond (.t 36)
  (.skip)
  (.exit 1))
  (.seq (.block 2 (.seq (.reg false [] [⟨.mv (.t 35), some 37, none⟩,
    ⟨.mv (.t 37), some 9, none⟩])
  (.reg false [] [⟨.mv (.t 8), some 38, none⟩,
    ⟨.mv (.t 0), some 39, none⟩,
    ⟨.mv (.t 1), some 40, none⟩,
    ⟨.mv (.t 9), some 41, none⟩,
    ⟨.bin .add .plain (.t 40) (.t 41), some 42, none⟩,
    ⟨.sidx (.t 39) (.t 42), some 43, none⟩,
    ⟨.conv (.int .u64) (.t 43), some 44, none⟩,
    ⟨.mv (.t 9), some 45, none⟩,
    ⟨.bin .mul .plain (.c (.p (.i .i64 8))) (.t 45), some 46, none⟩,
    ⟨.bin .shl .plain (.t 44) (.t 46), some 47, none⟩,
    ⟨.bin .or .plain (.t 38) (.t 47), some 48, none⟩,
    ⟨.mv (.t 48), some 8, none⟩])))
  (.reg false [] [⟨.bin .add .plain (.t 35) (.c (.p (.i .i64 1))), some 49, none⟩,
    ⟨.mv (.t 49), some 35, none⟩])))
def J3t : Jy := .seq (.reg false [] [⟨.mv (.t 8), some 50, none⟩,
    ⟨.conv (.int .i64) (.t 50), some 51, none⟩,
    ⟨.mv (.t 51), some 6, none⟩,
    ⟨.mv (.c (.p (.i .i64 0))), some 7, none⟩])
  (.ret)
def J1r : Jy := .seq (.reg false [] [⟨.mv (.c (.p (.i .i64 0))), some 6, none⟩,
    ⟨.mv (.c (.p (.i .i64 0))), some 7, none⟩])
  (.seq (.block 0 (.seq (.reg false [] [⟨.mv (.t 2), some 11, none⟩,
    ⟨.bin .lss .plain (.t 11) (.c (.p (.i .i64 1))), some 12, none⟩,
    ⟨.mv (.t 12), some 13, none⟩,
    ⟨.mv (.t 2), some 14, some (13, false)⟩,
    ⟨.bin .gtr .plain (.t 14) (.c (.p (.i .i64 8))), some 15, some (13, false)⟩,
    ⟨.pick (.t 13) (.c (.p (.b true))) (.t 15), some 16, none⟩,
    ⟨.mv (.t 16), some 17, none⟩,
    ⟨.mv (.t 1), some 18, some (17, false)⟩,
    ⟨.bin .lss .plain (.t 18) (.c (.p (.i .i64 0))), some 19, some (17, false)⟩,
    ⟨.pick (.t 17) (.c (.p (.b true))) (.t 19), some 20, none⟩,
    ⟨.mv (.t 20), some 10, none⟩])
  (.keep [0, 1, 2, 10] (.cond (.t 10)
  (.seq (.reg false [] [⟨.mv (.c (.p (.i .i64 0))), some 6, none⟩,
      ⟨.mv (.c (.p (.i .i64 1))), some 7, none⟩])
    (.ret))
  (.seq (.reg false [] [⟨.mv (.t 1), some 22, none⟩,
      ⟨.mv (.t 0), some 23, none⟩,
      ⟨.len true (.t 23), some 24, none⟩,
      ⟨.bin .gtr .plain (.t 22) (.t 24), some 25, none⟩,
      ⟨.mv (.t 25), some 26, none⟩,
      ⟨.mv (.t 0), some 27, some (26, false)⟩,
      ⟨.len true (.t 27), some 28, some (26, false)⟩,
      ⟨.mv (.t 1), some 29, some (26, false)⟩,
      ⟨.bin .sub .plain (.t 28) (.t 29), some 30, some (26, false)⟩,
      ⟨.mv (.t 2), some 31, some (26, false)⟩,
      ⟨.bin .lss .plain (.t 30) (.t 31), some 32, some (26, false)⟩,
      ⟨.pick (.t 26) (.c (.p (.b true))) (.t 32), some 33, none⟩,
      ⟨.mv (.t 33), some 21, none⟩])
    (.keep [0, 1, 2, 21] (.cond (.t 21)
    (.seq (.reg false [] [⟨.mv (.c (.p (.i .i64 0))), some 6, none⟩,
        ⟨.mv (.c (.p (.i .i64 5))), some 7, none⟩])
      (.ret))
    (.skip))))))))
  (.seq (.reg false [] [⟨.mv (.c (.p (.i .u64 0))), some 8, none⟩])
  (.seq (.seq (.reg false [] [⟨.mv (.t 2), some 34, none⟩,
    ⟨.mv (.c (.p (.i .i64 0))), some 35, none⟩])
  (.block 1 (.loop [0, 1, 8, 34, 35] J2Q)))
  (.keep [8] J3t))))
def J2j : AFn := ⟨3, 52, J1r, [.tmp 6, .tmp 7], false⟩
def J3L : Jy := .seq (.reg false [] [⟨.box 13 (.t 1), some 3, none⟩,
    ⟨.mv (.c (.p (.b false))), some 4, none⟩])
  (.seq (.reg false [] [⟨.mv (.t 0), some 5, none⟩,
    ⟨.bin .geq .plain (.t 5) (.c (.p (.i .i64 0))), some 6, none⟩,
    ⟨.mv (.t 6), some 7, none⟩,
    ⟨.mv (.t 0), some 8, some (7, true)⟩,
    ⟨.faddr 0 (.t 3), some 9, some (7, true)⟩,
    ⟨.load false 1 (.t 9), some 10, some (7, true)⟩,
    ⟨.bin .lss .plain (.t 8) (.t 10), some 11, some (7, true)⟩,
    ⟨.pick (.t 7) (.t 11) (.c (.p (.b false))), some 12, none⟩,
    ⟨.mv (.t 12), some 4, none⟩])
  (.ret))
def J3K : AFn := ⟨2, 13, J3L, [.tmp 4], false⟩
def J5e : Jy := .seq (.reg false [] [⟨.newbox [.b false, .b false, .b false, .b false, .b false, .nf, .nf, .b false, .b false, .b false, .b false, .b false, .nf, .nf, .b false, .b false, .b false, .b false, .b false, .nf, .nf, .b false, .b false, .b false, .b false, .b false, .nf, .nf, .b false, .b false, .b false, .b false, .b false, .nf, .nf, .b false, .b false, .b false, .b false, .b false, .nf, .nf, .b false, .b false, .b false, .b false, .b false, .nf, .nf, .b false, .b false, .b false, .b false, .b false, .nf, .nf, .b false, .b false, .b false, .b false, .b false, .nf, .nf], some 0, none⟩])
  (.seq (.reg false [] [⟨.mv (.c (.fn Jv [] [])), some 1, none⟩])
  (.seq (.reg false [] [⟨.mv (.t 1), some 4, none⟩,
    ⟨.build [.b false, .b false, .b false, .b false, .b false, .nf, .nf] [(0, 1, (.c (.p (.b true)))), (1, 1, (.c (.p (.b true)))), (5, 1, (.t 4)), (6, 1, (.c (.fn J05 [] [])))], some 5, none⟩,
    ⟨.newbox [.b false, .b false, .b false, .b false, .b false, .nf, .nf], some 2, none⟩,
    ⟨.store 7 (.t 2) (.t 5), none, none⟩])
  (.keep [0, 1, 2] (.seq (.reg false [] [⟨.mv (.t 1), some 6, none⟩,
    ⟨.build [.b false, .b false, .b false, .b false, .b false, .nf, .nf] [(4, 1, (.c (.p (.b true)))), (5, 1, (.t 6)), (6, 1, (.c (.fn J05 [] [])))], some 7, none⟩,
    ⟨.newbox [.b false, .b false, .b false, .b false, .b false, .nf, .nf], some 3, none⟩,
    ⟨.store 7 (.t 3) (.t 7), none, none⟩])
  (.keep [0, 1, 2, 3] (.seq (.reg false [] [⟨.mv (.t 1), some 8, none⟩,
    ⟨.build [.b false, .b false, .b false, .b false, .b false, .nf, .nf] [(0, 1, (.c (.p (.b true)))), (2, 1, (.c (.p (.b true)))), (5, 1, (.t 8)), (6, 1, (.c (.fn J0j [] [])))], some 9, none⟩,
    ⟨.build [.b false, .b false, .b false, .b false, .b false, .nf, .nf] [(0, 1, (.c (.p (.b true)))), (1, 1, (.c (.p (.b true)))), (2, 1, (.c (.p (.b true)))), (3, 1, (.c (.p (.b true)))), (5, 1, (.c (.fn J0Y [] []))), (6, 1, (.c (.fn J0j [] [])))], some 10, none⟩,
    ⟨.load true 7 (.t 2), some 11, none⟩,
    ⟨.load true 7 (.t 2), some 12, none⟩,
    ⟨.load true 7 (.t 2), some 13, none⟩,
    ⟨.load true 7 (.t 3), some 14, none⟩,
    ⟨.mv (.t 1), some 15, none⟩,
    ⟨.build [.b false, .b false, .b false, .b false, .b false, .nf, .nf] [(3, 1, (.c (.p (.b true)))), (5, 1, (.t 15)), (6, 1, (.c (.fn J0W [] [])))], some 16, none⟩,
    ⟨.load true 7 (.t 3), some 17, none⟩,
    ⟨.build [.b false, .b false, .b false, .b false, .b false, .nf, .nf, .b false, .b false, .b false, .b false, .b false, .nf, .nf, .b false, .b false, .b false, .b false, .b false, .nf, .nf, .b false, .b false, .b false, .b false, .b false, .nf, .nf, .b false, .b false, .b false, .b false, .b false, .nf, .nf, .b false, .b false, .b false, .b false, .b false, .nf, .nf, .b false, .b false, .b false, .b false, .b false, .nf, .nf, .b false, .b false, .b false, .b false, .b false, .nf, .nf, .b false, .b false, .b false, .b false, .b false, .nf, .nf] [(7, 7, (.t 9)), (14, 7, (.t 10)), (21, 7, (.t 11)), (28, 7, (.t 12)), (35, 7, (.t 13)), (42, 7, (.t 14)), (49, 7, (.t 16)), (56, 7, (.t 17))], some 18, none⟩,
    ⟨.store 63 (.t 0) (.t 18), none, none⟩])
  (.ret)))))))
def J4b : AFn := ⟨0, 19, J5e, [.cell 0 true 63], false⟩
def J1a : J6B := ⟨1, 8, .reg false [] [⟨.mkarr 3 (.c (.p (.sl 3 []))), some 2, none⟩], [], .reg false [] [⟨.mv (.t 0), some 3, none⟩,
    ⟨.bin .eql .nils (.t 3) (.c (.p (.sl 3 []))), some 4, none⟩], (.t 4),
  .seq (.reg false [] [⟨.mkarr 3 (.c (.p (.sl 3 []))), some 2, none⟩])
  (.ret),
  .skip,
  .seq (.reg false [] [⟨.lits true 3 0 (J4 default) [], some 5, none⟩,
    ⟨.mv (.t 0), some 6, none⟩,
    ⟨.app 3 24 (J4 default) (.t 5) (.t 6), some 7, none⟩,
    ⟨.mv (.t 7), some 2, none⟩])
  (.ret), [.tmp 2], true⟩
def J3Z : Jy := .seq (.reg false [] [⟨.box 13 (.t 0), some 1, none⟩,
    ⟨.mv (.c (.p (.b false))), some 2, none⟩])
  (.seq (.reg false [] [⟨.mv (.c (.p (.b true))), some 2, none⟩])
  (.ret))
def J3a : AFn := ⟨1, 3, J3Z, [.tmp 2], false⟩
def J5D : Jy := .seq (.reg false [] [⟨.box 6 (.t 0), some 1, none⟩,
    ⟨.mv (.c (.p (.b false))), some 2, none⟩])
  (.seq (.reg false [] [⟨.load true 6 (.t 1), some 3, none⟩,
    ⟨.build (J8 default) [], some 4, none⟩,
    ⟨.bin .eql (.flat [(.i .i64), (.i .i64), .b, .s, .b, .s]) (.t 3) (.t 4), some 5, none⟩,
    ⟨.mv (.t 5), some 2, none⟩])
  (.ret))
def J4T : AFn := ⟨1, 6, J5D, [.tmp 2], false⟩
def J36 : Jy := .seq (.reg false [] [⟨.box 13 (.t 0), some 1, none⟩,
    ⟨.mv (.c (.p (.b false))), some 2, none⟩])
  (.seq (.reg false [] [⟨.faddr 5 (.t 1), some 3, none⟩,
    ⟨.load false 1 (.t 3), some 4, none⟩,
    ⟨.bin .geq .plain (.t 4) (.c (.p (.i .i64 1))), some 5, none⟩,
    ⟨.mv (.t 5), some 6, none⟩,
    ⟨.faddr 5 (.t 1), some 7, some (6, true)⟩,
    ⟨.load false 1 (.t 7), some 8, some (6, true)⟩,
    ⟨.faddr 3 (.t 1), some 9, some (6, true)⟩,
    ⟨.load false 1 (.t 9), some 10, some (6, true)⟩,
    ⟨.bin .leq .plain (.t 8) (.t 10), some 11, some (6, true)⟩,
    ⟨.pick (.t 6) (.t 11) (.c (.p (.b false))), some 12, none⟩,
    ⟨.mv (.t 12), some 2, none⟩])
  (.ret))
def J32 : AFn := ⟨1, 13, J36, [.tmp 2], false⟩
def J1y : Jy := .seq (.reg false [] [⟨.box 6 (.t 0), some 1, none⟩,
    ⟨.mv (.c (.p (.b false))), some 2, none⟩])
  (.seq (.reg false [] [⟨.load true 6 (.t 1), some 3, none⟩,
    ⟨.faddr 0 (.t 1), some 4, none⟩,
    ⟨.load false 1 (.t 4), some 5, none⟩,
    ⟨.build (J8 default) [(0, 1, (.t 5))], some 6, none⟩,
    ⟨.bin .eql (.flat [(.i .i64), (.i .i64), .b, .s, .b, .s]) (.t 3) (.t 6), some 7, none⟩,
    ⟨.mv (.t 7), some 8, none⟩,
    ⟨.faddr 0 (.t 1), some 9, some (8, true)⟩,
    ⟨.load false 1 (.t 9), some 10, some (8, true)⟩,
    ⟨.bin .geq .plain (.t 10) (.c (.p (.i .i64 0))), some 11, some (8, true)⟩,
    ⟨.pick (.t 8) (.t 11) (.c (.p (.b false))), some 12, none⟩,
    ⟨.mv (.t 12), some 13, none⟩,
    ⟨.faddr 0 (.t 1), some 14, some (13, true)⟩,
    ⟨.load false 1 (.t 14), some 15, some (13, true)⟩,
    ⟨.bin .lss .plain (.t 15) (.c (.p (.i .i64 64))), some 16, some (13, true)⟩,
    ⟨.pick (.t 13) (.t 16) (.c (.p (.b false))), some 17, none⟩,
    ⟨.mv (.t 17), some 2, none⟩])
  (.ret))
def J39 : AFn := ⟨1, 18, J1y, [.tmp 2], false⟩
def J3M : Jy := .seq (.reg false [] [⟨.mv (.c (.p (.b false))), some 2, none⟩])
  (.seq (.reg false [] [⟨.mv (.t 0), some 3, none⟩,
    ⟨.bin .geq .plain (.t 3) (.c (.p (.i .i64 0))), some 4, none⟩,
    ⟨.mv (.t 4), some 5, none⟩,
    ⟨.mv (.t 0), some 6, some (5, true)⟩,
    ⟨.bin .lss .plain (.t 6) (.c (.p (.i .i64 64))), some 7, some (5, true)⟩,
    ⟨.pick (.t 5) (.t 7) (.c (.p (.b false))), some 8, none⟩,
    ⟨.mv (.t 8), some 2, none⟩])
  (.ret))
def J3O : AFn := ⟨1, 9, J3M, [.tmp 2], false⟩
def J1t : Jy := .seq (.reg false [] [⟨.box 2 (.t 0), some 1, none⟩,
    ⟨.mv (.c (.p (.b false))), some 2, none⟩])
  (.seq (.reg false [] [⟨.faddr 1 (.t 1), some 3, none⟩,
    ⟨.load false 1 (.t 3), some 4, none⟩,
    ⟨.len true (.t 4), some 5, none⟩,
    ⟨.bin .leq .plain (.t 5) (.c (.p (.i .i64 12))), some 6, none⟩,
    ⟨.mv (.t 6), some 7, none⟩,
    ⟨.faddr 0 (.t 1), some 8, some (7, true)⟩,
    ⟨.load false 1 (.t 8), some 9, some (7, true)⟩,
    ⟨.mv (.t 9), some 10, some (7, true)⟩,
    ⟨.faddr 1 (.t 1), some 11, some (10, false)⟩,
    ⟨.load false 1 (.t 11), some 12, some (10, false)⟩,
    ⟨.bin .eql .plain (.t 12) (.c (.p (.s []))), some 13, some (10, false)⟩,
    ⟨.pick (.t 10) (.c (.p (.b true))) (.t 13), some 14, some (7, true)⟩,
    ⟨.pick (.t 7) (.t 14) (.c (.p (.b false))), some 15, none⟩,
    ⟨.mv (.t 15), some 2, none⟩])
  (.ret))
def J2B : AFn := ⟨1, 16, J1t, [.tmp 2], false⟩
def J6D : Jy := .reg false [] [⟨.mv (.t 5), some 18, none⟩,
    ⟨.bin .add .plain (.t 18) (.c (.p (.i .i64 1))), some 19, none⟩,
    ⟨.mv (.t 19), some 5, none⟩]
def J17 : Jy := .seq (.seq (.reg false [] [⟨.mv (.t 5), some 13, none⟩,
    ⟨.faddr 0 (.t 3), some 14, none⟩,
    ⟨.load false 1 (.t 14), some 15, none⟩,
    ⟨.len false (.t 15), some 16, none⟩,
    ⟨.bin .lss .plain (.t 13) (.t 16), some 17, none⟩])
  (.keep [0, 2, 3, 5, 17] (.cond (.t 17)
  (.skip)
  (.exit 0))))
  (.seq (.block 1 (.seq (.reg true [(1, 4)] [⟨.faddr 0 (.t 3), some 20, none⟩,
    ⟨.load false 1 (.t 20), some 21, none⟩,
    ⟨.mv (.t 5), some 22, none⟩,
    ⟨.mv (.t 0), some 23, none⟩,
    ⟨.call Jp [(.t 23), (.c (.p (.i .i64 40)))] 0, some 24, none⟩,
    ⟨.iaddr 3 (.t 21) (.t 22), some 25, none⟩,
    ⟨.faddr 0 (.t 25), some 26, none⟩,
    ⟨.store 1 (.t 26) (.t 24), none, none⟩])
  (.keep [0, 2, 3, 5] (.seq (.reg false [] [⟨.mv (.t 0), some 27, none⟩,
    ⟨.call Jp [(.t 27), (.c (.p (.i .i64 3)))] 0, some 28, none⟩,
    ⟨.bin .eql .plain (.t 28) (.c (.p (.i .i64 0))), some 29, none⟩])
  (.keep [0, 2, 3, 5, 29] (.cond (.t 29)
  (.reg true [(1, 7), (4, 7), (1, 10), (4, 10), (4, 13)] [⟨.faddr 0 (.t 3), some 30, none⟩,
      ⟨.load false 1 (.t 30), some 31, none⟩,
      ⟨.mv (.t 5), some 32, none⟩,
      ⟨.faddr 0 (.t 3), some 33, none⟩,
      ⟨.load false 1 (.t 33), some 34, none⟩,
      ⟨.mv (.t 5), some 35, none⟩,
      ⟨.mv (.t 0), some 36, none⟩,
      ⟨.call Jp [(.t 36), (.c (.p (.i .i64 4)))] 0, some 37, none⟩,
      ⟨.bin .add .plain (.c (.p (.i .i64 1))) (.t 37), some 38, none⟩,
      ⟨.mv (.t 0), some 39, none⟩,
      ⟨.call Jp [(.t 39), (.c (.p (.i .i64 40)))] 0, some 40, none⟩,
      ⟨.iaddr 3 (.t 31) (.t 32), some 41, none⟩,
      ⟨.faddr 1 (.t 41), some 42, none⟩,
      ⟨.store 1 (.t 42) (.t 38), none, none⟩,
      ⟨.iaddr 3 (.t 34) (.t 35), some 43, none⟩,
      ⟨.faddr 2 (.t 43), some 44, none⟩,
      ⟨.store 1 (.t 44) (.t 40), none, none⟩])
  (.skip)))))))
  (.keep [0, 2, 3, 5] J6D))
def J2h : Jy := .seq (.reg false [] [⟨.load true 1 (.t 3), some 45, none⟩,
    ⟨.store 1 (.t 2) (.t 45), none, none⟩])
  (.ret)
def J43 : Jy := .seq (.reg false [] [⟨.newbox (Ja default), some 2, none⟩])
  (.seq (.reg false [] [⟨.mv (.t 0), some 7, none⟩,
    ⟨.call Jp [(.t 7), (.c (.p (.i .i64 5)))] 0, some 8, none⟩,
    ⟨.bin .add .plain (.c (.p (.i .i64 1))) (.t 8), some 9, none⟩,
    ⟨.callo J5f [] [(.t 9)] 1, some 10, none⟩,
    ⟨.mv (.t 10), some 6, none⟩,
    ⟨.extr (.t 6) 0, some 11, none⟩,
    ⟨.extr (.t 6) 1, some 12, none⟩,
    ⟨.newbox (Ja default), some 3, none⟩,
    ⟨.store 1 (.t 3) (.t 11), none, none⟩,
    ⟨.mv (.t 12), some 4, none⟩])
  (.keep [0, 2, 3] (.seq (.seq (.reg false [] [⟨.mv (.c (.p (.i .i64 0))), some 5, none⟩])
  (.block 0 (.loop [0, 2, 3, 5] J17)))
  (.keep [2, 3] J2h))))
def J1k : AFn := ⟨1, 46, J43, [.cell 2 true 1], false⟩
def JM : Jy := .seq (.reg false [] [⟨.bin .lss .plain (.t 8) (.t 7), some 9, none⟩])
  (.seq (.cond (.t 9)
  (.skip)
  (.exit 0))
  (.seq (.block 1 (.seq (.reg false [] [⟨.mv (.t 8), some 10, none⟩,
    ⟨.mv (.t 10), some 5, none⟩])
  (.seq (.reg false [] [⟨.mv (.t 1), some 11, none⟩,
    ⟨.mv (.t 0), some 12, none⟩,
    ⟨.mv (.t 5), some 13, none⟩,
    ⟨.iaddr 3 (.t 12) (.t 13), some 14, none⟩,
    ⟨.load true 3 (.t 14), some 15, none⟩,
    ⟨.callv (.t 11) [(.t 15)] 0, some 16, none⟩])
  (.keep [0, 1, 5, 7, 8, 16] (.cond (.t 16)
  (.seq (.reg false [] [⟨.mv (.t 5), some 17, none⟩,
      ⟨.mv (.t 17), some 4, none⟩])
    (.ret))
  (.skip))))))
  (.reg false [] [⟨.bin .add .plain (.t 8) (.c (.p (.i .i64 1))), some 18, none⟩,
    ⟨.mv (.t 18), some 8, none⟩])))
def J06 : Jy := .seq (.reg false [] [⟨.mv (.c (.p (.i .i64 (-1)))), some 4, none⟩])
  (.ret)
def J0N : Jy := .seq (.reg false [] [⟨.mv (.c (.p (.i .i64 0))), some 4, none⟩])
  (.seq (.seq (.reg false [] [⟨.mv (.t 0), some 6, none⟩,
    ⟨.len false (.t 6), some 7, none⟩,
    ⟨.mv (.c (.p (.i .i64 0))), some 8, none⟩])
  (.keep [0, 1, 7, 8] (.block 0 (.loop [0, 1, 7, 8] JM))))
  (.keep [] J06))
def JL : AFn := ⟨2, 19, J0N, [.tmp 4], false⟩
def J0y : Jy := .seq (.reg false [] [⟨.mv (.c (.p (.b false))), some 4, none⟩])
  (.seq (.reg false [] [⟨.mv (.t 0), some 5, none⟩,
    ⟨.mv (.t 1), some 6, none⟩,
    ⟨.call J0q [(.t 5), (.t 6)] 0, some 7, none⟩,
    ⟨.bin .geq .plain (.t 7) (.c (.p (.i .i64 0))), some 8, none⟩,
    ⟨.mv (.t 8), some 4, none⟩])
  (.ret))
def J0f : AFn := ⟨2, 9, J0y, [.tmp 4], false⟩
def J1N : Jy := .seq (.reg false [] [⟨.box 1 (.t 0), some 1, none⟩,
    ⟨.mv (.c (.p (.b false))), some 2, none⟩])
  (.seq (.reg false [] [⟨.faddr 0 (.t 1), some 3, none⟩,
    ⟨.load false 1 (.t 3), some 4, none⟩,
    ⟨.len false (.t 4), some 5, none⟩,
    ⟨.bin .geq .plain (.t 5) (.c (.p (.i .i64 1))), some 6, none⟩,
    ⟨.mv (.t 6), some 7, none⟩,
    ⟨.faddr 0 (.t 1), some 8, some (7, true)⟩,
    ⟨.load false 1 (.t 8), some 9, some (7, true)⟩,
    ⟨.len false (.t 9), some 10, some (7, true)⟩,
    ⟨.bin .leq .plain (.t 10) (.c (.p (.i .i64 64))), some 11, some (7, true)⟩,
    ⟨.pick (.t 7) (.t 11) (.c (.p (.b false))), some 12, none⟩,
    ⟨.mv (.t 12), some 13, none⟩,
    ⟨.faddr 0 (.t 1), some 14, some (13, true)⟩,
    ⟨.load false 1 (.t 14), some 15, some (13, true)⟩,
    ⟨.call J0g [(.t 15), (.c (.fn JN [] []))] 0, some 16, some (13, true)⟩,
    ⟨.un .not (.t 16), some 17, some (13, true)⟩,
    ⟨.pick (.t 13) (.t 17) (.c (.p (.b false))), some 18, none⟩,
    ⟨.mv (.t 18), some 2, none⟩])
  (.ret))
def J2O : AFn := ⟨1, 19, J1N, [.tmp 2], false⟩
def J2t : Jy := .seq (.reg false [] [⟨.mv (.c (.p (.i .i64 0))), some 5, none⟩])
  (.seq (.reg false [] [⟨.load false 1 (.t 2), some 9, none⟩,
    ⟨.mv (.t 0), some 10, none⟩,
    ⟨.bin .mul .plain (.t 10) (.c (.p (.i .i64 24))), some 11, none⟩,
    ⟨.bin .add .plain (.c (.p (.i .i64 2))) (.t 11), some 12, none⟩,
    ⟨.mv (.t 1), some 13, none⟩,
    ⟨.bin .mul .plain (.t 13) (.c (.p (.i .i64 8))), some 14, none⟩,
    ⟨.bin .add .plain (.t 12) (.t 14), some 15, none⟩,
    ⟨.call J4A [(.t 9), (.t 15), (.c (.p (.i .i64 8)))] 0, some 16, none⟩,
    ⟨.mv (.t 16), some 8, none⟩,
    ⟨.extr (.t 8) 0, some 17, none⟩,
    ⟨.extr (.t 8) 1, some 18, none⟩,
    ⟨.mv (.t 17), some 6, none⟩,
    ⟨.mv (.t 18), some 7, none⟩])
  (.keep [6] (.seq (.reg false [] [⟨.mv (.t 6), some 19, none⟩,
    ⟨.mv (.t 19), some 5, none⟩])
  (.ret))))
def J1Q : AFn := ⟨3, 20, J2t, [.tmp 5], false⟩
def J1b : Jy := .seq (.reg false [] [⟨.bin .lss .plain (.t 36) (.t 35), some 37, none⟩])
  (.seq (.cond (.t 37)
  (.skip)
  (.exit 1))
  (.seq (.block 2 (.seq (.reg false [] [⟨.mv (.t 36), some 38, none⟩,
    ⟨.mv (.t 38), some 8, none⟩])
  (.reg true [(1, 4), (1, 7), (1, 10), (1, 12)] [⟨.faddr 0 (.t 7), some 39, none⟩,
    ⟨.load false 1 (.t 39), some 40, none⟩,
    ⟨.mv (.t 6), some 41, none⟩,
    ⟨.mv (.t 8), some 42, none⟩,
    ⟨.callv (.t 41) [(.t 42), (.c (.p (.i .i64 0)))] 0, some 43, none⟩,
    ⟨.mv (.t 6), some 44, none⟩,
    ⟨.mv (.t 8), some 45, none⟩,
    ⟨.callv (.t 44) [(.t 45), (.c (.p (.i .i64 1)))] 0, some 46, none⟩,
    ⟨.mv (.t 6), some 47, none⟩,
    ⟨.mv (.t 8), some 48, none⟩,
    ⟨.callv (.t 47) [(.t 48), (.c (.p (.i .i64 2)))] 0, some 49, none⟩,
    ⟨.build (J4 default) [(0, 1, (.t 43)), (1, 1, (.t 46)), (2, 1, (.t 49))], some 50, none⟩,
    ⟨.lits false 3 1 (J4 default) [(0, (.t 50))], some 51, none⟩,
    ⟨.app 3 24 (J4 default) (.t 40) (.t 51), some 52, none⟩,
    ⟨.faddr 0 (.t 7), some 53, none⟩,
    ⟨.store 1 (.t 53) (.t 52), none, none⟩])))
  (.reg false [] [⟨.bin .add .plain (.t 36) (.c (.p (.i .i64 1))), some 54, none⟩,
    ⟨.mv (.t 54), some 36, none⟩])))
def J0Q : Jy := .seq (.seq (.reg false [] [⟨.load true 1 (.t 7), some 55, none⟩,
    ⟨.call J1i [(.t 55)] 0, some 56, none⟩,
    ⟨.un .not (.t 56), some 57, none⟩])
  (.keep [2, 7, 57] (.cond (.t 57)
  (.seq (.reg false [] [⟨.buildo (Ja default) [] [(0, 3)], some 58, none⟩,
      ⟨.store 1 (.t 2) (.t 58), none, none⟩,
      ⟨.mv (.c (.p (.i .i64 28))), some 3, none⟩])
    (.ret))
  (.skip))))
  (.seq (.reg false [] [⟨.load true 1 (.t 7), some 59, none⟩,
    ⟨.store 1 (.t 2) (.t 59), none, none⟩,
    ⟨.mv (.c (.p (.i .i64 0))), some 3, none⟩])
  (.ret))
def J0F : Jy := .seq (.reg false [] [⟨.box 1 (.t 0), some 1, none⟩,
    ⟨.newboxo (Ja default) [(0, 3)], some 2, none⟩,
    ⟨.mv (.c (.p (.i .i64 0))), some 3, none⟩])
  (.keep [1, 2] (.seq (.reg false [] [⟨.load false 1 (.t 1), some 10, none⟩,
    ⟨.call J4A [(.t 10), (.c (.p (.i .i64 0))), (.c (.p (.i .i64 2)))] 0, some 11, none⟩,
    ⟨.mv (.t 11), some 9, none⟩,
    ⟨.extr (.t 9) 0, some 12, none⟩,
    ⟨.extr (.t 9) 1, some 13, none⟩,
    ⟨.mv (.t 12), some 4, none⟩,
    ⟨.mv (.t 13), some 5, none⟩])
  (.keep [1, 2, 4, 5] (.seq (.block 0 (.seq (.reg false [] [⟨.mv (.t 5), some 15, none⟩,
    ⟨.bin .neq .plain (.t 15) (.c (.p (.i .i64 0))), some 16, none⟩,
    ⟨.mv (.t 16), some 17, none⟩,
    ⟨.load false 1 (.t 1), some 18, some (17, false)⟩,
    ⟨.len true (.t 18), some 19, some (17, false)⟩,
    ⟨.mv (.t 4), some 20, some (17, false)⟩,
    ⟨.bin .mul .plain (.t 20) (.c (.p (.i .i64 24))), some 21, some (17, false)⟩,
    ⟨.bin .add .plain (.c (.p (.i .i64 2))) (.t 21), some 22, some (17, false)⟩,
    ⟨.bin .lss .plain (.t 19) (.t 22), some 23, some (17, false)⟩,
    ⟨.pick (.t 17) (.c (.p (.b true))) (.t 23), some 24, none⟩,
    ⟨.mv (.t 24), some 14, none⟩])
  (.keep [1, 2, 4, 14] (.cond (.t 14)
  (.seq (.reg false [] [⟨.buildo (Ja default) [] [(0, 3)], some 25, none⟩,
      ⟨.store 1 (.t 2) (.t 25), none, none⟩,
      ⟨.mv (.c (.p (.i .i64 5))), some 3, none⟩])
    (.ret))
  (.seq (.reg false [] [⟨.load false 1 (.t 1), some 27, none⟩,
      ⟨.len true (.t 27), some 28, none⟩,
      ⟨.mv (.t 4), some 29, none⟩,
      ⟨.bin .mul .plain (.t 29) (.c (.p (.i .i64 24))), some 30, none⟩,
      ⟨.bin .add .plain (.c (.p (.i .i64 2))) (.t 30), some 31, none⟩,
      ⟨.bin .gtr .plain (.t 28) (.t 31), some 32, none⟩,
      ⟨.mv (.t 32), some 26, none⟩])
    (.keep [1, 2, 4, 26] (.cond (.t 26)
    (.seq (.reg false [] [⟨.buildo (Ja default) [] [(0, 3)], some 33, none⟩,
        ⟨.store 1 (.t 2) (.t 33), none, none⟩,
        ⟨.mv (.c (.p (.i .i64 4))), some 3, none⟩])
      (.ret))
    (.skip))))))))
  (.seq (.reg false [] [⟨.mkfn JS [] [(.t 1)], some 34, none⟩,
    ⟨.mv (.t 34), some 6, none⟩])
  (.seq (.reg false [] [⟨.newboxo (Ja default) [(0, 3)], some 7, none⟩])
  (.seq (.seq (.reg false [] [⟨.mv (.t 4), some 35, none⟩,
    ⟨.mv (.c (.p (.i .i64 0))), some 36, none⟩])
  (.block 1 (.loop [2, 6, 7, 35, 36] J1b)))
  (.keep [2, 7] J0Q))))))))
def J0G : AFn := ⟨1, 60, J0F, [.cell 2 true 1, .tmp 3], false⟩
def J0U : Jy := .seq (.reg false [] [⟨.box 6 (.t 0), some 1, none⟩,
    ⟨.mv (.c (.p (.b false))), some 2, none⟩])
  (.seq (.reg false [] [⟨.faddr 0 (.t 1), some 3, none⟩,
    ⟨.load false 1 (.t 3), some 4, none⟩,
    ⟨.call J3N [(.t 4)] 0, some 5, none⟩,
    ⟨.mv (.t 5), some 6, none⟩,
    ⟨.faddr 1 (.t 1), some 7, some (6, true)⟩,
    ⟨.load false 1 (.t 7), some 8, some (6, true)⟩,
    ⟨.bin .geq .plain (.t 8) (.c (.p (.i .i64 0))), some 9, some (6, true)⟩,
    ⟨.pick (.t 6) (.t 9) (.c (.p (.b false))), some 10, none⟩,
    ⟨.mv (.t 10), some 11, none⟩,
    ⟨.faddr 1 (.t 1), some 12, some (11, true)⟩,
    ⟨.load false 1 (.t 12), some 13, some (11, true)⟩,
    ⟨.bin .lss .plain (.t 13) (.c (.p (.i .i64 16))), some 14, some (11, true)⟩,
    ⟨.pick (.t 11) (.t 14) (.c (.p (.b false))), some 15, none⟩,
    ⟨.mv (.t 15), some 16, none⟩,
    ⟨.faddr 2 (.t 1), some 17, some (16, true)⟩,
    ⟨.load true 2 (.t 17), some 18, some (16, true)⟩,
    ⟨.call J1Y [(.t 18)] 0, some 19, some (16, true)⟩,
    ⟨.pick (.t 16) (.t 19) (.c (.p (.b false))), some 20, none⟩,
    ⟨.mv (.t 20), some 21, none⟩,
    ⟨.faddr 4 (.t 1), some 22, some (21, true)⟩,
    ⟨.load true 2 (.t 22), some 23, some (21, true)⟩,
    ⟨.call J1Y [(.t 23)] 0, some 24, some (21, true)⟩,
    ⟨.pick (.t 21) (.t 24) (.c (.p (.b false))), some 25, none⟩,
    ⟨.mv (.t 25), some 2, none⟩])
  (.ret))
def J3T : AFn := ⟨1, 26, J0U, [.tmp 2], false⟩
def J2a : Jy := .reg true [(3, 6)] [⟨.mv (.t 0), some 4, none⟩,
    ⟨.mv (.t 0), some 5, none⟩,
    ⟨.load false 1 (.t 1), some 6, none⟩,
    ⟨.load false 1 (.t 2), some 7, none⟩,
    ⟨.nilchk (.t 4), some 8, none⟩,
    ⟨.faddr 1 (.t 8), some 9, none⟩,
    ⟨.store 1 (.t 9) (.t 6), none, none⟩,
    ⟨.nilchk (.t 5), some 10, none⟩,
    ⟨.faddr 2 (.t 10), some 11, none⟩,
    ⟨.store 1 (.t 11) (.t 7), none, none⟩]
def J1w : AFn := ⟨3, 12, J2a, [], false⟩
def J1V : Jy := .seq (.reg false [] [⟨.box 1 (.t 0), some 3, none⟩,
    ⟨.newbox (Ja default), some 6, none⟩])
  (.seq (.reg false [] [⟨.faddr 0 (.t 3), some 7, none⟩,
    ⟨.load false 1 (.t 7), some 8, none⟩,
    ⟨.call J0m [(.t 8)] 1, some 9, none⟩,
    ⟨.faddr 0 (.t 3), some 10, none⟩,
    ⟨.store 1 (.t 10) (.t 9), none, none⟩])
  (.keep [1, 2, 3, 6] (.seq (.reg false [] [⟨.mv (.t 2), some 11, none⟩,
    ⟨.faddr 0 (.t 3), some 12, none⟩,
    ⟨.load false 1 (.t 12), some 13, none⟩,
    ⟨.mv (.t 1), some 14, none⟩,
    ⟨.iaddr 3 (.t 13) (.t 14), some 15, none⟩,
    ⟨.callv (.t 11) [(.t 15)] 0, some 16, none⟩])
  (.keep [3, 6] (.seq (.reg false [] [⟨.load true 1 (.t 3), some 17, none⟩,
    ⟨.store 1 (.t 6) (.t 17), none, none⟩])
  (.ret))))))
def J1Z : AFn := ⟨3, 18, J1V, [.cell 6 true 1], false⟩
def JP : Jy := .seq (.reg false [] [⟨.box 1 (.t 0), some 4, none⟩,
    ⟨.box 1 (.t 2), some 6, none⟩,
    ⟨.box 1 (.t 3), some 7, none⟩,
    ⟨.newbox (Ja default), some 8, none⟩,
    ⟨.mv (.c (.p (.i .i64 0))), some 9, none⟩])
  (.keep [1, 4, 6, 7, 8] (.seq (.block 0 (.seq (.reg false [] [⟨.load true 1 (.t 4), some 11, none⟩,
    ⟨.call J1i [(.t 11)] 0, some 12, none⟩,
    ⟨.un .not (.t 12), some 13, none⟩,
    ⟨.mv (.t 13), some 10, none⟩])
  (.keep [1, 4, 6, 7, 8, 10] (.cond (.t 10)
  (.seq (.reg false [] [⟨.build (Ja default) [], some 14, none⟩,
      ⟨.store 1 (.t 8) (.t 14), none, none⟩,
      ⟨.mv (.c (.p (.i .i64 28))), some 9, none⟩])
    (.ret))
  (.seq (.reg false [] [⟨.load true 1 (.t 4), some 16, none⟩,
      ⟨.mv (.t 1), some 17, none⟩,
      ⟨.call J2b [(.t 16), (.t 17)] 0, some 18, none⟩,
      ⟨.un .not (.t 18), some 19, none⟩,
      ⟨.mv (.t 19), some 20, none⟩,
      ⟨.load false 1 (.t 6), some 21, some (20, false)⟩,
      ⟨.call J0A [(.t 21)] 0, some 22, some (20, false)⟩,
      ⟨.un .not (.t 22), some 23, some (20, false)⟩,
      ⟨.pick (.t 20) (.c (.p (.b true))) (.t 23), some 24, none⟩,
      ⟨.mv (.t 24), some 25, none⟩,
      ⟨.load false 1 (.t 7), some 26, some (25, false)⟩,
      ⟨.call J0A [(.t 26)] 0, some 27, some (25, false)⟩,
      ⟨.un .not (.t 27), some 28, some (25, false)⟩,
      ⟨.pick (.t 25) (.c (.p (.b true))) (.t 28), some 29, none⟩,
      ⟨.mv (.t 29), some 30, none⟩,
      ⟨.load false 1 (.t 6), some 31, some (30, false)⟩,
      ⟨.bin .eql .plain (.t 31) (.c (.p (.i .i64 0))), some 32, some (30, false)⟩,
      ⟨.mv (.t 32), some 33, some (30, false)⟩,
      ⟨.load false 1 (.t 7), some 34, some (33, true)⟩,
      ⟨.bin .neq .plain (.t 34) (.c (.p (.i .i64 0))), some 35, some (33, true)⟩,
      ⟨.pick (.t 33) (.t 35) (.c (.p (.b false))), some 36, some (30, false)⟩,
      ⟨.pick (.t 30) (.c (.p (.b true))) (.t 36), some 37, none⟩,
      ⟨.mv (.t 37), some 15, none⟩])
    (.keep [1, 4, 6, 7, 8, 15] (.cond (.t 15)
    (.seq (.reg false [] [⟨.build (Ja default) [], some 38, none⟩,
        ⟨.store 1 (.t 8) (.t 38), none, none⟩,
        ⟨.mv (.c (.p (.i .i64 1))), some 9, none⟩])
      (.ret))
    (.skip))))))))
  (.seq (.reg false [] [⟨.load true 1 (.t 4), some 39, none⟩,
    ⟨.mv (.t 1), some 40, none⟩,
    ⟨.mkfn J03 [] [(.t 6), (.t 7)], some 41, none⟩,
    ⟨.call J0T [(.t 39), (.t 40), (.t 41)] 0, some 42, none⟩,
    ⟨.store 1 (.t 8) (.t 42), none, none⟩,
    ⟨.mv (.c (.p (.i .i64 0))), some 9, none⟩])
  (.ret))))
def J26 : AFn := ⟨4, 43, JP, [.cell 8 true 1, .tmp 9], false⟩
def J19 : Jy := .seq (.reg false [] [⟨.bin .lss .plain (.t 17) (.t 16), some 18, none⟩])
  (.seq (.cond (.t 18)
  (.skip)
  (.exit 0))
  (.seq (.block 1 (.seq (.reg false [] [⟨.iaddr 3 (.t 15) (.t 17), some 19, none⟩,
    ⟨.load true 3 (.t 19), some 20, none⟩,
    ⟨.newbox (J4 default), some 6, none⟩,
    ⟨.store 3 (.t 6) (.t 20), none, none⟩])
  (.keep [4, 6, 15, 16, 17] (.reg true [(3, 5), (3, 8), (6, 8)] [⟨.mv (.t 4), some 21, none⟩,
    ⟨.faddr 0 (.t 6), some 22, none⟩,
    ⟨.load false 1 (.t 22), some 23, none⟩,
    ⟨.call J2m [(.t 21), (.t 23), (.c (.p (.i .i64 8)))] 0, some 24, none⟩,
    ⟨.faddr 1 (.t 6), some 25, none⟩,
    ⟨.load false 1 (.t 25), some 26, none⟩,
    ⟨.call J2m [(.t 24), (.t 26), (.c (.p (.i .i64 8)))] 0, some 27, none⟩,
    ⟨.faddr 2 (.t 6), some 28, none⟩,
    ⟨.load false 1 (.t 28), some 29, none⟩,
    ⟨.call J2m [(.t 27), (.t 29), (.c (.p (.i .i64 8)))] 0, some 30, none⟩,
    ⟨.mv (.t 30), some 4, none⟩]))))
  (.reg false [] [⟨.bin .add .plain (.t 17) (.c (.p (.i .i64 1))), some 31, none⟩,
    ⟨.mv (.t 31), some 17, none⟩])))
def J1F : Jy := .seq (.reg false [] [⟨.mv (.t 4), some 32, none⟩,
    ⟨.mv (.t 32), some 2, none⟩,
    ⟨.mv (.c (.p (.i .i64 0))), some 3, none⟩])
  (.ret)
def J1T : Jy := .seq (.reg false [] [⟨.box 1 (.t 0), some 1, none⟩,
    ⟨.mv (.c (.p (.s []))), some 2, none⟩,
    ⟨.mv (.c (.p (.i .i64 0))), some 3, none⟩])
  (.keep [1] (.seq (.seq (.reg false [] [⟨.load true 1 (.t 1), some 7, none⟩,
    ⟨.call J1i [(.t 7)] 0, some 8, none⟩,
    ⟨.un .not (.t 8), some 9, none⟩])
  (.keep [1, 9] (.cond (.t 9)
  (.seq (.reg false [] [⟨.mv (.c (.p (.s []))), some 2, none⟩,
      ⟨.mv (.c (.p (.i .i64 28))), some 3, none⟩])
    (.ret))
  (.skip))))
  (.seq (.reg false [] [⟨.faddr 0 (.t 1), some 10, none⟩,
    ⟨.load false 1 (.t 10), some 11, none⟩,
    ⟨.len false (.t 11), some 12, none⟩,
    ⟨.call J2m [(.c (.p (.s []))), (.t 12), (.c (.p (.i .i64 2)))] 0, some 13, none⟩,
    ⟨.mv (.t 13), some 4, none⟩])
  (.keep [1, 4] (.seq (.tidy [2, 3, 4] (.seq (.reg false [] [⟨.faddr 0 (.t 1), some 14, none⟩,
    ⟨.load false 1 (.t 14), some 15, none⟩,
    ⟨.len false (.t 15), some 16, none⟩,
    ⟨.mv (.c (.p (.i .i64 0))), some 17, none⟩])
  (.keep [4, 15, 16, 17] (.block 0 (.loop [4, 15, 16, 17] J19)))))
  (.keep [4] J1F))))))
def J0I : AFn := ⟨1, 33, J1T, [.tmp 2, .tmp 3], false⟩
def Jl : Jy := .cond (.t 47)
  (.seq (.reg false [] [⟨.mv (.c (.p (.b false))), some 2, none⟩])
    (.ret))
  (.seq (.seq (.reg false [] [⟨.faddr 0 (.t 3), some 68, none⟩,
      ⟨.load false 1 (.t 68), some 69, none⟩,
      ⟨.un .not (.t 69), some 70, none⟩,
      ⟨.mv (.t 70), some 71, none⟩,
      ⟨.faddr 2 (.t 1), some 72, some (71, true)⟩,
      ⟨.load false 1 (.t 72), some 73, some (71, true)⟩,
      ⟨.bin .neq .plain (.t 73) (.c (.p (.i .i64 0))), some 74, some (71, true)⟩,
      ⟨.mv (.t 74), some 75, some (71, true)⟩,
      ⟨.faddr 3 (.t 1), some 76, some (75, false)⟩,
      ⟨.load false 1 (.t 76), some 77, some (75, false)⟩,
      ⟨.bin .neq .plain (.t 77) (.c (.p (.i .i64 0))), some 78, some (75, false)⟩,
      ⟨.pick (.t 75) (.c (.p (.b true))) (.t 78), some 79, some (71, true)⟩,
      ⟨.pick (.t 71) (.t 79) (.c (.p (.b false))), some 80, none⟩,
      ⟨.mv (.t 80), some 67, none⟩])
    (.keep [1, 3, 67] (.cond (.t 67)
    (.skip)
    (.seq (.reg false [] [⟨.faddr 2 (.t 3), some 81, none⟩,
        ⟨.load false 1 (.t 81), some 82, none⟩,
        ⟨.un .not (.t 82), some 83, none⟩,
        ⟨.mv (.t 83), some 84, none⟩,
        ⟨.faddr 4 (.t 1), some 85, some (84, true)⟩,
        ⟨.load false 1 (.t 85), some 86, some (84, true)⟩,
        ⟨.bin .neq .plain (.t 86) (.c (.p (.i .i64 0))), some 87, some (84, true)⟩,
        ⟨.pick (.t 84) (.t 87) (.c (.p (.b false))), some 88, none⟩,
        ⟨.mv (.t 88), some 67, none⟩])
      (.keep [1, 3, 67] (.cond (.t 67)
      (.skip)
      (.seq (.reg false [] [⟨.faddr 3 (.t 3), some 89, none⟩,
          ⟨.load false 1 (.t 89), some 90, none⟩,
          ⟨.un .not (.t 90), some 91, none⟩,
          ⟨.mv (.t 91), some 92, none⟩,
          ⟨.faddr 5 (.t 1), some 93, some (92, true)⟩,
          ⟨.load false 1 (.t 93), some 94, some (92, true)⟩,
          ⟨.bin .neq .plain (.t 94) (.c (.p (.i .i64 0))), some 95, some (92, true)⟩,
          ⟨.pick (.t 92) (.t 95) (.c (.p (.b false))), some 96, none⟩,
          ⟨.mv (.t 96), some 67, none⟩])
        (.keep [1, 3, 67] (.cond (.t 67)
        (.skip)
        (.reg false [] [⟨.faddr 4 (.t 3), some 97, none⟩,
            ⟨.load false 1 (.t 97), some 98, none⟩,
            ⟨.un .not (.t 98), some 99, none⟩,
            ⟨.mv (.t 99), some 100, none⟩,
            ⟨.faddr 12 (.t 1), some 101, some (100, true)⟩,
            ⟨.load false 1 (.t 101), some 102, some (100, true)⟩,
            ⟨.bin .neq .plain (.t 102) (.c (.p (.s []))), some 103, some (100, true)⟩,
            ⟨.pick (.t 100) (.t 103) (.c (.p (.b false))), some 104, none⟩,
            ⟨.mv (.t 104), some 67, none⟩]))))))))))
    (.cond (.t 67)
    (.seq (.reg false [] [⟨.mv (.c (.p (.b false))), some 2, none⟩])
      (.ret))
    (.skip)))
def Jz : Jy := .seq (.reg false [] [⟨.faddr 12 (.t 1), some 105, none⟩,
    ⟨.load false 1 (.t 105), some 106, none⟩,
    ⟨.len true (.t 106), some 107, none⟩,
    ⟨.bin .leq .plain (.t 107) (.c (.p (.i .i64 8192))), some 108, none⟩,
    ⟨.mv (.t 108), some 109, none⟩,
    ⟨.faddr 5 (.t 3), some 110, some (109, true)⟩,
    ⟨.load false 1 (.t 110), some 111, some (109, true)⟩,
    ⟨.load true 13 (.t 1), some 112, some (109, true)⟩,
    ⟨.callv (.t 111) [(.t 112)] 0, some 113, some (109, true)⟩,
    ⟨.pick (.t 109) (.t 113) (.c (.p (.b false))), some 114, none⟩,
    ⟨.mv (.t 114), some 115, none⟩,
    ⟨.faddr 6 (.t 3), some 116, some (115, true)⟩,
    ⟨.load false 1 (.t 116), some 117, some (115, true)⟩,
    ⟨.faddr 6 (.t 1), some 118, some (115, true)⟩,
    ⟨.load true 6 (.t 118), some 119, some (115, true)⟩,
    ⟨.callv (.t 117) [(.t 119)] 0, some 120, some (115, true)⟩,
    ⟨.pick (.t 115) (.t 120) (.c (.p (.b false))), some 121, none⟩,
    ⟨.mv (.t 121), some 2, none⟩])
  (.ret)
def JZ : Jy := .seq (.block 0 (.seq (.seq (.reg false [] [⟨.faddr 0 (.t 3), some 48, none⟩,
    ⟨.load false 1 (.t 48), some 49, none⟩,
    ⟨.mv (.t 49), some 50, none⟩,
    ⟨.faddr 2 (.t 1), some 51, some (50, true)⟩,
    ⟨.load false 1 (.t 51), some 52, some (50, true)⟩,
    ⟨.bin .lss .plain (.t 52) (.c (.p (.i .i64 1))), some 53, some (50, true)⟩,
    ⟨.mv (.t 53), some 54, some (50, true)⟩,
    ⟨.faddr 2 (.t 1), some 55, some (54, false)⟩,
    ⟨.load false 1 (.t 55), some 56, some (54, false)⟩,
    ⟨.bin .gtr .plain (.t 56) (.c (.p (.i .i64 1073741824))), some 57, some (54, false)⟩,
    ⟨.pick (.t 54) (.c (.p (.b true))) (.t 57), some 58, some (50, true)⟩,
    ⟨.pick (.t 50) (.t 58) (.c (.p (.b false))), some 59, none⟩,
    ⟨.mv (.t 59), some 47, none⟩])
  (.keep [1, 3, 47] (.cond (.t 47)
  (.skip)
  (.reg false [] [⟨.faddr 1 (.t 3), some 60, none⟩,
      ⟨.load false 1 (.t 60), some 61, none⟩,
      ⟨.mv (.t 61), some 62, none⟩,
      ⟨.faddr 3 (.t 1), some 63, some (62, true)⟩,
      ⟨.load false 1 (.t 63), some 64, some (62, true)⟩,
      ⟨.bin .eql .plain (.t 64) (.c (.p (.i .i64 0))), some 65, some (62, true)⟩,
      ⟨.pick (.t 62) (.t 65) (.c (.p (.b false))), some 66, none⟩,
      ⟨.mv (.t 66), some 47, none⟩]))))
  (.keep [1, 3, 47] Jl)))
  (.keep [1, 3] Jz)
def JF : Jy := .seq (.reg false [] [⟨.box 13 (.t 0), some 1, none⟩,
    ⟨.mv (.c (.p (.b false))), some 2, none⟩])
  (.seq (.seq (.reg false [] [⟨.faddr 0 (.t 1), some 4, none⟩,
    ⟨.load false 1 (.t 4), some 5, none⟩,
    ⟨.bin .lss .plain (.t 5) (.c (.p (.i .i64 1))), some 6, none⟩,
    ⟨.mv (.t 6), some 7, none⟩,
    ⟨.faddr 0 (.t 1), some 8, some (7, false)⟩,
    ⟨.load false 1 (.t 8), some 9, some (7, false)⟩,
    ⟨.bin .gtr .plain (.t 9) (.c (.p (.i .i64 1099511627776))), some 10, some (7, false)⟩,
    ⟨.pick (.t 7) (.c (.p (.b true))) (.t 10), some 11, none⟩,
    ⟨.mv (.t 11), some 12, none⟩,
    ⟨.faddr 1 (.t 1), some 13, some (12, false)⟩,
    ⟨.load false 1 (.t 13), some 14, some (12, false)⟩,
    ⟨.bin .lss .plain (.t 14) (.c (.p (.i .i64 1))), some 15, some (12, false)⟩,
    ⟨.pick (.t 12) (.c (.p (.b true))) (.t 15), some 16, none⟩,
    ⟨.mv (.t 16), some 17, none⟩,
    ⟨.faddr 1 (.t 1), some 18, some (17, false)⟩,
    ⟨.load false 1 (.t 18), some 19, some (17, false)⟩,
    ⟨.bin .gtr .plain (.t 19) (.c (.p (.i .i64 8))), some 20, some (17, false)⟩,
    ⟨.pick (.t 17) (.c (.p (.b true))) (.t 20), some 21, none⟩,
    ⟨.mv (.t 21), some 22, none⟩,
    ⟨.faddr 3 (.t 1), some 23, some (22, false)⟩,
    ⟨.load false 1 (.t 23), some 24, some (22, false)⟩,
    ⟨.load true 13 (.t 1), some 25, some (22, false)⟩,
    ⟨.call J2w [(.t 24), (.t 25)] 0, some 26, some (22, false)⟩,
    ⟨.un .not (.t 26), some 27, some (22, false)⟩,
    ⟨.pick (.t 22) (.c (.p (.b true))) (.t 27), some 28, none⟩,
    ⟨.mv (.t 28), some 29, none⟩,
    ⟨.faddr 4 (.t 1), some 30, some (29, false)⟩,
    ⟨.load false 1 (.t 30), some 31, some (29, false)⟩,
    ⟨.load true 13 (.t 1), some 32, some (29, false)⟩,
    ⟨.call J2w [(.t 31), (.t 32)] 0, some 33, some (29, false)⟩,
    ⟨.un .not (.t 33), some 34, some (29, false)⟩,
    ⟨.pick (.t 29) (.c (.p (.b true))) (.t 34), some 35, none⟩,
    ⟨.mv (.t 35), some 36, none⟩,
    ⟨.faddr 5 (.t 1), some 37, some (36, false)⟩,
    ⟨.load false 1 (.t 37), some 38, some (36, false)⟩,
    ⟨.load true 13 (.t 1), some 39, some (36, false)⟩,
    ⟨.call J2w [(.t 38), (.t 39)] 0, some 40, some (36, false)⟩,
    ⟨.un .not (.t 40), some 41, some (36, false)⟩,
    ⟨.pick (.t 36) (.c (.p (.b true))) (.t 41), some 42, none⟩])
  (.keep [1, 42] (.cond (.t 42)
  (.seq (.reg false [] [⟨.mv (.c (.p (.b false))), some 2, none⟩])
    (.ret))
  (.skip))))
  (.seq (.reg true [(0, 2), (0, 4), (2, 4)] [⟨.call J3s [] 0, some 43, none⟩,
    ⟨.faddr 1 (.t 1), some 44, none⟩,
    ⟨.load false 1 (.t 44), some 45, none⟩,
    ⟨.aidx true 9 7 (.t 43) (.t 45), some 46, none⟩,
    ⟨.newbox [.b false, .b false, .b false, .b false, .b false, .nf, .nf], some 3, none⟩,
    ⟨.store 7 (.t 3) (.t 46), none, none⟩])
  (.keep [1, 3] JZ)))
def J07 : AFn := ⟨1, 122, JF, [.tmp 2], false⟩
def J2Y : Jy := .reg true [] [⟨.mv (.t 0), some 3, none⟩,
    ⟨.mv (.t 0), some 4, none⟩,
    ⟨.nilchk (.t 4), some 5, none⟩,
    ⟨.faddr 0 (.t 5), some 6, none⟩,
    ⟨.load false 1 (.t 6), some 7, none⟩,
    ⟨.faddr 5 (.t 1), some 8, none⟩,
    ⟨.load false 1 (.t 8), some 9, none⟩,
    ⟨.mm true (.t 7) (.t 9), some 10, none⟩,
    ⟨.nilchk (.t 3), some 11, none⟩,
    ⟨.faddr 0 (.t 11), some 12, none⟩,
    ⟨.store 1 (.t 12) (.t 10), none, none⟩]
def J2i : AFn := ⟨2, 13, J2Y, [], false⟩
def J0x : Jy := .seq (.reg false [] [⟨.box 1 (.t 0), some 2, none⟩,
    ⟨.box 13 (.t 1), some 3, none⟩,
    ⟨.newbox (Ja default), some 4, none⟩,
    ⟨.mv (.c (.p (.i .i64 0))), some 5, none⟩])
  (.keep [2, 3, 4] (.seq (.block 0 (.seq (.reg false [] [⟨.load true 1 (.t 2), some 7, none⟩,
    ⟨.call J1i [(.t 7)] 0, some 8, none⟩,
    ⟨.un .not (.t 8), some 9, none⟩,
    ⟨.mv (.t 9), some 6, none⟩])
  (.keep [2, 3, 4, 6] (.cond (.t 6)
  (.seq (.reg false [] [⟨.build (Ja default) [], some 10, none⟩,
      ⟨.store 1 (.t 4) (.t 10), none, none⟩,
      ⟨.mv (.c (.p (.i .i64 28))), some 5, none⟩])
    (.ret))
  (.seq (.reg false [] [⟨.load true 13 (.t 3), some 12, none⟩,
      ⟨.call J46 [(.t 12)] 0, some 13, none⟩,
      ⟨.un .not (.t 13), some 14, none⟩,
      ⟨.mv (.t 14), some 11, none⟩])
    (.keep [2, 3, 4, 11] (.cond (.t 11)
    (.seq (.reg false [] [⟨.build (Ja default) [], some 15, none⟩,
        ⟨.store 1 (.t 4) (.t 15), none, none⟩,
        ⟨.mv (.c (.p (.i .i64 12))), some 5, none⟩])
      (.ret))
    (.seq (.reg false [] [⟨.faddr 1 (.t 3), some 17, none⟩,
        ⟨.load false 1 (.t 17), some 18, none⟩,
        ⟨.bin .neq .plain (.t 18) (.c (.p (.i .i64 7))), some 19, none⟩,
        ⟨.mv (.t 19), some 16, none⟩])
      (.keep [2, 3, 4, 16] (.cond (.t 16)
      (.seq (.reg false [] [⟨.load true 1 (.t 2), some 20, none⟩,
          ⟨.store 1 (.t 4) (.t 20), none, none⟩,
          ⟨.mv (.c (.p (.i .i64 0))), some 5, none⟩])
        (.ret))
      (.seq (.reg false [] [⟨.load true 1 (.t 2), some 22, none⟩,
          ⟨.faddr 6 (.t 3), some 23, none⟩,
          ⟨.faddr 0 (.t 23), some 24, none⟩,
          ⟨.load false 1 (.t 24), some 25, none⟩,
          ⟨.call J2b [(.t 22), (.t 25)] 0, some 26, none⟩,
          ⟨.un .not (.t 26), some 27, none⟩,
          ⟨.mv (.t 27), some 21, none⟩])
        (.keep [2, 3, 4, 21] (.cond (.t 21)
        (.seq (.reg false [] [⟨.build (Ja default) [], some 28, none⟩,
            ⟨.store 1 (.t 4) (.t 28), none, none⟩,
            ⟨.mv (.c (.p (.i .i64 1))), some 5, none⟩])
          (.ret))
        (.skip))))))))))))))
  (.seq (.reg false [] [⟨.load true 1 (.t 2), some 29, none⟩,
    ⟨.faddr 6 (.t 3), some 30, none⟩,
    ⟨.faddr 0 (.t 30), some 31, none⟩,
    ⟨.load false 1 (.t 31), some 32, none⟩,
    ⟨.mkfn J0M [] [(.t 3)], some 33, none⟩,
    ⟨.call J0T [(.t 29), (.t 32), (.t 33)] 0, some 34, none⟩,
    ⟨.store 1 (.t 4) (.t 34), none, none⟩,
    ⟨.mv (.c (.p (.i .i64 0))), some 5, none⟩])
  (.ret))))
def J35 : AFn := ⟨2, 35, J0x, [.cell 4 true 1, .tmp 5], false⟩
def J13 : Jy := .seq (.reg false [] [⟨.mv (.c (.p (.b false))), some 0, none⟩])
  (.seq (.reg false [] [⟨.call J3n [(.c (.p (.i .i64 2)))] 0, some 6, none⟩,
    ⟨.mv (.t 6), some 5, none⟩,
    ⟨.extr (.t 5) 0, some 7, none⟩,
    ⟨.extr (.t 5) 1, some 8, none⟩,
    ⟨.newbox (Ja default), some 1, none⟩,
    ⟨.store 1 (.t 1) (.t 7), none, none⟩,
    ⟨.mv (.t 8), some 2, none⟩])
  (.keep [1, 2] (.seq (.reg false [] [⟨.load true 1 (.t 1), some 10, none⟩,
    ⟨.build (J8 default) [(0, 1, (.c (.p (.i .i64 1))))], some 11, none⟩,
    ⟨.build (J2 default) [(0, 1, (.c (.p (.i .i64 9)))), (1, 1, (.c (.p (.i .i64 7)))), (5, 1, (.c (.p (.i .i64 5)))), (6, 6, (.t 11))], some 12, none⟩,
    ⟨.call J0X [(.t 10), (.t 12)] 0, some 13, none⟩,
    ⟨.mv (.t 13), some 9, none⟩,
    ⟨.extr (.t 9) 0, some 14, none⟩,
    ⟨.extr (.t 9) 1, some 15, none⟩,
    ⟨.store 1 (.t 1) (.t 14), none, none⟩,
    ⟨.mv (.t 15), some 3, none⟩])
  (.keep [1, 2, 3] (.seq (.reg false [] [⟨.load true 1 (.t 1), some 17, none⟩,
    ⟨.build (J8 default) [(0, 1, (.c (.p (.i .i64 1))))], some 18, none⟩,
    ⟨.build (J2 default) [(0, 1, (.c (.p (.i .i64 10)))), (1, 1, (.c (.p (.i .i64 7)))), (5, 1, (.c (.p (.i .i64 3)))), (6, 6, (.t 18))], some 19, none⟩,
    ⟨.call J0X [(.t 17), (.t 19)] 0, some 20, none⟩,
    ⟨.mv (.t 20), some 16, none⟩,
    ⟨.extr (.t 16) 0, some 21, none⟩,
    ⟨.extr (.t 16) 1, some 22, none⟩,
    ⟨.store 1 (.t 1) (.t 21), none, none⟩,
    ⟨.mv (.t 22), some 4, none⟩])
  (.keep [1, 2, 3, 4] (.seq (.reg false [] [⟨.mv (.t 2), some 23, none⟩,
    ⟨.bin .eql .plain (.t 23) (.c (.p (.i .i64 0))), some 24, none⟩,
    ⟨.mv (.t 24), some 25, none⟩,
    ⟨.mv (.t 3), some 26, some (25, true)⟩,
    ⟨.bin .eql .plain (.t 26) (.c (.p (.i .i64 0))), some 27, some (25, true)⟩,
    ⟨.pick (.t 25) (.t 27) (.c (.p (.b false))), some 28, none⟩,
    ⟨.mv (.t 28), some 29, none⟩,
    ⟨.mv (.t 4), some 30, some (29, true)⟩,
    ⟨.bin .eql .plain (.t 30) (.c (.p (.i .i64 0))), some 31, some (29, true)⟩,
    ⟨.pick (.t 29) (.t 31) (.c (.p (.b false))), some 32, none⟩,
    ⟨.mv (.t 32), some 33, none⟩,
    ⟨.faddr 0 (.t 1), some 34, some (33, true)⟩,
    ⟨.load false 1 (.t 34), some 35, some (33, true)⟩,
    ⟨.len false (.t 35), some 36, some (33, true)⟩,
    ⟨.bin .eql .plain (.t 36) (.c (.p (.i .i64 2))), some 37, some (33, true)⟩,
    ⟨.pick (.t 33) (.t 37) (.c (.p (.b false))), some 38, none⟩,
    ⟨.mv (.t 38), some 39, none⟩,
    ⟨.faddr 0 (.t 1), some 40, some (39, true)⟩,
    ⟨.load false 1 (.t 40), some 41, some (39, true)⟩,
    ⟨.iaddr 3 (.t 41) (.c (.p (.i .i64 1))), some 42, some (39, true)⟩,
    ⟨.faddr 0 (.t 42), some 43, some (39, true)⟩,
    ⟨.load false 1 (.t 43), some 44, some (39, true)⟩,
    ⟨.bin .eql .plain (.t 44) (.c (.p (.i .i64 5))), some 45, some (39, true)⟩,
    ⟨.pick (.t 39) (.t 45) (.c (.p (.b false))), some 46, none⟩,
    ⟨.mv (.t 46), some 0, none⟩])
  (.ret))))))))
def J49 : AFn := ⟨0, 47, J13, [.tmp 0], false⟩
def JK : Jy := .seq (.reg false [] [⟨.load true 1 (.t 6), some 86, none⟩,
    ⟨.load true 13 (.t 11), some 87, none⟩,
    ⟨.call J0X [(.t 86), (.t 87)] 0, some 88, none⟩,
    ⟨.mv (.t 88), some 85, none⟩,
    ⟨.extr (.t 85) 0, some 89, none⟩,
    ⟨.extr (.t 85) 1, some 90, none⟩,
    ⟨.newbox (Ja default), some 17, none⟩,
    ⟨.store 1 (.t 17) (.t 89), none, none⟩,
    ⟨.mv (.t 90), some 18, none⟩])
  (.keep [6, 12, 13, 14, 15, 16, 17, 18] (.seq (.reg false [] [⟨.load true 1 (.t 17), some 92, none⟩,
    ⟨.load true 13 (.t 12), some 93, none⟩,
    ⟨.call J0X [(.t 92), (.t 93)] 0, some 94, none⟩,
    ⟨.mv (.t 94), some 91, none⟩,
    ⟨.extr (.t 91) 0, some 95, none⟩,
    ⟨.extr (.t 91) 1, some 96, none⟩,
    ⟨.store 1 (.t 17) (.t 95), none, none⟩,
    ⟨.mv (.t 96), some 19, none⟩])
  (.keep [6, 13, 14, 15, 16, 17, 18, 19] (.seq (.reg false [] [⟨.load true 1 (.t 17), some 98, none⟩,
    ⟨.mv (.t 13), some 99, none⟩,
    ⟨.mv (.t 14), some 100, none⟩,
    ⟨.call J1A [(.t 98), (.c (.p (.i .i64 0))), (.t 99), (.t 100)] 0, some 101, none⟩,
    ⟨.mv (.t 101), some 97, none⟩,
    ⟨.extr (.t 97) 0, some 102, none⟩,
    ⟨.extr (.t 97) 1, some 103, none⟩,
    ⟨.store 1 (.t 17) (.t 102), none, none⟩,
    ⟨.mv (.t 103), some 20, none⟩])
  (.keep [6, 13, 14, 15, 16, 17, 18, 19, 20] (.seq (.reg false [] [⟨.load true 1 (.t 6), some 105, none⟩,
    ⟨.mv (.t 13), some 106, none⟩,
    ⟨.mv (.t 14), some 107, none⟩,
    ⟨.call J1A [(.t 105), (.c (.p (.i .i64 0))), (.t 106), (.t 107)] 0, some 108, none⟩,
    ⟨.mv (.t 108), some 104, none⟩,
    ⟨.extr (.t 104) 0, some 109, none⟩,
    ⟨.extr (.t 104) 1, some 110, none⟩,
    ⟨.newbox (Ja default), some 21, none⟩,
    ⟨.store 1 (.t 21) (.t 109), none, none⟩,
    ⟨.mv (.t 110), some 22, none⟩])
  (.keep [15, 16, 17, 18, 19, 20, 21, 22] (.seq (.reg false [] [⟨.load true 1 (.t 21), some 112, none⟩,
    ⟨.load true 13 (.t 15), some 113, none⟩,
    ⟨.call J0X [(.t 112), (.t 113)] 0, some 114, none⟩,
    ⟨.mv (.t 114), some 111, none⟩,
    ⟨.extr (.t 111) 0, some 115, none⟩,
    ⟨.extr (.t 111) 1, some 116, none⟩,
    ⟨.store 1 (.t 21) (.t 115), none, none⟩,
    ⟨.mv (.t 116), some 23, none⟩])
  (.keep [16, 17, 18, 19, 20, 21, 22, 23] (.seq (.reg false [] [⟨.load true 1 (.t 21), some 118, none⟩,
    ⟨.load true 13 (.t 16), some 119, none⟩,
    ⟨.call J0X [(.t 118), (.t 119)] 0, some 120, none⟩,
    ⟨.mv (.t 120), some 117, none⟩,
    ⟨.extr (.t 117) 0, some 121, none⟩,
    ⟨.extr (.t 117) 1, some 122, none⟩,
    ⟨.store 1 (.t 21) (.t 121), none, none⟩,
    ⟨.mv (.t 122), some 24, none⟩])
  (.keep [17, 18, 19, 20, 21, 22, 23, 24] (.seq (.reg false [] [⟨.mv (.t 18), some 123, none⟩,
    ⟨.bin .eql .plain (.t 123) (.c (.p (.i .i64 0))), some 124, none⟩,
    ⟨.mv (.t 124), some 125, none⟩,
    ⟨.mv (.t 19), some 126, some (125, true)⟩,
    ⟨.bin .eql .plain (.t 126) (.c (.p (.i .i64 0))), some 127, some (125, true)⟩,
    ⟨.pick (.t 125) (.t 127) (.c (.p (.b false))), some 128, none⟩,
    ⟨.mv (.t 128), some 129, none⟩,
    ⟨.mv (.t 20), some 130, some (129, true)⟩,
    ⟨.bin .eql .plain (.t 130) (.c (.p (.i .i64 0))), some 131, some (129, true)⟩,
    ⟨.pick (.t 129) (.t 131) (.c (.p (.b false))), some 132, none⟩,
    ⟨.mv (.t 132), some 133, none⟩,
    ⟨.mv (.t 22), some 134, some (133, true)⟩,
    ⟨.bin .eql .plain (.t 134) (.c (.p (.i .i64 0))), some 135, some (133, true)⟩,
    ⟨.pick (.t 133) (.t 135) (.c (.p (.b false))), some 136, none⟩,
    ⟨.mv (.t 136), some 137, none⟩,
    ⟨.mv (.t 23), some 138, some (137, true)⟩,
    ⟨.bin .eql .plain (.t 138) (.c (.p (.i .i64 0))), some 139, some (137, true)⟩,
    ⟨.pick (.t 137) (.t 139) (.c (.p (.b false))), some 140, none⟩,
    ⟨.mv (.t 140), some 141, none⟩,
    ⟨.mv (.t 24), some 142, some (141, true)⟩,
    ⟨.bin .eql .plain (.t 142) (.c (.p (.i .i64 0))), some 143, some (141, true)⟩,
    ⟨.pick (.t 141) (.t 143) (.c (.p (.b false))), some 144, none⟩,
    ⟨.mv (.t 144), some 145, none⟩,
    ⟨.load true 1 (.t 17), some 146, some (145, true)⟩,
    ⟨.load true 1 (.t 21), some 147, some (145, true)⟩,
    ⟨.call J3V [(.t 146), (.t 147)] 0, some 148, some (145, true)⟩,
    ⟨.pick (.t 145) (.t 148) (.c (.p (.b false))), some 149, none⟩,
    ⟨.mv (.t 149), some 4, none⟩])
  (.ret)))))))))))))
def JI : Jy := .seq (.reg false [] [⟨.mv (.c (.p (.b false))), some 4, none⟩])
  (.seq (.seq (.reg false [] [⟨.call J4d [] 0, some 25, none⟩,
    ⟨.un .not (.t 25), some 26, none⟩])
  (.cond (.t 26)
  (.seq (.reg false [] [⟨.mv (.c (.p (.b false))), some 4, none⟩])
    (.ret))
  (.skip)))
  (.seq (.reg false [] [⟨.mv (.t 0), some 27, none⟩,
    ⟨.call J5Q [(.t 27), (.c (.p (.i .i64 100)))] 1, some 28, none⟩,
    ⟨.mv (.t 28), some 5, none⟩])
  (.keep [1, 5] (.seq (.reg false [] [⟨.mv (.t 5), some 29, none⟩,
    ⟨.call J4a [(.t 29)] 0, some 30, none⟩,
    ⟨.newbox (Ja default), some 6, none⟩,
    ⟨.store 1 (.t 6) (.t 30), none, none⟩])
  (.keep [1, 5, 6] (.seq (.reg false [] [⟨.load true 1 (.t 6), some 32, none⟩,
    ⟨.call J2y [(.t 32)] 0, some 33, none⟩,
    ⟨.mv (.t 33), some 31, none⟩,
    ⟨.extr (.t 31) 0, some 34, none⟩,
    ⟨.extr (.t 31) 1, some 35, none⟩,
    ⟨.mv (.t 34), some 7, none⟩,
    ⟨.mv (.t 35), some 8, none⟩])
  (.keep [1, 5, 6, 7, 8] (.seq (.reg false [] [⟨.mv (.t 7), some 37, none⟩,
    ⟨.call J2s [(.t 37)] 0, some 38, none⟩,
    ⟨.mv (.t 38), some 36, none⟩,
    ⟨.extr (.t 36) 0, some 39, none⟩,
    ⟨.extr (.t 36) 1, some 40, none⟩,
    ⟨.newbox (Ja default), some 9, none⟩,
    ⟨.store 1 (.t 9) (.t 39), none, none⟩,
    ⟨.mv (.t 40), some 10, none⟩])
  (.keep [1, 5, 6, 7, 8, 9, 10] (.seq (.seq (.reg false [] [⟨.mv (.t 8), some 41, none⟩,
    ⟨.bin .neq .plain (.t 41) (.c (.p (.i .i64 0))), some 42, none⟩,
    ⟨.mv (.t 42), some 43, none⟩,
    ⟨.mv (.t 10), some 44, some (43, false)⟩,
    ⟨.bin .neq .plain (.t 44) (.c (.p (.i .i64 0))), some 45, some (43, false)⟩,
    ⟨.pick (.t 43) (.c (.p (.b true))) (.t 45), some 46, none⟩,
    ⟨.mv (.t 46), some 47, none⟩,
    ⟨.load true 1 (.t 6), some 48, some (47, false)⟩,
    ⟨.load true 1 (.t 9), some 49, some (47, false)⟩,
    ⟨.call J3V [(.t 48), (.t 49)] 0, some 50, some (47, false)⟩,
    ⟨.un .not (.t 50), some 51, some (47, false)⟩,
    ⟨.pick (.t 47) (.c (.p (.b true))) (.t 51), some 52, none⟩,
    ⟨.mv (.t 52), some 53, none⟩,
    ⟨.mv (.t 7), some 54, some (53, false)⟩,
    ⟨.len true (.t 54), some 55, some (53, false)⟩,
    ⟨.faddr 0 (.t 6), some 56, some (53, false)⟩,
    ⟨.load false 1 (.t 56), some 57, some (53, false)⟩,
    ⟨.len false (.t 57), some 58, some (53, false)⟩,
    ⟨.bin .mul .plain (.c (.p (.i .i64 24))) (.t 58), some 59, some (53, false)⟩,
    ⟨.bin .add .plain (.c (.p (.i .i64 2))) (.t 59), some 60, some (53, false)⟩,
    ⟨.bin .neq .plain (.t 55) (.t 60), some 61, some (53, false)⟩,
    ⟨.pick (.t 53) (.c (.p (.b true))) (.t 61), some 62, none⟩])
  (.keep [1, 5, 6, 62] (.cond (.t 62)
  (.seq (.reg false [] [⟨.mv (.c (.p (.b false))), some 4, none⟩])
    (.ret))
  (.skip))))
  (.seq (.reg false [] [⟨.mv (.t 5), some 63, none⟩,
    ⟨.call Jp [(.t 63), (.c (.p (.i .i64 80)))] 0, some 64, none⟩,
    ⟨.build (J2 default) [(0, 1, (.c (.p (.i .i64 90)))), (1, 1, (.c (.p (.i .i64 7)))), (5, 1, (.t 64))], some 65, none⟩,
    ⟨.newbox (J2 default), some 11, none⟩,
    ⟨.store 13 (.t 11) (.t 65), none, none⟩])
  (.keep [1, 5, 6, 11] (.seq (.reg true [(1, 4), (1, 9), (4, 9), (6, 9)] [⟨.mv (.t 5), some 66, none⟩,
    ⟨.call Jp [(.t 66), (.c (.p (.i .i64 80)))] 0, some 67, none⟩,
    ⟨.mv (.t 5), some 68, none⟩,
    ⟨.faddr 0 (.t 6), some 69, none⟩,
    ⟨.load false 1 (.t 69), some 70, none⟩,
    ⟨.len false (.t 70), some 71, none⟩,
    ⟨.call Jp [(.t 68), (.t 71)] 0, some 72, none⟩,
    ⟨.build (J8 default) [(0, 1, (.t 72))], some 73, none⟩,
    ⟨.build (J2 default) [(0, 1, (.c (.p (.i .i64 91)))), (1, 1, (.c (.p (.i .i64 7)))), (5, 1, (.t 67)), (6, 6, (.t 73))], some 74, none⟩,
    ⟨.newbox (J2 default), some 12, none⟩,
    ⟨.store 13 (.t 12) (.t 74), none, none⟩])
  (.keep [1, 5, 6, 11, 12] (.seq (.reg false [] [⟨.mv (.t 5), some 75, none⟩,
    ⟨.call Jp [(.t 75), (.c (.p (.i .i64 9)))] 0, some 76, none⟩,
    ⟨.bin .add .plain (.c (.p (.i .i64 1))) (.t 76), some 77, none⟩,
    ⟨.mv (.t 5), some 78, none⟩,
    ⟨.call Jp [(.t 78), (.c (.p (.i .i64 50)))] 0, some 79, none⟩,
    ⟨.mv (.t 77), some 13, none⟩,
    ⟨.mv (.t 79), some 14, none⟩])
  (.keep [1, 6, 11, 12, 13, 14] (.seq (.reg true [(0, 2), (1, 2), (0, 3), (1, 3), (2, 3), (1, 4)] [⟨.load true 13 (.t 11), some 80, none⟩,
    ⟨.load true 13 (.t 12), some 81, none⟩,
    ⟨.newbox (J2 default), some 15, none⟩,
    ⟨.newbox (J2 default), some 16, none⟩,
    ⟨.store 13 (.t 15) (.t 80), none, none⟩,
    ⟨.store 13 (.t 16) (.t 81), none, none⟩])
  (.keep [1, 6, 11, 12, 13, 14, 15, 16] (.seq (.seq (.reg false [] [⟨.mv (.t 1), some 82, none⟩])
  (.cond (.t 82)
  (.reg true [(1, 2)] [⟨.load true 13 (.t 12), some 83, none⟩,
      ⟨.load true 13 (.t 11), some 84, none⟩,
      ⟨.store 13 (.t 15) (.t 83), none, none⟩,
      ⟨.store 13 (.t 16) (.t 84), none, none⟩])
  (.skip)))
  (.keep [6, 11, 12, 13, 14, 15, 16] JK))))))))))))))))))))
def J0V : AFn := ⟨2, 150, JI, [.tmp 4], false⟩
theorem Jhu : J59.res = [.tmp 4] ∧ J59.fresh = false := ⟨rfl, rfl⟩
theorem J4C : J2L.res = [.tmp 4] ∧ J2L.fresh = false := ⟨rfl, rfl⟩
theorem J8d : J1X.res = [.tmp 4] ∧ J1X.fresh = false := ⟨rfl, rfl⟩
theorem J6L : J3o.res = [.cell 2 true 1, .tmp 3] ∧ J3o.fresh = false := ⟨rfl, rfl⟩
theorem J8Q : J5j.res = [.cell 2 true 1, .tmp 3] ∧ J5j.fresh = true := ⟨rfl, rfl⟩
theorem J7v : J2P.res = [.tmp 4] ∧ J2P.fresh = false := ⟨rfl, rfl⟩
theorem J6G : J22.res = [.tmp 2] ∧ J22.fresh = false := ⟨rfl, rfl⟩
theorem J2K : J27.res = [.tmp 2] ∧ J27.fresh = false := ⟨rfl, rfl⟩
theorem J5h : J2j.res = [.tmp 6, .tmp 7] ∧ J2j.fresh = false := ⟨rfl, rfl⟩
theorem J94 : J3K.res = [.tmp 4] ∧ J3K.fresh = false := ⟨rfl, rfl⟩
theorem JeT : J4b.res = [.cell 0 true 63] ∧ J4b.fresh = false := ⟨rfl, rfl⟩
theorem Jck : J3a.res = [.tmp 2] ∧ J3a.fresh = false := ⟨rfl, rfl⟩
theorem Jfm : J4T.res = [.tmp 2] ∧ J4T.fresh = false := ⟨rfl, rfl⟩
theorem J8h : J32.res = [.tmp 2] ∧ J32.fresh = false := ⟨rfl, rfl⟩
theorem J6i : J39.res = [.tmp 2] ∧ J39.fresh = false := ⟨rfl, rfl⟩
theorem J9b : J3O.res = [.tmp 2] ∧ J3O.fresh = false := ⟨rfl, rfl⟩
theorem J5F : J2B.res = [.tmp 2] ∧ J2B.fresh = false := ⟨rfl, rfl⟩
theorem JeQ : J1k.res = [.cell 2 true 1] ∧ J1k.fresh = false := ⟨rfl, rfl⟩
theorem J3A : JL.res = [.tmp 4] ∧ JL.fresh = false := ⟨rfl, rfl⟩
theorem J5v : J0f.res = [.tmp 4] ∧ J0f.fresh = false := ⟨rfl, rfl⟩
theorem J5V : J2O.res = [.tmp 2] ∧ J2O.fresh = false := ⟨rfl, rfl⟩
theorem J95 : J1Q.res = [.tmp 5] ∧ J1Q.fresh = false := ⟨rfl, rfl⟩
theorem J3j : J0G.res = [.cell 2 true 1, .tmp 3] ∧ J0G.fresh = false := ⟨rfl, rfl⟩
theorem J4W : J3T.res = [.tmp 2] ∧ J3T.fresh = false := ⟨rfl, rfl⟩
theorem J8n : J1w.res = [] ∧ J1w.fresh = false := ⟨rfl, rfl⟩
theorem J7k : J1Z.res = [.cell 6 true 1] ∧ J1Z.fresh = false := ⟨rfl, rfl⟩
theorem J1B : J26.res = [.cell 8 true 1, .tmp 9] ∧ J26.fresh = false := ⟨rfl, rfl⟩
theorem J7l : J0I.res = [.tmp 2, .tmp 3] ∧ J0I.fresh = false := ⟨rfl, rfl⟩
theorem Jt : J07.res = [.tmp 2] ∧ J07.fresh = false := ⟨rfl, rfl⟩
theorem Jap : J2i.res = [] ∧ J2i.fresh = false := ⟨rfl, rfl⟩
theorem J40 : J35.res = [.cell 4 true 1, .tmp 5] ∧ J35.fresh = false := ⟨rfl, rfl⟩
theorem J5b : J49.res = [.tmp 0] ∧ J49.fresh = false := ⟨rfl, rfl⟩
theorem J00 : J0V.res = [.tmp 4] ∧ J0V.fresh = false := ⟨rfl, rfl⟩
def fns : List (FuncId × AFn) := [(J5Q, J59), (Jp, J2L), (J3V, J1X), (J3n, J3o), (J5f, J5j), (J2b, J2P), (J0A, J22), (JN, J27), (J4A, J2j), (J2w, J3K), (J3s, J4b), (Jv, J3a), (J05, J4T), (J0Y, J32), (J0W, J39), (J3N, J3O), (J1Y, J2B), (J4a, J1k), (J0q, JL), (J0g, J0f), (J1i, J2O), (JS, J1Q), (J2s, J0G), (J0j, J3T), (J03, J1w), (J0T, J1Z), (J1A, J26), (J2y, J0I), (J46, J07), (J0M, J2i), (J0X, J35), (J4d, J49), (J2J, J0V)]
def Jf8 : List (FuncId × J6B) := [(J0m, J1a)]
def Jf3 : List (FuncId × (List AV → List Blk → Option Res)) := [(J2m, Jgd)]
def lkF {α : Type} (f : FuncId) : List (FuncId × α) → Option α
  | [] => none
  | (g, a) :: r => if f = g then some a else lkF f r
def J3 (prims : FuncId → Option (List AV → List Blk → Option Res)) : J3r := fun f => Jmi (lkF f fns) (lkF f Jf8) (lkF f Jf3) (prims f)
theorem Jhk (p) : J3 p J5Q = some (.fn J59) := rfl
theorem JbF (p) : J3 p Jp = some (.fn J2L) := rfl
theorem Jfy (p) : J3 p J3V = some (.fn J1X) := rfl
theorem Jdd (p) : J3 p J3n = some (.fn J3o) := rfl
theorem Jgk (p) : J3 p J5f = some (.fn J5j) := rfl
theorem JbH (p) : J3 p J2b = some (.fn J2P) := rfl
theorem Jae (p) : J3 p J0A = some (.fn J22) := rfl
theorem J9v (p) : J3 p JN = some (.fn J27) := rfl
theorem JgH (p) : J3 p J4A = some (.fn J2j) := rfl
theorem Je2 (p) : J3 p J2w = some (.fn J3K) := rfl
theorem JeS (p) : J3 p J3s = some (.fn J4b) := rfl
theorem Jcx (p) : J3 p Jv = some (.fn J3a) := rfl
theorem JfG (p) : J3 p J05 = some (.fn J4T) := rfl
theorem Jcp (p) : J3 p J0Y = some (.fn J32) := rfl
theorem JcJ (p) : J3 p J0W = some (.fn J39) := rfl
theorem JdV (p) : J3 p J3N = some (.fn J3O) := rfl
theorem JaN (p) : J3 p J1Y = some (.fn J2B) := rfl
theorem JeM (p) : J3 p J4a = some (.fn J1k) := rfl
theorem J5Z (p) : J3 p J0q = some (.fn JL) := rfl
theorem J5u (p) : J3 p J0g = some (.fn J0f) := rfl
theorem JbD (p) : J3 p J1i = some (.fn J2O) := rfl
theorem J98 (p) : J3 p JS = some (.fn J1Q) := rfl
theorem JaI (p) : J3 p J2s = some (.fn J0G) := rfl
theorem JdN (p) : J3 p J0j = some (.fn J3T) := rfl
theorem J8p (p) : J3 p J03 = some (.fn J1w) := rfl
theorem J7i (p) : J3 p J0T = some (.fn J1Z) := rfl
theorem Ja6 (p) : J3 p J1A = some (.fn J26) := rfl
theorem Jbb (p) : J3 p J2y = some (.fn J0I) := rfl
theorem Jf1 (p) : J3 p J46 = some (.fn J07) := rfl
theorem Jar (p) : J3 p J0M = some (.fn J2i) := rfl
theorem Jcu (p) : J3 p J0X = some (.fn J35) := rfl
theorem JeO (p) : J3 p J4d = some (.fn J49) := rfl
theorem J86 (p) : J3 p J2J = some (.fn J0V) := rfl
theorem J6E (p) : J3 p J0m = some (.fork J1a) := rfl
theorem Jgx (p) : J3 p J2m = some (.prim Jgd) := rfl
end Go.Am
end
section
namespace Go.Am
set_option maxRecDepth 8000
set_option maxHeartbeats 4000000
set_option linter.unusedSimpArgs false
set_option linter.unusedVariables false
noncomputable section
variable (p : FuncId → Option (List AV → List Blk → Option Res))
def J9V  (r : T_pagemenddraw_Codes) : Option Res := some (.ptr 0 0, [.box (List.map AV.p (J0 r))])
def J5x (x0 : List Int) : Option (T_pagemenddraw_Codes) :=
  some (⟨x0, 0⟩ : T_pagemenddraw_Codes)
theorem Jb9 {x0 : List Int} {o : T_pagemenddraw_Codes} (h : J5x x0 = some o) :
    rk (J3 p) J59 0 [] (X (J3 p) J7W ⟨[(0, .p (.sl 1 (List.map (r_i .u8) x0)))], []⟩) = J9V o := by
  unfold J5x at h
  obtain rfl := sj h
  try simp only [↓Da, Ua, J7W, JB, Jhu, ↓reduceIte, Nat.reduceEqDiff, Nat.reduceAdd, Nat.reduceLT, Nat.reduceMul]
  rfl
def J4n (x0 : List Int) (x1 : Int) : Option (T_pagemenddraw_Codes) :=
  if (decide (((List.length x0 : Nat) : Int) > x1)) then
    Option.bind (Jg3 x0 none (some x1)) fun m2 =>
    J5x m2
  else
    J5x x0
theorem JdL {x0 : List Int} {x1 : Int} {o : T_pagemenddraw_Codes} (h : J4n x0 x1 = some o) :
    rk (J3 p) J59 0 [] (X (J3 p) J5K ⟨[(0, .p (.sl 1 (List.map (r_i .u8) x0))), (1, .p (.i .i64 x1))], []⟩) = J9V o := by
  unfold J4n at h
  rcases Jd h with ⟨h1, h⟩ | ⟨h1, h⟩
  · obtain ⟨m2, h3, h⟩ := bi h
    have f4 : J5B 1 (.p (.sl 1 (List.map (r_i .u8) x0))) none (some (.p (.i .i64 x1))) = some (.p (.sl 1 (List.map (r_i .u8) m2))) := Jif (k := .i64) (lo := none) (hi := (some x1)) h3
    try simp only [Nf] at f4
    try simp only [↓Da, Ua, J5K, JB, *, ↓reduceIte, Nat.reduceEqDiff, Nat.reduceAdd, Nat.reduceLT, Nat.reduceMul]
    have e0 := Jb9 p h
    exact e0
  · try simp only [↓Da, Ua, J5K, JB, *, ↓reduceIte, Nat.reduceEqDiff, Nat.reduceAdd, Nat.reduceLT, Nat.reduceMul]
    have e0 := Jb9 p h
    exact e0
theorem JhM {x0 : List Int} {x1 : Int} {o : T_pagemenddraw_Codes} (h : J4n x0 x1 = some o) : AF (J3 p) J5Q [.p (.sl 1 (List.map (r_i .u8) x0)), .p (.i .i64 x1)] [] = J9V o :=
  (J1e (J3 p) (Jhk p) rfl).trans (JdL p h)
def J4J  (r : Int × T_pagemenddraw_Codes) : Option Res := some (.p (.i .i64 r.1), [.box (List.map AV.p (J0 r.2))])
def J42 (rec : T_pagemenddraw_Codes → Int → Option (Int × T_pagemenddraw_Codes)) (b0 : T_pagemenddraw_Codes) (x1 : Int) : Option (Int × T_pagemenddraw_Codes) :=
  if (decide (b0.at_ ≥ ((List.length b0.l_ : Nat) : Int))) then
    some (0, b0)
  else
    if (decide (x1 < 1)) then
      some (0, b0)
    else
      Option.bind (idx b0.l_ b0.at_) fun y3 =>
      if (decide (x1 > 256)) then
        Option.bind (rec (⟨b0.l_, (IntKind.wrap .i64 (b0.at_ + 1))⟩ : T_pagemenddraw_Codes) 256) fun r7 =>
        Option.bind (JfM (IntKind.wrap .i64 ((IntKind.wrap .i64 (256 * (IntKind.wrap .i64 y3))) + r7.1)) x1) fun q10 =>
        some (q10, r7.2)
      else
        Option.bind (JfM (IntKind.wrap .i64 y3) x1) fun q12 =>
        some (q12, (⟨b0.l_, (IntKind.wrap .i64 (b0.at_ + 1))⟩ : T_pagemenddraw_Codes))
theorem J92 {rec : T_pagemenddraw_Codes → Int → Option (Int × T_pagemenddraw_Codes)} (hrec : ∀ {b0 : T_pagemenddraw_Codes} {x1 : Int} {o : Int × T_pagemenddraw_Codes}, rec b0 x1 = some o → AF (J3 p) Jp [.ptr 0 0, .p (.i .i64 x1)] [.box (List.map AV.p (J0 b0))] = J4J o) {b0 : T_pagemenddraw_Codes} {x1 : Int} {o : Int × T_pagemenddraw_Codes} (h : J42 rec b0 x1 = some o) :
    rk (J3 p) J2L 1 [] (X (J3 p) J12 ⟨[(0, .ptr 0 0), (1, .p (.i .i64 x1))], [.box (List.map AV.p (J0 b0))]⟩) = J4J o := by
  unfold J42 at h
  rcases Jd h with ⟨h1, h⟩ | ⟨h1, h⟩
  · obtain rfl := sj h
    try simp only [↓Da, Ua, J12, JB, J4C, *, ↓reduceIte, Nat.reduceEqDiff, Nat.reduceAdd, Nat.reduceLT, Nat.reduceMul]
    rfl
  · try simp only [↓Da, Ua, J12, JB, *, ↓reduceIte, Nat.reduceEqDiff, Nat.reduceAdd, Nat.reduceLT, Nat.reduceMul]
    rcases Jd h with ⟨h2, h⟩ | ⟨h2, h⟩
    · obtain rfl := sj h
      try simp only [↓Da, Ua, J12, JB, J4C, *, ↓reduceIte, Nat.reduceEqDiff, Nat.reduceAdd, Nat.reduceLT, Nat.reduceMul]
      rfl
    · obtain ⟨y3, h4, h⟩ := bi h
      have f5 := J6o (r := (r_i .u8)) h4
      try simp only [Nf] at f5
      try simp only [↓Da, Ua, J12, JB, *, ↓reduceIte, Nat.reduceEqDiff, Nat.reduceAdd, Nat.reduceLT, Nat.reduceMul]
      rcases Jd h with ⟨h6, h⟩ | ⟨h6, h⟩
      · obtain ⟨r7, h8, h⟩ := bi h
        have f9 : ∀ ws new s, J0a ws s [0] [List.map AV.p (J0 (⟨b0.l_, (IntKind.wrap .i64 (b0.at_ + 1))⟩ : T_pagemenddraw_Codes))] → (Jr (AF (J3 p)) Jp ([.ptr 0 0, .p (.i .i64 256)], ws) 0 new).run s = some ⟨.p (.i .i64 r7.1), ws ++ [(0, .box (List.map AV.p (J0 r7.2)))]⟩ := J0v (args' := [.ptr 0 0, .p (.i .i64 256)]) (bs := [0]) (css := [List.map AV.p (J0 (⟨b0.l_, (IntKind.wrap .i64 (b0.at_ + 1))⟩ : T_pagemenddraw_Codes))]) (css' := [List.map AV.p (J0 r7.2)]) rfl rfl rfl (by simp [Jx, Ji]) (hrec h8) rfl rfl (by simp [Jx, Ji])
        try simp only [Nf] at f9
        obtain ⟨q10, h11, h⟩ := bi h
        obtain rfl := sj h
        try simp only [↓Da, Ua, J12, JB, J4C, *, ↓reduceIte, Nat.reduceEqDiff, Nat.reduceAdd, Nat.reduceLT, Nat.reduceMul]
        rfl
      · obtain ⟨q12, h13, h⟩ := bi h
        obtain rfl := sj h
        try simp only [↓Da, Ua, J12, JB, J4C, *, ↓reduceIte, Nat.reduceEqDiff, Nat.reduceAdd, Nat.reduceLT, Nat.reduceMul]
        rfl
def J2U : Nat → T_pagemenddraw_Codes → Int → Option (Int × T_pagemenddraw_Codes)
  | 0 => fun _ _ => none
  | n + 1 => J42 (J2U n)
def J0z : T_pagemenddraw_Codes → Int → Option (Int × T_pagemenddraw_Codes) := J2U 12
theorem J6Z : ∀ n, ∀ {b0 : T_pagemenddraw_Codes} {x1 : Int} {o : Int × T_pagemenddraw_Codes}, J2U n b0 x1 = some o → AF (J3 p) Jp [.ptr 0 0, .p (.i .i64 x1)] [.box (List.map AV.p (J0 b0))] = J4J o
  | 0 => fun h => by cases h
  | n + 1 => fun h => (J1e (J3 p) (JbF p) rfl).trans (J92 p (J6Z n) h)
theorem J10 {b0 : T_pagemenddraw_Codes} {x1 : Int} {o : Int × T_pagemenddraw_Codes} (h : J0z b0 x1 = some o) : AF (J3 p) Jp [.ptr 0 0, .p (.i .i64 x1)] [.box (List.map AV.p (J0 b0))] = J4J o := J6Z p 12 h
def J4R  (r : Bool) : Option Res := some (.p (.b r), [])
def JdI (b0 : T_api_Index) (b1 : T_api_Index) (o : (Int) ⊕ (Bool)) : Option Res := match o with
  | .inl s => rk (J3 p) J1X 0 [.bl 0, .sq (.keep [] J31)] (X (J3 p) (.lp 2 [2, 3, 5] J1K) ⟨[(2, .ptr 0 0), (3, .ptr 1 0), (5, .p (.i .i64 s))], [.box (List.map AV.p (Ja b0)), .box (List.map AV.p (Ja b1))]⟩)
  | .inr o => J4R o
def J5L  : Option (Bool) :=
  some true
theorem JdZ {B0 : List PV} {B1 : List PV} {o : Bool} (h : J5L = some o) :
    rk (J3 p) J1X 0 [] (X (J3 p) J31 ⟨[], [.box (List.map AV.p B0), .box (List.map AV.p B1)]⟩) = J4R o := by
  unfold J5L at h
  obtain rfl := sj h
  try simp only [↓Da, Ua, J31, J8d, ↓reduceIte, Nat.reduceEqDiff, Nat.reduceAdd, Nat.reduceLT, Nat.reduceMul]
  rfl
def J38 (b0 : T_api_Index) (b1 : T_api_Index) (x5 : Int) : Option (((Int) ⊕ (Bool))) :=
  if (decide (x5 < ((List.length b0.Rows : Nat) : Int))) then
    Option.bind (idx b0.Rows x5) fun y2 =>
    Option.bind (idx b1.Rows x5) fun y5 =>
    if (y2 == y5) then
      some (.inl (IntKind.wrap .i64 (x5 + 1)))
    else
      some (.inr false)
  else
    Option.map (fun o => .inr o) (J5L)
theorem J9r {b0 : T_api_Index} {b1 : T_api_Index} {x5 : Int} {o : ((Int) ⊕ (Bool))} (h : J38 b0 b1 x5 = some o) :
    rk (J3 p) J1X 0 [.lo 2 [2, 3, 5] J1K, .bl 0, .sq (.keep [] J31)] (X (J3 p) J1K ⟨[(2, .ptr 0 0), (3, .ptr 1 0), (5, .p (.i .i64 x5))], [.box (List.map AV.p (Ja b0)), .box (List.map AV.p (Ja b1))]⟩) = (JdI p b0 b1) o := by
  unfold J38 at h
  rcases Jd h with ⟨h1, h⟩ | ⟨h1, h⟩
  · obtain ⟨y2, h3, h⟩ := bi h
    have f4 := J6o (r := J4) h3
    try simp only [Nf, J1] at f4
    obtain ⟨y5, h6, h⟩ := bi h
    have f7 := J6o (r := J4) h6
    try simp only [Nf, J1] at f7
    try simp only [↓Da, Ua, J1K, J1, Je, J8O, *, ↓reduceIte, Nat.reduceEqDiff, Nat.reduceAdd, Nat.reduceLT, Nat.reduceMul]
    rcases Jd h with ⟨h9, h⟩ | ⟨h9, h⟩
    · obtain rfl := sj h
      try simp only [↓Da, Ua, J1K, J1, Je, J8O, *, ↓reduceIte, Nat.reduceEqDiff, Nat.reduceAdd, Nat.reduceLT, Nat.reduceMul]
      rfl
    · obtain rfl := sj h
      try simp only [↓Da, Ua, J1K, J1, Je, J8O, J8d, *, ↓reduceIte, Nat.reduceEqDiff, Nat.reduceAdd, Nat.reduceLT, Nat.reduceMul]
      rfl
  · obtain ⟨o', h', rfl⟩ := mi h
    try simp only [↓Da, Ua, J1K, J1, Je, *, ↓reduceIte, Nat.reduceEqDiff, Nat.reduceAdd, Nat.reduceLT, Nat.reduceMul]
    have e0 := JdZ p (B0 := (Ja b0)) (B1 := (Ja b1)) h'
    exact e0
def J75 (b0 : T_api_Index) (b1 : T_api_Index) (s : Int) : Option (Bool) :=
  J1u (fun s => J38 b0 b1 s) s
theorem Jcm {b0 : T_api_Index} {b1 : T_api_Index} {s : Int} {o : Bool} (h : J75 b0 b1 s = some o) :
    rk (J3 p) J1X 0 [.bl 0, .sq (.keep [] J31)] (X (J3 p) (.lp 2 [2, 3, 5] J1K) ⟨[(2, .ptr 0 0), (3, .ptr 1 0), (5, .p (.i .i64 s))], [.box (List.map AV.p (Ja b0)), .box (List.map AV.p (Ja b1))]⟩) = J4R o := by
  have h0 : J1u (fun s => J38 b0 b1 s) s = some o := h
  exact J6p (P := fun (s : Int) (o : Bool) => rk (J3 p) J1X 0 [.bl 0, .sq (.keep [] J31)] (X (J3 p) (.lp 2 [2, 3, 5] J1K) ⟨[(2, .ptr 0 0), (3, .ptr 1 0), (5, .p (.i .i64 s))], [.box (List.map AV.p (Ja b0)), .box (List.map AV.p (Ja b1))]⟩) = J4R o) (fun s r hs => by rw [J6e]; exact J9r p hs) (fun s s1 r hs ih => by rw [J6e]; exact (J9r p hs).trans ih) h0
def J3h (x0 : T_api_Index) (x1 : T_api_Index) : Option (Bool) :=
  if ((((List.length x0.Rows : Nat) : Int) : Int) != ((List.length x1.Rows : Nat) : Int)) then
    some false
  else
    J75 x0 x1 0
theorem Jcj {x0 : T_api_Index} {x1 : T_api_Index} {o : Bool} (h : J3h x0 x1 = some o) :
    rk (J3 p) J1X 0 [] (X (J3 p) J4X ⟨[(0, .data (Ja x0)), (1, .data (Ja x1))], []⟩) = J4R o := by
  unfold J3h at h
  rcases Jd h with ⟨h1, h⟩ | ⟨h1, h⟩
  · obtain rfl := sj h
    try simp only [↓Da, Ua, J4X, J1, Je, J8d, *, ↓reduceIte, Nat.reduceEqDiff, Nat.reduceAdd, Nat.reduceLT, Nat.reduceMul]
    rfl
  · try simp only [↓Da, Ua, J4X, J1, Je, *, ↓reduceIte, Nat.reduceEqDiff, Nat.reduceAdd, Nat.reduceLT, Nat.reduceMul]
    have e0 := Jcm p h
    exact e0
theorem Jfk {x0 : T_api_Index} {x1 : T_api_Index} {o : Bool} (h : J3h x0 x1 = some o) : AF (J3 p) J3V [.data (Ja x0), .data (Ja x1)] [] = J4R o :=
  (J1e (J3 p) (Jfy p) rfl).trans (Jcj p h)
theorem Jbe {x0 : T_api_Index} {x1 : T_api_Index} {o : Bool} (h : J3h x0 x1 = some o) : ∀ ws new st, (Jr (AF (J3 p)) J3V ([.data (Ja x0), .data (Ja x1)], ws) 0 new).run st = some ⟨.p (.b o), ws⟩ := J0b rfl (Jfk p h) rfl
def J8I  (r : T_api_Index × Int) : Option Res := some (.tup [.data (Ja r.1), .p (.i .i64 r.2)], [])
def J2e (x0 : Int) : Option (T_api_Index × Int) :=
  if (decide (x0 < 1)) then
    some ((⟨([] : List T_api_Row)⟩ : T_api_Index), 1)
  else
    if (decide (x0 > 64)) then
      some ((⟨([] : List T_api_Row)⟩ : T_api_Index), 1)
    else
      Option.bind (mkS 24 x0 x0 (⟨0, 0, 0⟩ : T_api_Row)) fun m3 =>
      some ((⟨m3⟩ : T_api_Index), 0)
theorem Jaq {x0 : Int} {o : T_api_Index × Int} (h : J2e x0 = some o) :
    rk (J3 p) J3o 0 [] (X (J3 p) J2g ⟨[(0, .p (.i .i64 x0))], []⟩) = J8I o := by
  unfold J2e at h
  rcases Jd h with ⟨h1, h⟩ | ⟨h1, h⟩
  · obtain rfl := sj h
    try simp only [↓Da, Ua, J2g, J1, Je, J6L, *, ↓reduceIte, Nat.reduceEqDiff, Nat.reduceAdd, Nat.reduceLT, Nat.reduceMul]
    rfl
  · try simp only [↓Da, Ua, J2g, J1, Je, *, ↓reduceIte, Nat.reduceEqDiff, Nat.reduceAdd, Nat.reduceLT, Nat.reduceMul]
    rcases Jd h with ⟨h2, h⟩ | ⟨h2, h⟩
    · obtain rfl := sj h
      try simp only [↓Da, Ua, J2g, J1, Je, J6L, *, ↓reduceIte, Nat.reduceEqDiff, Nat.reduceAdd, Nat.reduceLT, Nat.reduceMul]
      rfl
    · obtain ⟨m3, h4, h⟩ := bi h
      have f5 : (0 ≤ (x0 : Int) ∧ (x0 : Int) ≤ x0 ∧ ((24 : Nat) : Int) * x0 ≤ 281474976710656 ∧ (x0 : Int) ≤ 281474976710656) = True := eq_true (J9l h4).1
      have f6 : List.replicate (Int.toNat x0) (J4 (⟨0, 0, 0⟩ : T_api_Row)) = List.map J4 m3 := by rw [(J9l h4).2, List.map_replicate]
      try simp only [Nf, J1] at f6
      obtain rfl := sj h
      try simp only [↓Da, Ua, J2g, J1, Je, J6L, *, ↓reduceIte, Nat.reduceEqDiff, Nat.reduceAdd, Nat.reduceLT, Nat.reduceMul]
      rfl
theorem Jds {x0 : Int} {o : T_api_Index × Int} (h : J2e x0 = some o) : AF (J3 p) J3n [.p (.i .i64 x0)] [] = J8I o :=
  (J1e (J3 p) (Jdd p) rfl).trans (Jaq p h)
theorem Jdb {x0 : Int} {o : T_api_Index × Int} (h : J2e x0 = some o) : ∀ ws new st, (Jr (AF (J3 p)) J3n ([.p (.i .i64 x0)], ws) 0 new).run st = some ⟨.tup [.data (Ja o.1), .p (.i .i64 o.2)], ws⟩ := J0b rfl (Jds p h) rfl
def J8T (r : T_api_Index × Int) : Option Res := if ((r.2 : Int) == 0) = true then some (.tup [.agg [.slr 0 0 (List.length r.1.Rows)], .p (.i .i64 r.2)], [.arr true 3 (List.map J4 r.1.Rows)]) else some (.tup [.data (Ja r.1), .p (.i .i64 r.2)], [])
def J4y (x0 : Int) : Option (T_api_Index × Int) :=
  if (decide (x0 < 1)) then
    some ((⟨([] : List T_api_Row)⟩ : T_api_Index), 1)
  else
    if (decide (x0 > 64)) then
      some ((⟨([] : List T_api_Row)⟩ : T_api_Index), 1)
    else
      Option.bind (mkS 24 x0 x0 (⟨0, 0, 0⟩ : T_api_Row)) fun m3 =>
      some ((⟨m3⟩ : T_api_Index), 0)
theorem Jdw {x0 : Int} {o : T_api_Index × Int} (h : J4y x0 = some o) :
    rk (J3 p) J5j 0 [] (X (J3 p) J3J ⟨[(0, .p (.i .i64 x0))], []⟩) = J8T o := by
  unfold J4y at h
  rcases Jd h with ⟨h1, h⟩ | ⟨h1, h⟩
  · obtain rfl := sj h
    try simp only [↓Da, Ua, J3J, J1, Ju, J8Q, *, ↓reduceIte, Nat.reduceEqDiff, Nat.reduceAdd, Nat.reduceLT, Nat.reduceMul, Nat.reduceBEq]
    rfl
  · try simp only [↓Da, Ua, J3J, J1, Ju, *, ↓reduceIte, Nat.reduceEqDiff, Nat.reduceAdd, Nat.reduceLT, Nat.reduceMul, Nat.reduceBEq]
    rcases Jd h with ⟨h2, h⟩ | ⟨h2, h⟩
    · obtain rfl := sj h
      try simp only [↓Da, Ua, J3J, J1, Ju, J8Q, *, ↓reduceIte, Nat.reduceEqDiff, Nat.reduceAdd, Nat.reduceLT, Nat.reduceMul, Nat.reduceBEq]
      rfl
    · obtain ⟨m3, h4, h⟩ := bi h
      have f5 : (0 ≤ (x0 : Int) ∧ (x0 : Int) ≤ x0 ∧ ((24 : Nat) : Int) * x0 ≤ 281474976710656 ∧ (x0 : Int) ≤ 281474976710656) = True := eq_true (J9l h4).1
      have f6 : List.replicate (Int.toNat x0) (J4 (⟨0, 0, 0⟩ : T_api_Row)) = List.map J4 m3 := by rw [(J9l h4).2, List.map_replicate]
      try simp only [Nf, J1, Ju] at f6
      have g7 : List.length m3 = Int.toNat x0 := by rw [(J9l h4).2, List.length_replicate]
      obtain rfl := sj h
      try simp only [↓Da, Ua, J3J, J1, Ju, J8Q, *, ↓reduceIte, Nat.reduceEqDiff, Nat.reduceAdd, Nat.reduceLT, Nat.reduceMul, Nat.reduceBEq]
      first | rfl | (simp only [J8T, g7]; try rfl)
theorem JgG {x0 : Int} {o : T_api_Index × Int} (h : J4y x0 = some o) : AF (J3 p) J5f [.p (.i .i64 x0)] [] = J8T o :=
  (J1e (J3 p) (Jgk p) rfl).trans (Jdw p h)
theorem JeP {x0 : Int} {o : T_api_Index × Int} (h : J4y x0 = some o) (hc : ((o.2 : Int) == 0) = true) : ∀ ws new st, (J2o (AF (J3 p)) J5f ([.p (.i .i64 x0)], ws) 1 new).run st = some ⟨.tup [.agg [.slr new 0 (List.length o.1.Rows)], .p (.i .i64 o.2)], ws ++ [(new, .arr true 3 (List.map J4 o.1.Rows))]⟩ :=
  fun ws new st => Jhn rfl ((JgG p h).trans (if_pos hc)) (fun _ => rfl) (fun _ => rfl) (by simp) ws new st
def J7w  (r : Bool) : Option Res := some (.p (.b r), [])
def J1j (x0 : T_api_Index) (x1 : Int) : Option (Bool) :=
  if (decide (x1 ≥ 0)) then
    some (decide (x1 < ((List.length x0.Rows : Nat) : Int)))
  else
    some false
theorem J91 {x0 : T_api_Index} {x1 : Int} {o : Bool} (h : J1j x0 x1 = some o) :
    rk (J3 p) J2P 0 [] (X (J3 p) J2N ⟨[(0, .data (Ja x0)), (1, .p (.i .i64 x1))], []⟩) = J7w o := by
  unfold J1j at h
  rcases Jd h with ⟨h1, h⟩ | ⟨h1, h⟩
  · obtain rfl := sj h
    try simp only [↓Da, Ua, J2N, J1, Je, J7v, *, ↓reduceIte, Nat.reduceEqDiff, Nat.reduceAdd, Nat.reduceLT, Nat.reduceMul]
    rfl
  · obtain rfl := sj h
    try simp only [↓Da, Ua, J2N, J1, Je, J7v, *, ↓reduceIte, Nat.reduceEqDiff, Nat.reduceAdd, Nat.reduceLT, Nat.reduceMul]
    rfl
theorem JbC {x0 : T_api_Index} {x1 : Int} {o : Bool} (h : J1j x0 x1 = some o) : AF (J3 p) J2b [.data (Ja x0), .p (.i .i64 x1)] [] = J7w o :=
  (J1e (J3 p) (JbH p) rfl).trans (J91 p h)
theorem J7y {x0 : T_api_Index} {x1 : Int} {o : Bool} (h : J1j x0 x1 = some o) : ∀ ws new st, (Jr (AF (J3 p)) J2b ([.data (Ja x0), .p (.i .i64 x1)], ws) 0 new).run st = some ⟨.p (.b o), ws⟩ := J0b rfl (JbC p h) rfl
def J6A  (r : Bool) : Option Res := some (.p (.b r), [])
def J0o (x0 : Int) : Option (Bool) :=
  if (decide (x0 ≥ 0)) then
    some (decide (x0 ≤ 1099511627776))
  else
    some false
theorem J7Z {x0 : Int} {o : Bool} (h : J0o x0 = some o) :
    rk (J3 p) J22 0 [] (X (J3 p) J23 ⟨[(0, .p (.i .i64 x0))], []⟩) = J6A o := by
  unfold J0o at h
  rcases Jd h with ⟨h1, h⟩ | ⟨h1, h⟩
  · obtain rfl := sj h
    try simp only [↓Da, Ua, J23, J6G, *, ↓reduceIte, Nat.reduceEqDiff, Nat.reduceAdd, Nat.reduceLT, Nat.reduceMul]
    rfl
  · obtain rfl := sj h
    try simp only [↓Da, Ua, J23, J6G, *, ↓reduceIte, Nat.reduceEqDiff, Nat.reduceAdd, Nat.reduceLT, Nat.reduceMul]
    rfl
theorem J9R {x0 : Int} {o : Bool} (h : J0o x0 = some o) : AF (J3 p) J0A [.p (.i .i64 x0)] [] = J6A o :=
  (J1e (J3 p) (Jae p) rfl).trans (J7Z p h)
theorem J2H {x0 : Int} {o : Bool} (h : J0o x0 = some o) : ∀ ws new st, (Jr (AF (J3 p)) J0A ([.p (.i .i64 x0)], ws) 0 new).run st = some ⟨.p (.b o), ws⟩ := J0b rfl (J9R p h) rfl
def JbY (r : List UInt8) : Option Res := some (.p (.s r), [])
def J2l (x0 : List UInt8) (x1 : Int) (x2 : Int) : Option (List UInt8) := Je5 x0 x1 x2
theorem JgB {x0 : List UInt8} {x1 : Int} {x2 : Int} {o : List UInt8} (h : J2l x0 x1 x2 = some o) : AF (J3 p) J2m [.p (.s x0), .p (.i .i64 x1), .p (.i .i64 x2)] [] = JbY o := by
  rw [JlG (Jgx p)]
  have h' : Je5 x0 x1 x2 = some o := h
  simp only [Jgd, h', Option.map_some, JbY]
theorem J7d {x0 : List UInt8} {x1 : Int} {x2 : Int} {o : List UInt8} (h : J2l x0 x1 x2 = some o) : ∀ ws new st, (Jr (AF (J3 p)) J2m ([.p (.s x0), .p (.i .i64 x1), .p (.i .i64 x2)], ws) 0 new).run st = some ⟨.p (.s o), ws⟩ := J0b rfl (JgB p h) rfl
def J6H  (r : Bool) : Option Res := some (.p (.b r), [])
def J1E (x0 : T_api_Row) : Option (Bool) :=
  Option.bind (J0o x0.LSN) fun r1 =>
  if r1 then
    Option.bind (J0o x0.Image) fun r5 =>
    if r5 then
      Option.bind (J0o x0.ImageLSN) fun r9 =>
      if r9 then
        if ((x0.Image : Int) == 0) then
          some ((x0.ImageLSN : Int) != 0)
        else
          some false
      else
        some true
    else
      some true
  else
    some true
theorem J8j {x0 : T_api_Row} {o : Bool} (h : J1E x0 = some o) :
    rk (J3 p) J27 0 [] (X (J3 p) J08 ⟨[(0, .data (J4 x0))], []⟩) = J6H o := by
  unfold J1E at h
  obtain ⟨r1, h2, h⟩ := bi h
  have f3 := J2H p h2
  try simp only [Nf] at f3
  try simp only [↓Da, Ua, J08, Je, *, ↓reduceIte, Nat.reduceEqDiff, Nat.reduceAdd, Nat.reduceLT, Nat.reduceMul]
  rcases Jd h with ⟨h4, h⟩ | ⟨h4, h⟩
  · obtain ⟨r5, h6, h⟩ := bi h
    have f7 := J2H p h6
    try simp only [Nf] at f7
    try simp only [↓Da, Ua, J08, Je, *, ↓reduceIte, Nat.reduceEqDiff, Nat.reduceAdd, Nat.reduceLT, Nat.reduceMul]
    rcases Jd h with ⟨h8, h⟩ | ⟨h8, h⟩
    · obtain ⟨r9, h10, h⟩ := bi h
      have f11 := J2H p h10
      try simp only [Nf] at f11
      try simp only [↓Da, Ua, J08, Je, *, ↓reduceIte, Nat.reduceEqDiff, Nat.reduceAdd, Nat.reduceLT, Nat.reduceMul]
      rcases Jd h with ⟨h12, h⟩ | ⟨h12, h⟩
      · try simp only [↓Da, Ua, J08, Je, *, ↓reduceIte, Nat.reduceEqDiff, Nat.reduceAdd, Nat.reduceLT, Nat.reduceMul]
        rcases Jd h with ⟨h13, h⟩ | ⟨h13, h⟩
        · have h13n : ((x0.Image : Int) != 0) = false := by rw [bne, h13]; rfl
          obtain rfl := sj h
          try simp only [↓Da, Ua, J08, Je, J2K, *, ↓reduceIte, Nat.reduceEqDiff, Nat.reduceAdd, Nat.reduceLT, Nat.reduceMul]
          rfl
        · have h13n : ((x0.Image : Int) != 0) = true := by rw [bne, h13]; rfl
          obtain rfl := sj h
          try simp only [↓Da, Ua, J08, Je, J2K, *, ↓reduceIte, Nat.reduceEqDiff, Nat.reduceAdd, Nat.reduceLT, Nat.reduceMul]
          rfl
      · obtain rfl := sj h
        try simp only [↓Da, Ua, J08, Je, J2K, *, ↓reduceIte, Nat.reduceEqDiff, Nat.reduceAdd, Nat.reduceLT, Nat.reduceMul]
        rfl
    · obtain rfl := sj h
      try simp only [↓Da, Ua, J08, Je, J2K, *, ↓reduceIte, Nat.reduceEqDiff, Nat.reduceAdd, Nat.reduceLT, Nat.reduceMul]
      rfl
  · obtain rfl := sj h
    try simp only [↓Da, Ua, J08, Je, J2K, *, ↓reduceIte, Nat.reduceEqDiff, Nat.reduceAdd, Nat.reduceLT, Nat.reduceMul]
    rfl
theorem J9y {x0 : T_api_Row} {o : Bool} (h : J1E x0 = some o) : AF (J3 p) JN [.data (J4 x0)] [] = J6H o :=
  (J1e (J3 p) (J9v p) rfl).trans (J8j p h)
theorem J9x {x0 : T_api_Row} {o : Bool} (h : J1E x0 = some o) : ∀ ws new st, (Jr (AF (J3 p)) JN ([.data (J4 x0)], ws) 0 new).run st = some ⟨.p (.b o), ws⟩ := J0b rfl (J9y p h) rfl
def J5g  (r : Int × Int) : Option Res := some (.tup [.p (.i .i64 r.1), .p (.i .i64 r.2)], [])
def JeV (x0 : List UInt8) (x1 : Int) (x34 : Int) (o : (Int × Int) ⊕ (Int × Int)) : Option Res := match o with
  | .inl s => rk (J3 p) J2j 0 [.bl 1, .sq (.keep [8] J3t)] (X (J3 p) (.lp 0 [0, 1, 8, 34, 35] J2Q) ⟨[(0, .p (.s x0)), (1, .p (.i .i64 x1)), (8, .p (.i .u64 s.1)), (34, .p (.i .i64 x34)), (35, .p (.i .i64 s.2))], []⟩)
  | .inr o => J5g o
def J6d (x8 : Int) : Option (Int × Int) :=
  some ((IntKind.wrap .i64 x8), 0)
theorem JeY {x8 : Int} {o : Int × Int} (h : J6d x8 = some o) :
    rk (J3 p) J2j 0 [] (X (J3 p) J3t ⟨[(8, .p (.i .u64 x8))], []⟩) = J5g o := by
  unfold J6d at h
  obtain rfl := sj h
  try simp only [↓Da, Ua, J3t, J5h, ↓reduceIte, Nat.reduceEqDiff, Nat.reduceAdd, Nat.reduceLT, Nat.reduceMul]
  rfl
def J3u (x0 : List UInt8) (x1 : Int) (x34 : Int) (x8 : Int) (x35 : Int) : Option (((Int × Int) ⊕ (Int × Int))) :=
  if (decide (x35 < x34)) then
    Option.bind (JdJ x0 (IntKind.wrap .i64 (x1 + x35))) fun c2 =>
    Option.bind (JfC .u64 (IntKind.wrap .u64 c2) (IntKind.wrap .i64 (8 * x35))) fun q4 =>
    some (.inl ((orI .u64 x8 q4), (IntKind.wrap .i64 (x35 + 1))))
  else
    Option.map (fun o => .inr o) (J6d x8)
theorem Jag {x0 : List UInt8} {x1 : Int} {x34 : Int} {x8 : Int} {x35 : Int} {o : ((Int × Int) ⊕ (Int × Int))} (h : J3u x0 x1 x34 x8 x35 = some o) :
    rk (J3 p) J2j 0 [.lo 0 [0, 1, 8, 34, 35] J2Q, .bl 1, .sq (.keep [8] J3t)] (X (J3 p) J2Q ⟨[(0, .p (.s x0)), (1, .p (.i .i64 x1)), (8, .p (.i .u64 x8)), (34, .p (.i .i64 x34)), (35, .p (.i .i64 x35))], []⟩) = (JeV p x0 x1 x34) o := by
  unfold J3u at h
  rcases Jd h with ⟨h1, h⟩ | ⟨h1, h⟩
  · obtain ⟨c2, h3, h⟩ := bi h
    obtain ⟨q4, h5, h⟩ := bi h
    obtain rfl := sj h
    try simp only [↓Da, Ua, J2Q, *, ↓reduceIte, Nat.reduceEqDiff, Nat.reduceAdd, Nat.reduceLT, Nat.reduceMul]
    rfl
  · obtain ⟨o', h', rfl⟩ := mi h
    try simp only [↓Da, Ua, J2Q, *, ↓reduceIte, Nat.reduceEqDiff, Nat.reduceAdd, Nat.reduceLT, Nat.reduceMul]
    have e0 := JeY p h'
    exact e0
def Jaj (x0 : List UInt8) (x1 : Int) (x34 : Int) (s : Int × Int) : Option (Int × Int) :=
  J1u (fun s => J3u x0 x1 x34 s.1 s.2) s
theorem Jd4 {x0 : List UInt8} {x1 : Int} {x34 : Int} {s : Int × Int} {o : Int × Int} (h : Jaj x0 x1 x34 s = some o) :
    rk (J3 p) J2j 0 [.bl 1, .sq (.keep [8] J3t)] (X (J3 p) (.lp 0 [0, 1, 8, 34, 35] J2Q) ⟨[(0, .p (.s x0)), (1, .p (.i .i64 x1)), (8, .p (.i .u64 s.1)), (34, .p (.i .i64 x34)), (35, .p (.i .i64 s.2))], []⟩) = J5g o := by
  have h0 : J1u (fun s => J3u x0 x1 x34 s.1 s.2) s = some o := h
  exact J6p (P := fun (s : Int × Int) (o : Int × Int) => rk (J3 p) J2j 0 [.bl 1, .sq (.keep [8] J3t)] (X (J3 p) (.lp 0 [0, 1, 8, 34, 35] J2Q) ⟨[(0, .p (.s x0)), (1, .p (.i .i64 x1)), (8, .p (.i .u64 s.1)), (34, .p (.i .i64 x34)), (35, .p (.i .i64 s.2))], []⟩) = J5g o) (fun s r hs => by rw [J6e]; exact Jag p hs) (fun s s1 r hs ih => by rw [J6e]; exact (Jag p hs).trans ih) h0
def J1M (x0 : List UInt8) (x1 : Int) (x2 : Int) : Option (Int × Int) :=
  if (decide (x2 < 1)) then
    some (0, 1)
  else
    if (decide (x2 > 8)) then
      some (0, 1)
    else
      if (decide (x1 < 0)) then
        some (0, 1)
      else
        if (decide (x1 > ((List.length x0 : Nat) : Int))) then
          some (0, 5)
        else
          if (decide ((IntKind.wrap .i64 (((List.length x0 : Nat) : Int) - x1)) < x2)) then
            some (0, 5)
          else
            Jaj x0 x1 x2 (0, 0)
theorem Jdf {x0 : List UInt8} {x1 : Int} {x2 : Int} {o : Int × Int} (h : J1M x0 x1 x2 = some o) :
    rk (J3 p) J2j 0 [] (X (J3 p) J1r ⟨[(0, .p (.s x0)), (1, .p (.i .i64 x1)), (2, .p (.i .i64 x2))], []⟩) = J5g o := by
  unfold J1M at h
  rcases Jd h with ⟨h1, h⟩ | ⟨h1, h⟩
  · obtain rfl := sj h
    try simp only [↓Da, Ua, J1r, J5h, *, ↓reduceIte, Nat.reduceEqDiff, Nat.reduceAdd, Nat.reduceLT, Nat.reduceMul]
    rfl
  · try simp only [↓Da, Ua, J1r, *, ↓reduceIte, Nat.reduceEqDiff, Nat.reduceAdd, Nat.reduceLT, Nat.reduceMul]
    rcases Jd h with ⟨h2, h⟩ | ⟨h2, h⟩
    · obtain rfl := sj h
      try simp only [↓Da, Ua, J1r, J5h, *, ↓reduceIte, Nat.reduceEqDiff, Nat.reduceAdd, Nat.reduceLT, Nat.reduceMul]
      rfl
    · try simp only [↓Da, Ua, J1r, *, ↓reduceIte, Nat.reduceEqDiff, Nat.reduceAdd, Nat.reduceLT, Nat.reduceMul]
      rcases Jd h with ⟨h3, h⟩ | ⟨h3, h⟩
      · obtain rfl := sj h
        try simp only [↓Da, Ua, J1r, J5h, *, ↓reduceIte, Nat.reduceEqDiff, Nat.reduceAdd, Nat.reduceLT, Nat.reduceMul]
        rfl
      · try simp only [↓Da, Ua, J1r, *, ↓reduceIte, Nat.reduceEqDiff, Nat.reduceAdd, Nat.reduceLT, Nat.reduceMul]
        rcases Jd h with ⟨h4, h⟩ | ⟨h4, h⟩
        · obtain rfl := sj h
          try simp only [↓Da, Ua, J1r, J5h, *, ↓reduceIte, Nat.reduceEqDiff, Nat.reduceAdd, Nat.reduceLT, Nat.reduceMul]
          rfl
        · try simp only [↓Da, Ua, J1r, *, ↓reduceIte, Nat.reduceEqDiff, Nat.reduceAdd, Nat.reduceLT, Nat.reduceMul]
          rcases Jd h with ⟨h5, h⟩ | ⟨h5, h⟩
          · obtain rfl := sj h
            try simp only [↓Da, Ua, J1r, J5h, *, ↓reduceIte, Nat.reduceEqDiff, Nat.reduceAdd, Nat.reduceLT, Nat.reduceMul]
            rfl
          · try simp only [↓Da, Ua, J1r, *, ↓reduceIte, Nat.reduceEqDiff, Nat.reduceAdd, Nat.reduceLT, Nat.reduceMul]
            have e0 := Jd4 p h
            exact e0
theorem Jgv {x0 : List UInt8} {x1 : Int} {x2 : Int} {o : Int × Int} (h : J1M x0 x1 x2 = some o) : AF (J3 p) J4A [.p (.s x0), .p (.i .i64 x1), .p (.i .i64 x2)] [] = J5g o :=
  (J1e (J3 p) (JgH p) rfl).trans (Jdf p h)
theorem Jc4 {x0 : List UInt8} {x1 : Int} {x2 : Int} {o : Int × Int} (h : J1M x0 x1 x2 = some o) : ∀ ws new st, (Jr (AF (J3 p)) J4A ([.p (.s x0), .p (.i .i64 x1), .p (.i .i64 x2)], ws) 0 new).run st = some ⟨.tup [.p (.i .i64 o.1), .p (.i .i64 o.2)], ws⟩ := J0b rfl (Jgv p h) rfl
def J8Z  (r : Bool) : Option Res := some (.p (.b r), [])
def J2v (x0 : Int) (x1 : J6) : Option (Bool) :=
  if (decide (x0 ≥ 0)) then
    some (decide (x0 < x1.LSN))
  else
    some false
theorem Jb2 {x0 : Int} {x1 : J6} {o : Bool} (h : J2v x0 x1 = some o) :
    rk (J3 p) J3K 0 [] (X (J3 p) J3L ⟨[(0, .p (.i .i64 x0)), (1, .data (J2 x1))], []⟩) = J8Z o := by
  unfold J2v at h
  rcases Jd h with ⟨h1, h⟩ | ⟨h1, h⟩
  · obtain rfl := sj h
    try simp only [↓Da, Ua, J3L, Jk, Jh, Jq, J94, *, ↓reduceIte, Nat.reduceEqDiff, Nat.reduceAdd, Nat.reduceLT, Nat.reduceMul]
    rfl
  · obtain rfl := sj h
    try simp only [↓Da, Ua, J3L, Jk, Jh, Jq, J94, *, ↓reduceIte, Nat.reduceEqDiff, Nat.reduceAdd, Nat.reduceLT, Nat.reduceMul]
    rfl
theorem JdP {x0 : Int} {x1 : J6} {o : Bool} (h : J2v x0 x1 = some o) : AF (J3 p) J2w [.p (.i .i64 x0), .data (J2 x1)] [] = J8Z o :=
  (J1e (J3 p) (Je2 p) rfl).trans (Jb2 p h)
theorem J76 {x0 : Int} {x1 : J6} {o : Bool} (h : J2v x0 x1 = some o) : ∀ ws new st, (Jr (AF (J3 p)) J2w ([.p (.i .i64 x0), .data (J2 x1)], ws) 0 new).run st = some ⟨.p (.b o), ws⟩ := J0b rfl (JdP p h) rfl
def Jai (r : Unit) : Option Res := some (.agg [.p (.b false), .p (.b false), .p (.b false), .p (.b false), .p (.b false), .p .nf, .p .nf, .p (.b true), .p (.b false), .p (.b true), .p (.b false), .p (.b false), .fn Jv [] [], .fn J0j [] [], .p (.b true), .p (.b true), .p (.b true), .p (.b true), .p (.b false), .fn J0Y [] [], .fn J0j [] [], .p (.b true), .p (.b true), .p (.b false), .p (.b false), .p (.b false), .fn Jv [] [], .fn J05 [] [], .p (.b true), .p (.b true), .p (.b false), .p (.b false), .p (.b false), .fn Jv [] [], .fn J05 [] [], .p (.b true), .p (.b true), .p (.b false), .p (.b false), .p (.b false), .fn Jv [] [], .fn J05 [] [], .p (.b false), .p (.b false), .p (.b false), .p (.b false), .p (.b true), .fn Jv [] [], .fn J05 [] [], .p (.b false), .p (.b false), .p (.b false), .p (.b true), .p (.b false), .fn Jv [] [], .fn J0W [] [], .p (.b false), .p (.b false), .p (.b false), .p (.b false), .p (.b true), .fn Jv [] [], .fn J05 [] []], [])
def J47  : Option (Unit) :=
  some ()
theorem Jbz  {o : Unit} (h : J47 = some o) :
    rk (J3 p) J4b 0 [] (X (J3 p) J5e ⟨[], []⟩) = Jai o := by
  unfold J47 at h
  obtain rfl := sj h
  try simp only [↓Da, Ua, J5e, JeT, ↓reduceIte, Nat.reduceEqDiff, Nat.reduceAdd, Nat.reduceLT, Nat.reduceMul]
  rfl
theorem Jf0  {o : Unit} (h : J47 = some o) : AF (J3 p) J3s [] [] = Jai o :=
  (J1e (J3 p) (JeS p) rfl).trans (Jbz p h)
theorem JeX {o : Unit} (h : J47 = some o) : ∀ ws new st, (Jr (AF (J3 p)) J3s ([], ws) 0 new).run st = some ⟨.agg [.p (.b false), .p (.b false), .p (.b false), .p (.b false), .p (.b false), .p .nf, .p .nf, .p (.b true), .p (.b false), .p (.b true), .p (.b false), .p (.b false), .fn Jv [] [], .fn J0j [] [], .p (.b true), .p (.b true), .p (.b true), .p (.b true), .p (.b false), .fn J0Y [] [], .fn J0j [] [], .p (.b true), .p (.b true), .p (.b false), .p (.b false), .p (.b false), .fn Jv [] [], .fn J05 [] [], .p (.b true), .p (.b true), .p (.b false), .p (.b false), .p (.b false), .fn Jv [] [], .fn J05 [] [], .p (.b true), .p (.b true), .p (.b false), .p (.b false), .p (.b false), .fn Jv [] [], .fn J05 [] [], .p (.b false), .p (.b false), .p (.b false), .p (.b false), .p (.b true), .fn Jv [] [], .fn J05 [] [], .p (.b false), .p (.b false), .p (.b false), .p (.b true), .p (.b false), .fn Jv [] [], .fn J0W [] [], .p (.b false), .p (.b false), .p (.b false), .p (.b false), .p (.b true), .fn Jv [] [], .fn J05 [] []], ws⟩ :=
  Jjp rfl (Jf0 p h) (fun _ => rfl)
def J0K (x0 : List T_api_Row) : Option (List T_api_Row) := if (2 * x0.length + 512) * 24 ≤ 281474976710656 then some x0 else none
theorem J4i {x0 : List T_api_Row} {o : List T_api_Row} (h : J0K x0 = some o) : AF (J3 p) J0m [.p (.sl 3 (List.map J4 x0))] [] = some (.slr 0 0 o.length, [.arr true 3 (List.map J4 o)]) := by
  unfold J0K at h
  split at h
  · rename_i h2
    injection h with h; subst h
    rw [Jlw _ (J6E p)]
    cases x0 with
    | nil => simp [J1a, J7E, J9D, J6B.af]
    | cons a r =>
      simp at h2
      simp [J1a, J7E, J9D, J6B.af, h2]
  · cases h
def J8a  (r : Bool) : Option Res := some (.p (.b r), [])
def J1z (x0 : J6) : Option (Bool) :=
  some true
theorem J9F {x0 : J6} {o : Bool} (h : J1z x0 = some o) :
    rk (J3 p) J3a 0 [] (X (J3 p) J3Z ⟨[(0, .data (J2 x0))], []⟩) = J8a o := by
  unfold J1z at h
  obtain rfl := sj h
  try simp only [↓Da, Ua, J3Z, Jk, Jh, Jq, Jck, ↓reduceIte, Nat.reduceEqDiff, Nat.reduceAdd, Nat.reduceLT, Nat.reduceMul]
  rfl
theorem Jco {x0 : J6} {o : Bool} (h : J1z x0 = some o) : AF (J3 p) Jv [.data (J2 x0)] [] = J8a o :=
  (J1e (J3 p) (Jcx p) rfl).trans (J9F p h)
theorem J53 {x0 : J6} {o : Bool} (h : J1z x0 = some o) : ∀ ws new st, (Jr (AF (J3 p)) Jv ([.data (J2 x0)], ws) 0 new).run st = some ⟨.p (.b o), ws⟩ := J0b rfl (Jco p h) rfl
def JaE  (r : Bool) : Option Res := some (.p (.b r), [])
def J4O (x0 : Jf) : Option (Bool) :=
  some (x0 == (⟨0, 0, (⟨false, ([] : List UInt8)⟩ : Jg), (⟨false, ([] : List UInt8)⟩ : Jg)⟩ : Jf))
theorem Jc8 {x0 : Jf} {o : Bool} (h : J4O x0 = some o) :
    rk (J3 p) J4T 0 [] (X (J3 p) J5D ⟨[(0, .data (J8 x0))], []⟩) = JaE o := by
  unfold J4O at h
  obtain rfl := sj h
  try simp only [↓Da, Ua, J5D, Jk, Jh, J3S, Jfm, ↓reduceIte, Nat.reduceEqDiff, Nat.reduceAdd, Nat.reduceLT, Nat.reduceMul]
  rfl
theorem Jfs {x0 : Jf} {o : Bool} (h : J4O x0 = some o) : AF (J3 p) J05 [.data (J8 x0)] [] = JaE o :=
  (J1e (J3 p) (JfG p) rfl).trans (Jc8 p h)
theorem JaS {x0 : Jf} {o : Bool} (h : J4O x0 = some o) : ∀ ws new st, (Jr (AF (J3 p)) J05 ([.data (J8 x0)], ws) 0 new).run st = some ⟨.p (.b o), ws⟩ := J0b rfl (Jfs p h) rfl
def J80  (r : Bool) : Option Res := some (.p (.b r), [])
def J3W (x0 : J6) : Option (Bool) :=
  if (decide (x0.Ref ≥ 1)) then
    some (decide (x0.Ref ≤ x0.PrevTx))
  else
    some false
theorem J9s {x0 : J6} {o : Bool} (h : J3W x0 = some o) :
    rk (J3 p) J32 0 [] (X (J3 p) J36 ⟨[(0, .data (J2 x0))], []⟩) = J80 o := by
  unfold J3W at h
  rcases Jd h with ⟨h1, h⟩ | ⟨h1, h⟩
  · obtain rfl := sj h
    try simp only [↓Da, Ua, J36, Jk, Jh, Jq, J8h, *, ↓reduceIte, Nat.reduceEqDiff, Nat.reduceAdd, Nat.reduceLT, Nat.reduceMul]
    rfl
  · obtain rfl := sj h
    try simp only [↓Da, Ua, J36, Jk, Jh, Jq, J8h, *, ↓reduceIte, Nat.reduceEqDiff, Nat.reduceAdd, Nat.reduceLT, Nat.reduceMul]
    rfl
theorem Jce {x0 : J6} {o : Bool} (h : J3W x0 = some o) : AF (J3 p) J0Y [.data (J2 x0)] [] = J80 o :=
  (J1e (J3 p) (Jcp p) rfl).trans (J9s p h)
theorem Jcn {x0 : J6} {o : Bool} (h : J3W x0 = some o) : ∀ ws new st, (Jr (AF (J3 p)) J0Y ([.data (J2 x0)], ws) 0 new).run st = some ⟨.p (.b o), ws⟩ := J0b rfl (Jce p h) rfl
def J7T  (r : Bool) : Option Res := some (.p (.b r), [])
def J33 (x0 : Jf) : Option (Bool) :=
  if (x0 == (⟨x0.Page, 0, (⟨false, ([] : List UInt8)⟩ : Jg), (⟨false, ([] : List UInt8)⟩ : Jg)⟩ : Jf)) then
    if (decide (x0.Page ≥ 0)) then
      some (decide (x0.Page < 64))
    else
      some false
  else
    some false
theorem J9N {x0 : Jf} {o : Bool} (h : J33 x0 = some o) :
    rk (J3 p) J39 0 [] (X (J3 p) J1y ⟨[(0, .data (J8 x0))], []⟩) = J7T o := by
  unfold J33 at h
  try simp only [↓Da, Ua, J1y, Jk, Jh, J3S, ↓reduceIte, Nat.reduceEqDiff, Nat.reduceAdd, Nat.reduceLT, Nat.reduceMul]
  rcases Jd h with ⟨h2, h⟩ | ⟨h2, h⟩
  · try simp only [↓Da, Ua, J1y, Jk, Jh, J3S, *, ↓reduceIte, Nat.reduceEqDiff, Nat.reduceAdd, Nat.reduceLT, Nat.reduceMul]
    rcases Jd h with ⟨h3, h⟩ | ⟨h3, h⟩
    · obtain rfl := sj h
      try simp only [↓Da, Ua, J1y, Jk, Jh, J3S, J6i, *, ↓reduceIte, Nat.reduceEqDiff, Nat.reduceAdd, Nat.reduceLT, Nat.reduceMul]
      rfl
    · obtain rfl := sj h
      try simp only [↓Da, Ua, J1y, Jk, Jh, J3S, J6i, *, ↓reduceIte, Nat.reduceEqDiff, Nat.reduceAdd, Nat.reduceLT, Nat.reduceMul]
      rfl
  · obtain rfl := sj h
    try simp only [↓Da, Ua, J1y, Jk, Jh, J3S, J6i, *, ↓reduceIte, Nat.reduceEqDiff, Nat.reduceAdd, Nat.reduceLT, Nat.reduceMul]
    rfl
theorem Jcr {x0 : Jf} {o : Bool} (h : J33 x0 = some o) : AF (J3 p) J0W [.data (J8 x0)] [] = J7T o :=
  (J1e (J3 p) (JcJ p) rfl).trans (J9N p h)
theorem JcQ {x0 : Jf} {o : Bool} (h : J33 x0 = some o) : ∀ ws new st, (Jr (AF (J3 p)) J0W ([.data (J8 x0)], ws) 0 new).run st = some ⟨.p (.b o), ws⟩ := J0b rfl (Jcr p h) rfl
def J99  (r : Bool) : Option Res := some (.p (.b r), [])
def J4U (x0 : Int) : Option (Bool) :=
  if (decide (x0 ≥ 0)) then
    some (decide (x0 < 64))
  else
    some false
theorem JaH {x0 : Int} {o : Bool} (h : J4U x0 = some o) :
    rk (J3 p) J3O 0 [] (X (J3 p) J3M ⟨[(0, .p (.i .i64 x0))], []⟩) = J99 o := by
  unfold J4U at h
  rcases Jd h with ⟨h1, h⟩ | ⟨h1, h⟩
  · obtain rfl := sj h
    try simp only [↓Da, Ua, J3M, J9b, *, ↓reduceIte, Nat.reduceEqDiff, Nat.reduceAdd, Nat.reduceLT, Nat.reduceMul]
    rfl
  · obtain rfl := sj h
    try simp only [↓Da, Ua, J3M, J9b, *, ↓reduceIte, Nat.reduceEqDiff, Nat.reduceAdd, Nat.reduceLT, Nat.reduceMul]
    rfl
theorem JdO {x0 : Int} {o : Bool} (h : J4U x0 = some o) : AF (J3 p) J3N [.p (.i .i64 x0)] [] = J99 o :=
  (J1e (J3 p) (JdV p) rfl).trans (JaH p h)
theorem Je9 {x0 : Int} {o : Bool} (h : J4U x0 = some o) : ∀ ws new st, (Jr (AF (J3 p)) J3N ([.p (.i .i64 x0)], ws) 0 new).run st = some ⟨.p (.b o), ws⟩ := J0b rfl (JdO p h) rfl
def J7g  (r : Bool) : Option Res := some (.p (.b r), [])
def J2u (x0 : Jg) : Option (Bool) :=
  if (decide (((List.length x0.Data : Nat) : Int) ≤ 12)) then
    if x0.Set then
      some true
    else
      some (x0.Data == [])
  else
    some false
theorem J8S {x0 : Jg} {o : Bool} (h : J2u x0 = some o) :
    rk (J3 p) J2B 0 [] (X (J3 p) J1t ⟨[(0, .data (Jj x0))], []⟩) = J7g o := by
  unfold J2u at h
  rcases Jd h with ⟨h1, h⟩ | ⟨h1, h⟩
  · try simp only [↓Da, Ua, J1t, Jk, *, ↓reduceIte, Nat.reduceEqDiff, Nat.reduceAdd, Nat.reduceLT, Nat.reduceMul]
    rcases Jd h with ⟨h2, h⟩ | ⟨h2, h⟩
    · obtain rfl := sj h
      try simp only [↓Da, Ua, J1t, Jk, J5F, *, ↓reduceIte, Nat.reduceEqDiff, Nat.reduceAdd, Nat.reduceLT, Nat.reduceMul]
      rfl
    · obtain rfl := sj h
      try simp only [↓Da, Ua, J1t, Jk, J5F, *, ↓reduceIte, Nat.reduceEqDiff, Nat.reduceAdd, Nat.reduceLT, Nat.reduceMul]
      rfl
  · obtain rfl := sj h
    try simp only [↓Da, Ua, J1t, Jk, J5F, *, ↓reduceIte, Nat.reduceEqDiff, Nat.reduceAdd, Nat.reduceLT, Nat.reduceMul]
    rfl
theorem JaW {x0 : Jg} {o : Bool} (h : J2u x0 = some o) : AF (J3 p) J1Y [.data (Jj x0)] [] = J7g o :=
  (J1e (J3 p) (JaN p) rfl).trans (J8S p h)
theorem J7m {x0 : Jg} {o : Bool} (h : J2u x0 = some o) : ∀ ws new st, (Jr (AF (J3 p)) J1Y ([.data (Jj x0)], ws) 0 new).run st = some ⟨.p (.b o), ws⟩ := J0b rfl (JaW p h) rfl
def J48  (r : T_api_Index × T_pagemenddraw_Codes) : Option Res := some (.data (Ja r.1), [.box (List.map AV.p (J0 r.2))])
def J8G (b1 : T_api_Index) (o : (Int × T_pagemenddraw_Codes × (List T_api_Row)) ⊕ (T_api_Index × T_pagemenddraw_Codes)) : Option Res := match o with
  | .inl s => rk (J3 p) J1k 1 [.bl 0, .sq (.keep [2, 3] J2h)] (X (J3 p) (.lp 4 [0, 2, 3, 5] J17) ⟨[(0, .ptr 0 0), (2, .ptr 1 0), (3, .ptr 3 0), (5, .p (.i .i64 s.1))], [.box (List.map AV.p (J0 s.2.1)), .box (List.map AV.p (Ja b1)), .arr true 3 (List.map J4 s.2.2), .box [.slr 2 0 (List.length s.2.2)]]⟩)
  | .inr o => J48 o
def J3m (x5 : Int) (b0 : T_pagemenddraw_Codes) (b1 : T_api_Index) (l2 : List T_api_Row) : Option (((Int × T_pagemenddraw_Codes × (List T_api_Row)) ⊕ (T_api_Index × T_pagemenddraw_Codes))) :=
  some (.inl ((IntKind.wrap .i64 (x5 + 1)), b0, l2))
theorem J8w {x5 : Int} {b0 : T_pagemenddraw_Codes} {b1 : T_api_Index} {l2 : List T_api_Row} {o : ((Int × T_pagemenddraw_Codes × (List T_api_Row)) ⊕ (T_api_Index × T_pagemenddraw_Codes))} (h : J3m x5 b0 b1 l2 = some o) :
    rk (J3 p) J1k 1 [.lo 4 [0, 2, 3, 5] J17, .bl 0, .sq (.keep [2, 3] J2h)] (X (J3 p) J6D ⟨[(0, .ptr 0 0), (2, .ptr 1 0), (3, .ptr 3 0), (5, .p (.i .i64 x5))], [.box (List.map AV.p (J0 b0)), .box (List.map AV.p (Ja b1)), .arr true 3 (List.map J4 l2), .box [.slr 2 0 (List.length l2)]]⟩) = (J8G p b1) o := by
  unfold J3m at h
  obtain rfl := sj h
  try simp only [↓Da, Ua, J6D, ↓reduceIte, Nat.reduceEqDiff, Nat.reduceAdd, Nat.reduceLT, Nat.reduceMul]
  rfl
def J5t (b0 : T_pagemenddraw_Codes) (b1 : T_api_Index) (l2 : List T_api_Row) : Option (T_api_Index × T_pagemenddraw_Codes) :=
  some ((⟨l2⟩ : T_api_Index), b0)
theorem JcT {b0 : T_pagemenddraw_Codes} {b1 : T_api_Index} {l2 : List T_api_Row} {w2 : Bool} {o : T_api_Index × T_pagemenddraw_Codes} (h : J5t b0 b1 l2 = some o) :
    rk (J3 p) J1k 1 [] (X (J3 p) J2h ⟨[(2, .ptr 1 0), (3, .ptr 3 0)], [.box (List.map AV.p (J0 b0)), .box (List.map AV.p (Ja b1)), .arr w2 3 (List.map J4 l2), .box [.slr 2 0 (List.length l2)]]⟩) = J48 o := by
  unfold J5t at h
  obtain rfl := sj h
  try simp only [↓Da, Ua, J2h, J1, Ju, JeQ, ↓reduceIte, Nat.reduceEqDiff, Nat.reduceAdd, Nat.reduceLT, Nat.reduceMul]
  rfl
def J2f (b1 : T_api_Index) (x5 : Int) (b0 : T_pagemenddraw_Codes) (l2 : List T_api_Row) : Option (((Int × T_pagemenddraw_Codes × (List T_api_Row)) ⊕ (T_api_Index × T_pagemenddraw_Codes))) :=
  if (decide (x5 < (((List.length l2) : Nat) : Int))) then
    Option.bind (J0z b0 40) fun r2 =>
    Option.bind (idx l2 x5) fun y6 =>
    Option.bind (some (List.set l2 (Int.toNat x5) (⟨r2.1, y6.Image, y6.ImageLSN⟩ : T_api_Row))) fun m10 =>
    Option.bind (J0z r2.2 3) fun r14 =>
    if ((r14.1 : Int) == 0) then
      Option.bind (J0z r14.2 4) fun r18 =>
      Option.bind (J0z r18.2 40) fun r22 =>
      Option.bind (idx m10 x5) fun y26 =>
      Option.bind (some (List.set m10 (Int.toNat x5) (⟨y26.LSN, (IntKind.wrap .i64 (1 + r18.1)), y26.ImageLSN⟩ : T_api_Row))) fun m30 =>
      Option.bind (idx m30 x5) fun y34 =>
      Option.bind (some (List.set m30 (Int.toNat x5) (⟨y34.LSN, y34.Image, r22.1⟩ : T_api_Row))) fun m38 =>
      J3m x5 r22.2 b1 m38
    else
      J3m x5 r14.2 b1 m10
  else
    Option.map (fun o => .inr o) (J5t b0 b1 l2)
theorem J8u {b1 : T_api_Index} {x5 : Int} {b0 : T_pagemenddraw_Codes} {l2 : List T_api_Row} {o : ((Int × T_pagemenddraw_Codes × (List T_api_Row)) ⊕ (T_api_Index × T_pagemenddraw_Codes))} (h : J2f b1 x5 b0 l2 = some o) :
    rk (J3 p) J1k 1 [.lo 4 [0, 2, 3, 5] J17, .bl 0, .sq (.keep [2, 3] J2h)] (X (J3 p) J17 ⟨[(0, .ptr 0 0), (2, .ptr 1 0), (3, .ptr 3 0), (5, .p (.i .i64 x5))], [.box (List.map AV.p (J0 b0)), .box (List.map AV.p (Ja b1)), .arr true 3 (List.map J4 l2), .box [.slr 2 0 (List.length l2)]]⟩) = (J8G p b1) o := by
  unfold J2f at h
  rcases Jd h with ⟨h1, h⟩ | ⟨h1, h⟩
  · obtain ⟨r2, h3, h⟩ := bi h
    have f4 : ∀ ws new s, J0a ws s [0] [List.map AV.p (J0 b0)] → (Jr (AF (J3 p)) Jp ([.ptr 0 0, .p (.i .i64 40)], ws) 0 new).run s = some ⟨.p (.i .i64 r2.1), ws ++ [(0, .box (List.map AV.p (J0 r2.2)))]⟩ := J0v (args' := [.ptr 0 0, .p (.i .i64 40)]) (bs := [0]) (css := [List.map AV.p (J0 b0)]) (css' := [List.map AV.p (J0 r2.2)]) rfl rfl rfl (by simp [Jx, Ji]) (J10 p h3) rfl rfl (by simp [Jx, Ji])
    try simp only [Nf, J1, JG, Ju] at f4
    have f5 : ∀ ws k new s, J0a ws s [0] [List.map AV.p (J0 b0)] → Jb ((Jr (AF (J3 p)) Jp ([.ptr 0 0, .p (.i .i64 40)], ws) k new).reads s) = [0] ++ ([0] ++ [0]) := J1O (args' := [.ptr 0 0, .p (.i .i64 40)]) (bs := [0]) (css := [List.map AV.p (J0 b0)]) rfl rfl rfl (by simp [Jx, Ji])
    try simp only [Nf, J1, JG, Ju] at f5
    obtain ⟨y6, h7, h⟩ := bi h
    have f8 := J6k (r := J4) h7
    try simp only [Nf, J1, JG, Ju] at f8
    have f9 : (0 ≤ (x5 : Int) ∧ (x5 : Int) < (((List.length l2) : Nat) : Int)) = True := eq_true (by have e0 := J9n h7; (try simp only [List.length_cons, List.length_nil, Nat.zero_add] at e0); omega)
    obtain ⟨m10, h11, h⟩ := bi h
    have f12 : List.set (List.map J4 l2) (Int.toNat x5) (J4 (⟨r2.1, y6.Image, y6.ImageLSN⟩ : T_api_Row)) = List.map J4 m10 := by
      rw [← Option.some.inj h11, List.map_set]
    try simp only [Nf, J1, JG, Ju] at f12
    have g13 : List.length m10 = List.length l2 := by rw [← Option.some.inj h11, List.length_set]
    obtain ⟨r14, h15, h⟩ := bi h
    have f16 : ∀ ws new s, J0a ws s [0] [List.map AV.p (J0 r2.2)] → (Jr (AF (J3 p)) Jp ([.ptr 0 0, .p (.i .i64 3)], ws) 0 new).run s = some ⟨.p (.i .i64 r14.1), ws ++ [(0, .box (List.map AV.p (J0 r14.2)))]⟩ := J0v (args' := [.ptr 0 0, .p (.i .i64 3)]) (bs := [0]) (css := [List.map AV.p (J0 r2.2)]) (css' := [List.map AV.p (J0 r14.2)]) rfl rfl rfl (by simp [Jx, Ji]) (J10 p h15) rfl rfl (by simp [Jx, Ji])
    try simp only [Nf, J1, JG, Ju] at f16
    try simp only [↓Da, Ua, Ra, J17, J1, JG, Ju, *, ↓reduceIte, Nat.reduceEqDiff, Nat.reduceAdd, Nat.reduceLT, Nat.reduceMul, Nat.reduceBEq]
    rcases Jd h with ⟨h17, h⟩ | ⟨h17, h⟩
    · have h17n : ((r14.1 : Int) != 0) = false := by rw [bne, h17]; rfl
      obtain ⟨r18, h19, h⟩ := bi h
      have f20 : ∀ ws new s, J0a ws s [0] [List.map AV.p (J0 r14.2)] → (Jr (AF (J3 p)) Jp ([.ptr 0 0, .p (.i .i64 4)], ws) 0 new).run s = some ⟨.p (.i .i64 r18.1), ws ++ [(0, .box (List.map AV.p (J0 r18.2)))]⟩ := J0v (args' := [.ptr 0 0, .p (.i .i64 4)]) (bs := [0]) (css := [List.map AV.p (J0 r14.2)]) (css' := [List.map AV.p (J0 r18.2)]) rfl rfl rfl (by simp [Jx, Ji]) (J10 p h19) rfl rfl (by simp [Jx, Ji])
      try simp only [Nf, J1, JG, Ju] at f20
      have f21 : ∀ ws k new s, J0a ws s [0] [List.map AV.p (J0 r14.2)] → Jb ((Jr (AF (J3 p)) Jp ([.ptr 0 0, .p (.i .i64 4)], ws) k new).reads s) = [0] ++ ([0] ++ [0]) := J1O (args' := [.ptr 0 0, .p (.i .i64 4)]) (bs := [0]) (css := [List.map AV.p (J0 r14.2)]) rfl rfl rfl (by simp [Jx, Ji])
      try simp only [Nf, J1, JG, Ju] at f21
      obtain ⟨r22, h23, h⟩ := bi h
      have f24 : ∀ ws new s, J0a ws s [0] [List.map AV.p (J0 r18.2)] → (Jr (AF (J3 p)) Jp ([.ptr 0 0, .p (.i .i64 40)], ws) 0 new).run s = some ⟨.p (.i .i64 r22.1), ws ++ [(0, .box (List.map AV.p (J0 r22.2)))]⟩ := J0v (args' := [.ptr 0 0, .p (.i .i64 40)]) (bs := [0]) (css := [List.map AV.p (J0 r18.2)]) (css' := [List.map AV.p (J0 r22.2)]) rfl rfl rfl (by simp [Jx, Ji]) (J10 p h23) rfl rfl (by simp [Jx, Ji])
      try simp only [Nf, J1, JG, Ju] at f24
      have f25 : ∀ ws k new s, J0a ws s [0] [List.map AV.p (J0 r18.2)] → Jb ((Jr (AF (J3 p)) Jp ([.ptr 0 0, .p (.i .i64 40)], ws) k new).reads s) = [0] ++ ([0] ++ [0]) := J1O (args' := [.ptr 0 0, .p (.i .i64 40)]) (bs := [0]) (css := [List.map AV.p (J0 r18.2)]) rfl rfl rfl (by simp [Jx, Ji])
      try simp only [Nf, J1, JG, Ju] at f25
      obtain ⟨y26, h27, h⟩ := bi h
      have f28 := J6k (r := J4) h27
      try simp only [Nf, J1, JG, Ju] at f28
      have f29 : (0 ≤ (x5 : Int) ∧ (x5 : Int) < (((List.length l2) : Nat) : Int)) = True := eq_true (by have e0 := J9n h27; (try simp only [g13, List.length_cons, List.length_nil, Nat.zero_add] at e0); omega)
      obtain ⟨m30, h31, h⟩ := bi h
      have f32 : List.set (List.map J4 m10) (Int.toNat x5) (J4 (⟨y26.LSN, (IntKind.wrap .i64 (1 + r18.1)), y26.ImageLSN⟩ : T_api_Row)) = List.map J4 m30 := by
        rw [← Option.some.inj h31, List.map_set]
      try simp only [Nf, J1, JG, Ju] at f32
      have g33 : List.length m30 = List.length m10 := by rw [← Option.some.inj h31, List.length_set]
      obtain ⟨y34, h35, h⟩ := bi h
      have f36 := J6k (r := J4) h35
      try simp only [Nf, J1, JG, Ju] at f36
      have f37 : (0 ≤ (x5 : Int) ∧ (x5 : Int) < (((List.length l2) : Nat) : Int)) = True := eq_true (by have e0 := J9n h35; (try simp only [g13, g33, List.length_cons, List.length_nil, Nat.zero_add] at e0); omega)
      obtain ⟨m38, h39, h⟩ := bi h
      have f40 : List.set (List.map J4 m30) (Int.toNat x5) (J4 (⟨y34.LSN, y34.Image, r22.1⟩ : T_api_Row)) = List.map J4 m38 := by
        rw [← Option.some.inj h39, List.map_set]
      try simp only [Nf, J1, JG, Ju] at f40
      have g41 : List.length m38 = List.length m30 := by rw [← Option.some.inj h39, List.length_set]
      try simp only [↓Da, Ua, Ra, J17, J1, JG, Ju, *, ↓reduceIte, Nat.reduceEqDiff, Nat.reduceAdd, Nat.reduceLT, Nat.reduceMul, Nat.reduceBEq]
      have e0 := J8w p h
      try simp only [g13, g33, g41] at e0
      exact e0
    · have h17n : ((r14.1 : Int) != 0) = true := by rw [bne, h17]; rfl
      try simp only [↓Da, Ua, Ra, J17, J1, JG, Ju, *, ↓reduceIte, Nat.reduceEqDiff, Nat.reduceAdd, Nat.reduceLT, Nat.reduceMul, Nat.reduceBEq]
      have e0 := J8w p h
      try simp only [g13] at e0
      exact e0
  · obtain ⟨o', h', rfl⟩ := mi h
    try simp only [↓Da, Ua, Ra, J17, J1, JG, Ju, *, ↓reduceIte, Nat.reduceEqDiff, Nat.reduceAdd, Nat.reduceLT, Nat.reduceMul, Nat.reduceBEq]
    have e0 := JcT p (w2 := true) h'
    exact e0
def J8H (b1 : T_api_Index) (s : Int × T_pagemenddraw_Codes × (List T_api_Row)) : Option (T_api_Index × T_pagemenddraw_Codes) :=
  J1u (fun s => J2f b1 s.1 s.2.1 s.2.2) s
theorem JbQ {b1 : T_api_Index} {s : Int × T_pagemenddraw_Codes × (List T_api_Row)} {o : T_api_Index × T_pagemenddraw_Codes} (h : J8H b1 s = some o) :
    rk (J3 p) J1k 1 [.bl 0, .sq (.keep [2, 3] J2h)] (X (J3 p) (.lp 4 [0, 2, 3, 5] J17) ⟨[(0, .ptr 0 0), (2, .ptr 1 0), (3, .ptr 3 0), (5, .p (.i .i64 s.1))], [.box (List.map AV.p (J0 s.2.1)), .box (List.map AV.p (Ja b1)), .arr true 3 (List.map J4 s.2.2), .box [.slr 2 0 (List.length s.2.2)]]⟩) = J48 o := by
  have h0 : J1u (fun s => J2f b1 s.1 s.2.1 s.2.2) s = some o := h
  exact J6p (P := fun (s : Int × T_pagemenddraw_Codes × (List T_api_Row)) (o : T_api_Index × T_pagemenddraw_Codes) => rk (J3 p) J1k 1 [.bl 0, .sq (.keep [2, 3] J2h)] (X (J3 p) (.lp 4 [0, 2, 3, 5] J17) ⟨[(0, .ptr 0 0), (2, .ptr 1 0), (3, .ptr 3 0), (5, .p (.i .i64 s.1))], [.box (List.map AV.p (J0 s.2.1)), .box (List.map AV.p (Ja b1)), .arr true 3 (List.map J4 s.2.2), .box [.slr 2 0 (List.length s.2.2)]]⟩) = J48 o) (fun s r hs => by rw [J6e]; exact J8u p hs) (fun s s1 r hs ih => by rw [J6e]; exact (J8u p hs).trans ih) h0
def J4e (b0 : T_pagemenddraw_Codes) : Option (T_api_Index × T_pagemenddraw_Codes) :=
  Option.bind (J0z b0 5) fun r1 =>
  Option.bind (J4y (IntKind.wrap .i64 (1 + r1.1))) fun r4 =>
  if ((r4.2 : Int) == 0) then
    J8H (⟨([] : List T_api_Row)⟩ : T_api_Index) (0, r1.2, r4.1.Rows)
  else
    none
theorem JbR {b0 : T_pagemenddraw_Codes} {o : T_api_Index × T_pagemenddraw_Codes} (h : J4e b0 = some o) :
    rk (J3 p) J1k 1 [] (X (J3 p) J43 ⟨[(0, .ptr 0 0)], [.box (List.map AV.p (J0 b0))]⟩) = J48 o := by
  unfold J4e at h
  obtain ⟨r1, h2, h⟩ := bi h
  have f3 : ∀ ws new s, J0a ws s [0] [List.map AV.p (J0 b0)] → (Jr (AF (J3 p)) Jp ([.ptr 0 0, .p (.i .i64 5)], ws) 0 new).run s = some ⟨.p (.i .i64 r1.1), ws ++ [(0, .box (List.map AV.p (J0 r1.2)))]⟩ := J0v (args' := [.ptr 0 0, .p (.i .i64 5)]) (bs := [0]) (css := [List.map AV.p (J0 b0)]) (css' := [List.map AV.p (J0 r1.2)]) rfl rfl rfl (by simp [Jx, Ji]) (J10 p h2) rfl rfl (by simp [Jx, Ji])
  try simp only [Nf, J1, JG, Ju] at f3
  obtain ⟨r4, h5, h⟩ := bi h
  try simp only [↓Da, Ua, J43, J1, JG, Ju, *, ↓reduceIte, Nat.reduceEqDiff, Nat.reduceAdd, Nat.reduceLT, Nat.reduceMul]
  rcases Jd h with ⟨h6, h⟩ | ⟨h6, h⟩
  · have h6n : ((r4.2 : Int) != 0) = false := by rw [bne, h6]; rfl
    have f7 := JeP p h5 h6
    try simp only [Nf, J1, JG, Ju] at f7
    try simp only [↓Da, Ua, J43, J1, JG, Ju, *, ↓reduceIte, Nat.reduceEqDiff, Nat.reduceAdd, Nat.reduceLT, Nat.reduceMul]
    have e0 := JbQ p h
    exact e0
  · have h6n : ((r4.2 : Int) != 0) = true := by rw [bne, h6]; rfl
    cases h
theorem JeW {b0 : T_pagemenddraw_Codes} {o : T_api_Index × T_pagemenddraw_Codes} (h : J4e b0 = some o) : AF (J3 p) J4a [.ptr 0 0] [.box (List.map AV.p (J0 b0))] = J48 o :=
  (J1e (J3 p) (JeM p) rfl).trans (JbR p h)
end
end Go.Am
end
