/-
  Parts of a proof: AmPrim, YteiakclfpfmigaaKTy, YteiakclfpfmigaaKFns, YteiakclfpfmigaaKS1, YteiakclfpfmigaaKS2, YteiakclfpfmigaaKSz, YteiakclfpfmigaaPlain.
-/
import Derived.Below
import Derived.Test.YteiakclfpfmigaaM1
import Derived.Test.YteiakclfpfmigaaM4
import Derived.Test.YteiakclfpfmigaaM5
import Derived.Test.YteiakclfpfmigaaM6
set_option linter.unusedSimpArgs false
set_option linter.unusedVariables false
section
set_option linter.unusedSimpArgs false
set_option linter.unusedVariables false
namespace Go.Am
open Go.RowKit
theorem Jhh {σ : List Blk} {g : Gh} {w w' : World} (hi : Inv ⟨σ, g, w⟩) (hb : Below w.heap.size w w') :
    Inv ⟨σ, g, w'⟩ ∧ Jy ⟨σ, g, w⟩ ⟨σ, g, w'⟩ := by
  have hk : ∀ (r : Nat) x, w.heap[r]? = some x → w'.heap[r]? = some x := fun r x h => by rw [hb.block r (J0N h)]; exact h
  have hc : ∀ r o v, JV w r o = some v → JV w' r o = some v := by
    intro r o v h
    have hr : r < w.heap.size := by
      unfold JV at h
      split at h
      · rename_i hx; exact J0N hx
      · cases h
    unfold JV at h ⊢
    rw [hb.block r hr]
    exact h
  have t : Jy ⟨σ, g, w⟩ ⟨σ, g, w'⟩ := by
    refine ⟨⟨hb.size, fun r c e fz h => ⟨c, hk r _ h, rfl, fun _ _ => rfl⟩, fun r x h _ => hk r x h, hb.os, hb.output⟩, fun _ _ h => h, fun _ _ h => .inl h, fun r o ⟨b, hb⟩ => .inl ⟨b, hb⟩, Nat.le_refl _, fun _ cs h => ⟨⟨cs, h, rfl⟩, rfl⟩,
      fun _ wm _ rows h => ⟨wm, rows, h, id, Nat.le_refl _, fun _ => rfl⟩⟩
  exact ⟨J4u hi t (fun _ => False) (fun _ _ => ⟨rfl, rfl⟩) (fun _ r o v _ _ h => hc r o v h) (fun _ _ h => h.elim) (fun _ _ _ _ h => h.elim)
    (fun _ _ _ _ h => h.elim) (fun r o h => Nat.lt_of_lt_of_le (hi.const r o h).1 hb.size) (fun _ _ _ _ h => h.elim) (fun _ _ _ h h' => (h' h).elim), t⟩
def J81 : PV → Option Value
  | .b x => some (.bool x)
  | .i k n => some (.int k n)
  | .s l => some (.string ⟨l.toArray⟩)
  | _ => none
theorem Jap {x : PV} {v : Value} (h : J81 x = some v) (w : World) (C : Nat → Nat → Prop) : JC w C x v := by
  cases x <;> simp only [J81, Option.some.injEq, reduceCtorEq] at h <;> subst h
  · exact .b _
  · exact .i _ _
  · exact .s _
theorem Jjx {x : PV} {v v' : Value} {w : World} {C : Nat → Nat → Prop} (h : JC w C x v) (hv : J81 x = some v') : v = v' := by
  cases x <;> simp only [J81, Option.some.injEq, reduceCtorEq] at hv <;> subst hv <;> cases h <;> rfl
theorem JbL {P : Program} {f : FuncId} {xs : List PV} {vs : List Value} {r : PV} {v : Value} {blks : List Blk}
    (hf : ∃ fn, P.funcs[f]? = some fn ∧ fn.body.isSome = true ∧ (fn.name == "runtime.NumGoroutine") = false)
    (hx : xs.mapM J81 = some vs) (hr : J81 r = some v)
    (hc : ∀ w, Calls P f vs.toArray w fun e w' => e = .returned v ∧ Below w.heap.size w w') :
    J47 P f (xs.map .p) blks (.p r, blks) := by
  refine ⟨hf, fun g w vals hi hl ha => ?_⟩
  have hvals : vals = vs.toArray := by
    have key : ∀ (xs : List PV) (vs vl : List Value), xs.mapM J81 = some vs → xs.length = vl.length →
        (∀ (i : Nat) x v, (xs.map AV.p)[i]? = some x → vl[i]? = some v → Ji ⟨blks, g, w⟩ x v) → vl = vs := by
      intro xs
      induction xs with
      | nil => intro vs vl h1 h2 _; simp at h1 h2; subst h1; exact List.length_eq_zero_iff.1 h2.symm
      | cons x r ih =>
        intro vs vl h1 h2 h3
        simp only [List.mapM_cons, Option.pure_def, Option.bind_eq_bind] at h1
        obtain ⟨v0, hv0, h1⟩ := Option.bind_eq_some_iff.1 h1
        obtain ⟨vr, hvr, h1⟩ := Option.bind_eq_some_iff.1 h1
        simp only [Option.some.injEq] at h1
        subst h1
        cases vl with
        | nil => simp at h2
        | cons u ur =>
          have := h3 0 (.p x) u rfl rfl
          cases this with
          | p _ _ hp =>
            rw [Jjx hp hv0, ih vr ur hvr (by simpa using h2) (fun i x v hx hv => h3 (i + 1) x v hx hv)]
    apply Array.ext'
    rw [key xs vs vals.toList hx (by simpa using hl) (fun i x v h1 h2 => ha i x v h1 (by simpa using h2))]
  subst hvals
  refine (hc w).mono ?_
  rintro e w' ⟨rfl, hb⟩
  obtain ⟨hi', t⟩ := Jhh hi hb
  exact ⟨v, g, rfl, hi', t, .p _ _ (Jap hr _ _)⟩
theorem JbZ {T : J2z} {f : FuncId} {g : List AV → List Blk → Option Res} (h : T f = some (.prim g)) (args blks) : AF T f args blks = g args blks := by
  unfold AF J5L; rw [h]
def Jkz (a : Option AFn) (k : Option J5y) (g q : Option (List AV → List Blk → Option Res)) : Option J4n :=
  match a with
  | some a => some (.fn a)
  | none => match k with
    | some k => some (.fork k)
    | none => match g with
      | some g => some (.prim g)
      | none => q.map .prim
theorem J7W {a : Option AFn} {k : Option J5y} {g q : Option (List AV → List Blk → Option Res)} {e : J4n} (h : Jkz a k g q = some e) :
    (∃ x, a = some x ∧ e = .fn x) ∨ (∃ x, k = some x ∧ e = .fork x) ∨ (∃ x, g = some x ∧ e = .prim x) ∨ (∃ x, q = some x ∧ e = .prim x) := by
  cases a with
  | some a => exact .inl ⟨a, rfl, by injection h with h; exact h.symm⟩
  | none =>
    cases k with
    | some k => exact .inr (.inl ⟨k, rfl, by injection h with h; exact h.symm⟩)
    | none =>
      cases g with
      | some g => exact .inr (.inr (.inl ⟨g, rfl, by injection h with h; exact h.symm⟩))
      | none =>
        cases q with
        | some q => exact .inr (.inr (.inr ⟨q, rfl, by injection h with h; exact h.symm⟩))
        | none => cases h
def JbR (l : List UInt8) (n : Int) : Option (List UInt8) :=
  if 0 ≤ n ∧ n ≤ 9223372036854775807 ∧ l.length * n.toNat ≤ 140737488355328 then some (List.replicate n.toNat l).flatten else none
def JdI : List AV → List Blk → Option Res
  | [.p (.s l), .p (.i .i64 n)], blks => (JbR l n).map fun r => (.p (.s r), blks)
  | _, _ => none
def J53 (n : Int) (i : Nat) : Int := IntKind.wrap .u8 ((IntKind.wrap .u64 n).fdiv (2 ^ (8 * i)))
def J17 (n : Int) (k : Nat) : List UInt8 := toStr ((List.range k).map (J53 n))
def Jbv (l : List UInt8) (n size : Int) : Option (List UInt8) :=
  if size < 1 ∨ 8 < size then some l
  else if l.length + 8 ≤ 140737488355328 then some (l ++ J17 n size.toNat) else none
def Jdv : List AV → List Blk → Option Res
  | [.p (.s l), .p (.i .i64 n), .p (.i .i64 k)], blks => (Jbv l n k).map fun r => (.p (.s r), blks)
  | _, _ => none
theorem JjH (x : Int) : 0 ≤ IntKind.wrap .u8 x ∧ IntKind.wrap .u8 x < 256 := by
  have h : IntKind.wrap .u8 x = x % 256 := rfl
  rw [h]; omega
theorem Jfj (n : Int) (i : Nat) : ((UInt8.ofNat (J53 n i).toNat).toNat : Int) = J53 n i := by
  have h : 0 ≤ J53 n i ∧ J53 n i < 256 := JjH _
  have h2 : (J53 n i).toNat < 256 := by omega
  rw [UInt8.toNat_ofNat_of_lt' (by simpa using h2)]
  omega
theorem Jgx (n : Int) (k : Nat) : J17 n (k + 1) = J17 n k ++ [UInt8.ofNat (J53 n k).toNat] := by
  simp [J17, toStr, List.range_succ]
theorem J2L (n : Int) (k : Nat) : (J17 n k).length = k := by simp [J17, toStr]
def Ja0 {α : Type} (l : List α) (i j : Int) : Option (List α) :=
  if 0 ≤ i ∧ i ≤ j ∧ j ≤ l.length then some (l.take i.toNat ++ l.drop j.toNat) else none
def JaA (esz : Nat) (zero : List PV) : List AV → List Blk → Option Res
  | [.slr 0 0 n, .p (.i .i64 i), .p (.i .i64 j)], [.arr true e rows] =>
    if e = esz ∧ n = rows.length then (Ja0 rows i j).map fun r => (.p (.sl esz r), [.arr false esz (r ++ List.replicate (n - r.length) zero)]) else none
  | _, _ => none
theorem JjF {α : Type} (r : α → List PV) (z : α) {esz : Nat} {l o : List α} {i j : Int} (h : Ja0 l i j = some o) :
    JaA esz (r z) [.slr 0 0 l.length, .p (.i .i64 i), .p (.i .i64 j)] [.arr true esz (l.map r)] = some (.p (.sl esz (o.map r)), [.arr false esz ((o ++ List.replicate (l.length - o.length) z).map r)]) := by
  unfold Ja0 at h
  split at h
  · rename_i hc
    injection h with h
    subst h
    simp [JaA, Ja0, hc, ← List.map_take, ← List.map_drop]
  · cases h
end Go.Am
end
section
namespace Go.Am
set_option maxRecDepth 8000
set_option maxHeartbeats 4000000
set_option linter.unusedSimpArgs false
set_option linter.unusedVariables false
structure Jc where
  Set : Bool
  Data : List UInt8
  deriving DecidableEq
instance : Inhabited Jc := ⟨⟨false, []⟩⟩
def Jd (x : Jc) : List PV := (cat [.b x.Set] [.s x.Data])
theorem J0b (x : Jc) : (Jd x).length = 2 := by
  simp only [cat, Jd, List.length_append, List.length_cons, List.length_nil]
theorem Ja1 (x : Jc) : sub (Jd x) 0 1 = some [.b x.Set] := by unfold Jd; exact J5D rfl
theorem Jau (x : Jc) (y : Bool) : spl (Jd x) 0 [.b y] = some (Jd ⟨y, x.Data⟩) := by unfold Jd; exact J5H rfl
theorem J9D (x : Jc) : sub (Jd x) 1 1 = some [.s x.Data] := by
  have e0 : Jd x = cat [.b x.Set] [.s x.Data] := by unfold Jd; simp only [cat, List.append_assoc]
  rw [e0]; exact J6o (by simp only [cat, List.length_append, List.length_cons, List.length_nil]) rfl
theorem J9E (x : Jc) (y : List UInt8) : spl (Jd x) 1 [.s y] = some (Jd ⟨x.Set, y⟩) := by
  have e0 : Jd x = cat [.b x.Set] [.s x.Data] := by unfold Jd; simp only [cat, List.append_assoc]
  have e1 : Jd ⟨x.Set, y⟩ = cat [.b x.Set] [.s y] := by unfold Jd; simp only [cat, List.append_assoc]
  rw [e0, e1]; exact J6t (by simp only [cat, List.length_append, List.length_cons, List.length_nil]) rfl
theorem JdR : (default : Jc) = (⟨false, []⟩ : Jc) := rfl
theorem JcI (x : Jc) : sub (Jd x) 0 2 = some (Jd x) := J6v (J0b x)
theorem JcS (x y : Jc) : spl (Jd x) 0 (Jd y) = some (Jd y) := J6w ((J0b x).trans (J0b y).symm)
theorem J3 : (∀ x : Jc, (Jd x).length = 2) ∧
  (∀ x : Jc, sub (Jd x) 0 1 = some [.b x.Set]) ∧
  (∀ (x : Jc) (y : Bool), spl (Jd x) 0 [.b y] = some (Jd ⟨y, x.Data⟩)) ∧
  (∀ x : Jc, sub (Jd x) 1 1 = some [.s x.Data]) ∧
  (∀ (x : Jc) (y : List UInt8), spl (Jd x) 1 [.s y] = some (Jd ⟨x.Set, y⟩)) ∧
  ((default : Jc) = (⟨false, []⟩ : Jc)) ∧
  (∀ x : Jc, sub (Jd x) 0 2 = some (Jd x)) ∧
  (∀ x y : Jc, spl (Jd x) 0 (Jd y) = some (Jd y)) :=
  ⟨@J0b, @Ja1, @Jau, @J9D, @J9E, JdR, @JcI, @JcS⟩
theorem JE : (∀ x : Jc, Jd x = (cat [.b x.Set] [.s x.Data])) ∧ (default : Jc) = (⟨false, []⟩ : Jc) := ⟨fun _ => rfl, rfl⟩
theorem J0 : (∀ v : Vector Jc 16, (JH Jd v).length = 32) ∧ (∀ v : Vector Jc 16, sub (JH Jd v) 0 32 = some (JH Jd v)) ∧ (∀ v y : Vector Jc 16, spl (JH Jd v) 0 (JH Jd y) = some (JH Jd y)) :=
  ⟨fun v => J2C J0b v, fun v => J6v (J2C J0b v), fun v y => J6w ((J2C J0b v).trans (J2C J0b y).symm)⟩
structure J8 where
  ID : Int
  LSN : Int
  Cells : Vector Jc 16
  deriving DecidableEq
instance : Inhabited J8 := ⟨⟨0, 0, (Vector.replicate 16 (⟨false, []⟩ : Jc))⟩⟩
def J9 (x : J8) : List PV := (cat [.i .i64 x.ID] (cat [.i .i64 x.LSN] ((JH Jd) x.Cells)))
theorem J0B (x : J8) : (J9 x).length = 34 := by
  simp only [cat, J9, (J2C J0b x.Cells), List.length_append, List.length_cons, List.length_nil]
theorem J4o (x : J8) : sub (J9 x) 0 1 = some [.i .i64 x.ID] := by unfold J9; exact J5D rfl
theorem Jb1 (x : J8) (y : Int) : spl (J9 x) 0 [.i .i64 y] = some (J9 ⟨y, x.LSN, x.Cells⟩) := by unfold J9; exact J5H rfl
theorem J6M (x : J8) : sub (J9 x) 1 1 = some [.i .i64 x.LSN] := by
  have e0 : J9 x = cat [.i .i64 x.ID] (cat [.i .i64 x.LSN] ((JH Jd) x.Cells)) := by unfold J9; simp only [cat, List.append_assoc]
  rw [e0]; exact J5j (by simp only [cat, List.length_append, List.length_cons, List.length_nil, (J2C J0b x.Cells)]) rfl
theorem Jax (x : J8) (y : Int) : spl (J9 x) 1 [.i .i64 y] = some (J9 ⟨x.ID, y, x.Cells⟩) := by
  have e0 : J9 x = cat [.i .i64 x.ID] (cat [.i .i64 x.LSN] ((JH Jd) x.Cells)) := by unfold J9; simp only [cat, List.append_assoc]
  have e1 : J9 ⟨x.ID, y, x.Cells⟩ = cat [.i .i64 x.ID] (cat [.i .i64 y] ((JH Jd) x.Cells)) := by unfold J9; simp only [cat, List.append_assoc]
  rw [e0, e1]; exact J5n (by simp only [cat, List.length_append, List.length_cons, List.length_nil, (J2C J0b x.Cells)]) rfl
theorem J8N (x : J8) : sub (J9 x) 2 32 = some ((JH Jd) x.Cells) := by
  have e0 : J9 x = cat (cat [.i .i64 x.ID] [.i .i64 x.LSN]) ((JH Jd) x.Cells) := by unfold J9; simp only [cat, List.append_assoc]
  rw [e0]; exact J6o (by simp only [cat, List.length_append, List.length_cons, List.length_nil, (J2C J0b x.Cells)]) (J2C J0b _)
theorem J8P (x : J8) (y : Vector Jc 16) : spl (J9 x) 2 ((JH Jd) y) = some (J9 ⟨x.ID, x.LSN, y⟩) := by
  have e0 : J9 x = cat (cat [.i .i64 x.ID] [.i .i64 x.LSN]) ((JH Jd) x.Cells) := by unfold J9; simp only [cat, List.append_assoc]
  have e1 : J9 ⟨x.ID, x.LSN, y⟩ = cat (cat [.i .i64 x.ID] [.i .i64 x.LSN]) ((JH Jd) y) := by unfold J9; simp only [cat, List.append_assoc]
  rw [e0, e1]; exact J6t (by simp only [cat, List.length_append, List.length_cons, List.length_nil, (J2C J0b x.Cells)]) ((J2C J0b _).trans (J2C J0b _).symm)
theorem JdF : (default : J8) = (⟨0, 0, (Vector.replicate 16 (⟨false, []⟩ : Jc))⟩ : J8) := rfl
theorem JcF (x : J8) : sub (J9 x) 0 34 = some (J9 x) := J6v (J0B x)
theorem JcM (x y : J8) : spl (J9 x) 0 (J9 y) = some (J9 y) := J6w ((J0B x).trans (J0B y).symm)
theorem J2 : (∀ x : J8, (J9 x).length = 34) ∧
  (∀ x : J8, sub (J9 x) 0 1 = some [.i .i64 x.ID]) ∧
  (∀ (x : J8) (y : Int), spl (J9 x) 0 [.i .i64 y] = some (J9 ⟨y, x.LSN, x.Cells⟩)) ∧
  (∀ x : J8, sub (J9 x) 1 1 = some [.i .i64 x.LSN]) ∧
  (∀ (x : J8) (y : Int), spl (J9 x) 1 [.i .i64 y] = some (J9 ⟨x.ID, y, x.Cells⟩)) ∧
  (∀ x : J8, sub (J9 x) 2 32 = some ((JH Jd) x.Cells)) ∧
  (∀ (x : J8) (y : Vector Jc 16), spl (J9 x) 2 ((JH Jd) y) = some (J9 ⟨x.ID, x.LSN, y⟩)) ∧
  ((default : J8) = (⟨0, 0, (Vector.replicate 16 (⟨false, []⟩ : Jc))⟩ : J8)) ∧
  (∀ x : J8, sub (J9 x) 0 34 = some (J9 x)) ∧
  (∀ x y : J8, spl (J9 x) 0 (J9 y) = some (J9 y)) :=
  ⟨@J0B, @J4o, @Jb1, @J6M, @Jax, @J8N, @J8P, JdF, @JcF, @JcM⟩
structure T_api_Frame where
  Page : J8
  Dirty : Bool
  Rec : Int
  Used : Bool
  deriving DecidableEq
instance : Inhabited T_api_Frame := ⟨⟨(⟨0, 0, (Vector.replicate 16 (⟨false, []⟩ : Jc))⟩ : J8), false, 0, false⟩⟩
def J1 (x : T_api_Frame) : List PV := (cat (J9 x.Page) (cat [.b x.Dirty] (cat [.i .i64 x.Rec] [.b x.Used])))
theorem J5d (x : T_api_Frame) : (J1 x).length = 37 := by
  simp only [cat, J1, J0B, List.length_append, List.length_cons, List.length_nil]
theorem J2n (x : T_api_Frame) : sub (J1 x) 0 34 = some (J9 x.Page) := by unfold J1; exact J5D (J0B _)
theorem J8A (x : T_api_Frame) (y : J8) : spl (J1 x) 0 (J9 y) = some (J1 ⟨y, x.Dirty, x.Rec, x.Used⟩) := by unfold J1; exact J5H ((J0B _).trans (J0B _).symm)
theorem J8r (x : T_api_Frame) : sub (J1 x) 34 1 = some [.b x.Dirty] := by
  have e0 : J1 x = cat (J9 x.Page) (cat [.b x.Dirty] (cat [.i .i64 x.Rec] [.b x.Used])) := by unfold J1; simp only [cat, List.append_assoc]
  rw [e0]; exact J5j (by simp only [cat, List.length_append, List.length_cons, List.length_nil, J0B]) rfl
theorem J8q (x : T_api_Frame) (y : Bool) : spl (J1 x) 34 [.b y] = some (J1 ⟨x.Page, y, x.Rec, x.Used⟩) := by
  have e0 : J1 x = cat (J9 x.Page) (cat [.b x.Dirty] (cat [.i .i64 x.Rec] [.b x.Used])) := by unfold J1; simp only [cat, List.append_assoc]
  have e1 : J1 ⟨x.Page, y, x.Rec, x.Used⟩ = cat (J9 x.Page) (cat [.b y] (cat [.i .i64 x.Rec] [.b x.Used])) := by unfold J1; simp only [cat, List.append_assoc]
  rw [e0, e1]; exact J5n (by simp only [cat, List.length_append, List.length_cons, List.length_nil, J0B]) rfl
theorem J9F (x : T_api_Frame) : sub (J1 x) 35 1 = some [.i .i64 x.Rec] := by
  have e0 : J1 x = cat (cat (J9 x.Page) [.b x.Dirty]) (cat [.i .i64 x.Rec] [.b x.Used]) := by unfold J1; simp only [cat, List.append_assoc]
  rw [e0]; exact J5j (by simp only [cat, List.length_append, List.length_cons, List.length_nil, J0B]) rfl
theorem J9H (x : T_api_Frame) (y : Int) : spl (J1 x) 35 [.i .i64 y] = some (J1 ⟨x.Page, x.Dirty, y, x.Used⟩) := by
  have e0 : J1 x = cat (cat (J9 x.Page) [.b x.Dirty]) (cat [.i .i64 x.Rec] [.b x.Used]) := by unfold J1; simp only [cat, List.append_assoc]
  have e1 : J1 ⟨x.Page, x.Dirty, y, x.Used⟩ = cat (cat (J9 x.Page) [.b x.Dirty]) (cat [.i .i64 y] [.b x.Used]) := by unfold J1; simp only [cat, List.append_assoc]
  rw [e0, e1]; exact J5n (by simp only [cat, List.length_append, List.length_cons, List.length_nil, J0B]) rfl
theorem J8v (x : T_api_Frame) : sub (J1 x) 36 1 = some [.b x.Used] := by
  have e0 : J1 x = cat (cat (J9 x.Page) (cat [.b x.Dirty] [.i .i64 x.Rec])) [.b x.Used] := by unfold J1; simp only [cat, List.append_assoc]
  rw [e0]; exact J6o (by simp only [cat, List.length_append, List.length_cons, List.length_nil, J0B]) rfl
theorem J8t (x : T_api_Frame) (y : Bool) : spl (J1 x) 36 [.b y] = some (J1 ⟨x.Page, x.Dirty, x.Rec, y⟩) := by
  have e0 : J1 x = cat (cat (J9 x.Page) (cat [.b x.Dirty] [.i .i64 x.Rec])) [.b x.Used] := by unfold J1; simp only [cat, List.append_assoc]
  have e1 : J1 ⟨x.Page, x.Dirty, x.Rec, y⟩ = cat (cat (J9 x.Page) (cat [.b x.Dirty] [.i .i64 x.Rec])) [.b y] := by unfold J1; simp only [cat, List.append_assoc]
  rw [e0, e1]; exact J6t (by simp only [cat, List.length_append, List.length_cons, List.length_nil, J0B]) rfl
theorem JcU : (default : T_api_Frame) = (⟨(⟨0, 0, (Vector.replicate 16 (⟨false, []⟩ : Jc))⟩ : J8), false, 0, false⟩ : T_api_Frame) := rfl
theorem Jbq (x : T_api_Frame) : sub (J1 x) 0 37 = some (J1 x) := J6v (J5d x)
theorem JbG (x y : T_api_Frame) : spl (J1 x) 0 (J1 y) = some (J1 y) := J6w ((J5d x).trans (J5d y).symm)
theorem J4 : (∀ x : T_api_Frame, (J1 x).length = 37) ∧
  (∀ x : T_api_Frame, sub (J1 x) 0 34 = some (J9 x.Page)) ∧
  (∀ (x : T_api_Frame) (y : J8), spl (J1 x) 0 (J9 y) = some (J1 ⟨y, x.Dirty, x.Rec, x.Used⟩)) ∧
  (∀ x : T_api_Frame, sub (J1 x) 34 1 = some [.b x.Dirty]) ∧
  (∀ (x : T_api_Frame) (y : Bool), spl (J1 x) 34 [.b y] = some (J1 ⟨x.Page, y, x.Rec, x.Used⟩)) ∧
  (∀ x : T_api_Frame, sub (J1 x) 35 1 = some [.i .i64 x.Rec]) ∧
  (∀ (x : T_api_Frame) (y : Int), spl (J1 x) 35 [.i .i64 y] = some (J1 ⟨x.Page, x.Dirty, y, x.Used⟩)) ∧
  (∀ x : T_api_Frame, sub (J1 x) 36 1 = some [.b x.Used]) ∧
  (∀ (x : T_api_Frame) (y : Bool), spl (J1 x) 36 [.b y] = some (J1 ⟨x.Page, x.Dirty, x.Rec, y⟩)) ∧
  ((default : T_api_Frame) = (⟨(⟨0, 0, (Vector.replicate 16 (⟨false, []⟩ : Jc))⟩ : J8), false, 0, false⟩ : T_api_Frame)) ∧
  (∀ x : T_api_Frame, sub (J1 x) 0 37 = some (J1 x)) ∧
  (∀ x y : T_api_Frame, spl (J1 x) 0 (J1 y) = some (J1 y)) :=
  ⟨@J5d, @J2n, @J8A, @J8r, @J8q, @J9F, @J9H, @J8v, @J8t, JcU, @Jbq, @JbG⟩
structure T_api_Pool where
  Size : Int
  Frames : List T_api_Frame
  Hand : Int
  deriving DecidableEq
instance : Inhabited T_api_Pool := ⟨⟨0, [], 0⟩⟩
def J6 (x : T_api_Pool) : List PV := (cat [.i .i64 x.Size] (cat [.sl 37 (List.map J1 x.Frames)] [.i .i64 x.Hand]))
theorem J5F (x : T_api_Pool) : (J6 x).length = 3 := by
  simp only [cat, J6, List.length_append, List.length_cons, List.length_nil]
theorem J9t (x : T_api_Pool) : sub (J6 x) 0 1 = some [.i .i64 x.Size] := by unfold J6; exact J5D rfl
theorem J9s (x : T_api_Pool) (y : Int) : spl (J6 x) 0 [.i .i64 y] = some (J6 ⟨y, x.Frames, x.Hand⟩) := by unfold J6; exact J5H rfl
theorem J8o (x : T_api_Pool) : sub (J6 x) 1 1 = some [.sl 37 (List.map J1 x.Frames)] := by
  have e0 : J6 x = cat [.i .i64 x.Size] (cat [.sl 37 (List.map J1 x.Frames)] [.i .i64 x.Hand]) := by unfold J6; simp only [cat, List.append_assoc]
  rw [e0]; exact J5j (by simp only [cat, List.length_append, List.length_cons, List.length_nil]) rfl
theorem J8s (x : T_api_Pool) (y : List T_api_Frame) : spl (J6 x) 1 [.sl 37 (List.map J1 y)] = some (J6 ⟨x.Size, y, x.Hand⟩) := by
  have e0 : J6 x = cat [.i .i64 x.Size] (cat [.sl 37 (List.map J1 x.Frames)] [.i .i64 x.Hand]) := by unfold J6; simp only [cat, List.append_assoc]
  have e1 : J6 ⟨x.Size, y, x.Hand⟩ = cat [.i .i64 x.Size] (cat [.sl 37 (List.map J1 y)] [.i .i64 x.Hand]) := by unfold J6; simp only [cat, List.append_assoc]
  rw [e0, e1]; exact J5n (by simp only [cat, List.length_append, List.length_cons, List.length_nil]) rfl
theorem J9u (x : T_api_Pool) : sub (J6 x) 2 1 = some [.i .i64 x.Hand] := by
  have e0 : J6 x = cat (cat [.i .i64 x.Size] [.sl 37 (List.map J1 x.Frames)]) [.i .i64 x.Hand] := by unfold J6; simp only [cat, List.append_assoc]
  rw [e0]; exact J6o (by simp only [cat, List.length_append, List.length_cons, List.length_nil]) rfl
theorem J9v (x : T_api_Pool) (y : Int) : spl (J6 x) 2 [.i .i64 y] = some (J6 ⟨x.Size, x.Frames, y⟩) := by
  have e0 : J6 x = cat (cat [.i .i64 x.Size] [.sl 37 (List.map J1 x.Frames)]) [.i .i64 x.Hand] := by unfold J6; simp only [cat, List.append_assoc]
  have e1 : J6 ⟨x.Size, x.Frames, y⟩ = cat (cat [.i .i64 x.Size] [.sl 37 (List.map J1 x.Frames)]) [.i .i64 y] := by unfold J6; simp only [cat, List.append_assoc]
  rw [e0, e1]; exact J6t (by simp only [cat, List.length_append, List.length_cons, List.length_nil]) rfl
theorem JdL : (default : T_api_Pool) = (⟨0, [], 0⟩ : T_api_Pool) := rfl
theorem JcV (x : T_api_Pool) : sub (J6 x) 0 3 = some (J6 x) := J6v (J5F x)
theorem JcD (x y : T_api_Pool) : spl (J6 x) 0 (J6 y) = some (J6 y) := J6w ((J5F x).trans (J5F y).symm)
theorem Ja : (∀ x : T_api_Pool, (J6 x).length = 3) ∧
  (∀ x : T_api_Pool, sub (J6 x) 0 1 = some [.i .i64 x.Size]) ∧
  (∀ (x : T_api_Pool) (y : Int), spl (J6 x) 0 [.i .i64 y] = some (J6 ⟨y, x.Frames, x.Hand⟩)) ∧
  (∀ x : T_api_Pool, sub (J6 x) 1 1 = some [.sl 37 (List.map J1 x.Frames)]) ∧
  (∀ (x : T_api_Pool) (y : List T_api_Frame), spl (J6 x) 1 [.sl 37 (List.map J1 y)] = some (J6 ⟨x.Size, y, x.Hand⟩)) ∧
  (∀ x : T_api_Pool, sub (J6 x) 2 1 = some [.i .i64 x.Hand]) ∧
  (∀ (x : T_api_Pool) (y : Int), spl (J6 x) 2 [.i .i64 y] = some (J6 ⟨x.Size, x.Frames, y⟩)) ∧
  ((default : T_api_Pool) = (⟨0, [], 0⟩ : T_api_Pool)) ∧
  (∀ x : T_api_Pool, sub (J6 x) 0 3 = some (J6 x)) ∧
  (∀ x y : T_api_Pool, spl (J6 x) 0 (J6 y) = some (J6 y)) :=
  ⟨@J5F, @J9t, @J9s, @J8o, @J8s, @J9u, @J9v, JdL, @JcV, @JcD⟩
theorem JF : (∀ x : T_api_Pool, J6 x = (cat [.i .i64 x.Size] (cat [.sl 37 (List.map J1 x.Frames)] [.i .i64 x.Hand]))) ∧ (default : T_api_Pool) = (⟨0, [], 0⟩ : T_api_Pool) := ⟨fun _ => rfl, rfl⟩
structure T_page_builder where
  s_ : List UInt8
  deriving DecidableEq
instance : Inhabited T_page_builder := ⟨⟨[]⟩⟩
def J0c (x : T_page_builder) : List PV := [.s x.s_]
theorem Jo : (∀ x : T_page_builder, J0c x = [.s x.s_]) ∧ (default : T_page_builder) = (⟨[]⟩ : T_page_builder) := ⟨fun _ => rfl, rfl⟩
theorem J3l : (∀ v : Vector Int 16, (JH (r_i .u32) v).length = 16) ∧ (∀ v : Vector Int 16, sub (JH (r_i .u32) v) 0 16 = some (JH (r_i .u32) v)) ∧ (∀ v y : Vector Int 16, spl (JH (r_i .u32) v) 0 (JH (r_i .u32) y) = some (JH (r_i .u32) y)) :=
  ⟨fun v => J2C (J5P .u32) v, fun v => J6v (J2C (J5P .u32) v), fun v y => J6w ((J2C (J5P .u32) v).trans (J2C (J5P .u32) y).symm)⟩
end Go.Am
end
section
namespace Go.Am
set_option maxRecDepth 8000
set_option maxHeartbeats 4000000
set_option linter.unusedSimpArgs false
set_option linter.unusedVariables false
abbrev J3r : FuncId := 14
abbrev J3d : FuncId := 42
abbrev J3K : FuncId := 45
abbrev J3c : FuncId := 56
abbrev J3Z : FuncId := 57
abbrev J1Q : FuncId := 58
abbrev J3b : FuncId := 59
abbrev J3z : FuncId := 62
abbrev J4G : FuncId := 63
abbrev J3x : FuncId := 64
abbrev J1s : FuncId := 65
abbrev J0M : FuncId := 82
abbrev J2y : FuncId := 90
abbrev J31 : FuncId := 91
abbrev J0p : FuncId := 92
abbrev J16 : FuncId := 93
abbrev J3y : FuncId := 94
abbrev J3R : FuncId := 103
abbrev J2g : FuncId := 104
abbrev JR : FuncId := 105
abbrev JG : FuncId := 106
abbrev J0l : FuncId := 108
abbrev J1C : FuncId := 124
abbrev JQ : FuncId := 126
abbrev J0o : FuncId := 127
def J3k : Jp := .seq (.reg false [] [⟨.newbox (J6 default), some 2, none⟩,
    ⟨.mv (.c (.p (.i .i64 0))), some 3, none⟩])
  (.seq (.seq (.reg false [] [⟨.mv (.t 0), some 4, none⟩,
    ⟨.bin .lss .plain (.t 4) (.c (.p (.i .i64 1))), some 5, none⟩,
    ⟨.mv (.t 5), some 6, none⟩,
    ⟨.mv (.t 0), some 7, some (6, false)⟩,
    ⟨.bin .gtr .plain (.t 7) (.c (.p (.i .i64 64))), some 8, some (6, false)⟩,
    ⟨.pick (.t 6) (.c (.p (.b true))) (.t 8), some 9, none⟩])
  (.keep [0, 2, 9] (.cond (.t 9)
  (.seq (.reg false [] [⟨.build (J6 default) [], some 10, none⟩,
      ⟨.store 3 (.t 2) (.t 10), none, none⟩,
      ⟨.mv (.c (.p (.i .i64 1))), some 3, none⟩])
    (.ret))
  (.skip))))
  (.seq (.reg false [] [⟨.mv (.t 0), some 11, none⟩,
    ⟨.build (J6 default) [(0, 1, (.t 11))], some 12, none⟩,
    ⟨.store 3 (.t 2) (.t 12), none, none⟩,
    ⟨.mv (.c (.p (.i .i64 0))), some 3, none⟩])
  (.ret)))
def J4U : AFn := ⟨1, 13, J3k, [.cell 2 true 3, .tmp 3], false⟩
def J03 : Jp := .seq (.reg false [] [⟨.bin .lss .plain (.t 7) (.c (.p (.i .i64 16))), some 8, none⟩])
  (.seq (.cond (.t 8)
  (.skip)
  (.exit 0))
  (.seq (.block 1 (.seq (.reg false [] [⟨.aidx true 16 2 (.t 6) (.t 7), some 9, none⟩,
    ⟨.newbox (Jd default), some 4, none⟩,
    ⟨.store 2 (.t 4) (.t 9), none, none⟩])
  (.keep [1, 4, 6, 7] (.seq (.reg false [] [⟨.faddr 1 (.t 4), some 10, none⟩,
    ⟨.load false 1 (.t 10), some 11, none⟩,
    ⟨.len true (.t 11), some 12, none⟩,
    ⟨.bin .gtr .plain (.t 12) (.c (.p (.i .i64 12))), some 13, none⟩,
    ⟨.mv (.t 13), some 14, none⟩,
    ⟨.faddr 0 (.t 4), some 15, some (14, false)⟩,
    ⟨.load false 1 (.t 15), some 16, some (14, false)⟩,
    ⟨.un .not (.t 16), some 17, some (14, false)⟩,
    ⟨.mv (.t 17), some 18, some (14, false)⟩,
    ⟨.faddr 1 (.t 4), some 19, some (18, true)⟩,
    ⟨.load false 1 (.t 19), some 20, some (18, true)⟩,
    ⟨.bin .neq .plain (.t 20) (.c (.p (.s []))), some 21, some (18, true)⟩,
    ⟨.pick (.t 18) (.t 21) (.c (.p (.b false))), some 22, some (14, false)⟩,
    ⟨.pick (.t 14) (.c (.p (.b true))) (.t 22), some 23, none⟩,
    ⟨.mv (.t 23), some 24, none⟩,
    ⟨.faddr 0 (.t 4), some 25, some (24, false)⟩,
    ⟨.load false 1 (.t 25), some 26, some (24, false)⟩,
    ⟨.mv (.t 26), some 27, some (24, false)⟩,
    ⟨.faddr 1 (.t 1), some 28, some (27, true)⟩,
    ⟨.load false 1 (.t 28), some 29, some (27, true)⟩,
    ⟨.bin .eql .plain (.t 29) (.c (.p (.i .i64 0))), some 30, some (27, true)⟩,
    ⟨.pick (.t 27) (.t 30) (.c (.p (.b false))), some 31, some (24, false)⟩,
    ⟨.pick (.t 24) (.c (.p (.b true))) (.t 31), some 32, none⟩])
  (.keep [1, 6, 7, 32] (.cond (.t 32)
  (.seq (.reg false [] [⟨.mv (.c (.p (.b false))), some 2, none⟩])
    (.ret))
  (.skip)))))))
  (.reg false [] [⟨.bin .add .plain (.t 7) (.c (.p (.i .i64 1))), some 33, none⟩,
    ⟨.mv (.t 33), some 7, none⟩])))
def J29 : Jp := .seq (.reg false [] [⟨.mv (.c (.p (.b true))), some 2, none⟩])
  (.ret)
def J4v : Jp := .seq (.reg false [] [⟨.box 34 (.t 0), some 1, none⟩,
    ⟨.mv (.c (.p (.b false))), some 2, none⟩])
  (.seq (.tidy [2] (.seq (.reg false [] [⟨.faddr 2 (.t 1), some 5, none⟩,
    ⟨.load true 32 (.t 5), some 6, none⟩,
    ⟨.mv (.c (.p (.i .i64 0))), some 7, none⟩])
  (.keep [1, 6, 7] (.block 0 (.loop [1, 6, 7] J03)))))
  (.keep [] J29))
def J1b : AFn := ⟨1, 34, J4v, [.tmp 2], false⟩
def J3Q : Jp := .seq (.reg false [] [⟨.mv (.c (.p (.b false))), some 2, none⟩])
  (.seq (.reg false [] [⟨.mv (.t 0), some 3, none⟩,
    ⟨.bin .geq .plain (.t 3) (.c (.p (.i .i64 0))), some 4, none⟩,
    ⟨.mv (.t 4), some 5, none⟩,
    ⟨.mv (.t 0), some 6, some (5, true)⟩,
    ⟨.bin .lss .plain (.t 6) (.c (.p (.i .i64 64))), some 7, some (5, true)⟩,
    ⟨.pick (.t 5) (.t 7) (.c (.p (.b false))), some 8, none⟩,
    ⟨.mv (.t 8), some 2, none⟩])
  (.ret))
def J3D : AFn := ⟨1, 9, J3Q, [.tmp 2], false⟩
def J3J : Jp := .seq (.reg false [] [⟨.box 37 (.t 0), some 2, none⟩,
    ⟨.mv (.c (.p (.b false))), some 3, none⟩])
  (.seq (.reg false [] [⟨.faddr 0 (.t 2), some 4, none⟩,
    ⟨.faddr 0 (.t 4), some 5, none⟩,
    ⟨.load false 1 (.t 5), some 6, none⟩,
    ⟨.load false 1 (.t 1), some 7, none⟩,
    ⟨.bin .eql .plain (.t 6) (.t 7), some 8, none⟩,
    ⟨.mv (.t 8), some 3, none⟩])
  (.ret))
def J2R : AFn := ⟨2, 9, J3J, [.tmp 3], false⟩
def Jr : Jp := .seq (.reg false [] [⟨.bin .lss .plain (.t 8) (.t 7), some 9, none⟩])
  (.seq (.cond (.t 9)
  (.skip)
  (.exit 0))
  (.seq (.block 1 (.seq (.reg false [] [⟨.mv (.t 8), some 10, none⟩,
    ⟨.mv (.t 10), some 5, none⟩])
  (.seq (.reg false [] [⟨.mv (.t 1), some 11, none⟩,
    ⟨.mv (.t 0), some 12, none⟩,
    ⟨.mv (.t 5), some 13, none⟩,
    ⟨.iaddr 37 (.t 12) (.t 13), some 14, none⟩,
    ⟨.load true 37 (.t 14), some 15, none⟩,
    ⟨.callv (.t 11) [(.t 15)] 0, some 16, none⟩])
  (.keep [0, 1, 5, 7, 8, 16] (.cond (.t 16)
  (.seq (.reg false [] [⟨.mv (.t 5), some 17, none⟩,
      ⟨.mv (.t 17), some 4, none⟩])
    (.ret))
  (.skip))))))
  (.reg false [] [⟨.bin .add .plain (.t 8) (.c (.p (.i .i64 1))), some 18, none⟩,
    ⟨.mv (.t 18), some 8, none⟩])))
def JB : Jp := .seq (.reg false [] [⟨.mv (.c (.p (.i .i64 (-1)))), some 4, none⟩])
  (.ret)
def J0a : Jp := .seq (.reg false [] [⟨.mv (.c (.p (.i .i64 0))), some 4, none⟩])
  (.seq (.seq (.reg false [] [⟨.mv (.t 0), some 6, none⟩,
    ⟨.len false (.t 6), some 7, none⟩,
    ⟨.mv (.c (.p (.i .i64 0))), some 8, none⟩])
  (.keep [0, 1, 7, 8] (.block 0 (.loop [0, 1, 7, 8] Jr))))
  (.keep [] JB))
def Jm : AFn := ⟨2, 19, J0a, [.tmp 4], false⟩
def J52 : Jp := .seq (.reg false [] [⟨.box 3 (.t 0), some 2, none⟩,
    ⟨.box 1 (.t 1), some 3, none⟩,
    ⟨.mv (.c (.p (.i .i64 0))), some 4, none⟩])
  (.keep [2, 3] (.seq (.reg false [] [⟨.faddr 1 (.t 2), some 5, none⟩,
    ⟨.load false 1 (.t 5), some 6, none⟩,
    ⟨.mkfn J0o [] [(.t 3)], some 7, none⟩,
    ⟨.call JQ [(.t 6), (.t 7)] 0, some 8, none⟩,
    ⟨.mv (.t 8), some 4, none⟩])
  (.ret)))
def J4b : AFn := ⟨2, 9, J52, [.tmp 4], false⟩
def J0s : Jp := .seq (.reg false [] [⟨.mv (.c (.p (.sl 37 []))), some 2, none⟩])
  (.seq (.reg false [] [⟨.mv (.t 0), some 3, none⟩,
    ⟨.mv (.t 0), some 4, none⟩,
    ⟨.len false (.t 4), some 5, none⟩,
    ⟨.mv (.t 0), some 6, none⟩,
    ⟨.len false (.t 6), some 7, none⟩,
    ⟨.slice (.sl 37) (.t 3) none (some (.t 5)) (some (.t 7)), some 8, none⟩,
    ⟨.mv (.t 8), some 2, none⟩])
  (.ret))
def J08 : AFn := ⟨1, 9, J0s, [.tmp 2], false⟩
def J0q : J5y := ⟨1, 8, .reg false [] [⟨.mkarr 37 (.c (.p (.sl 37 []))), some 2, none⟩], [], .reg false [] [⟨.mv (.t 0), some 3, none⟩,
    ⟨.bin .eql .nils (.t 3) (.c (.p (.sl 37 []))), some 4, none⟩], (.t 4),
  .seq (.reg false [] [⟨.mkarr 37 (.c (.p (.sl 37 []))), some 2, none⟩])
  (.ret),
  .skip,
  .seq (.reg false [] [⟨.lits true 37 0 (J1 default) [], some 5, none⟩,
    ⟨.mv (.t 0), some 6, none⟩,
    ⟨.app 37 424 (J1 default) (.t 5) (.t 6), some 7, none⟩,
    ⟨.mv (.t 7), some 2, none⟩])
  (.ret), [.tmp 2], true⟩
def J0f : Jp := .seq (.reg false [] [⟨.bin .lss .plain (.t 9) (.c (.p (.i .i64 4))), some 10, none⟩])
  (.seq (.cond (.t 10)
  (.skip)
  (.exit 2))
  (.seq (.block 3 (.seq (.reg false [] [⟨.mv (.t 3), some 11, none⟩,
    ⟨.bin .and .plain (.t 11) (.c (.p (.i .u32 1))), some 12, none⟩,
    ⟨.bin .eql .plain (.t 12) (.c (.p (.i .u32 1))), some 13, none⟩])
  (.keep [0, 1, 2, 3, 4, 9, 13] (.cond (.t 13)
  (.reg false [] [⟨.mv (.t 3), some 14, none⟩,
      ⟨.bin .shr .plain (.t 14) (.c (.p (.i .u64 1))), some 15, none⟩,
      ⟨.bin .xor .plain (.t 15) (.c (.p (.i .u32 2197175160))), some 16, none⟩,
      ⟨.mv (.t 16), some 3, none⟩])
  (.reg false [] [⟨.mv (.t 3), some 17, none⟩,
      ⟨.bin .shr .plain (.t 17) (.c (.p (.i .u64 1))), some 18, none⟩,
      ⟨.mv (.t 18), some 3, none⟩])))))
  (.reg false [] [⟨.bin .add .plain (.t 9) (.c (.p (.i .i64 1))), some 19, none⟩,
    ⟨.mv (.t 19), some 9, none⟩])))
def J0T : Jp := .reg false [] [⟨.mv (.t 2), some 20, none⟩,
    ⟨.mv (.t 3), some 21, none⟩,
    ⟨.aaddr 16 1 (.t 1) (.t 20), some 22, none⟩,
    ⟨.store 1 (.t 22) (.t 21), none, none⟩]
def J0y : Jp := .reg false [] [⟨.bin .add .plain (.t 4) (.c (.p (.i .i64 1))), some 23, none⟩,
    ⟨.mv (.t 23), some 4, none⟩]
def JI : Jp := .seq (.reg false [] [⟨.bin .lss .plain (.t 4) (.c (.p (.i .i64 16))), some 5, none⟩])
  (.seq (.cond (.t 5)
  (.skip)
  (.exit 0))
  (.seq (.block 1 (.seq (.reg false [] [⟨.mv (.t 4), some 6, none⟩,
    ⟨.mv (.t 6), some 2, none⟩])
  (.seq (.reg false [] [⟨.mv (.t 2), some 7, none⟩,
    ⟨.conv (.int .u32) (.t 7), some 8, none⟩,
    ⟨.mv (.t 8), some 3, none⟩])
  (.keep [0, 1, 2, 3, 4] (.seq (.seq (.reg false [] [⟨.mv (.c (.p (.i .i64 0))), some 9, none⟩])
  (.block 2 (.loop [0, 1, 2, 3, 4, 9] J0f)))
  (.keep [0, 1, 2, 3, 4] J0T))))))
  (.keep [0, 1, 4] J0y)))
def JN : Jp := .seq (.reg false [] [⟨.load true 16 (.t 1), some 24, none⟩,
    ⟨.store 16 (.t 0) (.t 24), none, none⟩])
  (.ret)
def J2h : Jp := .seq (.reg false [] [⟨.newbox (JH (r_i .u32) (Vector.replicate 16 (0 : Int))), some 0, none⟩])
  (.seq (.reg false [] [⟨.newbox (JH (r_i .u32) (Vector.replicate 16 (0 : Int))), some 1, none⟩])
  (.seq (.seq (.reg false [] [⟨.mv (.c (.p (.i .i64 0))), some 4, none⟩])
  (.block 0 (.loop [0, 1, 4] JI)))
  (.keep [0, 1] JN)))
def JA : AFn := ⟨0, 25, J2h, [.cell 0 true 16], false⟩
def J1w : Jp := .seq (.reg false [] [⟨.box 34 (.t 0), some 1, none⟩,
    ⟨.mv (.c (.p (.b false))), some 2, none⟩])
  (.seq (.reg false [] [⟨.faddr 0 (.t 1), some 3, none⟩,
    ⟨.load false 1 (.t 3), some 4, none⟩,
    ⟨.call J3R [(.t 4)] 0, some 5, none⟩,
    ⟨.mv (.t 5), some 6, none⟩,
    ⟨.faddr 1 (.t 1), some 7, some (6, true)⟩,
    ⟨.load false 1 (.t 7), some 8, some (6, true)⟩,
    ⟨.bin .geq .plain (.t 8) (.c (.p (.i .i64 0))), some 9, some (6, true)⟩,
    ⟨.pick (.t 6) (.t 9) (.c (.p (.b false))), some 10, none⟩,
    ⟨.mv (.t 10), some 11, none⟩,
    ⟨.faddr 1 (.t 1), some 12, some (11, true)⟩,
    ⟨.load false 1 (.t 12), some 13, some (11, true)⟩,
    ⟨.bin .leq .plain (.t 13) (.c (.p (.i .i64 1099511627776))), some 14, some (11, true)⟩,
    ⟨.pick (.t 11) (.t 14) (.c (.p (.b false))), some 15, none⟩,
    ⟨.mv (.t 15), some 2, none⟩])
  (.ret))
def J36 : AFn := ⟨1, 16, J1w, [.tmp 2], false⟩
def J3N : Jp := .reg true [(6, 8), (6, 11), (8, 14)] [⟨.mv (.t 0), some 10, none⟩,
    ⟨.mv (.t 0), some 11, none⟩,
    ⟨.nilchk (.t 11), some 12, none⟩,
    ⟨.faddr 0 (.t 12), some 13, none⟩,
    ⟨.load false 1 (.t 13), some 14, none⟩,
    ⟨.mv (.t 4), some 15, none⟩,
    ⟨.call J0M [(.t 14), (.t 15), (.c (.p (.i .i64 1)))] 0, some 16, none⟩,
    ⟨.faddr 1 (.t 3), some 17, none⟩,
    ⟨.load false 1 (.t 17), some 18, none⟩,
    ⟨.bin .add .plain (.t 16) (.t 18), some 19, none⟩,
    ⟨.faddr 1 (.t 3), some 20, none⟩,
    ⟨.load false 1 (.t 20), some 21, none⟩,
    ⟨.len true (.t 21), some 22, none⟩,
    ⟨.bin .sub .plain (.c (.p (.i .i64 12))) (.t 22), some 23, none⟩,
    ⟨.call J16 [(.c (.p (.s [0]))), (.t 23)] 0, some 24, none⟩,
    ⟨.bin .add .plain (.t 19) (.t 24), some 25, none⟩,
    ⟨.nilchk (.t 10), some 26, none⟩,
    ⟨.faddr 0 (.t 26), some 27, none⟩,
    ⟨.store 1 (.t 27) (.t 25), none, none⟩]
def J1q : Jp := .seq (.reg false [] [⟨.box 2 (.t 1), some 3, none⟩])
  (.seq (.reg false [] [⟨.mv (.c (.p (.i .i64 255))), some 4, none⟩])
  (.seq (.seq (.reg false [] [⟨.faddr 0 (.t 3), some 5, none⟩,
    ⟨.load false 1 (.t 5), some 6, none⟩])
  (.cond (.t 6)
  (.reg false [] [⟨.faddr 1 (.t 3), some 7, none⟩,
      ⟨.load false 1 (.t 7), some 8, none⟩,
      ⟨.len true (.t 8), some 9, none⟩,
      ⟨.mv (.t 9), some 4, none⟩])
  (.skip)))
  (.keep [0, 3, 4] J3N)))
def J11 : AFn := ⟨2, 28, J1q, [], false⟩
def J1X : Jp := .seq (.reg false [] [⟨.bin .lss .plain (.t 9) (.t 8), some 10, none⟩])
  (.seq (.cond (.t 10)
  (.skip)
  (.exit 0))
  (.seq (.block 1 (.seq (.reg false [] [⟨.mv (.t 9), some 11, none⟩,
    ⟨.mv (.t 11), some 5, none⟩])
  (.seq (.reg false [] [⟨.mv (.t 4), some 12, none⟩,
    ⟨.mv (.t 0), some 13, none⟩,
    ⟨.mv (.t 5), some 14, none⟩,
    ⟨.sidx (.t 13) (.t 14), some 15, none⟩,
    ⟨.conv (.int .u32) (.t 15), some 16, none⟩,
    ⟨.bin .xor .plain (.t 12) (.t 16), some 17, none⟩,
    ⟨.mv (.t 17), some 4, none⟩])
  (.keep [0, 3, 4, 8, 9] (.seq (.reg false [] [⟨.mv (.t 4), some 18, none⟩,
    ⟨.bin .shr .plain (.t 18) (.c (.p (.i .u64 4))), some 19, none⟩,
    ⟨.mv (.t 4), some 20, none⟩,
    ⟨.bin .and .plain (.t 20) (.c (.p (.i .u32 15))), some 21, none⟩,
    ⟨.aaddr 16 1 (.t 3) (.t 21), some 22, none⟩,
    ⟨.load false 1 (.t 22), some 23, none⟩,
    ⟨.bin .xor .plain (.t 19) (.t 23), some 24, none⟩,
    ⟨.mv (.t 24), some 4, none⟩])
  (.keep [0, 3, 4, 8, 9] (.reg false [] [⟨.mv (.t 4), some 25, none⟩,
    ⟨.bin .shr .plain (.t 25) (.c (.p (.i .u64 4))), some 26, none⟩,
    ⟨.mv (.t 4), some 27, none⟩,
    ⟨.bin .and .plain (.t 27) (.c (.p (.i .u32 15))), some 28, none⟩,
    ⟨.aaddr 16 1 (.t 3) (.t 28), some 29, none⟩,
    ⟨.load false 1 (.t 29), some 30, none⟩,
    ⟨.bin .xor .plain (.t 26) (.t 30), some 31, none⟩,
    ⟨.mv (.t 31), some 4, none⟩])))))))
  (.reg false [] [⟨.bin .add .plain (.t 9) (.c (.p (.i .i64 1))), some 32, none⟩,
    ⟨.mv (.t 32), some 9, none⟩])))
def J2A : Jp := .seq (.reg false [] [⟨.mv (.t 4), some 33, none⟩,
    ⟨.un .xor (.t 33), some 34, none⟩,
    ⟨.mv (.t 34), some 2, none⟩])
  (.ret)
def J59 : Jp := .seq (.reg false [] [⟨.mv (.c (.p (.i .u32 0))), some 2, none⟩])
  (.seq (.reg false [] [⟨.call J1C [] 0, some 6, none⟩,
    ⟨.newbox (JH (r_i .u32) (Vector.replicate 16 (0 : Int))), some 3, none⟩,
    ⟨.store 16 (.t 3) (.t 6), none, none⟩])
  (.keep [0, 3] (.seq (.reg false [] [⟨.mv (.c (.p (.i .u32 4294967295))), some 4, none⟩])
  (.seq (.seq (.reg false [] [⟨.mv (.t 0), some 7, none⟩,
    ⟨.len true (.t 7), some 8, none⟩,
    ⟨.mv (.c (.p (.i .i64 0))), some 9, none⟩])
  (.keep [0, 3, 4, 8, 9] (.block 0 (.loop [0, 3, 4, 8, 9] J1X))))
  (.keep [4] J2A)))))
def J1v : AFn := ⟨1, 35, J59, [.tmp 2], false⟩
def J1n : Jp := .seq (.reg false [] [⟨.bin .lss .plain (.t 29) (.c (.p (.i .i64 16))), some 30, none⟩])
  (.seq (.cond (.t 30)
  (.skip)
  (.exit 1))
  (.seq (.block 2 (.seq (.reg false [] [⟨.aidx true 16 2 (.t 28) (.t 29), some 31, none⟩,
    ⟨.newbox (Jd default), some 7, none⟩,
    ⟨.store 2 (.t 7) (.t 31), none, none⟩])
  (.keep [1, 4, 5, 7, 28, 29] (.reg false [] [⟨.mv (.t 5), some 32, none⟩,
    ⟨.load true 2 (.t 7), some 33, none⟩,
    ⟨.callv (.t 32) [(.t 33)] 0, some 34, none⟩]))))
  (.reg false [] [⟨.bin .add .plain (.t 29) (.c (.p (.i .i64 1))), some 35, none⟩,
    ⟨.mv (.t 35), some 29, none⟩])))
def J1L : Jp := .seq (.reg true [(3, 10)] [⟨.mv (.t 4), some 36, none⟩,
    ⟨.nilchk (.t 36), some 37, none⟩,
    ⟨.faddr 0 (.t 37), some 38, none⟩,
    ⟨.load false 1 (.t 38), some 39, none⟩,
    ⟨.mv (.t 4), some 40, none⟩,
    ⟨.nilchk (.t 40), some 41, none⟩,
    ⟨.faddr 0 (.t 41), some 42, none⟩,
    ⟨.load false 1 (.t 42), some 43, none⟩,
    ⟨.len true (.t 43), some 44, none⟩,
    ⟨.bin .sub .plain (.c (.p (.i .i64 244))) (.t 44), some 45, none⟩,
    ⟨.call J16 [(.c (.p (.s [0]))), (.t 45)] 0, some 46, none⟩,
    ⟨.bin .add .plain (.t 39) (.t 46), some 47, none⟩,
    ⟨.mv (.t 47), some 8, none⟩])
  (.keep [1, 8] (.seq (.reg true [(2, 6), (4, 6)] [⟨.mv (.t 8), some 48, none⟩,
    ⟨.mv (.t 8), some 49, none⟩,
    ⟨.call J3y [(.t 49)] 0, some 50, none⟩,
    ⟨.conv (.int .i64) (.t 50), some 51, none⟩,
    ⟨.call J0M [(.t 48), (.t 51), (.c (.p (.i .i64 4)))] 0, some 52, none⟩,
    ⟨.faddr 1 (.t 1), some 53, none⟩,
    ⟨.load false 1 (.t 53), some 54, none⟩,
    ⟨.call J0M [(.t 52), (.t 54), (.c (.p (.i .i64 8)))] 0, some 55, none⟩,
    ⟨.mv (.t 55), some 2, none⟩,
    ⟨.mv (.c (.p (.i .i64 0))), some 3, none⟩])
  (.ret)))
def J1y : Jp := .seq (.reg false [] [⟨.box 34 (.t 0), some 1, none⟩,
    ⟨.mv (.c (.p (.s []))), some 2, none⟩,
    ⟨.mv (.c (.p (.i .i64 0))), some 3, none⟩])
  (.keep [1] (.seq (.block 0 (.seq (.reg false [] [⟨.load true 34 (.t 1), some 10, none⟩,
    ⟨.call J2y [(.t 10)] 0, some 11, none⟩,
    ⟨.un .not (.t 11), some 12, none⟩,
    ⟨.mv (.t 12), some 9, none⟩])
  (.keep [1, 9] (.cond (.t 9)
  (.seq (.reg false [] [⟨.mv (.c (.p (.s []))), some 2, none⟩,
      ⟨.mv (.c (.p (.i .i64 1))), some 3, none⟩])
    (.ret))
  (.seq (.reg false [] [⟨.load true 34 (.t 1), some 14, none⟩,
      ⟨.call J31 [(.t 14)] 0, some 15, none⟩,
      ⟨.un .not (.t 15), some 16, none⟩,
      ⟨.mv (.t 16), some 13, none⟩])
    (.keep [1, 13] (.cond (.t 13)
    (.seq (.reg false [] [⟨.mv (.c (.p (.s []))), some 2, none⟩,
        ⟨.mv (.c (.p (.i .i64 22))), some 3, none⟩])
      (.ret))
    (.skip))))))))
  (.seq (.reg true [(2, 4)] [⟨.faddr 1 (.t 1), some 17, none⟩,
    ⟨.load false 1 (.t 17), some 18, none⟩,
    ⟨.call J0M [(.c (.p (.s []))), (.t 18), (.c (.p (.i .i64 8)))] 0, some 19, none⟩,
    ⟨.faddr 0 (.t 1), some 20, none⟩,
    ⟨.load false 1 (.t 20), some 21, none⟩,
    ⟨.call J0M [(.t 19), (.t 21), (.c (.p (.i .i64 4)))] 0, some 22, none⟩,
    ⟨.build (J0c default) [(0, 1, (.t 22))], some 23, none⟩,
    ⟨.box 1 (.t 23), some 24, none⟩,
    ⟨.mv (.t 24), some 4, none⟩])
  (.keep [1, 4] (.seq (.reg false [] [⟨.mv (.t 4), some 25, none⟩,
    ⟨.mkfn J0p [(.t 25)] [], some 26, none⟩,
    ⟨.mv (.t 26), some 5, none⟩])
  (.keep [1, 4, 5] (.seq (.tidy [1, 2, 3, 4] (.seq (.reg false [] [⟨.faddr 2 (.t 1), some 27, none⟩,
    ⟨.load true 32 (.t 27), some 28, none⟩,
    ⟨.mv (.c (.p (.i .i64 0))), some 29, none⟩])
  (.keep [1, 4, 5, 28, 29] (.block 1 (.loop [1, 4, 5, 28, 29] J1n)))))
  (.keep [1, 4] J1L))))))))
def J0X : AFn := ⟨1, 56, J1y, [.tmp 2, .tmp 3], false⟩
def J2T : Jp := .seq (.reg false [] [⟨.box 34 (.t 0), some 1, none⟩,
    ⟨.mv (.c (.p (.b false))), some 2, none⟩])
  (.seq (.reg false [] [⟨.load true 34 (.t 1), some 3, none⟩,
    ⟨.call J2y [(.t 3)] 0, some 4, none⟩,
    ⟨.mv (.t 4), some 5, none⟩,
    ⟨.load true 34 (.t 1), some 6, some (5, true)⟩,
    ⟨.call J31 [(.t 6)] 0, some 7, some (5, true)⟩,
    ⟨.pick (.t 5) (.t 7) (.c (.p (.b false))), some 8, none⟩,
    ⟨.mv (.t 8), some 2, none⟩])
  (.ret))
def J3I : AFn := ⟨1, 9, J2T, [.tmp 2], false⟩
def JL : Jp := .seq (.reg false [] [⟨.bin .lss .plain (.t 38) (.t 37), some 39, none⟩])
  (.seq (.cond (.t 39)
  (.skip)
  (.exit 0))
  (.seq (.block 1 (.seq (.reg false [] [⟨.mv (.t 38), some 40, none⟩,
    ⟨.iaddr 37 (.t 36) (.t 38), some 41, none⟩,
    ⟨.load true 37 (.t 41), some 42, none⟩,
    ⟨.newbox (J1 default), some 4, none⟩,
    ⟨.mv (.t 40), some 3, none⟩,
    ⟨.store 37 (.t 4) (.t 42), none, none⟩])
  (.keep [1, 3, 4, 36, 37, 38] (.block 2 (.seq (.reg false [] [⟨.faddr 0 (.t 4), some 44, none⟩,
    ⟨.load true 34 (.t 44), some 45, none⟩,
    ⟨.call J3K [(.t 45)] 0, some 46, none⟩,
    ⟨.un .not (.t 46), some 47, none⟩,
    ⟨.mv (.t 47), some 48, none⟩,
    ⟨.load true 3 (.t 1), some 49, some (48, false)⟩,
    ⟨.faddr 0 (.t 4), some 50, some (48, false)⟩,
    ⟨.faddr 0 (.t 50), some 51, some (48, false)⟩,
    ⟨.load false 1 (.t 51), some 52, some (48, false)⟩,
    ⟨.call J2g [(.t 49), (.t 52)] 0, some 53, some (48, false)⟩,
    ⟨.mv (.t 3), some 54, some (48, false)⟩,
    ⟨.bin .neq .plain (.t 53) (.t 54), some 55, some (48, false)⟩,
    ⟨.pick (.t 48) (.c (.p (.b true))) (.t 55), some 56, none⟩,
    ⟨.mv (.t 56), some 43, none⟩])
  (.keep [1, 4, 36, 37, 38, 43] (.cond (.t 43)
  (.seq (.reg false [] [⟨.mv (.c (.p (.b false))), some 2, none⟩])
    (.ret))
  (.seq (.reg false [] [⟨.faddr 34 (.t 4), some 58, none⟩,
      ⟨.load false 1 (.t 58), some 59, none⟩,
      ⟨.mv (.t 59), some 60, none⟩,
      ⟨.faddr 35 (.t 4), some 61, some (60, true)⟩,
      ⟨.load false 1 (.t 61), some 62, some (60, true)⟩,
      ⟨.bin .lss .plain (.t 62) (.c (.p (.i .i64 1))), some 63, some (60, true)⟩,
      ⟨.mv (.t 63), some 64, some (60, true)⟩,
      ⟨.faddr 35 (.t 4), some 65, some (64, false)⟩,
      ⟨.load false 1 (.t 65), some 66, some (64, false)⟩,
      ⟨.faddr 0 (.t 4), some 67, some (64, false)⟩,
      ⟨.faddr 1 (.t 67), some 68, some (64, false)⟩,
      ⟨.load false 1 (.t 68), some 69, some (64, false)⟩,
      ⟨.bin .gtr .plain (.t 66) (.t 69), some 70, some (64, false)⟩,
      ⟨.pick (.t 64) (.c (.p (.b true))) (.t 70), some 71, some (60, true)⟩,
      ⟨.pick (.t 60) (.t 71) (.c (.p (.b false))), some 72, none⟩,
      ⟨.mv (.t 72), some 73, none⟩,
      ⟨.faddr 34 (.t 4), some 74, some (73, false)⟩,
      ⟨.load false 1 (.t 74), some 75, some (73, false)⟩,
      ⟨.un .not (.t 75), some 76, some (73, false)⟩,
      ⟨.mv (.t 76), some 77, some (73, false)⟩,
      ⟨.faddr 35 (.t 4), some 78, some (77, true)⟩,
      ⟨.load false 1 (.t 78), some 79, some (77, true)⟩,
      ⟨.bin .neq .plain (.t 79) (.c (.p (.i .i64 0))), some 80, some (77, true)⟩,
      ⟨.pick (.t 77) (.t 80) (.c (.p (.b false))), some 81, some (73, false)⟩,
      ⟨.pick (.t 73) (.c (.p (.b true))) (.t 81), some 82, none⟩,
      ⟨.mv (.t 82), some 57, none⟩])
    (.keep [1, 36, 37, 38, 57] (.cond (.t 57)
    (.seq (.reg false [] [⟨.mv (.c (.p (.b false))), some 2, none⟩])
      (.ret))
    (.skip)))))))))))
  (.reg false [] [⟨.bin .add .plain (.t 38) (.c (.p (.i .i64 1))), some 83, none⟩,
    ⟨.mv (.t 83), some 38, none⟩])))
def J2b : Jp := .seq (.reg false [] [⟨.mv (.c (.p (.b true))), some 2, none⟩])
  (.ret)
def J0A : Jp := .seq (.reg false [] [⟨.box 3 (.t 0), some 1, none⟩,
    ⟨.mv (.c (.p (.b false))), some 2, none⟩])
  (.seq (.seq (.reg false [] [⟨.faddr 0 (.t 1), some 5, none⟩,
    ⟨.load false 1 (.t 5), some 6, none⟩,
    ⟨.bin .lss .plain (.t 6) (.c (.p (.i .i64 1))), some 7, none⟩,
    ⟨.mv (.t 7), some 8, none⟩,
    ⟨.faddr 0 (.t 1), some 9, some (8, false)⟩,
    ⟨.load false 1 (.t 9), some 10, some (8, false)⟩,
    ⟨.bin .gtr .plain (.t 10) (.c (.p (.i .i64 64))), some 11, some (8, false)⟩,
    ⟨.pick (.t 8) (.c (.p (.b true))) (.t 11), some 12, none⟩,
    ⟨.mv (.t 12), some 13, none⟩,
    ⟨.faddr 1 (.t 1), some 14, some (13, false)⟩,
    ⟨.load false 1 (.t 14), some 15, some (13, false)⟩,
    ⟨.len false (.t 15), some 16, some (13, false)⟩,
    ⟨.faddr 0 (.t 1), some 17, some (13, false)⟩,
    ⟨.load false 1 (.t 17), some 18, some (13, false)⟩,
    ⟨.bin .gtr .plain (.t 16) (.t 18), some 19, some (13, false)⟩,
    ⟨.pick (.t 13) (.c (.p (.b true))) (.t 19), some 20, none⟩,
    ⟨.mv (.t 20), some 21, none⟩,
    ⟨.faddr 2 (.t 1), some 22, some (21, false)⟩,
    ⟨.load false 1 (.t 22), some 23, some (21, false)⟩,
    ⟨.bin .lss .plain (.t 23) (.c (.p (.i .i64 0))), some 24, some (21, false)⟩,
    ⟨.pick (.t 21) (.c (.p (.b true))) (.t 24), some 25, none⟩,
    ⟨.mv (.t 25), some 26, none⟩,
    ⟨.faddr 2 (.t 1), some 27, some (26, false)⟩,
    ⟨.load false 1 (.t 27), some 28, some (26, false)⟩,
    ⟨.faddr 1 (.t 1), some 29, some (26, false)⟩,
    ⟨.load false 1 (.t 29), some 30, some (26, false)⟩,
    ⟨.len false (.t 30), some 31, some (26, false)⟩,
    ⟨.mm true (.c (.p (.i .i64 1))) (.t 31), some 32, some (26, false)⟩,
    ⟨.bin .geq .plain (.t 28) (.t 32), some 33, some (26, false)⟩,
    ⟨.pick (.t 26) (.c (.p (.b true))) (.t 33), some 34, none⟩])
  (.keep [1, 34] (.cond (.t 34)
  (.seq (.reg false [] [⟨.mv (.c (.p (.b false))), some 2, none⟩])
    (.ret))
  (.skip))))
  (.seq (.tidy [2] (.seq (.reg false [] [⟨.faddr 1 (.t 1), some 35, none⟩,
    ⟨.load false 1 (.t 35), some 36, none⟩,
    ⟨.len false (.t 36), some 37, none⟩,
    ⟨.mv (.c (.p (.i .i64 0))), some 38, none⟩])
  (.keep [1, 36, 37, 38] (.block 0 (.loop [1, 36, 37, 38] JL)))))
  (.keep [] J2b)))
def J1c : AFn := ⟨1, 84, J0A, [.tmp 2], false⟩
def J1i : Jp := .seq (.reg false [] [⟨.box 3 (.t 0), some 2, none⟩,
    ⟨.box 34 (.t 1), some 3, none⟩,
    ⟨.newbox (J6 default), some 4, none⟩,
    ⟨.mv (.c (.p (.i .i64 0))), some 5, none⟩])
  (.keep [2, 3, 4] (.seq (.seq (.reg false [] [⟨.load true 3 (.t 2), some 8, none⟩,
    ⟨.call J1s [(.t 8)] 0, some 9, none⟩,
    ⟨.un .not (.t 9), some 10, none⟩])
  (.keep [2, 3, 4, 10] (.cond (.t 10)
  (.seq (.reg false [] [⟨.build (J6 default) [], some 11, none⟩,
      ⟨.store 3 (.t 4) (.t 11), none, none⟩,
      ⟨.mv (.c (.p (.i .i64 15))), some 5, none⟩])
    (.ret))
  (.skip))))
  (.seq (.reg false [] [⟨.load true 34 (.t 3), some 13, none⟩,
    ⟨.call J3d [(.t 13)] 0, some 14, none⟩,
    ⟨.mv (.t 14), some 12, none⟩,
    ⟨.extr (.t 12) 0, some 15, none⟩,
    ⟨.extr (.t 12) 1, some 16, none⟩,
    ⟨.mv (.t 15), some 6, none⟩,
    ⟨.mv (.t 16), some 7, none⟩])
  (.keep [2, 3, 4, 7] (.seq (.block 0 (.seq (.reg false [] [⟨.mv (.t 7), some 18, none⟩,
    ⟨.bin .neq .plain (.t 18) (.c (.p (.i .i64 0))), some 19, none⟩,
    ⟨.mv (.t 19), some 17, none⟩])
  (.keep [2, 3, 4, 7, 17] (.cond (.t 17)
  (.seq (.reg false [] [⟨.build (J6 default) [], some 20, none⟩,
      ⟨.mv (.t 7), some 21, none⟩,
      ⟨.store 3 (.t 4) (.t 20), none, none⟩,
      ⟨.mv (.t 21), some 5, none⟩])
    (.ret))
  (.seq (.reg false [] [⟨.load true 3 (.t 2), some 23, none⟩,
      ⟨.faddr 0 (.t 3), some 24, none⟩,
      ⟨.load false 1 (.t 24), some 25, none⟩,
      ⟨.call J2g [(.t 23), (.t 25)] 0, some 26, none⟩,
      ⟨.bin .geq .plain (.t 26) (.c (.p (.i .i64 0))), some 27, none⟩,
      ⟨.mv (.t 27), some 22, none⟩])
    (.keep [2, 3, 4, 22] (.cond (.t 22)
    (.seq (.reg false [] [⟨.build (J6 default) [], some 28, none⟩,
        ⟨.store 3 (.t 4) (.t 28), none, none⟩,
        ⟨.mv (.c (.p (.i .i64 25))), some 5, none⟩])
      (.ret))
    (.seq (.reg false [] [⟨.faddr 1 (.t 2), some 30, none⟩,
        ⟨.load false 1 (.t 30), some 31, none⟩,
        ⟨.len false (.t 31), some 32, none⟩,
        ⟨.faddr 0 (.t 2), some 33, none⟩,
        ⟨.load false 1 (.t 33), some 34, none⟩,
        ⟨.bin .eql .plain (.t 32) (.t 34), some 35, none⟩,
        ⟨.mv (.t 35), some 29, none⟩])
      (.keep [2, 3, 4, 29] (.cond (.t 29)
      (.seq (.reg false [] [⟨.build (J6 default) [], some 36, none⟩,
          ⟨.store 3 (.t 4) (.t 36), none, none⟩,
          ⟨.mv (.c (.p (.i .i64 21))), some 5, none⟩])
        (.ret))
      (.skip)))))))))))
  (.seq (.reg true [(2, 3), (1, 5), (2, 5)] [⟨.faddr 1 (.t 2), some 37, none⟩,
    ⟨.load false 1 (.t 37), some 38, none⟩,
    ⟨.call JR [(.t 38)] 0, some 39, none⟩,
    ⟨.load true 34 (.t 3), some 40, none⟩,
    ⟨.build (J1 default) [(0, 34, (.t 40)), (36, 1, (.c (.p (.b true))))], some 41, none⟩,
    ⟨.lits false 37 1 (J1 default) [(0, (.t 41))], some 42, none⟩,
    ⟨.appc 37 424 (J1 default) (.t 39) (.t 42), some 43, none⟩,
    ⟨.faddr 1 (.t 2), some 44, none⟩,
    ⟨.store 1 (.t 44) (.t 43), none, none⟩])
  (.keep [2, 4] (.seq (.reg false [] [⟨.load true 3 (.t 2), some 45, none⟩,
    ⟨.store 3 (.t 4) (.t 45), none, none⟩,
    ⟨.mv (.c (.p (.i .i64 0))), some 5, none⟩])
  (.ret)))))))))
def J4I : AFn := ⟨2, 46, J1i, [.cell 4 true 3, .tmp 5], false⟩
def J12 : Jp := .seq (.seq (.reg false [] [⟨.faddr 1 (.t 1), some 20, none⟩,
    ⟨.load false 1 (.t 20), some 21, none⟩,
    ⟨.faddr 2 (.t 1), some 22, none⟩,
    ⟨.load false 1 (.t 22), some 23, none⟩,
    ⟨.iaddr 37 (.t 21) (.t 23), some 24, none⟩,
    ⟨.faddr 36 (.t 24), some 25, none⟩,
    ⟨.load false 1 (.t 25), some 26, none⟩])
  (.keep [1, 2, 26] (.cond (.t 26)
  (.skip)
  (.exit 1))))
  (.block 2 (.seq (.reg false [] [⟨.faddr 1 (.t 1), some 27, none⟩,
    ⟨.load false 1 (.t 27), some 28, none⟩,
    ⟨.faddr 2 (.t 1), some 29, none⟩,
    ⟨.load false 1 (.t 29), some 30, none⟩,
    ⟨.iaddr 37 (.t 28) (.t 30), some 31, none⟩,
    ⟨.faddr 36 (.t 31), some 32, none⟩,
    ⟨.store 1 (.t 32) (.c (.p (.b false))), none, none⟩])
  (.keep [1, 2] (.reg false [] [⟨.faddr 2 (.t 1), some 33, none⟩,
    ⟨.load false 1 (.t 33), some 34, none⟩,
    ⟨.bin .add .plain (.t 34) (.c (.p (.i .i64 1))), some 35, none⟩,
    ⟨.faddr 1 (.t 1), some 36, none⟩,
    ⟨.load false 1 (.t 36), some 37, none⟩,
    ⟨.len false (.t 37), some 38, none⟩,
    ⟨.bin .rem .plain (.t 35) (.t 38), some 39, none⟩,
    ⟨.faddr 2 (.t 1), some 40, none⟩,
    ⟨.store 1 (.t 40) (.t 39), none, none⟩]))))
def J1I : Jp := .seq (.reg true [(2, 9), (4, 9), (5, 9), (8, 9)] [⟨.load true 3 (.t 1), some 41, none⟩,
    ⟨.faddr 1 (.t 1), some 42, none⟩,
    ⟨.load false 1 (.t 42), some 43, none⟩,
    ⟨.faddr 2 (.t 1), some 44, none⟩,
    ⟨.load false 1 (.t 44), some 45, none⟩,
    ⟨.iaddr 37 (.t 43) (.t 45), some 46, none⟩,
    ⟨.faddr 0 (.t 46), some 47, none⟩,
    ⟨.faddr 0 (.t 47), some 48, none⟩,
    ⟨.load false 1 (.t 48), some 49, none⟩,
    ⟨.store 3 (.t 2) (.t 41), none, none⟩,
    ⟨.mv (.t 49), some 3, none⟩,
    ⟨.mv (.c (.p (.i .i64 0))), some 4, none⟩])
  (.ret)
def J1A : Jp := .seq (.reg false [] [⟨.box 3 (.t 0), some 1, none⟩,
    ⟨.newbox (J6 default), some 2, none⟩,
    ⟨.mv (.c (.p (.i .i64 0))), some 3, none⟩,
    ⟨.mv (.c (.p (.i .i64 0))), some 4, none⟩])
  (.keep [1, 2] (.seq (.block 0 (.seq (.reg false [] [⟨.load true 3 (.t 1), some 6, none⟩,
    ⟨.call J1s [(.t 6)] 0, some 7, none⟩,
    ⟨.un .not (.t 7), some 8, none⟩,
    ⟨.mv (.t 8), some 5, none⟩])
  (.keep [1, 2, 5] (.cond (.t 5)
  (.seq (.reg false [] [⟨.build (J6 default) [], some 9, none⟩,
      ⟨.store 3 (.t 2) (.t 9), none, none⟩,
      ⟨.mv (.c (.p (.i .i64 0))), some 3, none⟩,
      ⟨.mv (.c (.p (.i .i64 15))), some 4, none⟩])
    (.ret))
  (.seq (.reg false [] [⟨.faddr 1 (.t 1), some 11, none⟩,
      ⟨.load false 1 (.t 11), some 12, none⟩,
      ⟨.len false (.t 12), some 13, none⟩,
      ⟨.bin .eql .plain (.t 13) (.c (.p (.i .i64 0))), some 14, none⟩,
      ⟨.mv (.t 14), some 10, none⟩])
    (.keep [1, 2, 10] (.cond (.t 10)
    (.seq (.reg false [] [⟨.build (J6 default) [], some 15, none⟩,
        ⟨.store 3 (.t 2) (.t 15), none, none⟩,
        ⟨.mv (.c (.p (.i .i64 0))), some 3, none⟩,
        ⟨.mv (.c (.p (.i .i64 18))), some 4, none⟩])
      (.ret))
    (.skip))))))))
  (.seq (.reg false [] [⟨.faddr 1 (.t 1), some 16, none⟩,
    ⟨.load false 1 (.t 16), some 17, none⟩,
    ⟨.call JG [(.t 17)] 1, some 18, none⟩,
    ⟨.faddr 1 (.t 1), some 19, none⟩,
    ⟨.store 1 (.t 19) (.t 18), none, none⟩])
  (.keep [1, 2] (.seq (.block 1 (.loop [1, 2] J12))
  (.keep [1, 2] J1I))))))
def J0W : AFn := ⟨1, 50, J1A, [.cell 2 true 3, .tmp 3, .tmp 4], false⟩
def J6c : Jp := .seq (.reg false [] [⟨.load true 3 (.t 2), some 49, none⟩,
    ⟨.store 3 (.t 4) (.t 49), none, none⟩,
    ⟨.mv (.c (.p (.i .i64 0))), some 5, none⟩])
  (.ret)
def J5a : Jp := .seq (.seq (.reg false [] [⟨.faddr 2 (.t 2), some 42, none⟩,
    ⟨.load false 1 (.t 42), some 43, none⟩,
    ⟨.faddr 1 (.t 2), some 44, none⟩,
    ⟨.load false 1 (.t 44), some 45, none⟩,
    ⟨.len false (.t 45), some 46, none⟩,
    ⟨.bin .geq .plain (.t 43) (.t 46), some 47, none⟩])
  (.keep [2, 4, 47] (.cond (.t 47)
  (.reg false [] [⟨.faddr 2 (.t 2), some 48, none⟩,
      ⟨.store 1 (.t 48) (.c (.p (.i .i64 0))), none, none⟩])
  (.skip))))
  (.keep [2, 4] J6c)
def J10 : Jp := .seq (.reg false [] [⟨.box 3 (.t 0), some 2, none⟩,
    ⟨.newbox (J6 default), some 4, none⟩,
    ⟨.mv (.c (.p (.i .i64 0))), some 5, none⟩])
  (.keep [1, 2, 4] (.seq (.seq (.reg false [] [⟨.load true 3 (.t 2), some 7, none⟩,
    ⟨.call J1s [(.t 7)] 0, some 8, none⟩,
    ⟨.un .not (.t 8), some 9, none⟩])
  (.keep [1, 2, 4, 9] (.cond (.t 9)
  (.seq (.reg false [] [⟨.build (J6 default) [], some 10, none⟩,
      ⟨.store 3 (.t 4) (.t 10), none, none⟩,
      ⟨.mv (.c (.p (.i .i64 15))), some 5, none⟩])
    (.ret))
  (.skip))))
  (.seq (.reg false [] [⟨.load true 3 (.t 2), some 11, none⟩,
    ⟨.mv (.t 1), some 12, none⟩,
    ⟨.call J2g [(.t 11), (.t 12)] 0, some 13, none⟩,
    ⟨.mv (.t 13), some 6, none⟩])
  (.keep [2, 4, 6] (.seq (.block 0 (.seq (.reg false [] [⟨.mv (.t 6), some 15, none⟩,
    ⟨.bin .lss .plain (.t 15) (.c (.p (.i .i64 0))), some 16, none⟩,
    ⟨.mv (.t 16), some 14, none⟩])
  (.keep [2, 4, 6, 14] (.cond (.t 14)
  (.seq (.reg false [] [⟨.build (J6 default) [], some 17, none⟩,
      ⟨.store 3 (.t 4) (.t 17), none, none⟩,
      ⟨.mv (.c (.p (.i .i64 18))), some 5, none⟩])
    (.ret))
  (.seq (.reg false [] [⟨.faddr 1 (.t 2), some 19, none⟩,
      ⟨.load false 1 (.t 19), some 20, none⟩,
      ⟨.mv (.t 6), some 21, none⟩,
      ⟨.iaddr 37 (.t 20) (.t 21), some 22, none⟩,
      ⟨.faddr 34 (.t 22), some 23, none⟩,
      ⟨.load false 1 (.t 23), some 24, none⟩,
      ⟨.mv (.t 24), some 18, none⟩])
    (.keep [2, 4, 6, 18] (.cond (.t 18)
    (.seq (.reg false [] [⟨.build (J6 default) [], some 25, none⟩,
        ⟨.store 3 (.t 4) (.t 25), none, none⟩,
        ⟨.mv (.c (.p (.i .i64 23))), some 5, none⟩])
      (.ret))
    (.skip))))))))
  (.seq (.reg false [] [⟨.faddr 1 (.t 2), some 26, none⟩,
    ⟨.load false 1 (.t 26), some 27, none⟩,
    ⟨.call JG [(.t 27)] 1, some 28, none⟩,
    ⟨.mv (.t 6), some 29, none⟩,
    ⟨.mv (.t 6), some 30, none⟩,
    ⟨.bin .add .plain (.t 30) (.c (.p (.i .i64 1))), some 31, none⟩,
    ⟨.callo J0l [true] [(.t 28), (.t 29), (.t 31)] 0, some 32, none⟩,
    ⟨.faddr 1 (.t 2), some 33, none⟩,
    ⟨.store 1 (.t 33) (.t 32), none, none⟩])
  (.keep [2, 4, 6] (.seq (.seq (.reg false [] [⟨.mv (.t 6), some 34, none⟩,
    ⟨.faddr 2 (.t 2), some 35, none⟩,
    ⟨.load false 1 (.t 35), some 36, none⟩,
    ⟨.bin .lss .plain (.t 34) (.t 36), some 37, none⟩])
  (.keep [2, 4, 37] (.cond (.t 37)
  (.reg false [] [⟨.faddr 2 (.t 2), some 38, none⟩,
      ⟨.load false 1 (.t 38), some 39, none⟩,
      ⟨.bin .sub .plain (.t 39) (.c (.p (.i .i64 1))), some 40, none⟩,
      ⟨.faddr 2 (.t 2), some 41, none⟩,
      ⟨.store 1 (.t 41) (.t 40), none, none⟩])
  (.skip))))
  (.keep [2, 4] J5a)))))))))
def J2M : AFn := ⟨2, 50, J10, [.cell 4 true 3, .tmp 5], false⟩
def J3w : Jp := .seq (.reg false [] [⟨.box 3 (.t 0), some 2, none⟩,
    ⟨.mv (.c (.p (.i .i64 0))), some 4, none⟩])
  (.seq (.seq (.reg false [] [⟨.load true 3 (.t 2), some 5, none⟩,
    ⟨.call J1s [(.t 5)] 0, some 6, none⟩,
    ⟨.un .not (.t 6), some 7, none⟩])
  (.keep [1, 2, 7] (.cond (.t 7)
  (.seq (.reg false [] [⟨.mv (.c (.p (.i .i64 (-1)))), some 4, none⟩])
    (.ret))
  (.skip))))
  (.seq (.reg false [] [⟨.load true 3 (.t 2), some 8, none⟩,
    ⟨.mv (.t 1), some 9, none⟩,
    ⟨.call J2g [(.t 8), (.t 9)] 0, some 10, none⟩,
    ⟨.mv (.t 10), some 4, none⟩])
  (.ret)))
def J4e : AFn := ⟨2, 11, J3w, [.tmp 4], false⟩
def JT : Jp := .seq (.reg false [] [⟨.mv (.c (.p (.b false))), some 0, none⟩])
  (.seq (.reg false [] [⟨.call J3Z [(.c (.p (.i .i64 2)))] 0, some 8, none⟩,
    ⟨.mv (.t 8), some 7, none⟩,
    ⟨.extr (.t 7) 0, some 9, none⟩,
    ⟨.extr (.t 7) 1, some 10, none⟩,
    ⟨.newbox (J6 default), some 1, none⟩,
    ⟨.store 3 (.t 1) (.t 9), none, none⟩,
    ⟨.mv (.t 10), some 2, none⟩])
  (.keep [1, 2] (.seq (.reg false [] [⟨.load true 3 (.t 1), some 12, none⟩,
    ⟨.build (J9 default) [(0, 1, (.c (.p (.i .i64 1))))], some 13, none⟩,
    ⟨.call J1Q [(.t 12), (.t 13)] 0, some 14, none⟩,
    ⟨.mv (.t 14), some 11, none⟩,
    ⟨.extr (.t 11) 0, some 15, none⟩,
    ⟨.extr (.t 11) 1, some 16, none⟩,
    ⟨.store 3 (.t 1) (.t 15), none, none⟩,
    ⟨.mv (.t 16), some 3, none⟩])
  (.keep [1, 2, 3] (.seq (.reg false [] [⟨.load true 3 (.t 1), some 18, none⟩,
    ⟨.build (J9 default) [(0, 1, (.c (.p (.i .i64 2))))], some 19, none⟩,
    ⟨.call J1Q [(.t 18), (.t 19)] 0, some 20, none⟩,
    ⟨.mv (.t 20), some 17, none⟩,
    ⟨.extr (.t 17) 0, some 21, none⟩,
    ⟨.extr (.t 17) 1, some 22, none⟩,
    ⟨.store 3 (.t 1) (.t 21), none, none⟩,
    ⟨.mv (.t 22), some 4, none⟩])
  (.keep [1, 2, 3, 4] (.seq (.reg false [] [⟨.load true 3 (.t 1), some 24, none⟩,
    ⟨.call J3b [(.t 24)] 0, some 25, none⟩,
    ⟨.mv (.t 25), some 23, none⟩,
    ⟨.extr (.t 23) 0, some 26, none⟩,
    ⟨.extr (.t 23) 1, some 27, none⟩,
    ⟨.extr (.t 23) 2, some 28, none⟩,
    ⟨.store 3 (.t 1) (.t 26), none, none⟩,
    ⟨.mv (.t 27), some 5, none⟩,
    ⟨.mv (.t 28), some 6, none⟩])
  (.keep [1, 2, 3, 4, 5, 6] (.seq (.reg false [] [⟨.mv (.t 2), some 29, none⟩,
    ⟨.bin .eql .plain (.t 29) (.c (.p (.i .i64 0))), some 30, none⟩,
    ⟨.mv (.t 30), some 31, none⟩,
    ⟨.mv (.t 3), some 32, some (31, true)⟩,
    ⟨.bin .eql .plain (.t 32) (.c (.p (.i .i64 0))), some 33, some (31, true)⟩,
    ⟨.pick (.t 31) (.t 33) (.c (.p (.b false))), some 34, none⟩,
    ⟨.mv (.t 34), some 35, none⟩,
    ⟨.mv (.t 4), some 36, some (35, true)⟩,
    ⟨.bin .eql .plain (.t 36) (.c (.p (.i .i64 0))), some 37, some (35, true)⟩,
    ⟨.pick (.t 35) (.t 37) (.c (.p (.b false))), some 38, none⟩,
    ⟨.mv (.t 38), some 39, none⟩,
    ⟨.mv (.t 6), some 40, some (39, true)⟩,
    ⟨.bin .eql .plain (.t 40) (.c (.p (.i .i64 0))), some 41, some (39, true)⟩,
    ⟨.pick (.t 39) (.t 41) (.c (.p (.b false))), some 42, none⟩,
    ⟨.mv (.t 42), some 43, none⟩,
    ⟨.mv (.t 5), some 44, some (43, true)⟩,
    ⟨.bin .eql .plain (.t 44) (.c (.p (.i .i64 1))), some 45, some (43, true)⟩,
    ⟨.pick (.t 43) (.t 45) (.c (.p (.b false))), some 46, none⟩,
    ⟨.mv (.t 46), some 47, none⟩,
    ⟨.faddr 1 (.t 1), some 48, some (47, true)⟩,
    ⟨.load false 1 (.t 48), some 49, some (47, true)⟩,
    ⟨.len false (.t 49), some 50, some (47, true)⟩,
    ⟨.bin .eql .plain (.t 50) (.c (.p (.i .i64 2))), some 51, some (47, true)⟩,
    ⟨.pick (.t 47) (.t 51) (.c (.p (.b false))), some 52, none⟩,
    ⟨.mv (.t 52), some 53, none⟩,
    ⟨.faddr 1 (.t 1), some 54, some (53, true)⟩,
    ⟨.load false 1 (.t 54), some 55, some (53, true)⟩,
    ⟨.iaddr 37 (.t 55) (.c (.p (.i .i64 0))), some 56, some (53, true)⟩,
    ⟨.faddr 36 (.t 56), some 57, some (53, true)⟩,
    ⟨.load false 1 (.t 57), some 58, some (53, true)⟩,
    ⟨.un .not (.t 58), some 59, some (53, true)⟩,
    ⟨.pick (.t 53) (.t 59) (.c (.p (.b false))), some 60, none⟩,
    ⟨.mv (.t 60), some 61, none⟩,
    ⟨.faddr 1 (.t 1), some 62, some (61, true)⟩,
    ⟨.load false 1 (.t 62), some 63, some (61, true)⟩,
    ⟨.iaddr 37 (.t 63) (.c (.p (.i .i64 1))), some 64, some (61, true)⟩,
    ⟨.faddr 36 (.t 64), some 65, some (61, true)⟩,
    ⟨.load false 1 (.t 65), some 66, some (61, true)⟩,
    ⟨.un .not (.t 66), some 67, some (61, true)⟩,
    ⟨.pick (.t 61) (.t 67) (.c (.p (.b false))), some 68, none⟩,
    ⟨.mv (.t 68), some 0, none⟩])
  (.ret))))))))))
def J39 : AFn := ⟨0, 69, JT, [.tmp 0], false⟩
def J41 : Jp := .seq (.reg false [] [⟨.box 3 (.t 0), some 2, none⟩,
    ⟨.newbox (J9 default), some 4, none⟩,
    ⟨.mv (.c (.p (.b false))), some 5, none⟩])
  (.keep [1, 2, 4] (.seq (.seq (.reg false [] [⟨.load true 3 (.t 2), some 7, none⟩,
    ⟨.mv (.t 1), some 8, none⟩,
    ⟨.call J3x [(.t 7), (.t 8)] 0, some 9, none⟩,
    ⟨.mv (.t 9), some 6, none⟩])
  (.keep [2, 4, 6] (.seq (.reg false [] [⟨.mv (.t 6), some 10, none⟩,
    ⟨.bin .geq .plain (.t 10) (.c (.p (.i .i64 0))), some 11, none⟩])
  (.cond (.t 11)
  (.seq (.reg false [] [⟨.faddr 1 (.t 2), some 12, none⟩,
      ⟨.load false 1 (.t 12), some 13, none⟩,
      ⟨.mv (.t 6), some 14, none⟩,
      ⟨.iaddr 37 (.t 13) (.t 14), some 15, none⟩,
      ⟨.faddr 0 (.t 15), some 16, none⟩,
      ⟨.load true 34 (.t 16), some 17, none⟩,
      ⟨.store 34 (.t 4) (.t 17), none, none⟩,
      ⟨.mv (.c (.p (.b true))), some 5, none⟩])
    (.ret))
  (.skip)))))
  (.seq (.reg false [] [⟨.build (J9 default) [], some 18, none⟩,
    ⟨.store 34 (.t 4) (.t 18), none, none⟩,
    ⟨.mv (.c (.p (.b false))), some 5, none⟩])
  (.ret))))
def J4T : AFn := ⟨2, 19, J41, [.cell 4 true 34, .tmp 5], false⟩
def J0i : Jp := .seq (.seq (.reg false [] [⟨.mv (.t 8), some 35, none⟩,
    ⟨.mv (.t 5), some 36, none⟩,
    ⟨.bin .lss .plain (.t 35) (.t 36), some 37, none⟩])
  (.keep [1, 5, 6, 7, 8, 37] (.cond (.t 37)
  (.skip)
  (.exit 0))))
  (.seq (.block 1 (.seq (.reg false [] [⟨.load true 3 (.t 6), some 41, none⟩,
    ⟨.mv (.t 8), some 42, none⟩,
    ⟨.build (J9 default) [(0, 1, (.t 42))], some 43, none⟩,
    ⟨.call J1Q [(.t 41), (.t 43)] 0, some 44, none⟩,
    ⟨.mv (.t 44), some 40, none⟩,
    ⟨.extr (.t 40) 0, some 45, none⟩,
    ⟨.extr (.t 40) 1, some 46, none⟩,
    ⟨.newbox (J6 default), some 9, none⟩,
    ⟨.store 3 (.t 9) (.t 45), none, none⟩,
    ⟨.mv (.t 46), some 10, none⟩])
  (.keep [1, 5, 6, 7, 8, 9, 10] (.seq (.seq (.reg false [] [⟨.mv (.t 10), some 47, none⟩,
    ⟨.bin .neq .plain (.t 47) (.c (.p (.i .i64 0))), some 48, none⟩])
  (.cond (.t 48)
  (.seq (.reg false [] [⟨.mv (.c (.p (.b false))), some 4, none⟩])
    (.ret))
  (.skip)))
  (.reg false [] [⟨.load true 3 (.t 9), some 49, none⟩,
    ⟨.store 3 (.t 6) (.t 49), none, none⟩])))))
  (.reg false [] [⟨.mv (.t 8), some 38, none⟩,
    ⟨.bin .add .plain (.t 38) (.c (.p (.i .i64 1))), some 39, none⟩,
    ⟨.mv (.t 39), some 8, none⟩]))
def Jj : Jp := .seq (.reg false [] [⟨.mv (.t 1), some 50, none⟩,
    ⟨.conv (.int .i64) (.t 50), some 51, none⟩,
    ⟨.mv (.t 5), some 52, none⟩,
    ⟨.bin .rem .plain (.t 51) (.t 52), some 53, none⟩,
    ⟨.mv (.t 53), some 11, none⟩])
  (.keep [5, 6, 7, 11] (.seq (.reg false [] [⟨.load true 3 (.t 6), some 55, none⟩,
    ⟨.mv (.t 5), some 56, none⟩,
    ⟨.build (J9 default) [(0, 1, (.t 56))], some 57, none⟩,
    ⟨.call J1Q [(.t 55), (.t 57)] 0, some 58, none⟩,
    ⟨.mv (.t 58), some 54, none⟩,
    ⟨.extr (.t 54) 0, some 59, none⟩,
    ⟨.extr (.t 54) 1, some 60, none⟩,
    ⟨.newbox (J6 default), some 12, none⟩,
    ⟨.store 3 (.t 12) (.t 59), none, none⟩,
    ⟨.mv (.t 60), some 13, none⟩])
  (.keep [5, 6, 7, 11, 13] (.seq (.reg false [] [⟨.load true 3 (.t 6), some 62, none⟩,
    ⟨.mv (.t 11), some 63, none⟩,
    ⟨.build (J9 default) [(0, 1, (.t 63))], some 64, none⟩,
    ⟨.call J1Q [(.t 62), (.t 64)] 0, some 65, none⟩,
    ⟨.mv (.t 65), some 61, none⟩,
    ⟨.extr (.t 61) 0, some 66, none⟩,
    ⟨.extr (.t 61) 1, some 67, none⟩,
    ⟨.newbox (J6 default), some 14, none⟩,
    ⟨.store 3 (.t 14) (.t 66), none, none⟩,
    ⟨.mv (.t 67), some 15, none⟩])
  (.keep [5, 6, 7, 11, 13, 15] (.seq (.reg false [] [⟨.load true 3 (.t 6), some 69, none⟩,
    ⟨.mv (.t 11), some 70, none⟩,
    ⟨.call J3z [(.t 69), (.t 70)] 0, some 71, none⟩,
    ⟨.mv (.t 71), some 68, none⟩,
    ⟨.extr (.t 68) 0, some 72, none⟩,
    ⟨.extr (.t 68) 1, some 73, none⟩,
    ⟨.newbox (J6 default), some 16, none⟩,
    ⟨.store 3 (.t 16) (.t 72), none, none⟩,
    ⟨.mv (.t 73), some 17, none⟩])
  (.keep [5, 7, 11, 13, 15, 16, 17] (.seq (.reg false [] [⟨.load true 3 (.t 16), some 75, none⟩,
    ⟨.mv (.t 11), some 76, none⟩,
    ⟨.call J4G [(.t 75), (.t 76)] 0, some 77, none⟩,
    ⟨.mv (.t 77), some 74, none⟩,
    ⟨.extr (.t 74) 0, some 78, none⟩,
    ⟨.extr (.t 74) 1, some 79, none⟩,
    ⟨.newbox (J9 default), some 18, none⟩,
    ⟨.store 34 (.t 18) (.t 78), none, none⟩,
    ⟨.mv (.t 79), some 19, none⟩])
  (.keep [5, 7, 11, 13, 15, 16, 17, 19] (.seq (.reg false [] [⟨.load true 3 (.t 16), some 81, none⟩,
    ⟨.mv (.t 5), some 82, none⟩,
    ⟨.build (J9 default) [(0, 1, (.t 82))], some 83, none⟩,
    ⟨.call J1Q [(.t 81), (.t 83)] 0, some 84, none⟩,
    ⟨.mv (.t 84), some 80, none⟩,
    ⟨.extr (.t 80) 0, some 85, none⟩,
    ⟨.extr (.t 80) 1, some 86, none⟩,
    ⟨.newbox (J6 default), some 20, none⟩,
    ⟨.store 3 (.t 20) (.t 85), none, none⟩,
    ⟨.mv (.t 86), some 21, none⟩])
  (.keep [5, 7, 11, 13, 15, 16, 17, 19, 20, 21] (.seq (.reg false [] [⟨.load true 3 (.t 16), some 88, none⟩,
    ⟨.mv (.t 11), some 89, none⟩,
    ⟨.call J3z [(.t 88), (.t 89)] 0, some 90, none⟩,
    ⟨.mv (.t 90), some 87, none⟩,
    ⟨.extr (.t 87) 0, some 91, none⟩,
    ⟨.extr (.t 87) 1, some 92, none⟩,
    ⟨.newbox (J6 default), some 22, none⟩,
    ⟨.store 3 (.t 22) (.t 91), none, none⟩,
    ⟨.mv (.t 92), some 23, none⟩])
  (.keep [5, 7, 13, 15, 17, 19, 20, 21, 23] (.seq (.reg false [] [⟨.mv (.t 7), some 93, none⟩,
    ⟨.bin .eql .plain (.t 93) (.c (.p (.i .i64 0))), some 94, none⟩,
    ⟨.mv (.t 94), some 95, none⟩,
    ⟨.mv (.t 13), some 96, some (95, true)⟩,
    ⟨.bin .eql .plain (.t 96) (.c (.p (.i .i64 21))), some 97, some (95, true)⟩,
    ⟨.pick (.t 95) (.t 97) (.c (.p (.b false))), some 98, none⟩,
    ⟨.mv (.t 98), some 99, none⟩,
    ⟨.mv (.t 15), some 100, some (99, true)⟩,
    ⟨.bin .eql .plain (.t 100) (.c (.p (.i .i64 25))), some 101, some (99, true)⟩,
    ⟨.pick (.t 99) (.t 101) (.c (.p (.b false))), some 102, none⟩,
    ⟨.mv (.t 102), some 103, none⟩,
    ⟨.mv (.t 17), some 104, some (103, true)⟩,
    ⟨.bin .eql .plain (.t 104) (.c (.p (.i .i64 0))), some 105, some (103, true)⟩,
    ⟨.pick (.t 103) (.t 105) (.c (.p (.b false))), some 106, none⟩,
    ⟨.mv (.t 106), some 107, none⟩,
    ⟨.mv (.t 19), some 108, some (107, true)⟩,
    ⟨.un .not (.t 108), some 109, some (107, true)⟩,
    ⟨.pick (.t 107) (.t 109) (.c (.p (.b false))), some 110, none⟩,
    ⟨.mv (.t 110), some 111, none⟩,
    ⟨.mv (.t 21), some 112, some (111, true)⟩,
    ⟨.bin .eql .plain (.t 112) (.c (.p (.i .i64 0))), some 113, some (111, true)⟩,
    ⟨.pick (.t 111) (.t 113) (.c (.p (.b false))), some 114, none⟩,
    ⟨.mv (.t 114), some 115, none⟩,
    ⟨.faddr 1 (.t 20), some 116, some (115, true)⟩,
    ⟨.load false 1 (.t 116), some 117, some (115, true)⟩,
    ⟨.len false (.t 117), some 118, some (115, true)⟩,
    ⟨.mv (.t 5), some 119, some (115, true)⟩,
    ⟨.bin .eql .plain (.t 118) (.t 119), some 120, some (115, true)⟩,
    ⟨.pick (.t 115) (.t 120) (.c (.p (.b false))), some 121, none⟩,
    ⟨.mv (.t 121), some 122, none⟩,
    ⟨.load true 3 (.t 20), some 123, some (122, true)⟩,
    ⟨.mv (.t 5), some 124, some (122, true)⟩,
    ⟨.call J3x [(.t 123), (.t 124)] 0, some 125, some (122, true)⟩,
    ⟨.mv (.t 5), some 126, some (122, true)⟩,
    ⟨.bin .sub .plain (.t 126) (.c (.p (.i .i64 1))), some 127, some (122, true)⟩,
    ⟨.bin .eql .plain (.t 125) (.t 127), some 128, some (122, true)⟩,
    ⟨.pick (.t 122) (.t 128) (.c (.p (.b false))), some 129, none⟩,
    ⟨.mv (.t 129), some 130, none⟩,
    ⟨.mv (.t 23), some 131, some (130, true)⟩,
    ⟨.bin .eql .plain (.t 131) (.c (.p (.i .i64 18))), some 132, some (130, true)⟩,
    ⟨.pick (.t 130) (.t 132) (.c (.p (.b false))), some 133, none⟩,
    ⟨.mv (.t 133), some 134, none⟩,
    ⟨.load true 3 (.t 20), some 135, some (134, true)⟩,
    ⟨.call J1s [(.t 135)] 0, some 136, some (134, true)⟩,
    ⟨.pick (.t 134) (.t 136) (.c (.p (.b false))), some 137, none⟩,
    ⟨.mv (.t 137), some 4, none⟩])
  (.ret)))))))))))))))
def J1a : Jp := .seq (.reg false [] [⟨.mv (.c (.p (.b false))), some 4, none⟩])
  (.seq (.seq (.reg false [] [⟨.call J3c [] 0, some 24, none⟩,
    ⟨.un .not (.t 24), some 25, none⟩])
  (.cond (.t 25)
  (.seq (.reg false [] [⟨.mv (.c (.p (.b false))), some 4, none⟩])
    (.ret))
  (.skip)))
  (.seq (.reg false [] [⟨.mv (.t 0), some 26, none⟩,
    ⟨.conv (.int .i64) (.t 26), some 27, none⟩,
    ⟨.bin .rem .plain (.t 27) (.c (.p (.i .i64 10))), some 28, none⟩,
    ⟨.bin .add .plain (.c (.p (.i .i64 1))) (.t 28), some 29, none⟩,
    ⟨.mv (.t 29), some 5, none⟩])
  (.keep [1, 5] (.seq (.reg false [] [⟨.mv (.t 5), some 31, none⟩,
    ⟨.call J3Z [(.t 31)] 0, some 32, none⟩,
    ⟨.mv (.t 32), some 30, none⟩,
    ⟨.extr (.t 30) 0, some 33, none⟩,
    ⟨.extr (.t 30) 1, some 34, none⟩,
    ⟨.newbox (J6 default), some 6, none⟩,
    ⟨.store 3 (.t 6) (.t 33), none, none⟩,
    ⟨.mv (.t 34), some 7, none⟩])
  (.keep [1, 5, 6, 7] (.seq (.tidy [1, 4, 5, 6, 7] (.seq (.reg false [] [⟨.mv (.c (.p (.i .i64 0))), some 8, none⟩])
  (.block 0 (.loop [1, 5, 6, 7, 8] J0i))))
  (.keep [1, 5, 6, 7] Jj)))))))
def J0j : AFn := ⟨2, 138, J1a, [.tmp 4], false⟩
theorem J7J : J4U.res = [.cell 2 true 3, .tmp 3] ∧ J4U.fresh = false := ⟨rfl, rfl⟩
theorem J5w : J1b.res = [.tmp 2] ∧ J1b.fresh = false := ⟨rfl, rfl⟩
theorem J8I : J3D.res = [.tmp 2] ∧ J3D.fresh = false := ⟨rfl, rfl⟩
theorem Jbu : J2R.res = [.tmp 3] ∧ J2R.fresh = false := ⟨rfl, rfl⟩
theorem J23 : Jm.res = [.tmp 4] ∧ Jm.fresh = false := ⟨rfl, rfl⟩
theorem JeF : J4b.res = [.tmp 4] ∧ J4b.fresh = false := ⟨rfl, rfl⟩
theorem J54 : J08.res = [.tmp 2] ∧ J08.fresh = false := ⟨rfl, rfl⟩
theorem J8L : JA.res = [.cell 0 true 16] ∧ JA.fresh = false := ⟨rfl, rfl⟩
theorem J6d : J36.res = [.tmp 2] ∧ J36.fresh = false := ⟨rfl, rfl⟩
theorem J8m : J11.res = [] ∧ J11.fresh = false := ⟨rfl, rfl⟩
theorem Jem : J1v.res = [.tmp 2] ∧ J1v.fresh = false := ⟨rfl, rfl⟩
theorem J68 : J0X.res = [.tmp 2, .tmp 3] ∧ J0X.fresh = false := ⟨rfl, rfl⟩
theorem J8T : J3I.res = [.tmp 2] ∧ J3I.fresh = false := ⟨rfl, rfl⟩
theorem J1d : J1c.res = [.tmp 2] ∧ J1c.fresh = false := ⟨rfl, rfl⟩
theorem J5M : J4I.res = [.cell 4 true 3, .tmp 5] ∧ J4I.fresh = false := ⟨rfl, rfl⟩
theorem J69 : J0W.res = [.cell 2 true 3, .tmp 3, .tmp 4] ∧ J0W.fresh = false := ⟨rfl, rfl⟩
theorem J5X : J2M.res = [.cell 4 true 3, .tmp 5] ∧ J2M.fresh = false := ⟨rfl, rfl⟩
theorem J9T : J4e.res = [.tmp 4] ∧ J4e.fresh = false := ⟨rfl, rfl⟩
theorem J20 : J39.res = [.tmp 0] ∧ J39.fresh = false := ⟨rfl, rfl⟩
theorem JaK : J4T.res = [.cell 4 true 34, .tmp 5] ∧ J4T.fresh = false := ⟨rfl, rfl⟩
theorem J05 : J0j.res = [.tmp 4] ∧ J0j.fresh = false := ⟨rfl, rfl⟩
def fns : List (FuncId × AFn) := [(J3Z, J4U), (J31, J1b), (J3R, J3D), (J0o, J2R), (JQ, Jm), (J2g, J4b), (JR, J08), (J1C, JA), (J2y, J36), (J0p, J11), (J3y, J1v), (J3d, J0X), (J3K, J3I), (J1s, J1c), (J1Q, J4I), (J3b, J0W), (J3z, J2M), (J3x, J4e), (J3c, J39), (J4G, J4T), (J3r, J0j)]
def Jd1 : List (FuncId × J5y) := [(JG, J0q)]
def Jd0 : List (FuncId × (List AV → List Blk → Option Res)) := [(J0M, Jdv), (J16, JdI), (J0l, (JaA 37 (J1 (⟨(⟨0, 0, (Vector.replicate 16 (⟨false, []⟩ : Jc))⟩ : J8), false, 0, false⟩ : T_api_Frame))))]
def lkF {α : Type} (f : FuncId) : List (FuncId × α) → Option α
  | [] => none
  | (g, a) :: r => if f = g then some a else lkF f r
def J5 (prims : FuncId → Option (List AV → List Blk → Option Res)) : J2z := fun f => Jkz (lkF f fns) (lkF f Jd1) (lkF f Jd0) (prims f)
theorem JfU (p) : J5 p J3Z = some (.fn J4U) := rfl
theorem JdM (p) : J5 p J31 = some (.fn J1b) := rfl
theorem JdU (p) : J5 p J3R = some (.fn J3D) := rfl
theorem JbM (p) : J5 p J0o = some (.fn J2R) := rfl
theorem J4k (p) : J5 p JQ = some (.fn Jm) := rfl
theorem Jey (p) : J5 p J2g = some (.fn J4b) := rfl
theorem J56 (p) : J5 p JR = some (.fn J08) := rfl
theorem J8W (p) : J5 p J1C = some (.fn JA) := rfl
theorem JcE (p) : J5 p J2y = some (.fn J36) := rfl
theorem J8n (p) : J5 p J0p = some (.fn J11) := rfl
theorem JeG (p) : J5 p J3y = some (.fn J1v) := rfl
theorem JcH (p) : J5 p J3d = some (.fn J0X) := rfl
theorem Jef (p) : J5 p J3K = some (.fn J3I) := rfl
theorem Jdn (p) : J5 p J1s = some (.fn J1c) := rfl
theorem Jfu (p) : J5 p J1Q = some (.fn J4I) := rfl
theorem JcN (p) : J5 p J3b = some (.fn J0W) := rfl
theorem JeO (p) : J5 p J3z = some (.fn J2M) := rfl
theorem Jer (p) : J5 p J3x = some (.fn J4e) := rfl
theorem JcC (p) : J5 p J3c = some (.fn J39) := rfl
theorem JfY (p) : J5 p J4G = some (.fn J4T) := rfl
theorem J8H (p) : J5 p J3r = some (.fn J0j) := rfl
theorem J4Y (p) : J5 p JG = some (.fork J0q) := rfl
theorem JeP (p) : J5 p J0M = some (.prim Jdv) := rfl
theorem J9Y (p) : J5 p J16 = some (.prim JdI) := rfl
theorem J4L (p) : J5 p J0l = some (.prim (JaA 37 (J1 (⟨(⟨0, 0, (Vector.replicate 16 (⟨false, []⟩ : Jc))⟩ : J8), false, 0, false⟩ : T_api_Frame)))) := rfl
end Go.Am
end
section
namespace Go.Am
set_option maxRecDepth 8000
set_option maxHeartbeats 4000000
set_option linter.unusedSimpArgs false
set_option linter.unusedVariables false
noncomputable section
variable (p : FuncId → Option (List AV → List Blk → Option Res))
def JaX  (r : T_api_Pool × Int) : Option Res := some (.tup [.data (J6 r.1), .p (.i .i64 r.2)], [])
def J2H (x0 : Int) : Option (T_api_Pool × Int) :=
  if (decide (x0 < 1)) then
    some ((⟨0, ([] : List T_api_Frame), 0⟩ : T_api_Pool), 1)
  else
    if (decide (x0 > 64)) then
      some ((⟨0, ([] : List T_api_Frame), 0⟩ : T_api_Pool), 1)
    else
      some ((⟨x0, ([] : List T_api_Frame), 0⟩ : T_api_Pool), 0)
theorem Jbs {x0 : Int} {o : T_api_Pool × Int} (h : J2H x0 = some o) :
    rk (J5 p) J4U 0 [] (X (J5 p) J3k ⟨[(0, .p (.i .i64 x0))], []⟩) = JaX o := by
  unfold J2H at h
  rcases Jk h with ⟨h1, h⟩ | ⟨h1, h⟩
  · obtain rfl := sj h
    try simp only [↓Da, Ua, J3k, J3, J0, J2, Ja, J4, J7J, *, ↓reduceIte, Nat.reduceEqDiff, Nat.reduceAdd, Nat.reduceLT, Nat.reduceMul]
    rfl
  · try simp only [↓Da, Ua, J3k, J3, J0, J2, Ja, J4, *, ↓reduceIte, Nat.reduceEqDiff, Nat.reduceAdd, Nat.reduceLT, Nat.reduceMul]
    rcases Jk h with ⟨h2, h⟩ | ⟨h2, h⟩
    · obtain rfl := sj h
      try simp only [↓Da, Ua, J3k, J3, J0, J2, Ja, J4, J7J, *, ↓reduceIte, Nat.reduceEqDiff, Nat.reduceAdd, Nat.reduceLT, Nat.reduceMul]
      rfl
    · obtain rfl := sj h
      try simp only [↓Da, Ua, J3k, J3, J0, J2, Ja, J4, J7J, *, ↓reduceIte, Nat.reduceEqDiff, Nat.reduceAdd, Nat.reduceLT, Nat.reduceMul]
      rfl
theorem Jfr {x0 : Int} {o : T_api_Pool × Int} (h : J2H x0 = some o) : AF (J5 p) J3Z [.p (.i .i64 x0)] [] = JaX o :=
  (J2d (J5 p) (JfU p) rfl).trans (Jbs p h)
theorem JaD {x0 : Int} {o : T_api_Pool × Int} (h : J2H x0 = some o) : ∀ ws new st, (Jx (AF (J5 p)) J3Z ([.p (.i .i64 x0)], ws) 0 new).run st = some ⟨.tup [.data (J6 o.1), .p (.i .i64 o.2)], ws⟩ := JZ rfl (Jfr p h) rfl
def J9L (r : List UInt8) : Option Res := some (.p (.s r), [])
def J2P (x0 : List UInt8) (x1 : Int) (x2 : Int) : Option (List UInt8) := Jbv x0 x1 x2
theorem JeS {x0 : List UInt8} {x1 : Int} {x2 : Int} {o : List UInt8} (h : J2P x0 x1 x2 = some o) : AF (J5 p) J0M [.p (.s x0), .p (.i .i64 x1), .p (.i .i64 x2)] [] = J9L o := by
  rw [JbZ (JeP p)]
  have h' : Jbv x0 x1 x2 = some o := h
  simp only [Jdv, h', Option.map_some, J9L]
theorem J58 {x0 : List UInt8} {x1 : Int} {x2 : Int} {o : List UInt8} (h : J2P x0 x1 x2 = some o) : ∀ ws new st, (Jx (AF (J5 p)) J0M ([.p (.s x0), .p (.i .i64 x1), .p (.i .i64 x2)], ws) 0 new).run st = some ⟨.p (.s o), ws⟩ := JZ rfl (JeS p h) rfl
def J3O  (r : Bool) : Option Res := some (.p (.b r), [])
def JbI (x6 : Vector Jc 16) (b0 : J8) (o : (Int) ⊕ (Bool)) : Option Res := match o with
  | .inl s => rk (J5 p) J1b 0 [.bl 0, .td 1 [2], .sq (.keep [] J29)] (X (J5 p) (.lp 1 [1, 6, 7] J03) ⟨[(1, .ptr 0 0), (6, .data ((JH Jd) x6)), (7, .p (.i .i64 s))], [.box (List.map AV.p (J9 b0))]⟩)
  | .inr o => J3O o
def J3P  : Option (Bool) :=
  some true
theorem Jc0 {B0 : List PV} {o : Bool} (h : J3P = some o) :
    rk (J5 p) J1b 0 [] (X (J5 p) J29 ⟨[], [.box (List.map AV.p B0)]⟩) = J3O o := by
  unfold J3P at h
  obtain rfl := sj h
  try simp only [↓Da, Ua, J29, J5w, ↓reduceIte, Nat.reduceEqDiff, Nat.reduceAdd, Nat.reduceLT, Nat.reduceMul]
  rfl
def JP (x6 : Vector Jc 16) (b0 : J8) (x7 : Int) : Option (((Int) ⊕ (Bool))) :=
  if (decide (x7 < 16)) then
    Option.bind (J6b x6 x7) fun y2 =>
    if (decide (((List.length y2.Data : Nat) : Int) > 12)) then
      some (.inr false)
    else
      if y2.Set then
        if ((b0.LSN : Int) == 0) then
          some (.inr false)
        else
          some (.inl (IntKind.wrap .i64 (x7 + 1)))
      else
        if (y2.Data == []) then
          some (.inl (IntKind.wrap .i64 (x7 + 1)))
        else
          some (.inr false)
  else
    Option.map (fun o => .inr o) (J3P)
theorem J7A {x6 : Vector Jc 16} {b0 : J8} {x7 : Int} {o : ((Int) ⊕ (Bool))} (h : JP x6 b0 x7 = some o) :
    rk (J5 p) J1b 0 [.lo 1 [1, 6, 7] J03, .bl 0, .td 1 [2], .sq (.keep [] J29)] (X (J5 p) J03 ⟨[(1, .ptr 0 0), (6, .data ((JH Jd) x6)), (7, .p (.i .i64 x7))], [.box (List.map AV.p (J9 b0))]⟩) = (JbI p x6 b0) o := by
  unfold JP at h
  rcases Jk h with ⟨h1, h⟩ | ⟨h1, h⟩
  · obtain ⟨y2, h3, h⟩ := bi h
    have f4 : (0 ≤ (x7 : Int) ∧ (x7 : Int) < ((16 : Nat) : Int)) = True := eq_true (J5h h3).1
    have f5 : sub (JH Jd x6) (Int.toNat x7 * 2) 2 = some (Jd y2) := Jb5 J0b (J5h h3).2
    try simp only [Nf] at f5
    try simp only [↓Da, Ua, J03, J3, J0, J2, *, ↓reduceIte, Nat.reduceEqDiff, Nat.reduceAdd, Nat.reduceLT, Nat.reduceMul]
    rcases Jk h with ⟨h6, h⟩ | ⟨h6, h⟩
    · obtain rfl := sj h
      try simp only [↓Da, Ua, J03, J3, J0, J2, J5w, *, ↓reduceIte, Nat.reduceEqDiff, Nat.reduceAdd, Nat.reduceLT, Nat.reduceMul]
      rfl
    · try simp only [↓Da, Ua, J03, J3, J0, J2, *, ↓reduceIte, Nat.reduceEqDiff, Nat.reduceAdd, Nat.reduceLT, Nat.reduceMul]
      rcases Jk h with ⟨h7, h⟩ | ⟨h7, h⟩
      · try simp only [↓Da, Ua, J03, J3, J0, J2, *, ↓reduceIte, Nat.reduceEqDiff, Nat.reduceAdd, Nat.reduceLT, Nat.reduceMul]
        rcases Jk h with ⟨h8, h⟩ | ⟨h8, h⟩
        · have h8n : ((b0.LSN : Int) != 0) = false := by rw [bne, h8]; rfl
          obtain rfl := sj h
          try simp only [↓Da, Ua, J03, J3, J0, J2, J5w, *, ↓reduceIte, Nat.reduceEqDiff, Nat.reduceAdd, Nat.reduceLT, Nat.reduceMul]
          rfl
        · have h8n : ((b0.LSN : Int) != 0) = true := by rw [bne, h8]; rfl
          obtain rfl := sj h
          try simp only [↓Da, Ua, J03, J3, J0, J2, *, ↓reduceIte, Nat.reduceEqDiff, Nat.reduceAdd, Nat.reduceLT, Nat.reduceMul]
          rfl
      · try simp only [↓Da, Ua, J03, J3, J0, J2, *, ↓reduceIte, Nat.reduceEqDiff, Nat.reduceAdd, Nat.reduceLT, Nat.reduceMul]
        rcases Jk h with ⟨h9, h⟩ | ⟨h9, h⟩
        · obtain rfl := sj h
          try simp only [↓Da, Ua, J03, J3, J0, J2, *, ↓reduceIte, Nat.reduceEqDiff, Nat.reduceAdd, Nat.reduceLT, Nat.reduceMul]
          rfl
        · obtain rfl := sj h
          try simp only [↓Da, Ua, J03, J3, J0, J2, J5w, *, ↓reduceIte, Nat.reduceEqDiff, Nat.reduceAdd, Nat.reduceLT, Nat.reduceMul]
          rfl
  · obtain ⟨o', h', rfl⟩ := mi h
    try simp only [↓Da, Ua, J03, J3, J0, J2, *, ↓reduceIte, Nat.reduceEqDiff, Nat.reduceAdd, Nat.reduceLT, Nat.reduceMul]
    have e0 := Jc0 p (B0 := (J9 b0)) h'
    exact e0
def J7o (x6 : Vector Jc 16) (b0 : J8) (s : Int) : Option (Bool) :=
  J07 (fun s => JP x6 b0 s) s
theorem Jag {x6 : Vector Jc 16} {b0 : J8} {s : Int} {o : Bool} (h : J7o x6 b0 s = some o) :
    rk (J5 p) J1b 0 [.bl 0, .td 1 [2], .sq (.keep [] J29)] (X (J5 p) (.lp 1 [1, 6, 7] J03) ⟨[(1, .ptr 0 0), (6, .data ((JH Jd) x6)), (7, .p (.i .i64 s))], [.box (List.map AV.p (J9 b0))]⟩) = J3O o := by
  have h0 : J07 (fun s => JP x6 b0 s) s = some o := h
  exact J3s (P := fun (s : Int) (o : Bool) => rk (J5 p) J1b 0 [.bl 0, .td 1 [2], .sq (.keep [] J29)] (X (J5 p) (.lp 1 [1, 6, 7] J03) ⟨[(1, .ptr 0 0), (6, .data ((JH Jd) x6)), (7, .p (.i .i64 s))], [.box (List.map AV.p (J9 b0))]⟩) = J3O o) (fun s r hs => by rw [J32]; exact J7A p hs) (fun s s1 r hs ih => by rw [J32]; exact (J7A p hs).trans ih) h0
def J2k (x0 : J8) : Option (Bool) :=
  J7o x0.Cells x0 0
theorem Jan {x0 : J8} {o : Bool} (h : J2k x0 = some o) :
    rk (J5 p) J1b 0 [] (X (J5 p) J4v ⟨[(0, .data (J9 x0))], []⟩) = J3O o := by
  unfold J2k at h
  try simp only [↓Da, Ua, J4v, J3, J0, J2, ↓reduceIte, Nat.reduceEqDiff, Nat.reduceAdd, Nat.reduceLT, Nat.reduceMul]
  have e0 := Jag p h
  exact e0
theorem JdZ {x0 : J8} {o : Bool} (h : J2k x0 = some o) : AF (J5 p) J31 [.data (J9 x0)] [] = J3O o :=
  (J2d (J5 p) (JdM p) rfl).trans (Jan p h)
theorem J8u {x0 : J8} {o : Bool} (h : J2k x0 = some o) : ∀ ws new st, (Jx (AF (J5 p)) J31 ([.data (J9 x0)], ws) 0 new).run st = some ⟨.p (.b o), ws⟩ := JZ rfl (JdZ p h) rfl
def J6P (r : List UInt8) : Option Res := some (.p (.s r), [])
def J25 (x0 : List UInt8) (x1 : Int) : Option (List UInt8) := JbR x0 x1
theorem Jar {x0 : List UInt8} {x1 : Int} {o : List UInt8} (h : J25 x0 x1 = some o) : AF (J5 p) J16 [.p (.s x0), .p (.i .i64 x1)] [] = J6P o := by
  rw [JbZ (J9Y p)]
  have h' : JbR x0 x1 = some o := h
  simp only [JdI, h', Option.map_some, J6P]
theorem J6C {x0 : List UInt8} {x1 : Int} {o : List UInt8} (h : J25 x0 x1 = some o) : ∀ ws new st, (Jx (AF (J5 p)) J16 ([.p (.s x0), .p (.i .i64 x1)], ws) 0 new).run st = some ⟨.p (.s o), ws⟩ := JZ rfl (Jar p h) rfl
def J9a  (r : Bool) : Option Res := some (.p (.b r), [])
def J2X (x0 : Int) : Option (Bool) :=
  if (decide (x0 ≥ 0)) then
    some (decide (x0 < 64))
  else
    some false
theorem JaC {x0 : Int} {o : Bool} (h : J2X x0 = some o) :
    rk (J5 p) J3D 0 [] (X (J5 p) J3Q ⟨[(0, .p (.i .i64 x0))], []⟩) = J9a o := by
  unfold J2X at h
  rcases Jk h with ⟨h1, h⟩ | ⟨h1, h⟩
  · obtain rfl := sj h
    try simp only [↓Da, Ua, J3Q, J8I, *, ↓reduceIte, Nat.reduceEqDiff, Nat.reduceAdd, Nat.reduceLT, Nat.reduceMul]
    rfl
  · obtain rfl := sj h
    try simp only [↓Da, Ua, J3Q, J8I, *, ↓reduceIte, Nat.reduceEqDiff, Nat.reduceAdd, Nat.reduceLT, Nat.reduceMul]
    rfl
theorem JdX {x0 : Int} {o : Bool} (h : J2X x0 = some o) : AF (J5 p) J3R [.p (.i .i64 x0)] [] = J9a o :=
  (J2d (J5 p) (JdU p) rfl).trans (JaC p h)
theorem Jd5 {x0 : Int} {o : Bool} (h : J2X x0 = some o) : ∀ ws new st, (Jx (AF (J5 p)) J3R ([.p (.i .i64 x0)], ws) 0 new).run st = some ⟨.p (.b o), ws⟩ := JZ rfl (JdX p h) rfl
def J7r (b0 : Int) (r : Bool) : Option Res := some (.p (.b r), [.box [.p (.i .i64 b0)]])
def J3H (x0 : T_api_Frame) (b0 : Int) : Option (Bool) :=
  some ((x0.Page.ID : Int) == b0)
theorem J8y {x0 : T_api_Frame} {b0 : Int} {o : Bool} (h : J3H x0 b0 = some o) :
    rk (J5 p) J2R 1 [] (X (J5 p) J3J ⟨[(0, .data (J1 x0)), (1, .ptr 0 0)], [.box [.p (.i .i64 b0)]]⟩) = (J7r b0) o := by
  unfold J3H at h
  have f1 : sub (J1 x0) 0 1 = some ((r_i .i64) x0.Page.ID) := by
    have e0 := (J9i (J2n x0) (J4o x0.Page))
    exact e0
  try simp only [Nf] at f1
  obtain rfl := sj h
  try simp only [↓Da, Ua, J3J, J3, J0, J2, J4, Jbu, *, ↓reduceIte, Nat.reduceEqDiff, Nat.reduceAdd, Nat.reduceLT, Nat.reduceMul]
  rfl
theorem JbJ {x0 : T_api_Frame} {b0 : Int} {o : Bool} (h : J3H x0 b0 = some o) : AF (J5 p) J0o [.data (J1 x0), .ptr 0 0] [.box [.p (.i .i64 b0)]] = (J7r b0) o :=
  (J2d (J5 p) (JbM p) rfl).trans (J8y p h)
def Jv (b0 : Int) (r : Int) : Option Res := some (.p (.i .i64 r), [.box [.p (.i .i64 b0)]])
def J2o (x0 : List T_api_Frame) (x7 : Int) (b0 : Int) (o : (Int) ⊕ (Int)) : Option Res := match o with
  | .inl s => rk (J5 p) Jm 1 [.bl 0, .sq (.keep [] JB)] (X (J5 p) (.lp 1 [0, 1, 7, 8] Jr) ⟨[(0, .p (.sl 37 (List.map J1 x0))), (1, .fn J0o [] [.ptr 0 0]), (7, .p (.i .i64 x7)), (8, .p (.i .i64 s))], [.box [.p (.i .i64 b0)]]⟩)
  | .inr o => (Jv b0) o
def JO (b0 : Int) : Option (Int) :=
  some (-1)
theorem J2i {b0 : Int} {o : Int} (h : JO b0 = some o) :
    rk (J5 p) Jm 1 [] (X (J5 p) JB ⟨[], [.box [.p (.i .i64 b0)]]⟩) = (Jv b0) o := by
  unfold JO at h
  obtain rfl := sj h
  try simp only [↓Da, Ua, JB, J23, ↓reduceIte, Nat.reduceEqDiff, Nat.reduceAdd, Nat.reduceLT, Nat.reduceMul]
  rfl
def Jt (x0 : List T_api_Frame) (x7 : Int) (b0 : Int) (x8 : Int) : Option (((Int) ⊕ (Int))) :=
  if (decide (x8 < x7)) then
    Option.bind (idx x0 x8) fun y2 =>
    Option.bind (J3H y2 b0) fun r5 =>
    if r5 then
      some (.inr x8)
    else
      some (.inl (IntKind.wrap .i64 (x8 + 1)))
  else
    Option.map (fun o => .inr o) (JO b0)
theorem J0P {x0 : List T_api_Frame} {x7 : Int} {b0 : Int} {x8 : Int} {o : ((Int) ⊕ (Int))} (h : Jt x0 x7 b0 x8 = some o) :
    rk (J5 p) Jm 1 [.lo 1 [0, 1, 7, 8] Jr, .bl 0, .sq (.keep [] JB)] (X (J5 p) Jr ⟨[(0, .p (.sl 37 (List.map J1 x0))), (1, .fn J0o [] [.ptr 0 0]), (7, .p (.i .i64 x7)), (8, .p (.i .i64 x8))], [.box [.p (.i .i64 b0)]]⟩) = (J2o p x0 x7 b0) o := by
  unfold Jt at h
  rcases Jk h with ⟨h1, h⟩ | ⟨h1, h⟩
  · obtain ⟨y2, h3, h⟩ := bi h
    have f4 := J5k (r := J1) h3
    try simp only [Nf] at f4
    obtain ⟨r5, h6, h⟩ := bi h
    have f7 : ∀ ws new s, J4a ws s [0] [[.p (.i .i64 b0)]] → (Jx (AF (J5 p)) J0o ([.data (J1 y2), .ptr 0 0], ws) 0 new).run s = some ⟨.p (.b r5), ws ++ [(0, .box ([.p (.i .i64 b0)]))]⟩ := J7i (args' := [.data (J1 y2), .ptr 0 0]) (bs := [0]) (css := [[.p (.i .i64 b0)]]) (css' := [[.p (.i .i64 b0)]]) rfl rfl rfl (by simp [J1V, J2a]) (JbJ p h6) rfl rfl (by simp [J1V, J2a])
    try simp only [Nf] at f7
    try simp only [↓Da, Ua, Jr, J3, J0, J2, J4, *, ↓reduceIte, Nat.reduceEqDiff, Nat.reduceAdd, Nat.reduceLT, Nat.reduceMul]
    rcases Jk h with ⟨h8, h⟩ | ⟨h8, h⟩
    · obtain rfl := sj h
      try simp only [↓Da, Ua, Jr, J3, J0, J2, J4, J23, *, ↓reduceIte, Nat.reduceEqDiff, Nat.reduceAdd, Nat.reduceLT, Nat.reduceMul]
      rfl
    · obtain rfl := sj h
      try simp only [↓Da, Ua, Jr, J3, J0, J2, J4, *, ↓reduceIte, Nat.reduceEqDiff, Nat.reduceAdd, Nat.reduceLT, Nat.reduceMul]
      rfl
  · obtain ⟨o', h', rfl⟩ := mi h
    try simp only [↓Da, Ua, Jr, J3, J0, J2, J4, *, ↓reduceIte, Nat.reduceEqDiff, Nat.reduceAdd, Nat.reduceLT, Nat.reduceMul]
    have e0 := J2i p h'
    exact e0
def J0Q (x0 : List T_api_Frame) (x7 : Int) (b0 : Int) (s : Int) : Option (Int) :=
  J07 (fun s => Jt x0 x7 b0 s) s
theorem J27 {x0 : List T_api_Frame} {x7 : Int} {b0 : Int} {s : Int} {o : Int} (h : J0Q x0 x7 b0 s = some o) :
    rk (J5 p) Jm 1 [.bl 0, .sq (.keep [] JB)] (X (J5 p) (.lp 1 [0, 1, 7, 8] Jr) ⟨[(0, .p (.sl 37 (List.map J1 x0))), (1, .fn J0o [] [.ptr 0 0]), (7, .p (.i .i64 x7)), (8, .p (.i .i64 s))], [.box [.p (.i .i64 b0)]]⟩) = (Jv b0) o := by
  have h0 : J07 (fun s => Jt x0 x7 b0 s) s = some o := h
  exact J3s (P := fun (s : Int) (o : Int) => rk (J5 p) Jm 1 [.bl 0, .sq (.keep [] JB)] (X (J5 p) (.lp 1 [0, 1, 7, 8] Jr) ⟨[(0, .p (.sl 37 (List.map J1 x0))), (1, .fn J0o [] [.ptr 0 0]), (7, .p (.i .i64 x7)), (8, .p (.i .i64 s))], [.box [.p (.i .i64 b0)]]⟩) = (Jv b0) o) (fun s r hs => by rw [J32]; exact J0P p hs) (fun s s1 r hs ih => by rw [J32]; exact (J0P p hs).trans ih) h0
def JD (x0 : List T_api_Frame) (b0 : Int) : Option (Int) :=
  J0Q x0 ((List.length x0 : Nat) : Int) b0 0
theorem J28 {x0 : List T_api_Frame} {b0 : Int} {o : Int} (h : JD x0 b0 = some o) :
    rk (J5 p) Jm 1 [] (X (J5 p) J0a ⟨[(0, .p (.sl 37 (List.map J1 x0))), (1, .fn J0o [] [.ptr 0 0])], [.box [.p (.i .i64 b0)]]⟩) = (Jv b0) o := by
  unfold JD at h
  try simp only [↓Da, Ua, J0a, J3, J0, J2, J4, ↓reduceIte, Nat.reduceEqDiff, Nat.reduceAdd, Nat.reduceLT, Nat.reduceMul]
  have e0 := J27 p h
  exact e0
theorem J2w {x0 : List T_api_Frame} {b0 : Int} {o : Int} (h : JD x0 b0 = some o) : AF (J5 p) JQ [.p (.sl 37 (List.map J1 x0)), .fn J0o [] [.ptr 0 0]] [.box [.p (.i .i64 b0)]] = (Jv b0) o :=
  (J2d (J5 p) (J4k p) rfl).trans (J28 p h)
def J9N  (r : Int) : Option Res := some (.p (.i .i64 r), [])
def J1r (x0 : T_api_Pool) (x1 : Int) : Option (Int) :=
  Option.bind (JD x0.Frames x1) fun r1 =>
  some r1
theorem JaL {x0 : T_api_Pool} {x1 : Int} {o : Int} (h : J1r x0 x1 = some o) :
    rk (J5 p) J4b 0 [] (X (J5 p) J52 ⟨[(0, .data (J6 x0)), (1, .p (.i .i64 x1))], []⟩) = J9N o := by
  unfold J1r at h
  obtain ⟨r1, h2, h⟩ := bi h
  have f3 : ∀ ws new s, J4a ws s [1] [[.p (.i .i64 x1)]] → (Jx (AF (J5 p)) JQ ([.p (.sl 37 (List.map J1 x0.Frames)), .fn J0o [] [.ptr 1 0]], ws) 0 new).run s = some ⟨.p (.i .i64 r1), ws ++ [(1, .box ([.p (.i .i64 x1)]))]⟩ := J7i (args' := [.p (.sl 37 (List.map J1 x0.Frames)), .fn J0o [] [.ptr 0 0]]) (bs := [1]) (css := [[.p (.i .i64 x1)]]) (css' := [[.p (.i .i64 x1)]]) rfl rfl rfl (by simp [J1V, J2a]) (J2w p h2) rfl rfl (by simp [J1V, J2a])
  try simp only [Nf] at f3
  obtain rfl := sj h
  try simp only [↓Da, Ua, J52, J3, J0, J2, Ja, J4, JeF, *, ↓reduceIte, Nat.reduceEqDiff, Nat.reduceAdd, Nat.reduceLT, Nat.reduceMul]
  rfl
theorem Jew {x0 : T_api_Pool} {x1 : Int} {o : Int} (h : J1r x0 x1 = some o) : AF (J5 p) J2g [.data (J6 x0), .p (.i .i64 x1)] [] = J9N o :=
  (J2d (J5 p) (Jey p) rfl).trans (JaL p h)
theorem J5U {x0 : T_api_Pool} {x1 : Int} {o : Int} (h : J1r x0 x1 = some o) : ∀ ws new st, (Jx (AF (J5 p)) J2g ([.data (J6 x0), .p (.i .i64 x1)], ws) 0 new).run st = some ⟨.p (.i .i64 o), ws⟩ := JZ rfl (Jew p h) rfl
def J2O  (r : (List T_api_Frame)) : Option Res := some (.p (.slc 37 (List.map J1 r)), [])
def JS (x0 : List T_api_Frame) : Option ((List T_api_Frame)) :=
  some x0
theorem J4q {x0 : List T_api_Frame} {o : (List T_api_Frame)} (h : JS x0 = some o) :
    rk (J5 p) J08 0 [] (X (J5 p) J0s ⟨[(0, .p (.sl 37 (List.map J1 x0)))], []⟩) = J2O o := by
  unfold JS at h
  have f1 : ∀ env sto, (slR (.sl 37) (.p (.sl 37 (List.map J1 x0))) none (some (.p (.i .i64 ((List.length x0 : Nat) : Int)))) (some (.p (.i .i64 ((List.length x0 : Nat) : Int))))).run ⟨env, sto⟩ = some ⟨.p (.slc 37 (List.map J1 x0)), []⟩ := fun env sto => Jkj J1 _ env sto
  try simp only [Nf] at f1
  obtain rfl := sj h
  try simp only [↓Da, Ua, J0s, J3, J0, J2, J4, J54, *, ↓reduceIte, Nat.reduceEqDiff, Nat.reduceAdd, Nat.reduceLT, Nat.reduceMul]
  rfl
theorem J57 {x0 : List T_api_Frame} {o : (List T_api_Frame)} (h : JS x0 = some o) : AF (J5 p) JR [.p (.sl 37 (List.map J1 x0))] [] = J2O o :=
  (J2d (J5 p) (J56 p) rfl).trans (J4q p h)
theorem J51 {x0 : List T_api_Frame} {o : (List T_api_Frame)} (h : JS x0 = some o) : ∀ ws new st, (Jx (AF (J5 p)) JR ([.p (.sl 37 (List.map J1 x0))], ws) 0 new).run st = some ⟨.p (.slc 37 (List.map J1 o)), ws⟩ := JZ rfl (J57 p h) rfl
def J02 (x0 : List T_api_Frame) : Option (List T_api_Frame) := if (2 * x0.length + 512) * 424 ≤ 281474976710656 then some x0 else none
theorem J2D {x0 : List T_api_Frame} {o : List T_api_Frame} (h : J02 x0 = some o) : AF (J5 p) JG [.p (.sl 37 (List.map J1 x0))] [] = some (.slr 0 0 o.length, [.arr true 37 (List.map J1 o)]) := by
  unfold J02 at h
  split at h
  · rename_i h2
    injection h with h; subst h
    rw [Jjq _ (J4Y p)]
    cases x0 with
    | nil => simp [J0q, J6i, J7Y, J5y.af]
    | cons a r =>
      simp at h2
      simp [J0q, J6i, J7Y, J5y.af, h2]
  · cases h
def J0E (x0 : List T_api_Frame) (x1 x2 : Int) : Option (List T_api_Frame) := Ja0 x0 x1 x2
theorem J4J {x0 : List T_api_Frame} {x1 x2 : Int} {o : List T_api_Frame} (h : J0E x0 x1 x2 = some o) : AF (J5 p) J0l [.slr 0 0 (List.length x0), .p (.i .i64 x1), .p (.i .i64 x2)] [.arr true 37 (List.map J1 x0)] = some (.p (.sl 37 (List.map J1 o)), [.arr false 37 (List.map J1 (o ++ List.replicate (List.length x0 - List.length o) (⟨(⟨0, 0, (Vector.replicate 16 (⟨false, []⟩ : Jc))⟩ : J8), false, 0, false⟩ : T_api_Frame)))]) := by
  rw [JbZ (J4L p)]
  exact JjF J1 (⟨(⟨0, 0, (Vector.replicate 16 (⟨false, []⟩ : Jc))⟩ : J8), false, 0, false⟩ : T_api_Frame) h
def J1B  (r : (Vector Int 16)) : Option Res := some (.data ((JH (r_i .u32)) r), [])
def J1h (b0 : Vector Int 16) (o : (Int × (Vector Int 16)) ⊕ ((Vector Int 16))) : Option Res := match o with
  | .inl s => rk (J5 p) JA 0 [.bl 0, .sq (.keep [0, 1] JN)] (X (J5 p) (.lp 2 [0, 1, 4] JI) ⟨[(0, .ptr 0 0), (1, .ptr 1 0), (4, .p (.i .i64 s.1))], [.box (List.map AV.p ((JH (r_i .u32)) b0)), .box (List.map AV.p ((JH (r_i .u32)) s.2))]⟩)
  | .inr o => J1B o
def J7M (x2 : Int) (x4 : Int) (b0 : Vector Int 16) (b1 : Vector Int 16) (o : (Int × Int) ⊕ (((Int × (Vector Int 16)) ⊕ ((Vector Int 16))))) : Option Res := match o with
  | .inl s => rk (J5 p) JA 0 [.bl 2, .sq (.keep [0, 1, 2, 3, 4] J0T), .bl 1, .sq (.keep [0, 1, 4] J0y), .lo 2 [0, 1, 4] JI, .bl 0, .sq (.keep [0, 1] JN)] (X (J5 p) (.lp 2 [0, 1, 2, 3, 4, 9] J0f) ⟨[(0, .ptr 0 0), (1, .ptr 1 0), (2, .p (.i .i64 x2)), (3, .p (.i .u32 s.1)), (4, .p (.i .i64 x4)), (9, .p (.i .i64 s.2))], [.box (List.map AV.p ((JH (r_i .u32)) b0)), .box (List.map AV.p ((JH (r_i .u32)) b1))]⟩)
  | .inr o => (J1h p b0) o
def J1J (x4 : Int) (b0 : Vector Int 16) (b1 : Vector Int 16) : Option (((Int × (Vector Int 16)) ⊕ ((Vector Int 16)))) :=
  some (.inl ((IntKind.wrap .i64 (x4 + 1)), b1))
theorem J8a {x4 : Int} {b0 : Vector Int 16} {b1 : Vector Int 16} {o : ((Int × (Vector Int 16)) ⊕ ((Vector Int 16)))} (h : J1J x4 b0 b1 = some o) :
    rk (J5 p) JA 0 [.lo 2 [0, 1, 4] JI, .bl 0, .sq (.keep [0, 1] JN)] (X (J5 p) J0y ⟨[(0, .ptr 0 0), (1, .ptr 1 0), (4, .p (.i .i64 x4))], [.box (List.map AV.p ((JH (r_i .u32)) b0)), .box (List.map AV.p ((JH (r_i .u32)) b1))]⟩) = (J1h p b0) o := by
  unfold J1J at h
  obtain rfl := sj h
  try simp only [↓Da, Ua, J0y, ↓reduceIte, Nat.reduceEqDiff, Nat.reduceAdd, Nat.reduceLT, Nat.reduceMul]
  rfl
def J1T (x2 : Int) (x3 : Int) (x4 : Int) (b0 : Vector Int 16) (b1 : Vector Int 16) : Option (((Int × (Vector Int 16)) ⊕ ((Vector Int 16)))) :=
  Option.bind (inb 16 x2) fun u1 =>
  Option.bind (J6b b1 x2) fun y4 =>
  J1J x4 b0 (JbY b1 x2 x3)
theorem J7P {x2 : Int} {x3 : Int} {x4 : Int} {b0 : Vector Int 16} {b1 : Vector Int 16} {o : ((Int × (Vector Int 16)) ⊕ ((Vector Int 16)))} (h : J1T x2 x3 x4 b0 b1 = some o) :
    rk (J5 p) JA 0 [.bl 1, .sq (.keep [0, 1, 4] J0y), .lo 2 [0, 1, 4] JI, .bl 0, .sq (.keep [0, 1] JN)] (X (J5 p) J0T ⟨[(0, .ptr 0 0), (1, .ptr 1 0), (2, .p (.i .i64 x2)), (3, .p (.i .u32 x3)), (4, .p (.i .i64 x4))], [.box (List.map AV.p ((JH (r_i .u32)) b0)), .box (List.map AV.p ((JH (r_i .u32)) b1))]⟩) = (J1h p b0) o := by
  unfold J1T at h
  obtain ⟨u1, h2, h⟩ := bi h
  have f3 : (0 ≤ (x2 : Int) ∧ (x2 : Int) < ((16 : Nat) : Int)) = True := eq_true (Jbl h2)
  obtain ⟨y4, h5, h⟩ := bi h
  have f6 : spl ((JH (r_i .u32)) b1) (Int.toNat x2 * 1) ((r_i .u32) x3) = some ((JH (r_i .u32)) (JbY b1 x2 x3)) := by
    have e0 := (Jkw (v := b1) (J5P .u32) (Jj2 h5) x3)
    exact e0
  try simp only [Nf] at f6
  try simp only [↓Da, Ua, J0T, *, ↓reduceIte, Nat.reduceEqDiff, Nat.reduceAdd, Nat.reduceLT, Nat.reduceMul]
  have e0 := J8a p h
  exact e0
def J00 (x2 : Int) (x4 : Int) (b0 : Vector Int 16) (b1 : Vector Int 16) (x3 : Int) (x9 : Int) : Option (((Int × Int) ⊕ (((Int × (Vector Int 16)) ⊕ ((Vector Int 16)))))) :=
  if (decide (x9 < 4)) then
    if (((J2J .u32 x3 1) : Int) == 1) then
      Option.bind (J7h .u32 x3 1) fun q3 =>
      some (.inl ((J3L .u32 q3 2197175160), (IntKind.wrap .i64 (x9 + 1))))
    else
      Option.bind (J7h .u32 x3 1) fun q5 =>
      some (.inl (q5, (IntKind.wrap .i64 (x9 + 1))))
  else
    Option.map (fun o => .inr o) (J1T x2 x3 x4 b0 b1)
theorem J5z {x2 : Int} {x4 : Int} {b0 : Vector Int 16} {b1 : Vector Int 16} {x3 : Int} {x9 : Int} {o : ((Int × Int) ⊕ (((Int × (Vector Int 16)) ⊕ ((Vector Int 16)))))} (h : J00 x2 x4 b0 b1 x3 x9 = some o) :
    rk (J5 p) JA 0 [.lo 2 [0, 1, 2, 3, 4, 9] J0f, .bl 2, .sq (.keep [0, 1, 2, 3, 4] J0T), .bl 1, .sq (.keep [0, 1, 4] J0y), .lo 2 [0, 1, 4] JI, .bl 0, .sq (.keep [0, 1] JN)] (X (J5 p) J0f ⟨[(0, .ptr 0 0), (1, .ptr 1 0), (2, .p (.i .i64 x2)), (3, .p (.i .u32 x3)), (4, .p (.i .i64 x4)), (9, .p (.i .i64 x9))], [.box (List.map AV.p ((JH (r_i .u32)) b0)), .box (List.map AV.p ((JH (r_i .u32)) b1))]⟩) = (J7M p x2 x4 b0 b1) o := by
  unfold J00 at h
  rcases Jk h with ⟨h1, h⟩ | ⟨h1, h⟩
  · try simp only [↓Da, Ua, J0f, *, ↓reduceIte, Nat.reduceEqDiff, Nat.reduceAdd, Nat.reduceLT, Nat.reduceMul]
    rcases Jk h with ⟨h2, h⟩ | ⟨h2, h⟩
    · have h2n : (((J2J .u32 x3 1) : Int) != 1) = false := by rw [bne, h2]; rfl
      obtain ⟨q3, h4, h⟩ := bi h
      obtain rfl := sj h
      try simp only [↓Da, Ua, J0f, *, ↓reduceIte, Nat.reduceEqDiff, Nat.reduceAdd, Nat.reduceLT, Nat.reduceMul]
      rfl
    · have h2n : (((J2J .u32 x3 1) : Int) != 1) = true := by rw [bne, h2]; rfl
      obtain ⟨q5, h6, h⟩ := bi h
      obtain rfl := sj h
      try simp only [↓Da, Ua, J0f, *, ↓reduceIte, Nat.reduceEqDiff, Nat.reduceAdd, Nat.reduceLT, Nat.reduceMul]
      rfl
  · obtain ⟨o', h', rfl⟩ := mi h
    try simp only [↓Da, Ua, J0f, *, ↓reduceIte, Nat.reduceEqDiff, Nat.reduceAdd, Nat.reduceLT, Nat.reduceMul]
    have e0 := J7P p h'
    exact e0
def J44 (x2 : Int) (x4 : Int) (b0 : Vector Int 16) (b1 : Vector Int 16) (s : Int × Int) : Option (((Int × (Vector Int 16)) ⊕ ((Vector Int 16)))) :=
  J07 (fun s => J00 x2 x4 b0 b1 s.1 s.2) s
theorem J7c {x2 : Int} {x4 : Int} {b0 : Vector Int 16} {b1 : Vector Int 16} {s : Int × Int} {o : ((Int × (Vector Int 16)) ⊕ ((Vector Int 16)))} (h : J44 x2 x4 b0 b1 s = some o) :
    rk (J5 p) JA 0 [.bl 2, .sq (.keep [0, 1, 2, 3, 4] J0T), .bl 1, .sq (.keep [0, 1, 4] J0y), .lo 2 [0, 1, 4] JI, .bl 0, .sq (.keep [0, 1] JN)] (X (J5 p) (.lp 2 [0, 1, 2, 3, 4, 9] J0f) ⟨[(0, .ptr 0 0), (1, .ptr 1 0), (2, .p (.i .i64 x2)), (3, .p (.i .u32 s.1)), (4, .p (.i .i64 x4)), (9, .p (.i .i64 s.2))], [.box (List.map AV.p ((JH (r_i .u32)) b0)), .box (List.map AV.p ((JH (r_i .u32)) b1))]⟩) = (J1h p b0) o := by
  have h0 : J07 (fun s => J00 x2 x4 b0 b1 s.1 s.2) s = some o := h
  exact J3s (P := fun (s : Int × Int) (o : ((Int × (Vector Int 16)) ⊕ ((Vector Int 16)))) => rk (J5 p) JA 0 [.bl 2, .sq (.keep [0, 1, 2, 3, 4] J0T), .bl 1, .sq (.keep [0, 1, 4] J0y), .lo 2 [0, 1, 4] JI, .bl 0, .sq (.keep [0, 1] JN)] (X (J5 p) (.lp 2 [0, 1, 2, 3, 4, 9] J0f) ⟨[(0, .ptr 0 0), (1, .ptr 1 0), (2, .p (.i .i64 x2)), (3, .p (.i .u32 s.1)), (4, .p (.i .i64 x4)), (9, .p (.i .i64 s.2))], [.box (List.map AV.p ((JH (r_i .u32)) b0)), .box (List.map AV.p ((JH (r_i .u32)) b1))]⟩) = (J1h p b0) o) (fun s r hs => by rw [J32]; exact J5z p hs) (fun s s1 r hs ih => by rw [J32]; exact (J5z p hs).trans ih) h0
def J1R (b0 : Vector Int 16) (b1 : Vector Int 16) : Option ((Vector Int 16)) :=
  some b1
theorem J7N {b0 : Vector Int 16} {b1 : Vector Int 16} {o : (Vector Int 16)} (h : J1R b0 b1 = some o) :
    rk (J5 p) JA 0 [] (X (J5 p) JN ⟨[(0, .ptr 0 0), (1, .ptr 1 0)], [.box (List.map AV.p ((JH (r_i .u32)) b0)), .box (List.map AV.p ((JH (r_i .u32)) b1))]⟩) = J1B o := by
  unfold J1R at h
  obtain rfl := sj h
  try simp only [↓Da, Ua, JN, J3l, J8L, ↓reduceIte, Nat.reduceEqDiff, Nat.reduceAdd, Nat.reduceLT, Nat.reduceMul]
  rfl
def J0h (b0 : Vector Int 16) (x4 : Int) (b1 : Vector Int 16) : Option (((Int × (Vector Int 16)) ⊕ ((Vector Int 16)))) :=
  if (decide (x4 < 16)) then
    J44 x4 x4 b0 b1 ((IntKind.wrap .u32 x4), 0)
  else
    Option.map (fun o => .inr o) (J1R b0 b1)
theorem J5s {b0 : Vector Int 16} {x4 : Int} {b1 : Vector Int 16} {o : ((Int × (Vector Int 16)) ⊕ ((Vector Int 16)))} (h : J0h b0 x4 b1 = some o) :
    rk (J5 p) JA 0 [.lo 2 [0, 1, 4] JI, .bl 0, .sq (.keep [0, 1] JN)] (X (J5 p) JI ⟨[(0, .ptr 0 0), (1, .ptr 1 0), (4, .p (.i .i64 x4))], [.box (List.map AV.p ((JH (r_i .u32)) b0)), .box (List.map AV.p ((JH (r_i .u32)) b1))]⟩) = (J1h p b0) o := by
  unfold J0h at h
  rcases Jk h with ⟨h1, h⟩ | ⟨h1, h⟩
  · try simp only [↓Da, Ua, JI, *, ↓reduceIte, Nat.reduceEqDiff, Nat.reduceAdd, Nat.reduceLT, Nat.reduceMul]
    have e0 := J7c p h
    exact e0
  · obtain ⟨o', h', rfl⟩ := mi h
    try simp only [↓Da, Ua, JI, *, ↓reduceIte, Nat.reduceEqDiff, Nat.reduceAdd, Nat.reduceLT, Nat.reduceMul]
    have e0 := J7N p h'
    exact e0
def J5A (b0 : Vector Int 16) (s : Int × (Vector Int 16)) : Option ((Vector Int 16)) :=
  J07 (fun s => J0h b0 s.1 s.2) s
theorem J7b {b0 : Vector Int 16} {s : Int × (Vector Int 16)} {o : (Vector Int 16)} (h : J5A b0 s = some o) :
    rk (J5 p) JA 0 [.bl 0, .sq (.keep [0, 1] JN)] (X (J5 p) (.lp 2 [0, 1, 4] JI) ⟨[(0, .ptr 0 0), (1, .ptr 1 0), (4, .p (.i .i64 s.1))], [.box (List.map AV.p ((JH (r_i .u32)) b0)), .box (List.map AV.p ((JH (r_i .u32)) s.2))]⟩) = J1B o := by
  have h0 : J07 (fun s => J0h b0 s.1 s.2) s = some o := h
  exact J3s (P := fun (s : Int × (Vector Int 16)) (o : (Vector Int 16)) => rk (J5 p) JA 0 [.bl 0, .sq (.keep [0, 1] JN)] (X (J5 p) (.lp 2 [0, 1, 4] JI) ⟨[(0, .ptr 0 0), (1, .ptr 1 0), (4, .p (.i .i64 s.1))], [.box (List.map AV.p ((JH (r_i .u32)) b0)), .box (List.map AV.p ((JH (r_i .u32)) s.2))]⟩) = J1B o) (fun s r hs => by rw [J32]; exact J5s p hs) (fun s s1 r hs ih => by rw [J32]; exact (J5s p hs).trans ih) h0
def J19  : Option ((Vector Int 16)) :=
  J5A (Vector.replicate 16 0) (0, (Vector.replicate 16 0))
theorem J7f  {o : (Vector Int 16)} (h : J19 = some o) :
    rk (J5 p) JA 0 [] (X (J5 p) J2h ⟨[], []⟩) = J1B o := by
  unfold J19 at h
  try simp only [↓Da, Ua, J2h, J3l, ↓reduceIte, Nat.reduceEqDiff, Nat.reduceAdd, Nat.reduceLT, Nat.reduceMul]
  have e0 := J7b p h
  exact e0
theorem J8X  {o : (Vector Int 16)} (h : J19 = some o) : AF (J5 p) J1C [] [] = J1B o :=
  (J2d (J5 p) (J8W p) rfl).trans (J7f p h)
theorem J9b  {o : (Vector Int 16)} (h : J19 = some o) : ∀ ws new st, (Jx (AF (J5 p)) J1C ([], ws) 0 new).run st = some ⟨.data ((JH (r_i .u32)) o), ws⟩ := JZ rfl (J8X p h) rfl
def J8k  (r : Bool) : Option Res := some (.p (.b r), [])
def J1f (x0 : J8) : Option (Bool) :=
  Option.bind (J2X x0.ID) fun r1 =>
  if r1 then
    if (decide (x0.LSN ≥ 0)) then
      some (decide (x0.LSN ≤ 1099511627776))
    else
      some false
  else
    some false
theorem J9C {x0 : J8} {o : Bool} (h : J1f x0 = some o) :
    rk (J5 p) J36 0 [] (X (J5 p) J1w ⟨[(0, .data (J9 x0))], []⟩) = J8k o := by
  unfold J1f at h
  obtain ⟨r1, h2, h⟩ := bi h
  have f3 := Jd5 p h2
  try simp only [Nf] at f3
  try simp only [↓Da, Ua, J1w, J3, J0, J2, *, ↓reduceIte, Nat.reduceEqDiff, Nat.reduceAdd, Nat.reduceLT, Nat.reduceMul]
  rcases Jk h with ⟨h4, h⟩ | ⟨h4, h⟩
  · try simp only [↓Da, Ua, J1w, J3, J0, J2, *, ↓reduceIte, Nat.reduceEqDiff, Nat.reduceAdd, Nat.reduceLT, Nat.reduceMul]
    rcases Jk h with ⟨h5, h⟩ | ⟨h5, h⟩
    · obtain rfl := sj h
      try simp only [↓Da, Ua, J1w, J3, J0, J2, J6d, *, ↓reduceIte, Nat.reduceEqDiff, Nat.reduceAdd, Nat.reduceLT, Nat.reduceMul]
      rfl
    · obtain rfl := sj h
      try simp only [↓Da, Ua, J1w, J3, J0, J2, J6d, *, ↓reduceIte, Nat.reduceEqDiff, Nat.reduceAdd, Nat.reduceLT, Nat.reduceMul]
      rfl
  · obtain rfl := sj h
    try simp only [↓Da, Ua, J1w, J3, J0, J2, J6d, *, ↓reduceIte, Nat.reduceEqDiff, Nat.reduceAdd, Nat.reduceLT, Nat.reduceMul]
    rfl
theorem JcP {x0 : J8} {o : Bool} (h : J1f x0 = some o) : AF (J5 p) J2y [.data (J9 x0)] [] = J8k o :=
  (J2d (J5 p) (JcE p) rfl).trans (J9C p h)
theorem J8l {x0 : J8} {o : Bool} (h : J1f x0 = some o) : ∀ ws new st, (Jx (AF (J5 p)) J2y ([.data (J9 x0)], ws) 0 new).run st = some ⟨.p (.b o), ws⟩ := JZ rfl (JcP p h) rfl
def J4i  (r : T_page_builder) : Option Res := some (.tup [], [.box (List.map AV.p (J0c r))])
def J15 (x4 : Int) (b0 : T_page_builder) (b1 : Jc) : Option (T_page_builder) :=
  Option.bind (J2P b0.s_ x4 1) fun r1 =>
  Option.bind (J7a r1 b1.Data) fun s5 =>
  Option.bind (J25 ([0]) (IntKind.wrap .i64 (12 - ((List.length b1.Data : Nat) : Int)))) fun r7 =>
  Option.bind (J7a s5 r7) fun s11 =>
  some (⟨s11⟩ : T_page_builder)
theorem J5o {x4 : Int} {b0 : T_page_builder} {b1 : Jc} {o : T_page_builder} (h : J15 x4 b0 b1 = some o) :
    rk (J5 p) J11 1 [] (X (J5 p) J3N ⟨[(0, .ptr 0 0), (3, .ptr 1 0), (4, .p (.i .i64 x4))], [.box (List.map AV.p (J0c b0)), .box (List.map AV.p (Jd b1))]⟩) = J4i o := by
  unfold J15 at h
  obtain ⟨r1, h2, h⟩ := bi h
  have f3 := J58 p h2
  try simp only [Nf, Jo] at f3
  have f4 : ∀ ws k new s, Jb ((Jx (AF (J5 p)) J0M ([.p (.s b0.s_), .p (.i .i64 x4), .p (.i .i64 1)], ws) k new).reads s) = [] := J0z rfl
  try simp only [Nf, Jo] at f4
  obtain ⟨s5, h6, h⟩ := bi h
  obtain ⟨r7, h8, h⟩ := bi h
  have f9 := J6C p h8
  try simp only [Nf, Jo] at f9
  have f10 : ∀ ws k new s, Jb ((Jx (AF (J5 p)) J16 ([.p (.s [0]), .p (.i .i64 (IntKind.wrap .i64 (12 - ((List.length b1.Data : Nat) : Int))))], ws) k new).reads s) = [] := J0z rfl
  try simp only [Nf, Jo] at f10
  obtain ⟨s11, h12, h⟩ := bi h
  obtain rfl := sj h
  try simp only [↓Da, Ua, Ra, J3N, J3, Jo, J8m, *, ↓reduceIte, Nat.reduceEqDiff, Nat.reduceAdd, Nat.reduceLT, Nat.reduceMul, Nat.reduceBEq]
  rfl
def J1o (b0 : T_page_builder) (x1 : Jc) : Option (T_page_builder) :=
  if x1.Set then
    J15 ((List.length x1.Data : Nat) : Int) b0 x1
  else
    J15 255 b0 x1
theorem J6R {b0 : T_page_builder} {x1 : Jc} {o : T_page_builder} (h : J1o b0 x1 = some o) :
    rk (J5 p) J11 1 [] (X (J5 p) J1q ⟨[(0, .ptr 0 0), (1, .data (Jd x1))], [.box (List.map AV.p (J0c b0))]⟩) = J4i o := by
  unfold J1o at h
  rcases Jk h with ⟨h1, h⟩ | ⟨h1, h⟩
  · try simp only [↓Da, Ua, J1q, J3, Jo, *, ↓reduceIte, Nat.reduceEqDiff, Nat.reduceAdd, Nat.reduceLT, Nat.reduceMul]
    have e0 := J5o p h
    exact e0
  · try simp only [↓Da, Ua, J1q, J3, Jo, *, ↓reduceIte, Nat.reduceEqDiff, Nat.reduceAdd, Nat.reduceLT, Nat.reduceMul]
    have e0 := J5o p h
    exact e0
theorem J8p {b0 : T_page_builder} {x1 : Jc} {o : T_page_builder} (h : J1o b0 x1 = some o) : AF (J5 p) J0p [.ptr 0 0, .data (Jd x1)] [.box (List.map AV.p (J0c b0))] = J4i o :=
  (J2d (J5 p) (J8n p) rfl).trans (J6R p h)
def J4d  (r : Int) : Option Res := some (.p (.i .u32 r), [])
def JcJ (x0 : List UInt8) (x8 : Int) (b0 : Vector Int 16) (o : (Int × Int) ⊕ (Int)) : Option Res := match o with
  | .inl s => rk (J5 p) J1v 0 [.bl 0, .sq (.keep [4] J2A)] (X (J5 p) (.lp 1 [0, 3, 4, 8, 9] J1X) ⟨[(0, .p (.s x0)), (3, .ptr 0 0), (4, .p (.i .u32 s.1)), (8, .p (.i .i64 x8)), (9, .p (.i .i64 s.2))], [.box (List.map AV.p ((JH (r_i .u32)) b0))]⟩)
  | .inr o => J4d o
def J49 (x4 : Int) : Option (Int) :=
  some (Jhl .u32 x4)
theorem JcL {x4 : Int} {B0 : List PV} {o : Int} (h : J49 x4 = some o) :
    rk (J5 p) J1v 0 [] (X (J5 p) J2A ⟨[(4, .p (.i .u32 x4))], [.box (List.map AV.p B0)]⟩) = J4d o := by
  unfold J49 at h
  obtain rfl := sj h
  try simp only [↓Da, Ua, J2A, Jem, ↓reduceIte, Nat.reduceEqDiff, Nat.reduceAdd, Nat.reduceLT, Nat.reduceMul]
  rfl
def J1e (x0 : List UInt8) (x8 : Int) (b0 : Vector Int 16) (x4 : Int) (x9 : Int) : Option (((Int × Int) ⊕ (Int))) :=
  if (decide (x9 < x8)) then
    Option.bind (JbA x0 x9) fun c2 =>
    Option.bind (J7h .u32 (J3L .u32 x4 (IntKind.wrap .u32 c2)) 4) fun q4 =>
    Option.bind (inb 16 (J2J .u32 (J3L .u32 x4 (IntKind.wrap .u32 c2)) 15)) fun u6 =>
    Option.bind (J6b b0 (J2J .u32 (J3L .u32 x4 (IntKind.wrap .u32 c2)) 15)) fun y9 =>
    Option.bind (J7h .u32 (J3L .u32 q4 y9) 4) fun q12 =>
    Option.bind (inb 16 (J2J .u32 (J3L .u32 q4 y9) 15)) fun u14 =>
    Option.bind (J6b b0 (J2J .u32 (J3L .u32 q4 y9) 15)) fun y17 =>
    some (.inl ((J3L .u32 q12 y17), (IntKind.wrap .i64 (x9 + 1))))
  else
    Option.map (fun o => .inr o) (J49 x4)
theorem J8f {x0 : List UInt8} {x8 : Int} {b0 : Vector Int 16} {x4 : Int} {x9 : Int} {o : ((Int × Int) ⊕ (Int))} (h : J1e x0 x8 b0 x4 x9 = some o) :
    rk (J5 p) J1v 0 [.lo 1 [0, 3, 4, 8, 9] J1X, .bl 0, .sq (.keep [4] J2A)] (X (J5 p) J1X ⟨[(0, .p (.s x0)), (3, .ptr 0 0), (4, .p (.i .u32 x4)), (8, .p (.i .i64 x8)), (9, .p (.i .i64 x9))], [.box (List.map AV.p ((JH (r_i .u32)) b0))]⟩) = (JcJ p x0 x8 b0) o := by
  unfold J1e at h
  rcases Jk h with ⟨h1, h⟩ | ⟨h1, h⟩
  · obtain ⟨c2, h3, h⟩ := bi h
    obtain ⟨q4, h5, h⟩ := bi h
    obtain ⟨u6, h7, h⟩ := bi h
    have f8 : (0 ≤ ((J2J .u32 (J3L .u32 x4 (IntKind.wrap .u32 c2)) 15) : Int) ∧ ((J2J .u32 (J3L .u32 x4 (IntKind.wrap .u32 c2)) 15) : Int) < ((16 : Nat) : Int)) = True := eq_true (Jbl h7)
    obtain ⟨y9, h10, h⟩ := bi h
    have f11 : sub ((JH (r_i .u32)) b0) (Int.toNat (J2J .u32 (J3L .u32 x4 (IntKind.wrap .u32 c2)) 15) * 1) 1 = some ((r_i .u32) y9) := by
      have e0 := (Jb5 (v := b0) (J5P .u32) (J5h h10).2)
      exact e0
    try simp only [Nf] at f11
    obtain ⟨q12, h13, h⟩ := bi h
    obtain ⟨u14, h15, h⟩ := bi h
    have f16 : (0 ≤ ((J2J .u32 (J3L .u32 q4 y9) 15) : Int) ∧ ((J2J .u32 (J3L .u32 q4 y9) 15) : Int) < ((16 : Nat) : Int)) = True := eq_true (Jbl h15)
    obtain ⟨y17, h18, h⟩ := bi h
    have f19 : sub ((JH (r_i .u32)) b0) (Int.toNat (J2J .u32 (J3L .u32 q4 y9) 15) * 1) 1 = some ((r_i .u32) y17) := by
      have e0 := (Jb5 (v := b0) (J5P .u32) (J5h h18).2)
      exact e0
    try simp only [Nf] at f19
    obtain rfl := sj h
    try simp only [↓Da, Ua, J1X, J3l, *, ↓reduceIte, Nat.reduceEqDiff, Nat.reduceAdd, Nat.reduceLT, Nat.reduceMul]
    rfl
  · obtain ⟨o', h', rfl⟩ := mi h
    try simp only [↓Da, Ua, J1X, J3l, *, ↓reduceIte, Nat.reduceEqDiff, Nat.reduceAdd, Nat.reduceLT, Nat.reduceMul]
    have e0 := JcL p (B0 := ((JH (r_i .u32)) b0)) h'
    exact e0
def J8h (x0 : List UInt8) (x8 : Int) (b0 : Vector Int 16) (s : Int × Int) : Option (Int) :=
  J07 (fun s => J1e x0 x8 b0 s.1 s.2) s
theorem JaE {x0 : List UInt8} {x8 : Int} {b0 : Vector Int 16} {s : Int × Int} {o : Int} (h : J8h x0 x8 b0 s = some o) :
    rk (J5 p) J1v 0 [.bl 0, .sq (.keep [4] J2A)] (X (J5 p) (.lp 1 [0, 3, 4, 8, 9] J1X) ⟨[(0, .p (.s x0)), (3, .ptr 0 0), (4, .p (.i .u32 s.1)), (8, .p (.i .i64 x8)), (9, .p (.i .i64 s.2))], [.box (List.map AV.p ((JH (r_i .u32)) b0))]⟩) = J4d o := by
  have h0 : J07 (fun s => J1e x0 x8 b0 s.1 s.2) s = some o := h
  exact J3s (P := fun (s : Int × Int) (o : Int) => rk (J5 p) J1v 0 [.bl 0, .sq (.keep [4] J2A)] (X (J5 p) (.lp 1 [0, 3, 4, 8, 9] J1X) ⟨[(0, .p (.s x0)), (3, .ptr 0 0), (4, .p (.i .u32 s.1)), (8, .p (.i .i64 x8)), (9, .p (.i .i64 s.2))], [.box (List.map AV.p ((JH (r_i .u32)) b0))]⟩) = J4d o) (fun s r hs => by rw [J32]; exact J8f p hs) (fun s s1 r hs ih => by rw [J32]; exact (J8f p hs).trans ih) h0
def J1t (x0 : List UInt8) : Option (Int) :=
  Option.bind (J19) fun r1 =>
  J8h x0 ((List.length x0 : Nat) : Int) r1 (4294967295, 0)
theorem JaO {x0 : List UInt8} {o : Int} (h : J1t x0 = some o) :
    rk (J5 p) J1v 0 [] (X (J5 p) J59 ⟨[(0, .p (.s x0))], []⟩) = J4d o := by
  unfold J1t at h
  obtain ⟨r1, h2, h⟩ := bi h
  have f3 := J9b p h2
  try simp only [Nf] at f3
  try simp only [↓Da, Ua, J59, J3l, *, ↓reduceIte, Nat.reduceEqDiff, Nat.reduceAdd, Nat.reduceLT, Nat.reduceMul]
  have e0 := JaE p h
  exact e0
theorem JeN {x0 : List UInt8} {o : Int} (h : J1t x0 = some o) : AF (J5 p) J3y [.p (.s x0)] [] = J4d o :=
  (J2d (J5 p) (JeG p) rfl).trans (JaO p h)
theorem JeK {x0 : List UInt8} {o : Int} (h : J1t x0 = some o) : ∀ ws new st, (Jx (AF (J5 p)) J3y ([.p (.s x0)], ws) 0 new).run st = some ⟨.p (.i .u32 o), ws⟩ := JZ rfl (JeN p h) rfl
def J3a  (r : (List UInt8) × Int) : Option Res := some (.tup [.p (.s r.1), .p (.i .i64 r.2)], [])
def JaM (x28 : Vector Jc 16) (b0 : J8) (o : (Int × T_page_builder) ⊕ ((List UInt8) × Int)) : Option Res := match o with
  | .inl s => rk (J5 p) J0X 0 [.bl 1, .td 2 [1, 2, 3, 4], .sq (.keep [1, 4] J1L)] (X (J5 p) (.lp 2 [1, 4, 5, 28, 29] J1n) ⟨[(1, .ptr 0 0), (4, .ptr 1 0), (5, .fn J0p [.ptr 1 0] []), (28, .data ((JH Jd) x28)), (29, .p (.i .i64 s.1))], [.box (List.map AV.p (J9 b0)), .box (List.map AV.p (J0c s.2))]⟩)
  | .inr o => J3a o
def J4m (b0 : J8) (b1 : T_page_builder) : Option ((List UInt8) × Int) :=
  Option.bind (J25 ([0]) (IntKind.wrap .i64 (244 - ((List.length b1.s_ : Nat) : Int)))) fun r1 =>
  Option.bind (J7a b1.s_ r1) fun s5 =>
  Option.bind (J1t s5) fun r7 =>
  Option.bind (J2P s5 (IntKind.wrap .i64 r7) 4) fun r11 =>
  Option.bind (J2P r11 b0.LSN 8) fun r15 =>
  some (r15, 0)
theorem JaF {b0 : J8} {b1 : T_page_builder} {o : (List UInt8) × Int} (h : J4m b0 b1 = some o) :
    rk (J5 p) J0X 0 [] (X (J5 p) J1L ⟨[(1, .ptr 0 0), (4, .ptr 1 0)], [.box (List.map AV.p (J9 b0)), .box (List.map AV.p (J0c b1))]⟩) = J3a o := by
  unfold J4m at h
  obtain ⟨r1, h2, h⟩ := bi h
  have f3 := J6C p h2
  try simp only [Nf, Jo] at f3
  have f4 : ∀ ws k new s, Jb ((Jx (AF (J5 p)) J16 ([.p (.s [0]), .p (.i .i64 (IntKind.wrap .i64 (244 - ((List.length b1.s_ : Nat) : Int))))], ws) k new).reads s) = [] := J0z rfl
  try simp only [Nf, Jo] at f4
  obtain ⟨s5, h6, h⟩ := bi h
  obtain ⟨r7, h8, h⟩ := bi h
  have f9 := JeK p h8
  try simp only [Nf, Jo] at f9
  have f10 : ∀ ws k new s, Jb ((Jx (AF (J5 p)) J3y ([.p (.s s5)], ws) k new).reads s) = [] := J0z rfl
  try simp only [Nf, Jo] at f10
  obtain ⟨r11, h12, h⟩ := bi h
  have f13 := J58 p h12
  try simp only [Nf, Jo] at f13
  have f14 : ∀ ws k new s, Jb ((Jx (AF (J5 p)) J0M ([.p (.s s5), .p (.i .i64 (IntKind.wrap .i64 r7)), .p (.i .i64 4)], ws) k new).reads s) = [] := J0z rfl
  try simp only [Nf, Jo] at f14
  obtain ⟨r15, h16, h⟩ := bi h
  have f17 := J58 p h16
  try simp only [Nf, Jo] at f17
  have f18 : ∀ ws k new s, Jb ((Jx (AF (J5 p)) J0M ([.p (.s r11), .p (.i .i64 b0.LSN), .p (.i .i64 8)], ws) k new).reads s) = [] := J0z rfl
  try simp only [Nf, Jo] at f18
  obtain rfl := sj h
  try simp only [↓Da, Ua, Ra, J1L, J3, J0, J2, Jo, J68, *, ↓reduceIte, Nat.reduceEqDiff, Nat.reduceAdd, Nat.reduceLT, Nat.reduceMul, Nat.reduceBEq]
  rfl
def J1U (x28 : Vector Jc 16) (b0 : J8) (x29 : Int) (b1 : T_page_builder) : Option (((Int × T_page_builder) ⊕ ((List UInt8) × Int))) :=
  if (decide (x29 < 16)) then
    Option.bind (J6b x28 x29) fun y2 =>
    Option.bind (J1o b1 y2) fun r6 =>
    some (.inl ((IntKind.wrap .i64 (x29 + 1)), r6))
  else
    Option.map (fun o => .inr o) (J4m b0 b1)
theorem J77 {x28 : Vector Jc 16} {b0 : J8} {x29 : Int} {b1 : T_page_builder} {o : ((Int × T_page_builder) ⊕ ((List UInt8) × Int))} (h : J1U x28 b0 x29 b1 = some o) :
    rk (J5 p) J0X 0 [.lo 2 [1, 4, 5, 28, 29] J1n, .bl 1, .td 2 [1, 2, 3, 4], .sq (.keep [1, 4] J1L)] (X (J5 p) J1n ⟨[(1, .ptr 0 0), (4, .ptr 1 0), (5, .fn J0p [.ptr 1 0] []), (28, .data ((JH Jd) x28)), (29, .p (.i .i64 x29))], [.box (List.map AV.p (J9 b0)), .box (List.map AV.p (J0c b1))]⟩) = (JaM p x28 b0) o := by
  unfold J1U at h
  rcases Jk h with ⟨h1, h⟩ | ⟨h1, h⟩
  · obtain ⟨y2, h3, h⟩ := bi h
    have f4 : (0 ≤ (x29 : Int) ∧ (x29 : Int) < ((16 : Nat) : Int)) = True := eq_true (J5h h3).1
    have f5 : sub (JH Jd x28) (Int.toNat x29 * 2) 2 = some (Jd y2) := Jb5 J0b (J5h h3).2
    try simp only [Nf, Jo] at f5
    obtain ⟨r6, h7, h⟩ := bi h
    have f8 : ∀ ws new s, J4a ws s [1] [List.map AV.p (J0c b1)] → (Jx (AF (J5 p)) J0p ([.ptr 1 0, .data (Jd y2)], ws) 0 new).run s = some ⟨.tup [], ws ++ [(1, .box (List.map AV.p (J0c r6)))]⟩ := J7i (args' := [.ptr 0 0, .data (Jd y2)]) (bs := [1]) (css := [List.map AV.p (J0c b1)]) (css' := [List.map AV.p (J0c r6)]) rfl rfl rfl (by simp [J1V, J2a]) (J8p p h7) rfl rfl (by simp [J1V, J2a])
    try simp only [Nf, Jo] at f8
    obtain rfl := sj h
    try simp only [↓Da, Ua, J1n, J3, Jo, *, ↓reduceIte, Nat.reduceEqDiff, Nat.reduceAdd, Nat.reduceLT, Nat.reduceMul]
    rfl
  · obtain ⟨o', h', rfl⟩ := mi h
    try simp only [↓Da, Ua, J1n, J3, Jo, *, ↓reduceIte, Nat.reduceEqDiff, Nat.reduceAdd, Nat.reduceLT, Nat.reduceMul]
    have e0 := JaF p h'
    exact e0
def J74 (x28 : Vector Jc 16) (b0 : J8) (s : Int × T_page_builder) : Option ((List UInt8) × Int) :=
  J07 (fun s => J1U x28 b0 s.1 s.2) s
theorem J9w {x28 : Vector Jc 16} {b0 : J8} {s : Int × T_page_builder} {o : (List UInt8) × Int} (h : J74 x28 b0 s = some o) :
    rk (J5 p) J0X 0 [.bl 1, .td 2 [1, 2, 3, 4], .sq (.keep [1, 4] J1L)] (X (J5 p) (.lp 2 [1, 4, 5, 28, 29] J1n) ⟨[(1, .ptr 0 0), (4, .ptr 1 0), (5, .fn J0p [.ptr 1 0] []), (28, .data ((JH Jd) x28)), (29, .p (.i .i64 s.1))], [.box (List.map AV.p (J9 b0)), .box (List.map AV.p (J0c s.2))]⟩) = J3a o := by
  have h0 : J07 (fun s => J1U x28 b0 s.1 s.2) s = some o := h
  exact J3s (P := fun (s : Int × T_page_builder) (o : (List UInt8) × Int) => rk (J5 p) J0X 0 [.bl 1, .td 2 [1, 2, 3, 4], .sq (.keep [1, 4] J1L)] (X (J5 p) (.lp 2 [1, 4, 5, 28, 29] J1n) ⟨[(1, .ptr 0 0), (4, .ptr 1 0), (5, .fn J0p [.ptr 1 0] []), (28, .data ((JH Jd) x28)), (29, .p (.i .i64 s.1))], [.box (List.map AV.p (J9 b0)), .box (List.map AV.p (J0c s.2))]⟩) = J3a o) (fun s r hs => by rw [J32]; exact J77 p hs) (fun s s1 r hs ih => by rw [J32]; exact (J77 p hs).trans ih) h0
def J1Z (x0 : J8) : Option ((List UInt8) × Int) :=
  Option.bind (J1f x0) fun r1 =>
  if r1 then
    Option.bind (J2k x0) fun r5 =>
    if r5 then
      Option.bind (J2P ([]) x0.LSN 8) fun r9 =>
      Option.bind (J2P r9 x0.ID 4) fun r13 =>
      J74 x0.Cells x0 (0, (⟨r13⟩ : T_page_builder))
    else
      some (([] : List UInt8), 22)
  else
    some (([] : List UInt8), 1)
theorem J9A {x0 : J8} {o : (List UInt8) × Int} (h : J1Z x0 = some o) :
    rk (J5 p) J0X 0 [] (X (J5 p) J1y ⟨[(0, .data (J9 x0))], []⟩) = J3a o := by
  unfold J1Z at h
  obtain ⟨r1, h2, h⟩ := bi h
  have f3 := J8l p h2
  try simp only [Nf, Jo] at f3
  try simp only [↓Da, Ua, Ra, J1y, J3, J0, J2, Jo, *, ↓reduceIte, Nat.reduceEqDiff, Nat.reduceAdd, Nat.reduceLT, Nat.reduceMul, Nat.reduceBEq]
  rcases Jk h with ⟨h4, h⟩ | ⟨h4, h⟩
  · obtain ⟨r5, h6, h⟩ := bi h
    have f7 := J8u p h6
    try simp only [Nf, Jo] at f7
    try simp only [↓Da, Ua, Ra, J1y, J3, J0, J2, Jo, *, ↓reduceIte, Nat.reduceEqDiff, Nat.reduceAdd, Nat.reduceLT, Nat.reduceMul, Nat.reduceBEq]
    rcases Jk h with ⟨h8, h⟩ | ⟨h8, h⟩
    · obtain ⟨r9, h10, h⟩ := bi h
      have f11 := J58 p h10
      try simp only [Nf, Jo] at f11
      have f12 : ∀ ws k new s, Jb ((Jx (AF (J5 p)) J0M ([.p (.s []), .p (.i .i64 x0.LSN), .p (.i .i64 8)], ws) k new).reads s) = [] := J0z rfl
      try simp only [Nf, Jo] at f12
      obtain ⟨r13, h14, h⟩ := bi h
      have f15 := J58 p h14
      try simp only [Nf, Jo] at f15
      have f16 : ∀ ws k new s, Jb ((Jx (AF (J5 p)) J0M ([.p (.s r9), .p (.i .i64 x0.ID), .p (.i .i64 4)], ws) k new).reads s) = [] := J0z rfl
      try simp only [Nf, Jo] at f16
      try simp only [↓Da, Ua, Ra, J1y, J3, J0, J2, Jo, *, ↓reduceIte, Nat.reduceEqDiff, Nat.reduceAdd, Nat.reduceLT, Nat.reduceMul, Nat.reduceBEq]
      have e0 := J9w p h
      exact e0
    · obtain rfl := sj h
      try simp only [↓Da, Ua, Ra, J1y, J3, J0, J2, Jo, J68, *, ↓reduceIte, Nat.reduceEqDiff, Nat.reduceAdd, Nat.reduceLT, Nat.reduceMul, Nat.reduceBEq]
      rfl
  · obtain rfl := sj h
    try simp only [↓Da, Ua, Ra, J1y, J3, J0, J2, Jo, J68, *, ↓reduceIte, Nat.reduceEqDiff, Nat.reduceAdd, Nat.reduceLT, Nat.reduceMul, Nat.reduceBEq]
    rfl
theorem JcR {x0 : J8} {o : (List UInt8) × Int} (h : J1Z x0 = some o) : AF (J5 p) J3d [.data (J9 x0)] [] = J3a o :=
  (J2d (J5 p) (JcH p) rfl).trans (J9A p h)
theorem JcG {x0 : J8} {o : (List UInt8) × Int} (h : J1Z x0 = some o) : ∀ ws new st, (Jx (AF (J5 p)) J3d ([.data (J9 x0)], ws) 0 new).run st = some ⟨.tup [.p (.s o.1), .p (.i .i64 o.2)], ws⟩ := JZ rfl (JcR p h) rfl
end
end Go.Am
end
section
namespace Go.Am
set_option maxRecDepth 8000
set_option maxHeartbeats 4000000
set_option linter.unusedSimpArgs false
set_option linter.unusedVariables false
noncomputable section
variable (p : FuncId → Option (List AV → List Blk → Option Res))
def J8V  (r : Bool) : Option Res := some (.p (.b r), [])
def J2Z (x0 : J8) : Option (Bool) :=
  Option.bind (J1f x0) fun r1 =>
  if r1 then
    Option.bind (J2k x0) fun r5 =>
    some r5
  else
    some false
theorem Jak {x0 : J8} {o : Bool} (h : J2Z x0 = some o) :
    rk (J5 p) J3I 0 [] (X (J5 p) J2T ⟨[(0, .data (J9 x0))], []⟩) = J8V o := by
  unfold J2Z at h
  obtain ⟨r1, h2, h⟩ := bi h
  have f3 := J8l p h2
  try simp only [Nf] at f3
  try simp only [↓Da, Ua, J2T, J3, J0, J2, *, ↓reduceIte, Nat.reduceEqDiff, Nat.reduceAdd, Nat.reduceLT, Nat.reduceMul]
  rcases Jk h with ⟨h4, h⟩ | ⟨h4, h⟩
  · obtain ⟨r5, h6, h⟩ := bi h
    have f7 := J8u p h6
    try simp only [Nf] at f7
    obtain rfl := sj h
    try simp only [↓Da, Ua, J2T, J3, J0, J2, J8T, *, ↓reduceIte, Nat.reduceEqDiff, Nat.reduceAdd, Nat.reduceLT, Nat.reduceMul]
    rfl
  · obtain rfl := sj h
    try simp only [↓Da, Ua, J2T, J3, J0, J2, J8T, *, ↓reduceIte, Nat.reduceEqDiff, Nat.reduceAdd, Nat.reduceLT, Nat.reduceMul]
    rfl
theorem Jed {x0 : J8} {o : Bool} (h : J2Z x0 = some o) : AF (J5 p) J3K [.data (J9 x0)] [] = J8V o :=
  (J2d (J5 p) (Jef p) rfl).trans (Jak p h)
theorem Jdp {x0 : J8} {o : Bool} (h : J2Z x0 = some o) : ∀ ws new st, (Jx (AF (J5 p)) J3K ([.data (J9 x0)], ws) 0 new).run st = some ⟨.p (.b o), ws⟩ := JZ rfl (Jed p h) rfl
def J3G  (r : Bool) : Option Res := some (.p (.b r), [])
def Jbw (x36 : List T_api_Frame) (x37 : Int) (b0 : T_api_Pool) (o : (Int) ⊕ (Bool)) : Option Res := match o with
  | .inl s => rk (J5 p) J1c 0 [.bl 0, .td 1 [2], .sq (.keep [] J2b)] (X (J5 p) (.lp 1 [1, 36, 37, 38] JL) ⟨[(1, .ptr 0 0), (36, .p (.sl 37 (List.map J1 x36))), (37, .p (.i .i64 x37)), (38, .p (.i .i64 s))], [.box (List.map AV.p (J6 b0))]⟩)
  | .inr o => J3G o
def J4W  : Option (Bool) :=
  some true
theorem JbU {B0 : List PV} {o : Bool} (h : J4W = some o) :
    rk (J5 p) J1c 0 [] (X (J5 p) J2b ⟨[], [.box (List.map AV.p B0)]⟩) = J3G o := by
  unfold J4W at h
  obtain rfl := sj h
  try simp only [↓Da, Ua, J2b, J1d, ↓reduceIte, Nat.reduceEqDiff, Nat.reduceAdd, Nat.reduceLT, Nat.reduceMul]
  rfl
def J26 (x36 : List T_api_Frame) (x37 : Int) (b0 : T_api_Pool) (x38 : Int) : Option (((Int) ⊕ (Bool))) :=
  if (decide (x38 < x37)) then
    Option.bind (idx x36 x38) fun y2 =>
    Option.bind (J2Z y2.Page) fun r5 =>
    if r5 then
      Option.bind (J1r b0 y2.Page.ID) fun r10 =>
      if ((r10 : Int) != x38) then
        some (.inr false)
      else
        if y2.Dirty then
          if (decide (y2.Rec < 1)) then
            some (.inr false)
          else
            if (decide (y2.Rec > y2.Page.LSN)) then
              some (.inr false)
            else
              some (.inl (IntKind.wrap .i64 (x38 + 1)))
        else
          if ((y2.Rec : Int) != 0) then
            some (.inr false)
          else
            some (.inl (IntKind.wrap .i64 (x38 + 1)))
    else
      some (.inr false)
  else
    Option.map (fun o => .inr o) (J4W)
theorem J7w {x36 : List T_api_Frame} {x37 : Int} {b0 : T_api_Pool} {x38 : Int} {o : ((Int) ⊕ (Bool))} (h : J26 x36 x37 b0 x38 = some o) :
    rk (J5 p) J1c 0 [.lo 1 [1, 36, 37, 38] JL, .bl 0, .td 1 [2], .sq (.keep [] J2b)] (X (J5 p) JL ⟨[(1, .ptr 0 0), (36, .p (.sl 37 (List.map J1 x36))), (37, .p (.i .i64 x37)), (38, .p (.i .i64 x38))], [.box (List.map AV.p (J6 b0))]⟩) = (Jbw p x36 x37 b0) o := by
  unfold J26 at h
  rcases Jk h with ⟨h1, h⟩ | ⟨h1, h⟩
  · obtain ⟨y2, h3, h⟩ := bi h
    have f4 := J5k (r := J1) h3
    try simp only [Nf] at f4
    obtain ⟨r5, h6, h⟩ := bi h
    have f7 := Jdp p h6
    try simp only [Nf] at f7
    try simp only [↓Da, Ua, JL, J3, J0, J2, Ja, J4, *, ↓reduceIte, Nat.reduceEqDiff, Nat.reduceAdd, Nat.reduceLT, Nat.reduceMul]
    rcases Jk h with ⟨h8, h⟩ | ⟨h8, h⟩
    · have f9 : sub (J1 y2) 0 1 = some ((r_i .i64) y2.Page.ID) := by
        have e0 := (J9i (J2n y2) (J4o y2.Page))
        exact e0
      try simp only [Nf] at f9
      obtain ⟨r10, h11, h⟩ := bi h
      have f12 := J5U p h11
      try simp only [Nf] at f12
      try simp only [↓Da, Ua, JL, J3, J0, J2, Ja, J4, *, ↓reduceIte, Nat.reduceEqDiff, Nat.reduceAdd, Nat.reduceLT, Nat.reduceMul]
      rcases Jk h with ⟨h13, h⟩ | ⟨h13, h⟩
      · obtain rfl := sj h
        try simp only [↓Da, Ua, JL, J3, J0, J2, Ja, J4, J1d, *, ↓reduceIte, Nat.reduceEqDiff, Nat.reduceAdd, Nat.reduceLT, Nat.reduceMul]
        rfl
      · try simp only [↓Da, Ua, JL, J3, J0, J2, Ja, J4, *, ↓reduceIte, Nat.reduceEqDiff, Nat.reduceAdd, Nat.reduceLT, Nat.reduceMul]
        rcases Jk h with ⟨h14, h⟩ | ⟨h14, h⟩
        · try simp only [↓Da, Ua, JL, J3, J0, J2, Ja, J4, *, ↓reduceIte, Nat.reduceEqDiff, Nat.reduceAdd, Nat.reduceLT, Nat.reduceMul]
          rcases Jk h with ⟨h15, h⟩ | ⟨h15, h⟩
          · obtain rfl := sj h
            try simp only [↓Da, Ua, JL, J3, J0, J2, Ja, J4, J1d, *, ↓reduceIte, Nat.reduceEqDiff, Nat.reduceAdd, Nat.reduceLT, Nat.reduceMul]
            rfl
          · have f16 : sub (J1 y2) 1 1 = some ((r_i .i64) y2.Page.LSN) := by
              have e0 := (J9i (J2n y2) (J6M y2.Page))
              exact e0
            try simp only [Nf] at f16
            try simp only [↓Da, Ua, JL, J3, J0, J2, Ja, J4, *, ↓reduceIte, Nat.reduceEqDiff, Nat.reduceAdd, Nat.reduceLT, Nat.reduceMul]
            rcases Jk h with ⟨h17, h⟩ | ⟨h17, h⟩
            · obtain rfl := sj h
              try simp only [↓Da, Ua, JL, J3, J0, J2, Ja, J4, J1d, *, ↓reduceIte, Nat.reduceEqDiff, Nat.reduceAdd, Nat.reduceLT, Nat.reduceMul]
              rfl
            · obtain rfl := sj h
              try simp only [↓Da, Ua, JL, J3, J0, J2, Ja, J4, *, ↓reduceIte, Nat.reduceEqDiff, Nat.reduceAdd, Nat.reduceLT, Nat.reduceMul]
              rfl
        · try simp only [↓Da, Ua, JL, J3, J0, J2, Ja, J4, *, ↓reduceIte, Nat.reduceEqDiff, Nat.reduceAdd, Nat.reduceLT, Nat.reduceMul]
          rcases Jk h with ⟨h18, h⟩ | ⟨h18, h⟩
          · obtain rfl := sj h
            try simp only [↓Da, Ua, JL, J3, J0, J2, Ja, J4, J1d, *, ↓reduceIte, Nat.reduceEqDiff, Nat.reduceAdd, Nat.reduceLT, Nat.reduceMul]
            rfl
          · obtain rfl := sj h
            try simp only [↓Da, Ua, JL, J3, J0, J2, Ja, J4, *, ↓reduceIte, Nat.reduceEqDiff, Nat.reduceAdd, Nat.reduceLT, Nat.reduceMul]
            rfl
    · obtain rfl := sj h
      try simp only [↓Da, Ua, JL, J3, J0, J2, Ja, J4, J1d, *, ↓reduceIte, Nat.reduceEqDiff, Nat.reduceAdd, Nat.reduceLT, Nat.reduceMul]
      rfl
  · obtain ⟨o', h', rfl⟩ := mi h
    try simp only [↓Da, Ua, JL, J3, J0, J2, Ja, J4, *, ↓reduceIte, Nat.reduceEqDiff, Nat.reduceAdd, Nat.reduceLT, Nat.reduceMul]
    have e0 := JbU p (B0 := (J6 b0)) h'
    exact e0
def J7p (x36 : List T_api_Frame) (x37 : Int) (b0 : T_api_Pool) (s : Int) : Option (Bool) :=
  J07 (fun s => J26 x36 x37 b0 s) s
theorem Jas {x36 : List T_api_Frame} {x37 : Int} {b0 : T_api_Pool} {s : Int} {o : Bool} (h : J7p x36 x37 b0 s = some o) :
    rk (J5 p) J1c 0 [.bl 0, .td 1 [2], .sq (.keep [] J2b)] (X (J5 p) (.lp 1 [1, 36, 37, 38] JL) ⟨[(1, .ptr 0 0), (36, .p (.sl 37 (List.map J1 x36))), (37, .p (.i .i64 x37)), (38, .p (.i .i64 s))], [.box (List.map AV.p (J6 b0))]⟩) = J3G o := by
  have h0 : J07 (fun s => J26 x36 x37 b0 s) s = some o := h
  exact J3s (P := fun (s : Int) (o : Bool) => rk (J5 p) J1c 0 [.bl 0, .td 1 [2], .sq (.keep [] J2b)] (X (J5 p) (.lp 1 [1, 36, 37, 38] JL) ⟨[(1, .ptr 0 0), (36, .p (.sl 37 (List.map J1 x36))), (37, .p (.i .i64 x37)), (38, .p (.i .i64 s))], [.box (List.map AV.p (J6 b0))]⟩) = J3G o) (fun s r hs => by rw [J32]; exact J7w p hs) (fun s s1 r hs ih => by rw [J32]; exact (J7w p hs).trans ih) h0
def J0V (x0 : T_api_Pool) : Option (Bool) :=
  if (decide (x0.Size < 1)) then
    some false
  else
    if (decide (x0.Size > 64)) then
      some false
    else
      if (decide (((List.length x0.Frames : Nat) : Int) > x0.Size)) then
        some false
      else
        if (decide (x0.Hand < 0)) then
          some false
        else
          if (decide (x0.Hand ≥ (J6e 1 ((List.length x0.Frames : Nat) : Int)))) then
            some false
          else
            J7p x0.Frames ((List.length x0.Frames : Nat) : Int) x0 0
theorem Jae {x0 : T_api_Pool} {o : Bool} (h : J0V x0 = some o) :
    rk (J5 p) J1c 0 [] (X (J5 p) J0A ⟨[(0, .data (J6 x0))], []⟩) = J3G o := by
  unfold J0V at h
  rcases Jk h with ⟨h1, h⟩ | ⟨h1, h⟩
  · obtain rfl := sj h
    try simp only [↓Da, Ua, J0A, J3, J0, J2, Ja, J4, J1d, *, ↓reduceIte, Nat.reduceEqDiff, Nat.reduceAdd, Nat.reduceLT, Nat.reduceMul]
    rfl
  · try simp only [↓Da, Ua, J0A, J3, J0, J2, Ja, J4, *, ↓reduceIte, Nat.reduceEqDiff, Nat.reduceAdd, Nat.reduceLT, Nat.reduceMul]
    rcases Jk h with ⟨h2, h⟩ | ⟨h2, h⟩
    · obtain rfl := sj h
      try simp only [↓Da, Ua, J0A, J3, J0, J2, Ja, J4, J1d, *, ↓reduceIte, Nat.reduceEqDiff, Nat.reduceAdd, Nat.reduceLT, Nat.reduceMul]
      rfl
    · try simp only [↓Da, Ua, J0A, J3, J0, J2, Ja, J4, *, ↓reduceIte, Nat.reduceEqDiff, Nat.reduceAdd, Nat.reduceLT, Nat.reduceMul]
      rcases Jk h with ⟨h3, h⟩ | ⟨h3, h⟩
      · obtain rfl := sj h
        try simp only [↓Da, Ua, J0A, J3, J0, J2, Ja, J4, J1d, *, ↓reduceIte, Nat.reduceEqDiff, Nat.reduceAdd, Nat.reduceLT, Nat.reduceMul]
        rfl
      · try simp only [↓Da, Ua, J0A, J3, J0, J2, Ja, J4, *, ↓reduceIte, Nat.reduceEqDiff, Nat.reduceAdd, Nat.reduceLT, Nat.reduceMul]
        rcases Jk h with ⟨h4, h⟩ | ⟨h4, h⟩
        · obtain rfl := sj h
          try simp only [↓Da, Ua, J0A, J3, J0, J2, Ja, J4, J1d, *, ↓reduceIte, Nat.reduceEqDiff, Nat.reduceAdd, Nat.reduceLT, Nat.reduceMul]
          rfl
        · try simp only [↓Da, Ua, J0A, J3, J0, J2, Ja, J4, *, ↓reduceIte, Nat.reduceEqDiff, Nat.reduceAdd, Nat.reduceLT, Nat.reduceMul]
          rcases Jk h with ⟨h5, h⟩ | ⟨h5, h⟩
          · obtain rfl := sj h
            try simp only [↓Da, Ua, J0A, J3, J0, J2, Ja, J4, J1d, *, ↓reduceIte, Nat.reduceEqDiff, Nat.reduceAdd, Nat.reduceLT, Nat.reduceMul]
            rfl
          · try simp only [↓Da, Ua, J0A, J3, J0, J2, Ja, J4, *, ↓reduceIte, Nat.reduceEqDiff, Nat.reduceAdd, Nat.reduceLT, Nat.reduceMul]
            have e0 := Jas p h
            exact e0
theorem Jdb {x0 : T_api_Pool} {o : Bool} (h : J0V x0 = some o) : AF (J5 p) J1s [.data (J6 x0)] [] = J3G o :=
  (J2d (J5 p) (Jdn p) rfl).trans (Jae p h)
theorem J4B {x0 : T_api_Pool} {o : Bool} (h : J0V x0 = some o) : ∀ ws new st, (Jx (AF (J5 p)) J1s ([.data (J6 x0)], ws) 0 new).run st = some ⟨.p (.b o), ws⟩ := JZ rfl (Jdb p h) rfl
def Jb0  (r : T_api_Pool × Int) : Option Res := some (.tup [.data (J6 r.1), .p (.i .i64 r.2)], [])
def J0m (x0 : T_api_Pool) (x1 : J8) : Option (T_api_Pool × Int) :=
  Option.bind (J0V x0) fun r1 =>
  if r1 then
    Option.bind (J1Z x1) fun r5 =>
    if ((r5.2 : Int) != 0) then
      some ((⟨0, ([] : List T_api_Frame), 0⟩ : T_api_Pool), r5.2)
    else
      Option.bind (J1r x0 x1.ID) fun r9 =>
      if (decide (r9 ≥ 0)) then
        some ((⟨0, ([] : List T_api_Frame), 0⟩ : T_api_Pool), 25)
      else
        if ((((List.length x0.Frames : Nat) : Int) : Int) == x0.Size) then
          some ((⟨0, ([] : List T_api_Frame), 0⟩ : T_api_Pool), 21)
        else
          Option.bind (JS x0.Frames) fun r14 =>
          Option.bind (J9Z 424 r14 ([(⟨x1, false, 0, true⟩ : T_api_Frame)] : List T_api_Frame)) fun m19 =>
          some ((⟨x0.Size, m19, x0.Hand⟩ : T_api_Pool), 0)
  else
    some ((⟨0, ([] : List T_api_Frame), 0⟩ : T_api_Pool), 15)
theorem JbP {x0 : T_api_Pool} {x1 : J8} {o : T_api_Pool × Int} (h : J0m x0 x1 = some o) :
    rk (J5 p) J4I 0 [] (X (J5 p) J1i ⟨[(0, .data (J6 x0)), (1, .data (J9 x1))], []⟩) = Jb0 o := by
  unfold J0m at h
  obtain ⟨r1, h2, h⟩ := bi h
  have f3 := J4B p h2
  try simp only [Nf, JE, JF] at f3
  try simp only [↓Da, Ua, Ra, J1i, JE, J0, J2, JF, J4, *, ↓reduceIte, Nat.reduceEqDiff, Nat.reduceAdd, Nat.reduceLT, Nat.reduceMul, Nat.reduceBEq]
  rcases Jk h with ⟨h4, h⟩ | ⟨h4, h⟩
  · obtain ⟨r5, h6, h⟩ := bi h
    have f7 := JcG p h6
    try simp only [Nf, JE, JF] at f7
    try simp only [↓Da, Ua, Ra, J1i, JE, J0, J2, JF, J4, *, ↓reduceIte, Nat.reduceEqDiff, Nat.reduceAdd, Nat.reduceLT, Nat.reduceMul, Nat.reduceBEq]
    rcases Jk h with ⟨h8, h⟩ | ⟨h8, h⟩
    · obtain rfl := sj h
      try simp only [↓Da, Ua, Ra, J1i, JE, J0, J2, JF, J4, J5M, *, ↓reduceIte, Nat.reduceEqDiff, Nat.reduceAdd, Nat.reduceLT, Nat.reduceMul, Nat.reduceBEq]
      rfl
    · obtain ⟨r9, h10, h⟩ := bi h
      have f11 := J5U p h10
      try simp only [Nf, JE, JF] at f11
      try simp only [↓Da, Ua, Ra, J1i, JE, J0, J2, JF, J4, *, ↓reduceIte, Nat.reduceEqDiff, Nat.reduceAdd, Nat.reduceLT, Nat.reduceMul, Nat.reduceBEq]
      rcases Jk h with ⟨h12, h⟩ | ⟨h12, h⟩
      · obtain rfl := sj h
        try simp only [↓Da, Ua, Ra, J1i, JE, J0, J2, JF, J4, J5M, *, ↓reduceIte, Nat.reduceEqDiff, Nat.reduceAdd, Nat.reduceLT, Nat.reduceMul, Nat.reduceBEq]
        rfl
      · try simp only [↓Da, Ua, Ra, J1i, JE, J0, J2, JF, J4, *, ↓reduceIte, Nat.reduceEqDiff, Nat.reduceAdd, Nat.reduceLT, Nat.reduceMul, Nat.reduceBEq]
        rcases Jk h with ⟨h13, h⟩ | ⟨h13, h⟩
        · obtain rfl := sj h
          try simp only [↓Da, Ua, Ra, J1i, JE, J0, J2, JF, J4, J5M, *, ↓reduceIte, Nat.reduceEqDiff, Nat.reduceAdd, Nat.reduceLT, Nat.reduceMul, Nat.reduceBEq]
          rfl
        · obtain ⟨r14, h15, h⟩ := bi h
          have f16 := J51 p h15
          try simp only [Nf, JE, JF] at f16
          have f17 : ∀ ws k new s, Jb ((Jx (AF (J5 p)) JR ([.p (.sl 37 (List.map J1 x0.Frames))], ws) k new).reads s) = [] := J0z rfl
          try simp only [Nf, JE, JF] at f17
          obtain ⟨m19, h20, h⟩ := bi h
          have f18 : Ja4 37 424 (.p (.slc 37 (List.map J1 r14))) (List.map J1 ([(⟨x1, false, 0, true⟩ : T_api_Frame)] : List T_api_Frame)) = some (List.map J1 m19) := Jjl J1 h20
          try simp only [Nf, JE, JF] at f18
          obtain rfl := sj h
          try simp only [↓Da, Ua, Ra, J1i, JE, J0, J2, JF, J4, J5M, *, ↓reduceIte, Nat.reduceEqDiff, Nat.reduceAdd, Nat.reduceLT, Nat.reduceMul, Nat.reduceBEq]
          rfl
  · obtain rfl := sj h
    try simp only [↓Da, Ua, Ra, J1i, JE, J0, J2, JF, J4, J5M, *, ↓reduceIte, Nat.reduceEqDiff, Nat.reduceAdd, Nat.reduceLT, Nat.reduceMul, Nat.reduceBEq]
    rfl
theorem Jfw {x0 : T_api_Pool} {x1 : J8} {o : T_api_Pool × Int} (h : J0m x0 x1 = some o) : AF (J5 p) J1Q [.data (J6 x0), .data (J9 x1)] [] = Jb0 o :=
  (J2d (J5 p) (Jfu p) rfl).trans (JbP p h)
theorem J4O {x0 : T_api_Pool} {x1 : J8} {o : T_api_Pool × Int} (h : J0m x0 x1 = some o) : ∀ ws new st, (Jx (AF (J5 p)) J1Q ([.data (J6 x0), .data (J9 x1)], ws) 0 new).run st = some ⟨.tup [.data (J6 o.1), .p (.i .i64 o.2)], ws⟩ := JZ rfl (Jfw p h) rfl
def J38  (r : T_api_Pool × Int × Int) : Option Res := some (.tup [.data (J6 r.1), .p (.i .i64 r.2.1), .p (.i .i64 r.2.2)], [])
def J72 (b0_0 : Int) (b1 : T_api_Pool) (o : (Int × (List T_api_Frame)) ⊕ (T_api_Pool × Int × Int)) : Option Res := match o with
  | .inl s => rk (J5 p) J0W 0 [.bl 1, .sq (.keep [1, 2] J1I)] (X (J5 p) (.lp 3 [1, 2] J12) ⟨[(1, .ptr 0 0), (2, .ptr 1 0)], [.box [.p (.i .i64 b0_0), .slr 2 0 (List.length s.2), .p (.i .i64 s.1)], .box (List.map AV.p (J6 b1)), .arr true 37 (List.map J1 s.2)]⟩)
  | .inr o => J38 o
def J4p (b0_0 : Int) (b0_2 : Int) (b1 : T_api_Pool) (l2 : List T_api_Frame) : Option (T_api_Pool × Int × Int) :=
  Option.bind (idx l2 b0_2) fun y1 =>
  some ((⟨b0_0, l2, b0_2⟩ : T_api_Pool), y1.Page.ID, 0)
theorem Jb2 {b0_0 : Int} {b0_2 : Int} {b1 : T_api_Pool} {l2 : List T_api_Frame} {w2 : Bool} {o : T_api_Pool × Int × Int} (h : J4p b0_0 b0_2 b1 l2 = some o) :
    rk (J5 p) J0W 0 [] (X (J5 p) J1I ⟨[(1, .ptr 0 0), (2, .ptr 1 0)], [.box [.p (.i .i64 b0_0), .slr 2 0 (List.length l2), .p (.i .i64 b0_2)], .box (List.map AV.p (J6 b1)), .arr w2 37 (List.map J1 l2)]⟩) = J38 o := by
  unfold J4p at h
  obtain ⟨y1, h2, h⟩ := bi h
  have f3 := Jde (r := J1) h2
  try simp only [Nf, JE, JF] at f3
  have f4 : (0 ≤ (b0_2 : Int) ∧ (b0_2 : Int) < (((List.length l2) : Nat) : Int)) = True := eq_true (by have e0 := Jf1 h2; (try simp only [List.length_cons, List.length_nil, Nat.zero_add] at e0); omega)
  have f5 : sub (J1 y1) 0 1 = some ((r_i .i64) y1.Page.ID) := by
    have e0 := (J9i (J2n y1) (J4o y1.Page))
    exact e0
  try simp only [Nf, JE, JF] at f5
  obtain rfl := sj h
  try simp only [↓Da, Ua, Ra, J1I, JE, J0, J2, JF, J4, J69, *, ↓reduceIte, Nat.reduceEqDiff, Nat.reduceAdd, Nat.reduceLT, Nat.reduceMul, Nat.reduceBEq]
  rfl
def J1l (b0_0 : Int) (b1 : T_api_Pool) (b0_2 : Int) (l2 : List T_api_Frame) : Option (((Int × (List T_api_Frame)) ⊕ (T_api_Pool × Int × Int))) :=
  Option.bind (idx l2 b0_2) fun y1 =>
  if y1.Used then
    Option.bind (some (List.set l2 (Int.toNat b0_2) (⟨y1.Page, y1.Dirty, y1.Rec, false⟩ : T_api_Frame))) fun m6 =>
    Option.bind (J7e (IntKind.wrap .i64 (b0_2 + 1)) (((List.length l2) : Nat) : Int)) fun q10 =>
    some (.inl (q10, m6))
  else
    Option.map (fun o => .inr o) (J4p b0_0 b0_2 b1 l2)
theorem J6Y {b0_0 : Int} {b1 : T_api_Pool} {b0_2 : Int} {l2 : List T_api_Frame} {o : ((Int × (List T_api_Frame)) ⊕ (T_api_Pool × Int × Int))} (h : J1l b0_0 b1 b0_2 l2 = some o) :
    rk (J5 p) J0W 0 [.lo 3 [1, 2] J12, .bl 1, .sq (.keep [1, 2] J1I)] (X (J5 p) J12 ⟨[(1, .ptr 0 0), (2, .ptr 1 0)], [.box [.p (.i .i64 b0_0), .slr 2 0 (List.length l2), .p (.i .i64 b0_2)], .box (List.map AV.p (J6 b1)), .arr true 37 (List.map J1 l2)]⟩) = (J72 p b0_0 b1) o := by
  unfold J1l at h
  obtain ⟨y1, h2, h⟩ := bi h
  have f3 := Jde (r := J1) h2
  try simp only [Nf, JE, JF] at f3
  have f4 : (0 ≤ (b0_2 : Int) ∧ (b0_2 : Int) < (((List.length l2) : Nat) : Int)) = True := eq_true (by have e0 := Jf1 h2; (try simp only [List.length_cons, List.length_nil, Nat.zero_add] at e0); omega)
  try simp only [↓Da, Ua, J12, JE, J0, J2, JF, J4, *, ↓reduceIte, Nat.reduceEqDiff, Nat.reduceAdd, Nat.reduceLT, Nat.reduceMul]
  rcases Jk h with ⟨h5, h⟩ | ⟨h5, h⟩
  · obtain ⟨m6, h7, h⟩ := bi h
    have f8 : List.set (List.map J1 l2) (Int.toNat b0_2) (J1 (⟨y1.Page, y1.Dirty, y1.Rec, false⟩ : T_api_Frame)) = List.map J1 m6 := by
      rw [← Option.some.inj h7, List.map_set]
    try simp only [Nf, JE, JF] at f8
    have g9 : List.length m6 = List.length l2 := by rw [← Option.some.inj h7, List.length_set]
    obtain ⟨q10, h11, h⟩ := bi h
    obtain rfl := sj h
    try simp only [↓Da, Ua, J12, JE, J0, J2, JF, J4, *, ↓reduceIte, Nat.reduceEqDiff, Nat.reduceAdd, Nat.reduceLT, Nat.reduceMul]
    try simp only [J72, g9]
    try rfl
  · obtain ⟨o', h', rfl⟩ := mi h
    try simp only [↓Da, Ua, J12, JE, J0, J2, JF, J4, *, ↓reduceIte, Nat.reduceEqDiff, Nat.reduceAdd, Nat.reduceLT, Nat.reduceMul]
    have e0 := Jb2 p (w2 := true) h'
    exact e0
def J2u (b0_0 : Int) (b1 : T_api_Pool) (s : Int × (List T_api_Frame)) : Option (T_api_Pool × Int × Int) :=
  J07 (fun s => J1l b0_0 b1 s.1 s.2) s
theorem J9y {b0_0 : Int} {b1 : T_api_Pool} {s : Int × (List T_api_Frame)} {o : T_api_Pool × Int × Int} (h : J2u b0_0 b1 s = some o) :
    rk (J5 p) J0W 0 [.bl 1, .sq (.keep [1, 2] J1I)] (X (J5 p) (.lp 3 [1, 2] J12) ⟨[(1, .ptr 0 0), (2, .ptr 1 0)], [.box [.p (.i .i64 b0_0), .slr 2 0 (List.length s.2), .p (.i .i64 s.1)], .box (List.map AV.p (J6 b1)), .arr true 37 (List.map J1 s.2)]⟩) = J38 o := by
  have h0 : J07 (fun s => J1l b0_0 b1 s.1 s.2) s = some o := h
  exact J3s (P := fun (s : Int × (List T_api_Frame)) (o : T_api_Pool × Int × Int) => rk (J5 p) J0W 0 [.bl 1, .sq (.keep [1, 2] J1I)] (X (J5 p) (.lp 3 [1, 2] J12) ⟨[(1, .ptr 0 0), (2, .ptr 1 0)], [.box [.p (.i .i64 b0_0), .slr 2 0 (List.length s.2), .p (.i .i64 s.1)], .box (List.map AV.p (J6 b1)), .arr true 37 (List.map J1 s.2)]⟩) = J38 o) (fun s r hs => by rw [J32]; exact J6Y p hs) (fun s s1 r hs ih => by rw [J32]; exact (J6Y p hs).trans ih) h0
def J1Y (x0 : T_api_Pool) : Option (T_api_Pool × Int × Int) :=
  Option.bind (J0V x0) fun r1 =>
  if r1 then
    if ((((List.length x0.Frames : Nat) : Int) : Int) == 0) then
      some ((⟨0, ([] : List T_api_Frame), 0⟩ : T_api_Pool), 0, 18)
    else
      Option.bind (J02 x0.Frames) fun r6 =>
      J2u x0.Size (⟨0, ([] : List T_api_Frame), 0⟩ : T_api_Pool) (x0.Hand, r6)
  else
    some ((⟨0, ([] : List T_api_Frame), 0⟩ : T_api_Pool), 0, 15)
theorem J9z {x0 : T_api_Pool} {o : T_api_Pool × Int × Int} (h : J1Y x0 = some o) :
    rk (J5 p) J0W 0 [] (X (J5 p) J1A ⟨[(0, .data (J6 x0))], []⟩) = J38 o := by
  unfold J1Y at h
  obtain ⟨r1, h2, h⟩ := bi h
  have f3 := J4B p h2
  try simp only [Nf, JE, JF] at f3
  try simp only [↓Da, Ua, J1A, JE, J0, J2, JF, J4, *, ↓reduceIte, Nat.reduceEqDiff, Nat.reduceAdd, Nat.reduceLT, Nat.reduceMul]
  rcases Jk h with ⟨h4, h⟩ | ⟨h4, h⟩
  · try simp only [↓Da, Ua, J1A, JE, J0, J2, JF, J4, *, ↓reduceIte, Nat.reduceEqDiff, Nat.reduceAdd, Nat.reduceLT, Nat.reduceMul]
    rcases Jk h with ⟨h5, h⟩ | ⟨h5, h⟩
    · have h5n : ((((List.length x0.Frames : Nat) : Int) : Int) != 0) = false := by rw [bne, h5]; rfl
      obtain rfl := sj h
      try simp only [↓Da, Ua, J1A, JE, J0, J2, JF, J4, J69, *, ↓reduceIte, Nat.reduceEqDiff, Nat.reduceAdd, Nat.reduceLT, Nat.reduceMul]
      rfl
    · have h5n : ((((List.length x0.Frames : Nat) : Int) : Int) != 0) = true := by rw [bne, h5]; rfl
      obtain ⟨r6, h7, h⟩ := bi h
      have f8 : ∀ ws new s, (Jx (AF (J5 p)) JG ([.p (.sl 37 (List.map J1 x0.Frames))], ws) 1 new).run s = some ⟨.slr new 0 (List.length r6), ws ++ [(new, .arr true 37 (List.map J1 r6))]⟩ := Jbi rfl (J2D p h7)
      try simp only [Nf, JE, JF] at f8
      try simp only [↓Da, Ua, J1A, JE, J0, J2, JF, J4, *, ↓reduceIte, Nat.reduceEqDiff, Nat.reduceAdd, Nat.reduceLT, Nat.reduceMul]
      have e0 := J9y p h
      exact e0
  · obtain rfl := sj h
    try simp only [↓Da, Ua, J1A, JE, J0, J2, JF, J4, J69, *, ↓reduceIte, Nat.reduceEqDiff, Nat.reduceAdd, Nat.reduceLT, Nat.reduceMul]
    rfl
theorem JcK {x0 : T_api_Pool} {o : T_api_Pool × Int × Int} (h : J1Y x0 = some o) : AF (J5 p) J3b [.data (J6 x0)] [] = J38 o :=
  (J2d (J5 p) (JcN p) rfl).trans (J9z p h)
theorem JcQ {x0 : T_api_Pool} {o : T_api_Pool × Int × Int} (h : J1Y x0 = some o) : ∀ ws new st, (Jx (AF (J5 p)) J3b ([.data (J6 x0)], ws) 0 new).run st = some ⟨.tup [.data (J6 o.1), .p (.i .i64 o.2.1), .p (.i .i64 o.2.2)], ws⟩ := JZ rfl (JcK p h) rfl
def J5V  (r : T_api_Pool × Int) : Option Res := some (.tup [.data (J6 r.1), .p (.i .i64 r.2)], [])
def J33 (b0 : T_api_Pool) (b1 : T_api_Pool) : Option (T_api_Pool × Int) :=
  some (b0, 0)
theorem J8i {b0 : T_api_Pool} {b1 : T_api_Pool} {B2 : Blk} {o : T_api_Pool × Int} (h : J33 b0 b1 = some o) :
    rk (J5 p) J2M 0 [] (X (J5 p) J6c ⟨[(2, .ptr 0 0), (4, .ptr 1 0)], [.box (List.map AV.p (J6 b0)), .box (List.map AV.p (J6 b1)), B2]⟩) = J5V o := by
  unfold J33 at h
  obtain rfl := sj h
  try simp only [↓Da, Ua, J6c, J3, J0, J2, Ja, J4, J5X, ↓reduceIte, Nat.reduceEqDiff, Nat.reduceAdd, Nat.reduceLT, Nat.reduceMul]
  rfl
def J3e (b0 : T_api_Pool) (b1 : T_api_Pool) : Option (T_api_Pool × Int) :=
  if (decide (b0.Hand ≥ ((List.length b0.Frames : Nat) : Int))) then
    J33 (⟨b0.Size, b0.Frames, 0⟩ : T_api_Pool) b1
  else
    J33 b0 b1
theorem J8g {b0 : T_api_Pool} {b1 : T_api_Pool} {B2 : Blk} {o : T_api_Pool × Int} (h : J3e b0 b1 = some o) :
    rk (J5 p) J2M 0 [] (X (J5 p) J5a ⟨[(2, .ptr 0 0), (4, .ptr 1 0)], [.box (List.map AV.p (J6 b0)), .box (List.map AV.p (J6 b1)), B2]⟩) = J5V o := by
  unfold J3e at h
  rcases Jk h with ⟨h1, h⟩ | ⟨h1, h⟩
  · try simp only [↓Da, Ua, J5a, J3, J0, J2, Ja, J4, *, ↓reduceIte, Nat.reduceEqDiff, Nat.reduceAdd, Nat.reduceLT, Nat.reduceMul]
    have e0 := J8i p (B2 := B2) h
    exact e0
  · try simp only [↓Da, Ua, J5a, J3, J0, J2, Ja, J4, *, ↓reduceIte, Nat.reduceEqDiff, Nat.reduceAdd, Nat.reduceLT, Nat.reduceMul]
    have e0 := J8i p (B2 := B2) h
    exact e0
def J1H (x0 : T_api_Pool) (x1 : Int) : Option (T_api_Pool × Int) :=
  Option.bind (J0V x0) fun r1 =>
  if r1 then
    Option.bind (J1r x0 x1) fun r5 =>
    if (decide (r5 < 0)) then
      some ((⟨0, ([] : List T_api_Frame), 0⟩ : T_api_Pool), 18)
    else
      Option.bind (idx x0.Frames r5) fun y9 =>
      if y9.Dirty then
        some ((⟨0, ([] : List T_api_Frame), 0⟩ : T_api_Pool), 23)
      else
        Option.bind (J02 x0.Frames) fun r13 =>
        Option.bind (J0E r13 r5 (IntKind.wrap .i64 (r5 + 1))) fun r16 =>
        if (decide (r5 < x0.Hand)) then
          J3e (⟨x0.Size, r16, (IntKind.wrap .i64 (x0.Hand - 1))⟩ : T_api_Pool) (⟨0, ([] : List T_api_Frame), 0⟩ : T_api_Pool)
        else
          J3e (⟨x0.Size, r16, x0.Hand⟩ : T_api_Pool) (⟨0, ([] : List T_api_Frame), 0⟩ : T_api_Pool)
  else
    some ((⟨0, ([] : List T_api_Frame), 0⟩ : T_api_Pool), 15)
theorem JaU {x0 : T_api_Pool} {x1 : Int} {o : T_api_Pool × Int} (h : J1H x0 x1 = some o) :
    rk (J5 p) J2M 0 [] (X (J5 p) J10 ⟨[(0, .data (J6 x0)), (1, .p (.i .i64 x1))], []⟩) = J5V o := by
  unfold J1H at h
  obtain ⟨r1, h2, h⟩ := bi h
  have f3 := J4B p h2
  try simp only [Nf] at f3
  try simp only [↓Da, Ua, J10, J3, J0, J2, Ja, J4, *, ↓reduceIte, Nat.reduceEqDiff, Nat.reduceAdd, Nat.reduceLT, Nat.reduceMul]
  rcases Jk h with ⟨h4, h⟩ | ⟨h4, h⟩
  · obtain ⟨r5, h6, h⟩ := bi h
    have f7 := J5U p h6
    try simp only [Nf] at f7
    try simp only [↓Da, Ua, J10, J3, J0, J2, Ja, J4, *, ↓reduceIte, Nat.reduceEqDiff, Nat.reduceAdd, Nat.reduceLT, Nat.reduceMul]
    rcases Jk h with ⟨h8, h⟩ | ⟨h8, h⟩
    · obtain rfl := sj h
      try simp only [↓Da, Ua, J10, J3, J0, J2, Ja, J4, J5X, *, ↓reduceIte, Nat.reduceEqDiff, Nat.reduceAdd, Nat.reduceLT, Nat.reduceMul]
      rfl
    · obtain ⟨y9, h10, h⟩ := bi h
      have f11 := J5k (r := J1) h10
      try simp only [Nf] at f11
      try simp only [↓Da, Ua, J10, J3, J0, J2, Ja, J4, *, ↓reduceIte, Nat.reduceEqDiff, Nat.reduceAdd, Nat.reduceLT, Nat.reduceMul]
      rcases Jk h with ⟨h12, h⟩ | ⟨h12, h⟩
      · obtain rfl := sj h
        try simp only [↓Da, Ua, J10, J3, J0, J2, Ja, J4, J5X, *, ↓reduceIte, Nat.reduceEqDiff, Nat.reduceAdd, Nat.reduceLT, Nat.reduceMul]
        rfl
      · obtain ⟨r13, h14, h⟩ := bi h
        have f15 : ∀ ws new s, (Jx (AF (J5 p)) JG ([.p (.sl 37 (List.map J1 x0.Frames))], ws) 1 new).run s = some ⟨.slr new 0 (List.length r13), ws ++ [(new, .arr true 37 (List.map J1 r13))]⟩ := Jbi rfl (J2D p h14)
        try simp only [Nf] at f15
        obtain ⟨r16, h17, h⟩ := bi h
        have f18 : ∀ ws new s, (J4C ws 2).run s = some (.arr true 37 (List.map J1 r13)) → (J1u (AF (J5 p)) J0l ([.slr 2 0 (List.length r13), .p (.i .i64 r5), .p (.i .i64 (IntKind.wrap .i64 (r5 + 1)))], ws) 0 new).run s = some ⟨.p (.sl 37 (List.map J1 r16)), ws ++ [(2, .arr false 37 (List.map J1 (r16 ++ List.replicate (List.length r13 - List.length r16) (⟨(⟨0, 0, (Vector.replicate 16 (⟨false, []⟩ : Jc))⟩ : J8), false, 0, false⟩ : T_api_Frame))))]⟩ := fun ws new s h1 => Jfv rfl (by first | rfl | simp [ren.renL, ren, J1G]) (J4J p h17) (fun _ => rfl) ws new s h1
        try simp only [Nf] at f18
        try simp only [↓Da, Ua, J10, J3, J0, J2, Ja, J4, *, ↓reduceIte, Nat.reduceEqDiff, Nat.reduceAdd, Nat.reduceLT, Nat.reduceMul]
        rcases Jk h with ⟨h19, h⟩ | ⟨h19, h⟩
        · try simp only [↓Da, Ua, J10, J3, J0, J2, Ja, J4, *, ↓reduceIte, Nat.reduceEqDiff, Nat.reduceAdd, Nat.reduceLT, Nat.reduceMul]
          have e0 := J8g p (B2 := .arr false 37 (List.map J1 (r16 ++ List.replicate (List.length r13 - List.length r16) (⟨(⟨0, 0, (Vector.replicate 16 (⟨false, []⟩ : Jc))⟩ : J8), false, 0, false⟩ : T_api_Frame)))) h
          exact e0
        · try simp only [↓Da, Ua, J10, J3, J0, J2, Ja, J4, *, ↓reduceIte, Nat.reduceEqDiff, Nat.reduceAdd, Nat.reduceLT, Nat.reduceMul]
          have e0 := J8g p (B2 := .arr false 37 (List.map J1 (r16 ++ List.replicate (List.length r13 - List.length r16) (⟨(⟨0, 0, (Vector.replicate 16 (⟨false, []⟩ : Jc))⟩ : J8), false, 0, false⟩ : T_api_Frame)))) h
          exact e0
  · obtain rfl := sj h
    try simp only [↓Da, Ua, J10, J3, J0, J2, Ja, J4, J5X, *, ↓reduceIte, Nat.reduceEqDiff, Nat.reduceAdd, Nat.reduceLT, Nat.reduceMul]
    rfl
theorem JeB {x0 : T_api_Pool} {x1 : Int} {o : T_api_Pool × Int} (h : J1H x0 x1 = some o) : AF (J5 p) J3z [.data (J6 x0), .p (.i .i64 x1)] [] = J5V o :=
  (J2d (J5 p) (JeO p) rfl).trans (JaU p h)
theorem J9V {x0 : T_api_Pool} {x1 : Int} {o : T_api_Pool × Int} (h : J1H x0 x1 = some o) : ∀ ws new st, (Jx (AF (J5 p)) J3z ([.data (J6 x0), .p (.i .i64 x1)], ws) 0 new).run st = some ⟨.tup [.data (J6 o.1), .p (.i .i64 o.2)], ws⟩ := JZ rfl (JeB p h) rfl
def J9P  (r : Int) : Option Res := some (.p (.i .i64 r), [])
def J2e (x0 : T_api_Pool) (x1 : Int) : Option (Int) :=
  Option.bind (J0V x0) fun r1 =>
  if r1 then
    Option.bind (J1r x0 x1) fun r5 =>
    some r5
  else
    some (-1)
theorem JaI {x0 : T_api_Pool} {x1 : Int} {o : Int} (h : J2e x0 x1 = some o) :
    rk (J5 p) J4e 0 [] (X (J5 p) J3w ⟨[(0, .data (J6 x0)), (1, .p (.i .i64 x1))], []⟩) = J9P o := by
  unfold J2e at h
  obtain ⟨r1, h2, h⟩ := bi h
  have f3 := J4B p h2
  try simp only [Nf] at f3
  try simp only [↓Da, Ua, J3w, J3, J0, J2, Ja, J4, *, ↓reduceIte, Nat.reduceEqDiff, Nat.reduceAdd, Nat.reduceLT, Nat.reduceMul]
  rcases Jk h with ⟨h4, h⟩ | ⟨h4, h⟩
  · obtain ⟨r5, h6, h⟩ := bi h
    have f7 := J5U p h6
    try simp only [Nf] at f7
    obtain rfl := sj h
    try simp only [↓Da, Ua, J3w, J3, J0, J2, Ja, J4, J9T, *, ↓reduceIte, Nat.reduceEqDiff, Nat.reduceAdd, Nat.reduceLT, Nat.reduceMul]
    rfl
  · obtain rfl := sj h
    try simp only [↓Da, Ua, J3w, J3, J0, J2, Ja, J4, J9T, *, ↓reduceIte, Nat.reduceEqDiff, Nat.reduceAdd, Nat.reduceLT, Nat.reduceMul]
    rfl
theorem Jet {x0 : T_api_Pool} {x1 : Int} {o : Int} (h : J2e x0 x1 = some o) : AF (J5 p) J3x [.data (J6 x0), .p (.i .i64 x1)] [] = J9P o :=
  (J2d (J5 p) (Jer p) rfl).trans (JaI p h)
theorem J9X {x0 : T_api_Pool} {x1 : Int} {o : Int} (h : J2e x0 x1 = some o) : ∀ ws new st, (Jx (AF (J5 p)) J3x ([.data (J6 x0), .p (.i .i64 x1)], ws) 0 new).run st = some ⟨.p (.i .i64 o), ws⟩ := JZ rfl (Jet p h) rfl
def J8j  (r : Bool) : Option Res := some (.p (.b r), [])
def J2x  : Option (Bool) :=
  Option.bind (J2H 2) fun r1 =>
  Option.bind (J0m r1.1 (⟨1, 0, (Vector.replicate 16 (⟨false, []⟩ : Jc))⟩ : J8)) fun r4 =>
  Option.bind (J0m r4.1 (⟨2, 0, (Vector.replicate 16 (⟨false, []⟩ : Jc))⟩ : J8)) fun r7 =>
  Option.bind (J1Y r7.1) fun r10 =>
  if ((r1.2 : Int) == 0) then
    if ((r4.2 : Int) == 0) then
      if ((r7.2 : Int) == 0) then
        if ((r10.2.2 : Int) == 0) then
          if ((r10.2.1 : Int) == 1) then
            if ((((List.length r10.1.Frames : Nat) : Int) : Int) == 2) then
              Option.bind (idx r10.1.Frames 0) fun y19 =>
              if y19.Used then
                some false
              else
                Option.bind (idx r10.1.Frames 1) fun y23 =>
                some (!y23.Used)
            else
              some false
          else
            some false
        else
          some false
      else
        some false
    else
      some false
  else
    some false
theorem J9x  {o : Bool} (h : J2x = some o) :
    rk (J5 p) J39 0 [] (X (J5 p) JT ⟨[], []⟩) = J8j o := by
  unfold J2x at h
  obtain ⟨r1, h2, h⟩ := bi h
  have f3 := JaD p h2
  try simp only [Nf] at f3
  obtain ⟨r4, h5, h⟩ := bi h
  have f6 := J4O p h5
  try simp only [Nf] at f6
  obtain ⟨r7, h8, h⟩ := bi h
  have f9 := J4O p h8
  try simp only [Nf] at f9
  obtain ⟨r10, h11, h⟩ := bi h
  have f12 := JcQ p h11
  try simp only [Nf] at f12
  try simp only [↓Da, Ua, JT, J3, J0, J2, Ja, J4, *, ↓reduceIte, Nat.reduceEqDiff, Nat.reduceAdd, Nat.reduceLT, Nat.reduceMul]
  rcases Jk h with ⟨h13, h⟩ | ⟨h13, h⟩
  · have h13n : ((r1.2 : Int) != 0) = false := by rw [bne, h13]; rfl
    try simp only [↓Da, Ua, JT, J3, J0, J2, Ja, J4, *, ↓reduceIte, Nat.reduceEqDiff, Nat.reduceAdd, Nat.reduceLT, Nat.reduceMul]
    rcases Jk h with ⟨h14, h⟩ | ⟨h14, h⟩
    · have h14n : ((r4.2 : Int) != 0) = false := by rw [bne, h14]; rfl
      try simp only [↓Da, Ua, JT, J3, J0, J2, Ja, J4, *, ↓reduceIte, Nat.reduceEqDiff, Nat.reduceAdd, Nat.reduceLT, Nat.reduceMul]
      rcases Jk h with ⟨h15, h⟩ | ⟨h15, h⟩
      · have h15n : ((r7.2 : Int) != 0) = false := by rw [bne, h15]; rfl
        try simp only [↓Da, Ua, JT, J3, J0, J2, Ja, J4, *, ↓reduceIte, Nat.reduceEqDiff, Nat.reduceAdd, Nat.reduceLT, Nat.reduceMul]
        rcases Jk h with ⟨h16, h⟩ | ⟨h16, h⟩
        · have h16n : ((r10.2.2 : Int) != 0) = false := by rw [bne, h16]; rfl
          try simp only [↓Da, Ua, JT, J3, J0, J2, Ja, J4, *, ↓reduceIte, Nat.reduceEqDiff, Nat.reduceAdd, Nat.reduceLT, Nat.reduceMul]
          rcases Jk h with ⟨h17, h⟩ | ⟨h17, h⟩
          · have h17n : ((r10.2.1 : Int) != 1) = false := by rw [bne, h17]; rfl
            try simp only [↓Da, Ua, JT, J3, J0, J2, Ja, J4, *, ↓reduceIte, Nat.reduceEqDiff, Nat.reduceAdd, Nat.reduceLT, Nat.reduceMul]
            rcases Jk h with ⟨h18, h⟩ | ⟨h18, h⟩
            · have h18n : ((((List.length r10.1.Frames : Nat) : Int) : Int) != 2) = false := by rw [bne, h18]; rfl
              obtain ⟨y19, h20, h⟩ := bi h
              have f21 := J5k (r := J1) h20
              try simp only [Nf] at f21
              try simp only [↓Da, Ua, JT, J3, J0, J2, Ja, J4, *, ↓reduceIte, Nat.reduceEqDiff, Nat.reduceAdd, Nat.reduceLT, Nat.reduceMul]
              rcases Jk h with ⟨h22, h⟩ | ⟨h22, h⟩
              · obtain rfl := sj h
                try simp only [↓Da, Ua, JT, J3, J0, J2, Ja, J4, J20, *, ↓reduceIte, Nat.reduceEqDiff, Nat.reduceAdd, Nat.reduceLT, Nat.reduceMul]
                rfl
              · obtain ⟨y23, h24, h⟩ := bi h
                have f25 := J5k (r := J1) h24
                try simp only [Nf] at f25
                obtain rfl := sj h
                try simp only [↓Da, Ua, JT, J3, J0, J2, Ja, J4, J20, *, ↓reduceIte, Nat.reduceEqDiff, Nat.reduceAdd, Nat.reduceLT, Nat.reduceMul]
                rfl
            · have h18n : ((((List.length r10.1.Frames : Nat) : Int) : Int) != 2) = true := by rw [bne, h18]; rfl
              obtain rfl := sj h
              try simp only [↓Da, Ua, JT, J3, J0, J2, Ja, J4, J20, *, ↓reduceIte, Nat.reduceEqDiff, Nat.reduceAdd, Nat.reduceLT, Nat.reduceMul]
              rfl
          · have h17n : ((r10.2.1 : Int) != 1) = true := by rw [bne, h17]; rfl
            obtain rfl := sj h
            try simp only [↓Da, Ua, JT, J3, J0, J2, Ja, J4, J20, *, ↓reduceIte, Nat.reduceEqDiff, Nat.reduceAdd, Nat.reduceLT, Nat.reduceMul]
            rfl
        · have h16n : ((r10.2.2 : Int) != 0) = true := by rw [bne, h16]; rfl
          obtain rfl := sj h
          try simp only [↓Da, Ua, JT, J3, J0, J2, Ja, J4, J20, *, ↓reduceIte, Nat.reduceEqDiff, Nat.reduceAdd, Nat.reduceLT, Nat.reduceMul]
          rfl
      · have h15n : ((r7.2 : Int) != 0) = true := by rw [bne, h15]; rfl
        obtain rfl := sj h
        try simp only [↓Da, Ua, JT, J3, J0, J2, Ja, J4, J20, *, ↓reduceIte, Nat.reduceEqDiff, Nat.reduceAdd, Nat.reduceLT, Nat.reduceMul]
        rfl
    · have h14n : ((r4.2 : Int) != 0) = true := by rw [bne, h14]; rfl
      obtain rfl := sj h
      try simp only [↓Da, Ua, JT, J3, J0, J2, Ja, J4, J20, *, ↓reduceIte, Nat.reduceEqDiff, Nat.reduceAdd, Nat.reduceLT, Nat.reduceMul]
      rfl
  · have h13n : ((r1.2 : Int) != 0) = true := by rw [bne, h13]; rfl
    obtain rfl := sj h
    try simp only [↓Da, Ua, JT, J3, J0, J2, Ja, J4, J20, *, ↓reduceIte, Nat.reduceEqDiff, Nat.reduceAdd, Nat.reduceLT, Nat.reduceMul]
    rfl
theorem JcO  {o : Bool} (h : J2x = some o) : AF (J5 p) J3c [] [] = J8j o :=
  (J2d (J5 p) (JcC p) rfl).trans (J9x p h)
theorem JcB  {o : Bool} (h : J2x = some o) : ∀ ws new st, (Jx (AF (J5 p)) J3c ([], ws) 0 new).run st = some ⟨.p (.b o), ws⟩ := JZ rfl (JcO p h) rfl
def Jbf  (r : J8 × Bool) : Option Res := some (.tup [.data (J9 r.1), .p (.b r.2)], [])
def J3U (x0 : T_api_Pool) (x1 : Int) : Option (J8 × Bool) :=
  Option.bind (J2e x0 x1) fun r1 =>
  if (decide (r1 ≥ 0)) then
    Option.bind (idx x0.Frames r1) fun y5 =>
    some (y5.Page, true)
  else
    some ((⟨0, 0, (Vector.replicate 16 (⟨false, []⟩ : Jc))⟩ : J8), false)
theorem Jbo {x0 : T_api_Pool} {x1 : Int} {o : J8 × Bool} (h : J3U x0 x1 = some o) :
    rk (J5 p) J4T 0 [] (X (J5 p) J41 ⟨[(0, .data (J6 x0)), (1, .p (.i .i64 x1))], []⟩) = Jbf o := by
  unfold J3U at h
  obtain ⟨r1, h2, h⟩ := bi h
  have f3 := J9X p h2
  try simp only [Nf] at f3
  try simp only [↓Da, Ua, J41, J3, J0, J2, Ja, J4, *, ↓reduceIte, Nat.reduceEqDiff, Nat.reduceAdd, Nat.reduceLT, Nat.reduceMul]
  rcases Jk h with ⟨h4, h⟩ | ⟨h4, h⟩
  · obtain ⟨y5, h6, h⟩ := bi h
    have f7 := J5k (r := J1) h6
    try simp only [Nf] at f7
    obtain rfl := sj h
    try simp only [↓Da, Ua, J41, J3, J0, J2, Ja, J4, JaK, *, ↓reduceIte, Nat.reduceEqDiff, Nat.reduceAdd, Nat.reduceLT, Nat.reduceMul]
    rfl
  · obtain rfl := sj h
    try simp only [↓Da, Ua, J41, J3, J0, J2, Ja, J4, JaK, *, ↓reduceIte, Nat.reduceEqDiff, Nat.reduceAdd, Nat.reduceLT, Nat.reduceMul]
    rfl
theorem JfX {x0 : T_api_Pool} {x1 : Int} {o : J8 × Bool} (h : J3U x0 x1 = some o) : AF (J5 p) J4G [.data (J6 x0), .p (.i .i64 x1)] [] = Jbf o :=
  (J2d (J5 p) (JfY p) rfl).trans (Jbo p h)
theorem JfB {x0 : T_api_Pool} {x1 : Int} {o : J8 × Bool} (h : J3U x0 x1 = some o) : ∀ ws new st, (Jx (AF (J5 p)) J4G ([.data (J6 x0), .p (.i .i64 x1)], ws) 0 new).run st = some ⟨.tup [.data (J9 o.1), .p (.b o.2)], ws⟩ := JZ rfl (JfX p h) rfl
def J1D  (r : Bool) : Option Res := some (.p (.b r), [])
def J7V (x1 : Int) (x5 : Int) (x7 : Int) (o : (Int × T_api_Pool) ⊕ (Bool)) : Option Res := match o with
  | .inl s => rk (J5 p) J0j 0 [.bl 0, .td 1 [1, 4, 5, 6, 7], .sq (.keep [1, 5, 6, 7] Jj)] (X (J5 p) (.lp 1 [1, 5, 6, 7, 8] J0i) ⟨[(1, .p (.i .u8 x1)), (5, .p (.i .i64 x5)), (6, .ptr 0 0), (7, .p (.i .i64 x7)), (8, .p (.i .i64 s.1))], [.box (List.map AV.p (J6 s.2))]⟩)
  | .inr o => J1D o
def J1K (x1 : Int) (x5 : Int) (x7 : Int) (b0 : T_api_Pool) : Option (Bool) :=
  Option.bind (J7e (IntKind.wrap .i64 x1) x5) fun q1 =>
  Option.bind (J0m b0 (⟨x5, 0, (Vector.replicate 16 (⟨false, []⟩ : Jc))⟩ : J8)) fun r3 =>
  Option.bind (J0m b0 (⟨q1, 0, (Vector.replicate 16 (⟨false, []⟩ : Jc))⟩ : J8)) fun r6 =>
  Option.bind (J1H b0 q1) fun r9 =>
  Option.bind (J3U r9.1 q1) fun r12 =>
  Option.bind (J0m r9.1 (⟨x5, 0, (Vector.replicate 16 (⟨false, []⟩ : Jc))⟩ : J8)) fun r15 =>
  Option.bind (J1H r9.1 q1) fun r18 =>
  if ((x7 : Int) == 0) then
    if ((r3.2 : Int) == 21) then
      if ((r6.2 : Int) == 25) then
        if ((r9.2 : Int) == 0) then
          if r12.2 then
            some false
          else
            if ((r15.2 : Int) == 0) then
              if ((((List.length r15.1.Frames : Nat) : Int) : Int) == x5) then
                Option.bind (J2e r15.1 x5) fun r28 =>
                if ((r28 : Int) == (IntKind.wrap .i64 (x5 - 1))) then
                  if ((r18.2 : Int) == 18) then
                    Option.bind (J0V r15.1) fun r33 =>
                    some r33
                  else
                    some false
                else
                  some false
              else
                some false
            else
              some false
        else
          some false
      else
        some false
    else
      some false
  else
    some false
theorem J7S {x1 : Int} {x5 : Int} {x7 : Int} {b0 : T_api_Pool} {o : Bool} (h : J1K x1 x5 x7 b0 = some o) :
    rk (J5 p) J0j 0 [] (X (J5 p) Jj ⟨[(1, .p (.i .u8 x1)), (5, .p (.i .i64 x5)), (6, .ptr 0 0), (7, .p (.i .i64 x7))], [.box (List.map AV.p (J6 b0))]⟩) = J1D o := by
  unfold J1K at h
  obtain ⟨q1, h2, h⟩ := bi h
  obtain ⟨r3, h4, h⟩ := bi h
  have f5 := J4O p h4
  try simp only [Nf] at f5
  obtain ⟨r6, h7, h⟩ := bi h
  have f8 := J4O p h7
  try simp only [Nf] at f8
  obtain ⟨r9, h10, h⟩ := bi h
  have f11 := J9V p h10
  try simp only [Nf] at f11
  obtain ⟨r12, h13, h⟩ := bi h
  have f14 := JfB p h13
  try simp only [Nf] at f14
  obtain ⟨r15, h16, h⟩ := bi h
  have f17 := J4O p h16
  try simp only [Nf] at f17
  obtain ⟨r18, h19, h⟩ := bi h
  have f20 := J9V p h19
  try simp only [Nf] at f20
  try simp only [↓Da, Ua, Jj, J3, J0, J2, Ja, J4, *, ↓reduceIte, Nat.reduceEqDiff, Nat.reduceAdd, Nat.reduceLT, Nat.reduceMul]
  rcases Jk h with ⟨h21, h⟩ | ⟨h21, h⟩
  · have h21n : ((x7 : Int) != 0) = false := by rw [bne, h21]; rfl
    try simp only [↓Da, Ua, Jj, J3, J0, J2, Ja, J4, *, ↓reduceIte, Nat.reduceEqDiff, Nat.reduceAdd, Nat.reduceLT, Nat.reduceMul]
    rcases Jk h with ⟨h22, h⟩ | ⟨h22, h⟩
    · have h22n : ((r3.2 : Int) != 21) = false := by rw [bne, h22]; rfl
      try simp only [↓Da, Ua, Jj, J3, J0, J2, Ja, J4, *, ↓reduceIte, Nat.reduceEqDiff, Nat.reduceAdd, Nat.reduceLT, Nat.reduceMul]
      rcases Jk h with ⟨h23, h⟩ | ⟨h23, h⟩
      · have h23n : ((r6.2 : Int) != 25) = false := by rw [bne, h23]; rfl
        try simp only [↓Da, Ua, Jj, J3, J0, J2, Ja, J4, *, ↓reduceIte, Nat.reduceEqDiff, Nat.reduceAdd, Nat.reduceLT, Nat.reduceMul]
        rcases Jk h with ⟨h24, h⟩ | ⟨h24, h⟩
        · have h24n : ((r9.2 : Int) != 0) = false := by rw [bne, h24]; rfl
          try simp only [↓Da, Ua, Jj, J3, J0, J2, Ja, J4, *, ↓reduceIte, Nat.reduceEqDiff, Nat.reduceAdd, Nat.reduceLT, Nat.reduceMul]
          rcases Jk h with ⟨h25, h⟩ | ⟨h25, h⟩
          · obtain rfl := sj h
            try simp only [↓Da, Ua, Jj, J3, J0, J2, Ja, J4, J05, *, ↓reduceIte, Nat.reduceEqDiff, Nat.reduceAdd, Nat.reduceLT, Nat.reduceMul]
            rfl
          · try simp only [↓Da, Ua, Jj, J3, J0, J2, Ja, J4, *, ↓reduceIte, Nat.reduceEqDiff, Nat.reduceAdd, Nat.reduceLT, Nat.reduceMul]
            rcases Jk h with ⟨h26, h⟩ | ⟨h26, h⟩
            · have h26n : ((r15.2 : Int) != 0) = false := by rw [bne, h26]; rfl
              try simp only [↓Da, Ua, Jj, J3, J0, J2, Ja, J4, *, ↓reduceIte, Nat.reduceEqDiff, Nat.reduceAdd, Nat.reduceLT, Nat.reduceMul]
              rcases Jk h with ⟨h27, h⟩ | ⟨h27, h⟩
              · obtain ⟨r28, h29, h⟩ := bi h
                have f30 := J9X p h29
                try simp only [Nf] at f30
                try simp only [↓Da, Ua, Jj, J3, J0, J2, Ja, J4, *, ↓reduceIte, Nat.reduceEqDiff, Nat.reduceAdd, Nat.reduceLT, Nat.reduceMul]
                rcases Jk h with ⟨h31, h⟩ | ⟨h31, h⟩
                · try simp only [↓Da, Ua, Jj, J3, J0, J2, Ja, J4, *, ↓reduceIte, Nat.reduceEqDiff, Nat.reduceAdd, Nat.reduceLT, Nat.reduceMul]
                  rcases Jk h with ⟨h32, h⟩ | ⟨h32, h⟩
                  · have h32n : ((r18.2 : Int) != 18) = false := by rw [bne, h32]; rfl
                    obtain ⟨r33, h34, h⟩ := bi h
                    have f35 := J4B p h34
                    try simp only [Nf] at f35
                    obtain rfl := sj h
                    try simp only [↓Da, Ua, Jj, J3, J0, J2, Ja, J4, J05, *, ↓reduceIte, Nat.reduceEqDiff, Nat.reduceAdd, Nat.reduceLT, Nat.reduceMul]
                    rfl
                  · have h32n : ((r18.2 : Int) != 18) = true := by rw [bne, h32]; rfl
                    obtain rfl := sj h
                    try simp only [↓Da, Ua, Jj, J3, J0, J2, Ja, J4, J05, *, ↓reduceIte, Nat.reduceEqDiff, Nat.reduceAdd, Nat.reduceLT, Nat.reduceMul]
                    rfl
                · obtain rfl := sj h
                  try simp only [↓Da, Ua, Jj, J3, J0, J2, Ja, J4, J05, *, ↓reduceIte, Nat.reduceEqDiff, Nat.reduceAdd, Nat.reduceLT, Nat.reduceMul]
                  rfl
              · obtain rfl := sj h
                try simp only [↓Da, Ua, Jj, J3, J0, J2, Ja, J4, J05, *, ↓reduceIte, Nat.reduceEqDiff, Nat.reduceAdd, Nat.reduceLT, Nat.reduceMul]
                rfl
            · have h26n : ((r15.2 : Int) != 0) = true := by rw [bne, h26]; rfl
              obtain rfl := sj h
              try simp only [↓Da, Ua, Jj, J3, J0, J2, Ja, J4, J05, *, ↓reduceIte, Nat.reduceEqDiff, Nat.reduceAdd, Nat.reduceLT, Nat.reduceMul]
              rfl
        · have h24n : ((r9.2 : Int) != 0) = true := by rw [bne, h24]; rfl
          obtain rfl := sj h
          try simp only [↓Da, Ua, Jj, J3, J0, J2, Ja, J4, J05, *, ↓reduceIte, Nat.reduceEqDiff, Nat.reduceAdd, Nat.reduceLT, Nat.reduceMul]
          rfl
      · have h23n : ((r6.2 : Int) != 25) = true := by rw [bne, h23]; rfl
        obtain rfl := sj h
        try simp only [↓Da, Ua, Jj, J3, J0, J2, Ja, J4, J05, *, ↓reduceIte, Nat.reduceEqDiff, Nat.reduceAdd, Nat.reduceLT, Nat.reduceMul]
        rfl
    · have h22n : ((r3.2 : Int) != 21) = true := by rw [bne, h22]; rfl
      obtain rfl := sj h
      try simp only [↓Da, Ua, Jj, J3, J0, J2, Ja, J4, J05, *, ↓reduceIte, Nat.reduceEqDiff, Nat.reduceAdd, Nat.reduceLT, Nat.reduceMul]
      rfl
  · have h21n : ((x7 : Int) != 0) = true := by rw [bne, h21]; rfl
    obtain rfl := sj h
    try simp only [↓Da, Ua, Jj, J3, J0, J2, Ja, J4, J05, *, ↓reduceIte, Nat.reduceEqDiff, Nat.reduceAdd, Nat.reduceLT, Nat.reduceMul]
    rfl
def J0S (x1 : Int) (x5 : Int) (x7 : Int) (x8 : Int) (b0 : T_api_Pool) : Option (((Int × T_api_Pool) ⊕ (Bool))) :=
  if (decide (x8 < x5)) then
    Option.bind (J0m b0 (⟨x8, 0, (Vector.replicate 16 (⟨false, []⟩ : Jc))⟩ : J8)) fun r2 =>
    if ((r2.2 : Int) != 0) then
      some (.inr false)
    else
      some (.inl ((IntKind.wrap .i64 (x8 + 1)), r2.1))
  else
    Option.map (fun o => .inr o) (J1K x1 x5 x7 b0)
theorem J5t {x1 : Int} {x5 : Int} {x7 : Int} {x8 : Int} {b0 : T_api_Pool} {o : ((Int × T_api_Pool) ⊕ (Bool))} (h : J0S x1 x5 x7 x8 b0 = some o) :
    rk (J5 p) J0j 0 [.lo 1 [1, 5, 6, 7, 8] J0i, .bl 0, .td 1 [1, 4, 5, 6, 7], .sq (.keep [1, 5, 6, 7] Jj)] (X (J5 p) J0i ⟨[(1, .p (.i .u8 x1)), (5, .p (.i .i64 x5)), (6, .ptr 0 0), (7, .p (.i .i64 x7)), (8, .p (.i .i64 x8))], [.box (List.map AV.p (J6 b0))]⟩) = (J7V p x1 x5 x7) o := by
  unfold J0S at h
  rcases Jk h with ⟨h1, h⟩ | ⟨h1, h⟩
  · obtain ⟨r2, h3, h⟩ := bi h
    have f4 := J4O p h3
    try simp only [Nf] at f4
    try simp only [↓Da, Ua, J0i, J3, J0, J2, Ja, J4, *, ↓reduceIte, Nat.reduceEqDiff, Nat.reduceAdd, Nat.reduceLT, Nat.reduceMul]
    rcases Jk h with ⟨h5, h⟩ | ⟨h5, h⟩
    · obtain rfl := sj h
      try simp only [↓Da, Ua, J0i, J3, J0, J2, Ja, J4, J05, *, ↓reduceIte, Nat.reduceEqDiff, Nat.reduceAdd, Nat.reduceLT, Nat.reduceMul]
      rfl
    · obtain rfl := sj h
      try simp only [↓Da, Ua, J0i, J3, J0, J2, Ja, J4, *, ↓reduceIte, Nat.reduceEqDiff, Nat.reduceAdd, Nat.reduceLT, Nat.reduceMul]
      rfl
  · obtain ⟨o', h', rfl⟩ := mi h
    try simp only [↓Da, Ua, J0i, J3, J0, J2, Ja, J4, *, ↓reduceIte, Nat.reduceEqDiff, Nat.reduceAdd, Nat.reduceLT, Nat.reduceMul]
    have e0 := J7S p h'
    exact e0
def J5B (x1 : Int) (x5 : Int) (x7 : Int) (s : Int × T_api_Pool) : Option (Bool) :=
  J07 (fun s => J0S x1 x5 x7 s.1 s.2) s
theorem J78 {x1 : Int} {x5 : Int} {x7 : Int} {s : Int × T_api_Pool} {o : Bool} (h : J5B x1 x5 x7 s = some o) :
    rk (J5 p) J0j 0 [.bl 0, .td 1 [1, 4, 5, 6, 7], .sq (.keep [1, 5, 6, 7] Jj)] (X (J5 p) (.lp 1 [1, 5, 6, 7, 8] J0i) ⟨[(1, .p (.i .u8 x1)), (5, .p (.i .i64 x5)), (6, .ptr 0 0), (7, .p (.i .i64 x7)), (8, .p (.i .i64 s.1))], [.box (List.map AV.p (J6 s.2))]⟩) = J1D o := by
  have h0 : J07 (fun s => J0S x1 x5 x7 s.1 s.2) s = some o := h
  exact J3s (P := fun (s : Int × T_api_Pool) (o : Bool) => rk (J5 p) J0j 0 [.bl 0, .td 1 [1, 4, 5, 6, 7], .sq (.keep [1, 5, 6, 7] Jj)] (X (J5 p) (.lp 1 [1, 5, 6, 7, 8] J0i) ⟨[(1, .p (.i .u8 x1)), (5, .p (.i .i64 x5)), (6, .ptr 0 0), (7, .p (.i .i64 x7)), (8, .p (.i .i64 s.1))], [.box (List.map AV.p (J6 s.2))]⟩) = J1D o) (fun s r hs => by rw [J32]; exact J5t p hs) (fun s s1 r hs ih => by rw [J32]; exact (J5t p hs).trans ih) h0
def J2j (x0 : Int) (x1 : Int) : Option (Bool) :=
  Option.bind (J2x) fun r1 =>
  if r1 then
    Option.bind (J7e (IntKind.wrap .i64 x0) 10) fun q5 =>
    Option.bind (J2H (IntKind.wrap .i64 (1 + q5))) fun r7 =>
    J5B x1 (IntKind.wrap .i64 (1 + q5)) r7.2 (0, r7.1)
  else
    some false
theorem J7d {x0 : Int} {x1 : Int} {o : Bool} (h : J2j x0 x1 = some o) :
    rk (J5 p) J0j 0 [] (X (J5 p) J1a ⟨[(0, .p (.i .u8 x0)), (1, .p (.i .u8 x1))], []⟩) = J1D o := by
  unfold J2j at h
  obtain ⟨r1, h2, h⟩ := bi h
  have f3 := JcB p h2
  try simp only [Nf] at f3
  try simp only [↓Da, Ua, J1a, J3, J0, J2, Ja, J4, *, ↓reduceIte, Nat.reduceEqDiff, Nat.reduceAdd, Nat.reduceLT, Nat.reduceMul]
  rcases Jk h with ⟨h4, h⟩ | ⟨h4, h⟩
  · obtain ⟨q5, h6, h⟩ := bi h
    obtain ⟨r7, h8, h⟩ := bi h
    have f9 := JaD p h8
    try simp only [Nf] at f9
    try simp only [↓Da, Ua, J1a, J3, J0, J2, Ja, J4, *, ↓reduceIte, Nat.reduceEqDiff, Nat.reduceAdd, Nat.reduceLT, Nat.reduceMul]
    have e0 := J78 p h
    exact e0
  · obtain rfl := sj h
    try simp only [↓Da, Ua, J1a, J3, J0, J2, Ja, J4, J05, *, ↓reduceIte, Nat.reduceEqDiff, Nat.reduceAdd, Nat.reduceLT, Nat.reduceMul]
    rfl
theorem J8R {x0 : Int} {x1 : Int} {o : Bool} (h : J2j x0 x1 = some o) : AF (J5 p) J3r [.p (.i .u8 x0), .p (.i .u8 x1)] [] = J1D o :=
  (J2d (J5 p) (J8H p) rfl).trans (J7d p h)
end
end Go.Am
end
section
end
section
namespace Go.Am
theorem J5C {n : Int} (h1 : -9223372036854775808 ≤ n) (h2 : n ≤ 9223372036854775807) : IntKind.i64.wrap n = n := by
  simp [IntKind.wrap_i64]; omega
theorem Jjh {α : Type} (l : List α) (k : Nat) : idx l (k : Int) = l[k]? := by simp [idx]
theorem J5f {α : Type} {n : Nat} (v : Vector α n) (k : Nat) (h : k < n) : J6b v (k : Int) = some v[k] := by
  have e : (0 : Int) ≤ k ∧ (k : Int) < n := by omega
  simp [J6b, e, h]
theorem J9g {n k : Nat} (h : k < n) : inb n (k : Int) = some () := by
  have e : (0 : Int) ≤ k ∧ (k : Int) < n := by omega
  simp [inb, e]
theorem J2V {k : Nat} (h : k < 1000000) : IntKind.i64.wrap ((k : Int) + 1) = ((k + 1 : Nat) : Int) := by
  rw [J5C (by omega) (by omega)]; simp
theorem J2N {σ ρ : Type} {f : σ → Option (σ ⊕ ρ)} (I : σ → Prop) (m : σ → Nat) (Q : ρ → Prop)
    (h : ∀ s, I s → (∃ s', f s = some (.inl s') ∧ I s' ∧ m s' < m s) ∨ (∃ r, f s = some (.inr r) ∧ Q r)) : ∀ s, I s → ∃ r, J07 f s = some r ∧ Q r := by
  have key : ∀ n s, m s ≤ n → I s → ∃ r, J07 f s = some r ∧ Q r := by
    intro n
    induction n with
    | zero =>
      intro s hm hs
      rcases h s hs with ⟨s', e, hs', hlt⟩ | ⟨r, e, hq⟩
      · omega
      · exact ⟨r, J2I e, hq⟩
    | succ n ih =>
      intro s hm hs
      rcases h s hs with ⟨s', e, hs', hlt⟩ | ⟨r, e, hq⟩
      · obtain ⟨r, hr, hq⟩ := ih s' (by omega) hs'
        exact ⟨r, (J43 e).trans hr, hq⟩
      · exact ⟨r, J2I e, hq⟩
  exact fun s hs => key (m s) s (Nat.le_refl _) hs
def J4r (lsn : Int) (c : Jc) : Prop := c.Data.length ≤ 12 ∧ (c.Set = false → c.Data = []) ∧ (c.Set = true → lsn ≠ 0)
structure J4D (p : J8) : Prop where
  id0 : 0 ≤ p.ID
  id1 : p.ID < 64
  lsn0 : 0 ≤ p.LSN
  lsn1 : p.LSN ≤ 1099511627776
  cells : ∀ (i : Nat) (h : i < 16), J4r p.LSN (p.Cells[i])
theorem J7U {id lsn : Int} (h0 : 0 ≤ id) (h1 : id < 64) (h2 : 0 ≤ lsn) (h3 : lsn ≤ 1099511627776) : J4D ⟨id, lsn, Vector.replicate 16 ⟨false, []⟩⟩ :=
  ⟨h0, h1, h2, h3, fun i h => by simp [J4r]⟩
end Go.Am
end
