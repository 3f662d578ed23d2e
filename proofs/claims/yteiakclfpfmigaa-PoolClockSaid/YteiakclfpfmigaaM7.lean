/-
  Parts of a proof: AmPrim, YteiakclfpfmigaaKTy, YteiakclfpfmigaaKFns, YteiakclfpfmigaaKS1.
-/
import Derived.Below
import Derived.Test.YteiakclfpfmigaaM1
import Derived.Test.YteiakclfpfmigaaM4
import Derived.Test.YteiakclfpfmigaaM5
import Derived.Test.YteiakclfpfmigaaM6
set_option linter.unusedSimpArgs false
set_option linter.unusedVariables false
section
set_option linter.unusedSimpArgs false
set_option linter.unusedVariables false
namespace Go.Am
open Go.RowKit
theorem JiE {σ : List Blk} {g : Gh} {w w' : World} (hi : Inv ⟨σ, g, w⟩) (hb : Below w.heap.size w w') :
    Inv ⟨σ, g, w'⟩ ∧ JA ⟨σ, g, w⟩ ⟨σ, g, w'⟩ := by
  have hk : ∀ (r : Nat) x, w.heap[r]? = some x → w'.heap[r]? = some x := fun r x h => by rw [hb.block r (J12 h)]; exact h
  have hc : ∀ r o v, JZ w r o = some v → JZ w' r o = some v := by
    intro r o v h
    have hr : r < w.heap.size := by
      unfold JZ at h
      split at h
      · rename_i hx; exact J12 hx
      · cases h
    unfold JZ at h ⊢
    rw [hb.block r hr]
    exact h
  have t : JA ⟨σ, g, w⟩ ⟨σ, g, w'⟩ := by
    refine ⟨⟨hb.size, fun r c e fz h => ⟨c, hk r _ h, rfl, fun _ _ => rfl⟩, fun r x h _ => hk r x h, hb.os, hb.output⟩, fun _ _ h => h, fun _ _ h => .inl h, fun r o ⟨b, hb⟩ => .inl ⟨b, hb⟩, Nat.le_refl _, fun _ cs h => ⟨⟨cs, h, rfl⟩, rfl⟩,
      fun _ wm _ rows h => ⟨wm, rows, h, id, Nat.le_refl _, fun _ => rfl⟩⟩
  exact ⟨J5i hi t (fun _ => False) (fun _ _ => ⟨rfl, rfl⟩) (fun _ r o v _ _ h => hc r o v h) (fun _ _ h => h.elim) (fun _ _ _ _ h => h.elim)
    (fun _ _ _ _ h => h.elim) (fun r o h => Nat.lt_of_lt_of_le (hi.const r o h).1 hb.size) (fun _ _ _ _ h => h.elim) (fun _ _ _ h h' => (h' h).elim), t⟩
def JaJ : PV → Option Value
  | .b x => some (.bool x)
  | .i k n => some (.int k n)
  | .s l => some (.string ⟨l.toArray⟩)
  | _ => none
theorem JhX {x : PV} {v : Value} (h : JaJ x = some v) (w : World) (C : Nat → Nat → Prop) : JJ w C x v := by
  cases x <;> simp only [JaJ, Option.some.injEq, reduceCtorEq] at h <;> subst h
  · exact .b _
  · exact .i _ _
  · exact .s _
theorem Jks {x : PV} {v v' : Value} {w : World} {C : Nat → Nat → Prop} (h : JJ w C x v) (hv : JaJ x = some v') : v = v' := by
  cases x <;> simp only [JaJ, Option.some.injEq, reduceCtorEq] at hv <;> subst hv <;> cases h <;> rfl
theorem Jc2 {P : Program} {f : FuncId} {xs : List PV} {vs : List Value} {r : PV} {v : Value} {blks : List Blk}
    (hf : ∃ fn, P.funcs[f]? = some fn ∧ fn.body.isSome = true ∧ (fn.name == "runtime.NumGoroutine") = false)
    (hx : xs.mapM JaJ = some vs) (hr : JaJ r = some v)
    (hc : ∀ w, Calls P f vs.toArray w fun e w' => e = .returned v ∧ Below w.heap.size w w') :
    J5e P f (xs.map .p) blks (.p r, blks) := by
  refine ⟨hf, fun g w vals hi hl ha => ?_⟩
  have hvals : vals = vs.toArray := by
    have key : ∀ (xs : List PV) (vs vl : List Value), xs.mapM JaJ = some vs → xs.length = vl.length →
        (∀ (i : Nat) x v, (xs.map AV.p)[i]? = some x → vl[i]? = some v → Jj ⟨blks, g, w⟩ x v) → vl = vs := by
      intro xs
      induction xs with
      | nil => intro vs vl h1 h2 _; simp at h1 h2; subst h1; exact List.length_eq_zero_iff.1 h2.symm
      | cons x r ih =>
        intro vs vl h1 h2 h3
        simp only [List.mapM_cons, Option.pure_def, Option.bind_eq_bind] at h1
        obtain ⟨v0, hv0, h1⟩ := Option.bind_eq_some_iff.1 h1
        obtain ⟨vr, hvr, h1⟩ := Option.bind_eq_some_iff.1 h1
        simp only [Option.some.injEq] at h1
        subst h1
        cases vl with
        | nil => simp at h2
        | cons u ur =>
          have := h3 0 (.p x) u rfl rfl
          cases this with
          | p _ _ hp =>
            rw [Jks hp hv0, ih vr ur hvr (by simpa using h2) (fun i x v hx hv => h3 (i + 1) x v hx hv)]
    apply Array.ext'
    rw [key xs vs vals.toList hx (by simpa using hl) (fun i x v h1 h2 => ha i x v h1 (by simpa using h2))]
  subst hvals
  refine (hc w).mono ?_
  rintro e w' ⟨rfl, hb⟩
  obtain ⟨hi', t⟩ := JiE hi hb
  exact ⟨v, g, rfl, hi', t, .p _ _ (JhX hr _ _)⟩
theorem Jfz {T : J2H} {f : FuncId} {g : List AV → List Blk → Option Res} (h : T f = some (.prim g)) (args blks) : AF T f args blks = g args blks := by
  unfold AF J5Y; rw [h]
def JlL (a : Option AFn) (k : Option J5L) (g q : Option (List AV → List Blk → Option Res)) : Option J4F :=
  match a with
  | some a => some (.fn a)
  | none => match k with
    | some k => some (.fork k)
    | none => match g with
      | some g => some (.prim g)
      | none => q.map .prim
theorem J8n {a : Option AFn} {k : Option J5L} {g q : Option (List AV → List Blk → Option Res)} {e : J4F} (h : JlL a k g q = some e) :
    (∃ x, a = some x ∧ e = .fn x) ∨ (∃ x, k = some x ∧ e = .fork x) ∨ (∃ x, g = some x ∧ e = .prim x) ∨ (∃ x, q = some x ∧ e = .prim x) := by
  cases a with
  | some a => exact .inl ⟨a, rfl, by injection h with h; exact h.symm⟩
  | none =>
    cases k with
    | some k => exact .inr (.inl ⟨k, rfl, by injection h with h; exact h.symm⟩)
    | none =>
      cases g with
      | some g => exact .inr (.inr (.inl ⟨g, rfl, by injection h with h; exact h.symm⟩))
      | none =>
        cases q with
        | some q => exact .inr (.inr (.inr ⟨q, rfl, by injection h with h; exact h.symm⟩))
        | none => cases h
def Jcg (l : List UInt8) (n : Int) : Option (List UInt8) :=
  if 0 ≤ n ∧ n ≤ 9223372036854775807 ∧ l.length * n.toNat ≤ 140737488355328 then some (List.replicate n.toNat l).flatten else none
def Jeb : List AV → List Blk → Option Res
  | [.p (.s l), .p (.i .i64 n)], blks => (Jcg l n).map fun r => (.p (.s r), blks)
  | _, _ => none
def J5j (n : Int) (i : Nat) : Int := IntKind.wrap .u8 ((IntKind.wrap .u64 n).fdiv (2 ^ (8 * i)))
def J1m (n : Int) (k : Nat) : List UInt8 := toStr ((List.range k).map (J5j n))
def Jcf (l : List UInt8) (n size : Int) : Option (List UInt8) :=
  if size < 1 ∨ 8 < size then some l
  else if l.length + 8 ≤ 140737488355328 then some (l ++ J1m n size.toNat) else none
def JeD : List AV → List Blk → Option Res
  | [.p (.s l), .p (.i .i64 n), .p (.i .i64 k)], blks => (Jcf l n k).map fun r => (.p (.s r), blks)
  | _, _ => none
theorem Jky (x : Int) : 0 ≤ IntKind.wrap .u8 x ∧ IntKind.wrap .u8 x < 256 := by
  have h : IntKind.wrap .u8 x = x % 256 := rfl
  rw [h]; omega
theorem Jgr (n : Int) (i : Nat) : ((UInt8.ofNat (J5j n i).toNat).toNat : Int) = J5j n i := by
  have h : 0 ≤ J5j n i ∧ J5j n i < 256 := Jky _
  have h2 : (J5j n i).toNat < 256 := by omega
  rw [UInt8.toNat_ofNat_of_lt' (by simpa using h2)]
  omega
theorem JgO (n : Int) (k : Nat) : J1m n (k + 1) = J1m n k ++ [UInt8.ofNat (J5j n k).toNat] := by
  simp [J1m, toStr, List.range_succ]
theorem J2Y (n : Int) (k : Nat) : (J1m n k).length = k := by simp [J1m, toStr]
theorem JfV (x y : Bool) : J0o [.b] [.b x] [.b y] = some (decide (x = y)) := by
  simp only [J0o, J8t]
  cases x <;> cases y <;> rfl
theorem Jgp (k : IntKind) (x y : Int) : J0o [.i k] [.i k x] [.i k y] = some (decide (x = y)) := by
  by_cases h : x = y <;> simp [J0o, J8t, h]
theorem Jmk (x y : List UInt8) : J0o [.s] [.s x] [.s y] = some (decide (x = y)) := by
  by_cases h : x = y <;> simp [J0o, J8t, h]
theorem J6g {p q : Prop} [Decidable p] [Decidable q] : ∀ {k1 k2 : List KD} {a1 a2 b1 b2 : List PV}, J0o k1 a1 b1 = some (decide p) → J0o k2 a2 b2 = some (decide q) → J0o (k1 ++ k2) (cat a1 a2) (cat b1 b2) = some (decide (p ∧ q)) := by
  have key : ∀ (k1 k2 : List KD) (a1 a2 b1 b2 : List PV) (r s : Bool), J0o k1 a1 b1 = some r → J0o k2 a2 b2 = some s → J0o (k1 ++ k2) (a1 ++ a2) (b1 ++ b2) = some (r && s) := by
    intro k1
    induction k1 with
    | nil =>
      intro k2 a1 a2 b1 b2 r s h1 h2
      cases a1 <;> cases b1 <;> simp [J0o] at h1
      subst h1
      simpa using h2
    | cons k ks ih =>
      intro k2 a1 a2 b1 b2 r s h1 h2
      cases a1 with
      | nil => simp [J0o] at h1
      | cons a a1 =>
        cases b1 with
        | nil => simp [J0o] at h1
        | cons b b1 =>
          simp only [J0o] at h1
          split at h1
          · rename_i u c hu hc
            injection h1 with h1
            subst h1
            simp only [List.cons_append, J0o, hu, ih _ _ _ _ _ _ _ hc h2, Bool.and_assoc]
          · cases h1
  intro k1 k2 a1 a2 b1 b2 h1 h2
  rw [key _ _ _ _ _ _ _ _ h1 h2, Bool.decide_and]
theorem Jlj {α : Type} [DecidableEq α] {n : Nat} {ks : List KD} {r : α → List PV} (h : ∀ x y, J0o ks (r x) (r y) = some (decide (x = y))) (v w : Vector α n) :
    J0o (List.replicate n ks).flatten (JF r v) (JF r w) = some (decide (v = w)) := by
  have key : ∀ (l l' : List α), l.length = l'.length → J0o (List.replicate l.length ks).flatten (l.map r).flatten (l'.map r).flatten = some (decide (l = l')) := by
    intro l
    induction l with
    | nil => intro l' h1; cases l' with
      | nil => simp [J0o]
      | cons a l' => simp at h1
    | cons a l ih =>
      intro l' h1
      cases l' with
      | nil => simp at h1
      | cons b l' =>
        have h2 := J6g (h a b) (ih l' (by simpa using h1))
        simp only [List.length_cons, List.replicate_succ, List.flatten_cons, List.map_cons]
        rw [show (decide (a :: l = b :: l')) = decide (a = b ∧ l = l') by simp]
        exact h2
  have h3 := key v.toList w.toList (by simp)
  rw [show v.toList.length = n by simp] at h3
  rw [show decide (v = w) = decide (v.toList = w.toList) by
    apply decide_eq_decide.2
    exact ⟨fun e => by rw [e], fun e => Vector.toList_inj.1 e⟩]
  exact h3
end Go.Am
end
section
namespace Go.Am
set_option maxRecDepth 8000
set_option maxHeartbeats 4000000
set_option linter.unusedSimpArgs false
set_option linter.unusedVariables false
structure Je where
  Set : Bool
  Data : List UInt8
  deriving DecidableEq
instance : Inhabited Je := ⟨⟨false, []⟩⟩
def Jc (x : Je) : List PV := (cat [.b x.Set] [.s x.Data])
theorem J0c (x : Je) : (Jc x).length = 2 := by
  simp only [cat, Jc, List.length_append, List.length_cons, List.length_nil]
theorem JaR (x : Je) : sub (Jc x) 0 1 = some [.b x.Set] := by unfold Jc; exact J5W rfl
theorem Jau (x : Je) (y : Bool) : spl (Jc x) 0 [.b y] = some (Jc ⟨y, x.Data⟩) := by unfold Jc; exact J5H rfl
theorem Ja6 (x : Je) : sub (Jc x) 1 1 = some [.s x.Data] := by
  have e0 : Jc x = cat [.b x.Set] [.s x.Data] := by unfold Jc; simp only [cat, List.append_assoc]
  rw [e0]; exact J6H (by simp only [cat, List.length_append, List.length_cons, List.length_nil]) rfl
theorem J9Z (x : Je) (y : List UInt8) : spl (Jc x) 1 [.s y] = some (Jc ⟨x.Set, y⟩) := by
  have e0 : Jc x = cat [.b x.Set] [.s x.Data] := by unfold Jc; simp only [cat, List.append_assoc]
  have e1 : Jc ⟨x.Set, y⟩ = cat [.b x.Set] [.s y] := by unfold Jc; simp only [cat, List.append_assoc]
  rw [e0, e1]; exact J6G (by simp only [cat, List.length_append, List.length_cons, List.length_nil]) rfl
theorem Je0 : (default : Je) = (⟨false, []⟩ : Je) := rfl
theorem Jdb (x : Je) : sub (Jc x) 0 2 = some (Jc x) := J6P (J0c x)
theorem Jde (x y : Je) : spl (Jc x) 0 (Jc y) = some (Jc y) := J6T ((J0c x).trans (J0c y).symm)
theorem J5 : (∀ x : Je, (Jc x).length = 2) ∧
  (∀ x : Je, sub (Jc x) 0 1 = some [.b x.Set]) ∧
  (∀ (x : Je) (y : Bool), spl (Jc x) 0 [.b y] = some (Jc ⟨y, x.Data⟩)) ∧
  (∀ x : Je, sub (Jc x) 1 1 = some [.s x.Data]) ∧
  (∀ (x : Je) (y : List UInt8), spl (Jc x) 1 [.s y] = some (Jc ⟨x.Set, y⟩)) ∧
  ((default : Je) = (⟨false, []⟩ : Je)) ∧
  (∀ x : Je, sub (Jc x) 0 2 = some (Jc x)) ∧
  (∀ x y : Je, spl (Jc x) 0 (Jc y) = some (Jc y)) :=
  ⟨@J0c, @JaR, @Jau, @Ja6, @J9Z, Je0, @Jdb, @Jde⟩
theorem JH : (∀ x : Je, Jc x = (cat [.b x.Set] [.s x.Data])) ∧ (default : Je) = (⟨false, []⟩ : Je) := ⟨fun _ => rfl, rfl⟩
theorem J0 : (∀ v : Vector Je 16, (JF Jc v).length = 32) ∧ (∀ v : Vector Je 16, sub (JF Jc v) 0 32 = some (JF Jc v)) ∧ (∀ v y : Vector Je 16, spl (JF Jc v) 0 (JF Jc y) = some (JF Jc y)) :=
  ⟨fun v => J2P J0c v, fun v => J6P (J2P J0c v), fun v y => J6T ((J2P J0c v).trans (J2P J0c y).symm)⟩
structure Jb where
  ID : Int
  LSN : Int
  Cells : Vector Je 16
  deriving DecidableEq
instance : Inhabited Jb := ⟨⟨0, 0, (Vector.replicate 16 (⟨false, []⟩ : Je))⟩⟩
def J7 (x : Jb) : List PV := (cat [.i .i64 x.ID] (cat [.i .i64 x.LSN] ((JF Jc) x.Cells)))
theorem J0D (x : Jb) : (J7 x).length = 34 := by
  simp only [cat, J7, (J2P J0c x.Cells), List.length_append, List.length_cons, List.length_nil]
theorem J4E (x : Jb) : sub (J7 x) 0 1 = some [.i .i64 x.ID] := by unfold J7; exact J5W rfl
theorem Jbv (x : Jb) (y : Int) : spl (J7 x) 0 [.i .i64 y] = some (J7 ⟨y, x.LSN, x.Cells⟩) := by unfold J7; exact J5H rfl
theorem J77 (x : Jb) : sub (J7 x) 1 1 = some [.i .i64 x.LSN] := by
  have e0 : J7 x = cat [.i .i64 x.ID] (cat [.i .i64 x.LSN] ((JF Jc) x.Cells)) := by unfold J7; simp only [cat, List.append_assoc]
  rw [e0]; exact J5A (by simp only [cat, List.length_append, List.length_cons, List.length_nil, (J2P J0c x.Cells)]) rfl
theorem JaG (x : Jb) (y : Int) : spl (J7 x) 1 [.i .i64 y] = some (J7 ⟨x.ID, y, x.Cells⟩) := by
  have e0 : J7 x = cat [.i .i64 x.ID] (cat [.i .i64 x.LSN] ((JF Jc) x.Cells)) := by unfold J7; simp only [cat, List.append_assoc]
  have e1 : J7 ⟨x.ID, y, x.Cells⟩ = cat [.i .i64 x.ID] (cat [.i .i64 y] ((JF Jc) x.Cells)) := by unfold J7; simp only [cat, List.append_assoc]
  rw [e0, e1]; exact J5z (by simp only [cat, List.length_append, List.length_cons, List.length_nil, (J2P J0c x.Cells)]) rfl
theorem J92 (x : Jb) : sub (J7 x) 2 32 = some ((JF Jc) x.Cells) := by
  have e0 : J7 x = cat (cat [.i .i64 x.ID] [.i .i64 x.LSN]) ((JF Jc) x.Cells) := by unfold J7; simp only [cat, List.append_assoc]
  rw [e0]; exact J6H (by simp only [cat, List.length_append, List.length_cons, List.length_nil, (J2P J0c x.Cells)]) (J2P J0c _)
theorem J9y (x : Jb) (y : Vector Je 16) : spl (J7 x) 2 ((JF Jc) y) = some (J7 ⟨x.ID, x.LSN, y⟩) := by
  have e0 : J7 x = cat (cat [.i .i64 x.ID] [.i .i64 x.LSN]) ((JF Jc) x.Cells) := by unfold J7; simp only [cat, List.append_assoc]
  have e1 : J7 ⟨x.ID, x.LSN, y⟩ = cat (cat [.i .i64 x.ID] [.i .i64 x.LSN]) ((JF Jc) y) := by unfold J7; simp only [cat, List.append_assoc]
  rw [e0, e1]; exact J6G (by simp only [cat, List.length_append, List.length_cons, List.length_nil, (J2P J0c x.Cells)]) ((J2P J0c _).trans (J2P J0c _).symm)
theorem Jeg : (default : Jb) = (⟨0, 0, (Vector.replicate 16 (⟨false, []⟩ : Je))⟩ : Jb) := rfl
theorem Jdr (x : Jb) : sub (J7 x) 0 34 = some (J7 x) := J6P (J0D x)
theorem Jdj (x y : Jb) : spl (J7 x) 0 (J7 y) = some (J7 y) := J6T ((J0D x).trans (J0D y).symm)
theorem J4 : (∀ x : Jb, (J7 x).length = 34) ∧
  (∀ x : Jb, sub (J7 x) 0 1 = some [.i .i64 x.ID]) ∧
  (∀ (x : Jb) (y : Int), spl (J7 x) 0 [.i .i64 y] = some (J7 ⟨y, x.LSN, x.Cells⟩)) ∧
  (∀ x : Jb, sub (J7 x) 1 1 = some [.i .i64 x.LSN]) ∧
  (∀ (x : Jb) (y : Int), spl (J7 x) 1 [.i .i64 y] = some (J7 ⟨x.ID, y, x.Cells⟩)) ∧
  (∀ x : Jb, sub (J7 x) 2 32 = some ((JF Jc) x.Cells)) ∧
  (∀ (x : Jb) (y : Vector Je 16), spl (J7 x) 2 ((JF Jc) y) = some (J7 ⟨x.ID, x.LSN, y⟩)) ∧
  ((default : Jb) = (⟨0, 0, (Vector.replicate 16 (⟨false, []⟩ : Je))⟩ : Jb)) ∧
  (∀ x : Jb, sub (J7 x) 0 34 = some (J7 x)) ∧
  (∀ x y : Jb, spl (J7 x) 0 (J7 y) = some (J7 y)) :=
  ⟨@J0D, @J4E, @Jbv, @J77, @JaG, @J92, @J9y, Jeg, @Jdr, @Jdj⟩
structure T_api_Frame where
  Page : Jb
  Dirty : Bool
  Rec : Int
  Used : Bool
  deriving DecidableEq
instance : Inhabited T_api_Frame := ⟨⟨(⟨0, 0, (Vector.replicate 16 (⟨false, []⟩ : Je))⟩ : Jb), false, 0, false⟩⟩
def J1 (x : T_api_Frame) : List PV := (cat (J7 x.Page) (cat [.b x.Dirty] (cat [.i .i64 x.Rec] [.b x.Used])))
theorem J5o (x : T_api_Frame) : (J1 x).length = 37 := by
  simp only [cat, J1, J0D, List.length_append, List.length_cons, List.length_nil]
theorem J2C (x : T_api_Frame) : sub (J1 x) 0 34 = some (J7 x.Page) := by unfold J1; exact J5W (J0D _)
theorem J9v (x : T_api_Frame) (y : Jb) : spl (J1 x) 0 (J7 y) = some (J1 ⟨y, x.Dirty, x.Rec, x.Used⟩) := by unfold J1; exact J5H ((J0D _).trans (J0D _).symm)
theorem J8T (x : T_api_Frame) : sub (J1 x) 34 1 = some [.b x.Dirty] := by
  have e0 : J1 x = cat (J7 x.Page) (cat [.b x.Dirty] (cat [.i .i64 x.Rec] [.b x.Used])) := by unfold J1; simp only [cat, List.append_assoc]
  rw [e0]; exact J5A (by simp only [cat, List.length_append, List.length_cons, List.length_nil, J0D]) rfl
theorem J8O (x : T_api_Frame) (y : Bool) : spl (J1 x) 34 [.b y] = some (J1 ⟨x.Page, y, x.Rec, x.Used⟩) := by
  have e0 : J1 x = cat (J7 x.Page) (cat [.b x.Dirty] (cat [.i .i64 x.Rec] [.b x.Used])) := by unfold J1; simp only [cat, List.append_assoc]
  have e1 : J1 ⟨x.Page, y, x.Rec, x.Used⟩ = cat (J7 x.Page) (cat [.b y] (cat [.i .i64 x.Rec] [.b x.Used])) := by unfold J1; simp only [cat, List.append_assoc]
  rw [e0, e1]; exact J5z (by simp only [cat, List.length_append, List.length_cons, List.length_nil, J0D]) rfl
theorem Ja2 (x : T_api_Frame) : sub (J1 x) 35 1 = some [.i .i64 x.Rec] := by
  have e0 : J1 x = cat (cat (J7 x.Page) [.b x.Dirty]) (cat [.i .i64 x.Rec] [.b x.Used]) := by unfold J1; simp only [cat, List.append_assoc]
  rw [e0]; exact J5A (by simp only [cat, List.length_append, List.length_cons, List.length_nil, J0D]) rfl
theorem Ja7 (x : T_api_Frame) (y : Int) : spl (J1 x) 35 [.i .i64 y] = some (J1 ⟨x.Page, x.Dirty, y, x.Used⟩) := by
  have e0 : J1 x = cat (cat (J7 x.Page) [.b x.Dirty]) (cat [.i .i64 x.Rec] [.b x.Used]) := by unfold J1; simp only [cat, List.append_assoc]
  have e1 : J1 ⟨x.Page, x.Dirty, y, x.Used⟩ = cat (cat (J7 x.Page) [.b x.Dirty]) (cat [.i .i64 y] [.b x.Used]) := by unfold J1; simp only [cat, List.append_assoc]
  rw [e0, e1]; exact J5z (by simp only [cat, List.length_append, List.length_cons, List.length_nil, J0D]) rfl
theorem J9w (x : T_api_Frame) : sub (J1 x) 36 1 = some [.b x.Used] := by
  have e0 : J1 x = cat (cat (J7 x.Page) (cat [.b x.Dirty] [.i .i64 x.Rec])) [.b x.Used] := by unfold J1; simp only [cat, List.append_assoc]
  rw [e0]; exact J6H (by simp only [cat, List.length_append, List.length_cons, List.length_nil, J0D]) rfl
theorem J9r (x : T_api_Frame) (y : Bool) : spl (J1 x) 36 [.b y] = some (J1 ⟨x.Page, x.Dirty, x.Rec, y⟩) := by
  have e0 : J1 x = cat (cat (J7 x.Page) (cat [.b x.Dirty] [.i .i64 x.Rec])) [.b x.Used] := by unfold J1; simp only [cat, List.append_assoc]
  have e1 : J1 ⟨x.Page, x.Dirty, x.Rec, y⟩ = cat (cat (J7 x.Page) (cat [.b x.Dirty] [.i .i64 x.Rec])) [.b y] := by unfold J1; simp only [cat, List.append_assoc]
  rw [e0, e1]; exact J6G (by simp only [cat, List.length_append, List.length_cons, List.length_nil, J0D]) rfl
theorem Jdi : (default : T_api_Frame) = (⟨(⟨0, 0, (Vector.replicate 16 (⟨false, []⟩ : Je))⟩ : Jb), false, 0, false⟩ : T_api_Frame) := rfl
theorem JbY (x : T_api_Frame) : sub (J1 x) 0 37 = some (J1 x) := J6P (J5o x)
theorem Jcp (x y : T_api_Frame) : spl (J1 x) 0 (J1 y) = some (J1 y) := J6T ((J5o x).trans (J5o y).symm)
theorem J6 : (∀ x : T_api_Frame, (J1 x).length = 37) ∧
  (∀ x : T_api_Frame, sub (J1 x) 0 34 = some (J7 x.Page)) ∧
  (∀ (x : T_api_Frame) (y : Jb), spl (J1 x) 0 (J7 y) = some (J1 ⟨y, x.Dirty, x.Rec, x.Used⟩)) ∧
  (∀ x : T_api_Frame, sub (J1 x) 34 1 = some [.b x.Dirty]) ∧
  (∀ (x : T_api_Frame) (y : Bool), spl (J1 x) 34 [.b y] = some (J1 ⟨x.Page, y, x.Rec, x.Used⟩)) ∧
  (∀ x : T_api_Frame, sub (J1 x) 35 1 = some [.i .i64 x.Rec]) ∧
  (∀ (x : T_api_Frame) (y : Int), spl (J1 x) 35 [.i .i64 y] = some (J1 ⟨x.Page, x.Dirty, y, x.Used⟩)) ∧
  (∀ x : T_api_Frame, sub (J1 x) 36 1 = some [.b x.Used]) ∧
  (∀ (x : T_api_Frame) (y : Bool), spl (J1 x) 36 [.b y] = some (J1 ⟨x.Page, x.Dirty, x.Rec, y⟩)) ∧
  ((default : T_api_Frame) = (⟨(⟨0, 0, (Vector.replicate 16 (⟨false, []⟩ : Je))⟩ : Jb), false, 0, false⟩ : T_api_Frame)) ∧
  (∀ x : T_api_Frame, sub (J1 x) 0 37 = some (J1 x)) ∧
  (∀ x y : T_api_Frame, spl (J1 x) 0 (J1 y) = some (J1 y)) :=
  ⟨@J5o, @J2C, @J9v, @J8T, @J8O, @Ja2, @Ja7, @J9w, @J9r, Jdi, @JbY, @Jcp⟩
structure T_api_Pool where
  Size : Int
  Frames : List T_api_Frame
  Hand : Int
  deriving DecidableEq
instance : Inhabited T_api_Pool := ⟨⟨0, [], 0⟩⟩
def J3 (x : T_api_Pool) : List PV := (cat [.i .i64 x.Size] (cat [.sl 37 (List.map J1 x.Frames)] [.i .i64 x.Hand]))
theorem J5S (x : T_api_Pool) : (J3 x).length = 3 := by
  simp only [cat, J3, List.length_append, List.length_cons, List.length_nil]
theorem J9Y (x : T_api_Pool) : sub (J3 x) 0 1 = some [.i .i64 x.Size] := by unfold J3; exact J5W rfl
theorem Ja5 (x : T_api_Pool) (y : Int) : spl (J3 x) 0 [.i .i64 y] = some (J3 ⟨y, x.Frames, x.Hand⟩) := by unfold J3; exact J5H rfl
theorem J8X (x : T_api_Pool) : sub (J3 x) 1 1 = some [.sl 37 (List.map J1 x.Frames)] := by
  have e0 : J3 x = cat [.i .i64 x.Size] (cat [.sl 37 (List.map J1 x.Frames)] [.i .i64 x.Hand]) := by unfold J3; simp only [cat, List.append_assoc]
  rw [e0]; exact J5A (by simp only [cat, List.length_append, List.length_cons, List.length_nil]) rfl
theorem J8U (x : T_api_Pool) (y : List T_api_Frame) : spl (J3 x) 1 [.sl 37 (List.map J1 y)] = some (J3 ⟨x.Size, y, x.Hand⟩) := by
  have e0 : J3 x = cat [.i .i64 x.Size] (cat [.sl 37 (List.map J1 x.Frames)] [.i .i64 x.Hand]) := by unfold J3; simp only [cat, List.append_assoc]
  have e1 : J3 ⟨x.Size, y, x.Hand⟩ = cat [.i .i64 x.Size] (cat [.sl 37 (List.map J1 y)] [.i .i64 x.Hand]) := by unfold J3; simp only [cat, List.append_assoc]
  rw [e0, e1]; exact J5z (by simp only [cat, List.length_append, List.length_cons, List.length_nil]) rfl
theorem Jaa (x : T_api_Pool) : sub (J3 x) 2 1 = some [.i .i64 x.Hand] := by
  have e0 : J3 x = cat (cat [.i .i64 x.Size] [.sl 37 (List.map J1 x.Frames)]) [.i .i64 x.Hand] := by unfold J3; simp only [cat, List.append_assoc]
  rw [e0]; exact J6H (by simp only [cat, List.length_append, List.length_cons, List.length_nil]) rfl
theorem Jab (x : T_api_Pool) (y : Int) : spl (J3 x) 2 [.i .i64 y] = some (J3 ⟨x.Size, x.Frames, y⟩) := by
  have e0 : J3 x = cat (cat [.i .i64 x.Size] [.sl 37 (List.map J1 x.Frames)]) [.i .i64 x.Hand] := by unfold J3; simp only [cat, List.append_assoc]
  have e1 : J3 ⟨x.Size, x.Frames, y⟩ = cat (cat [.i .i64 x.Size] [.sl 37 (List.map J1 x.Frames)]) [.i .i64 y] := by unfold J3; simp only [cat, List.append_assoc]
  rw [e0, e1]; exact J6G (by simp only [cat, List.length_append, List.length_cons, List.length_nil]) rfl
theorem JdW : (default : T_api_Pool) = (⟨0, [], 0⟩ : T_api_Pool) := rfl
theorem Jdc (x : T_api_Pool) : sub (J3 x) 0 3 = some (J3 x) := J6P (J5S x)
theorem Jdn (x y : T_api_Pool) : spl (J3 x) 0 (J3 y) = some (J3 y) := J6T ((J5S x).trans (J5S y).symm)
theorem J9 : (∀ x : T_api_Pool, (J3 x).length = 3) ∧
  (∀ x : T_api_Pool, sub (J3 x) 0 1 = some [.i .i64 x.Size]) ∧
  (∀ (x : T_api_Pool) (y : Int), spl (J3 x) 0 [.i .i64 y] = some (J3 ⟨y, x.Frames, x.Hand⟩)) ∧
  (∀ x : T_api_Pool, sub (J3 x) 1 1 = some [.sl 37 (List.map J1 x.Frames)]) ∧
  (∀ (x : T_api_Pool) (y : List T_api_Frame), spl (J3 x) 1 [.sl 37 (List.map J1 y)] = some (J3 ⟨x.Size, y, x.Hand⟩)) ∧
  (∀ x : T_api_Pool, sub (J3 x) 2 1 = some [.i .i64 x.Hand]) ∧
  (∀ (x : T_api_Pool) (y : Int), spl (J3 x) 2 [.i .i64 y] = some (J3 ⟨x.Size, x.Frames, y⟩)) ∧
  ((default : T_api_Pool) = (⟨0, [], 0⟩ : T_api_Pool)) ∧
  (∀ x : T_api_Pool, sub (J3 x) 0 3 = some (J3 x)) ∧
  (∀ x y : T_api_Pool, spl (J3 x) 0 (J3 y) = some (J3 y)) :=
  ⟨@J5S, @J9Y, @Ja5, @J8X, @J8U, @Jaa, @Jab, JdW, @Jdc, @Jdn⟩
theorem JG : (∀ x : T_api_Pool, J3 x = (cat [.i .i64 x.Size] (cat [.sl 37 (List.map J1 x.Frames)] [.i .i64 x.Hand]))) ∧ (default : T_api_Pool) = (⟨0, [], 0⟩ : T_api_Pool) := ⟨fun _ => rfl, rfl⟩
structure T_page_builder where
  s_ : List UInt8
  deriving DecidableEq
instance : Inhabited T_page_builder := ⟨⟨[]⟩⟩
def J0h (x : T_page_builder) : List PV := [.s x.s_]
theorem Jp : (∀ x : T_page_builder, J0h x = [.s x.s_]) ∧ (default : T_page_builder) = (⟨[]⟩ : T_page_builder) := ⟨fun _ => rfl, rfl⟩
theorem J3o : (∀ v : Vector Int 16, (JF (r_i .u32) v).length = 16) ∧ (∀ v : Vector Int 16, sub (JF (r_i .u32) v) 0 16 = some (JF (r_i .u32) v)) ∧ (∀ v y : Vector Int 16, spl (JF (r_i .u32) v) 0 (JF (r_i .u32) y) = some (JF (r_i .u32) y)) :=
  ⟨fun v => J2P (J6d .u32) v, fun v => J6P (J2P (J6d .u32) v), fun v y => J6T ((J2P (J6d .u32) v).trans (J2P (J6d .u32) y).symm)⟩
theorem Jdf (x y : Je) : J0o [.b, .s] (Jc x) (Jc y) = some (decide (x = y)) := by
  have h := (J6g (JfV x.Set y.Set) (Jmk x.Data y.Data))
  have e : decide (x.Set = y.Set ∧ (x.Data = y.Data)) = decide (x = y) := decide_eq_decide.2 (by cases x; cases y; simp only [Je.mk.injEq])
  exact h.trans (congrArg some e)
theorem Jdh (x y : Jb) : J0o [(.i .i64), (.i .i64), .b, .s, .b, .s, .b, .s, .b, .s, .b, .s, .b, .s, .b, .s, .b, .s, .b, .s, .b, .s, .b, .s, .b, .s, .b, .s, .b, .s, .b, .s, .b, .s] (J7 x) (J7 y) = some (decide (x = y)) := by
  have h := (J6g (Jgp .i64 x.ID y.ID) (J6g (Jgp .i64 x.LSN y.LSN) (Jlj (fun x y => (Jdf x y)) x.Cells y.Cells)))
  have e : decide (x.ID = y.ID ∧ (x.LSN = y.LSN ∧ (x.Cells = y.Cells))) = decide (x = y) := decide_eq_decide.2 (by cases x; cases y; simp only [Jb.mk.injEq])
  exact h.trans (congrArg some e)
theorem Jcz (x y : T_api_Frame) : J0o [(.i .i64), (.i .i64), .b, .s, .b, .s, .b, .s, .b, .s, .b, .s, .b, .s, .b, .s, .b, .s, .b, .s, .b, .s, .b, .s, .b, .s, .b, .s, .b, .s, .b, .s, .b, .s, .b, (.i .i64), .b] (J1 x) (J1 y) = some (decide (x = y)) := by
  have h := (J6g (Jdh x.Page y.Page) (J6g (JfV x.Dirty y.Dirty) (J6g (Jgp .i64 x.Rec y.Rec) (JfV x.Used y.Used))))
  have e : decide (x.Page = y.Page ∧ (x.Dirty = y.Dirty ∧ (x.Rec = y.Rec ∧ (x.Used = y.Used)))) = decide (x = y) := decide_eq_decide.2 (by cases x; cases y; simp only [T_api_Frame.mk.injEq])
  exact h.trans (congrArg some e)
theorem J6u (x y : T_api_Frame) : J0o [(.i .i64), (.i .i64), .b, .s, .b, .s, .b, .s, .b, .s, .b, .s, .b, .s, .b, .s, .b, .s, .b, .s, .b, .s, .b, .s, .b, .s, .b, .s, .b, .s, .b, .s, .b, .s, .b, (.i .i64), .b] (J1 x) (J1 y) = some (x == y) := Jcz x y
end Go.Am
end
section
namespace Go.Am
set_option maxRecDepth 8000
set_option maxHeartbeats 4000000
set_option linter.unusedSimpArgs false
set_option linter.unusedVariables false
abbrev J3L : FuncId := 13
abbrev J3f : FuncId := 42
abbrev J3M : FuncId := 45
abbrev J3m : FuncId := 56
abbrev J4e : FuncId := 57
abbrev J3B : FuncId := 58
abbrev J1N : FuncId := 59
abbrev J4X : FuncId := 60
abbrev J42 : FuncId := 61
abbrev J4r : FuncId := 64
abbrev J2E : FuncId := 65
abbrev J0U : FuncId := 82
abbrev J2K : FuncId := 90
abbrev J3c : FuncId := 91
abbrev J0u : FuncId := 92
abbrev J1n : FuncId := 93
abbrev J3F : FuncId := 94
abbrev J44 : FuncId := 103
abbrev J30 : FuncId := 104
abbrev JW : FuncId := 105
abbrev JI : FuncId := 106
abbrev J1g : FuncId := 107
abbrev J1R : FuncId := 124
abbrev JV : FuncId := 126
abbrev J0q : FuncId := 127
def J3D : Jk := .seq (.reg false [] [⟨.newbox (J3 default), some 2, none⟩,
    ⟨.mv (.c (.p (.i .i64 0))), some 3, none⟩])
  (.seq (.seq (.reg false [] [⟨.mv (.t 0), some 4, none⟩,
    ⟨.bin .lss .plain (.t 4) (.c (.p (.i .i64 1))), some 5, none⟩,
    ⟨.mv (.t 5), some 6, none⟩,
    ⟨.mv (.t 0), some 7, some (6, false)⟩,
    ⟨.bin .gtr .plain (.t 7) (.c (.p (.i .i64 64))), some 8, some (6, false)⟩,
    ⟨.pick (.t 6) (.c (.p (.b true))) (.t 8), some 9, none⟩])
  (.keep [0, 2, 9] (.cond (.t 9)
  (.seq (.reg false [] [⟨.build (J3 default) [], some 10, none⟩,
      ⟨.store 3 (.t 2) (.t 10), none, none⟩,
      ⟨.mv (.c (.p (.i .i64 1))), some 3, none⟩])
    (.ret))
  (.skip))))
  (.seq (.reg false [] [⟨.mv (.t 0), some 11, none⟩,
    ⟨.build (J3 default) [(0, 1, (.t 11))], some 12, none⟩,
    ⟨.store 3 (.t 2) (.t 12), none, none⟩,
    ⟨.mv (.c (.p (.i .i64 0))), some 3, none⟩])
  (.ret)))
def J50 : AFn := ⟨1, 13, J3D, [.cell 2 true 3, .tmp 3], false⟩
def J13 : Jk := .seq (.seq (.reg false [] [⟨.mv (.t 5), some 27, none⟩,
    ⟨.faddr 1 (.t 2), some 28, none⟩,
    ⟨.load false 1 (.t 28), some 29, none⟩,
    ⟨.len false (.t 29), some 30, none⟩,
    ⟨.bin .lss .plain (.t 27) (.t 30), some 31, none⟩])
  (.keep [2, 3, 5, 31] (.cond (.t 31)
  (.skip)
  (.exit 0))))
  (.seq (.block 1 (.seq (.reg true [] [⟨.faddr 1 (.t 2), some 34, none⟩,
    ⟨.load false 1 (.t 34), some 35, none⟩,
    ⟨.mv (.t 5), some 36, none⟩,
    ⟨.iaddr 37 (.t 35) (.t 36), some 37, none⟩,
    ⟨.load true 37 (.t 37), some 38, none⟩,
    ⟨.faddr 1 (.t 3), some 39, none⟩,
    ⟨.load false 1 (.t 39), some 40, none⟩,
    ⟨.mv (.t 5), some 41, none⟩,
    ⟨.iaddr 37 (.t 40) (.t 41), some 42, none⟩,
    ⟨.load true 37 (.t 42), some 43, none⟩,
    ⟨.bin .neq (.flat [(.i .i64), (.i .i64), .b, .s, .b, .s, .b, .s, .b, .s, .b, .s, .b, .s, .b, .s, .b, .s, .b, .s, .b, .s, .b, .s, .b, .s, .b, .s, .b, .s, .b, .s, .b, .s, .b, (.i .i64), .b]) (.t 38) (.t 43), some 44, none⟩])
  (.keep [2, 3, 5, 44] (.cond (.t 44)
  (.seq (.reg false [] [⟨.mv (.c (.p (.b false))), some 4, none⟩])
    (.ret))
  (.skip)))))
  (.reg false [] [⟨.mv (.t 5), some 32, none⟩,
    ⟨.bin .add .plain (.t 32) (.c (.p (.i .i64 1))), some 33, none⟩,
    ⟨.mv (.t 33), some 5, none⟩]))
def J2n : Jk := .seq (.reg false [] [⟨.mv (.c (.p (.b true))), some 4, none⟩])
  (.ret)
def J1I : Jk := .seq (.reg false [] [⟨.box 3 (.t 0), some 2, none⟩,
    ⟨.box 3 (.t 1), some 3, none⟩,
    ⟨.mv (.c (.p (.b false))), some 4, none⟩])
  (.keep [2, 3] (.seq (.seq (.reg false [] [⟨.faddr 0 (.t 2), some 6, none⟩,
    ⟨.load false 1 (.t 6), some 7, none⟩,
    ⟨.faddr 0 (.t 3), some 8, none⟩,
    ⟨.load false 1 (.t 8), some 9, none⟩,
    ⟨.bin .neq .plain (.t 7) (.t 9), some 10, none⟩,
    ⟨.mv (.t 10), some 11, none⟩,
    ⟨.faddr 2 (.t 2), some 12, some (11, false)⟩,
    ⟨.load false 1 (.t 12), some 13, some (11, false)⟩,
    ⟨.faddr 2 (.t 3), some 14, some (11, false)⟩,
    ⟨.load false 1 (.t 14), some 15, some (11, false)⟩,
    ⟨.bin .neq .plain (.t 13) (.t 15), some 16, some (11, false)⟩,
    ⟨.pick (.t 11) (.c (.p (.b true))) (.t 16), some 17, none⟩,
    ⟨.mv (.t 17), some 18, none⟩,
    ⟨.faddr 1 (.t 2), some 19, some (18, false)⟩,
    ⟨.load false 1 (.t 19), some 20, some (18, false)⟩,
    ⟨.len false (.t 20), some 21, some (18, false)⟩,
    ⟨.faddr 1 (.t 3), some 22, some (18, false)⟩,
    ⟨.load false 1 (.t 22), some 23, some (18, false)⟩,
    ⟨.len false (.t 23), some 24, some (18, false)⟩,
    ⟨.bin .neq .plain (.t 21) (.t 24), some 25, some (18, false)⟩,
    ⟨.pick (.t 18) (.c (.p (.b true))) (.t 25), some 26, none⟩])
  (.keep [2, 3, 26] (.cond (.t 26)
  (.seq (.reg false [] [⟨.mv (.c (.p (.b false))), some 4, none⟩])
    (.ret))
  (.skip))))
  (.seq (.seq (.reg false [] [⟨.mv (.c (.p (.i .i64 0))), some 5, none⟩])
  (.block 0 (.loop [2, 3, 5] J13)))
  (.keep [] J2n))))
def J1i : AFn := ⟨2, 45, J1I, [.tmp 4], false⟩
def J06 : Jk := .seq (.reg false [] [⟨.bin .lss .plain (.t 7) (.c (.p (.i .i64 16))), some 8, none⟩])
  (.seq (.cond (.t 8)
  (.skip)
  (.exit 0))
  (.seq (.block 1 (.seq (.reg false [] [⟨.aidx true 16 2 (.t 6) (.t 7), some 9, none⟩,
    ⟨.newbox (Jc default), some 4, none⟩,
    ⟨.store 2 (.t 4) (.t 9), none, none⟩])
  (.keep [1, 4, 6, 7] (.seq (.reg false [] [⟨.faddr 1 (.t 4), some 10, none⟩,
    ⟨.load false 1 (.t 10), some 11, none⟩,
    ⟨.len true (.t 11), some 12, none⟩,
    ⟨.bin .gtr .plain (.t 12) (.c (.p (.i .i64 12))), some 13, none⟩,
    ⟨.mv (.t 13), some 14, none⟩,
    ⟨.faddr 0 (.t 4), some 15, some (14, false)⟩,
    ⟨.load false 1 (.t 15), some 16, some (14, false)⟩,
    ⟨.un .not (.t 16), some 17, some (14, false)⟩,
    ⟨.mv (.t 17), some 18, some (14, false)⟩,
    ⟨.faddr 1 (.t 4), some 19, some (18, true)⟩,
    ⟨.load false 1 (.t 19), some 20, some (18, true)⟩,
    ⟨.bin .neq .plain (.t 20) (.c (.p (.s []))), some 21, some (18, true)⟩,
    ⟨.pick (.t 18) (.t 21) (.c (.p (.b false))), some 22, some (14, false)⟩,
    ⟨.pick (.t 14) (.c (.p (.b true))) (.t 22), some 23, none⟩,
    ⟨.mv (.t 23), some 24, none⟩,
    ⟨.faddr 0 (.t 4), some 25, some (24, false)⟩,
    ⟨.load false 1 (.t 25), some 26, some (24, false)⟩,
    ⟨.mv (.t 26), some 27, some (24, false)⟩,
    ⟨.faddr 1 (.t 1), some 28, some (27, true)⟩,
    ⟨.load false 1 (.t 28), some 29, some (27, true)⟩,
    ⟨.bin .eql .plain (.t 29) (.c (.p (.i .i64 0))), some 30, some (27, true)⟩,
    ⟨.pick (.t 27) (.t 30) (.c (.p (.b false))), some 31, some (24, false)⟩,
    ⟨.pick (.t 24) (.c (.p (.b true))) (.t 31), some 32, none⟩])
  (.keep [1, 6, 7, 32] (.cond (.t 32)
  (.seq (.reg false [] [⟨.mv (.c (.p (.b false))), some 2, none⟩])
    (.ret))
  (.skip)))))))
  (.reg false [] [⟨.bin .add .plain (.t 7) (.c (.p (.i .i64 1))), some 33, none⟩,
    ⟨.mv (.t 33), some 7, none⟩])))
def J2r : Jk := .seq (.reg false [] [⟨.mv (.c (.p (.b true))), some 2, none⟩])
  (.ret)
def J4N : Jk := .seq (.reg false [] [⟨.box 34 (.t 0), some 1, none⟩,
    ⟨.mv (.c (.p (.b false))), some 2, none⟩])
  (.seq (.tidy [2] (.seq (.reg false [] [⟨.faddr 2 (.t 1), some 5, none⟩,
    ⟨.load true 32 (.t 5), some 6, none⟩,
    ⟨.mv (.c (.p (.i .i64 0))), some 7, none⟩])
  (.keep [1, 6, 7] (.block 0 (.loop [1, 6, 7] J06)))))
  (.keep [] J2r))
def J1k : AFn := ⟨1, 34, J4N, [.tmp 2], false⟩
def J41 : Jk := .seq (.reg false [] [⟨.mv (.c (.p (.b false))), some 2, none⟩])
  (.seq (.reg false [] [⟨.mv (.t 0), some 3, none⟩,
    ⟨.bin .geq .plain (.t 3) (.c (.p (.i .i64 0))), some 4, none⟩,
    ⟨.mv (.t 4), some 5, none⟩,
    ⟨.mv (.t 0), some 6, some (5, true)⟩,
    ⟨.bin .lss .plain (.t 6) (.c (.p (.i .i64 64))), some 7, some (5, true)⟩,
    ⟨.pick (.t 5) (.t 7) (.c (.p (.b false))), some 8, none⟩,
    ⟨.mv (.t 8), some 2, none⟩])
  (.ret))
def J3P : AFn := ⟨1, 9, J41, [.tmp 2], false⟩
def J3T : Jk := .seq (.reg false [] [⟨.box 37 (.t 0), some 2, none⟩,
    ⟨.mv (.c (.p (.b false))), some 3, none⟩])
  (.seq (.reg false [] [⟨.faddr 0 (.t 2), some 4, none⟩,
    ⟨.faddr 0 (.t 4), some 5, none⟩,
    ⟨.load false 1 (.t 5), some 6, none⟩,
    ⟨.load false 1 (.t 1), some 7, none⟩,
    ⟨.bin .eql .plain (.t 6) (.t 7), some 8, none⟩,
    ⟨.mv (.t 8), some 3, none⟩])
  (.ret))
def J31 : AFn := ⟨2, 9, J3T, [.tmp 3], false⟩
def Jr : Jk := .seq (.reg false [] [⟨.bin .lss .plain (.t 8) (.t 7), some 9, none⟩])
  (.seq (.cond (.t 9)
  (.skip)
  (.exit 0))
  (.seq (.block 1 (.seq (.reg false [] [⟨.mv (.t 8), some 10, none⟩,
    ⟨.mv (.t 10), some 5, none⟩])
  (.seq (.reg false [] [⟨.mv (.t 1), some 11, none⟩,
    ⟨.mv (.t 0), some 12, none⟩,
    ⟨.mv (.t 5), some 13, none⟩,
    ⟨.iaddr 37 (.t 12) (.t 13), some 14, none⟩,
    ⟨.load true 37 (.t 14), some 15, none⟩,
    ⟨.callv (.t 11) [(.t 15)] 0, some 16, none⟩])
  (.keep [0, 1, 5, 7, 8, 16] (.cond (.t 16)
  (.seq (.reg false [] [⟨.mv (.t 5), some 17, none⟩,
      ⟨.mv (.t 17), some 4, none⟩])
    (.ret))
  (.skip))))))
  (.reg false [] [⟨.bin .add .plain (.t 8) (.c (.p (.i .i64 1))), some 18, none⟩,
    ⟨.mv (.t 18), some 8, none⟩])))
def JD : Jk := .seq (.reg false [] [⟨.mv (.c (.p (.i .i64 (-1)))), some 4, none⟩])
  (.ret)
def J0e : Jk := .seq (.reg false [] [⟨.mv (.c (.p (.i .i64 0))), some 4, none⟩])
  (.seq (.seq (.reg false [] [⟨.mv (.t 0), some 6, none⟩,
    ⟨.len false (.t 6), some 7, none⟩,
    ⟨.mv (.c (.p (.i .i64 0))), some 8, none⟩])
  (.keep [0, 1, 7, 8] (.block 0 (.loop [0, 1, 7, 8] Jr))))
  (.keep [] JD))
def Jn : AFn := ⟨2, 19, J0e, [.tmp 4], false⟩
def J5f : Jk := .seq (.reg false [] [⟨.box 3 (.t 0), some 2, none⟩,
    ⟨.box 1 (.t 1), some 3, none⟩,
    ⟨.mv (.c (.p (.i .i64 0))), some 4, none⟩])
  (.keep [2, 3] (.seq (.reg false [] [⟨.faddr 1 (.t 2), some 5, none⟩,
    ⟨.load false 1 (.t 5), some 6, none⟩,
    ⟨.mkfn J0q [] [(.t 3)], some 7, none⟩,
    ⟨.call JV [(.t 6), (.t 7)] 0, some 8, none⟩,
    ⟨.mv (.t 8), some 4, none⟩])
  (.ret)))
def J4t : AFn := ⟨2, 9, J5f, [.tmp 4], false⟩
def J0x : Jk := .seq (.reg false [] [⟨.mv (.c (.p (.sl 37 []))), some 2, none⟩])
  (.seq (.reg false [] [⟨.mv (.t 0), some 3, none⟩,
    ⟨.mv (.t 0), some 4, none⟩,
    ⟨.len false (.t 4), some 5, none⟩,
    ⟨.mv (.t 0), some 6, none⟩,
    ⟨.len false (.t 6), some 7, none⟩,
    ⟨.slice (.sl 37) (.t 3) none (some (.t 5)) (some (.t 7)), some 8, none⟩,
    ⟨.mv (.t 8), some 2, none⟩])
  (.ret))
def J0b : AFn := ⟨1, 9, J0x, [.tmp 2], false⟩
def J0v : J5L := ⟨1, 8, .reg false [] [⟨.mkarr 37 (.c (.p (.sl 37 []))), some 2, none⟩], [], .reg false [] [⟨.mv (.t 0), some 3, none⟩,
    ⟨.bin .eql .nils (.t 3) (.c (.p (.sl 37 []))), some 4, none⟩], (.t 4),
  .seq (.reg false [] [⟨.mkarr 37 (.c (.p (.sl 37 []))), some 2, none⟩])
  (.ret),
  .skip,
  .seq (.reg false [] [⟨.lits true 37 0 (J1 default) [], some 5, none⟩,
    ⟨.mv (.t 0), some 6, none⟩,
    ⟨.app 37 424 (J1 default) (.t 5) (.t 6), some 7, none⟩,
    ⟨.mv (.t 7), some 2, none⟩])
  (.ret), [.tmp 2], true⟩
def J1T : Jk := .seq (.reg false [] [⟨.box 37 (.t 2), some 5, none⟩,
    ⟨.mv (.c (.p (.sl 37 []))), some 6, none⟩])
  (.seq (.reg false [] [⟨.mv (.t 0), some 7, none⟩,
    ⟨.call JI [(.t 7)] 1, some 8, none⟩,
    ⟨.mv (.t 8), some 0, none⟩])
  (.keep [0, 1, 5] (.seq (.reg false [] [⟨.mv (.t 0), some 9, none⟩,
    ⟨.mv (.t 1), some 10, none⟩,
    ⟨.load true 37 (.t 5), some 11, none⟩,
    ⟨.iaddr 37 (.t 9) (.t 10), some 12, none⟩,
    ⟨.store 37 (.t 12) (.t 11), none, none⟩])
  (.keep [0] (.seq (.reg false [] [⟨.mv (.t 0), some 13, none⟩,
    ⟨.mv (.t 13), some 6, none⟩])
  (.ret))))))
def J1d : AFn := ⟨3, 14, J1T, [.tmp 6], false⟩
def J0i : Jk := .seq (.reg false [] [⟨.bin .lss .plain (.t 9) (.c (.p (.i .i64 4))), some 10, none⟩])
  (.seq (.cond (.t 10)
  (.skip)
  (.exit 2))
  (.seq (.block 3 (.seq (.reg false [] [⟨.mv (.t 3), some 11, none⟩,
    ⟨.bin .and .plain (.t 11) (.c (.p (.i .u32 1))), some 12, none⟩,
    ⟨.bin .eql .plain (.t 12) (.c (.p (.i .u32 1))), some 13, none⟩])
  (.keep [0, 1, 2, 3, 4, 9, 13] (.cond (.t 13)
  (.reg false [] [⟨.mv (.t 3), some 14, none⟩,
      ⟨.bin .shr .plain (.t 14) (.c (.p (.i .u64 1))), some 15, none⟩,
      ⟨.bin .xor .plain (.t 15) (.c (.p (.i .u32 2197175160))), some 16, none⟩,
      ⟨.mv (.t 16), some 3, none⟩])
  (.reg false [] [⟨.mv (.t 3), some 17, none⟩,
      ⟨.bin .shr .plain (.t 17) (.c (.p (.i .u64 1))), some 18, none⟩,
      ⟨.mv (.t 18), some 3, none⟩])))))
  (.reg false [] [⟨.bin .add .plain (.t 9) (.c (.p (.i .i64 1))), some 19, none⟩,
    ⟨.mv (.t 19), some 9, none⟩])))
def J0Y : Jk := .reg false [] [⟨.mv (.t 2), some 20, none⟩,
    ⟨.mv (.t 3), some 21, none⟩,
    ⟨.aaddr 16 1 (.t 1) (.t 20), some 22, none⟩,
    ⟨.store 1 (.t 22) (.t 21), none, none⟩]
def J0C : Jk := .reg false [] [⟨.bin .add .plain (.t 4) (.c (.p (.i .i64 1))), some 23, none⟩,
    ⟨.mv (.t 23), some 4, none⟩]
def JL : Jk := .seq (.reg false [] [⟨.bin .lss .plain (.t 4) (.c (.p (.i .i64 16))), some 5, none⟩])
  (.seq (.cond (.t 5)
  (.skip)
  (.exit 0))
  (.seq (.block 1 (.seq (.reg false [] [⟨.mv (.t 4), some 6, none⟩,
    ⟨.mv (.t 6), some 2, none⟩])
  (.seq (.reg false [] [⟨.mv (.t 2), some 7, none⟩,
    ⟨.conv (.int .u32) (.t 7), some 8, none⟩,
    ⟨.mv (.t 8), some 3, none⟩])
  (.keep [0, 1, 2, 3, 4] (.seq (.seq (.reg false [] [⟨.mv (.c (.p (.i .i64 0))), some 9, none⟩])
  (.block 2 (.loop [0, 1, 2, 3, 4, 9] J0i)))
  (.keep [0, 1, 2, 3, 4] J0Y))))))
  (.keep [0, 1, 4] J0C)))
def JP : Jk := .seq (.reg false [] [⟨.load true 16 (.t 1), some 24, none⟩,
    ⟨.store 16 (.t 0) (.t 24), none, none⟩])
  (.ret)
def J2w : Jk := .seq (.reg false [] [⟨.newbox (JF (r_i .u32) (Vector.replicate 16 (0 : Int))), some 0, none⟩])
  (.seq (.reg false [] [⟨.newbox (JF (r_i .u32) (Vector.replicate 16 (0 : Int))), some 1, none⟩])
  (.seq (.seq (.reg false [] [⟨.mv (.c (.p (.i .i64 0))), some 4, none⟩])
  (.block 0 (.loop [0, 1, 4] JL)))
  (.keep [0, 1] JP)))
def JB : AFn := ⟨0, 25, J2w, [.cell 0 true 16], false⟩
def J1J : Jk := .seq (.reg false [] [⟨.box 34 (.t 0), some 1, none⟩,
    ⟨.mv (.c (.p (.b false))), some 2, none⟩])
  (.seq (.reg false [] [⟨.faddr 0 (.t 1), some 3, none⟩,
    ⟨.load false 1 (.t 3), some 4, none⟩,
    ⟨.call J44 [(.t 4)] 0, some 5, none⟩,
    ⟨.mv (.t 5), some 6, none⟩,
    ⟨.faddr 1 (.t 1), some 7, some (6, true)⟩,
    ⟨.load false 1 (.t 7), some 8, some (6, true)⟩,
    ⟨.bin .geq .plain (.t 8) (.c (.p (.i .i64 0))), some 9, some (6, true)⟩,
    ⟨.pick (.t 6) (.t 9) (.c (.p (.b false))), some 10, none⟩,
    ⟨.mv (.t 10), some 11, none⟩,
    ⟨.faddr 1 (.t 1), some 12, some (11, true)⟩,
    ⟨.load false 1 (.t 12), some 13, some (11, true)⟩,
    ⟨.bin .leq .plain (.t 13) (.c (.p (.i .i64 1099511627776))), some 14, some (11, true)⟩,
    ⟨.pick (.t 11) (.t 14) (.c (.p (.b false))), some 15, none⟩,
    ⟨.mv (.t 15), some 2, none⟩])
  (.ret))
def J3g : AFn := ⟨1, 16, J1J, [.tmp 2], false⟩
def J3X : Jk := .reg true [(6, 8), (6, 11), (8, 14)] [⟨.mv (.t 0), some 10, none⟩,
    ⟨.mv (.t 0), some 11, none⟩,
    ⟨.nilchk (.t 11), some 12, none⟩,
    ⟨.faddr 0 (.t 12), some 13, none⟩,
    ⟨.load false 1 (.t 13), some 14, none⟩,
    ⟨.mv (.t 4), some 15, none⟩,
    ⟨.call J0U [(.t 14), (.t 15), (.c (.p (.i .i64 1)))] 0, some 16, none⟩,
    ⟨.faddr 1 (.t 3), some 17, none⟩,
    ⟨.load false 1 (.t 17), some 18, none⟩,
    ⟨.bin .add .plain (.t 16) (.t 18), some 19, none⟩,
    ⟨.faddr 1 (.t 3), some 20, none⟩,
    ⟨.load false 1 (.t 20), some 21, none⟩,
    ⟨.len true (.t 21), some 22, none⟩,
    ⟨.bin .sub .plain (.c (.p (.i .i64 12))) (.t 22), some 23, none⟩,
    ⟨.call J1n [(.c (.p (.s [0]))), (.t 23)] 0, some 24, none⟩,
    ⟨.bin .add .plain (.t 19) (.t 24), some 25, none⟩,
    ⟨.nilchk (.t 10), some 26, none⟩,
    ⟨.faddr 0 (.t 26), some 27, none⟩,
    ⟨.store 1 (.t 27) (.t 25), none, none⟩]
def J1B : Jk := .seq (.reg false [] [⟨.box 2 (.t 1), some 3, none⟩])
  (.seq (.reg false [] [⟨.mv (.c (.p (.i .i64 255))), some 4, none⟩])
  (.seq (.seq (.reg false [] [⟨.faddr 0 (.t 3), some 5, none⟩,
    ⟨.load false 1 (.t 5), some 6, none⟩])
  (.cond (.t 6)
  (.reg false [] [⟨.faddr 1 (.t 3), some 7, none⟩,
      ⟨.load false 1 (.t 7), some 8, none⟩,
      ⟨.len true (.t 8), some 9, none⟩,
      ⟨.mv (.t 9), some 4, none⟩])
  (.skip)))
  (.keep [0, 3, 4] J3X)))
def J19 : AFn := ⟨2, 28, J1B, [], false⟩
def J2a : Jk := .seq (.reg false [] [⟨.bin .lss .plain (.t 9) (.t 8), some 10, none⟩])
  (.seq (.cond (.t 10)
  (.skip)
  (.exit 0))
  (.seq (.block 1 (.seq (.reg false [] [⟨.mv (.t 9), some 11, none⟩,
    ⟨.mv (.t 11), some 5, none⟩])
  (.seq (.reg false [] [⟨.mv (.t 4), some 12, none⟩,
    ⟨.mv (.t 0), some 13, none⟩,
    ⟨.mv (.t 5), some 14, none⟩,
    ⟨.sidx (.t 13) (.t 14), some 15, none⟩,
    ⟨.conv (.int .u32) (.t 15), some 16, none⟩,
    ⟨.bin .xor .plain (.t 12) (.t 16), some 17, none⟩,
    ⟨.mv (.t 17), some 4, none⟩])
  (.keep [0, 3, 4, 8, 9] (.seq (.reg false [] [⟨.mv (.t 4), some 18, none⟩,
    ⟨.bin .shr .plain (.t 18) (.c (.p (.i .u64 4))), some 19, none⟩,
    ⟨.mv (.t 4), some 20, none⟩,
    ⟨.bin .and .plain (.t 20) (.c (.p (.i .u32 15))), some 21, none⟩,
    ⟨.aaddr 16 1 (.t 3) (.t 21), some 22, none⟩,
    ⟨.load false 1 (.t 22), some 23, none⟩,
    ⟨.bin .xor .plain (.t 19) (.t 23), some 24, none⟩,
    ⟨.mv (.t 24), some 4, none⟩])
  (.keep [0, 3, 4, 8, 9] (.reg false [] [⟨.mv (.t 4), some 25, none⟩,
    ⟨.bin .shr .plain (.t 25) (.c (.p (.i .u64 4))), some 26, none⟩,
    ⟨.mv (.t 4), some 27, none⟩,
    ⟨.bin .and .plain (.t 27) (.c (.p (.i .u32 15))), some 28, none⟩,
    ⟨.aaddr 16 1 (.t 3) (.t 28), some 29, none⟩,
    ⟨.load false 1 (.t 29), some 30, none⟩,
    ⟨.bin .xor .plain (.t 26) (.t 30), some 31, none⟩,
    ⟨.mv (.t 31), some 4, none⟩])))))))
  (.reg false [] [⟨.bin .add .plain (.t 9) (.c (.p (.i .i64 1))), some 32, none⟩,
    ⟨.mv (.t 32), some 9, none⟩])))
def J2I : Jk := .seq (.reg false [] [⟨.mv (.t 4), some 33, none⟩,
    ⟨.un .xor (.t 33), some 34, none⟩,
    ⟨.mv (.t 34), some 2, none⟩])
  (.ret)
def J5c : Jk := .seq (.reg false [] [⟨.mv (.c (.p (.i .u32 0))), some 2, none⟩])
  (.seq (.reg false [] [⟨.call J1R [] 0, some 6, none⟩,
    ⟨.newbox (JF (r_i .u32) (Vector.replicate 16 (0 : Int))), some 3, none⟩,
    ⟨.store 16 (.t 3) (.t 6), none, none⟩])
  (.keep [0, 3] (.seq (.reg false [] [⟨.mv (.c (.p (.i .u32 4294967295))), some 4, none⟩])
  (.seq (.seq (.reg false [] [⟨.mv (.t 0), some 7, none⟩,
    ⟨.len true (.t 7), some 8, none⟩,
    ⟨.mv (.c (.p (.i .i64 0))), some 9, none⟩])
  (.keep [0, 3, 4, 8, 9] (.block 0 (.loop [0, 3, 4, 8, 9] J2a))))
  (.keep [4] J2I)))))
def J1G : AFn := ⟨1, 35, J5c, [.tmp 2], false⟩
def J1x : Jk := .seq (.reg false [] [⟨.bin .lss .plain (.t 29) (.c (.p (.i .i64 16))), some 30, none⟩])
  (.seq (.cond (.t 30)
  (.skip)
  (.exit 1))
  (.seq (.block 2 (.seq (.reg false [] [⟨.aidx true 16 2 (.t 28) (.t 29), some 31, none⟩,
    ⟨.newbox (Jc default), some 7, none⟩,
    ⟨.store 2 (.t 7) (.t 31), none, none⟩])
  (.keep [1, 4, 5, 7, 28, 29] (.reg false [] [⟨.mv (.t 5), some 32, none⟩,
    ⟨.load true 2 (.t 7), some 33, none⟩,
    ⟨.callv (.t 32) [(.t 33)] 0, some 34, none⟩]))))
  (.reg false [] [⟨.bin .add .plain (.t 29) (.c (.p (.i .i64 1))), some 35, none⟩,
    ⟨.mv (.t 35), some 29, none⟩])))
def J1V : Jk := .seq (.reg true [(3, 10)] [⟨.mv (.t 4), some 36, none⟩,
    ⟨.nilchk (.t 36), some 37, none⟩,
    ⟨.faddr 0 (.t 37), some 38, none⟩,
    ⟨.load false 1 (.t 38), some 39, none⟩,
    ⟨.mv (.t 4), some 40, none⟩,
    ⟨.nilchk (.t 40), some 41, none⟩,
    ⟨.faddr 0 (.t 41), some 42, none⟩,
    ⟨.load false 1 (.t 42), some 43, none⟩,
    ⟨.len true (.t 43), some 44, none⟩,
    ⟨.bin .sub .plain (.c (.p (.i .i64 244))) (.t 44), some 45, none⟩,
    ⟨.call J1n [(.c (.p (.s [0]))), (.t 45)] 0, some 46, none⟩,
    ⟨.bin .add .plain (.t 39) (.t 46), some 47, none⟩,
    ⟨.mv (.t 47), some 8, none⟩])
  (.keep [1, 8] (.seq (.reg true [(2, 6), (4, 6)] [⟨.mv (.t 8), some 48, none⟩,
    ⟨.mv (.t 8), some 49, none⟩,
    ⟨.call J3F [(.t 49)] 0, some 50, none⟩,
    ⟨.conv (.int .i64) (.t 50), some 51, none⟩,
    ⟨.call J0U [(.t 48), (.t 51), (.c (.p (.i .i64 4)))] 0, some 52, none⟩,
    ⟨.faddr 1 (.t 1), some 53, none⟩,
    ⟨.load false 1 (.t 53), some 54, none⟩,
    ⟨.call J0U [(.t 52), (.t 54), (.c (.p (.i .i64 8)))] 0, some 55, none⟩,
    ⟨.mv (.t 55), some 2, none⟩,
    ⟨.mv (.c (.p (.i .i64 0))), some 3, none⟩])
  (.ret)))
def J1K : Jk := .seq (.reg false [] [⟨.box 34 (.t 0), some 1, none⟩,
    ⟨.mv (.c (.p (.s []))), some 2, none⟩,
    ⟨.mv (.c (.p (.i .i64 0))), some 3, none⟩])
  (.keep [1] (.seq (.block 0 (.seq (.reg false [] [⟨.load true 34 (.t 1), some 10, none⟩,
    ⟨.call J2K [(.t 10)] 0, some 11, none⟩,
    ⟨.un .not (.t 11), some 12, none⟩,
    ⟨.mv (.t 12), some 9, none⟩])
  (.keep [1, 9] (.cond (.t 9)
  (.seq (.reg false [] [⟨.mv (.c (.p (.s []))), some 2, none⟩,
      ⟨.mv (.c (.p (.i .i64 1))), some 3, none⟩])
    (.ret))
  (.seq (.reg false [] [⟨.load true 34 (.t 1), some 14, none⟩,
      ⟨.call J3c [(.t 14)] 0, some 15, none⟩,
      ⟨.un .not (.t 15), some 16, none⟩,
      ⟨.mv (.t 16), some 13, none⟩])
    (.keep [1, 13] (.cond (.t 13)
    (.seq (.reg false [] [⟨.mv (.c (.p (.s []))), some 2, none⟩,
        ⟨.mv (.c (.p (.i .i64 22))), some 3, none⟩])
      (.ret))
    (.skip))))))))
  (.seq (.reg true [(2, 4)] [⟨.faddr 1 (.t 1), some 17, none⟩,
    ⟨.load false 1 (.t 17), some 18, none⟩,
    ⟨.call J0U [(.c (.p (.s []))), (.t 18), (.c (.p (.i .i64 8)))] 0, some 19, none⟩,
    ⟨.faddr 0 (.t 1), some 20, none⟩,
    ⟨.load false 1 (.t 20), some 21, none⟩,
    ⟨.call J0U [(.t 19), (.t 21), (.c (.p (.i .i64 4)))] 0, some 22, none⟩,
    ⟨.build (J0h default) [(0, 1, (.t 22))], some 23, none⟩,
    ⟨.box 1 (.t 23), some 24, none⟩,
    ⟨.mv (.t 24), some 4, none⟩])
  (.keep [1, 4] (.seq (.reg false [] [⟨.mv (.t 4), some 25, none⟩,
    ⟨.mkfn J0u [(.t 25)] [], some 26, none⟩,
    ⟨.mv (.t 26), some 5, none⟩])
  (.keep [1, 4, 5] (.seq (.tidy [1, 2, 3, 4] (.seq (.reg false [] [⟨.faddr 2 (.t 1), some 27, none⟩,
    ⟨.load true 32 (.t 27), some 28, none⟩,
    ⟨.mv (.c (.p (.i .i64 0))), some 29, none⟩])
  (.keep [1, 4, 5, 28, 29] (.block 1 (.loop [1, 4, 5, 28, 29] J1x)))))
  (.keep [1, 4] J1V))))))))
def J0Z : AFn := ⟨1, 56, J1K, [.tmp 2, .tmp 3], false⟩
def J36 : Jk := .seq (.reg false [] [⟨.box 34 (.t 0), some 1, none⟩,
    ⟨.mv (.c (.p (.b false))), some 2, none⟩])
  (.seq (.reg false [] [⟨.load true 34 (.t 1), some 3, none⟩,
    ⟨.call J2K [(.t 3)] 0, some 4, none⟩,
    ⟨.mv (.t 4), some 5, none⟩,
    ⟨.load true 34 (.t 1), some 6, some (5, true)⟩,
    ⟨.call J3c [(.t 6)] 0, some 7, some (5, true)⟩,
    ⟨.pick (.t 5) (.t 7) (.c (.p (.b false))), some 8, none⟩,
    ⟨.mv (.t 8), some 2, none⟩])
  (.ret))
def J3R : AFn := ⟨1, 9, J36, [.tmp 2], false⟩
def JN : Jk := .seq (.reg false [] [⟨.bin .lss .plain (.t 38) (.t 37), some 39, none⟩])
  (.seq (.cond (.t 39)
  (.skip)
  (.exit 0))
  (.seq (.block 1 (.seq (.reg false [] [⟨.mv (.t 38), some 40, none⟩,
    ⟨.iaddr 37 (.t 36) (.t 38), some 41, none⟩,
    ⟨.load true 37 (.t 41), some 42, none⟩,
    ⟨.newbox (J1 default), some 4, none⟩,
    ⟨.mv (.t 40), some 3, none⟩,
    ⟨.store 37 (.t 4) (.t 42), none, none⟩])
  (.keep [1, 3, 4, 36, 37, 38] (.block 2 (.seq (.reg false [] [⟨.faddr 0 (.t 4), some 44, none⟩,
    ⟨.load true 34 (.t 44), some 45, none⟩,
    ⟨.call J3M [(.t 45)] 0, some 46, none⟩,
    ⟨.un .not (.t 46), some 47, none⟩,
    ⟨.mv (.t 47), some 48, none⟩,
    ⟨.load true 3 (.t 1), some 49, some (48, false)⟩,
    ⟨.faddr 0 (.t 4), some 50, some (48, false)⟩,
    ⟨.faddr 0 (.t 50), some 51, some (48, false)⟩,
    ⟨.load false 1 (.t 51), some 52, some (48, false)⟩,
    ⟨.call J30 [(.t 49), (.t 52)] 0, some 53, some (48, false)⟩,
    ⟨.mv (.t 3), some 54, some (48, false)⟩,
    ⟨.bin .neq .plain (.t 53) (.t 54), some 55, some (48, false)⟩,
    ⟨.pick (.t 48) (.c (.p (.b true))) (.t 55), some 56, none⟩,
    ⟨.mv (.t 56), some 43, none⟩])
  (.keep [1, 4, 36, 37, 38, 43] (.cond (.t 43)
  (.seq (.reg false [] [⟨.mv (.c (.p (.b false))), some 2, none⟩])
    (.ret))
  (.seq (.reg false [] [⟨.faddr 34 (.t 4), some 58, none⟩,
      ⟨.load false 1 (.t 58), some 59, none⟩,
      ⟨.mv (.t 59), some 60, none⟩,
      ⟨.faddr 35 (.t 4), some 61, some (60, true)⟩,
      ⟨.load false 1 (.t 61), some 62, some (60, true)⟩,
      ⟨.bin .lss .plain (.t 62) (.c (.p (.i .i64 1))), some 63, some (60, true)⟩,
      ⟨.mv (.t 63), some 64, some (60, true)⟩,
      ⟨.faddr 35 (.t 4), some 65, some (64, false)⟩,
      ⟨.load false 1 (.t 65), some 66, some (64, false)⟩,
      ⟨.faddr 0 (.t 4), some 67, some (64, false)⟩,
      ⟨.faddr 1 (.t 67), some 68, some (64, false)⟩,
      ⟨.load false 1 (.t 68), some 69, some (64, false)⟩,
      ⟨.bin .gtr .plain (.t 66) (.t 69), some 70, some (64, false)⟩,
      ⟨.pick (.t 64) (.c (.p (.b true))) (.t 70), some 71, some (60, true)⟩,
      ⟨.pick (.t 60) (.t 71) (.c (.p (.b false))), some 72, none⟩,
      ⟨.mv (.t 72), some 73, none⟩,
      ⟨.faddr 34 (.t 4), some 74, some (73, false)⟩,
      ⟨.load false 1 (.t 74), some 75, some (73, false)⟩,
      ⟨.un .not (.t 75), some 76, some (73, false)⟩,
      ⟨.mv (.t 76), some 77, some (73, false)⟩,
      ⟨.faddr 35 (.t 4), some 78, some (77, true)⟩,
      ⟨.load false 1 (.t 78), some 79, some (77, true)⟩,
      ⟨.bin .neq .plain (.t 79) (.c (.p (.i .i64 0))), some 80, some (77, true)⟩,
      ⟨.pick (.t 77) (.t 80) (.c (.p (.b false))), some 81, some (73, false)⟩,
      ⟨.pick (.t 73) (.c (.p (.b true))) (.t 81), some 82, none⟩,
      ⟨.mv (.t 82), some 57, none⟩])
    (.keep [1, 36, 37, 38, 57] (.cond (.t 57)
    (.seq (.reg false [] [⟨.mv (.c (.p (.b false))), some 2, none⟩])
      (.ret))
    (.skip)))))))))))
  (.reg false [] [⟨.bin .add .plain (.t 38) (.c (.p (.i .i64 1))), some 83, none⟩,
    ⟨.mv (.t 83), some 38, none⟩])))
def J2q : Jk := .seq (.reg false [] [⟨.mv (.c (.p (.b true))), some 2, none⟩])
  (.ret)
def J0H : Jk := .seq (.reg false [] [⟨.box 3 (.t 0), some 1, none⟩,
    ⟨.mv (.c (.p (.b false))), some 2, none⟩])
  (.seq (.seq (.reg false [] [⟨.faddr 0 (.t 1), some 5, none⟩,
    ⟨.load false 1 (.t 5), some 6, none⟩,
    ⟨.bin .lss .plain (.t 6) (.c (.p (.i .i64 1))), some 7, none⟩,
    ⟨.mv (.t 7), some 8, none⟩,
    ⟨.faddr 0 (.t 1), some 9, some (8, false)⟩,
    ⟨.load false 1 (.t 9), some 10, some (8, false)⟩,
    ⟨.bin .gtr .plain (.t 10) (.c (.p (.i .i64 64))), some 11, some (8, false)⟩,
    ⟨.pick (.t 8) (.c (.p (.b true))) (.t 11), some 12, none⟩,
    ⟨.mv (.t 12), some 13, none⟩,
    ⟨.faddr 1 (.t 1), some 14, some (13, false)⟩,
    ⟨.load false 1 (.t 14), some 15, some (13, false)⟩,
    ⟨.len false (.t 15), some 16, some (13, false)⟩,
    ⟨.faddr 0 (.t 1), some 17, some (13, false)⟩,
    ⟨.load false 1 (.t 17), some 18, some (13, false)⟩,
    ⟨.bin .gtr .plain (.t 16) (.t 18), some 19, some (13, false)⟩,
    ⟨.pick (.t 13) (.c (.p (.b true))) (.t 19), some 20, none⟩,
    ⟨.mv (.t 20), some 21, none⟩,
    ⟨.faddr 2 (.t 1), some 22, some (21, false)⟩,
    ⟨.load false 1 (.t 22), some 23, some (21, false)⟩,
    ⟨.bin .lss .plain (.t 23) (.c (.p (.i .i64 0))), some 24, some (21, false)⟩,
    ⟨.pick (.t 21) (.c (.p (.b true))) (.t 24), some 25, none⟩,
    ⟨.mv (.t 25), some 26, none⟩,
    ⟨.faddr 2 (.t 1), some 27, some (26, false)⟩,
    ⟨.load false 1 (.t 27), some 28, some (26, false)⟩,
    ⟨.faddr 1 (.t 1), some 29, some (26, false)⟩,
    ⟨.load false 1 (.t 29), some 30, some (26, false)⟩,
    ⟨.len false (.t 30), some 31, some (26, false)⟩,
    ⟨.mm true (.c (.p (.i .i64 1))) (.t 31), some 32, some (26, false)⟩,
    ⟨.bin .geq .plain (.t 28) (.t 32), some 33, some (26, false)⟩,
    ⟨.pick (.t 26) (.c (.p (.b true))) (.t 33), some 34, none⟩])
  (.keep [1, 34] (.cond (.t 34)
  (.seq (.reg false [] [⟨.mv (.c (.p (.b false))), some 2, none⟩])
    (.ret))
  (.skip))))
  (.seq (.tidy [2] (.seq (.reg false [] [⟨.faddr 1 (.t 1), some 35, none⟩,
    ⟨.load false 1 (.t 35), some 36, none⟩,
    ⟨.len false (.t 36), some 37, none⟩,
    ⟨.mv (.c (.p (.i .i64 0))), some 38, none⟩])
  (.keep [1, 36, 37, 38] (.block 0 (.loop [1, 36, 37, 38] JN)))))
  (.keep [] J2q)))
def J1l : AFn := ⟨1, 84, J0H, [.tmp 2], false⟩
def J1t : Jk := .seq (.reg false [] [⟨.box 3 (.t 0), some 2, none⟩,
    ⟨.box 34 (.t 1), some 3, none⟩,
    ⟨.newbox (J3 default), some 4, none⟩,
    ⟨.mv (.c (.p (.i .i64 0))), some 5, none⟩])
  (.keep [2, 3, 4] (.seq (.seq (.reg false [] [⟨.load true 3 (.t 2), some 8, none⟩,
    ⟨.call J2E [(.t 8)] 0, some 9, none⟩,
    ⟨.un .not (.t 9), some 10, none⟩])
  (.keep [2, 3, 4, 10] (.cond (.t 10)
  (.seq (.reg false [] [⟨.build (J3 default) [], some 11, none⟩,
      ⟨.store 3 (.t 4) (.t 11), none, none⟩,
      ⟨.mv (.c (.p (.i .i64 15))), some 5, none⟩])
    (.ret))
  (.skip))))
  (.seq (.reg false [] [⟨.load true 34 (.t 3), some 13, none⟩,
    ⟨.call J3f [(.t 13)] 0, some 14, none⟩,
    ⟨.mv (.t 14), some 12, none⟩,
    ⟨.extr (.t 12) 0, some 15, none⟩,
    ⟨.extr (.t 12) 1, some 16, none⟩,
    ⟨.mv (.t 15), some 6, none⟩,
    ⟨.mv (.t 16), some 7, none⟩])
  (.keep [2, 3, 4, 7] (.seq (.block 0 (.seq (.reg false [] [⟨.mv (.t 7), some 18, none⟩,
    ⟨.bin .neq .plain (.t 18) (.c (.p (.i .i64 0))), some 19, none⟩,
    ⟨.mv (.t 19), some 17, none⟩])
  (.keep [2, 3, 4, 7, 17] (.cond (.t 17)
  (.seq (.reg false [] [⟨.build (J3 default) [], some 20, none⟩,
      ⟨.mv (.t 7), some 21, none⟩,
      ⟨.store 3 (.t 4) (.t 20), none, none⟩,
      ⟨.mv (.t 21), some 5, none⟩])
    (.ret))
  (.seq (.reg false [] [⟨.load true 3 (.t 2), some 23, none⟩,
      ⟨.faddr 0 (.t 3), some 24, none⟩,
      ⟨.load false 1 (.t 24), some 25, none⟩,
      ⟨.call J30 [(.t 23), (.t 25)] 0, some 26, none⟩,
      ⟨.bin .geq .plain (.t 26) (.c (.p (.i .i64 0))), some 27, none⟩,
      ⟨.mv (.t 27), some 22, none⟩])
    (.keep [2, 3, 4, 22] (.cond (.t 22)
    (.seq (.reg false [] [⟨.build (J3 default) [], some 28, none⟩,
        ⟨.store 3 (.t 4) (.t 28), none, none⟩,
        ⟨.mv (.c (.p (.i .i64 25))), some 5, none⟩])
      (.ret))
    (.seq (.reg false [] [⟨.faddr 1 (.t 2), some 30, none⟩,
        ⟨.load false 1 (.t 30), some 31, none⟩,
        ⟨.len false (.t 31), some 32, none⟩,
        ⟨.faddr 0 (.t 2), some 33, none⟩,
        ⟨.load false 1 (.t 33), some 34, none⟩,
        ⟨.bin .eql .plain (.t 32) (.t 34), some 35, none⟩,
        ⟨.mv (.t 35), some 29, none⟩])
      (.keep [2, 3, 4, 29] (.cond (.t 29)
      (.seq (.reg false [] [⟨.build (J3 default) [], some 36, none⟩,
          ⟨.store 3 (.t 4) (.t 36), none, none⟩,
          ⟨.mv (.c (.p (.i .i64 21))), some 5, none⟩])
        (.ret))
      (.skip)))))))))))
  (.seq (.reg true [(2, 3), (1, 5), (2, 5)] [⟨.faddr 1 (.t 2), some 37, none⟩,
    ⟨.load false 1 (.t 37), some 38, none⟩,
    ⟨.call JW [(.t 38)] 0, some 39, none⟩,
    ⟨.load true 34 (.t 3), some 40, none⟩,
    ⟨.build (J1 default) [(0, 34, (.t 40)), (36, 1, (.c (.p (.b true))))], some 41, none⟩,
    ⟨.lits false 37 1 (J1 default) [(0, (.t 41))], some 42, none⟩,
    ⟨.appc 37 424 (J1 default) (.t 39) (.t 42), some 43, none⟩,
    ⟨.faddr 1 (.t 2), some 44, none⟩,
    ⟨.store 1 (.t 44) (.t 43), none, none⟩])
  (.keep [2, 4] (.seq (.reg false [] [⟨.load true 3 (.t 2), some 45, none⟩,
    ⟨.store 3 (.t 4) (.t 45), none, none⟩,
    ⟨.mv (.c (.p (.i .i64 0))), some 5, none⟩])
  (.ret)))))))))
def J4U : AFn := ⟨2, 46, J1t, [.cell 4 true 3, .tmp 5], false⟩
def J1c : Jk := .seq (.seq (.reg false [] [⟨.faddr 1 (.t 1), some 20, none⟩,
    ⟨.load false 1 (.t 20), some 21, none⟩,
    ⟨.faddr 2 (.t 1), some 22, none⟩,
    ⟨.load false 1 (.t 22), some 23, none⟩,
    ⟨.iaddr 37 (.t 21) (.t 23), some 24, none⟩,
    ⟨.faddr 36 (.t 24), some 25, none⟩,
    ⟨.load false 1 (.t 25), some 26, none⟩])
  (.keep [1, 2, 26] (.cond (.t 26)
  (.skip)
  (.exit 1))))
  (.block 2 (.seq (.reg false [] [⟨.faddr 1 (.t 1), some 27, none⟩,
    ⟨.load false 1 (.t 27), some 28, none⟩,
    ⟨.faddr 2 (.t 1), some 29, none⟩,
    ⟨.load false 1 (.t 29), some 30, none⟩,
    ⟨.iaddr 37 (.t 28) (.t 30), some 31, none⟩,
    ⟨.faddr 36 (.t 31), some 32, none⟩,
    ⟨.store 1 (.t 32) (.c (.p (.b false))), none, none⟩])
  (.keep [1, 2] (.reg false [] [⟨.faddr 2 (.t 1), some 33, none⟩,
    ⟨.load false 1 (.t 33), some 34, none⟩,
    ⟨.bin .add .plain (.t 34) (.c (.p (.i .i64 1))), some 35, none⟩,
    ⟨.faddr 1 (.t 1), some 36, none⟩,
    ⟨.load false 1 (.t 36), some 37, none⟩,
    ⟨.len false (.t 37), some 38, none⟩,
    ⟨.bin .rem .plain (.t 35) (.t 38), some 39, none⟩,
    ⟨.faddr 2 (.t 1), some 40, none⟩,
    ⟨.store 1 (.t 40) (.t 39), none, none⟩]))))
def J1Z : Jk := .seq (.reg true [(2, 9), (4, 9), (5, 9), (8, 9)] [⟨.load true 3 (.t 1), some 41, none⟩,
    ⟨.faddr 1 (.t 1), some 42, none⟩,
    ⟨.load false 1 (.t 42), some 43, none⟩,
    ⟨.faddr 2 (.t 1), some 44, none⟩,
    ⟨.load false 1 (.t 44), some 45, none⟩,
    ⟨.iaddr 37 (.t 43) (.t 45), some 46, none⟩,
    ⟨.faddr 0 (.t 46), some 47, none⟩,
    ⟨.faddr 0 (.t 47), some 48, none⟩,
    ⟨.load false 1 (.t 48), some 49, none⟩,
    ⟨.store 3 (.t 2) (.t 41), none, none⟩,
    ⟨.mv (.t 49), some 3, none⟩,
    ⟨.mv (.c (.p (.i .i64 0))), some 4, none⟩])
  (.ret)
def J1O : Jk := .seq (.reg false [] [⟨.box 3 (.t 0), some 1, none⟩,
    ⟨.newbox (J3 default), some 2, none⟩,
    ⟨.mv (.c (.p (.i .i64 0))), some 3, none⟩,
    ⟨.mv (.c (.p (.i .i64 0))), some 4, none⟩])
  (.keep [1, 2] (.seq (.block 0 (.seq (.reg false [] [⟨.load true 3 (.t 1), some 6, none⟩,
    ⟨.call J2E [(.t 6)] 0, some 7, none⟩,
    ⟨.un .not (.t 7), some 8, none⟩,
    ⟨.mv (.t 8), some 5, none⟩])
  (.keep [1, 2, 5] (.cond (.t 5)
  (.seq (.reg false [] [⟨.build (J3 default) [], some 9, none⟩,
      ⟨.store 3 (.t 2) (.t 9), none, none⟩,
      ⟨.mv (.c (.p (.i .i64 0))), some 3, none⟩,
      ⟨.mv (.c (.p (.i .i64 15))), some 4, none⟩])
    (.ret))
  (.seq (.reg false [] [⟨.faddr 1 (.t 1), some 11, none⟩,
      ⟨.load false 1 (.t 11), some 12, none⟩,
      ⟨.len false (.t 12), some 13, none⟩,
      ⟨.bin .eql .plain (.t 13) (.c (.p (.i .i64 0))), some 14, none⟩,
      ⟨.mv (.t 14), some 10, none⟩])
    (.keep [1, 2, 10] (.cond (.t 10)
    (.seq (.reg false [] [⟨.build (J3 default) [], some 15, none⟩,
        ⟨.store 3 (.t 2) (.t 15), none, none⟩,
        ⟨.mv (.c (.p (.i .i64 0))), some 3, none⟩,
        ⟨.mv (.c (.p (.i .i64 18))), some 4, none⟩])
      (.ret))
    (.skip))))))))
  (.seq (.reg false [] [⟨.faddr 1 (.t 1), some 16, none⟩,
    ⟨.load false 1 (.t 16), some 17, none⟩,
    ⟨.call JI [(.t 17)] 1, some 18, none⟩,
    ⟨.faddr 1 (.t 1), some 19, none⟩,
    ⟨.store 1 (.t 19) (.t 18), none, none⟩])
  (.keep [1, 2] (.seq (.block 1 (.loop [1, 2] J1c))
  (.keep [1, 2] J1Z))))))
def J10 : AFn := ⟨1, 50, J1O, [.cell 2 true 3, .tmp 3, .tmp 4], false⟩
def J3H : Jk := .seq (.reg false [] [⟨.box 3 (.t 0), some 2, none⟩,
    ⟨.mv (.c (.p (.i .i64 0))), some 4, none⟩])
  (.seq (.seq (.reg false [] [⟨.load true 3 (.t 2), some 5, none⟩,
    ⟨.call J2E [(.t 5)] 0, some 6, none⟩,
    ⟨.un .not (.t 6), some 7, none⟩])
  (.keep [1, 2, 7] (.cond (.t 7)
  (.seq (.reg false [] [⟨.mv (.c (.p (.i .i64 (-1)))), some 4, none⟩])
    (.ret))
  (.skip))))
  (.seq (.reg false [] [⟨.load true 3 (.t 2), some 8, none⟩,
    ⟨.mv (.t 1), some 9, none⟩,
    ⟨.call J30 [(.t 8), (.t 9)] 0, some 10, none⟩,
    ⟨.mv (.t 10), some 4, none⟩])
  (.ret)))
def J4p : AFn := ⟨2, 11, J3H, [.tmp 4], false⟩
def JX : Jk := .seq (.reg false [] [⟨.mv (.c (.p (.b false))), some 0, none⟩])
  (.seq (.reg false [] [⟨.call J4e [(.c (.p (.i .i64 2)))] 0, some 8, none⟩,
    ⟨.mv (.t 8), some 7, none⟩,
    ⟨.extr (.t 7) 0, some 9, none⟩,
    ⟨.extr (.t 7) 1, some 10, none⟩,
    ⟨.newbox (J3 default), some 1, none⟩,
    ⟨.store 3 (.t 1) (.t 9), none, none⟩,
    ⟨.mv (.t 10), some 2, none⟩])
  (.keep [1, 2] (.seq (.reg false [] [⟨.load true 3 (.t 1), some 12, none⟩,
    ⟨.build (J7 default) [(0, 1, (.c (.p (.i .i64 1))))], some 13, none⟩,
    ⟨.call J3B [(.t 12), (.t 13)] 0, some 14, none⟩,
    ⟨.mv (.t 14), some 11, none⟩,
    ⟨.extr (.t 11) 0, some 15, none⟩,
    ⟨.extr (.t 11) 1, some 16, none⟩,
    ⟨.store 3 (.t 1) (.t 15), none, none⟩,
    ⟨.mv (.t 16), some 3, none⟩])
  (.keep [1, 2, 3] (.seq (.reg false [] [⟨.load true 3 (.t 1), some 18, none⟩,
    ⟨.build (J7 default) [(0, 1, (.c (.p (.i .i64 2))))], some 19, none⟩,
    ⟨.call J3B [(.t 18), (.t 19)] 0, some 20, none⟩,
    ⟨.mv (.t 20), some 17, none⟩,
    ⟨.extr (.t 17) 0, some 21, none⟩,
    ⟨.extr (.t 17) 1, some 22, none⟩,
    ⟨.store 3 (.t 1) (.t 21), none, none⟩,
    ⟨.mv (.t 22), some 4, none⟩])
  (.keep [1, 2, 3, 4] (.seq (.reg false [] [⟨.load true 3 (.t 1), some 24, none⟩,
    ⟨.call J1N [(.t 24)] 0, some 25, none⟩,
    ⟨.mv (.t 25), some 23, none⟩,
    ⟨.extr (.t 23) 0, some 26, none⟩,
    ⟨.extr (.t 23) 1, some 27, none⟩,
    ⟨.extr (.t 23) 2, some 28, none⟩,
    ⟨.store 3 (.t 1) (.t 26), none, none⟩,
    ⟨.mv (.t 27), some 5, none⟩,
    ⟨.mv (.t 28), some 6, none⟩])
  (.keep [1, 2, 3, 4, 5, 6] (.seq (.reg false [] [⟨.mv (.t 2), some 29, none⟩,
    ⟨.bin .eql .plain (.t 29) (.c (.p (.i .i64 0))), some 30, none⟩,
    ⟨.mv (.t 30), some 31, none⟩,
    ⟨.mv (.t 3), some 32, some (31, true)⟩,
    ⟨.bin .eql .plain (.t 32) (.c (.p (.i .i64 0))), some 33, some (31, true)⟩,
    ⟨.pick (.t 31) (.t 33) (.c (.p (.b false))), some 34, none⟩,
    ⟨.mv (.t 34), some 35, none⟩,
    ⟨.mv (.t 4), some 36, some (35, true)⟩,
    ⟨.bin .eql .plain (.t 36) (.c (.p (.i .i64 0))), some 37, some (35, true)⟩,
    ⟨.pick (.t 35) (.t 37) (.c (.p (.b false))), some 38, none⟩,
    ⟨.mv (.t 38), some 39, none⟩,
    ⟨.mv (.t 6), some 40, some (39, true)⟩,
    ⟨.bin .eql .plain (.t 40) (.c (.p (.i .i64 0))), some 41, some (39, true)⟩,
    ⟨.pick (.t 39) (.t 41) (.c (.p (.b false))), some 42, none⟩,
    ⟨.mv (.t 42), some 43, none⟩,
    ⟨.mv (.t 5), some 44, some (43, true)⟩,
    ⟨.bin .eql .plain (.t 44) (.c (.p (.i .i64 1))), some 45, some (43, true)⟩,
    ⟨.pick (.t 43) (.t 45) (.c (.p (.b false))), some 46, none⟩,
    ⟨.mv (.t 46), some 47, none⟩,
    ⟨.faddr 1 (.t 1), some 48, some (47, true)⟩,
    ⟨.load false 1 (.t 48), some 49, some (47, true)⟩,
    ⟨.len false (.t 49), some 50, some (47, true)⟩,
    ⟨.bin .eql .plain (.t 50) (.c (.p (.i .i64 2))), some 51, some (47, true)⟩,
    ⟨.pick (.t 47) (.t 51) (.c (.p (.b false))), some 52, none⟩,
    ⟨.mv (.t 52), some 53, none⟩,
    ⟨.faddr 1 (.t 1), some 54, some (53, true)⟩,
    ⟨.load false 1 (.t 54), some 55, some (53, true)⟩,
    ⟨.iaddr 37 (.t 55) (.c (.p (.i .i64 0))), some 56, some (53, true)⟩,
    ⟨.faddr 36 (.t 56), some 57, some (53, true)⟩,
    ⟨.load false 1 (.t 57), some 58, some (53, true)⟩,
    ⟨.un .not (.t 58), some 59, some (53, true)⟩,
    ⟨.pick (.t 53) (.t 59) (.c (.p (.b false))), some 60, none⟩,
    ⟨.mv (.t 60), some 61, none⟩,
    ⟨.faddr 1 (.t 1), some 62, some (61, true)⟩,
    ⟨.load false 1 (.t 62), some 63, some (61, true)⟩,
    ⟨.iaddr 37 (.t 63) (.c (.p (.i .i64 1))), some 64, some (61, true)⟩,
    ⟨.faddr 36 (.t 64), some 65, some (61, true)⟩,
    ⟨.load false 1 (.t 65), some 66, some (61, true)⟩,
    ⟨.un .not (.t 66), some 67, some (61, true)⟩,
    ⟨.pick (.t 61) (.t 67) (.c (.p (.b false))), some 68, none⟩,
    ⟨.mv (.t 68), some 0, none⟩])
  (.ret))))))))))
def J3k : AFn := ⟨0, 69, JX, [.tmp 0], false⟩
def J47 : Jk := .seq (.reg false [] [⟨.box 3 (.t 0), some 2, none⟩,
    ⟨.newbox (J3 default), some 4, none⟩])
  (.seq (.seq (.reg false [] [⟨.load true 3 (.t 2), some 7, none⟩,
    ⟨.mv (.t 1), some 8, none⟩,
    ⟨.call J4r [(.t 7), (.t 8)] 0, some 9, none⟩,
    ⟨.mv (.t 9), some 5, none⟩])
  (.keep [2, 4, 5] (.seq (.reg false [] [⟨.mv (.t 5), some 10, none⟩,
    ⟨.bin .geq .plain (.t 10) (.c (.p (.i .i64 0))), some 11, none⟩])
  (.cond (.t 11)
  (.seq (.reg false [] [⟨.faddr 1 (.t 2), some 12, none⟩,
      ⟨.load false 1 (.t 12), some 13, none⟩,
      ⟨.mv (.t 5), some 14, none⟩,
      ⟨.iaddr 37 (.t 13) (.t 14), some 15, none⟩,
      ⟨.load true 37 (.t 15), some 16, none⟩,
      ⟨.newbox (J1 default), some 6, none⟩,
      ⟨.store 37 (.t 6) (.t 16), none, none⟩])
    (.keep [2, 4, 5, 6] (.seq (.reg false [] [⟨.faddr 36 (.t 6), some 17, none⟩,
      ⟨.store 1 (.t 17) (.c (.p (.b true))), none, none⟩])
    (.reg false [] [⟨.faddr 1 (.t 2), some 18, none⟩,
      ⟨.load false 1 (.t 18), some 19, none⟩,
      ⟨.mv (.t 5), some 20, none⟩,
      ⟨.load true 37 (.t 6), some 21, none⟩,
      ⟨.call J1g [(.t 19), (.t 20), (.t 21)] 0, some 22, none⟩,
      ⟨.faddr 1 (.t 2), some 23, none⟩,
      ⟨.store 1 (.t 23) (.t 22), none, none⟩]))))
  (.skip)))))
  (.seq (.reg false [] [⟨.load true 3 (.t 2), some 24, none⟩,
    ⟨.store 3 (.t 4) (.t 24), none, none⟩])
  (.ret)))
def J4R : AFn := ⟨2, 25, J47, [.cell 4 true 3], false⟩
def J0s : Jk := .seq (.seq (.reg false [] [⟨.mv (.t 8), some 42, none⟩,
    ⟨.mv (.t 5), some 43, none⟩,
    ⟨.bin .lss .plain (.t 42) (.t 43), some 44, none⟩])
  (.keep [1, 5, 6, 7, 8, 44] (.cond (.t 44)
  (.skip)
  (.exit 0))))
  (.seq (.block 1 (.seq (.reg false [] [⟨.load true 3 (.t 6), some 48, none⟩,
    ⟨.mv (.t 8), some 49, none⟩,
    ⟨.build (J7 default) [(0, 1, (.t 49))], some 50, none⟩,
    ⟨.call J3B [(.t 48), (.t 50)] 0, some 51, none⟩,
    ⟨.mv (.t 51), some 47, none⟩,
    ⟨.extr (.t 47) 0, some 52, none⟩,
    ⟨.extr (.t 47) 1, some 53, none⟩,
    ⟨.newbox (J3 default), some 9, none⟩,
    ⟨.store 3 (.t 9) (.t 52), none, none⟩,
    ⟨.mv (.t 53), some 10, none⟩])
  (.keep [1, 5, 6, 7, 8, 9, 10] (.seq (.seq (.reg false [] [⟨.mv (.t 10), some 54, none⟩,
    ⟨.bin .neq .plain (.t 54) (.c (.p (.i .i64 0))), some 55, none⟩])
  (.cond (.t 55)
  (.seq (.reg false [] [⟨.mv (.c (.p (.b false))), some 4, none⟩])
    (.ret))
  (.skip)))
  (.reg false [] [⟨.load true 3 (.t 9), some 56, none⟩,
    ⟨.store 3 (.t 6) (.t 56), none, none⟩])))))
  (.reg false [] [⟨.mv (.t 8), some 45, none⟩,
    ⟨.bin .add .plain (.t 45) (.c (.p (.i .i64 1))), some 46, none⟩,
    ⟨.mv (.t 46), some 8, none⟩]))
def J0M : Jk := .seq (.reg false [] [⟨.bin .lss .plain (.t 77) (.t 76), some 78, none⟩])
  (.seq (.cond (.t 78)
  (.skip)
  (.exit 2))
  (.seq (.block 3 (.seq (.reg false [] [⟨.iaddr 1 (.t 75) (.t 77), some 79, none⟩,
    ⟨.load false 1 (.t 79), some 80, none⟩,
    ⟨.mv (.t 80), some 15, none⟩])
  (.keep [5, 6, 13, 15, 75, 76, 77] (.seq (.reg false [] [⟨.mv (.t 13), some 81, none⟩,
    ⟨.mv (.t 15), some 82, none⟩,
    ⟨.conv (.int .i64) (.t 82), some 83, none⟩,
    ⟨.mv (.t 5), some 84, none⟩,
    ⟨.bin .rem .plain (.t 83) (.t 84), some 85, none⟩,
    ⟨.iaddr 1 (.t 81) (.t 85), some 86, none⟩,
    ⟨.store 1 (.t 86) (.c (.p (.b true))), none, none⟩])
  (.keep [5, 6, 13, 15, 75, 76, 77] (.reg true [] [⟨.load true 3 (.t 6), some 87, none⟩,
    ⟨.mv (.t 15), some 88, none⟩,
    ⟨.conv (.int .i64) (.t 88), some 89, none⟩,
    ⟨.mv (.t 5), some 90, none⟩,
    ⟨.bin .rem .plain (.t 89) (.t 90), some 91, none⟩,
    ⟨.call J4X [(.t 87), (.t 91)] 0, some 92, none⟩,
    ⟨.store 3 (.t 6) (.t 92), none, none⟩]))))))
  (.reg false [] [⟨.bin .add .plain (.t 77) (.c (.p (.i .i64 1))), some 93, none⟩,
    ⟨.mv (.t 93), some 77, none⟩])))
def J4y : Jk := .reg false [] [⟨.mv (.t 18), some 103, none⟩,
    ⟨.bin .add .plain (.t 103) (.c (.p (.i .i64 1))), some 104, none⟩,
    ⟨.mv (.t 104), some 18, none⟩]
def J0f : Jk := .seq (.seq (.reg false [] [⟨.mv (.t 18), some 100, none⟩,
    ⟨.mv (.t 5), some 101, none⟩,
    ⟨.bin .lss .plain (.t 100) (.t 101), some 102, none⟩])
  (.keep [5, 11, 12, 13, 16, 17, 18, 102] (.cond (.t 102)
  (.skip)
  (.exit 4))))
  (.seq (.block 5 (.reg false [] [⟨.mv (.t 17), some 105, none⟩,
    ⟨.mv (.t 105), some 106, none⟩,
    ⟨.mv (.t 13), some 107, some (106, true)⟩,
    ⟨.mv (.t 18), some 108, some (106, true)⟩,
    ⟨.iaddr 1 (.t 107) (.t 108), some 109, some (106, true)⟩,
    ⟨.load false 1 (.t 109), some 110, some (106, true)⟩,
    ⟨.pick (.t 106) (.t 110) (.c (.p (.b false))), some 111, none⟩,
    ⟨.mv (.t 111), some 17, none⟩]))
  (.keep [5, 11, 12, 13, 16, 17, 18] J4y))
def J0t : Jk := .seq (.seq (.reg false [] [⟨.mv (.t 19), some 140, none⟩,
    ⟨.mv (.t 11), some 141, none⟩,
    ⟨.bin .lss .plain (.t 140) (.t 141), some 142, none⟩])
  (.keep [11, 13, 16, 19, 142] (.cond (.t 142)
  (.skip)
  (.exit 6))))
  (.seq (.block 7 (.seq (.reg false [] [⟨.mv (.t 13), some 145, none⟩,
    ⟨.mv (.t 19), some 146, none⟩,
    ⟨.iaddr 1 (.t 145) (.t 146), some 147, none⟩,
    ⟨.load false 1 (.t 147), some 148, none⟩,
    ⟨.un .not (.t 148), some 149, none⟩])
  (.keep [11, 13, 16, 19, 149] (.cond (.t 149)
  (.seq (.reg false [] [⟨.mv (.c (.p (.b false))), some 4, none⟩])
    (.ret))
  (.skip)))))
  (.reg false [] [⟨.mv (.t 19), some 143, none⟩,
    ⟨.bin .add .plain (.t 143) (.c (.p (.i .i64 1))), some 144, none⟩,
    ⟨.mv (.t 144), some 19, none⟩]))
def J0d : Jk := .seq (.reg false [] [⟨.load true 3 (.t 16), some 151, none⟩,
    ⟨.call J1N [(.t 151)] 0, some 152, none⟩,
    ⟨.mv (.t 152), some 150, none⟩,
    ⟨.extr (.t 150) 0, some 153, none⟩,
    ⟨.extr (.t 150) 1, some 154, none⟩,
    ⟨.extr (.t 150) 2, some 155, none⟩,
    ⟨.newbox (J3 default), some 20, none⟩,
    ⟨.store 3 (.t 20) (.t 153), none, none⟩,
    ⟨.mv (.t 154), some 21, none⟩,
    ⟨.mv (.t 155), some 22, none⟩])
  (.keep [11, 16, 20, 21, 22] (.seq (.reg false [] [⟨.mv (.t 22), some 156, none⟩,
    ⟨.bin .eql .plain (.t 156) (.c (.p (.i .i64 0))), some 157, none⟩,
    ⟨.mv (.t 157), some 158, none⟩,
    ⟨.mv (.t 21), some 159, some (158, true)⟩,
    ⟨.mv (.t 11), some 160, some (158, true)⟩,
    ⟨.bin .eql .plain (.t 159) (.t 160), some 161, some (158, true)⟩,
    ⟨.pick (.t 158) (.t 161) (.c (.p (.b false))), some 162, none⟩,
    ⟨.mv (.t 162), some 163, none⟩,
    ⟨.load true 3 (.t 16), some 164, some (163, true)⟩,
    ⟨.load true 3 (.t 20), some 165, some (163, true)⟩,
    ⟨.call J42 [(.t 164), (.t 165)] 0, some 166, some (163, true)⟩,
    ⟨.pick (.t 163) (.t 166) (.c (.p (.b false))), some 167, none⟩,
    ⟨.mv (.t 167), some 4, none⟩])
  (.ret)))
def Jv : Jk := .seq (.seq (.reg false [] [⟨.mv (.t 12), some 112, none⟩,
    ⟨.bin .neq .plain (.t 112) (.c (.p (.i .i64 0))), some 113, none⟩,
    ⟨.mv (.t 113), some 114, none⟩,
    ⟨.mv (.t 11), some 115, some (114, false)⟩,
    ⟨.bin .lss .plain (.t 115) (.c (.p (.i .i64 0))), some 116, some (114, false)⟩,
    ⟨.pick (.t 114) (.c (.p (.b true))) (.t 116), some 117, none⟩,
    ⟨.mv (.t 117), some 118, none⟩,
    ⟨.mv (.t 11), some 119, some (118, false)⟩,
    ⟨.mv (.t 5), some 120, some (118, false)⟩,
    ⟨.bin .geq .plain (.t 119) (.t 120), some 121, some (118, false)⟩,
    ⟨.pick (.t 118) (.c (.p (.b true))) (.t 121), some 122, none⟩,
    ⟨.mv (.t 122), some 123, none⟩,
    ⟨.mv (.t 17), some 124, some (123, false)⟩,
    ⟨.un .not (.t 124), some 125, some (123, false)⟩,
    ⟨.mv (.t 125), some 126, some (123, false)⟩,
    ⟨.mv (.t 13), some 127, some (126, true)⟩,
    ⟨.mv (.t 11), some 128, some (126, true)⟩,
    ⟨.iaddr 1 (.t 127) (.t 128), some 129, some (126, true)⟩,
    ⟨.load false 1 (.t 129), some 130, some (126, true)⟩,
    ⟨.pick (.t 126) (.t 130) (.c (.p (.b false))), some 131, some (123, false)⟩,
    ⟨.pick (.t 123) (.c (.p (.b true))) (.t 131), some 132, none⟩,
    ⟨.mv (.t 132), some 133, none⟩,
    ⟨.mv (.t 17), some 134, some (133, false)⟩,
    ⟨.mv (.t 134), some 135, some (133, false)⟩,
    ⟨.mv (.t 11), some 136, some (135, true)⟩,
    ⟨.bin .neq .plain (.t 136) (.c (.p (.i .i64 0))), some 137, some (135, true)⟩,
    ⟨.pick (.t 135) (.t 137) (.c (.p (.b false))), some 138, some (133, false)⟩,
    ⟨.pick (.t 133) (.c (.p (.b true))) (.t 138), some 139, none⟩])
  (.keep [11, 13, 16, 139] (.cond (.t 139)
  (.seq (.reg false [] [⟨.mv (.c (.p (.b false))), some 4, none⟩])
    (.ret))
  (.skip))))
  (.seq (.seq (.reg false [] [⟨.mv (.c (.p (.i .i64 0))), some 19, none⟩])
  (.block 6 (.loop [11, 13, 16, 19] J0t)))
  (.keep [11, 16] J0d))
def J15 : Jk := .seq (.reg false [] [⟨.load true 3 (.t 6), some 95, none⟩,
    ⟨.call J1N [(.t 95)] 0, some 96, none⟩,
    ⟨.mv (.t 96), some 94, none⟩,
    ⟨.extr (.t 94) 0, some 97, none⟩,
    ⟨.extr (.t 94) 1, some 98, none⟩,
    ⟨.extr (.t 94) 2, some 99, none⟩,
    ⟨.newbox (J3 default), some 16, none⟩,
    ⟨.store 3 (.t 16) (.t 97), none, none⟩,
    ⟨.mv (.t 98), some 11, none⟩,
    ⟨.mv (.t 99), some 12, none⟩])
  (.keep [5, 11, 12, 13, 16] (.seq (.reg false [] [⟨.mv (.c (.p (.b true))), some 17, none⟩])
  (.seq (.seq (.reg false [] [⟨.mv (.c (.p (.i .i64 0))), some 18, none⟩])
  (.block 4 (.loop [5, 11, 12, 13, 16, 17, 18] J0f)))
  (.keep [5, 11, 12, 13, 16, 17] Jv))))
def JU : Jk := .seq (.reg false [] [⟨.load true 3 (.t 6), some 58, none⟩,
    ⟨.call J1N [(.t 58)] 0, some 59, none⟩,
    ⟨.mv (.t 59), some 57, none⟩,
    ⟨.extr (.t 57) 0, some 60, none⟩,
    ⟨.extr (.t 57) 1, some 61, none⟩,
    ⟨.extr (.t 57) 2, some 62, none⟩,
    ⟨.store 3 (.t 6) (.t 60), none, none⟩,
    ⟨.mv (.t 61), some 11, none⟩,
    ⟨.mv (.t 62), some 12, none⟩])
  (.keep [1, 5, 6, 7, 11, 12] (.seq (.seq (.reg false [] [⟨.mv (.t 7), some 63, none⟩,
    ⟨.bin .neq .plain (.t 63) (.c (.p (.i .i64 0))), some 64, none⟩,
    ⟨.mv (.t 64), some 65, none⟩,
    ⟨.mv (.t 12), some 66, some (65, false)⟩,
    ⟨.bin .neq .plain (.t 66) (.c (.p (.i .i64 0))), some 67, some (65, false)⟩,
    ⟨.pick (.t 65) (.c (.p (.b true))) (.t 67), some 68, none⟩,
    ⟨.mv (.t 68), some 69, none⟩,
    ⟨.mv (.t 11), some 70, some (69, false)⟩,
    ⟨.bin .neq .plain (.t 70) (.c (.p (.i .i64 0))), some 71, some (69, false)⟩,
    ⟨.pick (.t 69) (.c (.p (.b true))) (.t 71), some 72, none⟩])
  (.keep [1, 5, 6, 72] (.cond (.t 72)
  (.seq (.reg false [] [⟨.mv (.c (.p (.b false))), some 4, none⟩])
    (.ret))
  (.skip))))
  (.seq (.reg false [] [⟨.mv (.t 5), some 73, none⟩,
    ⟨.mkslice true 1 1 [(.b false)] (.t 73) (.t 73), some 74, none⟩,
    ⟨.mv (.t 74), some 13, none⟩])
  (.keep [1, 5, 6, 13] (.seq (.seq (.reg false [] [⟨.mv (.t 1), some 75, none⟩,
    ⟨.len false (.t 75), some 76, none⟩,
    ⟨.mv (.c (.p (.i .i64 0))), some 77, none⟩])
  (.keep [5, 6, 13, 75, 76, 77] (.block 2 (.loop [5, 6, 13, 75, 76, 77] J0M))))
  (.keep [5, 6, 13] J15))))))
def J0O : Jk := .seq (.reg false [] [⟨.mv (.c (.p (.b false))), some 4, none⟩])
  (.seq (.seq (.reg false [] [⟨.call J3m [] 0, some 23, none⟩,
    ⟨.un .not (.t 23), some 24, none⟩,
    ⟨.mv (.t 24), some 25, none⟩,
    ⟨.mv (.t 1), some 26, some (25, false)⟩,
    ⟨.len false (.t 26), some 27, some (25, false)⟩,
    ⟨.bin .gtr .plain (.t 27) (.c (.p (.i .i64 60))), some 28, some (25, false)⟩,
    ⟨.pick (.t 25) (.c (.p (.b true))) (.t 28), some 29, none⟩])
  (.keep [0, 1, 29] (.cond (.t 29)
  (.seq (.reg false [] [⟨.mv (.t 1), some 30, none⟩,
      ⟨.len false (.t 30), some 31, none⟩,
      ⟨.bin .gtr .plain (.t 31) (.c (.p (.i .i64 60))), some 32, none⟩,
      ⟨.mv (.t 32), some 4, none⟩])
    (.ret))
  (.skip))))
  (.seq (.reg false [] [⟨.mv (.t 0), some 33, none⟩,
    ⟨.conv (.int .i64) (.t 33), some 34, none⟩,
    ⟨.bin .rem .plain (.t 34) (.c (.p (.i .i64 8))), some 35, none⟩,
    ⟨.bin .add .plain (.c (.p (.i .i64 2))) (.t 35), some 36, none⟩,
    ⟨.mv (.t 36), some 5, none⟩])
  (.keep [1, 5] (.seq (.reg false [] [⟨.mv (.t 5), some 38, none⟩,
    ⟨.call J4e [(.t 38)] 0, some 39, none⟩,
    ⟨.mv (.t 39), some 37, none⟩,
    ⟨.extr (.t 37) 0, some 40, none⟩,
    ⟨.extr (.t 37) 1, some 41, none⟩,
    ⟨.newbox (J3 default), some 6, none⟩,
    ⟨.store 3 (.t 6) (.t 40), none, none⟩,
    ⟨.mv (.t 41), some 7, none⟩])
  (.keep [1, 5, 6, 7] (.seq (.tidy [1, 4, 5, 6, 7] (.seq (.reg false [] [⟨.mv (.c (.p (.i .i64 0))), some 8, none⟩])
  (.block 0 (.loop [1, 5, 6, 7, 8] J0s))))
  (.keep [1, 5, 6, 7] JU)))))))
def Jl : AFn := ⟨2, 168, J0O, [.tmp 4], false⟩
theorem J8k : J50.res = [.cell 2 true 3, .tmp 3] ∧ J50.fresh = false := ⟨rfl, rfl⟩
theorem J4M : J1i.res = [.tmp 4] ∧ J1i.fresh = false := ⟨rfl, rfl⟩
theorem J5N : J1k.res = [.tmp 2] ∧ J1k.fresh = false := ⟨rfl, rfl⟩
theorem J9C : J3P.res = [.tmp 2] ∧ J3P.fresh = false := ⟨rfl, rfl⟩
theorem Jcm : J31.res = [.tmp 3] ∧ J31.fresh = false := ⟨rfl, rfl⟩
theorem J2j : Jn.res = [.tmp 4] ∧ Jn.fresh = false := ⟨rfl, rfl⟩
theorem Jf5 : J4t.res = [.tmp 4] ∧ J4t.fresh = false := ⟨rfl, rfl⟩
theorem J5a : J0b.res = [.tmp 2] ∧ J0b.fresh = false := ⟨rfl, rfl⟩
theorem J81 : J1d.res = [.tmp 6] ∧ J1d.fresh = false := ⟨rfl, rfl⟩
theorem J9c : JB.res = [.cell 0 true 16] ∧ JB.fresh = false := ⟨rfl, rfl⟩
theorem J6r : J3g.res = [.tmp 2] ∧ J3g.fresh = false := ⟨rfl, rfl⟩
theorem J8N : J19.res = [] ∧ J19.fresh = false := ⟨rfl, rfl⟩
theorem Jff : J1G.res = [.tmp 2] ∧ J1G.fresh = false := ⟨rfl, rfl⟩
theorem J6t : J0Z.res = [.tmp 2, .tmp 3] ∧ J0Z.fresh = false := ⟨rfl, rfl⟩
theorem J9b : J3R.res = [.tmp 2] ∧ J3R.fresh = false := ⟨rfl, rfl⟩
theorem J1o : J1l.res = [.tmp 2] ∧ J1l.fresh = false := ⟨rfl, rfl⟩
theorem J5J : J4U.res = [.cell 4 true 3, .tmp 5] ∧ J4U.fresh = false := ⟨rfl, rfl⟩
theorem J6w : J10.res = [.cell 2 true 3, .tmp 3, .tmp 4] ∧ J10.fresh = false := ⟨rfl, rfl⟩
theorem Jal : J4p.res = [.tmp 4] ∧ J4p.fresh = false := ⟨rfl, rfl⟩
theorem J29 : J3k.res = [.tmp 0] ∧ J3k.fresh = false := ⟨rfl, rfl⟩
theorem Jbl : J4R.res = [.cell 4 true 3] ∧ J4R.fresh = false := ⟨rfl, rfl⟩
theorem JQ : Jl.res = [.tmp 4] ∧ Jl.fresh = false := ⟨rfl, rfl⟩
def fns : List (FuncId × AFn) := [(J4e, J50), (J42, J1i), (J3c, J1k), (J44, J3P), (J0q, J31), (JV, Jn), (J30, J4t), (JW, J0b), (J1g, J1d), (J1R, JB), (J2K, J3g), (J0u, J19), (J3F, J1G), (J3f, J0Z), (J3M, J3R), (J2E, J1l), (J3B, J4U), (J1N, J10), (J4r, J4p), (J3m, J3k), (J4X, J4R), (J3L, Jl)]
def Jdu : List (FuncId × J5L) := [(JI, J0v)]
def Jdx : List (FuncId × (List AV → List Blk → Option Res)) := [(J0U, JeD), (J1n, Jeb)]
def lkF {α : Type} (f : FuncId) : List (FuncId × α) → Option α
  | [] => none
  | (g, a) :: r => if f = g then some a else lkF f r
def J2 (prims : FuncId → Option (List AV → List Blk → Option Res)) : J2H := fun f => JlL (lkF f fns) (lkF f Jdu) (lkF f Jdx) (prims f)
theorem Jgs (p) : J2 p J4e = some (.fn J50) := rfl
theorem JeE (p) : J2 p J42 = some (.fn J1i) := rfl
theorem JdG (p) : J2 p J3c = some (.fn J1k) := rfl
theorem JdH (p) : J2 p J44 = some (.fn J3P) := rfl
theorem Jcl (p) : J2 p J0q = some (.fn J31) := rfl
theorem J4u (p) : J2 p JV = some (.fn Jn) := rfl
theorem Jf2 (p) : J2 p J30 = some (.fn J4t) := rfl
theorem J5g (p) : J2 p JW = some (.fn J0b) := rfl
theorem J7L (p) : J2 p J1g = some (.fn J1d) := rfl
theorem J9m (p) : J2 p J1R = some (.fn JB) := rfl
theorem Jdo (p) : J2 p J2K = some (.fn J3g) := rfl
theorem J8R (p) : J2 p J0u = some (.fn J19) := rfl
theorem Jfi (p) : J2 p J3F = some (.fn J1G) := rfl
theorem Jdg (p) : J2 p J3f = some (.fn J0Z) := rfl
theorem Je3 (p) : J2 p J3M = some (.fn J3R) := rfl
theorem JeF (p) : J2 p J2E = some (.fn J1l) := rfl
theorem Jgg (p) : J2 p J3B = some (.fn J4U) := rfl
theorem Jd9 (p) : J2 p J1N = some (.fn J10) := rfl
theorem Jfp (p) : J2 p J4r = some (.fn J4p) := rfl
theorem Jd6 (p) : J2 p J3m = some (.fn J3k) := rfl
theorem Jgz (p) : J2 p J4X = some (.fn J4R) := rfl
theorem J9X (p) : J2 p J3L = some (.fn Jl) := rfl
theorem J57 (p) : J2 p JI = some (.fork J0v) := rfl
theorem Jfd (p) : J2 p J0U = some (.prim JeD) := rfl
theorem JaW (p) : J2 p J1n = some (.prim Jeb) := rfl
end Go.Am
end
section
namespace Go.Am
set_option maxRecDepth 8000
set_option maxHeartbeats 4000000
set_option linter.unusedSimpArgs false
set_option linter.unusedVariables false
noncomputable section
variable (p : FuncId → Option (List AV → List Blk → Option Res))
def JbF  (r : T_api_Pool × Int) : Option Res := some (.tup [.data (J3 r.1), .p (.i .i64 r.2)], [])
def J2T (x0 : Int) : Option (T_api_Pool × Int) :=
  if (decide (x0 < 1)) then
    some ((⟨0, ([] : List T_api_Frame), 0⟩ : T_api_Pool), 1)
  else
    if (decide (x0 > 64)) then
      some ((⟨0, ([] : List T_api_Frame), 0⟩ : T_api_Pool), 1)
    else
      some ((⟨x0, ([] : List T_api_Frame), 0⟩ : T_api_Pool), 0)
theorem Jch {x0 : Int} {o : T_api_Pool × Int} (h : J2T x0 = some o) :
    rk (J2 p) J50 0 [] (X (J2 p) J3D ⟨[(0, .p (.i .i64 x0))], []⟩) = JbF o := by
  unfold J2T at h
  rcases Ji h with ⟨h1, h⟩ | ⟨h1, h⟩
  · obtain rfl := sj h
    try simp only [↓Da, Ua, J3D, J5, J0, J4, J9, J6, J8k, *, ↓reduceIte, Nat.reduceEqDiff, Nat.reduceAdd, Nat.reduceLT, Nat.reduceMul]
    rfl
  · try simp only [↓Da, Ua, J3D, J5, J0, J4, J9, J6, *, ↓reduceIte, Nat.reduceEqDiff, Nat.reduceAdd, Nat.reduceLT, Nat.reduceMul]
    rcases Ji h with ⟨h2, h⟩ | ⟨h2, h⟩
    · obtain rfl := sj h
      try simp only [↓Da, Ua, J3D, J5, J0, J4, J9, J6, J8k, *, ↓reduceIte, Nat.reduceEqDiff, Nat.reduceAdd, Nat.reduceLT, Nat.reduceMul]
      rfl
    · obtain rfl := sj h
      try simp only [↓Da, Ua, J3D, J5, J0, J4, J9, J6, J8k, *, ↓reduceIte, Nat.reduceEqDiff, Nat.reduceAdd, Nat.reduceLT, Nat.reduceMul]
      rfl
theorem JfY {x0 : Int} {o : T_api_Pool × Int} (h : J2T x0 = some o) : AF (J2 p) J4e [.p (.i .i64 x0)] [] = JbF o :=
  (J2d (J2 p) (Jgs p) rfl).trans (Jch p h)
theorem JbG {x0 : Int} {o : T_api_Pool × Int} (h : J2T x0 = some o) : ∀ ws new st, (Jy (AF (J2 p)) J4e ([.p (.i .i64 x0)], ws) 0 new).run st = some ⟨.tup [.data (J3 o.1), .p (.i .i64 o.2)], ws⟩ := J01 rfl (JfY p h) rfl
def J3Q  (r : Bool) : Option Res := some (.p (.b r), [])
def JbP (b0 : T_api_Pool) (b1 : T_api_Pool) (o : (Int) ⊕ (Bool)) : Option Res := match o with
  | .inl s => rk (J2 p) J1i 0 [.bl 0, .sq (.keep [] J2n)] (X (J2 p) (.lp 2 [2, 3, 5] J13) ⟨[(2, .ptr 0 0), (3, .ptr 1 0), (5, .p (.i .i64 s))], [.box (List.map AV.p (J3 b0)), .box (List.map AV.p (J3 b1))]⟩)
  | .inr o => J3Q o
def J4S  : Option (Bool) :=
  some true
theorem Jcc {B0 : List PV} {B1 : List PV} {o : Bool} (h : J4S = some o) :
    rk (J2 p) J1i 0 [] (X (J2 p) J2n ⟨[], [.box (List.map AV.p B0), .box (List.map AV.p B1)]⟩) = J3Q o := by
  unfold J4S at h
  obtain rfl := sj h
  try simp only [↓Da, Ua, J2n, J4M, ↓reduceIte, Nat.reduceEqDiff, Nat.reduceAdd, Nat.reduceLT, Nat.reduceMul]
  rfl
def J2m (b0 : T_api_Pool) (b1 : T_api_Pool) (x5 : Int) : Option (((Int) ⊕ (Bool))) :=
  if (decide (x5 < ((List.length b0.Frames : Nat) : Int))) then
    Option.bind (idx b0.Frames x5) fun y2 =>
    Option.bind (idx b1.Frames x5) fun y5 =>
    if (y2 == y5) then
      some (.inl (IntKind.wrap .i64 (x5 + 1)))
    else
      some (.inr false)
  else
    Option.map (fun o => .inr o) (J4S)
theorem J7J {b0 : T_api_Pool} {b1 : T_api_Pool} {x5 : Int} {o : ((Int) ⊕ (Bool))} (h : J2m b0 b1 x5 = some o) :
    rk (J2 p) J1i 0 [.lo 2 [2, 3, 5] J13, .bl 0, .sq (.keep [] J2n)] (X (J2 p) J13 ⟨[(2, .ptr 0 0), (3, .ptr 1 0), (5, .p (.i .i64 x5))], [.box (List.map AV.p (J3 b0)), .box (List.map AV.p (J3 b1))]⟩) = (JbP p b0 b1) o := by
  unfold J2m at h
  rcases Ji h with ⟨h1, h⟩ | ⟨h1, h⟩
  · obtain ⟨y2, h3, h⟩ := bi h
    have f4 := J46 (r := J1) h3
    try simp only [Nf] at f4
    obtain ⟨y5, h6, h⟩ := bi h
    have f7 := J46 (r := J1) h6
    try simp only [Nf] at f7
    try simp only [↓Da, Ua, J13, J5, J0, J4, J9, J6, J6u, *, ↓reduceIte, Nat.reduceEqDiff, Nat.reduceAdd, Nat.reduceLT, Nat.reduceMul]
    rcases Ji h with ⟨h9, h⟩ | ⟨h9, h⟩
    · obtain rfl := sj h
      try simp only [↓Da, Ua, J13, J5, J0, J4, J9, J6, J6u, *, ↓reduceIte, Nat.reduceEqDiff, Nat.reduceAdd, Nat.reduceLT, Nat.reduceMul]
      rfl
    · obtain rfl := sj h
      try simp only [↓Da, Ua, J13, J5, J0, J4, J9, J6, J6u, J4M, *, ↓reduceIte, Nat.reduceEqDiff, Nat.reduceAdd, Nat.reduceLT, Nat.reduceMul]
      rfl
  · obtain ⟨o', h', rfl⟩ := mi h
    try simp only [↓Da, Ua, J13, J5, J0, J4, J9, J6, *, ↓reduceIte, Nat.reduceEqDiff, Nat.reduceAdd, Nat.reduceLT, Nat.reduceMul]
    have e0 := Jcc p (B0 := (J3 b0)) (B1 := (J3 b1)) h'
    exact e0
def J6c (b0 : T_api_Pool) (b1 : T_api_Pool) (s : Int) : Option (Bool) :=
  JO (fun s => J2m b0 b1 s) s
theorem JaM {b0 : T_api_Pool} {b1 : T_api_Pool} {s : Int} {o : Bool} (h : J6c b0 b1 s = some o) :
    rk (J2 p) J1i 0 [.bl 0, .sq (.keep [] J2n)] (X (J2 p) (.lp 2 [2, 3, 5] J13) ⟨[(2, .ptr 0 0), (3, .ptr 1 0), (5, .p (.i .i64 s))], [.box (List.map AV.p (J3 b0)), .box (List.map AV.p (J3 b1))]⟩) = J3Q o := by
  have h0 : JO (fun s => J2m b0 b1 s) s = some o := h
  exact J1S (P := fun (s : Int) (o : Bool) => rk (J2 p) J1i 0 [.bl 0, .sq (.keep [] J2n)] (X (J2 p) (.lp 2 [2, 3, 5] J13) ⟨[(2, .ptr 0 0), (3, .ptr 1 0), (5, .p (.i .i64 s))], [.box (List.map AV.p (J3 b0)), .box (List.map AV.p (J3 b1))]⟩) = J3Q o) (fun s r hs => by rw [J1y]; exact J7J p hs) (fun s s1 r hs ih => by rw [J1y]; exact (J7J p hs).trans ih) h0
def J3d (x0 : T_api_Pool) (x1 : T_api_Pool) : Option (Bool) :=
  if ((x0.Size : Int) != x1.Size) then
    some false
  else
    if ((x0.Hand : Int) != x1.Hand) then
      some false
    else
      if ((((List.length x0.Frames : Nat) : Int) : Int) != ((List.length x1.Frames : Nat) : Int)) then
        some false
      else
        J6c x0 x1 0
theorem JaI {x0 : T_api_Pool} {x1 : T_api_Pool} {o : Bool} (h : J3d x0 x1 = some o) :
    rk (J2 p) J1i 0 [] (X (J2 p) J1I ⟨[(0, .data (J3 x0)), (1, .data (J3 x1))], []⟩) = J3Q o := by
  unfold J3d at h
  rcases Ji h with ⟨h1, h⟩ | ⟨h1, h⟩
  · obtain rfl := sj h
    try simp only [↓Da, Ua, J1I, J5, J0, J4, J9, J6, J4M, *, ↓reduceIte, Nat.reduceEqDiff, Nat.reduceAdd, Nat.reduceLT, Nat.reduceMul]
    rfl
  · try simp only [↓Da, Ua, J1I, J5, J0, J4, J9, J6, *, ↓reduceIte, Nat.reduceEqDiff, Nat.reduceAdd, Nat.reduceLT, Nat.reduceMul]
    rcases Ji h with ⟨h2, h⟩ | ⟨h2, h⟩
    · obtain rfl := sj h
      try simp only [↓Da, Ua, J1I, J5, J0, J4, J9, J6, J4M, *, ↓reduceIte, Nat.reduceEqDiff, Nat.reduceAdd, Nat.reduceLT, Nat.reduceMul]
      rfl
    · try simp only [↓Da, Ua, J1I, J5, J0, J4, J9, J6, *, ↓reduceIte, Nat.reduceEqDiff, Nat.reduceAdd, Nat.reduceLT, Nat.reduceMul]
      rcases Ji h with ⟨h3, h⟩ | ⟨h3, h⟩
      · obtain rfl := sj h
        try simp only [↓Da, Ua, J1I, J5, J0, J4, J9, J6, J4M, *, ↓reduceIte, Nat.reduceEqDiff, Nat.reduceAdd, Nat.reduceLT, Nat.reduceMul]
        rfl
      · try simp only [↓Da, Ua, J1I, J5, J0, J4, J9, J6, *, ↓reduceIte, Nat.reduceEqDiff, Nat.reduceAdd, Nat.reduceLT, Nat.reduceMul]
        have e0 := JaM p h
        exact e0
theorem Jej {x0 : T_api_Pool} {x1 : T_api_Pool} {o : Bool} (h : J3d x0 x1 = some o) : AF (J2 p) J42 [.data (J3 x0), .data (J3 x1)] [] = J3Q o :=
  (J2d (J2 p) (JeE p) rfl).trans (JaI p h)
theorem JdM {x0 : T_api_Pool} {x1 : T_api_Pool} {o : Bool} (h : J3d x0 x1 = some o) : ∀ ws new st, (Jy (AF (J2 p)) J42 ([.data (J3 x0), .data (J3 x1)], ws) 0 new).run st = some ⟨.p (.b o), ws⟩ := J01 rfl (Jej p h) rfl
def Jam (r : List UInt8) : Option Res := some (.p (.s r), [])
def J2X (x0 : List UInt8) (x1 : Int) (x2 : Int) : Option (List UInt8) := Jcf x0 x1 x2
theorem Jfk {x0 : List UInt8} {x1 : Int} {x2 : Int} {o : List UInt8} (h : J2X x0 x1 x2 = some o) : AF (J2 p) J0U [.p (.s x0), .p (.i .i64 x1), .p (.i .i64 x2)] [] = Jam o := by
  rw [Jfz (Jfd p)]
  have h' : Jcf x0 x1 x2 = some o := h
  simp only [JeD, h', Option.map_some, Jam]
theorem J5d {x0 : List UInt8} {x1 : Int} {x2 : Int} {o : List UInt8} (h : J2X x0 x1 x2 = some o) : ∀ ws new st, (Jy (AF (J2 p)) J0U ([.p (.s x0), .p (.i .i64 x1), .p (.i .i64 x2)], ws) 0 new).run st = some ⟨.p (.s o), ws⟩ := J01 rfl (Jfk p h) rfl
def J3N  (r : Bool) : Option Res := some (.p (.b r), [])
def JbS (x6 : Vector Je 16) (b0 : Jb) (o : (Int) ⊕ (Bool)) : Option Res := match o with
  | .inl s => rk (J2 p) J1k 0 [.bl 0, .td 1 [2], .sq (.keep [] J2r)] (X (J2 p) (.lp 1 [1, 6, 7] J06) ⟨[(1, .ptr 0 0), (6, .data ((JF Jc) x6)), (7, .p (.i .i64 s))], [.box (List.map AV.p (J7 b0))]⟩)
  | .inr o => J3N o
def J3V  : Option (Bool) :=
  some true
theorem Jc5 {B0 : List PV} {o : Bool} (h : J3V = some o) :
    rk (J2 p) J1k 0 [] (X (J2 p) J2r ⟨[], [.box (List.map AV.p B0)]⟩) = J3N o := by
  unfold J3V at h
  obtain rfl := sj h
  try simp only [↓Da, Ua, J2r, J5N, ↓reduceIte, Nat.reduceEqDiff, Nat.reduceAdd, Nat.reduceLT, Nat.reduceMul]
  rfl
def JT (x6 : Vector Je 16) (b0 : Jb) (x7 : Int) : Option (((Int) ⊕ (Bool))) :=
  if (decide (x7 < 16)) then
    Option.bind (J6x x6 x7) fun y2 =>
    if (decide (((List.length y2.Data : Nat) : Int) > 12)) then
      some (.inr false)
    else
      if y2.Set then
        if ((b0.LSN : Int) == 0) then
          some (.inr false)
        else
          some (.inl (IntKind.wrap .i64 (x7 + 1)))
      else
        if (y2.Data == []) then
          some (.inl (IntKind.wrap .i64 (x7 + 1)))
        else
          some (.inr false)
  else
    Option.map (fun o => .inr o) (J3V)
theorem J7H {x6 : Vector Je 16} {b0 : Jb} {x7 : Int} {o : ((Int) ⊕ (Bool))} (h : JT x6 b0 x7 = some o) :
    rk (J2 p) J1k 0 [.lo 1 [1, 6, 7] J06, .bl 0, .td 1 [2], .sq (.keep [] J2r)] (X (J2 p) J06 ⟨[(1, .ptr 0 0), (6, .data ((JF Jc) x6)), (7, .p (.i .i64 x7))], [.box (List.map AV.p (J7 b0))]⟩) = (JbS p x6 b0) o := by
  unfold JT at h
  rcases Ji h with ⟨h1, h⟩ | ⟨h1, h⟩
  · obtain ⟨y2, h3, h⟩ := bi h
    have f4 : (0 ≤ (x7 : Int) ∧ (x7 : Int) < ((16 : Nat) : Int)) = True := eq_true (J5q h3).1
    have f5 : sub (JF Jc x6) (Int.toNat x7 * 2) 2 = some (Jc y2) := JbC J0c (J5q h3).2
    try simp only [Nf] at f5
    try simp only [↓Da, Ua, J06, J5, J0, J4, *, ↓reduceIte, Nat.reduceEqDiff, Nat.reduceAdd, Nat.reduceLT, Nat.reduceMul]
    rcases Ji h with ⟨h6, h⟩ | ⟨h6, h⟩
    · obtain rfl := sj h
      try simp only [↓Da, Ua, J06, J5, J0, J4, J5N, *, ↓reduceIte, Nat.reduceEqDiff, Nat.reduceAdd, Nat.reduceLT, Nat.reduceMul]
      rfl
    · try simp only [↓Da, Ua, J06, J5, J0, J4, *, ↓reduceIte, Nat.reduceEqDiff, Nat.reduceAdd, Nat.reduceLT, Nat.reduceMul]
      rcases Ji h with ⟨h7, h⟩ | ⟨h7, h⟩
      · try simp only [↓Da, Ua, J06, J5, J0, J4, *, ↓reduceIte, Nat.reduceEqDiff, Nat.reduceAdd, Nat.reduceLT, Nat.reduceMul]
        rcases Ji h with ⟨h8, h⟩ | ⟨h8, h⟩
        · have h8n : ((b0.LSN : Int) != 0) = false := by rw [bne, h8]; rfl
          obtain rfl := sj h
          try simp only [↓Da, Ua, J06, J5, J0, J4, J5N, *, ↓reduceIte, Nat.reduceEqDiff, Nat.reduceAdd, Nat.reduceLT, Nat.reduceMul]
          rfl
        · have h8n : ((b0.LSN : Int) != 0) = true := by rw [bne, h8]; rfl
          obtain rfl := sj h
          try simp only [↓Da, Ua, J06, J5, J0, J4, *, ↓reduceIte, Nat.reduceEqDiff, Nat.reduceAdd, Nat.reduceLT, Nat.reduceMul]
          rfl
      · try simp only [↓Da, Ua, J06, J5, J0, J4, *, ↓reduceIte, Nat.reduceEqDiff, Nat.reduceAdd, Nat.reduceLT, Nat.reduceMul]
        rcases Ji h with ⟨h9, h⟩ | ⟨h9, h⟩
        · obtain rfl := sj h
          try simp only [↓Da, Ua, J06, J5, J0, J4, *, ↓reduceIte, Nat.reduceEqDiff, Nat.reduceAdd, Nat.reduceLT, Nat.reduceMul]
          rfl
        · obtain rfl := sj h
          try simp only [↓Da, Ua, J06, J5, J0, J4, J5N, *, ↓reduceIte, Nat.reduceEqDiff, Nat.reduceAdd, Nat.reduceLT, Nat.reduceMul]
          rfl
  · obtain ⟨o', h', rfl⟩ := mi h
    try simp only [↓Da, Ua, J06, J5, J0, J4, *, ↓reduceIte, Nat.reduceEqDiff, Nat.reduceAdd, Nat.reduceLT, Nat.reduceMul]
    have e0 := Jc5 p (B0 := (J7 b0)) h'
    exact e0
def J85 (x6 : Vector Je 16) (b0 : Jb) (s : Int) : Option (Bool) :=
  JO (fun s => JT x6 b0 s) s
theorem JaU {x6 : Vector Je 16} {b0 : Jb} {s : Int} {o : Bool} (h : J85 x6 b0 s = some o) :
    rk (J2 p) J1k 0 [.bl 0, .td 1 [2], .sq (.keep [] J2r)] (X (J2 p) (.lp 1 [1, 6, 7] J06) ⟨[(1, .ptr 0 0), (6, .data ((JF Jc) x6)), (7, .p (.i .i64 s))], [.box (List.map AV.p (J7 b0))]⟩) = J3N o := by
  have h0 : JO (fun s => JT x6 b0 s) s = some o := h
  exact J1S (P := fun (s : Int) (o : Bool) => rk (J2 p) J1k 0 [.bl 0, .td 1 [2], .sq (.keep [] J2r)] (X (J2 p) (.lp 1 [1, 6, 7] J06) ⟨[(1, .ptr 0 0), (6, .data ((JF Jc) x6)), (7, .p (.i .i64 s))], [.box (List.map AV.p (J7 b0))]⟩) = J3N o) (fun s r hs => by rw [J1y]; exact J7H p hs) (fun s s1 r hs ih => by rw [J1y]; exact (J7H p hs).trans ih) h0
def J2x (x0 : Jb) : Option (Bool) :=
  J85 x0.Cells x0 0
theorem JaQ {x0 : Jb} {o : Bool} (h : J2x x0 = some o) :
    rk (J2 p) J1k 0 [] (X (J2 p) J4N ⟨[(0, .data (J7 x0))], []⟩) = J3N o := by
  unfold J2x at h
  try simp only [↓Da, Ua, J4N, J5, J0, J4, ↓reduceIte, Nat.reduceEqDiff, Nat.reduceAdd, Nat.reduceLT, Nat.reduceMul]
  have e0 := JaU p h
  exact e0
theorem JdN {x0 : Jb} {o : Bool} (h : J2x x0 = some o) : AF (J2 p) J3c [.data (J7 x0)] [] = J3N o :=
  (J2d (J2 p) (JdG p) rfl).trans (JaQ p h)
theorem J97 {x0 : Jb} {o : Bool} (h : J2x x0 = some o) : ∀ ws new st, (Jy (AF (J2 p)) J3c ([.data (J7 x0)], ws) 0 new).run st = some ⟨.p (.b o), ws⟩ := J01 rfl (JdN p h) rfl
def J7b (r : List UInt8) : Option Res := some (.p (.s r), [])
def J2l (x0 : List UInt8) (x1 : Int) : Option (List UInt8) := Jcg x0 x1
theorem JaL {x0 : List UInt8} {x1 : Int} {o : List UInt8} (h : J2l x0 x1 = some o) : AF (J2 p) J1n [.p (.s x0), .p (.i .i64 x1)] [] = J7b o := by
  rw [Jfz (JaW p)]
  have h' : Jcg x0 x1 = some o := h
  simp only [Jeb, h', Option.map_some, J7b]
theorem J6Y {x0 : List UInt8} {x1 : Int} {o : List UInt8} (h : J2l x0 x1 = some o) : ∀ ws new st, (Jy (AF (J2 p)) J1n ([.p (.s x0), .p (.i .i64 x1)], ws) 0 new).run st = some ⟨.p (.s o), ws⟩ := J01 rfl (JaL p h) rfl
def J99  (r : Bool) : Option Res := some (.p (.b r), [])
def J3a (x0 : Int) : Option (Bool) :=
  if (decide (x0 ≥ 0)) then
    some (decide (x0 < 64))
  else
    some false
theorem JaE {x0 : Int} {o : Bool} (h : J3a x0 = some o) :
    rk (J2 p) J3P 0 [] (X (J2 p) J41 ⟨[(0, .p (.i .i64 x0))], []⟩) = J99 o := by
  unfold J3a at h
  rcases Ji h with ⟨h1, h⟩ | ⟨h1, h⟩
  · obtain rfl := sj h
    try simp only [↓Da, Ua, J41, J9C, *, ↓reduceIte, Nat.reduceEqDiff, Nat.reduceAdd, Nat.reduceLT, Nat.reduceMul]
    rfl
  · obtain rfl := sj h
    try simp only [↓Da, Ua, J41, J9C, *, ↓reduceIte, Nat.reduceEqDiff, Nat.reduceAdd, Nat.reduceLT, Nat.reduceMul]
    rfl
theorem JdX {x0 : Int} {o : Bool} (h : J3a x0 = some o) : AF (J2 p) J44 [.p (.i .i64 x0)] [] = J99 o :=
  (J2d (J2 p) (JdH p) rfl).trans (JaE p h)
theorem JdE {x0 : Int} {o : Bool} (h : J3a x0 = some o) : ∀ ws new st, (Jy (AF (J2 p)) J44 ([.p (.i .i64 x0)], ws) 0 new).run st = some ⟨.p (.b o), ws⟩ := J01 rfl (JdX p h) rfl
def J7Q (b0 : Int) (r : Bool) : Option Res := some (.p (.b r), [.box [.p (.i .i64 b0)]])
def J3Z (x0 : T_api_Frame) (b0 : Int) : Option (Bool) :=
  some ((x0.Page.ID : Int) == b0)
theorem J94 {x0 : T_api_Frame} {b0 : Int} {o : Bool} (h : J3Z x0 b0 = some o) :
    rk (J2 p) J31 1 [] (X (J2 p) J3T ⟨[(0, .data (J1 x0)), (1, .ptr 0 0)], [.box [.p (.i .i64 b0)]]⟩) = (J7Q b0) o := by
  unfold J3Z at h
  have f1 : sub (J1 x0) 0 1 = some ((r_i .i64) x0.Page.ID) := by
    have e0 := (J9E (J2C x0) (J4E x0.Page))
    exact e0
  try simp only [Nf] at f1
  obtain rfl := sj h
  try simp only [↓Da, Ua, J3T, J5, J0, J4, J6, Jcm, *, ↓reduceIte, Nat.reduceEqDiff, Nat.reduceAdd, Nat.reduceLT, Nat.reduceMul]
  rfl
theorem Jcb {x0 : T_api_Frame} {b0 : Int} {o : Bool} (h : J3Z x0 b0 = some o) : AF (J2 p) J0q [.data (J1 x0), .ptr 0 0] [.box [.p (.i .i64 b0)]] = (J7Q b0) o :=
  (J2d (J2 p) (Jcl p) rfl).trans (J94 p h)
def Jw (b0 : Int) (r : Int) : Option Res := some (.p (.i .i64 r), [.box [.p (.i .i64 b0)]])
def J2D (x0 : List T_api_Frame) (x7 : Int) (b0 : Int) (o : (Int) ⊕ (Int)) : Option Res := match o with
  | .inl s => rk (J2 p) Jn 1 [.bl 0, .sq (.keep [] JD)] (X (J2 p) (.lp 1 [0, 1, 7, 8] Jr) ⟨[(0, .p (.sl 37 (List.map J1 x0))), (1, .fn J0q [] [.ptr 0 0]), (7, .p (.i .i64 x7)), (8, .p (.i .i64 s))], [.box [.p (.i .i64 b0)]]⟩)
  | .inr o => (Jw b0) o
def JR (b0 : Int) : Option (Int) :=
  some (-1)
theorem J2A {b0 : Int} {o : Int} (h : JR b0 = some o) :
    rk (J2 p) Jn 1 [] (X (J2 p) JD ⟨[], [.box [.p (.i .i64 b0)]]⟩) = (Jw b0) o := by
  unfold JR at h
  obtain rfl := sj h
  try simp only [↓Da, Ua, JD, J2j, ↓reduceIte, Nat.reduceEqDiff, Nat.reduceAdd, Nat.reduceLT, Nat.reduceMul]
  rfl
def Jt (x0 : List T_api_Frame) (x7 : Int) (b0 : Int) (x8 : Int) : Option (((Int) ⊕ (Int))) :=
  if (decide (x8 < x7)) then
    Option.bind (idx x0 x8) fun y2 =>
    Option.bind (J3Z y2 b0) fun r5 =>
    if r5 then
      some (.inr x8)
    else
      some (.inl (IntKind.wrap .i64 (x8 + 1)))
  else
    Option.map (fun o => .inr o) (JR b0)
theorem J0W {x0 : List T_api_Frame} {x7 : Int} {b0 : Int} {x8 : Int} {o : ((Int) ⊕ (Int))} (h : Jt x0 x7 b0 x8 = some o) :
    rk (J2 p) Jn 1 [.lo 1 [0, 1, 7, 8] Jr, .bl 0, .sq (.keep [] JD)] (X (J2 p) Jr ⟨[(0, .p (.sl 37 (List.map J1 x0))), (1, .fn J0q [] [.ptr 0 0]), (7, .p (.i .i64 x7)), (8, .p (.i .i64 x8))], [.box [.p (.i .i64 b0)]]⟩) = (J2D p x0 x7 b0) o := by
  unfold Jt at h
  rcases Ji h with ⟨h1, h⟩ | ⟨h1, h⟩
  · obtain ⟨y2, h3, h⟩ := bi h
    have f4 := J46 (r := J1) h3
    try simp only [Nf] at f4
    obtain ⟨r5, h6, h⟩ := bi h
    have f7 : ∀ ws new s, J4m ws s [0] [[.p (.i .i64 b0)]] → (Jy (AF (J2 p)) J0q ([.data (J1 y2), .ptr 0 0], ws) 0 new).run s = some ⟨.p (.b r5), ws ++ [(0, .box ([.p (.i .i64 b0)]))]⟩ := J7w (args' := [.data (J1 y2), .ptr 0 0]) (bs := [0]) (css := [[.p (.i .i64 b0)]]) (css' := [[.p (.i .i64 b0)]]) rfl rfl rfl (by simp [J24, J2o]) (Jcb p h6) rfl rfl (by simp [J24, J2o])
    try simp only [Nf] at f7
    try simp only [↓Da, Ua, Jr, J5, J0, J4, J6, *, ↓reduceIte, Nat.reduceEqDiff, Nat.reduceAdd, Nat.reduceLT, Nat.reduceMul]
    rcases Ji h with ⟨h8, h⟩ | ⟨h8, h⟩
    · obtain rfl := sj h
      try simp only [↓Da, Ua, Jr, J5, J0, J4, J6, J2j, *, ↓reduceIte, Nat.reduceEqDiff, Nat.reduceAdd, Nat.reduceLT, Nat.reduceMul]
      rfl
    · obtain rfl := sj h
      try simp only [↓Da, Ua, Jr, J5, J0, J4, J6, *, ↓reduceIte, Nat.reduceEqDiff, Nat.reduceAdd, Nat.reduceLT, Nat.reduceMul]
      rfl
  · obtain ⟨o', h', rfl⟩ := mi h
    try simp only [↓Da, Ua, Jr, J5, J0, J4, J6, *, ↓reduceIte, Nat.reduceEqDiff, Nat.reduceAdd, Nat.reduceLT, Nat.reduceMul]
    have e0 := J2A p h'
    exact e0
def J0V (x0 : List T_api_Frame) (x7 : Int) (b0 : Int) (s : Int) : Option (Int) :=
  JO (fun s => Jt x0 x7 b0 s) s
theorem J2s {x0 : List T_api_Frame} {x7 : Int} {b0 : Int} {s : Int} {o : Int} (h : J0V x0 x7 b0 s = some o) :
    rk (J2 p) Jn 1 [.bl 0, .sq (.keep [] JD)] (X (J2 p) (.lp 1 [0, 1, 7, 8] Jr) ⟨[(0, .p (.sl 37 (List.map J1 x0))), (1, .fn J0q [] [.ptr 0 0]), (7, .p (.i .i64 x7)), (8, .p (.i .i64 s))], [.box [.p (.i .i64 b0)]]⟩) = (Jw b0) o := by
  have h0 : JO (fun s => Jt x0 x7 b0 s) s = some o := h
  exact J1S (P := fun (s : Int) (o : Int) => rk (J2 p) Jn 1 [.bl 0, .sq (.keep [] JD)] (X (J2 p) (.lp 1 [0, 1, 7, 8] Jr) ⟨[(0, .p (.sl 37 (List.map J1 x0))), (1, .fn J0q [] [.ptr 0 0]), (7, .p (.i .i64 x7)), (8, .p (.i .i64 s))], [.box [.p (.i .i64 b0)]]⟩) = (Jw b0) o) (fun s r hs => by rw [J1y]; exact J0W p hs) (fun s s1 r hs ih => by rw [J1y]; exact (J0W p hs).trans ih) h0
def JE (x0 : List T_api_Frame) (b0 : Int) : Option (Int) :=
  J0V x0 ((List.length x0 : Nat) : Int) b0 0
theorem J2p {x0 : List T_api_Frame} {b0 : Int} {o : Int} (h : JE x0 b0 = some o) :
    rk (J2 p) Jn 1 [] (X (J2 p) J0e ⟨[(0, .p (.sl 37 (List.map J1 x0))), (1, .fn J0q [] [.ptr 0 0])], [.box [.p (.i .i64 b0)]]⟩) = (Jw b0) o := by
  unfold JE at h
  try simp only [↓Da, Ua, J0e, J5, J0, J4, J6, ↓reduceIte, Nat.reduceEqDiff, Nat.reduceAdd, Nat.reduceLT, Nat.reduceMul]
  have e0 := J2s p h
  exact e0
theorem J2L {x0 : List T_api_Frame} {b0 : Int} {o : Int} (h : JE x0 b0 = some o) : AF (J2 p) JV [.p (.sl 37 (List.map J1 x0)), .fn J0q [] [.ptr 0 0]] [.box [.p (.i .i64 b0)]] = (Jw b0) o :=
  (J2d (J2 p) (J4u p) rfl).trans (J2p p h)
def Jai  (r : Int) : Option Res := some (.p (.i .i64 r), [])
def J1U (x0 : T_api_Pool) (x1 : Int) : Option (Int) :=
  Option.bind (JE x0.Frames x1) fun r1 =>
  some r1
theorem Jbb {x0 : T_api_Pool} {x1 : Int} {o : Int} (h : J1U x0 x1 = some o) :
    rk (J2 p) J4t 0 [] (X (J2 p) J5f ⟨[(0, .data (J3 x0)), (1, .p (.i .i64 x1))], []⟩) = Jai o := by
  unfold J1U at h
  obtain ⟨r1, h2, h⟩ := bi h
  have f3 : ∀ ws new s, J4m ws s [1] [[.p (.i .i64 x1)]] → (Jy (AF (J2 p)) JV ([.p (.sl 37 (List.map J1 x0.Frames)), .fn J0q [] [.ptr 1 0]], ws) 0 new).run s = some ⟨.p (.i .i64 r1), ws ++ [(1, .box ([.p (.i .i64 x1)]))]⟩ := J7w (args' := [.p (.sl 37 (List.map J1 x0.Frames)), .fn J0q [] [.ptr 0 0]]) (bs := [1]) (css := [[.p (.i .i64 x1)]]) (css' := [[.p (.i .i64 x1)]]) rfl rfl rfl (by simp [J24, J2o]) (J2L p h2) rfl rfl (by simp [J24, J2o])
  try simp only [Nf] at f3
  obtain rfl := sj h
  try simp only [↓Da, Ua, J5f, J5, J0, J4, J9, J6, Jf5, *, ↓reduceIte, Nat.reduceEqDiff, Nat.reduceAdd, Nat.reduceLT, Nat.reduceMul]
  rfl
theorem JeP {x0 : T_api_Pool} {x1 : Int} {o : Int} (h : J1U x0 x1 = some o) : AF (J2 p) J30 [.data (J3 x0), .p (.i .i64 x1)] [] = Jai o :=
  (J2d (J2 p) (Jf2 p) rfl).trans (Jbb p h)
theorem J7u {x0 : T_api_Pool} {x1 : Int} {o : Int} (h : J1U x0 x1 = some o) : ∀ ws new st, (Jy (AF (J2 p)) J30 ([.data (J3 x0), .p (.i .i64 x1)], ws) 0 new).run st = some ⟨.p (.i .i64 o), ws⟩ := J01 rfl (JeP p h) rfl
def J2Z  (r : (List T_api_Frame)) : Option Res := some (.p (.slc 37 (List.map J1 r)), [])
def J0a (x0 : List T_api_Frame) : Option ((List T_api_Frame)) :=
  some x0
theorem J4G {x0 : List T_api_Frame} {o : (List T_api_Frame)} (h : J0a x0 = some o) :
    rk (J2 p) J0b 0 [] (X (J2 p) J0x ⟨[(0, .p (.sl 37 (List.map J1 x0)))], []⟩) = J2Z o := by
  unfold J0a at h
  have f1 : ∀ env sto, (slR (.sl 37) (.p (.sl 37 (List.map J1 x0))) none (some (.p (.i .i64 ((List.length x0 : Nat) : Int)))) (some (.p (.i .i64 ((List.length x0 : Nat) : Int))))).run ⟨env, sto⟩ = some ⟨.p (.slc 37 (List.map J1 x0)), []⟩ := fun env sto => Jkw J1 _ env sto
  try simp only [Nf] at f1
  obtain rfl := sj h
  try simp only [↓Da, Ua, J0x, J5, J0, J4, J6, J5a, *, ↓reduceIte, Nat.reduceEqDiff, Nat.reduceAdd, Nat.reduceLT, Nat.reduceMul]
  rfl
theorem J5k {x0 : List T_api_Frame} {o : (List T_api_Frame)} (h : J0a x0 = some o) : AF (J2 p) JW [.p (.sl 37 (List.map J1 x0))] [] = J2Z o :=
  (J2d (J2 p) (J5g p) rfl).trans (J4G p h)
theorem J5h {x0 : List T_api_Frame} {o : (List T_api_Frame)} (h : J0a x0 = some o) : ∀ ws new st, (Jy (AF (J2 p)) JW ([.p (.sl 37 (List.map J1 x0))], ws) 0 new).run st = some ⟨.p (.slc 37 (List.map J1 o)), ws⟩ := J01 rfl (J5k p h) rfl
def J05 (x0 : List T_api_Frame) : Option (List T_api_Frame) := if (2 * x0.length + 512) * 424 ≤ 281474976710656 then some x0 else none
theorem J2O {x0 : List T_api_Frame} {o : List T_api_Frame} (h : J05 x0 = some o) : AF (J2 p) JI [.p (.sl 37 (List.map J1 x0))] [] = some (.slr 0 0 o.length, [.arr true 37 (List.map J1 o)]) := by
  unfold J05 at h
  split at h
  · rename_i h2
    injection h with h; subst h
    rw [Jkc _ (J57 p)]
    cases x0 with
    | nil => simp [J0v, J6E, J8i, J5L.af]
    | cons a r =>
      simp at h2
      simp [J0v, J6E, J8i, J5L.af, h2]
  · cases h
def J5D  (r : (List T_api_Frame)) : Option Res := some (.p (.sl 37 (List.map J1 r)), [])
def J0p (x0 : List T_api_Frame) (x1 : Int) (x2 : T_api_Frame) : Option ((List T_api_Frame)) :=
  Option.bind (J05 x0) fun r1 =>
  Option.bind (idx r1 x1) fun y4 =>
  Option.bind (some (List.set r1 (Int.toNat x1) x2)) fun m8 =>
  some m8
theorem J6K {x0 : List T_api_Frame} {x1 : Int} {x2 : T_api_Frame} {o : (List T_api_Frame)} (h : J0p x0 x1 x2 = some o) :
    rk (J2 p) J1d 0 [] (X (J2 p) J1T ⟨[(0, .p (.sl 37 (List.map J1 x0))), (1, .p (.i .i64 x1)), (2, .data (J1 x2))], []⟩) = J5D o := by
  unfold J0p at h
  obtain ⟨r1, h2, h⟩ := bi h
  have f3 : ∀ ws new s, (Jy (AF (J2 p)) JI ([.p (.sl 37 (List.map J1 x0))], ws) 1 new).run s = some ⟨.slr new 0 (List.length r1), ws ++ [(new, .arr true 37 (List.map J1 r1))]⟩ := JbK rfl (J2O p h2)
  try simp only [Nf] at f3
  obtain ⟨y4, h5, h⟩ := bi h
  have f6 := J5s (r := J1) h5
  try simp only [Nf] at f6
  have f7 : (0 ≤ (x1 : Int) ∧ (x1 : Int) < (((List.length r1) : Nat) : Int)) = True := eq_true (by have e0 := J6b h5; (try simp only [List.length_cons, List.length_nil, Nat.zero_add] at e0); omega)
  obtain ⟨m8, h9, h⟩ := bi h
  have f10 : List.set (List.map J1 r1) (Int.toNat x1) (J1 x2) = List.map J1 m8 := by
    rw [← Option.some.inj h9, List.map_set]
  try simp only [Nf] at f10
  have g11 : List.length m8 = List.length r1 := by rw [← Option.some.inj h9, List.length_set]
  obtain rfl := sj h
  try simp only [↓Da, Ua, J1T, J5, J0, J4, J6, J81, *, ↓reduceIte, Nat.reduceEqDiff, Nat.reduceAdd, Nat.reduceLT, Nat.reduceMul]
  rfl
theorem J83 {x0 : List T_api_Frame} {x1 : Int} {x2 : T_api_Frame} {o : (List T_api_Frame)} (h : J0p x0 x1 x2 = some o) : AF (J2 p) J1g [.p (.sl 37 (List.map J1 x0)), .p (.i .i64 x1), .data (J1 x2)] [] = J5D o :=
  (J2d (J2 p) (J7L p) rfl).trans (J6K p h)
theorem J7X {x0 : List T_api_Frame} {x1 : Int} {x2 : T_api_Frame} {o : (List T_api_Frame)} (h : J0p x0 x1 x2 = some o) : ∀ ws new st, (Jy (AF (J2 p)) J1g ([.p (.sl 37 (List.map J1 x0)), .p (.i .i64 x1), .data (J1 x2)], ws) 0 new).run st = some ⟨.p (.sl 37 (List.map J1 o)), ws⟩ := J01 rfl (J83 p h) rfl
def J1P  (r : (Vector Int 16)) : Option Res := some (.data ((JF (r_i .u32)) r), [])
def J1u (b0 : Vector Int 16) (o : (Int × (Vector Int 16)) ⊕ ((Vector Int 16))) : Option Res := match o with
  | .inl s => rk (J2 p) JB 0 [.bl 0, .sq (.keep [0, 1] JP)] (X (J2 p) (.lp 2 [0, 1, 4] JL) ⟨[(0, .ptr 0 0), (1, .ptr 1 0), (4, .p (.i .i64 s.1))], [.box (List.map AV.p ((JF (r_i .u32)) b0)), .box (List.map AV.p ((JF (r_i .u32)) s.2))]⟩)
  | .inr o => J1P o
def J8B (x2 : Int) (x4 : Int) (b0 : Vector Int 16) (b1 : Vector Int 16) (o : (Int × Int) ⊕ (((Int × (Vector Int 16)) ⊕ ((Vector Int 16))))) : Option Res := match o with
  | .inl s => rk (J2 p) JB 0 [.bl 2, .sq (.keep [0, 1, 2, 3, 4] J0Y), .bl 1, .sq (.keep [0, 1, 4] J0C), .lo 2 [0, 1, 4] JL, .bl 0, .sq (.keep [0, 1] JP)] (X (J2 p) (.lp 2 [0, 1, 2, 3, 4, 9] J0i) ⟨[(0, .ptr 0 0), (1, .ptr 1 0), (2, .p (.i .i64 x2)), (3, .p (.i .u32 s.1)), (4, .p (.i .i64 x4)), (9, .p (.i .i64 s.2))], [.box (List.map AV.p ((JF (r_i .u32)) b0)), .box (List.map AV.p ((JF (r_i .u32)) b1))]⟩)
  | .inr o => (J1u p b0) o
def J26 (x4 : Int) (b0 : Vector Int 16) (b1 : Vector Int 16) : Option (((Int × (Vector Int 16)) ⊕ ((Vector Int 16)))) :=
  some (.inl ((IntKind.wrap .i64 (x4 + 1)), b1))
theorem J8D {x4 : Int} {b0 : Vector Int 16} {b1 : Vector Int 16} {o : ((Int × (Vector Int 16)) ⊕ ((Vector Int 16)))} (h : J26 x4 b0 b1 = some o) :
    rk (J2 p) JB 0 [.lo 2 [0, 1, 4] JL, .bl 0, .sq (.keep [0, 1] JP)] (X (J2 p) J0C ⟨[(0, .ptr 0 0), (1, .ptr 1 0), (4, .p (.i .i64 x4))], [.box (List.map AV.p ((JF (r_i .u32)) b0)), .box (List.map AV.p ((JF (r_i .u32)) b1))]⟩) = (J1u p b0) o := by
  unfold J26 at h
  obtain rfl := sj h
  try simp only [↓Da, Ua, J0C, ↓reduceIte, Nat.reduceEqDiff, Nat.reduceAdd, Nat.reduceLT, Nat.reduceMul]
  rfl
def J23 (x2 : Int) (x3 : Int) (x4 : Int) (b0 : Vector Int 16) (b1 : Vector Int 16) : Option (((Int × (Vector Int 16)) ⊕ ((Vector Int 16)))) :=
  Option.bind (inb 16 x2) fun u1 =>
  Option.bind (J6x b1 x2) fun y4 =>
  J26 x4 b0 (JbX b1 x2 x3)
theorem J8r {x2 : Int} {x3 : Int} {x4 : Int} {b0 : Vector Int 16} {b1 : Vector Int 16} {o : ((Int × (Vector Int 16)) ⊕ ((Vector Int 16)))} (h : J23 x2 x3 x4 b0 b1 = some o) :
    rk (J2 p) JB 0 [.bl 1, .sq (.keep [0, 1, 4] J0C), .lo 2 [0, 1, 4] JL, .bl 0, .sq (.keep [0, 1] JP)] (X (J2 p) J0Y ⟨[(0, .ptr 0 0), (1, .ptr 1 0), (2, .p (.i .i64 x2)), (3, .p (.i .u32 x3)), (4, .p (.i .i64 x4))], [.box (List.map AV.p ((JF (r_i .u32)) b0)), .box (List.map AV.p ((JF (r_i .u32)) b1))]⟩) = (J1u p b0) o := by
  unfold J23 at h
  obtain ⟨u1, h2, h⟩ := bi h
  have f3 : (0 ≤ (x2 : Int) ∧ (x2 : Int) < ((16 : Nat) : Int)) = True := eq_true (JbW h2)
  obtain ⟨y4, h5, h⟩ := bi h
  have f6 : spl ((JF (r_i .u32)) b1) (Int.toNat x2 * 1) ((r_i .u32) x3) = some ((JF (r_i .u32)) (JbX b1 x2 x3)) := by
    have e0 := (JlQ (v := b1) (J6d .u32) (JkL h5) x3)
    exact e0
  try simp only [Nf] at f6
  try simp only [↓Da, Ua, J0Y, *, ↓reduceIte, Nat.reduceEqDiff, Nat.reduceAdd, Nat.reduceLT, Nat.reduceMul]
  have e0 := J8D p h
  exact e0
def J04 (x2 : Int) (x4 : Int) (b0 : Vector Int 16) (b1 : Vector Int 16) (x3 : Int) (x9 : Int) : Option (((Int × Int) ⊕ (((Int × (Vector Int 16)) ⊕ ((Vector Int 16)))))) :=
  if (decide (x9 < 4)) then
    if (((J2U .u32 x3 1) : Int) == 1) then
      Option.bind (J7v .u32 x3 1) fun q3 =>
      some (.inl ((J43 .u32 q3 2197175160), (IntKind.wrap .i64 (x9 + 1))))
    else
      Option.bind (J7v .u32 x3 1) fun q5 =>
      some (.inl (q5, (IntKind.wrap .i64 (x9 + 1))))
  else
    Option.map (fun o => .inr o) (J23 x2 x3 x4 b0 b1)
theorem J5P {x2 : Int} {x4 : Int} {b0 : Vector Int 16} {b1 : Vector Int 16} {x3 : Int} {x9 : Int} {o : ((Int × Int) ⊕ (((Int × (Vector Int 16)) ⊕ ((Vector Int 16)))))} (h : J04 x2 x4 b0 b1 x3 x9 = some o) :
    rk (J2 p) JB 0 [.lo 2 [0, 1, 2, 3, 4, 9] J0i, .bl 2, .sq (.keep [0, 1, 2, 3, 4] J0Y), .bl 1, .sq (.keep [0, 1, 4] J0C), .lo 2 [0, 1, 4] JL, .bl 0, .sq (.keep [0, 1] JP)] (X (J2 p) J0i ⟨[(0, .ptr 0 0), (1, .ptr 1 0), (2, .p (.i .i64 x2)), (3, .p (.i .u32 x3)), (4, .p (.i .i64 x4)), (9, .p (.i .i64 x9))], [.box (List.map AV.p ((JF (r_i .u32)) b0)), .box (List.map AV.p ((JF (r_i .u32)) b1))]⟩) = (J8B p x2 x4 b0 b1) o := by
  unfold J04 at h
  rcases Ji h with ⟨h1, h⟩ | ⟨h1, h⟩
  · try simp only [↓Da, Ua, J0i, *, ↓reduceIte, Nat.reduceEqDiff, Nat.reduceAdd, Nat.reduceLT, Nat.reduceMul]
    rcases Ji h with ⟨h2, h⟩ | ⟨h2, h⟩
    · have h2n : (((J2U .u32 x3 1) : Int) != 1) = false := by rw [bne, h2]; rfl
      obtain ⟨q3, h4, h⟩ := bi h
      obtain rfl := sj h
      try simp only [↓Da, Ua, J0i, *, ↓reduceIte, Nat.reduceEqDiff, Nat.reduceAdd, Nat.reduceLT, Nat.reduceMul]
      rfl
    · have h2n : (((J2U .u32 x3 1) : Int) != 1) = true := by rw [bne, h2]; rfl
      obtain ⟨q5, h6, h⟩ := bi h
      obtain rfl := sj h
      try simp only [↓Da, Ua, J0i, *, ↓reduceIte, Nat.reduceEqDiff, Nat.reduceAdd, Nat.reduceLT, Nat.reduceMul]
      rfl
  · obtain ⟨o', h', rfl⟩ := mi h
    try simp only [↓Da, Ua, J0i, *, ↓reduceIte, Nat.reduceEqDiff, Nat.reduceAdd, Nat.reduceLT, Nat.reduceMul]
    have e0 := J8r p h'
    exact e0
def J4h (x2 : Int) (x4 : Int) (b0 : Vector Int 16) (b1 : Vector Int 16) (s : Int × Int) : Option (((Int × (Vector Int 16)) ⊕ ((Vector Int 16)))) :=
  JO (fun s => J04 x2 x4 b0 b1 s.1 s.2) s
theorem J7t {x2 : Int} {x4 : Int} {b0 : Vector Int 16} {b1 : Vector Int 16} {s : Int × Int} {o : ((Int × (Vector Int 16)) ⊕ ((Vector Int 16)))} (h : J4h x2 x4 b0 b1 s = some o) :
    rk (J2 p) JB 0 [.bl 2, .sq (.keep [0, 1, 2, 3, 4] J0Y), .bl 1, .sq (.keep [0, 1, 4] J0C), .lo 2 [0, 1, 4] JL, .bl 0, .sq (.keep [0, 1] JP)] (X (J2 p) (.lp 2 [0, 1, 2, 3, 4, 9] J0i) ⟨[(0, .ptr 0 0), (1, .ptr 1 0), (2, .p (.i .i64 x2)), (3, .p (.i .u32 s.1)), (4, .p (.i .i64 x4)), (9, .p (.i .i64 s.2))], [.box (List.map AV.p ((JF (r_i .u32)) b0)), .box (List.map AV.p ((JF (r_i .u32)) b1))]⟩) = (J1u p b0) o := by
  have h0 : JO (fun s => J04 x2 x4 b0 b1 s.1 s.2) s = some o := h
  exact J1S (P := fun (s : Int × Int) (o : ((Int × (Vector Int 16)) ⊕ ((Vector Int 16)))) => rk (J2 p) JB 0 [.bl 2, .sq (.keep [0, 1, 2, 3, 4] J0Y), .bl 1, .sq (.keep [0, 1, 4] J0C), .lo 2 [0, 1, 4] JL, .bl 0, .sq (.keep [0, 1] JP)] (X (J2 p) (.lp 2 [0, 1, 2, 3, 4, 9] J0i) ⟨[(0, .ptr 0 0), (1, .ptr 1 0), (2, .p (.i .i64 x2)), (3, .p (.i .u32 s.1)), (4, .p (.i .i64 x4)), (9, .p (.i .i64 s.2))], [.box (List.map AV.p ((JF (r_i .u32)) b0)), .box (List.map AV.p ((JF (r_i .u32)) b1))]⟩) = (J1u p b0) o) (fun s r hs => by rw [J1y]; exact J5P p hs) (fun s s1 r hs ih => by rw [J1y]; exact (J5P p hs).trans ih) h0
def J25 (b0 : Vector Int 16) (b1 : Vector Int 16) : Option ((Vector Int 16)) :=
  some b1
theorem J8c {b0 : Vector Int 16} {b1 : Vector Int 16} {o : (Vector Int 16)} (h : J25 b0 b1 = some o) :
    rk (J2 p) JB 0 [] (X (J2 p) JP ⟨[(0, .ptr 0 0), (1, .ptr 1 0)], [.box (List.map AV.p ((JF (r_i .u32)) b0)), .box (List.map AV.p ((JF (r_i .u32)) b1))]⟩) = J1P o := by
  unfold J25 at h
  obtain rfl := sj h
  try simp only [↓Da, Ua, JP, J3o, J9c, ↓reduceIte, Nat.reduceEqDiff, Nat.reduceAdd, Nat.reduceLT, Nat.reduceMul]
  rfl
def J0j (b0 : Vector Int 16) (x4 : Int) (b1 : Vector Int 16) : Option (((Int × (Vector Int 16)) ⊕ ((Vector Int 16)))) :=
  if (decide (x4 < 16)) then
    J4h x4 x4 b0 b1 ((IntKind.wrap .u32 x4), 0)
  else
    Option.map (fun o => .inr o) (J25 b0 b1)
theorem J5O {b0 : Vector Int 16} {x4 : Int} {b1 : Vector Int 16} {o : ((Int × (Vector Int 16)) ⊕ ((Vector Int 16)))} (h : J0j b0 x4 b1 = some o) :
    rk (J2 p) JB 0 [.lo 2 [0, 1, 4] JL, .bl 0, .sq (.keep [0, 1] JP)] (X (J2 p) JL ⟨[(0, .ptr 0 0), (1, .ptr 1 0), (4, .p (.i .i64 x4))], [.box (List.map AV.p ((JF (r_i .u32)) b0)), .box (List.map AV.p ((JF (r_i .u32)) b1))]⟩) = (J1u p b0) o := by
  unfold J0j at h
  rcases Ji h with ⟨h1, h⟩ | ⟨h1, h⟩
  · try simp only [↓Da, Ua, JL, *, ↓reduceIte, Nat.reduceEqDiff, Nat.reduceAdd, Nat.reduceLT, Nat.reduceMul]
    have e0 := J7t p h
    exact e0
  · obtain ⟨o', h', rfl⟩ := mi h
    try simp only [↓Da, Ua, JL, *, ↓reduceIte, Nat.reduceEqDiff, Nat.reduceAdd, Nat.reduceLT, Nat.reduceMul]
    have e0 := J8c p h'
    exact e0
def J5Q (b0 : Vector Int 16) (s : Int × (Vector Int 16)) : Option ((Vector Int 16)) :=
  JO (fun s => J0j b0 s.1 s.2) s
theorem J7z {b0 : Vector Int 16} {s : Int × (Vector Int 16)} {o : (Vector Int 16)} (h : J5Q b0 s = some o) :
    rk (J2 p) JB 0 [.bl 0, .sq (.keep [0, 1] JP)] (X (J2 p) (.lp 2 [0, 1, 4] JL) ⟨[(0, .ptr 0 0), (1, .ptr 1 0), (4, .p (.i .i64 s.1))], [.box (List.map AV.p ((JF (r_i .u32)) b0)), .box (List.map AV.p ((JF (r_i .u32)) s.2))]⟩) = J1P o := by
  have h0 : JO (fun s => J0j b0 s.1 s.2) s = some o := h
  exact J1S (P := fun (s : Int × (Vector Int 16)) (o : (Vector Int 16)) => rk (J2 p) JB 0 [.bl 0, .sq (.keep [0, 1] JP)] (X (J2 p) (.lp 2 [0, 1, 4] JL) ⟨[(0, .ptr 0 0), (1, .ptr 1 0), (4, .p (.i .i64 s.1))], [.box (List.map AV.p ((JF (r_i .u32)) b0)), .box (List.map AV.p ((JF (r_i .u32)) s.2))]⟩) = J1P o) (fun s r hs => by rw [J1y]; exact J5O p hs) (fun s s1 r hs ih => by rw [J1y]; exact (J5O p hs).trans ih) h0
def J1j  : Option ((Vector Int 16)) :=
  J5Q (Vector.replicate 16 0) (0, (Vector.replicate 16 0))
theorem J7C  {o : (Vector Int 16)} (h : J1j = some o) :
    rk (J2 p) JB 0 [] (X (J2 p) J2w ⟨[], []⟩) = J1P o := by
  unfold J1j at h
  try simp only [↓Da, Ua, J2w, J3o, ↓reduceIte, Nat.reduceEqDiff, Nat.reduceAdd, Nat.reduceLT, Nat.reduceMul]
  have e0 := J7z p h
  exact e0
theorem J8Z  {o : (Vector Int 16)} (h : J1j = some o) : AF (J2 p) J1R [] [] = J1P o :=
  (J2d (J2 p) (J9m p) rfl).trans (J7C p h)
theorem J9e  {o : (Vector Int 16)} (h : J1j = some o) : ∀ ws new st, (Jy (AF (J2 p)) J1R ([], ws) 0 new).run st = some ⟨.data ((JF (r_i .u32)) o), ws⟩ := J01 rfl (J8Z p h) rfl
def J8I  (r : Bool) : Option Res := some (.p (.b r), [])
def J1r (x0 : Jb) : Option (Bool) :=
  Option.bind (J3a x0.ID) fun r1 =>
  if r1 then
    if (decide (x0.LSN ≥ 0)) then
      some (decide (x0.LSN ≤ 1099511627776))
    else
      some false
  else
    some false
theorem Jad {x0 : Jb} {o : Bool} (h : J1r x0 = some o) :
    rk (J2 p) J3g 0 [] (X (J2 p) J1J ⟨[(0, .data (J7 x0))], []⟩) = J8I o := by
  unfold J1r at h
  obtain ⟨r1, h2, h⟩ := bi h
  have f3 := JdE p h2
  try simp only [Nf] at f3
  try simp only [↓Da, Ua, J1J, J5, J0, J4, *, ↓reduceIte, Nat.reduceEqDiff, Nat.reduceAdd, Nat.reduceLT, Nat.reduceMul]
  rcases Ji h with ⟨h4, h⟩ | ⟨h4, h⟩
  · try simp only [↓Da, Ua, J1J, J5, J0, J4, *, ↓reduceIte, Nat.reduceEqDiff, Nat.reduceAdd, Nat.reduceLT, Nat.reduceMul]
    rcases Ji h with ⟨h5, h⟩ | ⟨h5, h⟩
    · obtain rfl := sj h
      try simp only [↓Da, Ua, J1J, J5, J0, J4, J6r, *, ↓reduceIte, Nat.reduceEqDiff, Nat.reduceAdd, Nat.reduceLT, Nat.reduceMul]
      rfl
    · obtain rfl := sj h
      try simp only [↓Da, Ua, J1J, J5, J0, J4, J6r, *, ↓reduceIte, Nat.reduceEqDiff, Nat.reduceAdd, Nat.reduceLT, Nat.reduceMul]
      rfl
  · obtain rfl := sj h
    try simp only [↓Da, Ua, J1J, J5, J0, J4, J6r, *, ↓reduceIte, Nat.reduceEqDiff, Nat.reduceAdd, Nat.reduceLT, Nat.reduceMul]
    rfl
theorem Jdl {x0 : Jb} {o : Bool} (h : J1r x0 = some o) : AF (J2 p) J2K [.data (J7 x0)] [] = J8I o :=
  (J2d (J2 p) (Jdo p) rfl).trans (Jad p h)
theorem J8F {x0 : Jb} {o : Bool} (h : J1r x0 = some o) : ∀ ws new st, (Jy (AF (J2 p)) J2K ([.data (J7 x0)], ws) 0 new).run st = some ⟨.p (.b o), ws⟩ := J01 rfl (Jdl p h) rfl
def J4w  (r : T_page_builder) : Option Res := some (.tup [], [.box (List.map AV.p (J0h r))])
def J1e (x4 : Int) (b0 : T_page_builder) (b1 : Je) : Option (T_page_builder) :=
  Option.bind (J2X b0.s_ x4 1) fun r1 =>
  Option.bind (J7y r1 b1.Data) fun s5 =>
  Option.bind (J2l ([0]) (IntKind.wrap .i64 (12 - ((List.length b1.Data : Nat) : Int)))) fun r7 =>
  Option.bind (J7y s5 r7) fun s11 =>
  some (⟨s11⟩ : T_page_builder)
theorem J5x {x4 : Int} {b0 : T_page_builder} {b1 : Je} {o : T_page_builder} (h : J1e x4 b0 b1 = some o) :
    rk (J2 p) J19 1 [] (X (J2 p) J3X ⟨[(0, .ptr 0 0), (3, .ptr 1 0), (4, .p (.i .i64 x4))], [.box (List.map AV.p (J0h b0)), .box (List.map AV.p (Jc b1))]⟩) = J4w o := by
  unfold J1e at h
  obtain ⟨r1, h2, h⟩ := bi h
  have f3 := J5d p h2
  try simp only [Nf, Jp] at f3
  have f4 : ∀ ws k new s, Ja ((Jy (AF (J2 p)) J0U ([.p (.s b0.s_), .p (.i .i64 x4), .p (.i .i64 1)], ws) k new).reads s) = [] := J0F rfl
  try simp only [Nf, Jp] at f4
  obtain ⟨s5, h6, h⟩ := bi h
  obtain ⟨r7, h8, h⟩ := bi h
  have f9 := J6Y p h8
  try simp only [Nf, Jp] at f9
  have f10 : ∀ ws k new s, Ja ((Jy (AF (J2 p)) J1n ([.p (.s [0]), .p (.i .i64 (IntKind.wrap .i64 (12 - ((List.length b1.Data : Nat) : Int))))], ws) k new).reads s) = [] := J0F rfl
  try simp only [Nf, Jp] at f10
  obtain ⟨s11, h12, h⟩ := bi h
  obtain rfl := sj h
  try simp only [↓Da, Ua, Ra, J3X, J5, Jp, J8N, *, ↓reduceIte, Nat.reduceEqDiff, Nat.reduceAdd, Nat.reduceLT, Nat.reduceMul, Nat.reduceBEq]
  rfl
def J1D (b0 : T_page_builder) (x1 : Je) : Option (T_page_builder) :=
  if x1.Set then
    J1e ((List.length x1.Data : Nat) : Int) b0 x1
  else
    J1e 255 b0 x1
theorem J7d {b0 : T_page_builder} {x1 : Je} {o : T_page_builder} (h : J1D b0 x1 = some o) :
    rk (J2 p) J19 1 [] (X (J2 p) J1B ⟨[(0, .ptr 0 0), (1, .data (Jc x1))], [.box (List.map AV.p (J0h b0))]⟩) = J4w o := by
  unfold J1D at h
  rcases Ji h with ⟨h1, h⟩ | ⟨h1, h⟩
  · try simp only [↓Da, Ua, J1B, J5, Jp, *, ↓reduceIte, Nat.reduceEqDiff, Nat.reduceAdd, Nat.reduceLT, Nat.reduceMul]
    have e0 := J5x p h
    exact e0
  · try simp only [↓Da, Ua, J1B, J5, Jp, *, ↓reduceIte, Nat.reduceEqDiff, Nat.reduceAdd, Nat.reduceLT, Nat.reduceMul]
    have e0 := J5x p h
    exact e0
theorem J8P {b0 : T_page_builder} {x1 : Je} {o : T_page_builder} (h : J1D b0 x1 = some o) : AF (J2 p) J0u [.ptr 0 0, .data (Jc x1)] [.box (List.map AV.p (J0h b0))] = J4w o :=
  (J2d (J2 p) (J8R p) rfl).trans (J7d p h)
def J4o  (r : Int) : Option Res := some (.p (.i .u32 r), [])
def Jda (x0 : List UInt8) (x8 : Int) (b0 : Vector Int 16) (o : (Int × Int) ⊕ (Int)) : Option Res := match o with
  | .inl s => rk (J2 p) J1G 0 [.bl 0, .sq (.keep [4] J2I)] (X (J2 p) (.lp 1 [0, 3, 4, 8, 9] J2a) ⟨[(0, .p (.s x0)), (3, .ptr 0 0), (4, .p (.i .u32 s.1)), (8, .p (.i .i64 x8)), (9, .p (.i .i64 s.2))], [.box (List.map AV.p ((JF (r_i .u32)) b0))]⟩)
  | .inr o => J4o o
def J4l (x4 : Int) : Option (Int) :=
  some (JiV .u32 x4)
theorem Jd7 {x4 : Int} {B0 : List PV} {o : Int} (h : J4l x4 = some o) :
    rk (J2 p) J1G 0 [] (X (J2 p) J2I ⟨[(4, .p (.i .u32 x4))], [.box (List.map AV.p B0)]⟩) = J4o o := by
  unfold J4l at h
  obtain rfl := sj h
  try simp only [↓Da, Ua, J2I, Jff, ↓reduceIte, Nat.reduceEqDiff, Nat.reduceAdd, Nat.reduceLT, Nat.reduceMul]
  rfl
def J1q (x0 : List UInt8) (x8 : Int) (b0 : Vector Int 16) (x4 : Int) (x9 : Int) : Option (((Int × Int) ⊕ (Int))) :=
  if (decide (x9 < x8)) then
    Option.bind (JbU x0 x9) fun c2 =>
    Option.bind (J7v .u32 (J43 .u32 x4 (IntKind.wrap .u32 c2)) 4) fun q4 =>
    Option.bind (inb 16 (J2U .u32 (J43 .u32 x4 (IntKind.wrap .u32 c2)) 15)) fun u6 =>
    Option.bind (J6x b0 (J2U .u32 (J43 .u32 x4 (IntKind.wrap .u32 c2)) 15)) fun y9 =>
    Option.bind (J7v .u32 (J43 .u32 q4 y9) 4) fun q12 =>
    Option.bind (inb 16 (J2U .u32 (J43 .u32 q4 y9) 15)) fun u14 =>
    Option.bind (J6x b0 (J2U .u32 (J43 .u32 q4 y9) 15)) fun y17 =>
    some (.inl ((J43 .u32 q12 y17), (IntKind.wrap .i64 (x9 + 1))))
  else
    Option.map (fun o => .inr o) (J4l x4)
theorem J8E {x0 : List UInt8} {x8 : Int} {b0 : Vector Int 16} {x4 : Int} {x9 : Int} {o : ((Int × Int) ⊕ (Int))} (h : J1q x0 x8 b0 x4 x9 = some o) :
    rk (J2 p) J1G 0 [.lo 1 [0, 3, 4, 8, 9] J2a, .bl 0, .sq (.keep [4] J2I)] (X (J2 p) J2a ⟨[(0, .p (.s x0)), (3, .ptr 0 0), (4, .p (.i .u32 x4)), (8, .p (.i .i64 x8)), (9, .p (.i .i64 x9))], [.box (List.map AV.p ((JF (r_i .u32)) b0))]⟩) = (Jda p x0 x8 b0) o := by
  unfold J1q at h
  rcases Ji h with ⟨h1, h⟩ | ⟨h1, h⟩
  · obtain ⟨c2, h3, h⟩ := bi h
    obtain ⟨q4, h5, h⟩ := bi h
    obtain ⟨u6, h7, h⟩ := bi h
    have f8 : (0 ≤ ((J2U .u32 (J43 .u32 x4 (IntKind.wrap .u32 c2)) 15) : Int) ∧ ((J2U .u32 (J43 .u32 x4 (IntKind.wrap .u32 c2)) 15) : Int) < ((16 : Nat) : Int)) = True := eq_true (JbW h7)
    obtain ⟨y9, h10, h⟩ := bi h
    have f11 : sub ((JF (r_i .u32)) b0) (Int.toNat (J2U .u32 (J43 .u32 x4 (IntKind.wrap .u32 c2)) 15) * 1) 1 = some ((r_i .u32) y9) := by
      have e0 := (JbC (v := b0) (J6d .u32) (J5q h10).2)
      exact e0
    try simp only [Nf] at f11
    obtain ⟨q12, h13, h⟩ := bi h
    obtain ⟨u14, h15, h⟩ := bi h
    have f16 : (0 ≤ ((J2U .u32 (J43 .u32 q4 y9) 15) : Int) ∧ ((J2U .u32 (J43 .u32 q4 y9) 15) : Int) < ((16 : Nat) : Int)) = True := eq_true (JbW h15)
    obtain ⟨y17, h18, h⟩ := bi h
    have f19 : sub ((JF (r_i .u32)) b0) (Int.toNat (J2U .u32 (J43 .u32 q4 y9) 15) * 1) 1 = some ((r_i .u32) y17) := by
      have e0 := (JbC (v := b0) (J6d .u32) (J5q h18).2)
      exact e0
    try simp only [Nf] at f19
    obtain rfl := sj h
    try simp only [↓Da, Ua, J2a, J3o, *, ↓reduceIte, Nat.reduceEqDiff, Nat.reduceAdd, Nat.reduceLT, Nat.reduceMul]
    rfl
  · obtain ⟨o', h', rfl⟩ := mi h
    try simp only [↓Da, Ua, J2a, J3o, *, ↓reduceIte, Nat.reduceEqDiff, Nat.reduceAdd, Nat.reduceLT, Nat.reduceMul]
    have e0 := Jd7 p (B0 := ((JF (r_i .u32)) b0)) h'
    exact e0
def J8G (x0 : List UInt8) (x8 : Int) (b0 : Vector Int 16) (s : Int × Int) : Option (Int) :=
  JO (fun s => J1q x0 x8 b0 s.1 s.2) s
theorem Jbj {x0 : List UInt8} {x8 : Int} {b0 : Vector Int 16} {s : Int × Int} {o : Int} (h : J8G x0 x8 b0 s = some o) :
    rk (J2 p) J1G 0 [.bl 0, .sq (.keep [4] J2I)] (X (J2 p) (.lp 1 [0, 3, 4, 8, 9] J2a) ⟨[(0, .p (.s x0)), (3, .ptr 0 0), (4, .p (.i .u32 s.1)), (8, .p (.i .i64 x8)), (9, .p (.i .i64 s.2))], [.box (List.map AV.p ((JF (r_i .u32)) b0))]⟩) = J4o o := by
  have h0 : JO (fun s => J1q x0 x8 b0 s.1 s.2) s = some o := h
  exact J1S (P := fun (s : Int × Int) (o : Int) => rk (J2 p) J1G 0 [.bl 0, .sq (.keep [4] J2I)] (X (J2 p) (.lp 1 [0, 3, 4, 8, 9] J2a) ⟨[(0, .p (.s x0)), (3, .ptr 0 0), (4, .p (.i .u32 s.1)), (8, .p (.i .i64 x8)), (9, .p (.i .i64 s.2))], [.box (List.map AV.p ((JF (r_i .u32)) b0))]⟩) = J4o o) (fun s r hs => by rw [J1y]; exact J8E p hs) (fun s s1 r hs ih => by rw [J1y]; exact (J8E p hs).trans ih) h0
def J1H (x0 : List UInt8) : Option (Int) :=
  Option.bind (J1j) fun r1 =>
  J8G x0 ((List.length x0 : Nat) : Int) r1 (4294967295, 0)
theorem Jb8 {x0 : List UInt8} {o : Int} (h : J1H x0 = some o) :
    rk (J2 p) J1G 0 [] (X (J2 p) J5c ⟨[(0, .p (.s x0))], []⟩) = J4o o := by
  unfold J1H at h
  obtain ⟨r1, h2, h⟩ := bi h
  have f3 := J9e p h2
  try simp only [Nf] at f3
  try simp only [↓Da, Ua, J5c, J3o, *, ↓reduceIte, Nat.reduceEqDiff, Nat.reduceAdd, Nat.reduceLT, Nat.reduceMul]
  have e0 := Jbj p h
  exact e0
theorem Jf0 {x0 : List UInt8} {o : Int} (h : J1H x0 = some o) : AF (J2 p) J3F [.p (.s x0)] [] = J4o o :=
  (J2d (J2 p) (Jfi p) rfl).trans (Jb8 p h)
theorem Jf1 {x0 : List UInt8} {o : Int} (h : J1H x0 = some o) : ∀ ws new st, (Jy (AF (J2 p)) J3F ([.p (.s x0)], ws) 0 new).run st = some ⟨.p (.i .u32 o), ws⟩ := J01 rfl (Jf0 p h) rfl
def J3n  (r : (List UInt8) × Int) : Option Res := some (.tup [.p (.s r.1), .p (.i .i64 r.2)], [])
def JbD (x28 : Vector Je 16) (b0 : Jb) (o : (Int × T_page_builder) ⊕ ((List UInt8) × Int)) : Option Res := match o with
  | .inl s => rk (J2 p) J0Z 0 [.bl 1, .td 2 [1, 2, 3, 4], .sq (.keep [1, 4] J1V)] (X (J2 p) (.lp 2 [1, 4, 5, 28, 29] J1x) ⟨[(1, .ptr 0 0), (4, .ptr 1 0), (5, .fn J0u [.ptr 1 0] []), (28, .data ((JF Jc) x28)), (29, .p (.i .i64 s.1))], [.box (List.map AV.p (J7 b0)), .box (List.map AV.p (J0h s.2))]⟩)
  | .inr o => J3n o
def J4D (b0 : Jb) (b1 : T_page_builder) : Option ((List UInt8) × Int) :=
  Option.bind (J2l ([0]) (IntKind.wrap .i64 (244 - ((List.length b1.s_ : Nat) : Int)))) fun r1 =>
  Option.bind (J7y b1.s_ r1) fun s5 =>
  Option.bind (J1H s5) fun r7 =>
  Option.bind (J2X s5 (IntKind.wrap .i64 r7) 4) fun r11 =>
  Option.bind (J2X r11 b0.LSN 8) fun r15 =>
  some (r15, 0)
theorem Jbo {b0 : Jb} {b1 : T_page_builder} {o : (List UInt8) × Int} (h : J4D b0 b1 = some o) :
    rk (J2 p) J0Z 0 [] (X (J2 p) J1V ⟨[(1, .ptr 0 0), (4, .ptr 1 0)], [.box (List.map AV.p (J7 b0)), .box (List.map AV.p (J0h b1))]⟩) = J3n o := by
  unfold J4D at h
  obtain ⟨r1, h2, h⟩ := bi h
  have f3 := J6Y p h2
  try simp only [Nf, Jp] at f3
  have f4 : ∀ ws k new s, Ja ((Jy (AF (J2 p)) J1n ([.p (.s [0]), .p (.i .i64 (IntKind.wrap .i64 (244 - ((List.length b1.s_ : Nat) : Int))))], ws) k new).reads s) = [] := J0F rfl
  try simp only [Nf, Jp] at f4
  obtain ⟨s5, h6, h⟩ := bi h
  obtain ⟨r7, h8, h⟩ := bi h
  have f9 := Jf1 p h8
  try simp only [Nf, Jp] at f9
  have f10 : ∀ ws k new s, Ja ((Jy (AF (J2 p)) J3F ([.p (.s s5)], ws) k new).reads s) = [] := J0F rfl
  try simp only [Nf, Jp] at f10
  obtain ⟨r11, h12, h⟩ := bi h
  have f13 := J5d p h12
  try simp only [Nf, Jp] at f13
  have f14 : ∀ ws k new s, Ja ((Jy (AF (J2 p)) J0U ([.p (.s s5), .p (.i .i64 (IntKind.wrap .i64 r7)), .p (.i .i64 4)], ws) k new).reads s) = [] := J0F rfl
  try simp only [Nf, Jp] at f14
  obtain ⟨r15, h16, h⟩ := bi h
  have f17 := J5d p h16
  try simp only [Nf, Jp] at f17
  have f18 : ∀ ws k new s, Ja ((Jy (AF (J2 p)) J0U ([.p (.s r11), .p (.i .i64 b0.LSN), .p (.i .i64 8)], ws) k new).reads s) = [] := J0F rfl
  try simp only [Nf, Jp] at f18
  obtain rfl := sj h
  try simp only [↓Da, Ua, Ra, J1V, J5, J0, J4, Jp, J6t, *, ↓reduceIte, Nat.reduceEqDiff, Nat.reduceAdd, Nat.reduceLT, Nat.reduceMul, Nat.reduceBEq]
  rfl
def J1W (x28 : Vector Je 16) (b0 : Jb) (x29 : Int) (b1 : T_page_builder) : Option (((Int × T_page_builder) ⊕ ((List UInt8) × Int))) :=
  if (decide (x29 < 16)) then
    Option.bind (J6x x28 x29) fun y2 =>
    Option.bind (J1D b1 y2) fun r6 =>
    some (.inl ((IntKind.wrap .i64 (x29 + 1)), r6))
  else
    Option.map (fun o => .inr o) (J4D b0 b1)
theorem J7f {x28 : Vector Je 16} {b0 : Jb} {x29 : Int} {b1 : T_page_builder} {o : ((Int × T_page_builder) ⊕ ((List UInt8) × Int))} (h : J1W x28 b0 x29 b1 = some o) :
    rk (J2 p) J0Z 0 [.lo 2 [1, 4, 5, 28, 29] J1x, .bl 1, .td 2 [1, 2, 3, 4], .sq (.keep [1, 4] J1V)] (X (J2 p) J1x ⟨[(1, .ptr 0 0), (4, .ptr 1 0), (5, .fn J0u [.ptr 1 0] []), (28, .data ((JF Jc) x28)), (29, .p (.i .i64 x29))], [.box (List.map AV.p (J7 b0)), .box (List.map AV.p (J0h b1))]⟩) = (JbD p x28 b0) o := by
  unfold J1W at h
  rcases Ji h with ⟨h1, h⟩ | ⟨h1, h⟩
  · obtain ⟨y2, h3, h⟩ := bi h
    have f4 : (0 ≤ (x29 : Int) ∧ (x29 : Int) < ((16 : Nat) : Int)) = True := eq_true (J5q h3).1
    have f5 : sub (JF Jc x28) (Int.toNat x29 * 2) 2 = some (Jc y2) := JbC J0c (J5q h3).2
    try simp only [Nf, Jp] at f5
    obtain ⟨r6, h7, h⟩ := bi h
    have f8 : ∀ ws new s, J4m ws s [1] [List.map AV.p (J0h b1)] → (Jy (AF (J2 p)) J0u ([.ptr 1 0, .data (Jc y2)], ws) 0 new).run s = some ⟨.tup [], ws ++ [(1, .box (List.map AV.p (J0h r6)))]⟩ := J7w (args' := [.ptr 0 0, .data (Jc y2)]) (bs := [1]) (css := [List.map AV.p (J0h b1)]) (css' := [List.map AV.p (J0h r6)]) rfl rfl rfl (by simp [J24, J2o]) (J8P p h7) rfl rfl (by simp [J24, J2o])
    try simp only [Nf, Jp] at f8
    obtain rfl := sj h
    try simp only [↓Da, Ua, J1x, J5, Jp, *, ↓reduceIte, Nat.reduceEqDiff, Nat.reduceAdd, Nat.reduceLT, Nat.reduceMul]
    rfl
  · obtain ⟨o', h', rfl⟩ := mi h
    try simp only [↓Da, Ua, J1x, J5, Jp, *, ↓reduceIte, Nat.reduceEqDiff, Nat.reduceAdd, Nat.reduceLT, Nat.reduceMul]
    have e0 := Jbo p h'
    exact e0
def J7g (x28 : Vector Je 16) (b0 : Jb) (s : Int × T_page_builder) : Option ((List UInt8) × Int) :=
  JO (fun s => J1W x28 b0 s.1 s.2) s
theorem Ja3 {x28 : Vector Je 16} {b0 : Jb} {s : Int × T_page_builder} {o : (List UInt8) × Int} (h : J7g x28 b0 s = some o) :
    rk (J2 p) J0Z 0 [.bl 1, .td 2 [1, 2, 3, 4], .sq (.keep [1, 4] J1V)] (X (J2 p) (.lp 2 [1, 4, 5, 28, 29] J1x) ⟨[(1, .ptr 0 0), (4, .ptr 1 0), (5, .fn J0u [.ptr 1 0] []), (28, .data ((JF Jc) x28)), (29, .p (.i .i64 s.1))], [.box (List.map AV.p (J7 b0)), .box (List.map AV.p (J0h s.2))]⟩) = J3n o := by
  have h0 : JO (fun s => J1W x28 b0 s.1 s.2) s = some o := h
  exact J1S (P := fun (s : Int × T_page_builder) (o : (List UInt8) × Int) => rk (J2 p) J0Z 0 [.bl 1, .td 2 [1, 2, 3, 4], .sq (.keep [1, 4] J1V)] (X (J2 p) (.lp 2 [1, 4, 5, 28, 29] J1x) ⟨[(1, .ptr 0 0), (4, .ptr 1 0), (5, .fn J0u [.ptr 1 0] []), (28, .data ((JF Jc) x28)), (29, .p (.i .i64 s.1))], [.box (List.map AV.p (J7 b0)), .box (List.map AV.p (J0h s.2))]⟩) = J3n o) (fun s r hs => by rw [J1y]; exact J7f p hs) (fun s s1 r hs ih => by rw [J1y]; exact (J7f p hs).trans ih) h0
def J2b (x0 : Jb) : Option ((List UInt8) × Int) :=
  Option.bind (J1r x0) fun r1 =>
  if r1 then
    Option.bind (J2x x0) fun r5 =>
    if r5 then
      Option.bind (J2X ([]) x0.LSN 8) fun r9 =>
      Option.bind (J2X r9 x0.ID 4) fun r13 =>
      J7g x0.Cells x0 (0, (⟨r13⟩ : T_page_builder))
    else
      some (([] : List UInt8), 22)
  else
    some (([] : List UInt8), 1)
theorem J9W {x0 : Jb} {o : (List UInt8) × Int} (h : J2b x0 = some o) :
    rk (J2 p) J0Z 0 [] (X (J2 p) J1K ⟨[(0, .data (J7 x0))], []⟩) = J3n o := by
  unfold J2b at h
  obtain ⟨r1, h2, h⟩ := bi h
  have f3 := J8F p h2
  try simp only [Nf, Jp] at f3
  try simp only [↓Da, Ua, Ra, J1K, J5, J0, J4, Jp, *, ↓reduceIte, Nat.reduceEqDiff, Nat.reduceAdd, Nat.reduceLT, Nat.reduceMul, Nat.reduceBEq]
  rcases Ji h with ⟨h4, h⟩ | ⟨h4, h⟩
  · obtain ⟨r5, h6, h⟩ := bi h
    have f7 := J97 p h6
    try simp only [Nf, Jp] at f7
    try simp only [↓Da, Ua, Ra, J1K, J5, J0, J4, Jp, *, ↓reduceIte, Nat.reduceEqDiff, Nat.reduceAdd, Nat.reduceLT, Nat.reduceMul, Nat.reduceBEq]
    rcases Ji h with ⟨h8, h⟩ | ⟨h8, h⟩
    · obtain ⟨r9, h10, h⟩ := bi h
      have f11 := J5d p h10
      try simp only [Nf, Jp] at f11
      have f12 : ∀ ws k new s, Ja ((Jy (AF (J2 p)) J0U ([.p (.s []), .p (.i .i64 x0.LSN), .p (.i .i64 8)], ws) k new).reads s) = [] := J0F rfl
      try simp only [Nf, Jp] at f12
      obtain ⟨r13, h14, h⟩ := bi h
      have f15 := J5d p h14
      try simp only [Nf, Jp] at f15
      have f16 : ∀ ws k new s, Ja ((Jy (AF (J2 p)) J0U ([.p (.s r9), .p (.i .i64 x0.ID), .p (.i .i64 4)], ws) k new).reads s) = [] := J0F rfl
      try simp only [Nf, Jp] at f16
      try simp only [↓Da, Ua, Ra, J1K, J5, J0, J4, Jp, *, ↓reduceIte, Nat.reduceEqDiff, Nat.reduceAdd, Nat.reduceLT, Nat.reduceMul, Nat.reduceBEq]
      have e0 := Ja3 p h
      exact e0
    · obtain rfl := sj h
      try simp only [↓Da, Ua, Ra, J1K, J5, J0, J4, Jp, J6t, *, ↓reduceIte, Nat.reduceEqDiff, Nat.reduceAdd, Nat.reduceLT, Nat.reduceMul, Nat.reduceBEq]
      rfl
  · obtain rfl := sj h
    try simp only [↓Da, Ua, Ra, J1K, J5, J0, J4, Jp, J6t, *, ↓reduceIte, Nat.reduceEqDiff, Nat.reduceAdd, Nat.reduceLT, Nat.reduceMul, Nat.reduceBEq]
    rfl
theorem Jdk {x0 : Jb} {o : (List UInt8) × Int} (h : J2b x0 = some o) : AF (J2 p) J3f [.data (J7 x0)] [] = J3n o :=
  (J2d (J2 p) (Jdg p) rfl).trans (J9W p h)
theorem Jdd {x0 : Jb} {o : (List UInt8) × Int} (h : J2b x0 = some o) : ∀ ws new st, (Jy (AF (J2 p)) J3f ([.data (J7 x0)], ws) 0 new).run st = some ⟨.tup [.p (.s o.1), .p (.i .i64 o.2)], ws⟩ := J01 rfl (Jdk p h) rfl
end
end Go.Am
end
