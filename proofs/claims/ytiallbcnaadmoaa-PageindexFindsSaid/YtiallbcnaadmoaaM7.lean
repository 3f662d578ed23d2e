/-
  Parts of a proof: AmPrim, YtiallbcnaadmoaaKTy, YtiallbcnaadmoaaKFns.
-/
import Derived.Below
import Derived.Test.YtiallbcnaadmoaaM1
import Derived.Test.YtiallbcnaadmoaaM4
import Derived.Test.YtiallbcnaadmoaaM5
import Derived.Test.YtiallbcnaadmoaaM6
set_option linter.unusedSimpArgs false
set_option linter.unusedVariables false
section
set_option linter.unusedSimpArgs false
set_option linter.unusedVariables false
namespace Go.Am
open Go.RowKit
theorem JpZ {σ : List Blk} {g : Gh} {w w' : World} (hi : Inv ⟨σ, g, w⟩) (hb : Below w.heap.size w w') :
    Inv ⟨σ, g, w'⟩ ∧ J09 ⟨σ, g, w⟩ ⟨σ, g, w'⟩ := by
  have hk : ∀ (r : Nat) x, w.heap[r]? = some x → w'.heap[r]? = some x := fun r x h => by rw [hb.block r (J2c h)]; exact h
  have hc : ∀ r o v, J0w w r o = some v → J0w w' r o = some v := by
    intro r o v h
    have hr : r < w.heap.size := by
      unfold J0w at h
      split at h
      · rename_i hx; exact J2c hx
      · cases h
    unfold J0w at h ⊢
    rw [hb.block r hr]
    exact h
  have t : J09 ⟨σ, g, w⟩ ⟨σ, g, w'⟩ := by
    refine ⟨⟨hb.size, fun r c e fz h => ⟨c, hk r _ h, rfl, fun _ _ => rfl⟩, fun r x h _ => hk r x h, hb.os, hb.output⟩, fun _ _ h => h, fun _ _ h => .inl h, fun r o ⟨b, hb⟩ => .inl ⟨b, hb⟩, Nat.le_refl _, fun _ cs h => ⟨⟨cs, h, rfl⟩, rfl⟩,
      fun _ wm _ rows h => ⟨wm, rows, h, id, Nat.le_refl _, fun _ => rfl⟩⟩
  exact ⟨J88 hi t (fun _ => False) (fun _ _ => ⟨rfl, rfl⟩) (fun _ r o v _ _ h => hc r o v h) (fun _ _ h => h.elim) (fun _ _ _ _ h => h.elim)
    (fun _ _ _ _ h => h.elim) (fun r o h => Nat.lt_of_lt_of_le (hi.const r o h).1 hb.size) (fun _ _ _ _ h => h.elim) (fun _ _ _ h h' => (h' h).elim), t⟩
def JgG : PV → Option Value
  | .b x => some (.bool x)
  | .i k n => some (.int k n)
  | .s l => some (.string ⟨l.toArray⟩)
  | _ => none
theorem Jqn {x : PV} {v : Value} (h : JgG x = some v) (w : World) (C : Nat → Nat → Prop) : J0f w C x v := by
  cases x <;> simp only [JgG, Option.some.injEq, reduceCtorEq] at h <;> subst h
  · exact .b _
  · exact .i _ _
  · exact .s _
theorem JrK {x : PV} {v v' : Value} {w : World} {C : Nat → Nat → Prop} (h : J0f w C x v) (hv : JgG x = some v') : v = v' := by
  cases x <;> simp only [JgG, Option.some.injEq, reduceCtorEq] at hv <;> subst hv <;> cases h <;> rfl
theorem JiB {P : Program} {f : FuncId} {xs : List PV} {vs : List Value} {r : PV} {v : Value} {blks : List Blk}
    (hf : ∃ fn, P.funcs[f]? = some fn ∧ fn.body.isSome = true ∧ (fn.name == "runtime.NumGoroutine") = false)
    (hx : xs.mapM JgG = some vs) (hr : JgG r = some v)
    (hc : ∀ w, Calls P f vs.toArray w fun e w' => e = .returned v ∧ Below w.heap.size w w') :
    J84 P f (xs.map .p) blks (.p r, blks) := by
  refine ⟨hf, fun g w vals hi hl ha => ?_⟩
  have hvals : vals = vs.toArray := by
    have key : ∀ (xs : List PV) (vs vl : List Value), xs.mapM JgG = some vs → xs.length = vl.length →
        (∀ (i : Nat) x v, (xs.map AV.p)[i]? = some x → vl[i]? = some v → JD ⟨blks, g, w⟩ x v) → vl = vs := by
      intro xs
      induction xs with
      | nil => intro vs vl h1 h2 _; simp at h1 h2; subst h1; exact List.length_eq_zero_iff.1 h2.symm
      | cons x r ih =>
        intro vs vl h1 h2 h3
        simp only [List.mapM_cons, Option.pure_def, Option.bind_eq_bind] at h1
        obtain ⟨v0, hv0, h1⟩ := Option.bind_eq_some_iff.1 h1
        obtain ⟨vr, hvr, h1⟩ := Option.bind_eq_some_iff.1 h1
        simp only [Option.some.injEq] at h1
        subst h1
        cases vl with
        | nil => simp at h2
        | cons u ur =>
          have := h3 0 (.p x) u rfl rfl
          cases this with
          | p _ _ hp =>
            rw [JrK hp hv0, ih vr ur hvr (by simpa using h2) (fun i x v hx hv => h3 (i + 1) x v hx hv)]
    apply Array.ext'
    rw [key xs vs vals.toList hx (by simpa using hl) (fun i x v h1 h2 => ha i x v h1 (by simpa using h2))]
  subst hvals
  refine (hc w).mono ?_
  rintro e w' ⟨rfl, hb⟩
  obtain ⟨hi', t⟩ := JpZ hi hb
  exact ⟨v, g, rfl, hi', t, .p _ _ (Jqn hr _ _)⟩
theorem JmU {T : J4E} {f : FuncId} {g : List AV → List Blk → Option Res} (h : T f = some (.prim g)) (args blks) : AF T f args blks = g args blks := by
  unfold AF J96; rw [h]
def JtA (a : Option AFn) (k : Option J8U) (g q : Option (List AV → List Blk → Option Res)) : Option J75 :=
  match a with
  | some a => some (.fn a)
  | none => match k with
    | some k => some (.fork k)
    | none => match g with
      | some g => some (.prim g)
      | none => q.map .prim
theorem JdF {a : Option AFn} {k : Option J8U} {g q : Option (List AV → List Blk → Option Res)} {e : J75} (h : JtA a k g q = some e) :
    (∃ x, a = some x ∧ e = .fn x) ∨ (∃ x, k = some x ∧ e = .fork x) ∨ (∃ x, g = some x ∧ e = .prim x) ∨ (∃ x, q = some x ∧ e = .prim x) := by
  cases a with
  | some a => exact .inl ⟨a, rfl, by injection h with h; exact h.symm⟩
  | none =>
    cases k with
    | some k => exact .inr (.inl ⟨k, rfl, by injection h with h; exact h.symm⟩)
    | none =>
      cases g with
      | some g => exact .inr (.inr (.inl ⟨g, rfl, by injection h with h; exact h.symm⟩))
      | none =>
        cases q with
        | some q => exact .inr (.inr (.inr ⟨q, rfl, by injection h with h; exact h.symm⟩))
        | none => cases h
def Jj3 (l : List UInt8) (n : Int) : Option (List UInt8) :=
  if 0 ≤ n ∧ n ≤ 9223372036854775807 ∧ l.length * n.toNat ≤ 140737488355328 then some (List.replicate n.toNat l).flatten else none
def Jm4 : List AV → List Blk → Option Res
  | [.p (.s l), .p (.i .i64 n)], blks => (Jj3 l n).map fun r => (.p (.s r), blks)
  | _, _ => none
def J3q (n : Int) (i : Nat) : Int := IntKind.wrap .u8 ((IntKind.wrap .u64 n).fdiv (2 ^ (8 * i)))
def JH (n : Int) (k : Nat) : List UInt8 := toStr ((List.range k).map (J3q n))
def Jj0 (l : List UInt8) (n size : Int) : Option (List UInt8) :=
  if size < 1 ∨ 8 < size then some l
  else if l.length + 8 ≤ 140737488355328 then some (l ++ JH n size.toNat) else none
def Jla : List AV → List Blk → Option Res
  | [.p (.s l), .p (.i .i64 n), .p (.i .i64 k)], blks => (Jj0 l n k).map fun r => (.p (.s r), blks)
  | _, _ => none
theorem Jsj (x : Int) : 0 ≤ IntKind.wrap .u8 x ∧ IntKind.wrap .u8 x < 256 := by
  have h : IntKind.wrap .u8 x = x % 256 := rfl
  rw [h]; omega
theorem JaD (n : Int) (i : Nat) : ((UInt8.ofNat (J3q n i).toNat).toNat : Int) = J3q n i := by
  have h : 0 ≤ J3q n i ∧ J3q n i < 256 := Jsj _
  have h2 : (J3q n i).toNat < 256 := by omega
  rw [UInt8.toNat_ofNat_of_lt' (by simpa using h2)]
  omega
theorem JjG (n : Int) (k : Nat) : JH n (k + 1) = JH n k ++ [UInt8.ofNat (J3q n k).toNat] := by
  simp [JH, toStr, List.range_succ]
theorem JG (n : Int) (k : Nat) : (JH n k).length = k := by simp [JH, toStr]
theorem JtI (x y : Bool) : J13 [.b] [.b x] [.b y] = some (decide (x = y)) := by
  simp only [J13, JcZ]
  cases x <;> cases y <;> rfl
theorem JkH (k : IntKind) (x y : Int) : J13 [.i k] [.i k x] [.i k y] = some (decide (x = y)) := by
  by_cases h : x = y <;> simp [J13, JcZ, h]
theorem JtZ (x y : List UInt8) : J13 [.s] [.s x] [.s y] = some (decide (x = y)) := by
  by_cases h : x = y <;> simp [J13, JcZ, h]
theorem J9r {p q : Prop} [Decidable p] [Decidable q] : ∀ {k1 k2 : List KD} {a1 a2 b1 b2 : List PV}, J13 k1 a1 b1 = some (decide p) → J13 k2 a2 b2 = some (decide q) → J13 (k1 ++ k2) (cat a1 a2) (cat b1 b2) = some (decide (p ∧ q)) := by
  have key : ∀ (k1 k2 : List KD) (a1 a2 b1 b2 : List PV) (r s : Bool), J13 k1 a1 b1 = some r → J13 k2 a2 b2 = some s → J13 (k1 ++ k2) (a1 ++ a2) (b1 ++ b2) = some (r && s) := by
    intro k1
    induction k1 with
    | nil =>
      intro k2 a1 a2 b1 b2 r s h1 h2
      cases a1 <;> cases b1 <;> simp [J13] at h1
      subst h1
      simpa using h2
    | cons k ks ih =>
      intro k2 a1 a2 b1 b2 r s h1 h2
      cases a1 with
      | nil => simp [J13] at h1
      | cons a a1 =>
        cases b1 with
        | nil => simp [J13] at h1
        | cons b b1 =>
          simp only [J13] at h1
          split at h1
          · rename_i u c hu hc
            injection h1 with h1
            subst h1
            simp only [List.cons_append, J13, hu, ih _ _ _ _ _ _ _ hc h2, Bool.and_assoc]
          · cases h1
  intro k1 k2 a1 a2 b1 b2 h1 h2
  rw [key _ _ _ _ _ _ _ _ h1 h2, Bool.decide_and]
theorem Jte {α : Type} [DecidableEq α] {n : Nat} {ks : List KD} {r : α → List PV} (h : ∀ x y, J13 ks (r x) (r y) = some (decide (x = y))) (v w : Vector α n) :
    J13 (List.replicate n ks).flatten (J07 r v) (J07 r w) = some (decide (v = w)) := by
  have key : ∀ (l l' : List α), l.length = l'.length → J13 (List.replicate l.length ks).flatten (l.map r).flatten (l'.map r).flatten = some (decide (l = l')) := by
    intro l
    induction l with
    | nil => intro l' h1; cases l' with
      | nil => simp [J13]
      | cons a l' => simp at h1
    | cons a l ih =>
      intro l' h1
      cases l' with
      | nil => simp at h1
      | cons b l' =>
        have h2 := J9r (h a b) (ih l' (by simpa using h1))
        simp only [List.length_cons, List.replicate_succ, List.flatten_cons, List.map_cons]
        rw [show (decide (a :: l = b :: l')) = decide (a = b ∧ l = l') by simp]
        exact h2
  have h3 := key v.toList w.toList (by simp)
  rw [show v.toList.length = n by simp] at h3
  rw [show decide (v = w) = decide (v.toList = w.toList) by
    apply decide_eq_decide.2
    exact ⟨fun e => by rw [e], fun e => Vector.toList_inj.1 e⟩]
  exact h3
end Go.Am
end
section
namespace Go.Am
set_option maxRecDepth 8000
set_option maxHeartbeats 4000000
set_option linter.unusedSimpArgs false
set_option linter.unusedVariables false
structure Jq where
  LSN : Int
  Image : Int
  ImageLSN : Int
  deriving DecidableEq
instance : Inhabited Jq := ⟨⟨0, 0, 0⟩⟩
def Jj (x : Jq) : List PV := (cat [.i .i64 x.LSN] (cat [.i .i64 x.Image] [.i .i64 x.ImageLSN]))
theorem J9B (x : Jq) : (Jj x).length = 3 := by
  simp only [cat, Jj, List.length_append, List.length_cons, List.length_nil]
theorem JhY (x : Jq) : sub (Jj x) 0 1 = some [.i .i64 x.LSN] := by unfold Jj; exact J6A rfl
theorem Jin (x : Jq) (y : Int) : spl (Jj x) 0 [.i .i64 y] = some (Jj ⟨y, x.Image, x.ImageLSN⟩) := by unfold Jj; exact J6p rfl
theorem JfI (x : Jq) : sub (Jj x) 1 1 = some [.i .i64 x.Image] := by
  have e0 : Jj x = cat [.i .i64 x.LSN] (cat [.i .i64 x.Image] [.i .i64 x.ImageLSN]) := by unfold Jj; simp only [cat, List.append_assoc]
  rw [e0]; exact J3Q (by simp only [cat, List.length_append, List.length_cons, List.length_nil]) rfl
theorem JfU (x : Jq) (y : Int) : spl (Jj x) 1 [.i .i64 y] = some (Jj ⟨x.LSN, y, x.ImageLSN⟩) := by
  have e0 : Jj x = cat [.i .i64 x.LSN] (cat [.i .i64 x.Image] [.i .i64 x.ImageLSN]) := by unfold Jj; simp only [cat, List.append_assoc]
  have e1 : Jj ⟨x.LSN, y, x.ImageLSN⟩ = cat [.i .i64 x.LSN] (cat [.i .i64 y] [.i .i64 x.ImageLSN]) := by unfold Jj; simp only [cat, List.append_assoc]
  rw [e0, e1]; exact J3P (by simp only [cat, List.length_append, List.length_cons, List.length_nil]) rfl
theorem Jdh (x : Jq) : sub (Jj x) 2 1 = some [.i .i64 x.ImageLSN] := by
  have e0 : Jj x = cat (cat [.i .i64 x.LSN] [.i .i64 x.Image]) [.i .i64 x.ImageLSN] := by unfold Jj; simp only [cat, List.append_assoc]
  rw [e0]; exact J7z (by simp only [cat, List.length_append, List.length_cons, List.length_nil]) rfl
theorem Jd0 (x : Jq) (y : Int) : spl (Jj x) 2 [.i .i64 y] = some (Jj ⟨x.LSN, x.Image, y⟩) := by
  have e0 : Jj x = cat (cat [.i .i64 x.LSN] [.i .i64 x.Image]) [.i .i64 x.ImageLSN] := by unfold Jj; simp only [cat, List.append_assoc]
  have e1 : Jj ⟨x.LSN, x.Image, y⟩ = cat (cat [.i .i64 x.LSN] [.i .i64 x.Image]) [.i .i64 y] := by unfold Jj; simp only [cat, List.append_assoc]
  rw [e0, e1]; exact J7A (by simp only [cat, List.length_append, List.length_cons, List.length_nil]) rfl
theorem Jmx : (default : Jq) = (⟨0, 0, 0⟩ : Jq) := rfl
theorem JkW (x : Jq) : sub (Jj x) 0 3 = some (Jj x) := J8z (J9B x)
theorem JlN (x y : Jq) : spl (Jj x) 0 (Jj y) = some (Jj y) := J8B ((J9B x).trans (J9B y).symm)
theorem Jn : (∀ x : Jq, (Jj x).length = 3) ∧
  (∀ x : Jq, sub (Jj x) 0 1 = some [.i .i64 x.LSN]) ∧
  (∀ (x : Jq) (y : Int), spl (Jj x) 0 [.i .i64 y] = some (Jj ⟨y, x.Image, x.ImageLSN⟩)) ∧
  (∀ x : Jq, sub (Jj x) 1 1 = some [.i .i64 x.Image]) ∧
  (∀ (x : Jq) (y : Int), spl (Jj x) 1 [.i .i64 y] = some (Jj ⟨x.LSN, y, x.ImageLSN⟩)) ∧
  (∀ x : Jq, sub (Jj x) 2 1 = some [.i .i64 x.ImageLSN]) ∧
  (∀ (x : Jq) (y : Int), spl (Jj x) 2 [.i .i64 y] = some (Jj ⟨x.LSN, x.Image, y⟩)) ∧
  ((default : Jq) = (⟨0, 0, 0⟩ : Jq)) ∧
  (∀ x : Jq, sub (Jj x) 0 3 = some (Jj x)) ∧
  (∀ x y : Jq, spl (Jj x) 0 (Jj y) = some (Jj y)) :=
  ⟨@J9B, @JhY, @Jin, @JfI, @JfU, @Jdh, @Jd0, Jmx, @JkW, @JlN⟩
theorem J9Q : (∀ x : Jq, Jj x = (cat [.i .i64 x.LSN] (cat [.i .i64 x.Image] [.i .i64 x.ImageLSN]))) ∧ (default : Jq) = (⟨0, 0, 0⟩ : Jq) := ⟨fun _ => rfl, rfl⟩
structure Ji where
  Rows : List Jq
  deriving DecidableEq
instance : Inhabited Ji := ⟨⟨[]⟩⟩
def JE (x : Ji) : List PV := [.sl 3 (List.map Jj x.Rows)]
theorem Jc : (∀ x : Ji, JE x = [.sl 3 (List.map Jj x.Rows)]) ∧ (default : Ji) = (⟨[]⟩ : Ji) := ⟨fun _ => rfl, rfl⟩
structure J5 where
  Set : Bool
  Data : List UInt8
  deriving DecidableEq
instance : Inhabited J5 := ⟨⟨false, []⟩⟩
def Jd (x : J5) : List PV := (cat [.b x.Set] [.s x.Data])
theorem JU (x : J5) : (Jd x).length = 2 := by
  simp only [cat, Jd, List.length_append, List.length_cons, List.length_nil]
theorem Jgv (x : J5) : sub (Jd x) 0 1 = some [.b x.Set] := by unfold Jd; exact J6A rfl
theorem JgS (x : J5) (y : Bool) : spl (Jd x) 0 [.b y] = some (Jd ⟨y, x.Data⟩) := by unfold Jd; exact J6p rfl
theorem JfG (x : J5) : sub (Jd x) 1 1 = some [.s x.Data] := by
  have e0 : Jd x = cat [.b x.Set] [.s x.Data] := by unfold Jd; simp only [cat, List.append_assoc]
  rw [e0]; exact J7z (by simp only [cat, List.length_append, List.length_cons, List.length_nil]) rfl
theorem Jg4 (x : J5) (y : List UInt8) : spl (Jd x) 1 [.s y] = some (Jd ⟨x.Set, y⟩) := by
  have e0 : Jd x = cat [.b x.Set] [.s x.Data] := by unfold Jd; simp only [cat, List.append_assoc]
  have e1 : Jd ⟨x.Set, y⟩ = cat [.b x.Set] [.s y] := by unfold Jd; simp only [cat, List.append_assoc]
  rw [e0, e1]; exact J7A (by simp only [cat, List.length_append, List.length_cons, List.length_nil]) rfl
theorem JlT : (default : J5) = (⟨false, []⟩ : J5) := rfl
theorem Jkk (x : J5) : sub (Jd x) 0 2 = some (Jd x) := J8z (JU x)
theorem Jk3 (x y : J5) : spl (Jd x) 0 (Jd y) = some (Jd y) := J8B ((JU x).trans (JU y).symm)
theorem J6 : (∀ x : J5, (Jd x).length = 2) ∧
  (∀ x : J5, sub (Jd x) 0 1 = some [.b x.Set]) ∧
  (∀ (x : J5) (y : Bool), spl (Jd x) 0 [.b y] = some (Jd ⟨y, x.Data⟩)) ∧
  (∀ x : J5, sub (Jd x) 1 1 = some [.s x.Data]) ∧
  (∀ (x : J5) (y : List UInt8), spl (Jd x) 1 [.s y] = some (Jd ⟨x.Set, y⟩)) ∧
  ((default : J5) = (⟨false, []⟩ : J5)) ∧
  (∀ x : J5, sub (Jd x) 0 2 = some (Jd x)) ∧
  (∀ x y : J5, spl (Jd x) 0 (Jd y) = some (Jd y)) :=
  ⟨@JU, @Jgv, @JgS, @JfG, @Jg4, JlT, @Jkk, @Jk3⟩
theorem Jb : (∀ x : J5, Jd x = (cat [.b x.Set] [.s x.Data])) ∧ (default : J5) = (⟨false, []⟩ : J5) := ⟨fun _ => rfl, rfl⟩
theorem J2 : (∀ v : Vector J5 16, (J07 Jd v).length = 32) ∧ (∀ v : Vector J5 16, sub (J07 Jd v) 0 32 = some (J07 Jd v)) ∧ (∀ v y : Vector J5 16, spl (J07 Jd v) 0 (J07 Jd y) = some (J07 Jd y)) :=
  ⟨fun v => J4F JU v, fun v => J8z (J4F JU v), fun v y => J8B ((J4F JU v).trans (J4F JU y).symm)⟩
structure T_api_Page where
  ID : Int
  LSN : Int
  Cells : Vector J5 16
  deriving DecidableEq
instance : Inhabited T_api_Page := ⟨⟨0, 0, (Vector.replicate 16 (⟨false, []⟩ : J5))⟩⟩
def J4 (x : T_api_Page) : List PV := (cat [.i .i64 x.ID] (cat [.i .i64 x.LSN] ((J07 Jd) x.Cells)))
theorem J8W (x : T_api_Page) : (J4 x).length = 34 := by
  simp only [cat, J4, (J4F JU x.Cells), List.length_append, List.length_cons, List.length_nil]
theorem Jiq (x : T_api_Page) : sub (J4 x) 0 1 = some [.i .i64 x.ID] := by unfold J4; exact J6A rfl
theorem JhJ (x : T_api_Page) (y : Int) : spl (J4 x) 0 [.i .i64 y] = some (J4 ⟨y, x.LSN, x.Cells⟩) := by unfold J4; exact J6p rfl
theorem JgK (x : T_api_Page) : sub (J4 x) 1 1 = some [.i .i64 x.LSN] := by
  have e0 : J4 x = cat [.i .i64 x.ID] (cat [.i .i64 x.LSN] ((J07 Jd) x.Cells)) := by unfold J4; simp only [cat, List.append_assoc]
  rw [e0]; exact J3Q (by simp only [cat, List.length_append, List.length_cons, List.length_nil, (J4F JU x.Cells)]) rfl
theorem JgL (x : T_api_Page) (y : Int) : spl (J4 x) 1 [.i .i64 y] = some (J4 ⟨x.ID, y, x.Cells⟩) := by
  have e0 : J4 x = cat [.i .i64 x.ID] (cat [.i .i64 x.LSN] ((J07 Jd) x.Cells)) := by unfold J4; simp only [cat, List.append_assoc]
  have e1 : J4 ⟨x.ID, y, x.Cells⟩ = cat [.i .i64 x.ID] (cat [.i .i64 y] ((J07 Jd) x.Cells)) := by unfold J4; simp only [cat, List.append_assoc]
  rw [e0, e1]; exact J3P (by simp only [cat, List.length_append, List.length_cons, List.length_nil, (J4F JU x.Cells)]) rfl
theorem J7q (x : T_api_Page) : sub (J4 x) 2 32 = some ((J07 Jd) x.Cells) := by
  have e0 : J4 x = cat (cat [.i .i64 x.ID] [.i .i64 x.LSN]) ((J07 Jd) x.Cells) := by unfold J4; simp only [cat, List.append_assoc]
  rw [e0]; exact J7z (by simp only [cat, List.length_append, List.length_cons, List.length_nil, (J4F JU x.Cells)]) (J4F JU _)
theorem J7d (x : T_api_Page) (y : Vector J5 16) : spl (J4 x) 2 ((J07 Jd) y) = some (J4 ⟨x.ID, x.LSN, y⟩) := by
  have e0 : J4 x = cat (cat [.i .i64 x.ID] [.i .i64 x.LSN]) ((J07 Jd) x.Cells) := by unfold J4; simp only [cat, List.append_assoc]
  have e1 : J4 ⟨x.ID, x.LSN, y⟩ = cat (cat [.i .i64 x.ID] [.i .i64 x.LSN]) ((J07 Jd) y) := by unfold J4; simp only [cat, List.append_assoc]
  rw [e0, e1]; exact J7A (by simp only [cat, List.length_append, List.length_cons, List.length_nil, (J4F JU x.Cells)]) ((J4F JU _).trans (J4F JU _).symm)
theorem Jly : (default : T_api_Page) = (⟨0, 0, (Vector.replicate 16 (⟨false, []⟩ : J5))⟩ : T_api_Page) := rfl
theorem Jke (x : T_api_Page) : sub (J4 x) 0 34 = some (J4 x) := J8z (J8W x)
theorem JjY (x y : T_api_Page) : spl (J4 x) 0 (J4 y) = some (J4 y) := J8B ((J8W x).trans (J8W y).symm)
theorem Jf : (∀ x : T_api_Page, (J4 x).length = 34) ∧
  (∀ x : T_api_Page, sub (J4 x) 0 1 = some [.i .i64 x.ID]) ∧
  (∀ (x : T_api_Page) (y : Int), spl (J4 x) 0 [.i .i64 y] = some (J4 ⟨y, x.LSN, x.Cells⟩)) ∧
  (∀ x : T_api_Page, sub (J4 x) 1 1 = some [.i .i64 x.LSN]) ∧
  (∀ (x : T_api_Page) (y : Int), spl (J4 x) 1 [.i .i64 y] = some (J4 ⟨x.ID, y, x.Cells⟩)) ∧
  (∀ x : T_api_Page, sub (J4 x) 2 32 = some ((J07 Jd) x.Cells)) ∧
  (∀ (x : T_api_Page) (y : Vector J5 16), spl (J4 x) 2 ((J07 Jd) y) = some (J4 ⟨x.ID, x.LSN, y⟩)) ∧
  ((default : T_api_Page) = (⟨0, 0, (Vector.replicate 16 (⟨false, []⟩ : J5))⟩ : T_api_Page)) ∧
  (∀ x : T_api_Page, sub (J4 x) 0 34 = some (J4 x)) ∧
  (∀ x y : T_api_Page, spl (J4 x) 0 (J4 y) = some (J4 y)) :=
  ⟨@J8W, @Jiq, @JhJ, @JgK, @JgL, @J7q, @J7d, Jly, @Jke, @JjY⟩
structure Jp where
  Page : Int
  Slot : Int
  Before : J5
  After : J5
  deriving DecidableEq
instance : Inhabited Jp := ⟨⟨0, 0, (⟨false, []⟩ : J5), (⟨false, []⟩ : J5)⟩⟩
def J9 (x : Jp) : List PV := (cat [.i .i64 x.Page] (cat [.i .i64 x.Slot] (cat (Jd x.Before) (Jd x.After))))
theorem J0b (x : Jp) : (J9 x).length = 6 := by
  simp only [cat, J9, JU, List.length_append, List.length_cons, List.length_nil]
theorem J70 (x : Jp) : sub (J9 x) 0 1 = some [.i .i64 x.Page] := by unfold J9; exact J6A rfl
theorem Jea (x : Jp) (y : Int) : spl (J9 x) 0 [.i .i64 y] = some (J9 ⟨y, x.Slot, x.Before, x.After⟩) := by unfold J9; exact J6p rfl
theorem Je7 (x : Jp) : sub (J9 x) 1 1 = some [.i .i64 x.Slot] := by
  have e0 : J9 x = cat [.i .i64 x.Page] (cat [.i .i64 x.Slot] (cat (Jd x.Before) (Jd x.After))) := by unfold J9; simp only [cat, List.append_assoc]
  rw [e0]; exact J3Q (by simp only [cat, List.length_append, List.length_cons, List.length_nil, JU]) rfl
theorem Jeg (x : Jp) (y : Int) : spl (J9 x) 1 [.i .i64 y] = some (J9 ⟨x.Page, y, x.Before, x.After⟩) := by
  have e0 : J9 x = cat [.i .i64 x.Page] (cat [.i .i64 x.Slot] (cat (Jd x.Before) (Jd x.After))) := by unfold J9; simp only [cat, List.append_assoc]
  have e1 : J9 ⟨x.Page, y, x.Before, x.After⟩ = cat [.i .i64 x.Page] (cat [.i .i64 y] (cat (Jd x.Before) (Jd x.After))) := by unfold J9; simp only [cat, List.append_assoc]
  rw [e0, e1]; exact J3P (by simp only [cat, List.length_append, List.length_cons, List.length_nil, JU]) rfl
theorem JcJ (x : Jp) : sub (J9 x) 2 2 = some (Jd x.Before) := by
  have e0 : J9 x = cat (cat [.i .i64 x.Page] [.i .i64 x.Slot]) (cat (Jd x.Before) (Jd x.After)) := by unfold J9; simp only [cat, List.append_assoc]
  rw [e0]; exact J3Q (by simp only [cat, List.length_append, List.length_cons, List.length_nil, JU]) (JU _)
theorem JcE (x : Jp) (y : J5) : spl (J9 x) 2 (Jd y) = some (J9 ⟨x.Page, x.Slot, y, x.After⟩) := by
  have e0 : J9 x = cat (cat [.i .i64 x.Page] [.i .i64 x.Slot]) (cat (Jd x.Before) (Jd x.After)) := by unfold J9; simp only [cat, List.append_assoc]
  have e1 : J9 ⟨x.Page, x.Slot, y, x.After⟩ = cat (cat [.i .i64 x.Page] [.i .i64 x.Slot]) (cat (Jd y) (Jd x.After)) := by unfold J9; simp only [cat, List.append_assoc]
  rw [e0, e1]; exact J3P (by simp only [cat, List.length_append, List.length_cons, List.length_nil, JU]) ((JU _).trans (JU _).symm)
theorem JdA (x : Jp) : sub (J9 x) 4 2 = some (Jd x.After) := by
  have e0 : J9 x = cat (cat [.i .i64 x.Page] (cat [.i .i64 x.Slot] (Jd x.Before))) (Jd x.After) := by unfold J9; simp only [cat, List.append_assoc]
  rw [e0]; exact J7z (by simp only [cat, List.length_append, List.length_cons, List.length_nil, JU]) (JU _)
theorem Jdd (x : Jp) (y : J5) : spl (J9 x) 4 (Jd y) = some (J9 ⟨x.Page, x.Slot, x.Before, y⟩) := by
  have e0 : J9 x = cat (cat [.i .i64 x.Page] (cat [.i .i64 x.Slot] (Jd x.Before))) (Jd x.After) := by unfold J9; simp only [cat, List.append_assoc]
  have e1 : J9 ⟨x.Page, x.Slot, x.Before, y⟩ = cat (cat [.i .i64 x.Page] (cat [.i .i64 x.Slot] (Jd x.Before))) (Jd y) := by unfold J9; simp only [cat, List.append_assoc]
  rw [e0, e1]; exact J7A (by simp only [cat, List.length_append, List.length_cons, List.length_nil, JU]) ((JU _).trans (JU _).symm)
theorem Jjh : (default : Jp) = (⟨0, 0, (⟨false, []⟩ : J5), (⟨false, []⟩ : J5)⟩ : Jp) := rfl
theorem Jhx (x : Jp) : sub (J9 x) 0 6 = some (J9 x) := J8z (J0b x)
theorem JhW (x y : Jp) : spl (J9 x) 0 (J9 y) = some (J9 y) := J8B ((J0b x).trans (J0b y).symm)
theorem Jo : (∀ x : Jp, (J9 x).length = 6) ∧
  (∀ x : Jp, sub (J9 x) 0 1 = some [.i .i64 x.Page]) ∧
  (∀ (x : Jp) (y : Int), spl (J9 x) 0 [.i .i64 y] = some (J9 ⟨y, x.Slot, x.Before, x.After⟩)) ∧
  (∀ x : Jp, sub (J9 x) 1 1 = some [.i .i64 x.Slot]) ∧
  (∀ (x : Jp) (y : Int), spl (J9 x) 1 [.i .i64 y] = some (J9 ⟨x.Page, y, x.Before, x.After⟩)) ∧
  (∀ x : Jp, sub (J9 x) 2 2 = some (Jd x.Before)) ∧
  (∀ (x : Jp) (y : J5), spl (J9 x) 2 (Jd y) = some (J9 ⟨x.Page, x.Slot, y, x.After⟩)) ∧
  (∀ x : Jp, sub (J9 x) 4 2 = some (Jd x.After)) ∧
  (∀ (x : Jp) (y : J5), spl (J9 x) 4 (Jd y) = some (J9 ⟨x.Page, x.Slot, x.Before, y⟩)) ∧
  ((default : Jp) = (⟨0, 0, (⟨false, []⟩ : J5), (⟨false, []⟩ : J5)⟩ : Jp)) ∧
  (∀ x : Jp, sub (J9 x) 0 6 = some (J9 x)) ∧
  (∀ x y : Jp, spl (J9 x) 0 (J9 y) = some (J9 y)) :=
  ⟨@J0b, @J70, @Jea, @Je7, @Jeg, @JcJ, @JcE, @JdA, @Jdd, Jjh, @Jhx, @JhW⟩
theorem J7 : (∀ x : Jp, J9 x = (cat [.i .i64 x.Page] (cat [.i .i64 x.Slot] (cat (Jd x.Before) (Jd x.After))))) ∧ (default : Jp) = (⟨0, 0, (⟨false, []⟩ : J5), (⟨false, []⟩ : J5)⟩ : Jp) := ⟨fun _ => rfl, rfl⟩
structure Ja where
  LSN : Int
  Kind : Int
  Tx : Int
  PrevTx : Int
  PrevPage : Int
  Ref : Int
  Change : Jp
  Blob : List UInt8
  deriving DecidableEq
instance : Inhabited Ja := ⟨⟨0, 0, 0, 0, 0, 0, (⟨0, 0, (⟨false, []⟩ : J5), (⟨false, []⟩ : J5)⟩ : Jp), []⟩⟩
def J3 (x : Ja) : List PV := (cat [.i .i64 x.LSN] (cat [.i .i64 x.Kind] (cat [.i .i64 x.Tx] (cat [.i .i64 x.PrevTx] (cat [.i .i64 x.PrevPage] (cat [.i .i64 x.Ref] (cat (J9 x.Change) [.s x.Blob])))))))
theorem J8c (x : Ja) : (J3 x).length = 13 := by
  simp only [cat, J3, J0b, List.length_append, List.length_cons, List.length_nil]
theorem JfR (x : Ja) : sub (J3 x) 0 1 = some [.i .i64 x.LSN] := by unfold J3; exact J6A rfl
theorem Jfw (x : Ja) (y : Int) : spl (J3 x) 0 [.i .i64 y] = some (J3 ⟨y, x.Kind, x.Tx, x.PrevTx, x.PrevPage, x.Ref, x.Change, x.Blob⟩) := by unfold J3; exact J6p rfl
theorem Jep (x : Ja) : sub (J3 x) 1 1 = some [.i .i64 x.Kind] := by
  have e0 : J3 x = cat [.i .i64 x.LSN] (cat [.i .i64 x.Kind] (cat [.i .i64 x.Tx] (cat [.i .i64 x.PrevTx] (cat [.i .i64 x.PrevPage] (cat [.i .i64 x.Ref] (cat (J9 x.Change) [.s x.Blob])))))) := by unfold J3; simp only [cat, List.append_assoc]
  rw [e0]; exact J3Q (by simp only [cat, List.length_append, List.length_cons, List.length_nil, J0b]) rfl
theorem Jev (x : Ja) (y : Int) : spl (J3 x) 1 [.i .i64 y] = some (J3 ⟨x.LSN, y, x.Tx, x.PrevTx, x.PrevPage, x.Ref, x.Change, x.Blob⟩) := by
  have e0 : J3 x = cat [.i .i64 x.LSN] (cat [.i .i64 x.Kind] (cat [.i .i64 x.Tx] (cat [.i .i64 x.PrevTx] (cat [.i .i64 x.PrevPage] (cat [.i .i64 x.Ref] (cat (J9 x.Change) [.s x.Blob])))))) := by unfold J3; simp only [cat, List.append_assoc]
  have e1 : J3 ⟨x.LSN, y, x.Tx, x.PrevTx, x.PrevPage, x.Ref, x.Change, x.Blob⟩ = cat [.i .i64 x.LSN] (cat [.i .i64 y] (cat [.i .i64 x.Tx] (cat [.i .i64 x.PrevTx] (cat [.i .i64 x.PrevPage] (cat [.i .i64 x.Ref] (cat (J9 x.Change) [.s x.Blob])))))) := by unfold J3; simp only [cat, List.append_assoc]
  rw [e0, e1]; exact J3P (by simp only [cat, List.length_append, List.length_cons, List.length_nil, J0b]) rfl
theorem Jh5 (x : Ja) : sub (J3 x) 2 1 = some [.i .i64 x.Tx] := by
  have e0 : J3 x = cat (cat [.i .i64 x.LSN] [.i .i64 x.Kind]) (cat [.i .i64 x.Tx] (cat [.i .i64 x.PrevTx] (cat [.i .i64 x.PrevPage] (cat [.i .i64 x.Ref] (cat (J9 x.Change) [.s x.Blob]))))) := by unfold J3; simp only [cat, List.append_assoc]
  rw [e0]; exact J3Q (by simp only [cat, List.length_append, List.length_cons, List.length_nil, J0b]) rfl
theorem Jgy (x : Ja) (y : Int) : spl (J3 x) 2 [.i .i64 y] = some (J3 ⟨x.LSN, x.Kind, y, x.PrevTx, x.PrevPage, x.Ref, x.Change, x.Blob⟩) := by
  have e0 : J3 x = cat (cat [.i .i64 x.LSN] [.i .i64 x.Kind]) (cat [.i .i64 x.Tx] (cat [.i .i64 x.PrevTx] (cat [.i .i64 x.PrevPage] (cat [.i .i64 x.Ref] (cat (J9 x.Change) [.s x.Blob]))))) := by unfold J3; simp only [cat, List.append_assoc]
  have e1 : J3 ⟨x.LSN, x.Kind, y, x.PrevTx, x.PrevPage, x.Ref, x.Change, x.Blob⟩ = cat (cat [.i .i64 x.LSN] [.i .i64 x.Kind]) (cat [.i .i64 y] (cat [.i .i64 x.PrevTx] (cat [.i .i64 x.PrevPage] (cat [.i .i64 x.Ref] (cat (J9 x.Change) [.s x.Blob]))))) := by unfold J3; simp only [cat, List.append_assoc]
  rw [e0, e1]; exact J3P (by simp only [cat, List.length_append, List.length_cons, List.length_nil, J0b]) rfl
theorem Jd8 (x : Ja) : sub (J3 x) 3 1 = some [.i .i64 x.PrevTx] := by
  have e0 : J3 x = cat (cat [.i .i64 x.LSN] (cat [.i .i64 x.Kind] [.i .i64 x.Tx])) (cat [.i .i64 x.PrevTx] (cat [.i .i64 x.PrevPage] (cat [.i .i64 x.Ref] (cat (J9 x.Change) [.s x.Blob])))) := by unfold J3; simp only [cat, List.append_assoc]
  rw [e0]; exact J3Q (by simp only [cat, List.length_append, List.length_cons, List.length_nil, J0b]) rfl
theorem JdG (x : Ja) (y : Int) : spl (J3 x) 3 [.i .i64 y] = some (J3 ⟨x.LSN, x.Kind, x.Tx, y, x.PrevPage, x.Ref, x.Change, x.Blob⟩) := by
  have e0 : J3 x = cat (cat [.i .i64 x.LSN] (cat [.i .i64 x.Kind] [.i .i64 x.Tx])) (cat [.i .i64 x.PrevTx] (cat [.i .i64 x.PrevPage] (cat [.i .i64 x.Ref] (cat (J9 x.Change) [.s x.Blob])))) := by unfold J3; simp only [cat, List.append_assoc]
  have e1 : J3 ⟨x.LSN, x.Kind, x.Tx, y, x.PrevPage, x.Ref, x.Change, x.Blob⟩ = cat (cat [.i .i64 x.LSN] (cat [.i .i64 x.Kind] [.i .i64 x.Tx])) (cat [.i .i64 y] (cat [.i .i64 x.PrevPage] (cat [.i .i64 x.Ref] (cat (J9 x.Change) [.s x.Blob])))) := by unfold J3; simp only [cat, List.append_assoc]
  rw [e0, e1]; exact J3P (by simp only [cat, List.length_append, List.length_cons, List.length_nil, J0b]) rfl
theorem Jce (x : Ja) : sub (J3 x) 4 1 = some [.i .i64 x.PrevPage] := by
  have e0 : J3 x = cat (cat [.i .i64 x.LSN] (cat [.i .i64 x.Kind] (cat [.i .i64 x.Tx] [.i .i64 x.PrevTx]))) (cat [.i .i64 x.PrevPage] (cat [.i .i64 x.Ref] (cat (J9 x.Change) [.s x.Blob]))) := by unfold J3; simp only [cat, List.append_assoc]
  rw [e0]; exact J3Q (by simp only [cat, List.length_append, List.length_cons, List.length_nil, J0b]) rfl
theorem Jci (x : Ja) (y : Int) : spl (J3 x) 4 [.i .i64 y] = some (J3 ⟨x.LSN, x.Kind, x.Tx, x.PrevTx, y, x.Ref, x.Change, x.Blob⟩) := by
  have e0 : J3 x = cat (cat [.i .i64 x.LSN] (cat [.i .i64 x.Kind] (cat [.i .i64 x.Tx] [.i .i64 x.PrevTx]))) (cat [.i .i64 x.PrevPage] (cat [.i .i64 x.Ref] (cat (J9 x.Change) [.s x.Blob]))) := by unfold J3; simp only [cat, List.append_assoc]
  have e1 : J3 ⟨x.LSN, x.Kind, x.Tx, x.PrevTx, y, x.Ref, x.Change, x.Blob⟩ = cat (cat [.i .i64 x.LSN] (cat [.i .i64 x.Kind] (cat [.i .i64 x.Tx] [.i .i64 x.PrevTx]))) (cat [.i .i64 y] (cat [.i .i64 x.Ref] (cat (J9 x.Change) [.s x.Blob]))) := by unfold J3; simp only [cat, List.append_assoc]
  rw [e0, e1]; exact J3P (by simp only [cat, List.length_append, List.length_cons, List.length_nil, J0b]) rfl
theorem JfM (x : Ja) : sub (J3 x) 5 1 = some [.i .i64 x.Ref] := by
  have e0 : J3 x = cat (cat [.i .i64 x.LSN] (cat [.i .i64 x.Kind] (cat [.i .i64 x.Tx] (cat [.i .i64 x.PrevTx] [.i .i64 x.PrevPage])))) (cat [.i .i64 x.Ref] (cat (J9 x.Change) [.s x.Blob])) := by unfold J3; simp only [cat, List.append_assoc]
  rw [e0]; exact J3Q (by simp only [cat, List.length_append, List.length_cons, List.length_nil, J0b]) rfl
theorem JfF (x : Ja) (y : Int) : spl (J3 x) 5 [.i .i64 y] = some (J3 ⟨x.LSN, x.Kind, x.Tx, x.PrevTx, x.PrevPage, y, x.Change, x.Blob⟩) := by
  have e0 : J3 x = cat (cat [.i .i64 x.LSN] (cat [.i .i64 x.Kind] (cat [.i .i64 x.Tx] (cat [.i .i64 x.PrevTx] [.i .i64 x.PrevPage])))) (cat [.i .i64 x.Ref] (cat (J9 x.Change) [.s x.Blob])) := by unfold J3; simp only [cat, List.append_assoc]
  have e1 : J3 ⟨x.LSN, x.Kind, x.Tx, x.PrevTx, x.PrevPage, y, x.Change, x.Blob⟩ = cat (cat [.i .i64 x.LSN] (cat [.i .i64 x.Kind] (cat [.i .i64 x.Tx] (cat [.i .i64 x.PrevTx] [.i .i64 x.PrevPage])))) (cat [.i .i64 y] (cat (J9 x.Change) [.s x.Blob])) := by unfold J3; simp only [cat, List.append_assoc]
  rw [e0, e1]; exact J3P (by simp only [cat, List.length_append, List.length_cons, List.length_nil, J0b]) rfl
theorem J6m (x : Ja) : sub (J3 x) 6 6 = some (J9 x.Change) := by
  have e0 : J3 x = cat (cat [.i .i64 x.LSN] (cat [.i .i64 x.Kind] (cat [.i .i64 x.Tx] (cat [.i .i64 x.PrevTx] (cat [.i .i64 x.PrevPage] [.i .i64 x.Ref]))))) (cat (J9 x.Change) [.s x.Blob]) := by unfold J3; simp only [cat, List.append_assoc]
  rw [e0]; exact J3Q (by simp only [cat, List.length_append, List.length_cons, List.length_nil, J0b]) (J0b _)
theorem Jd2 (x : Ja) (y : Jp) : spl (J3 x) 6 (J9 y) = some (J3 ⟨x.LSN, x.Kind, x.Tx, x.PrevTx, x.PrevPage, x.Ref, y, x.Blob⟩) := by
  have e0 : J3 x = cat (cat [.i .i64 x.LSN] (cat [.i .i64 x.Kind] (cat [.i .i64 x.Tx] (cat [.i .i64 x.PrevTx] (cat [.i .i64 x.PrevPage] [.i .i64 x.Ref]))))) (cat (J9 x.Change) [.s x.Blob]) := by unfold J3; simp only [cat, List.append_assoc]
  have e1 : J3 ⟨x.LSN, x.Kind, x.Tx, x.PrevTx, x.PrevPage, x.Ref, y, x.Blob⟩ = cat (cat [.i .i64 x.LSN] (cat [.i .i64 x.Kind] (cat [.i .i64 x.Tx] (cat [.i .i64 x.PrevTx] (cat [.i .i64 x.PrevPage] [.i .i64 x.Ref]))))) (cat (J9 y) [.s x.Blob]) := by unfold J3; simp only [cat, List.append_assoc]
  rw [e0, e1]; exact J3P (by simp only [cat, List.length_append, List.length_cons, List.length_nil, J0b]) ((J0b _).trans (J0b _).symm)
theorem JeH (x : Ja) : sub (J3 x) 12 1 = some [.s x.Blob] := by
  have e0 : J3 x = cat (cat [.i .i64 x.LSN] (cat [.i .i64 x.Kind] (cat [.i .i64 x.Tx] (cat [.i .i64 x.PrevTx] (cat [.i .i64 x.PrevPage] (cat [.i .i64 x.Ref] (J9 x.Change))))))) [.s x.Blob] := by unfold J3; simp only [cat, List.append_assoc]
  rw [e0]; exact J7z (by simp only [cat, List.length_append, List.length_cons, List.length_nil, J0b]) rfl
theorem Jej (x : Ja) (y : List UInt8) : spl (J3 x) 12 [.s y] = some (J3 ⟨x.LSN, x.Kind, x.Tx, x.PrevTx, x.PrevPage, x.Ref, x.Change, y⟩) := by
  have e0 : J3 x = cat (cat [.i .i64 x.LSN] (cat [.i .i64 x.Kind] (cat [.i .i64 x.Tx] (cat [.i .i64 x.PrevTx] (cat [.i .i64 x.PrevPage] (cat [.i .i64 x.Ref] (J9 x.Change))))))) [.s x.Blob] := by unfold J3; simp only [cat, List.append_assoc]
  have e1 : J3 ⟨x.LSN, x.Kind, x.Tx, x.PrevTx, x.PrevPage, x.Ref, x.Change, y⟩ = cat (cat [.i .i64 x.LSN] (cat [.i .i64 x.Kind] (cat [.i .i64 x.Tx] (cat [.i .i64 x.PrevTx] (cat [.i .i64 x.PrevPage] (cat [.i .i64 x.Ref] (J9 x.Change))))))) [.s y] := by unfold J3; simp only [cat, List.append_assoc]
  rw [e0, e1]; exact J7A (by simp only [cat, List.length_append, List.length_cons, List.length_nil, J0b]) rfl
theorem Jky : (default : Ja) = (⟨0, 0, 0, 0, 0, 0, (⟨0, 0, (⟨false, []⟩ : J5), (⟨false, []⟩ : J5)⟩ : Jp), []⟩ : Ja) := rfl
theorem Jjj (x : Ja) : sub (J3 x) 0 13 = some (J3 x) := J8z (J8c x)
theorem JiW (x y : Ja) : spl (J3 x) 0 (J3 y) = some (J3 y) := J8B ((J8c x).trans (J8c y).symm)
theorem Jz : (∀ x : Ja, (J3 x).length = 13) ∧
  (∀ x : Ja, sub (J3 x) 0 1 = some [.i .i64 x.LSN]) ∧
  (∀ (x : Ja) (y : Int), spl (J3 x) 0 [.i .i64 y] = some (J3 ⟨y, x.Kind, x.Tx, x.PrevTx, x.PrevPage, x.Ref, x.Change, x.Blob⟩)) ∧
  (∀ x : Ja, sub (J3 x) 1 1 = some [.i .i64 x.Kind]) ∧
  (∀ (x : Ja) (y : Int), spl (J3 x) 1 [.i .i64 y] = some (J3 ⟨x.LSN, y, x.Tx, x.PrevTx, x.PrevPage, x.Ref, x.Change, x.Blob⟩)) ∧
  (∀ x : Ja, sub (J3 x) 2 1 = some [.i .i64 x.Tx]) ∧
  (∀ (x : Ja) (y : Int), spl (J3 x) 2 [.i .i64 y] = some (J3 ⟨x.LSN, x.Kind, y, x.PrevTx, x.PrevPage, x.Ref, x.Change, x.Blob⟩)) ∧
  (∀ x : Ja, sub (J3 x) 3 1 = some [.i .i64 x.PrevTx]) ∧
  (∀ (x : Ja) (y : Int), spl (J3 x) 3 [.i .i64 y] = some (J3 ⟨x.LSN, x.Kind, x.Tx, y, x.PrevPage, x.Ref, x.Change, x.Blob⟩)) ∧
  (∀ x : Ja, sub (J3 x) 4 1 = some [.i .i64 x.PrevPage]) ∧
  (∀ (x : Ja) (y : Int), spl (J3 x) 4 [.i .i64 y] = some (J3 ⟨x.LSN, x.Kind, x.Tx, x.PrevTx, y, x.Ref, x.Change, x.Blob⟩)) ∧
  (∀ x : Ja, sub (J3 x) 5 1 = some [.i .i64 x.Ref]) ∧
  (∀ (x : Ja) (y : Int), spl (J3 x) 5 [.i .i64 y] = some (J3 ⟨x.LSN, x.Kind, x.Tx, x.PrevTx, x.PrevPage, y, x.Change, x.Blob⟩)) ∧
  (∀ x : Ja, sub (J3 x) 6 6 = some (J9 x.Change)) ∧
  (∀ (x : Ja) (y : Jp), spl (J3 x) 6 (J9 y) = some (J3 ⟨x.LSN, x.Kind, x.Tx, x.PrevTx, x.PrevPage, x.Ref, y, x.Blob⟩)) ∧
  (∀ x : Ja, sub (J3 x) 12 1 = some [.s x.Blob]) ∧
  (∀ (x : Ja) (y : List UInt8), spl (J3 x) 12 [.s y] = some (J3 ⟨x.LSN, x.Kind, x.Tx, x.PrevTx, x.PrevPage, x.Ref, x.Change, y⟩)) ∧
  ((default : Ja) = (⟨0, 0, 0, 0, 0, 0, (⟨0, 0, (⟨false, []⟩ : J5), (⟨false, []⟩ : J5)⟩ : Jp), []⟩ : Ja)) ∧
  (∀ x : Ja, sub (J3 x) 0 13 = some (J3 x)) ∧
  (∀ x y : Ja, spl (J3 x) 0 (J3 y) = some (J3 y)) :=
  ⟨@J8c, @JfR, @Jfw, @Jep, @Jev, @Jh5, @Jgy, @Jd8, @JdG, @Jce, @Jci, @JfM, @JfF, @J6m, @Jd2, @JeH, @Jej, Jky, @Jjj, @JiW⟩
theorem J8 : (∀ x : Ja, J3 x = (cat [.i .i64 x.LSN] (cat [.i .i64 x.Kind] (cat [.i .i64 x.Tx] (cat [.i .i64 x.PrevTx] (cat [.i .i64 x.PrevPage] (cat [.i .i64 x.Ref] (cat (J9 x.Change) [.s x.Blob])))))))) ∧ (default : Ja) = (⟨0, 0, 0, 0, 0, 0, (⟨0, 0, (⟨false, []⟩ : J5), (⟨false, []⟩ : J5)⟩ : Jp), []⟩ : Ja) := ⟨fun _ => rfl, rfl⟩
structure T_pagemenddraw_Codes where
  l_ : List Int
  at_ : Int
  deriving DecidableEq
instance : Inhabited T_pagemenddraw_Codes := ⟨⟨[], 0⟩⟩
def J0 (x : T_pagemenddraw_Codes) : List PV := (cat [.sl 1 (List.map (r_i .u8) x.l_)] [.i .i64 x.at_])
theorem J4e (x : T_pagemenddraw_Codes) : (J0 x).length = 2 := by
  simp only [cat, J0, List.length_append, List.length_cons, List.length_nil]
theorem JaK (x : T_pagemenddraw_Codes) : sub (J0 x) 0 1 = some [.sl 1 (List.map (r_i .u8) x.l_)] := by unfold J0; exact J6A rfl
theorem JaM (x : T_pagemenddraw_Codes) (y : List Int) : spl (J0 x) 0 [.sl 1 (List.map (r_i .u8) y)] = some (J0 ⟨y, x.at_⟩) := by unfold J0; exact J6p rfl
theorem J9X (x : T_pagemenddraw_Codes) : sub (J0 x) 1 1 = some [.i .i64 x.at_] := by
  have e0 : J0 x = cat [.sl 1 (List.map (r_i .u8) x.l_)] [.i .i64 x.at_] := by unfold J0; simp only [cat, List.append_assoc]
  rw [e0]; exact J7z (by simp only [cat, List.length_append, List.length_cons, List.length_nil]) rfl
theorem J9U (x : T_pagemenddraw_Codes) (y : Int) : spl (J0 x) 1 [.i .i64 y] = some (J0 ⟨x.l_, y⟩) := by
  have e0 : J0 x = cat [.sl 1 (List.map (r_i .u8) x.l_)] [.i .i64 x.at_] := by unfold J0; simp only [cat, List.append_assoc]
  have e1 : J0 ⟨x.l_, y⟩ = cat [.sl 1 (List.map (r_i .u8) x.l_)] [.i .i64 y] := by unfold J0; simp only [cat, List.append_assoc]
  rw [e0, e1]; exact J7A (by simp only [cat, List.length_append, List.length_cons, List.length_nil]) rfl
theorem JbR : (default : T_pagemenddraw_Codes) = (⟨[], 0⟩ : T_pagemenddraw_Codes) := rfl
theorem Jbr (x : T_pagemenddraw_Codes) : sub (J0 x) 0 2 = some (J0 x) := J8z (J4e x)
theorem Jbu (x y : T_pagemenddraw_Codes) : spl (J0 x) 0 (J0 y) = some (J0 y) := J8B ((J4e x).trans (J4e y).symm)
theorem Jg : (∀ x : T_pagemenddraw_Codes, (J0 x).length = 2) ∧
  (∀ x : T_pagemenddraw_Codes, sub (J0 x) 0 1 = some [.sl 1 (List.map (r_i .u8) x.l_)]) ∧
  (∀ (x : T_pagemenddraw_Codes) (y : List Int), spl (J0 x) 0 [.sl 1 (List.map (r_i .u8) y)] = some (J0 ⟨y, x.at_⟩)) ∧
  (∀ x : T_pagemenddraw_Codes, sub (J0 x) 1 1 = some [.i .i64 x.at_]) ∧
  (∀ (x : T_pagemenddraw_Codes) (y : Int), spl (J0 x) 1 [.i .i64 y] = some (J0 ⟨x.l_, y⟩)) ∧
  ((default : T_pagemenddraw_Codes) = (⟨[], 0⟩ : T_pagemenddraw_Codes)) ∧
  (∀ x : T_pagemenddraw_Codes, sub (J0 x) 0 2 = some (J0 x)) ∧
  (∀ x y : T_pagemenddraw_Codes, spl (J0 x) 0 (J0 y) = some (J0 y)) :=
  ⟨@J4e, @JaK, @JaM, @J9X, @J9U, JbR, @Jbr, @Jbu⟩
structure T_page_builder where
  s_ : List UInt8
  deriving DecidableEq
instance : Inhabited T_page_builder := ⟨⟨[]⟩⟩
def J0R (x : T_page_builder) : List PV := [.s x.s_]
theorem JK : (∀ x : T_page_builder, J0R x = [.s x.s_]) ∧ (default : T_page_builder) = (⟨[]⟩ : T_page_builder) := ⟨fun _ => rfl, rfl⟩
theorem J5I : (∀ v : Vector Int 16, (J07 (r_i .u32) v).length = 16) ∧ (∀ v : Vector Int 16, sub (J07 (r_i .u32) v) 0 16 = some (J07 (r_i .u32) v)) ∧ (∀ v y : Vector Int 16, spl (J07 (r_i .u32) v) 0 (J07 (r_i .u32) y) = some (J07 (r_i .u32) y)) :=
  ⟨fun v => J4F (J9y .u32) v, fun v => J8z (J4F (J9y .u32) v), fun v y => J8B ((J4F (J9y .u32) v).trans (J4F (J9y .u32) y).symm)⟩
theorem Jad (x y : J5) : J13 [.b, .s] (Jd x) (Jd y) = some (decide (x = y)) := by
  have h := (J9r (JtI x.Set y.Set) (JtZ x.Data y.Data))
  have e : decide (x.Set = y.Set ∧ (x.Data = y.Data)) = decide (x = y) := decide_eq_decide.2 (by cases x; cases y; simp only [J5.mk.injEq])
  exact h.trans (congrArg some e)
theorem Jkm (x y : T_api_Page) : J13 [(.i .i64), (.i .i64), .b, .s, .b, .s, .b, .s, .b, .s, .b, .s, .b, .s, .b, .s, .b, .s, .b, .s, .b, .s, .b, .s, .b, .s, .b, .s, .b, .s, .b, .s, .b, .s] (J4 x) (J4 y) = some (decide (x = y)) := by
  have h := (J9r (JkH .i64 x.ID y.ID) (J9r (JkH .i64 x.LSN y.LSN) (Jte (fun x y => (Jad x y)) x.Cells y.Cells)))
  have e : decide (x.ID = y.ID ∧ (x.LSN = y.LSN ∧ (x.Cells = y.Cells))) = decide (x = y) := decide_eq_decide.2 (by cases x; cases y; simp only [T_api_Page.mk.injEq])
  exact h.trans (congrArg some e)
theorem J5c (x y : T_api_Page) : J13 [(.i .i64), (.i .i64), .b, .s, .b, .s, .b, .s, .b, .s, .b, .s, .b, .s, .b, .s, .b, .s, .b, .s, .b, .s, .b, .s, .b, .s, .b, .s, .b, .s, .b, .s, .b, .s] (J4 x) (J4 y) = some (x == y) := Jkm x y
theorem Ji9 (x y : Jp) : J13 [(.i .i64), (.i .i64), .b, .s, .b, .s] (J9 x) (J9 y) = some (decide (x = y)) := by
  have h := (J9r (JkH .i64 x.Page y.Page) (J9r (JkH .i64 x.Slot y.Slot) (J9r (Jad x.Before y.Before) (Jad x.After y.After))))
  have e : decide (x.Page = y.Page ∧ (x.Slot = y.Slot ∧ (x.Before = y.Before ∧ (x.After = y.After)))) = decide (x = y) := decide_eq_decide.2 (by cases x; cases y; simp only [Jp.mk.injEq])
  exact h.trans (congrArg some e)
theorem J4Y (x y : Jp) : J13 [(.i .i64), (.i .i64), .b, .s, .b, .s] (J9 x) (J9 y) = some (x == y) := Ji9 x y
end Go.Am
end
section
namespace Go.Am
set_option maxRecDepth 8000
set_option maxHeartbeats 4000000
set_option linter.unusedSimpArgs false
set_option linter.unusedVariables false
abbrev J7J : FuncId := 4
abbrev J4f : FuncId := 5
abbrev J6u : FuncId := 19
abbrev J6S : FuncId := 24
abbrev J4D : FuncId := 28
abbrev J9Y : FuncId := 29
abbrev J1O : FuncId := 30
abbrev Jk : FuncId := 31
abbrev J7C : FuncId := 32
abbrev Jc5 : FuncId := 33
abbrev J8i : FuncId := 34
abbrev J0G : FuncId := 35
abbrev Ja0 : FuncId := 36
abbrev J3R : FuncId := 37
abbrev J3x : FuncId := 38
abbrev J2o : FuncId := 39
abbrev J4j : FuncId := 40
abbrev J3G : FuncId := 64
abbrev J57 : FuncId := 105
abbrev J21 : FuncId := 108
abbrev J5R : FuncId := 110
abbrev J6O : FuncId := 114
abbrev J8o : FuncId := 118
abbrev Jch : FuncId := 119
abbrev J3D : FuncId := 120
abbrev Ja5 : FuncId := 121
abbrev J6D : FuncId := 122
abbrev J9H : FuncId := 123
abbrev J2B : FuncId := 124
abbrev J2I : FuncId := 125
abbrev J4s : FuncId := 126
abbrev Ja2 : FuncId := 127
abbrev J5y : FuncId := 128
abbrev J6g : FuncId := 129
abbrev J1b : FuncId := 130
abbrev J28 : FuncId := 131
abbrev J4Q : FuncId := 132
abbrev J5o : FuncId := 133
abbrev J3g : FuncId := 134
abbrev J1a : FuncId := 135
abbrev J97 : FuncId := 170
abbrev J9S : FuncId := 171
abbrev J86 : FuncId := 178
abbrev J9m : FuncId := 179
abbrev Jc0 : FuncId := 180
abbrev J0u : FuncId := 181
abbrev JZ : FuncId := 182
abbrev J1y : FuncId := 183
abbrev J5b : FuncId := 184
abbrev J5l : FuncId := 185
abbrev J7v : FuncId := 186
abbrev J80 : FuncId := 187
abbrev J3d : FuncId := 191
abbrev J3j : FuncId := 192
abbrev J4v : FuncId := 193
abbrev J19 : FuncId := 194
abbrev J7M : FuncId := 216
abbrev J0I : FuncId := 218
abbrev J36 : FuncId := 219
abbrev J6I : FuncId := 220
abbrev JC : FuncId := 224
abbrev J0j : FuncId := 225
abbrev J0y : FuncId := 226
abbrev J1m : FuncId := 227
abbrev J1k : FuncId := 228
abbrev J4V : FuncId := 246
abbrev J2r : FuncId := 247
def Jb0 : Jl := .seq (.reg false [] [⟨.mv (.t 0), some 12, none⟩,
    ⟨.build (J0 default) [(0, 1, (.t 12))], some 13, none⟩,
    ⟨.box 2 (.t 13), some 14, none⟩,
    ⟨.mv (.t 14), some 4, none⟩])
  (.ret)
def J7G : Jl := .seq (.reg false [] [⟨.mv (.c (.p .np)), some 4, none⟩])
  (.seq (.seq (.reg false [] [⟨.mv (.t 0), some 5, none⟩,
    ⟨.len false (.t 5), some 6, none⟩,
    ⟨.mv (.t 1), some 7, none⟩,
    ⟨.bin .gtr .plain (.t 6) (.t 7), some 8, none⟩])
  (.keep [0, 1, 8] (.cond (.t 8)
  (.reg false [] [⟨.mv (.t 0), some 9, none⟩,
      ⟨.mv (.t 1), some 10, none⟩,
      ⟨.slice (.sl 1) (.t 9) none (some (.t 10)) none, some 11, none⟩,
      ⟨.mv (.t 11), some 0, none⟩])
  (.skip))))
  (.keep [0] Jb0))
def J6r : AFn := ⟨2, 15, J7G, [.tmp 4], false⟩
def J1r : Jl := .seq (.reg false [] [⟨.mv (.c (.p (.i .i64 0))), some 4, none⟩])
  (.seq (.seq (.reg true [] [⟨.mv (.t 0), some 6, none⟩,
    ⟨.nilchk (.t 6), some 7, none⟩,
    ⟨.faddr 1 (.t 7), some 8, none⟩,
    ⟨.load false 1 (.t 8), some 9, none⟩,
    ⟨.mv (.t 0), some 10, none⟩,
    ⟨.nilchk (.t 10), some 11, none⟩,
    ⟨.faddr 0 (.t 11), some 12, none⟩,
    ⟨.load false 1 (.t 12), some 13, none⟩,
    ⟨.len false (.t 13), some 14, none⟩,
    ⟨.bin .geq .plain (.t 9) (.t 14), some 15, none⟩,
    ⟨.mv (.t 15), some 16, none⟩,
    ⟨.mv (.t 1), some 17, some (16, false)⟩,
    ⟨.bin .lss .plain (.t 17) (.c (.p (.i .i64 1))), some 18, some (16, false)⟩,
    ⟨.pick (.t 16) (.c (.p (.b true))) (.t 18), some 19, none⟩])
  (.keep [0, 1, 19] (.cond (.t 19)
  (.seq (.reg false [] [⟨.mv (.c (.p (.i .i64 0))), some 4, none⟩])
    (.ret))
  (.skip))))
  (.seq (.reg true [] [⟨.mv (.t 0), some 20, none⟩,
    ⟨.nilchk (.t 20), some 21, none⟩,
    ⟨.faddr 0 (.t 21), some 22, none⟩,
    ⟨.load false 1 (.t 22), some 23, none⟩,
    ⟨.mv (.t 0), some 24, none⟩,
    ⟨.nilchk (.t 24), some 25, none⟩,
    ⟨.faddr 1 (.t 25), some 26, none⟩,
    ⟨.load false 1 (.t 26), some 27, none⟩,
    ⟨.iaddr 1 (.t 23) (.t 27), some 28, none⟩,
    ⟨.load false 1 (.t 28), some 29, none⟩,
    ⟨.conv (.int .i64) (.t 29), some 30, none⟩,
    ⟨.mv (.t 30), some 5, none⟩])
  (.keep [0, 1, 5] (.seq (.reg false [] [⟨.mv (.t 0), some 31, none⟩,
    ⟨.nilchk (.t 31), some 32, none⟩,
    ⟨.faddr 1 (.t 32), some 33, none⟩,
    ⟨.load false 1 (.t 33), some 34, none⟩,
    ⟨.bin .add .plain (.t 34) (.c (.p (.i .i64 1))), some 35, none⟩,
    ⟨.nilchk (.t 31), some 36, none⟩,
    ⟨.faddr 1 (.t 36), some 37, none⟩,
    ⟨.store 1 (.t 37) (.t 35), none, none⟩])
  (.keep [0, 1, 5] (.seq (.seq (.reg false [] [⟨.mv (.t 1), some 38, none⟩,
    ⟨.bin .gtr .plain (.t 38) (.c (.p (.i .i64 256))), some 39, none⟩])
  (.cond (.t 39)
  (.seq (.reg false [] [⟨.mv (.t 5), some 40, none⟩,
      ⟨.bin .mul .plain (.c (.p (.i .i64 256))) (.t 40), some 41, none⟩,
      ⟨.mv (.t 0), some 42, none⟩,
      ⟨.call Jk [(.t 42), (.c (.p (.i .i64 256)))] 0, some 43, none⟩,
      ⟨.bin .add .plain (.t 41) (.t 43), some 44, none⟩,
      ⟨.mv (.t 1), some 45, none⟩,
      ⟨.bin .rem .plain (.t 44) (.t 45), some 46, none⟩,
      ⟨.mv (.t 46), some 4, none⟩])
    (.ret))
  (.skip)))
  (.seq (.reg false [] [⟨.mv (.t 5), some 47, none⟩,
    ⟨.mv (.t 1), some 48, none⟩,
    ⟨.bin .rem .plain (.t 47) (.t 48), some 49, none⟩,
    ⟨.mv (.t 49), some 4, none⟩])
  (.ret))))))))
def J3H : AFn := ⟨2, 50, J1r, [.tmp 4], false⟩
def J2M : Jl := .seq (.reg false [] [⟨.newbox (JE default), some 2, none⟩,
    ⟨.mv (.c (.p (.i .i64 0))), some 3, none⟩])
  (.seq (.seq (.reg false [] [⟨.mv (.t 0), some 4, none⟩,
    ⟨.bin .lss .plain (.t 4) (.c (.p (.i .i64 1))), some 5, none⟩,
    ⟨.mv (.t 5), some 6, none⟩,
    ⟨.mv (.t 0), some 7, some (6, false)⟩,
    ⟨.bin .gtr .plain (.t 7) (.c (.p (.i .i64 64))), some 8, some (6, false)⟩,
    ⟨.pick (.t 6) (.c (.p (.b true))) (.t 8), some 9, none⟩])
  (.keep [0, 2, 9] (.cond (.t 9)
  (.seq (.reg false [] [⟨.build (JE default) [], some 10, none⟩,
      ⟨.store 1 (.t 2) (.t 10), none, none⟩,
      ⟨.mv (.c (.p (.i .i64 1))), some 3, none⟩])
    (.ret))
  (.skip))))
  (.seq (.reg false [] [⟨.mv (.t 0), some 11, none⟩,
    ⟨.mkslice false 3 24 (Jj default) (.t 11) (.t 11), some 12, none⟩,
    ⟨.build (JE default) [(0, 1, (.t 12))], some 13, none⟩,
    ⟨.store 1 (.t 2) (.t 13), none, none⟩,
    ⟨.mv (.c (.p (.i .i64 0))), some 3, none⟩])
  (.ret)))
def J4q : AFn := ⟨1, 14, J2M, [.cell 2 true 1, .tmp 3], false⟩
def J1K : Jl := .seq (.seq (.reg false [] [⟨.mv (.t 5), some 15, none⟩,
    ⟨.mv (.t 3), some 16, none⟩,
    ⟨.bin .lss .plain (.t 15) (.t 16), some 17, none⟩])
  (.keep [0, 3, 4, 5, 17] (.cond (.t 17)
  (.skip)
  (.exit 0))))
  (.seq (.block 1 (.reg false [] [⟨.mv (.t 4), some 20, none⟩,
    ⟨.mv (.t 0), some 21, none⟩,
    ⟨.call Jk [(.t 21), (.c (.p (.i .i64 3)))] 0, some 22, none⟩,
    ⟨.bin .add .plain (.c (.p (.i .i64 97))) (.t 22), some 23, none⟩,
    ⟨.conv (.int .u8) (.t 23), some 24, none⟩,
    ⟨.lits false 1 1 [(.i .u8 0)] [(0, (.t 24))], some 25, none⟩,
    ⟨.app 1 1 [(.i .u8 0)] (.t 20) (.t 25), some 26, none⟩,
    ⟨.mv (.t 26), some 4, none⟩]))
  (.reg false [] [⟨.mv (.t 5), some 18, none⟩,
    ⟨.bin .add .plain (.t 18) (.c (.p (.i .i64 1))), some 19, none⟩,
    ⟨.mv (.t 19), some 5, none⟩]))
def J2k : Jl := .seq (.reg false [] [⟨.mv (.t 4), some 27, none⟩,
    ⟨.conv .toStr (.t 27), some 28, none⟩,
    ⟨.mv (.t 28), some 2, none⟩])
  (.ret)
def J6W : Jl := .seq (.reg false [] [⟨.mv (.t 3), some 13, none⟩,
    ⟨.mkslice true 1 1 [(.i .u8 0)] (.c (.p (.i .i64 0))) (.t 13), some 14, none⟩,
    ⟨.mv (.t 14), some 4, none⟩])
  (.keep [0, 3, 4] (.seq (.seq (.reg false [] [⟨.mv (.c (.p (.i .i64 0))), some 5, none⟩])
  (.block 0 (.loop [0, 3, 4, 5] J1K)))
  (.keep [4] J2k)))
def J2E : Jl := .seq (.reg false [] [⟨.mv (.c (.p (.s []))), some 2, none⟩])
  (.seq (.reg false [] [⟨.mv (.t 0), some 6, none⟩,
    ⟨.call Jk [(.t 6), (.c (.p (.i .i64 5)))] 0, some 7, none⟩,
    ⟨.mv (.t 7), some 3, none⟩])
  (.keep [0, 3] (.seq (.seq (.reg false [] [⟨.mv (.t 0), some 8, none⟩,
    ⟨.call Jk [(.t 8), (.c (.p (.i .i64 6)))] 0, some 9, none⟩,
    ⟨.bin .eql .plain (.t 9) (.c (.p (.i .i64 0))), some 10, none⟩])
  (.keep [0, 3, 10] (.cond (.t 10)
  (.reg false [] [⟨.mv (.t 0), some 11, none⟩,
      ⟨.call Jk [(.t 11), (.c (.p (.i .i64 14)))] 0, some 12, none⟩,
      ⟨.mv (.t 12), some 3, none⟩])
  (.skip))))
  (.keep [0, 3] J6W))))
def J0U : AFn := ⟨1, 29, J2E, [.tmp 2], false⟩
def J8r : Jl := .seq (.reg false [] [⟨.mv (.c (.p (.i .i64 0))), some 2, none⟩])
  (.seq (.seq (.reg false [] [⟨.mv (.t 0), some 3, none⟩,
    ⟨.call Jk [(.t 3), (.c (.p (.i .i64 10)))] 0, some 4, none⟩])
  (.block 0 (.seq (.reg false [] [⟨.bin .eql .plain (.t 4) (.c (.p (.i .i64 0))), some 6, none⟩,
    ⟨.mv (.t 6), some 5, none⟩])
  (.cond (.t 5)
  (.seq (.reg false [] [⟨.mv (.t 0), some 7, none⟩,
      ⟨.call Jk [(.t 7), (.c (.p (.i .i64 3)))] 0, some 8, none⟩,
      ⟨.bin .sub .plain (.c (.p (.i .i64 (-1)))) (.t 8), some 9, none⟩,
      ⟨.mv (.t 9), some 2, none⟩])
    (.ret))
  (.seq (.reg false [] [⟨.bin .eql .plain (.t 4) (.c (.p (.i .i64 1))), some 11, none⟩,
      ⟨.mv (.t 11), some 10, none⟩])
    (.cond (.t 10)
    (.seq (.reg false [] [⟨.lits false 1 16 [(.i .i64 0)] [(0, (.c (.p (.i .i64 9223372036854775807)))), (1, (.c (.p (.i .i64 (-9223372036854775808))))), (2, (.c (.p (.i .i64 1099511627776)))), (3, (.c (.p (.i .i64 1099511627777)))), (4, (.c (.p (.i .i64 1073741824)))), (5, (.c (.p (.i .i64 1073741825)))), (6, (.c (.p (.i .i64 64)))), (7, (.c (.p (.i .i64 63)))), (8, (.c (.p (.i .i64 16)))), (9, (.c (.p (.i .i64 15)))), (10, (.c (.p (.i .i64 256)))), (11, (.c (.p (.i .i64 255)))), (12, (.c (.p (.i .i64 4294967296)))), (13, (.c (.p (.i .i64 65536)))), (14, (.c (.p (.i .i64 256)))), (15, (.c (.p (.i .i64 255))))], some 12, none⟩,
        ⟨.mv (.t 0), some 13, none⟩,
        ⟨.call Jk [(.t 13), (.c (.p (.i .i64 16)))] 0, some 14, none⟩,
        ⟨.iaddr 1 (.t 12) (.t 14), some 15, none⟩,
        ⟨.load false 1 (.t 15), some 16, none⟩,
        ⟨.mv (.t 16), some 2, none⟩])
      (.ret))
    (.skip)))))))
  (.seq (.reg false [] [⟨.mv (.t 0), some 17, none⟩,
    ⟨.call Jk [(.t 17), (.c (.p (.i .i64 20)))] 0, some 18, none⟩,
    ⟨.mv (.t 18), some 2, none⟩])
  (.ret)))
def Jbk : AFn := ⟨1, 19, J8r, [.tmp 2], false⟩
def JjW : Jl := .seq (.seq (.reg false [] [⟨.mv (.t 7), some 15, none⟩,
    ⟨.mv (.t 2), some 16, none⟩,
    ⟨.bin .lss .plain (.t 15) (.t 16), some 17, none⟩])
  (.keep [0, 1, 2, 7, 17] (.cond (.t 17)
  (.skip)
  (.exit 0))))
  (.seq (.block 1 (.reg false [] [⟨.mv (.t 0), some 20, none⟩,
    ⟨.mv (.t 1), some 21, none⟩,
    ⟨.conv (.int .u64) (.t 21), some 22, none⟩,
    ⟨.mv (.t 7), some 23, none⟩,
    ⟨.bin .mul .plain (.c (.p (.i .i64 8))) (.t 23), some 24, none⟩,
    ⟨.conv (.int .u64) (.t 24), some 25, none⟩,
    ⟨.bin .shr .plain (.t 22) (.t 25), some 26, none⟩,
    ⟨.conv (.int .u8) (.t 26), some 27, none⟩,
    ⟨.lits false 1 1 [(.i .u8 0)] [(0, (.t 27))], some 28, none⟩,
    ⟨.conv .toStr (.t 28), some 29, none⟩,
    ⟨.bin .add .plain (.t 20) (.t 29), some 30, none⟩,
    ⟨.mv (.t 30), some 0, none⟩]))
  (.reg false [] [⟨.mv (.t 7), some 18, none⟩,
    ⟨.bin .add .plain (.t 18) (.c (.p (.i .i64 1))), some 19, none⟩,
    ⟨.mv (.t 19), some 7, none⟩]))
def JkB : Jl := .seq (.reg false [] [⟨.mv (.t 0), some 31, none⟩,
    ⟨.mv (.t 31), some 6, none⟩])
  (.ret)
def Jc2 : Jl := .seq (.reg false [] [⟨.mv (.c (.p (.s []))), some 6, none⟩])
  (.seq (.seq (.reg false [] [⟨.mv (.t 2), some 8, none⟩,
    ⟨.bin .lss .plain (.t 8) (.c (.p (.i .i64 1))), some 9, none⟩,
    ⟨.mv (.t 9), some 10, none⟩,
    ⟨.mv (.t 2), some 11, some (10, false)⟩,
    ⟨.bin .gtr .plain (.t 11) (.c (.p (.i .i64 8))), some 12, some (10, false)⟩,
    ⟨.pick (.t 10) (.c (.p (.b true))) (.t 12), some 13, none⟩])
  (.keep [0, 1, 2, 13] (.cond (.t 13)
  (.seq (.reg false [] [⟨.mv (.t 0), some 14, none⟩,
      ⟨.mv (.t 14), some 6, none⟩])
    (.ret))
  (.skip))))
  (.seq (.seq (.reg false [] [⟨.mv (.c (.p (.i .i64 0))), some 7, none⟩])
  (.block 0 (.loop [0, 1, 2, 7] JjW)))
  (.keep [0] JkB)))
def Jg8 : AFn := ⟨3, 32, Jc2, [.tmp 6], false⟩
def J3T : Jl := .seq (.reg false [] [⟨.bin .lss .plain (.t 35) (.t 34), some 36, none⟩])
  (.seq (.cond (.t 36)
  (.skip)
  (.exit 1))
  (.seq (.block 2 (.seq (.reg false [] [⟨.mv (.t 35), some 37, none⟩,
    ⟨.mv (.t 37), some 9, none⟩])
  (.reg false [] [⟨.mv (.t 8), some 38, none⟩,
    ⟨.mv (.t 0), some 39, none⟩,
    ⟨.mv (.t 1), some 40, none⟩,
    ⟨.mv (.t 9), some 41, none⟩,
    ⟨.bin .add .plain (.t 40) (.t 41), some 42, none⟩,
    ⟨.sidx (.t 39) (.t 42), some 43, none⟩,
    ⟨.conv (.int .u64) (.t 43), some 44, none⟩,
    ⟨.mv (.t 9), some 45, none⟩,
    ⟨.bin .mul .plain (.c (.p (.i .i64 8))) (.t 45), some 46, none⟩,
    ⟨.bin .shl .plain (.t 44) (.t 46), some 47, none⟩,
    ⟨.bin .or .plain (.t 38) (.t 47), some 48, none⟩,
    ⟨.mv (.t 48), some 8, none⟩])))
  (.reg false [] [⟨.bin .add .plain (.t 35) (.c (.p (.i .i64 1))), some 49, none⟩,
    ⟨.mv (.t 49), some 35, none⟩])))
def J4x : Jl := .seq (.reg false [] [⟨.mv (.t 8), some 50, none⟩,
    ⟨.conv (.int .i64) (.t 50), some 51, none⟩,
    ⟨.mv (.t 51), some 6, none⟩,
    ⟨.mv (.c (.p (.i .i64 0))), some 7, none⟩])
  (.ret)
def J20 : Jl := .seq (.reg false [] [⟨.mv (.c (.p (.i .i64 0))), some 6, none⟩,
    ⟨.mv (.c (.p (.i .i64 0))), some 7, none⟩])
  (.seq (.block 0 (.seq (.reg false [] [⟨.mv (.t 2), some 11, none⟩,
    ⟨.bin .lss .plain (.t 11) (.c (.p (.i .i64 1))), some 12, none⟩,
    ⟨.mv (.t 12), some 13, none⟩,
    ⟨.mv (.t 2), some 14, some (13, false)⟩,
    ⟨.bin .gtr .plain (.t 14) (.c (.p (.i .i64 8))), some 15, some (13, false)⟩,
    ⟨.pick (.t 13) (.c (.p (.b true))) (.t 15), some 16, none⟩,
    ⟨.mv (.t 16), some 17, none⟩,
    ⟨.mv (.t 1), some 18, some (17, false)⟩,
    ⟨.bin .lss .plain (.t 18) (.c (.p (.i .i64 0))), some 19, some (17, false)⟩,
    ⟨.pick (.t 17) (.c (.p (.b true))) (.t 19), some 20, none⟩,
    ⟨.mv (.t 20), some 10, none⟩])
  (.keep [0, 1, 2, 10] (.cond (.t 10)
  (.seq (.reg false [] [⟨.mv (.c (.p (.i .i64 0))), some 6, none⟩,
      ⟨.mv (.c (.p (.i .i64 1))), some 7, none⟩])
    (.ret))
  (.seq (.reg false [] [⟨.mv (.t 1), some 22, none⟩,
      ⟨.mv (.t 0), some 23, none⟩,
      ⟨.len true (.t 23), some 24, none⟩,
      ⟨.bin .gtr .plain (.t 22) (.t 24), some 25, none⟩,
      ⟨.mv (.t 25), some 26, none⟩,
      ⟨.mv (.t 0), some 27, some (26, false)⟩,
      ⟨.len true (.t 27), some 28, some (26, false)⟩,
      ⟨.mv (.t 1), some 29, some (26, false)⟩,
      ⟨.bin .sub .plain (.t 28) (.t 29), some 30, some (26, false)⟩,
      ⟨.mv (.t 2), some 31, some (26, false)⟩,
      ⟨.bin .lss .plain (.t 30) (.t 31), some 32, some (26, false)⟩,
      ⟨.pick (.t 26) (.c (.p (.b true))) (.t 32), some 33, none⟩,
      ⟨.mv (.t 33), some 21, none⟩])
    (.keep [0, 1, 2, 21] (.cond (.t 21)
    (.seq (.reg false [] [⟨.mv (.c (.p (.i .i64 0))), some 6, none⟩,
        ⟨.mv (.c (.p (.i .i64 5))), some 7, none⟩])
      (.ret))
    (.skip))))))))
  (.seq (.reg false [] [⟨.mv (.c (.p (.i .u64 0))), some 8, none⟩])
  (.seq (.seq (.reg false [] [⟨.mv (.t 2), some 34, none⟩,
    ⟨.mv (.c (.p (.i .i64 0))), some 35, none⟩])
  (.block 1 (.loop [0, 1, 8, 34, 35] J3T)))
  (.keep [8] J4x))))
def J30 : AFn := ⟨3, 52, J20, [.tmp 6, .tmp 7], false⟩
def Jca : Jl := .seq (.reg false [] [⟨.newbox (JE default), some 2, none⟩,
    ⟨.mv (.c (.p (.i .i64 0))), some 3, none⟩])
  (.seq (.seq (.reg false [] [⟨.mv (.t 0), some 4, none⟩,
    ⟨.bin .lss .plain (.t 4) (.c (.p (.i .i64 1))), some 5, none⟩,
    ⟨.mv (.t 5), some 6, none⟩,
    ⟨.mv (.t 0), some 7, some (6, false)⟩,
    ⟨.bin .gtr .plain (.t 7) (.c (.p (.i .i64 64))), some 8, some (6, false)⟩,
    ⟨.pick (.t 6) (.c (.p (.b true))) (.t 8), some 9, none⟩])
  (.keep [0, 2, 9] (.cond (.t 9)
  (.seq (.reg false [] [⟨.build (JE default) [], some 10, none⟩,
      ⟨.store 1 (.t 2) (.t 10), none, none⟩,
      ⟨.mv (.c (.p (.i .i64 1))), some 3, none⟩])
    (.ret))
  (.skip))))
  (.seq (.reg false [] [⟨.mv (.t 0), some 11, none⟩,
    ⟨.mkslice true 3 24 (Jj default) (.t 11) (.t 11), some 12, none⟩,
    ⟨.build (JE default) [(0, 1, (.t 12))], some 13, none⟩,
    ⟨.store 1 (.t 2) (.t 13), none, none⟩,
    ⟨.mv (.c (.p (.i .i64 0))), some 3, none⟩])
  (.ret)))
def Jg6 : AFn := ⟨1, 14, Jca, [.cell 2 true 1, .tmp 3], true⟩
def J2C : Jl := .seq (.reg false [] [⟨.newbox (Jd default), some 2, none⟩])
  (.seq (.seq (.reg false [] [⟨.mv (.t 0), some 4, none⟩,
    ⟨.call Jk [(.t 4), (.c (.p (.i .i64 3)))] 0, some 5, none⟩,
    ⟨.bin .eql .plain (.t 5) (.c (.p (.i .i64 0))), some 6, none⟩])
  (.keep [0, 2, 6] (.cond (.t 6)
  (.seq (.reg false [] [⟨.build (Jd default) [], some 7, none⟩,
      ⟨.store 2 (.t 2) (.t 7), none, none⟩])
    (.ret))
  (.skip))))
  (.seq (.reg false [] [⟨.mv (.t 0), some 8, none⟩,
    ⟨.call J3G [(.t 8)] 0, some 9, none⟩,
    ⟨.mv (.t 9), some 3, none⟩])
  (.keep [2, 3] (.seq (.reg false [] [⟨.mv (.t 3), some 10, none⟩,
    ⟨.mv (.t 3), some 11, none⟩,
    ⟨.len true (.t 11), some 12, none⟩,
    ⟨.mm false (.t 12) (.c (.p (.i .i64 12))), some 13, none⟩,
    ⟨.slice .str (.t 10) none (some (.t 13)) none, some 14, none⟩,
    ⟨.build (Jd default) [(0, 1, (.c (.p (.b true)))), (1, 1, (.t 14))], some 15, none⟩,
    ⟨.store 2 (.t 2) (.t 15), none, none⟩])
  (.ret)))))
def J3J : AFn := ⟨1, 16, J2C, [.cell 2 true 2], false⟩
def J9V : Jl := .seq (.reg false [] [⟨.mv (.c (.p (.s []))), some 2, none⟩])
  (.seq (.reg false [] [⟨.mv (.t 0), some 3, none⟩,
    ⟨.mkslice false 1 1 [(.i .u8 0)] (.t 3) (.t 3), some 4, none⟩,
    ⟨.conv .toStr (.t 4), some 5, none⟩,
    ⟨.mv (.t 5), some 2, none⟩])
  (.ret))
def JdR : AFn := ⟨1, 6, J9V, [.tmp 2], false⟩
def JkF : Jl := .reg false [] [⟨.mv (.t 5), some 20, none⟩,
    ⟨.bin .add .plain (.t 20) (.c (.p (.i .i64 1))), some 21, none⟩,
    ⟨.mv (.t 21), some 5, none⟩]
def Jk0 : Jl := .seq (.seq (.reg false [] [⟨.mv (.t 5), some 18, none⟩,
    ⟨.bin .lss .plain (.t 18) (.c (.p (.i .i64 8))), some 19, none⟩])
  (.cond (.t 19)
  (.skip)
  (.exit 2)))
  (.seq (.block 3 (.seq (.reg false [] [⟨.mv (.t 3), some 22, none⟩,
    ⟨.bin .and .plain (.t 22) (.c (.p (.i .u32 1))), some 23, none⟩,
    ⟨.bin .eql .plain (.t 23) (.c (.p (.i .u32 1))), some 24, none⟩])
  (.keep [0, 3, 4, 5, 24] (.cond (.t 24)
  (.reg false [] [⟨.mv (.t 3), some 25, none⟩,
      ⟨.bin .shr .plain (.t 25) (.c (.p (.i .u64 1))), some 26, none⟩,
      ⟨.bin .xor .plain (.t 26) (.c (.p (.i .u32 2197175160))), some 27, none⟩,
      ⟨.mv (.t 27), some 3, none⟩])
  (.reg false [] [⟨.mv (.t 3), some 28, none⟩,
      ⟨.bin .shr .plain (.t 28) (.c (.p (.i .u64 1))), some 29, none⟩,
      ⟨.mv (.t 29), some 3, none⟩])))))
  (.keep [0, 3, 4, 5] JkF))
def Jkb : Jl := .reg false [] [⟨.mv (.t 4), some 10, none⟩,
    ⟨.bin .add .plain (.t 10) (.c (.p (.i .i64 1))), some 11, none⟩,
    ⟨.mv (.t 11), some 4, none⟩]
def JjZ : Jl := .seq (.seq (.reg false [] [⟨.mv (.t 4), some 6, none⟩,
    ⟨.mv (.t 0), some 7, none⟩,
    ⟨.len true (.t 7), some 8, none⟩,
    ⟨.bin .lss .plain (.t 6) (.t 8), some 9, none⟩])
  (.keep [0, 3, 4, 9] (.cond (.t 9)
  (.skip)
  (.exit 0))))
  (.seq (.block 1 (.seq (.reg false [] [⟨.mv (.t 3), some 12, none⟩,
    ⟨.mv (.t 0), some 13, none⟩,
    ⟨.mv (.t 4), some 14, none⟩,
    ⟨.sidx (.t 13) (.t 14), some 15, none⟩,
    ⟨.conv (.int .u32) (.t 15), some 16, none⟩,
    ⟨.bin .xor .plain (.t 12) (.t 16), some 17, none⟩,
    ⟨.mv (.t 17), some 3, none⟩])
  (.keep [0, 3, 4] (.seq (.reg false [] [⟨.mv (.c (.p (.i .i64 0))), some 5, none⟩])
  (.block 2 (.loop [0, 3, 4, 5] Jk0))))))
  (.keep [0, 3, 4] Jkb))
def Jkx : Jl := .seq (.reg false [] [⟨.mv (.t 3), some 30, none⟩,
    ⟨.un .xor (.t 30), some 31, none⟩,
    ⟨.mv (.t 31), some 2, none⟩])
  (.ret)
def JbU : Jl := .seq (.reg false [] [⟨.mv (.c (.p (.i .u32 0))), some 2, none⟩])
  (.seq (.reg false [] [⟨.mv (.c (.p (.i .u32 4294967295))), some 3, none⟩])
  (.seq (.seq (.reg false [] [⟨.mv (.c (.p (.i .i64 0))), some 4, none⟩])
  (.block 0 (.loop [0, 3, 4] JjZ)))
  (.keep [3] Jkx)))
def Jgp : AFn := ⟨1, 32, JbU, [.tmp 2], false⟩
def J3E : Jl := .seq (.reg false [] [⟨.box 1 (.t 0), some 2, none⟩,
    ⟨.mv (.c (.p (.b false))), some 4, none⟩])
  (.seq (.reg false [] [⟨.mv (.t 1), some 5, none⟩,
    ⟨.bin .geq .plain (.t 5) (.c (.p (.i .i64 0))), some 6, none⟩,
    ⟨.mv (.t 6), some 7, none⟩,
    ⟨.mv (.t 1), some 8, some (7, true)⟩,
    ⟨.faddr 0 (.t 2), some 9, some (7, true)⟩,
    ⟨.load false 1 (.t 9), some 10, some (7, true)⟩,
    ⟨.len false (.t 10), some 11, some (7, true)⟩,
    ⟨.bin .lss .plain (.t 8) (.t 11), some 12, some (7, true)⟩,
    ⟨.pick (.t 7) (.t 12) (.c (.p (.b false))), some 13, none⟩,
    ⟨.mv (.t 13), some 4, none⟩])
  (.ret))
def J3L : AFn := ⟨2, 14, J3E, [.tmp 4], false⟩
def J0J : Jl := .seq (.reg false [] [⟨.bin .lss .plain (.t 7) (.c (.p (.i .i64 16))), some 8, none⟩])
  (.seq (.cond (.t 8)
  (.skip)
  (.exit 0))
  (.seq (.block 1 (.seq (.reg false [] [⟨.aidx true 16 2 (.t 6) (.t 7), some 9, none⟩,
    ⟨.newbox (Jd default), some 4, none⟩,
    ⟨.store 2 (.t 4) (.t 9), none, none⟩])
  (.keep [1, 4, 6, 7] (.seq (.reg false [] [⟨.faddr 1 (.t 4), some 10, none⟩,
    ⟨.load false 1 (.t 10), some 11, none⟩,
    ⟨.len true (.t 11), some 12, none⟩,
    ⟨.bin .gtr .plain (.t 12) (.c (.p (.i .i64 12))), some 13, none⟩,
    ⟨.mv (.t 13), some 14, none⟩,
    ⟨.faddr 0 (.t 4), some 15, some (14, false)⟩,
    ⟨.load false 1 (.t 15), some 16, some (14, false)⟩,
    ⟨.un .not (.t 16), some 17, some (14, false)⟩,
    ⟨.mv (.t 17), some 18, some (14, false)⟩,
    ⟨.faddr 1 (.t 4), some 19, some (18, true)⟩,
    ⟨.load false 1 (.t 19), some 20, some (18, true)⟩,
    ⟨.bin .neq .plain (.t 20) (.c (.p (.s []))), some 21, some (18, true)⟩,
    ⟨.pick (.t 18) (.t 21) (.c (.p (.b false))), some 22, some (14, false)⟩,
    ⟨.pick (.t 14) (.c (.p (.b true))) (.t 22), some 23, none⟩,
    ⟨.mv (.t 23), some 24, none⟩,
    ⟨.faddr 0 (.t 4), some 25, some (24, false)⟩,
    ⟨.load false 1 (.t 25), some 26, some (24, false)⟩,
    ⟨.mv (.t 26), some 27, some (24, false)⟩,
    ⟨.faddr 1 (.t 1), some 28, some (27, true)⟩,
    ⟨.load false 1 (.t 28), some 29, some (27, true)⟩,
    ⟨.bin .eql .plain (.t 29) (.c (.p (.i .i64 0))), some 30, some (27, true)⟩,
    ⟨.pick (.t 27) (.t 30) (.c (.p (.b false))), some 31, some (24, false)⟩,
    ⟨.pick (.t 24) (.c (.p (.b true))) (.t 31), some 32, none⟩])
  (.keep [1, 6, 7, 32] (.cond (.t 32)
  (.seq (.reg false [] [⟨.mv (.c (.p (.b false))), some 2, none⟩])
    (.ret))
  (.skip)))))))
  (.reg false [] [⟨.bin .add .plain (.t 7) (.c (.p (.i .i64 1))), some 33, none⟩,
    ⟨.mv (.t 33), some 7, none⟩])))
def J49 : Jl := .seq (.reg false [] [⟨.mv (.c (.p (.b true))), some 2, none⟩])
  (.ret)
def J7m : Jl := .seq (.reg false [] [⟨.box 34 (.t 0), some 1, none⟩,
    ⟨.mv (.c (.p (.b false))), some 2, none⟩])
  (.seq (.tidy [2] (.seq (.reg false [] [⟨.faddr 2 (.t 1), some 5, none⟩,
    ⟨.load true 32 (.t 5), some 6, none⟩,
    ⟨.mv (.c (.p (.i .i64 0))), some 7, none⟩])
  (.keep [1, 6, 7] (.block 0 (.loop [1, 6, 7] J0J)))))
  (.keep [] J49))
def J2p : AFn := ⟨1, 34, J7m, [.tmp 2], false⟩
def J9b : Jl := .seq (.reg false [] [⟨.box 34 (.t 0), some 1, none⟩,
    ⟨.mv (.c (.p (.b false))), some 2, none⟩])
  (.seq (.reg false [] [⟨.faddr 0 (.t 1), some 3, none⟩,
    ⟨.load false 1 (.t 3), some 4, none⟩,
    ⟨.bin .geq .plain (.t 4) (.c (.p (.i .i64 0))), some 5, none⟩,
    ⟨.mv (.t 5), some 6, none⟩,
    ⟨.faddr 0 (.t 1), some 7, some (6, true)⟩,
    ⟨.load false 1 (.t 7), some 8, some (6, true)⟩,
    ⟨.bin .lss .plain (.t 8) (.c (.p (.i .i64 64))), some 9, some (6, true)⟩,
    ⟨.pick (.t 6) (.t 9) (.c (.p (.b false))), some 10, none⟩,
    ⟨.mv (.t 10), some 11, none⟩,
    ⟨.faddr 1 (.t 1), some 12, some (11, true)⟩,
    ⟨.load false 1 (.t 12), some 13, some (11, true)⟩,
    ⟨.bin .geq .plain (.t 13) (.c (.p (.i .i64 0))), some 14, some (11, true)⟩,
    ⟨.pick (.t 11) (.t 14) (.c (.p (.b false))), some 15, none⟩,
    ⟨.mv (.t 15), some 16, none⟩,
    ⟨.faddr 1 (.t 1), some 17, some (16, true)⟩,
    ⟨.load false 1 (.t 17), some 18, some (16, true)⟩,
    ⟨.bin .leq .plain (.t 18) (.c (.p (.i .i64 1099511627776))), some 19, some (16, true)⟩,
    ⟨.pick (.t 16) (.t 19) (.c (.p (.b false))), some 20, none⟩,
    ⟨.mv (.t 20), some 2, none⟩])
  (.ret))
def JbO : AFn := ⟨1, 21, J9b, [.tmp 2], false⟩
def Jk2 : Jl := .seq (.seq (.reg false [] [⟨.mv (.t 9), some 32, none⟩,
    ⟨.mv (.t 2), some 33, none⟩,
    ⟨.bin .lss .plain (.t 32) (.t 33), some 34, none⟩])
  (.keep [0, 1, 2, 8, 9, 34] (.cond (.t 34)
  (.skip)
  (.exit 0))))
  (.seq (.block 1 (.reg false [] [⟨.mv (.t 8), some 37, none⟩,
    ⟨.mv (.t 0), some 38, none⟩,
    ⟨.mv (.t 1), some 39, none⟩,
    ⟨.mv (.t 9), some 40, none⟩,
    ⟨.bin .add .plain (.t 39) (.t 40), some 41, none⟩,
    ⟨.sidx (.t 38) (.t 41), some 42, none⟩,
    ⟨.conv (.int .u64) (.t 42), some 43, none⟩,
    ⟨.mv (.t 9), some 44, none⟩,
    ⟨.bin .mul .plain (.c (.p (.i .i64 8))) (.t 44), some 45, none⟩,
    ⟨.conv (.int .u64) (.t 45), some 46, none⟩,
    ⟨.bin .shl .plain (.t 43) (.t 46), some 47, none⟩,
    ⟨.bin .or .plain (.t 37) (.t 47), some 48, none⟩,
    ⟨.mv (.t 48), some 8, none⟩]))
  (.reg false [] [⟨.mv (.t 9), some 35, none⟩,
    ⟨.bin .add .plain (.t 35) (.c (.p (.i .i64 1))), some 36, none⟩,
    ⟨.mv (.t 36), some 9, none⟩]))
def Jkw : Jl := .seq (.reg false [] [⟨.mv (.t 8), some 49, none⟩,
    ⟨.conv (.int .i64) (.t 49), some 50, none⟩,
    ⟨.mv (.t 50), some 6, none⟩,
    ⟨.mv (.c (.p (.i .i64 0))), some 7, none⟩])
  (.ret)
def Jc3 : Jl := .seq (.reg false [] [⟨.mv (.c (.p (.i .i64 0))), some 6, none⟩,
    ⟨.mv (.c (.p (.i .i64 0))), some 7, none⟩])
  (.seq (.seq (.reg false [] [⟨.mv (.t 2), some 10, none⟩,
    ⟨.bin .lss .plain (.t 10) (.c (.p (.i .i64 1))), some 11, none⟩,
    ⟨.mv (.t 11), some 12, none⟩,
    ⟨.mv (.t 2), some 13, some (12, false)⟩,
    ⟨.bin .gtr .plain (.t 13) (.c (.p (.i .i64 8))), some 14, some (12, false)⟩,
    ⟨.pick (.t 12) (.c (.p (.b true))) (.t 14), some 15, none⟩,
    ⟨.mv (.t 15), some 16, none⟩,
    ⟨.mv (.t 1), some 17, some (16, false)⟩,
    ⟨.bin .lss .plain (.t 17) (.c (.p (.i .i64 0))), some 18, some (16, false)⟩,
    ⟨.pick (.t 16) (.c (.p (.b true))) (.t 18), some 19, none⟩])
  (.keep [0, 1, 2, 19] (.cond (.t 19)
  (.seq (.reg false [] [⟨.mv (.c (.p (.i .i64 0))), some 6, none⟩,
      ⟨.mv (.c (.p (.i .i64 1))), some 7, none⟩])
    (.ret))
  (.skip))))
  (.seq (.seq (.reg false [] [⟨.mv (.t 1), some 20, none⟩,
    ⟨.mv (.t 0), some 21, none⟩,
    ⟨.len true (.t 21), some 22, none⟩,
    ⟨.bin .gtr .plain (.t 20) (.t 22), some 23, none⟩,
    ⟨.mv (.t 23), some 24, none⟩,
    ⟨.mv (.t 0), some 25, some (24, false)⟩,
    ⟨.len true (.t 25), some 26, some (24, false)⟩,
    ⟨.mv (.t 1), some 27, some (24, false)⟩,
    ⟨.bin .sub .plain (.t 26) (.t 27), some 28, some (24, false)⟩,
    ⟨.mv (.t 2), some 29, some (24, false)⟩,
    ⟨.bin .lss .plain (.t 28) (.t 29), some 30, some (24, false)⟩,
    ⟨.pick (.t 24) (.c (.p (.b true))) (.t 30), some 31, none⟩])
  (.keep [0, 1, 2, 31] (.cond (.t 31)
  (.seq (.reg false [] [⟨.mv (.c (.p (.i .i64 0))), some 6, none⟩,
      ⟨.mv (.c (.p (.i .i64 5))), some 7, none⟩])
    (.ret))
  (.skip))))
  (.seq (.reg false [] [⟨.mv (.c (.p (.i .u64 0))), some 8, none⟩])
  (.seq (.seq (.reg false [] [⟨.mv (.c (.p (.i .i64 0))), some 9, none⟩])
  (.block 0 (.loop [0, 1, 2, 8, 9] Jk2)))
  (.keep [8] Jkw)))))
def Jgb : AFn := ⟨3, 51, Jc3, [.tmp 6, .tmp 7], false⟩
def Jc7 : Jl := .seq (.reg false [] [⟨.newbox (J4 default), some 2, none⟩])
  (.seq (.reg false [] [⟨.mv (.t 0), some 3, none⟩,
    ⟨.build (J4 default) [(0, 1, (.t 3))], some 4, none⟩,
    ⟨.store 34 (.t 2) (.t 4), none, none⟩])
  (.ret))
def Jgc : AFn := ⟨1, 5, Jc7, [.cell 2 true 34], false⟩
def J2v : Jl := .seq (.reg false [] [⟨.mv (.c (.p (.b false))), some 2, none⟩])
  (.seq (.reg false [] [⟨.mv (.t 0), some 3, none⟩,
    ⟨.bin .geq .plain (.t 3) (.c (.p (.i .i64 0))), some 4, none⟩,
    ⟨.mv (.t 4), some 5, none⟩,
    ⟨.mv (.t 0), some 6, some (5, true)⟩,
    ⟨.bin .leq .plain (.t 6) (.c (.p (.i .i64 1099511627776))), some 7, some (5, true)⟩,
    ⟨.pick (.t 5) (.t 7) (.c (.p (.b false))), some 8, none⟩,
    ⟨.mv (.t 8), some 2, none⟩])
  (.ret))
def J2y : AFn := ⟨1, 9, J2v, [.tmp 2], false⟩
def J6b : Jl := .seq (.reg false [] [⟨.mv (.c (.p (.b false))), some 2, none⟩])
  (.seq (.reg false [] [⟨.mv (.t 0), some 3, none⟩,
    ⟨.bin .geq .plain (.t 3) (.c (.p (.i .i64 0))), some 4, none⟩,
    ⟨.mv (.t 4), some 5, none⟩,
    ⟨.mv (.t 0), some 6, some (5, true)⟩,
    ⟨.bin .lss .plain (.t 6) (.c (.p (.i .i64 64))), some 7, some (5, true)⟩,
    ⟨.pick (.t 5) (.t 7) (.c (.p (.b false))), some 8, none⟩,
    ⟨.mv (.t 8), some 2, none⟩])
  (.ret))
def J6d : AFn := ⟨1, 9, J6b, [.tmp 2], false⟩
def J8S : Jl := .seq (.reg false [] [⟨.newbox (J4 default), some 2, none⟩])
  (.seq (.reg false [] [⟨.mv (.t 0), some 3, none⟩,
    ⟨.build (J4 default) [(0, 1, (.t 3))], some 4, none⟩,
    ⟨.store 34 (.t 2) (.t 4), none, none⟩])
  (.ret))
def J7F : AFn := ⟨1, 5, J8S, [.cell 2 true 34], false⟩
def Jcd : Jl := .seq (.reg false [] [⟨.mv (.c (.p (.b false))), some 2, none⟩])
  (.seq (.reg false [] [⟨.mv (.t 0), some 3, none⟩,
    ⟨.bin .geq .plain (.t 3) (.c (.p (.i .i64 0))), some 4, none⟩,
    ⟨.mv (.t 4), some 5, none⟩,
    ⟨.mv (.t 0), some 6, some (5, true)⟩,
    ⟨.bin .leq .plain (.t 6) (.c (.p (.i .i64 1099511627776))), some 7, some (5, true)⟩,
    ⟨.pick (.t 5) (.t 7) (.c (.p (.b false))), some 8, none⟩,
    ⟨.mv (.t 8), some 2, none⟩])
  (.ret))
def Jgr : AFn := ⟨1, 9, Jcd, [.tmp 2], false⟩
def J0Z : Jl := .seq (.reg false [] [⟨.bin .lss .plain (.t 9) (.c (.p (.i .i64 4))), some 10, none⟩])
  (.seq (.cond (.t 10)
  (.skip)
  (.exit 2))
  (.seq (.block 3 (.seq (.reg false [] [⟨.mv (.t 3), some 11, none⟩,
    ⟨.bin .and .plain (.t 11) (.c (.p (.i .u32 1))), some 12, none⟩,
    ⟨.bin .eql .plain (.t 12) (.c (.p (.i .u32 1))), some 13, none⟩])
  (.keep [0, 1, 2, 3, 4, 9, 13] (.cond (.t 13)
  (.reg false [] [⟨.mv (.t 3), some 14, none⟩,
      ⟨.bin .shr .plain (.t 14) (.c (.p (.i .u64 1))), some 15, none⟩,
      ⟨.bin .xor .plain (.t 15) (.c (.p (.i .u32 2197175160))), some 16, none⟩,
      ⟨.mv (.t 16), some 3, none⟩])
  (.reg false [] [⟨.mv (.t 3), some 17, none⟩,
      ⟨.bin .shr .plain (.t 17) (.c (.p (.i .u64 1))), some 18, none⟩,
      ⟨.mv (.t 18), some 3, none⟩])))))
  (.reg false [] [⟨.bin .add .plain (.t 9) (.c (.p (.i .i64 1))), some 19, none⟩,
    ⟨.mv (.t 19), some 9, none⟩])))
def J24 : Jl := .reg false [] [⟨.mv (.t 2), some 20, none⟩,
    ⟨.mv (.t 3), some 21, none⟩,
    ⟨.aaddr 16 1 (.t 1) (.t 20), some 22, none⟩,
    ⟨.store 1 (.t 22) (.t 21), none, none⟩]
def J1z : Jl := .reg false [] [⟨.bin .add .plain (.t 4) (.c (.p (.i .i64 1))), some 23, none⟩,
    ⟨.mv (.t 23), some 4, none⟩]
def J0h : Jl := .seq (.reg false [] [⟨.bin .lss .plain (.t 4) (.c (.p (.i .i64 16))), some 5, none⟩])
  (.seq (.cond (.t 5)
  (.skip)
  (.exit 0))
  (.seq (.block 1 (.seq (.reg false [] [⟨.mv (.t 4), some 6, none⟩,
    ⟨.mv (.t 6), some 2, none⟩])
  (.seq (.reg false [] [⟨.mv (.t 2), some 7, none⟩,
    ⟨.conv (.int .u32) (.t 7), some 8, none⟩,
    ⟨.mv (.t 8), some 3, none⟩])
  (.keep [0, 1, 2, 3, 4] (.seq (.seq (.reg false [] [⟨.mv (.c (.p (.i .i64 0))), some 9, none⟩])
  (.block 2 (.loop [0, 1, 2, 3, 4, 9] J0Z)))
  (.keep [0, 1, 2, 3, 4] J24))))))
  (.keep [0, 1, 4] J1z)))
def J0n : Jl := .seq (.reg false [] [⟨.load true 16 (.t 1), some 24, none⟩,
    ⟨.store 16 (.t 0) (.t 24), none, none⟩])
  (.ret)
def J4l : Jl := .seq (.reg false [] [⟨.newbox (J07 (r_i .u32) (Vector.replicate 16 (0 : Int))), some 0, none⟩])
  (.seq (.reg false [] [⟨.newbox (J07 (r_i .u32) (Vector.replicate 16 (0 : Int))), some 1, none⟩])
  (.seq (.seq (.reg false [] [⟨.mv (.c (.p (.i .i64 0))), some 4, none⟩])
  (.block 0 (.loop [0, 1, 4] J0h)))
  (.keep [0, 1] J0n)))
def J0a : AFn := ⟨0, 25, J4l, [.cell 0 true 16], false⟩
def J4W : Jl := .seq (.reg false [] [⟨.box 13 (.t 1), some 3, none⟩,
    ⟨.mv (.c (.p (.b false))), some 4, none⟩])
  (.seq (.reg false [] [⟨.mv (.t 0), some 5, none⟩,
    ⟨.bin .geq .plain (.t 5) (.c (.p (.i .i64 0))), some 6, none⟩,
    ⟨.mv (.t 6), some 7, none⟩,
    ⟨.mv (.t 0), some 8, some (7, true)⟩,
    ⟨.faddr 0 (.t 3), some 9, some (7, true)⟩,
    ⟨.load false 1 (.t 9), some 10, some (7, true)⟩,
    ⟨.bin .lss .plain (.t 8) (.t 10), some 11, some (7, true)⟩,
    ⟨.pick (.t 7) (.t 11) (.c (.p (.b false))), some 12, none⟩,
    ⟨.mv (.t 12), some 4, none⟩])
  (.ret))
def J4U : AFn := ⟨2, 13, J4W, [.tmp 4], false⟩
def J6F : Jl := .seq (.reg false [] [⟨.newbox [.b false, .b false, .b false, .b false, .b false, .nf, .nf, .b false, .b false, .b false, .b false, .b false, .nf, .nf, .b false, .b false, .b false, .b false, .b false, .nf, .nf, .b false, .b false, .b false, .b false, .b false, .nf, .nf, .b false, .b false, .b false, .b false, .b false, .nf, .nf, .b false, .b false, .b false, .b false, .b false, .nf, .nf, .b false, .b false, .b false, .b false, .b false, .nf, .nf, .b false, .b false, .b false, .b false, .b false, .nf, .nf, .b false, .b false, .b false, .b false, .b false, .nf, .nf], some 0, none⟩])
  (.seq (.reg false [] [⟨.mv (.c (.fn JC [] [])), some 1, none⟩])
  (.seq (.reg false [] [⟨.mv (.t 1), some 4, none⟩,
    ⟨.build [.b false, .b false, .b false, .b false, .b false, .nf, .nf] [(0, 1, (.c (.p (.b true)))), (1, 1, (.c (.p (.b true)))), (5, 1, (.t 4)), (6, 1, (.c (.fn J0j [] [])))], some 5, none⟩,
    ⟨.newbox [.b false, .b false, .b false, .b false, .b false, .nf, .nf], some 2, none⟩,
    ⟨.store 7 (.t 2) (.t 5), none, none⟩])
  (.keep [0, 1, 2] (.seq (.reg false [] [⟨.mv (.t 1), some 6, none⟩,
    ⟨.build [.b false, .b false, .b false, .b false, .b false, .nf, .nf] [(4, 1, (.c (.p (.b true)))), (5, 1, (.t 6)), (6, 1, (.c (.fn J0j [] [])))], some 7, none⟩,
    ⟨.newbox [.b false, .b false, .b false, .b false, .b false, .nf, .nf], some 3, none⟩,
    ⟨.store 7 (.t 3) (.t 7), none, none⟩])
  (.keep [0, 1, 2, 3] (.seq (.reg false [] [⟨.mv (.t 1), some 8, none⟩,
    ⟨.build [.b false, .b false, .b false, .b false, .b false, .nf, .nf] [(0, 1, (.c (.p (.b true)))), (2, 1, (.c (.p (.b true)))), (5, 1, (.t 8)), (6, 1, (.c (.fn J0y [] [])))], some 9, none⟩,
    ⟨.build [.b false, .b false, .b false, .b false, .b false, .nf, .nf] [(0, 1, (.c (.p (.b true)))), (1, 1, (.c (.p (.b true)))), (2, 1, (.c (.p (.b true)))), (3, 1, (.c (.p (.b true)))), (5, 1, (.c (.fn J1m [] []))), (6, 1, (.c (.fn J0y [] [])))], some 10, none⟩,
    ⟨.load true 7 (.t 2), some 11, none⟩,
    ⟨.load true 7 (.t 2), some 12, none⟩,
    ⟨.load true 7 (.t 2), some 13, none⟩,
    ⟨.load true 7 (.t 3), some 14, none⟩,
    ⟨.mv (.t 1), some 15, none⟩,
    ⟨.build [.b false, .b false, .b false, .b false, .b false, .nf, .nf] [(3, 1, (.c (.p (.b true)))), (5, 1, (.t 15)), (6, 1, (.c (.fn J1k [] [])))], some 16, none⟩,
    ⟨.load true 7 (.t 3), some 17, none⟩,
    ⟨.build [.b false, .b false, .b false, .b false, .b false, .nf, .nf, .b false, .b false, .b false, .b false, .b false, .nf, .nf, .b false, .b false, .b false, .b false, .b false, .nf, .nf, .b false, .b false, .b false, .b false, .b false, .nf, .nf, .b false, .b false, .b false, .b false, .b false, .nf, .nf, .b false, .b false, .b false, .b false, .b false, .nf, .nf, .b false, .b false, .b false, .b false, .b false, .nf, .nf, .b false, .b false, .b false, .b false, .b false, .nf, .nf, .b false, .b false, .b false, .b false, .b false, .nf, .nf] [(7, 7, (.t 9)), (14, 7, (.t 10)), (21, 7, (.t 11)), (28, 7, (.t 12)), (35, 7, (.t 13)), (42, 7, (.t 14)), (49, 7, (.t 16)), (56, 7, (.t 17))], some 18, none⟩,
    ⟨.store 63 (.t 0) (.t 18), none, none⟩])
  (.ret)))))))
def J5x : AFn := ⟨0, 19, J6F, [.cell 0 true 63], false⟩
def J1B : J8U := ⟨1, 8, .reg false [] [⟨.mkarr 3 (.c (.p (.sl 3 []))), some 2, none⟩], [], .reg false [] [⟨.mv (.t 0), some 3, none⟩,
    ⟨.bin .eql .nils (.t 3) (.c (.p (.sl 3 []))), some 4, none⟩], (.t 4),
  .seq (.reg false [] [⟨.mkarr 3 (.c (.p (.sl 3 []))), some 2, none⟩])
  (.ret),
  .skip,
  .seq (.reg false [] [⟨.lits true 3 0 (Jj default) [], some 5, none⟩,
    ⟨.mv (.t 0), some 6, none⟩,
    ⟨.app 3 24 (Jj default) (.t 5) (.t 6), some 7, none⟩,
    ⟨.mv (.t 7), some 2, none⟩])
  (.ret), [.tmp 2], true⟩
def J7N : Jl := .seq (.reg false [] [⟨.box 2 (.t 0), some 1, none⟩,
    ⟨.mv (.c (.p (.b false))), some 2, none⟩])
  (.seq (.reg false [] [⟨.faddr 1 (.t 1), some 3, none⟩,
    ⟨.load false 1 (.t 3), some 4, none⟩,
    ⟨.len true (.t 4), some 5, none⟩,
    ⟨.bin .leq .plain (.t 5) (.c (.p (.i .i64 12))), some 6, none⟩,
    ⟨.mv (.t 6), some 7, none⟩,
    ⟨.faddr 0 (.t 1), some 8, some (7, true)⟩,
    ⟨.load false 1 (.t 8), some 9, some (7, true)⟩,
    ⟨.mv (.t 9), some 10, some (7, true)⟩,
    ⟨.faddr 1 (.t 1), some 11, some (10, false)⟩,
    ⟨.load false 1 (.t 11), some 12, some (10, false)⟩,
    ⟨.bin .eql .plain (.t 12) (.c (.p (.s []))), some 13, some (10, false)⟩,
    ⟨.pick (.t 10) (.c (.p (.b true))) (.t 13), some 14, some (7, true)⟩,
    ⟨.pick (.t 7) (.t 14) (.c (.p (.b false))), some 15, none⟩,
    ⟨.mv (.t 15), some 2, none⟩])
  (.ret))
def Jao : AFn := ⟨1, 16, J7N, [.tmp 2], false⟩
def J6G : Jl := .seq (.reg false [] [⟨.mv (.c (.p (.i .i64 0))), some 6, none⟩])
  (.seq (.reg false [] [⟨.mv (.t 0), some 10, none⟩,
    ⟨.mv (.t 1), some 11, none⟩,
    ⟨.mv (.t 2), some 12, none⟩,
    ⟨.call J6O [(.t 10), (.t 11), (.t 12)] 0, some 13, none⟩,
    ⟨.mv (.t 13), some 9, none⟩,
    ⟨.extr (.t 9) 0, some 14, none⟩,
    ⟨.extr (.t 9) 1, some 15, none⟩,
    ⟨.mv (.t 14), some 7, none⟩,
    ⟨.mv (.t 15), some 8, none⟩])
  (.keep [7] (.seq (.reg false [] [⟨.mv (.t 7), some 16, none⟩,
    ⟨.mv (.t 16), some 6, none⟩])
  (.ret))))
def J5m : AFn := ⟨3, 17, J6G, [.tmp 6], false⟩
def J1Q : Jl := .seq (.reg false [] [⟨.bin .lss .plain (.t 13) (.c (.p (.i .i64 16))), some 14, none⟩])
  (.seq (.cond (.t 14)
  (.skip)
  (.exit 0))
  (.seq (.block 1 (.seq (.reg false [] [⟨.mv (.t 13), some 15, none⟩,
    ⟨.mv (.t 15), some 5, none⟩])
  (.seq (.reg false [] [⟨.mv (.t 5), some 16, none⟩,
    ⟨.bin .mul .plain (.t 16) (.c (.p (.i .i64 13))), some 17, none⟩,
    ⟨.bin .add .plain (.c (.p (.i .i64 12))) (.t 17), some 18, none⟩,
    ⟨.mv (.t 18), some 6, none⟩])
  (.keep [0, 2, 4, 5, 6, 13] (.seq (.reg false [] [⟨.mv (.t 0), some 19, none⟩,
    ⟨.mv (.t 6), some 20, none⟩,
    ⟨.call J36 [(.t 19), (.t 20), (.c (.p (.i .i64 1)))] 0, some 21, none⟩,
    ⟨.mv (.t 21), some 7, none⟩])
  (.keep [0, 2, 4, 5, 6, 7, 13] (.block 2 (.seq (.reg false [] [⟨.mv (.t 7), some 35, none⟩,
    ⟨.bin .eql .plain (.t 35) (.c (.p (.i .i64 255))), some 36, none⟩,
    ⟨.mv (.t 36), some 34, none⟩])
  (.keep [0, 2, 4, 5, 6, 7, 13, 34] (.cond (.t 34)
  (.skip)
  (.seq (.reg false [] [⟨.mv (.t 7), some 38, none⟩,
      ⟨.bin .gtr .plain (.t 38) (.c (.p (.i .i64 12))), some 39, none⟩,
      ⟨.mv (.t 39), some 37, none⟩])
    (.keep [0, 2, 4, 5, 6, 7, 13, 37] (.cond (.t 37)
    (.seq (.reg false [] [⟨.build (J4 default) [], some 40, none⟩,
        ⟨.store 34 (.t 2) (.t 40), none, none⟩,
        ⟨.mv (.c (.p (.b false))), some 3, none⟩])
      (.ret))
    (.reg false [] [⟨.mv (.t 5), some 22, none⟩,
        ⟨.mv (.t 0), some 23, none⟩,
        ⟨.mv (.t 6), some 24, none⟩,
        ⟨.bin .add .plain (.t 24) (.c (.p (.i .i64 1))), some 25, none⟩,
        ⟨.mv (.t 6), some 26, none⟩,
        ⟨.bin .add .plain (.t 26) (.c (.p (.i .i64 1))), some 27, none⟩,
        ⟨.mv (.t 7), some 28, none⟩,
        ⟨.bin .add .plain (.t 27) (.t 28), some 29, none⟩,
        ⟨.slice .str (.t 23) (some (.t 25)) (some (.t 29)) none, some 30, none⟩,
        ⟨.build (Jd default) [(0, 1, (.c (.p (.b true)))), (1, 1, (.t 30))], some 31, none⟩,
        ⟨.faddr 2 (.t 4), some 32, none⟩,
        ⟨.aaddr 16 2 (.t 32) (.t 22), some 33, none⟩,
        ⟨.store 2 (.t 33) (.t 31), none, none⟩]))))))))))))))
  (.reg false [] [⟨.bin .add .plain (.t 13) (.c (.p (.i .i64 1))), some 41, none⟩,
    ⟨.mv (.t 41), some 13, none⟩])))
def J4A : Jl := .seq (.reg false [] [⟨.load true 34 (.t 4), some 42, none⟩,
    ⟨.store 34 (.t 2) (.t 42), none, none⟩,
    ⟨.mv (.c (.p (.b true))), some 3, none⟩])
  (.ret)
def J7Z : Jl := .seq (.reg false [] [⟨.newbox (J4 default), some 2, none⟩,
    ⟨.mv (.c (.p (.b false))), some 3, none⟩])
  (.seq (.reg false [] [⟨.mv (.t 0), some 8, none⟩,
    ⟨.call J36 [(.t 8), (.c (.p (.i .i64 8))), (.c (.p (.i .i64 4)))] 0, some 9, none⟩,
    ⟨.mv (.t 0), some 10, none⟩,
    ⟨.call J36 [(.t 10), (.c (.p (.i .i64 0))), (.c (.p (.i .i64 8)))] 0, some 11, none⟩,
    ⟨.build (J4 default) [(0, 1, (.t 9)), (1, 1, (.t 11))], some 12, none⟩,
    ⟨.newbox (J4 default), some 4, none⟩,
    ⟨.store 34 (.t 4) (.t 12), none, none⟩])
  (.keep [0, 2, 4] (.seq (.seq (.reg false [] [⟨.mv (.c (.p (.i .i64 0))), some 13, none⟩])
  (.block 0 (.loop [0, 2, 4, 13] J1Q)))
  (.keep [2, 4] J4A))))
def J2X : AFn := ⟨1, 43, J7Z, [.cell 2 true 34, .tmp 3], false⟩
def J5e : Jl := .seq (.reg false [] [⟨.box 13 (.t 0), some 1, none⟩,
    ⟨.mv (.c (.p (.b false))), some 2, none⟩])
  (.seq (.reg false [] [⟨.mv (.c (.p (.b true))), some 2, none⟩])
  (.ret))
def J44 : AFn := ⟨1, 3, J5e, [.tmp 2], false⟩
def J7t : Jl := .seq (.reg false [] [⟨.box 6 (.t 0), some 1, none⟩,
    ⟨.mv (.c (.p (.b false))), some 2, none⟩])
  (.seq (.reg false [] [⟨.load true 6 (.t 1), some 3, none⟩,
    ⟨.build (J9 default) [], some 4, none⟩,
    ⟨.bin .eql (.flat [(.i .i64), (.i .i64), .b, .s, .b, .s]) (.t 3) (.t 4), some 5, none⟩,
    ⟨.mv (.t 5), some 2, none⟩])
  (.ret))
def J69 : AFn := ⟨1, 6, J7t, [.tmp 2], false⟩
def J48 : Jl := .seq (.reg false [] [⟨.box 13 (.t 0), some 1, none⟩,
    ⟨.mv (.c (.p (.b false))), some 2, none⟩])
  (.seq (.reg false [] [⟨.faddr 5 (.t 1), some 3, none⟩,
    ⟨.load false 1 (.t 3), some 4, none⟩,
    ⟨.bin .geq .plain (.t 4) (.c (.p (.i .i64 1))), some 5, none⟩,
    ⟨.mv (.t 5), some 6, none⟩,
    ⟨.faddr 5 (.t 1), some 7, some (6, true)⟩,
    ⟨.load false 1 (.t 7), some 8, some (6, true)⟩,
    ⟨.faddr 3 (.t 1), some 9, some (6, true)⟩,
    ⟨.load false 1 (.t 9), some 10, some (6, true)⟩,
    ⟨.bin .leq .plain (.t 8) (.t 10), some 11, some (6, true)⟩,
    ⟨.pick (.t 6) (.t 11) (.c (.p (.b false))), some 12, none⟩,
    ⟨.mv (.t 12), some 2, none⟩])
  (.ret))
def J4c : AFn := ⟨1, 13, J48, [.tmp 2], false⟩
def J27 : Jl := .seq (.reg false [] [⟨.box 6 (.t 0), some 1, none⟩,
    ⟨.mv (.c (.p (.b false))), some 2, none⟩])
  (.seq (.reg false [] [⟨.load true 6 (.t 1), some 3, none⟩,
    ⟨.faddr 0 (.t 1), some 4, none⟩,
    ⟨.load false 1 (.t 4), some 5, none⟩,
    ⟨.build (J9 default) [(0, 1, (.t 5))], some 6, none⟩,
    ⟨.bin .eql (.flat [(.i .i64), (.i .i64), .b, .s, .b, .s]) (.t 3) (.t 6), some 7, none⟩,
    ⟨.mv (.t 7), some 8, none⟩,
    ⟨.faddr 0 (.t 1), some 9, some (8, true)⟩,
    ⟨.load false 1 (.t 9), some 10, some (8, true)⟩,
    ⟨.bin .geq .plain (.t 10) (.c (.p (.i .i64 0))), some 11, some (8, true)⟩,
    ⟨.pick (.t 8) (.t 11) (.c (.p (.b false))), some 12, none⟩,
    ⟨.mv (.t 12), some 13, none⟩,
    ⟨.faddr 0 (.t 1), some 14, some (13, true)⟩,
    ⟨.load false 1 (.t 14), some 15, some (13, true)⟩,
    ⟨.bin .lss .plain (.t 15) (.c (.p (.i .i64 64))), some 16, some (13, true)⟩,
    ⟨.pick (.t 13) (.t 16) (.c (.p (.b false))), some 17, none⟩,
    ⟨.mv (.t 17), some 2, none⟩])
  (.ret))
def J45 : AFn := ⟨1, 18, J27, [.tmp 2], false⟩
def J51 : Jl := .seq (.reg false [] [⟨.mv (.c (.p (.b false))), some 2, none⟩])
  (.seq (.reg false [] [⟨.mv (.t 0), some 3, none⟩,
    ⟨.bin .geq .plain (.t 3) (.c (.p (.i .i64 0))), some 4, none⟩,
    ⟨.mv (.t 4), some 5, none⟩,
    ⟨.mv (.t 0), some 6, some (5, true)⟩,
    ⟨.bin .lss .plain (.t 6) (.c (.p (.i .i64 64))), some 7, some (5, true)⟩,
    ⟨.pick (.t 5) (.t 7) (.c (.p (.b false))), some 8, none⟩,
    ⟨.mv (.t 8), some 2, none⟩])
  (.ret))
def J52 : AFn := ⟨1, 9, J51, [.tmp 2], false⟩
def J23 : Jl := .seq (.reg false [] [⟨.box 2 (.t 0), some 1, none⟩,
    ⟨.mv (.c (.p (.b false))), some 2, none⟩])
  (.seq (.reg false [] [⟨.faddr 1 (.t 1), some 3, none⟩,
    ⟨.load false 1 (.t 3), some 4, none⟩,
    ⟨.len true (.t 4), some 5, none⟩,
    ⟨.bin .leq .plain (.t 5) (.c (.p (.i .i64 12))), some 6, none⟩,
    ⟨.mv (.t 6), some 7, none⟩,
    ⟨.faddr 0 (.t 1), some 8, some (7, true)⟩,
    ⟨.load false 1 (.t 8), some 9, some (7, true)⟩,
    ⟨.mv (.t 9), some 10, some (7, true)⟩,
    ⟨.faddr 1 (.t 1), some 11, some (10, false)⟩,
    ⟨.load false 1 (.t 11), some 12, some (10, false)⟩,
    ⟨.bin .eql .plain (.t 12) (.c (.p (.s []))), some 13, some (10, false)⟩,
    ⟨.pick (.t 10) (.c (.p (.b true))) (.t 13), some 14, some (7, true)⟩,
    ⟨.pick (.t 7) (.t 14) (.c (.p (.b false))), some 15, none⟩,
    ⟨.mv (.t 15), some 2, none⟩])
  (.ret))
def J3b : AFn := ⟨1, 16, J23, [.tmp 2], false⟩
def J6V : Jl := .seq (.reg false [] [⟨.mv (.c (.p (.s []))), some 4, none⟩])
  (.seq (.seq (.reg false [] [⟨.mv (.t 1), some 6, none⟩,
    ⟨.len true (.t 6), some 7, none⟩,
    ⟨.bin .eql .plain (.t 7) (.c (.p (.i .i64 0))), some 8, none⟩])
  (.keep [0, 1, 8] (.cond (.t 8)
  (.seq (.reg false [] [⟨.mv (.t 0), some 9, none⟩,
      ⟨.call Jk [(.t 9), (.c (.p (.i .i64 256)))] 0, some 10, none⟩,
      ⟨.conv (.int .u8) (.t 10), some 11, none⟩,
      ⟨.lits false 1 1 [(.i .u8 0)] [(0, (.t 11))], some 12, none⟩,
      ⟨.conv .toStr (.t 12), some 13, none⟩,
      ⟨.mv (.t 13), some 4, none⟩])
    (.ret))
  (.skip))))
  (.seq (.reg false [] [⟨.mv (.t 0), some 14, none⟩,
    ⟨.mv (.t 1), some 15, none⟩,
    ⟨.len true (.t 15), some 16, none⟩,
    ⟨.call Jk [(.t 14), (.t 16)] 0, some 17, none⟩,
    ⟨.mv (.t 17), some 5, none⟩])
  (.keep [0, 1, 5] (.seq (.seq (.reg false [] [⟨.mv (.t 0), some 18, none⟩,
    ⟨.call Jk [(.t 18), (.c (.p (.i .i64 4)))] 0, some 19, none⟩])
  (.block 0 (.seq (.reg false [] [⟨.bin .eql .plain (.t 19) (.c (.p (.i .i64 0))), some 21, none⟩,
    ⟨.mv (.t 21), some 20, none⟩])
  (.cond (.t 20)
  (.seq (.reg true [] [⟨.mv (.t 1), some 22, none⟩,
      ⟨.mv (.t 5), some 23, none⟩,
      ⟨.slice .str (.t 22) none (some (.t 23)) none, some 24, none⟩,
      ⟨.mv (.t 1), some 25, none⟩,
      ⟨.mv (.t 5), some 26, none⟩,
      ⟨.bin .add .plain (.t 26) (.c (.p (.i .i64 1))), some 27, none⟩,
      ⟨.slice .str (.t 25) (some (.t 27)) none none, some 28, none⟩,
      ⟨.bin .add .plain (.t 24) (.t 28), some 29, none⟩,
      ⟨.mv (.t 29), some 4, none⟩])
    (.ret))
  (.seq (.reg false [] [⟨.bin .eql .plain (.t 19) (.c (.p (.i .i64 1))), some 31, none⟩,
      ⟨.mv (.t 31), some 30, none⟩])
    (.cond (.t 30)
    (.seq (.reg false [] [⟨.mv (.t 1), some 32, none⟩,
        ⟨.mv (.t 0), some 33, none⟩,
        ⟨.call Jk [(.t 33), (.c (.p (.i .i64 256)))] 0, some 34, none⟩,
        ⟨.conv (.int .u8) (.t 34), some 35, none⟩,
        ⟨.lits false 1 1 [(.i .u8 0)] [(0, (.t 35))], some 36, none⟩,
        ⟨.conv .toStr (.t 36), some 37, none⟩,
        ⟨.bin .add .plain (.t 32) (.t 37), some 38, none⟩,
        ⟨.mv (.t 38), some 4, none⟩])
      (.ret))
    (.skip)))))))
  (.seq (.reg true [] [⟨.mv (.t 1), some 39, none⟩,
    ⟨.mv (.t 5), some 40, none⟩,
    ⟨.slice .str (.t 39) none (some (.t 40)) none, some 41, none⟩,
    ⟨.mv (.t 1), some 42, none⟩,
    ⟨.mv (.t 5), some 43, none⟩,
    ⟨.sidx (.t 42) (.t 43), some 44, none⟩,
    ⟨.mv (.t 0), some 45, none⟩,
    ⟨.call Jk [(.t 45), (.c (.p (.i .i64 255)))] 0, some 46, none⟩,
    ⟨.bin .add .plain (.c (.p (.i .i64 1))) (.t 46), some 47, none⟩,
    ⟨.conv (.int .u8) (.t 47), some 48, none⟩,
    ⟨.bin .xor .plain (.t 44) (.t 48), some 49, none⟩,
    ⟨.lits false 1 1 [(.i .u8 0)] [(0, (.t 49))], some 50, none⟩,
    ⟨.conv .toStr (.t 50), some 51, none⟩,
    ⟨.bin .add .plain (.t 41) (.t 51), some 52, none⟩,
    ⟨.mv (.t 1), some 53, none⟩,
    ⟨.mv (.t 5), some 54, none⟩,
    ⟨.bin .add .plain (.t 54) (.c (.p (.i .i64 1))), some 55, none⟩,
    ⟨.slice .str (.t 53) (some (.t 55)) none none, some 56, none⟩,
    ⟨.bin .add .plain (.t 52) (.t 56), some 57, none⟩,
    ⟨.mv (.t 57), some 4, none⟩])
  (.ret))))))
def J9e : AFn := ⟨2, 58, J6V, [.tmp 4], false⟩
def Jix : Jl := .reg false [] [⟨.mv (.t 5), some 18, none⟩,
    ⟨.bin .add .plain (.t 18) (.c (.p (.i .i64 1))), some 19, none⟩,
    ⟨.mv (.t 19), some 5, none⟩]
def JhE : Jl := .seq (.seq (.reg false [] [⟨.mv (.t 5), some 13, none⟩,
    ⟨.faddr 0 (.t 3), some 14, none⟩,
    ⟨.load false 1 (.t 14), some 15, none⟩,
    ⟨.len false (.t 15), some 16, none⟩,
    ⟨.bin .lss .plain (.t 13) (.t 16), some 17, none⟩])
  (.keep [0, 2, 3, 5, 17] (.cond (.t 17)
  (.skip)
  (.exit 0))))
  (.seq (.block 1 (.seq (.reg true [(1, 4)] [⟨.faddr 0 (.t 3), some 20, none⟩,
    ⟨.load false 1 (.t 20), some 21, none⟩,
    ⟨.mv (.t 5), some 22, none⟩,
    ⟨.mv (.t 0), some 23, none⟩,
    ⟨.call Jk [(.t 23), (.c (.p (.i .i64 40)))] 0, some 24, none⟩,
    ⟨.iaddr 3 (.t 21) (.t 22), some 25, none⟩,
    ⟨.faddr 0 (.t 25), some 26, none⟩,
    ⟨.store 1 (.t 26) (.t 24), none, none⟩])
  (.keep [0, 2, 3, 5] (.seq (.reg false [] [⟨.mv (.t 0), some 27, none⟩,
    ⟨.call Jk [(.t 27), (.c (.p (.i .i64 3)))] 0, some 28, none⟩,
    ⟨.bin .eql .plain (.t 28) (.c (.p (.i .i64 0))), some 29, none⟩])
  (.keep [0, 2, 3, 5, 29] (.cond (.t 29)
  (.reg true [(1, 7), (4, 7), (1, 10), (4, 10), (4, 13)] [⟨.faddr 0 (.t 3), some 30, none⟩,
      ⟨.load false 1 (.t 30), some 31, none⟩,
      ⟨.mv (.t 5), some 32, none⟩,
      ⟨.faddr 0 (.t 3), some 33, none⟩,
      ⟨.load false 1 (.t 33), some 34, none⟩,
      ⟨.mv (.t 5), some 35, none⟩,
      ⟨.mv (.t 0), some 36, none⟩,
      ⟨.call Jk [(.t 36), (.c (.p (.i .i64 4)))] 0, some 37, none⟩,
      ⟨.bin .add .plain (.c (.p (.i .i64 1))) (.t 37), some 38, none⟩,
      ⟨.mv (.t 0), some 39, none⟩,
      ⟨.call Jk [(.t 39), (.c (.p (.i .i64 40)))] 0, some 40, none⟩,
      ⟨.iaddr 3 (.t 31) (.t 32), some 41, none⟩,
      ⟨.faddr 1 (.t 41), some 42, none⟩,
      ⟨.store 1 (.t 42) (.t 38), none, none⟩,
      ⟨.iaddr 3 (.t 34) (.t 35), some 43, none⟩,
      ⟨.faddr 2 (.t 43), some 44, none⟩,
      ⟨.store 1 (.t 44) (.t 40), none, none⟩])
  (.skip)))))))
  (.keep [0, 2, 3, 5] Jix))
def Jiz : Jl := .seq (.reg false [] [⟨.load true 1 (.t 3), some 45, none⟩,
    ⟨.store 1 (.t 2) (.t 45), none, none⟩])
  (.ret)
def Jaf : Jl := .seq (.reg false [] [⟨.newbox (JE default), some 2, none⟩])
  (.seq (.reg false [] [⟨.mv (.t 0), some 7, none⟩,
    ⟨.call Jk [(.t 7), (.c (.p (.i .i64 5)))] 0, some 8, none⟩,
    ⟨.bin .add .plain (.c (.p (.i .i64 1))) (.t 8), some 9, none⟩,
    ⟨.callo Jch [] [(.t 9)] 1, some 10, none⟩,
    ⟨.mv (.t 10), some 6, none⟩,
    ⟨.extr (.t 6) 0, some 11, none⟩,
    ⟨.extr (.t 6) 1, some 12, none⟩,
    ⟨.newbox (JE default), some 3, none⟩,
    ⟨.store 1 (.t 3) (.t 11), none, none⟩,
    ⟨.mv (.t 12), some 4, none⟩])
  (.keep [0, 2, 3] (.seq (.seq (.reg false [] [⟨.mv (.c (.p (.i .i64 0))), some 5, none⟩])
  (.block 0 (.loop [0, 2, 3, 5] JhE)))
  (.keep [2, 3] Jiz))))
def JdJ : AFn := ⟨1, 46, Jaf, [.cell 2 true 1], false⟩
def J1L : Jl := .seq (.seq (.reg false [] [⟨.mv (.t 6), some 23, none⟩,
    ⟨.bin .gtr .plain (.t 23) (.c (.p (.i .i64 0))), some 24, none⟩])
  (.cond (.t 24)
  (.skip)
  (.exit 0)))
  (.seq (.block 1 (.reg false [] [⟨.mv (.t 0), some 27, none⟩,
    ⟨.call Jk [(.t 27), (.c (.p (.i .i64 16)))] 0, some 28, none⟩,
    ⟨.mv (.t 0), some 29, none⟩,
    ⟨.call J3D [(.t 29)] 0, some 30, none⟩,
    ⟨.faddr 2 (.t 5), some 31, none⟩,
    ⟨.aaddr 16 2 (.t 31) (.t 28), some 32, none⟩,
    ⟨.store 2 (.t 32) (.t 30), none, none⟩]))
  (.reg false [] [⟨.mv (.t 6), some 25, none⟩,
    ⟨.bin .sub .plain (.t 25) (.c (.p (.i .i64 1))), some 26, none⟩,
    ⟨.mv (.t 26), some 6, none⟩]))
def J2i : Jl := .seq (.reg false [] [⟨.load true 34 (.t 5), some 33, none⟩,
    ⟨.store 34 (.t 4) (.t 33), none, none⟩])
  (.ret)
def J5f : Jl := .seq (.seq (.reg false [] [⟨.faddr 1 (.t 5), some 18, none⟩,
    ⟨.load false 1 (.t 18), some 19, none⟩,
    ⟨.bin .gtr .plain (.t 19) (.c (.p (.i .i64 0))), some 20, none⟩])
  (.keep [0, 4, 5, 20] (.cond (.t 20)
  (.seq (.reg false [] [⟨.mv (.t 0), some 21, none⟩,
      ⟨.call Jk [(.t 21), (.c (.p (.i .i64 6)))] 0, some 22, none⟩,
      ⟨.mv (.t 22), some 6, none⟩])
    (.keep [0, 4, 5, 6] (.block 0 (.loop [0, 4, 5, 6] J1L))))
  (.skip))))
  (.keep [4, 5] J2i)
def J2D : Jl := .seq (.reg false [] [⟨.newbox (J4 default), some 4, none⟩])
  (.seq (.reg false [] [⟨.mv (.t 1), some 7, none⟩,
    ⟨.mv (.t 0), some 8, none⟩,
    ⟨.call Jk [(.t 8), (.c (.p (.i .i64 50)))] 0, some 9, none⟩,
    ⟨.build (J4 default) [(0, 1, (.t 7)), (1, 1, (.t 9))], some 10, none⟩,
    ⟨.newbox (J4 default), some 5, none⟩,
    ⟨.store 34 (.t 5) (.t 10), none, none⟩])
  (.keep [0, 4, 5] (.seq (.seq (.reg false [] [⟨.mv (.t 0), some 11, none⟩,
    ⟨.call Jk [(.t 11), (.c (.p (.i .i64 10)))] 0, some 12, none⟩,
    ⟨.bin .eql .plain (.t 12) (.c (.p (.i .i64 9))), some 13, none⟩])
  (.keep [0, 4, 5, 13] (.cond (.t 13)
  (.reg false [] [⟨.mv (.t 0), some 14, none⟩,
      ⟨.call Jk [(.t 14), (.c (.p (.i .i64 2)))] 0, some 15, none⟩,
      ⟨.bin .sub .plain (.c (.p (.i .i64 1099511627776))) (.t 15), some 16, none⟩,
      ⟨.faddr 1 (.t 5), some 17, none⟩,
      ⟨.store 1 (.t 17) (.t 16), none, none⟩])
  (.skip))))
  (.keep [0, 4, 5] J5f))))
def J0V : AFn := ⟨2, 34, J2D, [.cell 4 true 34], false⟩
def JbW : Jl := .seq (.reg false [] [⟨.box 1 (.t 1), some 3, none⟩,
    ⟨.newbox (JE default), some 4, none⟩])
  (.seq (.reg false [] [⟨.faddr 0 (.t 3), some 6, none⟩,
    ⟨.load false 1 (.t 6), some 7, none⟩,
    ⟨.appn 3 24 (Jj default) (.t 7), some 8, none⟩,
    ⟨.faddr 0 (.t 3), some 9, none⟩,
    ⟨.store 1 (.t 9) (.t 8), none, none⟩])
  (.keep [0, 3, 4] (.seq (.reg true [(1, 6)] [⟨.faddr 0 (.t 3), some 10, none⟩,
    ⟨.load false 1 (.t 10), some 11, none⟩,
    ⟨.mv (.t 0), some 12, none⟩,
    ⟨.faddr 0 (.t 3), some 13, none⟩,
    ⟨.load false 1 (.t 13), some 14, none⟩,
    ⟨.len false (.t 14), some 15, none⟩,
    ⟨.call Jk [(.t 12), (.t 15)] 0, some 16, none⟩,
    ⟨.iaddr 3 (.t 11) (.t 16), some 17, none⟩,
    ⟨.mv (.t 17), some 5, none⟩])
  (.keep [0, 3, 4, 5] (.seq (.seq (.reg false [] [⟨.mv (.t 0), some 18, none⟩,
    ⟨.call Jk [(.t 18), (.c (.p (.i .i64 4)))] 0, some 19, none⟩])
  (.block 0 (.seq (.reg false [] [⟨.bin .eql .plain (.t 19) (.c (.p (.i .i64 0))), some 21, none⟩,
    ⟨.mv (.t 21), some 20, none⟩])
  (.cond (.t 20)
  (.reg false [] [⟨.mv (.t 5), some 22, none⟩,
      ⟨.mv (.t 0), some 23, none⟩,
      ⟨.call J57 [(.t 23)] 0, some 24, none⟩,
      ⟨.nilchk (.t 22), some 25, none⟩,
      ⟨.faddr 0 (.t 25), some 26, none⟩,
      ⟨.store 1 (.t 26) (.t 24), none, none⟩])
  (.seq (.reg false [] [⟨.bin .eql .plain (.t 19) (.c (.p (.i .i64 1))), some 28, none⟩,
      ⟨.mv (.t 28), some 27, none⟩])
    (.cond (.t 27)
    (.reg false [] [⟨.mv (.t 5), some 29, none⟩,
        ⟨.mv (.t 0), some 30, none⟩,
        ⟨.call J57 [(.t 30)] 0, some 31, none⟩,
        ⟨.nilchk (.t 29), some 32, none⟩,
        ⟨.faddr 1 (.t 32), some 33, none⟩,
        ⟨.store 1 (.t 33) (.t 31), none, none⟩])
    (.seq (.reg false [] [⟨.bin .eql .plain (.t 19) (.c (.p (.i .i64 2))), some 35, none⟩,
        ⟨.mv (.t 35), some 34, none⟩])
      (.cond (.t 34)
      (.reg false [] [⟨.mv (.t 5), some 36, none⟩,
          ⟨.mv (.t 0), some 37, none⟩,
          ⟨.call J57 [(.t 37)] 0, some 38, none⟩,
          ⟨.nilchk (.t 36), some 39, none⟩,
          ⟨.faddr 2 (.t 39), some 40, none⟩,
          ⟨.store 1 (.t 40) (.t 38), none, none⟩])
      (.seq (.reg false [] [⟨.bin .eql .plain (.t 19) (.c (.p (.i .i64 3))), some 42, none⟩,
          ⟨.mv (.t 42), some 41, none⟩])
        (.cond (.t 41)
        (.reg true [(1, 3)] [⟨.faddr 0 (.t 3), some 43, none⟩,
            ⟨.load false 1 (.t 43), some 44, none⟩,
            ⟨.mv (.t 0), some 45, none⟩,
            ⟨.call Jk [(.t 45), (.c (.p (.i .i64 6)))] 0, some 46, none⟩,
            ⟨.bin .add .plain (.c (.p (.i .i64 60))) (.t 46), some 47, none⟩,
            ⟨.appz 3 24 (Jj default) (.t 44) (.t 47), some 48, none⟩,
            ⟨.faddr 0 (.t 3), some 49, none⟩,
            ⟨.store 1 (.t 49) (.t 48), none, none⟩])
        (.skip)))))))))))
  (.seq (.reg false [] [⟨.load true 1 (.t 3), some 50, none⟩,
    ⟨.store 1 (.t 4) (.t 50), none, none⟩])
  (.ret)))))))
def Jgn : AFn := ⟨2, 51, JbW, [.cell 4 true 1], false⟩
def Ja7 : Jl := .seq (.reg false [] [⟨.mv (.c (.p (.s []))), some 0, none⟩])
  (.seq (.reg false [] [⟨.call J6D [(.c (.p (.i .i64 256)))] 0, some 1, none⟩,
    ⟨.mv (.t 1), some 0, none⟩])
  (.ret))
def JdT : AFn := ⟨0, 2, Ja7, [.tmp 0], false⟩
def J7l : Jl := .seq (.reg false [] [⟨.mv (.c (.p (.s []))), some 0, none⟩])
  (.seq (.reg false [] [⟨.call J28 [(.c (.p (.s [0]))), (.c (.p (.i .i64 256)))] 0, some 1, none⟩,
    ⟨.mv (.t 1), some 0, none⟩])
  (.ret))
def J66 : AFn := ⟨0, 2, J7l, [.tmp 0], false⟩
def Ji6 : Jl := .seq (.seq (.reg false [] [⟨.mv (.t 3), some 15, none⟩,
    ⟨.faddr 0 (.t 1), some 16, none⟩,
    ⟨.load false 1 (.t 16), some 17, none⟩,
    ⟨.len false (.t 17), some 18, none⟩,
    ⟨.bin .lss .plain (.t 15) (.t 18), some 19, none⟩])
  (.keep [1, 3, 19] (.cond (.t 19)
  (.skip)
  (.exit 0))))
  (.seq (.block 1 (.seq (.reg false [] [⟨.faddr 0 (.t 1), some 22, none⟩,
    ⟨.load false 1 (.t 22), some 23, none⟩,
    ⟨.mv (.t 3), some 24, none⟩,
    ⟨.iaddr 3 (.t 23) (.t 24), some 25, none⟩,
    ⟨.load true 3 (.t 25), some 26, none⟩,
    ⟨.newbox (Jj default), some 4, none⟩,
    ⟨.store 3 (.t 4) (.t 26), none, none⟩])
  (.keep [1, 3, 4] (.seq (.reg false [] [⟨.faddr 0 (.t 4), some 27, none⟩,
    ⟨.load false 1 (.t 27), some 28, none⟩,
    ⟨.call J80 [(.t 28)] 0, some 29, none⟩,
    ⟨.un .not (.t 29), some 30, none⟩,
    ⟨.mv (.t 30), some 31, none⟩,
    ⟨.faddr 1 (.t 4), some 32, some (31, false)⟩,
    ⟨.load false 1 (.t 32), some 33, some (31, false)⟩,
    ⟨.call J80 [(.t 33)] 0, some 34, some (31, false)⟩,
    ⟨.un .not (.t 34), some 35, some (31, false)⟩,
    ⟨.pick (.t 31) (.c (.p (.b true))) (.t 35), some 36, none⟩,
    ⟨.mv (.t 36), some 37, none⟩,
    ⟨.faddr 2 (.t 4), some 38, some (37, false)⟩,
    ⟨.load false 1 (.t 38), some 39, some (37, false)⟩,
    ⟨.call J80 [(.t 39)] 0, some 40, some (37, false)⟩,
    ⟨.un .not (.t 40), some 41, some (37, false)⟩,
    ⟨.pick (.t 37) (.c (.p (.b true))) (.t 41), some 42, none⟩,
    ⟨.mv (.t 42), some 43, none⟩,
    ⟨.faddr 1 (.t 4), some 44, some (43, false)⟩,
    ⟨.load false 1 (.t 44), some 45, some (43, false)⟩,
    ⟨.bin .eql .plain (.t 45) (.c (.p (.i .i64 0))), some 46, some (43, false)⟩,
    ⟨.mv (.t 46), some 47, some (43, false)⟩,
    ⟨.faddr 2 (.t 4), some 48, some (47, true)⟩,
    ⟨.load false 1 (.t 48), some 49, some (47, true)⟩,
    ⟨.bin .neq .plain (.t 49) (.c (.p (.i .i64 0))), some 50, some (47, true)⟩,
    ⟨.pick (.t 47) (.t 50) (.c (.p (.b false))), some 51, some (43, false)⟩,
    ⟨.pick (.t 43) (.c (.p (.b true))) (.t 51), some 52, none⟩])
  (.keep [1, 3, 52] (.cond (.t 52)
  (.seq (.reg false [] [⟨.mv (.c (.p (.b false))), some 2, none⟩])
    (.ret))
  (.skip)))))))
  (.reg false [] [⟨.mv (.t 3), some 20, none⟩,
    ⟨.bin .add .plain (.t 20) (.c (.p (.i .i64 1))), some 21, none⟩,
    ⟨.mv (.t 21), some 3, none⟩]))
def Jhy : Jl := .seq (.reg false [] [⟨.mv (.c (.p (.b true))), some 2, none⟩])
  (.ret)
def Jag : Jl := .seq (.reg false [] [⟨.box 1 (.t 0), some 1, none⟩,
    ⟨.mv (.c (.p (.b false))), some 2, none⟩])
  (.seq (.seq (.reg false [] [⟨.faddr 0 (.t 1), some 5, none⟩,
    ⟨.load false 1 (.t 5), some 6, none⟩,
    ⟨.len false (.t 6), some 7, none⟩,
    ⟨.bin .lss .plain (.t 7) (.c (.p (.i .i64 1))), some 8, none⟩,
    ⟨.mv (.t 8), some 9, none⟩,
    ⟨.faddr 0 (.t 1), some 10, some (9, false)⟩,
    ⟨.load false 1 (.t 10), some 11, some (9, false)⟩,
    ⟨.len false (.t 11), some 12, some (9, false)⟩,
    ⟨.bin .gtr .plain (.t 12) (.c (.p (.i .i64 64))), some 13, some (9, false)⟩,
    ⟨.pick (.t 9) (.c (.p (.b true))) (.t 13), some 14, none⟩])
  (.keep [1, 14] (.cond (.t 14)
  (.seq (.reg false [] [⟨.mv (.c (.p (.b false))), some 2, none⟩])
    (.ret))
  (.skip))))
  (.seq (.tidy [2] (.seq (.reg false [] [⟨.mv (.c (.p (.i .i64 0))), some 3, none⟩])
  (.block 0 (.loop [1, 3] Ji6))))
  (.keep [] Jhy)))
def JdI : AFn := ⟨1, 53, Jag, [.tmp 2], false⟩
def J35 : Jl := .seq (.reg false [] [⟨.box 34 (.t 0), some 1, none⟩,
    ⟨.mv (.c (.p (.b false))), some 2, none⟩])
  (.seq (.reg false [] [⟨.faddr 0 (.t 1), some 3, none⟩,
    ⟨.load false 1 (.t 3), some 4, none⟩,
    ⟨.call J5b [(.t 4)] 0, some 5, none⟩,
    ⟨.mv (.t 5), some 6, none⟩,
    ⟨.faddr 1 (.t 1), some 7, some (6, true)⟩,
    ⟨.load false 1 (.t 7), some 8, some (6, true)⟩,
    ⟨.bin .geq .plain (.t 8) (.c (.p (.i .i64 0))), some 9, some (6, true)⟩,
    ⟨.pick (.t 6) (.t 9) (.c (.p (.b false))), some 10, none⟩,
    ⟨.mv (.t 10), some 11, none⟩,
    ⟨.faddr 1 (.t 1), some 12, some (11, true)⟩,
    ⟨.load false 1 (.t 12), some 13, some (11, true)⟩,
    ⟨.bin .leq .plain (.t 13) (.c (.p (.i .i64 1099511627776))), some 14, some (11, true)⟩,
    ⟨.pick (.t 11) (.t 14) (.c (.p (.b false))), some 15, none⟩,
    ⟨.mv (.t 15), some 2, none⟩])
  (.ret))
def J5q : AFn := ⟨1, 16, J35, [.tmp 2], false⟩
def J6e : Jl := .reg true [(6, 8), (6, 11), (8, 14)] [⟨.mv (.t 0), some 10, none⟩,
    ⟨.mv (.t 0), some 11, none⟩,
    ⟨.nilchk (.t 11), some 12, none⟩,
    ⟨.faddr 0 (.t 12), some 13, none⟩,
    ⟨.load false 1 (.t 13), some 14, none⟩,
    ⟨.mv (.t 4), some 15, none⟩,
    ⟨.call J21 [(.t 14), (.t 15), (.c (.p (.i .i64 1)))] 0, some 16, none⟩,
    ⟨.faddr 1 (.t 3), some 17, none⟩,
    ⟨.load false 1 (.t 17), some 18, none⟩,
    ⟨.bin .add .plain (.t 16) (.t 18), some 19, none⟩,
    ⟨.faddr 1 (.t 3), some 20, none⟩,
    ⟨.load false 1 (.t 20), some 21, none⟩,
    ⟨.len true (.t 21), some 22, none⟩,
    ⟨.bin .sub .plain (.c (.p (.i .i64 12))) (.t 22), some 23, none⟩,
    ⟨.call J28 [(.c (.p (.s [0]))), (.t 23)] 0, some 24, none⟩,
    ⟨.bin .add .plain (.t 19) (.t 24), some 25, none⟩,
    ⟨.nilchk (.t 10), some 26, none⟩,
    ⟨.faddr 0 (.t 26), some 27, none⟩,
    ⟨.store 1 (.t 27) (.t 25), none, none⟩]
def J2R : Jl := .seq (.reg false [] [⟨.box 2 (.t 1), some 3, none⟩])
  (.seq (.reg false [] [⟨.mv (.c (.p (.i .i64 255))), some 4, none⟩])
  (.seq (.seq (.reg false [] [⟨.faddr 0 (.t 3), some 5, none⟩,
    ⟨.load false 1 (.t 5), some 6, none⟩])
  (.cond (.t 6)
  (.reg false [] [⟨.faddr 1 (.t 3), some 7, none⟩,
      ⟨.load false 1 (.t 7), some 8, none⟩,
      ⟨.len true (.t 8), some 9, none⟩,
      ⟨.mv (.t 9), some 4, none⟩])
  (.skip)))
  (.keep [0, 3, 4] J6e)))
def J2f : AFn := ⟨2, 28, J2R, [], false⟩
def J3S : Jl := .seq (.reg false [] [⟨.bin .lss .plain (.t 9) (.t 8), some 10, none⟩])
  (.seq (.cond (.t 10)
  (.skip)
  (.exit 0))
  (.seq (.block 1 (.seq (.reg false [] [⟨.mv (.t 9), some 11, none⟩,
    ⟨.mv (.t 11), some 5, none⟩])
  (.seq (.reg false [] [⟨.mv (.t 4), some 12, none⟩,
    ⟨.mv (.t 0), some 13, none⟩,
    ⟨.mv (.t 5), some 14, none⟩,
    ⟨.sidx (.t 13) (.t 14), some 15, none⟩,
    ⟨.conv (.int .u32) (.t 15), some 16, none⟩,
    ⟨.bin .xor .plain (.t 12) (.t 16), some 17, none⟩,
    ⟨.mv (.t 17), some 4, none⟩])
  (.keep [0, 3, 4, 8, 9] (.seq (.reg false [] [⟨.mv (.t 4), some 18, none⟩,
    ⟨.bin .shr .plain (.t 18) (.c (.p (.i .u64 4))), some 19, none⟩,
    ⟨.mv (.t 4), some 20, none⟩,
    ⟨.bin .and .plain (.t 20) (.c (.p (.i .u32 15))), some 21, none⟩,
    ⟨.aaddr 16 1 (.t 3) (.t 21), some 22, none⟩,
    ⟨.load false 1 (.t 22), some 23, none⟩,
    ⟨.bin .xor .plain (.t 19) (.t 23), some 24, none⟩,
    ⟨.mv (.t 24), some 4, none⟩])
  (.keep [0, 3, 4, 8, 9] (.reg false [] [⟨.mv (.t 4), some 25, none⟩,
    ⟨.bin .shr .plain (.t 25) (.c (.p (.i .u64 4))), some 26, none⟩,
    ⟨.mv (.t 4), some 27, none⟩,
    ⟨.bin .and .plain (.t 27) (.c (.p (.i .u32 15))), some 28, none⟩,
    ⟨.aaddr 16 1 (.t 3) (.t 28), some 29, none⟩,
    ⟨.load false 1 (.t 29), some 30, none⟩,
    ⟨.bin .xor .plain (.t 26) (.t 30), some 31, none⟩,
    ⟨.mv (.t 31), some 4, none⟩])))))))
  (.reg false [] [⟨.bin .add .plain (.t 9) (.c (.p (.i .i64 1))), some 32, none⟩,
    ⟨.mv (.t 32), some 9, none⟩])))
def J4z : Jl := .seq (.reg false [] [⟨.mv (.t 4), some 33, none⟩,
    ⟨.un .xor (.t 33), some 34, none⟩,
    ⟨.mv (.t 34), some 2, none⟩])
  (.ret)
def J7Y : Jl := .seq (.reg false [] [⟨.mv (.c (.p (.i .u32 0))), some 2, none⟩])
  (.seq (.reg false [] [⟨.call J3d [] 0, some 6, none⟩,
    ⟨.newbox (J07 (r_i .u32) (Vector.replicate 16 (0 : Int))), some 3, none⟩,
    ⟨.store 16 (.t 3) (.t 6), none, none⟩])
  (.keep [0, 3] (.seq (.reg false [] [⟨.mv (.c (.p (.i .u32 4294967295))), some 4, none⟩])
  (.seq (.seq (.reg false [] [⟨.mv (.t 0), some 7, none⟩,
    ⟨.len true (.t 7), some 8, none⟩,
    ⟨.mv (.c (.p (.i .i64 0))), some 9, none⟩])
  (.keep [0, 3, 4, 8, 9] (.block 0 (.loop [0, 3, 4, 8, 9] J3S))))
  (.keep [4] J4z)))))
def J2Z : AFn := ⟨1, 35, J7Y, [.tmp 2], false⟩
def Ji3 : Jl := .seq (.seq (.reg false [] [⟨.mv (.t 3), some 4, none⟩,
    ⟨.bin .lss .plain (.t 4) (.c (.p (.i .i64 16))), some 5, none⟩])
  (.cond (.t 5)
  (.skip)
  (.exit 0)))
  (.seq (.block 1 (.seq (.reg false [] [⟨.mv (.t 3), some 8, none⟩,
    ⟨.faddr 2 (.t 1), some 9, none⟩,
    ⟨.aaddr 16 2 (.t 9) (.t 8), some 10, none⟩,
    ⟨.load true 2 (.t 10), some 11, none⟩,
    ⟨.call J7M [(.t 11)] 0, some 12, none⟩,
    ⟨.un .not (.t 12), some 13, none⟩,
    ⟨.mv (.t 13), some 14, none⟩,
    ⟨.faddr 1 (.t 1), some 15, some (14, false)⟩,
    ⟨.load false 1 (.t 15), some 16, some (14, false)⟩,
    ⟨.bin .eql .plain (.t 16) (.c (.p (.i .i64 0))), some 17, some (14, false)⟩,
    ⟨.mv (.t 17), some 18, some (14, false)⟩,
    ⟨.mv (.t 3), some 19, some (18, true)⟩,
    ⟨.faddr 2 (.t 1), some 20, some (18, true)⟩,
    ⟨.aaddr 16 2 (.t 20) (.t 19), some 21, some (18, true)⟩,
    ⟨.faddr 0 (.t 21), some 22, some (18, true)⟩,
    ⟨.load false 1 (.t 22), some 23, some (18, true)⟩,
    ⟨.pick (.t 18) (.t 23) (.c (.p (.b false))), some 24, some (14, false)⟩,
    ⟨.pick (.t 14) (.c (.p (.b true))) (.t 24), some 25, none⟩])
  (.keep [1, 3, 25] (.cond (.t 25)
  (.seq (.reg false [] [⟨.mv (.c (.p (.b false))), some 2, none⟩])
    (.ret))
  (.skip)))))
  (.reg false [] [⟨.mv (.t 3), some 6, none⟩,
    ⟨.bin .add .plain (.t 6) (.c (.p (.i .i64 1))), some 7, none⟩,
    ⟨.mv (.t 7), some 3, none⟩]))
def Jhz : Jl := .seq (.reg false [] [⟨.mv (.c (.p (.b true))), some 2, none⟩])
  (.ret)
def Jai : Jl := .seq (.reg false [] [⟨.box 34 (.t 0), some 1, none⟩,
    ⟨.mv (.c (.p (.b false))), some 2, none⟩])
  (.seq (.seq (.reg false [] [⟨.mv (.c (.p (.i .i64 0))), some 3, none⟩])
  (.block 0 (.loop [1, 3] Ji3)))
  (.keep [] Jhz))
def JdK : AFn := ⟨1, 26, Jai, [.tmp 2], false⟩
def J0m : Jl := .seq (.reg false [] [⟨.box 3 (.t 0), some 1, none⟩,
    ⟨.mv (.c (.p (.b false))), some 2, none⟩])
  (.seq (.reg false [] [⟨.faddr 0 (.t 1), some 3, none⟩,
    ⟨.load false 1 (.t 3), some 4, none⟩,
    ⟨.call J1y [(.t 4)] 0, some 5, none⟩,
    ⟨.un .not (.t 5), some 6, none⟩,
    ⟨.mv (.t 6), some 7, none⟩,
    ⟨.faddr 1 (.t 1), some 8, some (7, false)⟩,
    ⟨.load false 1 (.t 8), some 9, some (7, false)⟩,
    ⟨.call J1y [(.t 9)] 0, some 10, some (7, false)⟩,
    ⟨.un .not (.t 10), some 11, some (7, false)⟩,
    ⟨.pick (.t 7) (.c (.p (.b true))) (.t 11), some 12, none⟩,
    ⟨.mv (.t 12), some 13, none⟩,
    ⟨.faddr 2 (.t 1), some 14, some (13, false)⟩,
    ⟨.load false 1 (.t 14), some 15, some (13, false)⟩,
    ⟨.call J1y [(.t 15)] 0, some 16, some (13, false)⟩,
    ⟨.un .not (.t 16), some 17, some (13, false)⟩,
    ⟨.pick (.t 13) (.c (.p (.b true))) (.t 17), some 18, none⟩,
    ⟨.mv (.t 18), some 19, none⟩,
    ⟨.faddr 1 (.t 1), some 20, some (19, false)⟩,
    ⟨.load false 1 (.t 20), some 21, some (19, false)⟩,
    ⟨.bin .eql .plain (.t 21) (.c (.p (.i .i64 0))), some 22, some (19, false)⟩,
    ⟨.mv (.t 22), some 23, some (19, false)⟩,
    ⟨.faddr 2 (.t 1), some 24, some (23, true)⟩,
    ⟨.load false 1 (.t 24), some 25, some (23, true)⟩,
    ⟨.bin .neq .plain (.t 25) (.c (.p (.i .i64 0))), some 26, some (23, true)⟩,
    ⟨.pick (.t 23) (.t 26) (.c (.p (.b false))), some 27, some (19, false)⟩,
    ⟨.pick (.t 19) (.c (.p (.b true))) (.t 27), some 28, none⟩,
    ⟨.mv (.t 28), some 2, none⟩])
  (.ret))
def J2x : AFn := ⟨1, 29, J0m, [.tmp 2], false⟩
def J1j : Jl := .seq (.reg false [] [⟨.box 6 (.t 0), some 1, none⟩,
    ⟨.mv (.c (.p (.b false))), some 2, none⟩])
  (.seq (.reg false [] [⟨.faddr 0 (.t 1), some 3, none⟩,
    ⟨.load false 1 (.t 3), some 4, none⟩,
    ⟨.call J4V [(.t 4)] 0, some 5, none⟩,
    ⟨.mv (.t 5), some 6, none⟩,
    ⟨.faddr 1 (.t 1), some 7, some (6, true)⟩,
    ⟨.load false 1 (.t 7), some 8, some (6, true)⟩,
    ⟨.bin .geq .plain (.t 8) (.c (.p (.i .i64 0))), some 9, some (6, true)⟩,
    ⟨.pick (.t 6) (.t 9) (.c (.p (.b false))), some 10, none⟩,
    ⟨.mv (.t 10), some 11, none⟩,
    ⟨.faddr 1 (.t 1), some 12, some (11, true)⟩,
    ⟨.load false 1 (.t 12), some 13, some (11, true)⟩,
    ⟨.bin .lss .plain (.t 13) (.c (.p (.i .i64 16))), some 14, some (11, true)⟩,
    ⟨.pick (.t 11) (.t 14) (.c (.p (.b false))), some 15, none⟩,
    ⟨.mv (.t 15), some 16, none⟩,
    ⟨.faddr 2 (.t 1), some 17, some (16, true)⟩,
    ⟨.load true 2 (.t 17), some 18, some (16, true)⟩,
    ⟨.call J2r [(.t 18)] 0, some 19, some (16, true)⟩,
    ⟨.pick (.t 16) (.t 19) (.c (.p (.b false))), some 20, none⟩,
    ⟨.mv (.t 20), some 21, none⟩,
    ⟨.faddr 4 (.t 1), some 22, some (21, true)⟩,
    ⟨.load true 2 (.t 22), some 23, some (21, true)⟩,
    ⟨.call J2r [(.t 23)] 0, some 24, some (21, true)⟩,
    ⟨.pick (.t 21) (.t 24) (.c (.p (.b false))), some 25, none⟩,
    ⟨.mv (.t 25), some 2, none⟩])
  (.ret))
def J4X : AFn := ⟨1, 26, J1j, [.tmp 2], false⟩
def J2O : Jl := .seq (.reg false [] [⟨.bin .lss .plain (.t 29) (.c (.p (.i .i64 16))), some 30, none⟩])
  (.seq (.cond (.t 30)
  (.skip)
  (.exit 1))
  (.seq (.block 2 (.seq (.reg false [] [⟨.aidx true 16 2 (.t 28) (.t 29), some 31, none⟩,
    ⟨.newbox (Jd default), some 7, none⟩,
    ⟨.store 2 (.t 7) (.t 31), none, none⟩])
  (.keep [1, 4, 5, 7, 28, 29] (.reg false [] [⟨.mv (.t 5), some 32, none⟩,
    ⟨.load true 2 (.t 7), some 33, none⟩,
    ⟨.callv (.t 32) [(.t 33)] 0, some 34, none⟩]))))
  (.reg false [] [⟨.bin .add .plain (.t 29) (.c (.p (.i .i64 1))), some 35, none⟩,
    ⟨.mv (.t 35), some 29, none⟩])))
def J3s : Jl := .seq (.reg true [(3, 10)] [⟨.mv (.t 4), some 36, none⟩,
    ⟨.nilchk (.t 36), some 37, none⟩,
    ⟨.faddr 0 (.t 37), some 38, none⟩,
    ⟨.load false 1 (.t 38), some 39, none⟩,
    ⟨.mv (.t 4), some 40, none⟩,
    ⟨.nilchk (.t 40), some 41, none⟩,
    ⟨.faddr 0 (.t 41), some 42, none⟩,
    ⟨.load false 1 (.t 42), some 43, none⟩,
    ⟨.len true (.t 43), some 44, none⟩,
    ⟨.bin .sub .plain (.c (.p (.i .i64 244))) (.t 44), some 45, none⟩,
    ⟨.call J28 [(.c (.p (.s [0]))), (.t 45)] 0, some 46, none⟩,
    ⟨.bin .add .plain (.t 39) (.t 46), some 47, none⟩,
    ⟨.mv (.t 47), some 8, none⟩])
  (.keep [1, 8] (.seq (.reg true [(2, 6), (4, 6)] [⟨.mv (.t 8), some 48, none⟩,
    ⟨.mv (.t 8), some 49, none⟩,
    ⟨.call J4Q [(.t 49)] 0, some 50, none⟩,
    ⟨.conv (.int .i64) (.t 50), some 51, none⟩,
    ⟨.call J21 [(.t 48), (.t 51), (.c (.p (.i .i64 4)))] 0, some 52, none⟩,
    ⟨.faddr 1 (.t 1), some 53, none⟩,
    ⟨.load false 1 (.t 53), some 54, none⟩,
    ⟨.call J21 [(.t 52), (.t 54), (.c (.p (.i .i64 8)))] 0, some 55, none⟩,
    ⟨.mv (.t 55), some 2, none⟩,
    ⟨.mv (.c (.p (.i .i64 0))), some 3, none⟩])
  (.ret)))
def J33 : Jl := .seq (.reg false [] [⟨.box 34 (.t 0), some 1, none⟩,
    ⟨.mv (.c (.p (.s []))), some 2, none⟩,
    ⟨.mv (.c (.p (.i .i64 0))), some 3, none⟩])
  (.keep [1] (.seq (.block 0 (.seq (.reg false [] [⟨.load true 34 (.t 1), some 10, none⟩,
    ⟨.call J5y [(.t 10)] 0, some 11, none⟩,
    ⟨.un .not (.t 11), some 12, none⟩,
    ⟨.mv (.t 12), some 9, none⟩])
  (.keep [1, 9] (.cond (.t 9)
  (.seq (.reg false [] [⟨.mv (.c (.p (.s []))), some 2, none⟩,
      ⟨.mv (.c (.p (.i .i64 1))), some 3, none⟩])
    (.ret))
  (.seq (.reg false [] [⟨.load true 34 (.t 1), some 14, none⟩,
      ⟨.call J6g [(.t 14)] 0, some 15, none⟩,
      ⟨.un .not (.t 15), some 16, none⟩,
      ⟨.mv (.t 16), some 13, none⟩])
    (.keep [1, 13] (.cond (.t 13)
    (.seq (.reg false [] [⟨.mv (.c (.p (.s []))), some 2, none⟩,
        ⟨.mv (.c (.p (.i .i64 22))), some 3, none⟩])
      (.ret))
    (.skip))))))))
  (.seq (.reg true [(2, 4)] [⟨.faddr 1 (.t 1), some 17, none⟩,
    ⟨.load false 1 (.t 17), some 18, none⟩,
    ⟨.call J21 [(.c (.p (.s []))), (.t 18), (.c (.p (.i .i64 8)))] 0, some 19, none⟩,
    ⟨.faddr 0 (.t 1), some 20, none⟩,
    ⟨.load false 1 (.t 20), some 21, none⟩,
    ⟨.call J21 [(.t 19), (.t 21), (.c (.p (.i .i64 4)))] 0, some 22, none⟩,
    ⟨.build (J0R default) [(0, 1, (.t 22))], some 23, none⟩,
    ⟨.box 1 (.t 23), some 24, none⟩,
    ⟨.mv (.t 24), some 4, none⟩])
  (.keep [1, 4] (.seq (.reg false [] [⟨.mv (.t 4), some 25, none⟩,
    ⟨.mkfn J1b [(.t 25)] [], some 26, none⟩,
    ⟨.mv (.t 26), some 5, none⟩])
  (.keep [1, 4, 5] (.seq (.tidy [1, 2, 3, 4] (.seq (.reg false [] [⟨.faddr 2 (.t 1), some 27, none⟩,
    ⟨.load true 32 (.t 27), some 28, none⟩,
    ⟨.mv (.c (.p (.i .i64 0))), some 29, none⟩])
  (.keep [1, 4, 5, 28, 29] (.block 1 (.loop [1, 4, 5, 28, 29] J2O)))))
  (.keep [1, 4] J3s))))))))
def J29 : AFn := ⟨1, 56, J33, [.tmp 2, .tmp 3], false⟩
def Ja9 : Jl := .seq (.reg false [] [⟨.box 34 (.t 0), some 1, none⟩,
    ⟨.mv (.c (.p (.i .i64 0))), some 2, none⟩])
  (.seq (.block 0 (.seq (.reg false [] [⟨.load true 34 (.t 1), some 4, none⟩,
    ⟨.call J97 [(.t 4)] 0, some 5, none⟩,
    ⟨.un .not (.t 5), some 6, none⟩,
    ⟨.mv (.t 6), some 3, none⟩])
  (.keep [1, 3] (.cond (.t 3)
  (.seq (.reg false [] [⟨.mv (.c (.p (.i .i64 1))), some 2, none⟩])
    (.ret))
  (.seq (.reg false [] [⟨.load true 34 (.t 1), some 8, none⟩,
      ⟨.call J9S [(.t 8)] 0, some 9, none⟩,
      ⟨.un .not (.t 9), some 10, none⟩,
      ⟨.mv (.t 10), some 7, none⟩])
    (.keep [7] (.cond (.t 7)
    (.seq (.reg false [] [⟨.mv (.c (.p (.i .i64 22))), some 2, none⟩])
      (.ret))
    (.skip))))))))
  (.seq (.reg false [] [⟨.mv (.c (.p (.i .i64 0))), some 2, none⟩])
  (.ret)))
def JdY : AFn := ⟨1, 11, Ja9, [.tmp 2], false⟩
def JX : Jl := .seq (.reg false [] [⟨.bin .lss .plain (.t 8) (.t 7), some 9, none⟩])
  (.seq (.cond (.t 9)
  (.skip)
  (.exit 0))
  (.seq (.block 1 (.seq (.reg false [] [⟨.mv (.t 8), some 10, none⟩,
    ⟨.mv (.t 10), some 5, none⟩])
  (.seq (.reg false [] [⟨.mv (.t 1), some 11, none⟩,
    ⟨.mv (.t 0), some 12, none⟩,
    ⟨.mv (.t 5), some 13, none⟩,
    ⟨.iaddr 3 (.t 12) (.t 13), some 14, none⟩,
    ⟨.load true 3 (.t 14), some 15, none⟩,
    ⟨.callv (.t 11) [(.t 15)] 0, some 16, none⟩])
  (.keep [0, 1, 5, 7, 8, 16] (.cond (.t 16)
  (.seq (.reg false [] [⟨.mv (.t 5), some 17, none⟩,
      ⟨.mv (.t 17), some 4, none⟩])
    (.ret))
  (.skip))))))
  (.reg false [] [⟨.bin .add .plain (.t 8) (.c (.p (.i .i64 1))), some 18, none⟩,
    ⟨.mv (.t 18), some 8, none⟩])))
def J0k : Jl := .seq (.reg false [] [⟨.mv (.c (.p (.i .i64 (-1)))), some 4, none⟩])
  (.ret)
def J1d : Jl := .seq (.reg false [] [⟨.mv (.c (.p (.i .i64 0))), some 4, none⟩])
  (.seq (.seq (.reg false [] [⟨.mv (.t 0), some 6, none⟩,
    ⟨.len false (.t 6), some 7, none⟩,
    ⟨.mv (.c (.p (.i .i64 0))), some 8, none⟩])
  (.keep [0, 1, 7, 8] (.block 0 (.loop [0, 1, 7, 8] JX))))
  (.keep [] J0k))
def JT : AFn := ⟨2, 19, J1d, [.tmp 4], false⟩
def J0T : Jl := .seq (.reg false [] [⟨.mv (.c (.p (.b false))), some 4, none⟩])
  (.seq (.reg false [] [⟨.mv (.t 0), some 5, none⟩,
    ⟨.mv (.t 1), some 6, none⟩,
    ⟨.call J0I [(.t 5), (.t 6)] 0, some 7, none⟩,
    ⟨.bin .geq .plain (.t 7) (.c (.p (.i .i64 0))), some 8, none⟩,
    ⟨.mv (.t 8), some 4, none⟩])
  (.ret))
def J0v : AFn := ⟨2, 9, J0T, [.tmp 4], false⟩
def J2e : Jl := .seq (.reg false [] [⟨.box 1 (.t 0), some 1, none⟩,
    ⟨.mv (.c (.p (.b false))), some 2, none⟩])
  (.seq (.reg false [] [⟨.faddr 0 (.t 1), some 3, none⟩,
    ⟨.load false 1 (.t 3), some 4, none⟩,
    ⟨.len false (.t 4), some 5, none⟩,
    ⟨.bin .geq .plain (.t 5) (.c (.p (.i .i64 1))), some 6, none⟩,
    ⟨.mv (.t 6), some 7, none⟩,
    ⟨.faddr 0 (.t 1), some 8, some (7, true)⟩,
    ⟨.load false 1 (.t 8), some 9, some (7, true)⟩,
    ⟨.len false (.t 9), some 10, some (7, true)⟩,
    ⟨.bin .leq .plain (.t 10) (.c (.p (.i .i64 64))), some 11, some (7, true)⟩,
    ⟨.pick (.t 7) (.t 11) (.c (.p (.b false))), some 12, none⟩,
    ⟨.mv (.t 12), some 13, none⟩,
    ⟨.faddr 0 (.t 1), some 14, some (13, true)⟩,
    ⟨.load false 1 (.t 14), some 15, some (13, true)⟩,
    ⟨.call J0u [(.t 15), (.c (.fn JZ [] []))] 0, some 16, some (13, true)⟩,
    ⟨.un .not (.t 16), some 17, some (13, true)⟩,
    ⟨.pick (.t 13) (.t 17) (.c (.p (.b false))), some 18, none⟩,
    ⟨.mv (.t 18), some 2, none⟩])
  (.ret))
def J3M : AFn := ⟨1, 19, J2e, [.tmp 2], false⟩
def Jr : Jl := .cond (.t 47)
  (.seq (.reg false [] [⟨.mv (.c (.p (.b false))), some 2, none⟩])
    (.ret))
  (.seq (.seq (.reg false [] [⟨.faddr 0 (.t 3), some 68, none⟩,
      ⟨.load false 1 (.t 68), some 69, none⟩,
      ⟨.un .not (.t 69), some 70, none⟩,
      ⟨.mv (.t 70), some 71, none⟩,
      ⟨.faddr 2 (.t 1), some 72, some (71, true)⟩,
      ⟨.load false 1 (.t 72), some 73, some (71, true)⟩,
      ⟨.bin .neq .plain (.t 73) (.c (.p (.i .i64 0))), some 74, some (71, true)⟩,
      ⟨.mv (.t 74), some 75, some (71, true)⟩,
      ⟨.faddr 3 (.t 1), some 76, some (75, false)⟩,
      ⟨.load false 1 (.t 76), some 77, some (75, false)⟩,
      ⟨.bin .neq .plain (.t 77) (.c (.p (.i .i64 0))), some 78, some (75, false)⟩,
      ⟨.pick (.t 75) (.c (.p (.b true))) (.t 78), some 79, some (71, true)⟩,
      ⟨.pick (.t 71) (.t 79) (.c (.p (.b false))), some 80, none⟩,
      ⟨.mv (.t 80), some 67, none⟩])
    (.keep [1, 3, 67] (.cond (.t 67)
    (.skip)
    (.seq (.reg false [] [⟨.faddr 2 (.t 3), some 81, none⟩,
        ⟨.load false 1 (.t 81), some 82, none⟩,
        ⟨.un .not (.t 82), some 83, none⟩,
        ⟨.mv (.t 83), some 84, none⟩,
        ⟨.faddr 4 (.t 1), some 85, some (84, true)⟩,
        ⟨.load false 1 (.t 85), some 86, some (84, true)⟩,
        ⟨.bin .neq .plain (.t 86) (.c (.p (.i .i64 0))), some 87, some (84, true)⟩,
        ⟨.pick (.t 84) (.t 87) (.c (.p (.b false))), some 88, none⟩,
        ⟨.mv (.t 88), some 67, none⟩])
      (.keep [1, 3, 67] (.cond (.t 67)
      (.skip)
      (.seq (.reg false [] [⟨.faddr 3 (.t 3), some 89, none⟩,
          ⟨.load false 1 (.t 89), some 90, none⟩,
          ⟨.un .not (.t 90), some 91, none⟩,
          ⟨.mv (.t 91), some 92, none⟩,
          ⟨.faddr 5 (.t 1), some 93, some (92, true)⟩,
          ⟨.load false 1 (.t 93), some 94, some (92, true)⟩,
          ⟨.bin .neq .plain (.t 94) (.c (.p (.i .i64 0))), some 95, some (92, true)⟩,
          ⟨.pick (.t 92) (.t 95) (.c (.p (.b false))), some 96, none⟩,
          ⟨.mv (.t 96), some 67, none⟩])
        (.keep [1, 3, 67] (.cond (.t 67)
        (.skip)
        (.reg false [] [⟨.faddr 4 (.t 3), some 97, none⟩,
            ⟨.load false 1 (.t 97), some 98, none⟩,
            ⟨.un .not (.t 98), some 99, none⟩,
            ⟨.mv (.t 99), some 100, none⟩,
            ⟨.faddr 12 (.t 1), some 101, some (100, true)⟩,
            ⟨.load false 1 (.t 101), some 102, some (100, true)⟩,
            ⟨.bin .neq .plain (.t 102) (.c (.p (.s []))), some 103, some (100, true)⟩,
            ⟨.pick (.t 100) (.t 103) (.c (.p (.b false))), some 104, none⟩,
            ⟨.mv (.t 104), some 67, none⟩]))))))))))
    (.cond (.t 67)
    (.seq (.reg false [] [⟨.mv (.c (.p (.b false))), some 2, none⟩])
      (.ret))
    (.skip)))
def JF : Jl := .seq (.reg false [] [⟨.faddr 12 (.t 1), some 105, none⟩,
    ⟨.load false 1 (.t 105), some 106, none⟩,
    ⟨.len true (.t 106), some 107, none⟩,
    ⟨.bin .leq .plain (.t 107) (.c (.p (.i .i64 8192))), some 108, none⟩,
    ⟨.mv (.t 108), some 109, none⟩,
    ⟨.faddr 5 (.t 3), some 110, some (109, true)⟩,
    ⟨.load false 1 (.t 110), some 111, some (109, true)⟩,
    ⟨.load true 13 (.t 1), some 112, some (109, true)⟩,
    ⟨.callv (.t 111) [(.t 112)] 0, some 113, some (109, true)⟩,
    ⟨.pick (.t 109) (.t 113) (.c (.p (.b false))), some 114, none⟩,
    ⟨.mv (.t 114), some 115, none⟩,
    ⟨.faddr 6 (.t 3), some 116, some (115, true)⟩,
    ⟨.load false 1 (.t 116), some 117, some (115, true)⟩,
    ⟨.faddr 6 (.t 1), some 118, some (115, true)⟩,
    ⟨.load true 6 (.t 118), some 119, some (115, true)⟩,
    ⟨.callv (.t 117) [(.t 119)] 0, some 120, some (115, true)⟩,
    ⟨.pick (.t 115) (.t 120) (.c (.p (.b false))), some 121, none⟩,
    ⟨.mv (.t 121), some 2, none⟩])
  (.ret)
def J0c : Jl := .seq (.block 0 (.seq (.seq (.reg false [] [⟨.faddr 0 (.t 3), some 48, none⟩,
    ⟨.load false 1 (.t 48), some 49, none⟩,
    ⟨.mv (.t 49), some 50, none⟩,
    ⟨.faddr 2 (.t 1), some 51, some (50, true)⟩,
    ⟨.load false 1 (.t 51), some 52, some (50, true)⟩,
    ⟨.bin .lss .plain (.t 52) (.c (.p (.i .i64 1))), some 53, some (50, true)⟩,
    ⟨.mv (.t 53), some 54, some (50, true)⟩,
    ⟨.faddr 2 (.t 1), some 55, some (54, false)⟩,
    ⟨.load false 1 (.t 55), some 56, some (54, false)⟩,
    ⟨.bin .gtr .plain (.t 56) (.c (.p (.i .i64 1073741824))), some 57, some (54, false)⟩,
    ⟨.pick (.t 54) (.c (.p (.b true))) (.t 57), some 58, some (50, true)⟩,
    ⟨.pick (.t 50) (.t 58) (.c (.p (.b false))), some 59, none⟩,
    ⟨.mv (.t 59), some 47, none⟩])
  (.keep [1, 3, 47] (.cond (.t 47)
  (.skip)
  (.reg false [] [⟨.faddr 1 (.t 3), some 60, none⟩,
      ⟨.load false 1 (.t 60), some 61, none⟩,
      ⟨.mv (.t 61), some 62, none⟩,
      ⟨.faddr 3 (.t 1), some 63, some (62, true)⟩,
      ⟨.load false 1 (.t 63), some 64, some (62, true)⟩,
      ⟨.bin .eql .plain (.t 64) (.c (.p (.i .i64 0))), some 65, some (62, true)⟩,
      ⟨.pick (.t 62) (.t 65) (.c (.p (.b false))), some 66, none⟩,
      ⟨.mv (.t 66), some 47, none⟩]))))
  (.keep [1, 3, 47] Jr)))
  (.keep [1, 3] JF)
def JN : Jl := .seq (.reg false [] [⟨.box 13 (.t 0), some 1, none⟩,
    ⟨.mv (.c (.p (.b false))), some 2, none⟩])
  (.seq (.seq (.reg false [] [⟨.faddr 0 (.t 1), some 4, none⟩,
    ⟨.load false 1 (.t 4), some 5, none⟩,
    ⟨.bin .lss .plain (.t 5) (.c (.p (.i .i64 1))), some 6, none⟩,
    ⟨.mv (.t 6), some 7, none⟩,
    ⟨.faddr 0 (.t 1), some 8, some (7, false)⟩,
    ⟨.load false 1 (.t 8), some 9, some (7, false)⟩,
    ⟨.bin .gtr .plain (.t 9) (.c (.p (.i .i64 1099511627776))), some 10, some (7, false)⟩,
    ⟨.pick (.t 7) (.c (.p (.b true))) (.t 10), some 11, none⟩,
    ⟨.mv (.t 11), some 12, none⟩,
    ⟨.faddr 1 (.t 1), some 13, some (12, false)⟩,
    ⟨.load false 1 (.t 13), some 14, some (12, false)⟩,
    ⟨.bin .lss .plain (.t 14) (.c (.p (.i .i64 1))), some 15, some (12, false)⟩,
    ⟨.pick (.t 12) (.c (.p (.b true))) (.t 15), some 16, none⟩,
    ⟨.mv (.t 16), some 17, none⟩,
    ⟨.faddr 1 (.t 1), some 18, some (17, false)⟩,
    ⟨.load false 1 (.t 18), some 19, some (17, false)⟩,
    ⟨.bin .gtr .plain (.t 19) (.c (.p (.i .i64 8))), some 20, some (17, false)⟩,
    ⟨.pick (.t 17) (.c (.p (.b true))) (.t 20), some 21, none⟩,
    ⟨.mv (.t 21), some 22, none⟩,
    ⟨.faddr 3 (.t 1), some 23, some (22, false)⟩,
    ⟨.load false 1 (.t 23), some 24, some (22, false)⟩,
    ⟨.load true 13 (.t 1), some 25, some (22, false)⟩,
    ⟨.call J3j [(.t 24), (.t 25)] 0, some 26, some (22, false)⟩,
    ⟨.un .not (.t 26), some 27, some (22, false)⟩,
    ⟨.pick (.t 22) (.c (.p (.b true))) (.t 27), some 28, none⟩,
    ⟨.mv (.t 28), some 29, none⟩,
    ⟨.faddr 4 (.t 1), some 30, some (29, false)⟩,
    ⟨.load false 1 (.t 30), some 31, some (29, false)⟩,
    ⟨.load true 13 (.t 1), some 32, some (29, false)⟩,
    ⟨.call J3j [(.t 31), (.t 32)] 0, some 33, some (29, false)⟩,
    ⟨.un .not (.t 33), some 34, some (29, false)⟩,
    ⟨.pick (.t 29) (.c (.p (.b true))) (.t 34), some 35, none⟩,
    ⟨.mv (.t 35), some 36, none⟩,
    ⟨.faddr 5 (.t 1), some 37, some (36, false)⟩,
    ⟨.load false 1 (.t 37), some 38, some (36, false)⟩,
    ⟨.load true 13 (.t 1), some 39, some (36, false)⟩,
    ⟨.call J3j [(.t 38), (.t 39)] 0, some 40, some (36, false)⟩,
    ⟨.un .not (.t 40), some 41, some (36, false)⟩,
    ⟨.pick (.t 36) (.c (.p (.b true))) (.t 41), some 42, none⟩])
  (.keep [1, 42] (.cond (.t 42)
  (.seq (.reg false [] [⟨.mv (.c (.p (.b false))), some 2, none⟩])
    (.ret))
  (.skip))))
  (.seq (.reg true [(0, 2), (0, 4), (2, 4)] [⟨.call J4v [] 0, some 43, none⟩,
    ⟨.faddr 1 (.t 1), some 44, none⟩,
    ⟨.load false 1 (.t 44), some 45, none⟩,
    ⟨.aidx true 9 7 (.t 43) (.t 45), some 46, none⟩,
    ⟨.newbox [.b false, .b false, .b false, .b false, .b false, .nf, .nf], some 3, none⟩,
    ⟨.store 7 (.t 3) (.t 46), none, none⟩])
  (.keep [1, 3] J0c)))
def J0l : AFn := ⟨1, 122, JN, [.tmp 2], false⟩
def J0C : Jl := .seq (.reg false [] [⟨.newbox (J4 default), some 2, none⟩,
    ⟨.mv (.c (.p (.i .i64 0))), some 3, none⟩])
  (.seq (.block 0 (.seq (.reg false [] [⟨.mv (.t 0), some 9, none⟩,
    ⟨.len true (.t 9), some 10, none⟩,
    ⟨.bin .neq .plain (.t 10) (.c (.p (.i .i64 256))), some 11, none⟩,
    ⟨.mv (.t 11), some 8, none⟩])
  (.keep [0, 2, 8] (.cond (.t 8)
  (.seq (.reg false [] [⟨.build (J4 default) [], some 12, none⟩,
      ⟨.store 34 (.t 2) (.t 12), none, none⟩,
      ⟨.mv (.c (.p (.i .i64 2))), some 3, none⟩])
    (.ret))
  (.seq (.reg false [] [⟨.mv (.t 0), some 14, none⟩,
      ⟨.call J4j [] 0, some 15, none⟩,
      ⟨.bin .eql .plain (.t 14) (.t 15), some 16, none⟩,
      ⟨.mv (.t 16), some 13, none⟩])
    (.keep [0, 2, 13] (.cond (.t 13)
    (.seq (.reg false [] [⟨.build (J4 default) [], some 17, none⟩,
        ⟨.store 34 (.t 2) (.t 17), none, none⟩,
        ⟨.mv (.c (.p (.i .i64 7))), some 3, none⟩])
      (.ret))
    (.seq (.reg true [] [⟨.mv (.t 0), some 19, none⟩,
        ⟨.slice .str (.t 19) none (some (.c (.p (.i .i64 8)))) none, some 20, none⟩,
        ⟨.mv (.t 0), some 21, none⟩,
        ⟨.slice .str (.t 21) (some (.c (.p (.i .i64 248)))) none none, some 22, none⟩,
        ⟨.bin .neq .plain (.t 20) (.t 22), some 23, none⟩,
        ⟨.mv (.t 23), some 18, none⟩])
      (.keep [0, 2, 18] (.cond (.t 18)
      (.seq (.reg false [] [⟨.build (J4 default) [], some 24, none⟩,
          ⟨.store 34 (.t 2) (.t 24), none, none⟩,
          ⟨.mv (.c (.p (.i .i64 27))), some 3, none⟩])
        (.ret))
      (.seq (.reg true [] [⟨.mv (.t 0), some 26, none⟩,
          ⟨.call J36 [(.t 26), (.c (.p (.i .i64 244))), (.c (.p (.i .i64 4)))] 0, some 27, none⟩,
          ⟨.mv (.t 0), some 28, none⟩,
          ⟨.slice .str (.t 28) none (some (.c (.p (.i .i64 244)))) none, some 29, none⟩,
          ⟨.call J4Q [(.t 29)] 0, some 30, none⟩,
          ⟨.conv (.int .i64) (.t 30), some 31, none⟩,
          ⟨.bin .neq .plain (.t 27) (.t 31), some 32, none⟩,
          ⟨.mv (.t 32), some 25, none⟩])
        (.keep [0, 2, 25] (.cond (.t 25)
        (.seq (.reg false [] [⟨.build (J4 default) [], some 33, none⟩,
            ⟨.store 34 (.t 2) (.t 33), none, none⟩,
            ⟨.mv (.c (.p (.i .i64 3))), some 3, none⟩])
          (.ret))
        (.skip))))))))))))))
  (.seq (.reg false [] [⟨.mv (.t 0), some 35, none⟩,
    ⟨.call J6I [(.t 35)] 0, some 36, none⟩,
    ⟨.mv (.t 36), some 34, none⟩,
    ⟨.extr (.t 34) 0, some 37, none⟩,
    ⟨.extr (.t 34) 1, some 38, none⟩,
    ⟨.newbox (J4 default), some 4, none⟩,
    ⟨.store 34 (.t 4) (.t 37), none, none⟩,
    ⟨.mv (.t 38), some 5, none⟩])
  (.keep [0, 2, 4, 5] (.seq (.seq (.reg false [] [⟨.load true 34 (.t 4), some 40, none⟩,
    ⟨.call J3R [(.t 40)] 0, some 41, none⟩,
    ⟨.mv (.t 41), some 39, none⟩,
    ⟨.extr (.t 39) 0, some 42, none⟩,
    ⟨.extr (.t 39) 1, some 43, none⟩,
    ⟨.mv (.t 42), some 6, none⟩,
    ⟨.mv (.t 43), some 7, none⟩])
  (.keep [0, 2, 4, 5, 6, 7] (.seq (.reg false [] [⟨.mv (.t 5), some 44, none⟩,
    ⟨.un .not (.t 44), some 45, none⟩,
    ⟨.mv (.t 45), some 46, none⟩,
    ⟨.mv (.t 7), some 47, some (46, false)⟩,
    ⟨.bin .neq .plain (.t 47) (.c (.p (.i .i64 0))), some 48, some (46, false)⟩,
    ⟨.pick (.t 46) (.c (.p (.b true))) (.t 48), some 49, none⟩,
    ⟨.mv (.t 49), some 50, none⟩,
    ⟨.mv (.t 6), some 51, some (50, false)⟩,
    ⟨.mv (.t 0), some 52, some (50, false)⟩,
    ⟨.bin .neq .plain (.t 51) (.t 52), some 53, some (50, false)⟩,
    ⟨.pick (.t 50) (.c (.p (.b true))) (.t 53), some 54, none⟩])
  (.keep [2, 4, 54] (.cond (.t 54)
  (.seq (.reg false [] [⟨.build (J4 default) [], some 55, none⟩,
      ⟨.store 34 (.t 2) (.t 55), none, none⟩,
      ⟨.mv (.c (.p (.i .i64 4))), some 3, none⟩])
    (.ret))
  (.skip))))))
  (.seq (.reg false [] [⟨.load true 34 (.t 4), some 56, none⟩,
    ⟨.store 34 (.t 2) (.t 56), none, none⟩,
    ⟨.mv (.c (.p (.i .i64 0))), some 3, none⟩])
  (.ret))))))
def J5j : AFn := ⟨1, 57, J0C, [.cell 2 true 34, .tmp 3], false⟩
def JgE : Jl := .seq (.reg false [] [⟨.mv (.t 5), some 35, none⟩,
    ⟨.mv (.t 7), some 36, none⟩,
    ⟨.call J5R [(.t 35), (.t 36), (.c (.p (.i .i64 1)))] 0, some 37, none⟩,
    ⟨.mv (.t 37), some 5, none⟩])
  (.keep [1, 5, 6] (.reg true [(5, 13)] [⟨.mv (.t 5), some 38, none⟩,
    ⟨.mv (.t 6), some 39, none⟩,
    ⟨.faddr 2 (.t 1), some 40, none⟩,
    ⟨.aaddr 16 2 (.t 40) (.t 39), some 41, none⟩,
    ⟨.faddr 1 (.t 41), some 42, none⟩,
    ⟨.load false 1 (.t 42), some 43, none⟩,
    ⟨.mv (.t 6), some 44, none⟩,
    ⟨.faddr 2 (.t 1), some 45, none⟩,
    ⟨.aaddr 16 2 (.t 45) (.t 44), some 46, none⟩,
    ⟨.faddr 1 (.t 46), some 47, none⟩,
    ⟨.load false 1 (.t 47), some 48, none⟩,
    ⟨.len true (.t 48), some 49, none⟩,
    ⟨.bin .sub .plain (.c (.p (.i .i64 12))) (.t 49), some 50, none⟩,
    ⟨.call J6D [(.t 50)] 0, some 51, none⟩,
    ⟨.bin .add .plain (.t 43) (.t 51), some 52, none⟩,
    ⟨.bin .add .plain (.t 38) (.t 52), some 53, none⟩,
    ⟨.mv (.t 53), some 5, none⟩]))
def Jhg : Jl := .reg false [] [⟨.mv (.t 6), some 22, none⟩,
    ⟨.bin .add .plain (.t 22) (.c (.p (.i .i64 1))), some 23, none⟩,
    ⟨.mv (.t 23), some 6, none⟩]
def JgT : Jl := .seq (.seq (.reg false [] [⟨.mv (.t 6), some 20, none⟩,
    ⟨.bin .lss .plain (.t 20) (.c (.p (.i .i64 16))), some 21, none⟩])
  (.cond (.t 21)
  (.skip)
  (.exit 0)))
  (.seq (.block 1 (.seq (.reg false [] [⟨.mv (.c (.p (.i .i64 255))), some 7, none⟩])
  (.seq (.seq (.reg false [] [⟨.mv (.t 6), some 24, none⟩,
    ⟨.faddr 2 (.t 1), some 25, none⟩,
    ⟨.aaddr 16 2 (.t 25) (.t 24), some 26, none⟩,
    ⟨.faddr 0 (.t 26), some 27, none⟩,
    ⟨.load false 1 (.t 27), some 28, none⟩])
  (.keep [1, 5, 6, 7, 28] (.cond (.t 28)
  (.reg false [] [⟨.mv (.t 6), some 29, none⟩,
      ⟨.faddr 2 (.t 1), some 30, none⟩,
      ⟨.aaddr 16 2 (.t 30) (.t 29), some 31, none⟩,
      ⟨.faddr 1 (.t 31), some 32, none⟩,
      ⟨.load false 1 (.t 32), some 33, none⟩,
      ⟨.len true (.t 33), some 34, none⟩,
      ⟨.mv (.t 34), some 7, none⟩])
  (.skip))))
  (.keep [1, 5, 6, 7] JgE))))
  (.keep [1, 5, 6] Jhg))
def JgR : Jl := .seq (.reg false [] [⟨.mv (.t 5), some 54, none⟩,
    ⟨.mv (.t 5), some 55, none⟩,
    ⟨.len true (.t 55), some 56, none⟩,
    ⟨.bin .sub .plain (.c (.p (.i .i64 244))) (.t 56), some 57, none⟩,
    ⟨.call J6D [(.t 57)] 0, some 58, none⟩,
    ⟨.bin .add .plain (.t 54) (.t 58), some 59, none⟩,
    ⟨.mv (.t 59), some 5, none⟩])
  (.keep [1, 5] (.seq (.reg false [] [⟨.mv (.t 5), some 60, none⟩,
    ⟨.mv (.t 5), some 61, none⟩,
    ⟨.call J9H [(.t 61)] 0, some 62, none⟩,
    ⟨.conv (.int .i64) (.t 62), some 63, none⟩,
    ⟨.call J5R [(.t 60), (.t 63), (.c (.p (.i .i64 4)))] 0, some 64, none⟩,
    ⟨.mv (.t 64), some 5, none⟩])
  (.keep [1, 5] (.seq (.reg false [] [⟨.mv (.t 5), some 65, none⟩,
    ⟨.faddr 1 (.t 1), some 66, none⟩,
    ⟨.load false 1 (.t 66), some 67, none⟩,
    ⟨.call J5R [(.t 65), (.t 67), (.c (.p (.i .i64 8)))] 0, some 68, none⟩,
    ⟨.mv (.t 68), some 2, none⟩,
    ⟨.mv (.c (.p (.i .i64 0))), some 3, none⟩])
  (.ret)))))
def J9w : Jl := .seq (.reg false [] [⟨.box 34 (.t 0), some 1, none⟩,
    ⟨.mv (.c (.p (.s []))), some 2, none⟩,
    ⟨.mv (.c (.p (.i .i64 0))), some 3, none⟩])
  (.keep [1] (.seq (.seq (.reg false [] [⟨.load true 34 (.t 1), some 8, none⟩,
    ⟨.call Ja5 [(.t 8)] 0, some 9, none⟩,
    ⟨.mv (.t 9), some 4, none⟩])
  (.keep [1, 4] (.seq (.reg false [] [⟨.mv (.t 4), some 10, none⟩,
    ⟨.bin .neq .plain (.t 10) (.c (.p (.i .i64 0))), some 11, none⟩])
  (.cond (.t 11)
  (.seq (.reg false [] [⟨.mv (.t 4), some 12, none⟩,
      ⟨.mv (.c (.p (.s []))), some 2, none⟩,
      ⟨.mv (.t 12), some 3, none⟩])
    (.ret))
  (.skip)))))
  (.seq (.reg false [] [⟨.faddr 1 (.t 1), some 13, none⟩,
    ⟨.load false 1 (.t 13), some 14, none⟩,
    ⟨.call J5R [(.c (.p (.s []))), (.t 14), (.c (.p (.i .i64 8)))] 0, some 15, none⟩,
    ⟨.mv (.t 15), some 5, none⟩])
  (.keep [1, 5] (.seq (.reg false [] [⟨.mv (.t 5), some 16, none⟩,
    ⟨.faddr 0 (.t 1), some 17, none⟩,
    ⟨.load false 1 (.t 17), some 18, none⟩,
    ⟨.call J5R [(.t 16), (.t 18), (.c (.p (.i .i64 4)))] 0, some 19, none⟩,
    ⟨.mv (.t 19), some 5, none⟩])
  (.keep [1, 5] (.seq (.seq (.reg false [] [⟨.mv (.c (.p (.i .i64 0))), some 6, none⟩])
  (.block 0 (.loop [1, 5, 6] JgT)))
  (.keep [1, 5] JgR))))))))
def JcO : AFn := ⟨1, 69, J9w, [.tmp 2, .tmp 3], false⟩
def J41 : Jl := .reg true [] [⟨.mv (.t 0), some 3, none⟩,
    ⟨.mv (.t 0), some 4, none⟩,
    ⟨.nilchk (.t 4), some 5, none⟩,
    ⟨.faddr 0 (.t 5), some 6, none⟩,
    ⟨.load false 1 (.t 6), some 7, none⟩,
    ⟨.faddr 5 (.t 1), some 8, none⟩,
    ⟨.load false 1 (.t 8), some 9, none⟩,
    ⟨.mm true (.t 7) (.t 9), some 10, none⟩,
    ⟨.nilchk (.t 3), some 11, none⟩,
    ⟨.faddr 0 (.t 11), some 12, none⟩,
    ⟨.store 1 (.t 12) (.t 10), none, none⟩]
def J2Q : AFn := ⟨2, 13, J41, [], false⟩
def J4m : Jl := .seq (.reg false [] [⟨.box 1 (.t 0), some 3, none⟩,
    ⟨.newbox (JE default), some 6, none⟩])
  (.seq (.reg false [] [⟨.faddr 0 (.t 3), some 7, none⟩,
    ⟨.load false 1 (.t 7), some 8, none⟩,
    ⟨.call J19 [(.t 8)] 1, some 9, none⟩,
    ⟨.faddr 0 (.t 3), some 10, none⟩,
    ⟨.store 1 (.t 10) (.t 9), none, none⟩])
  (.keep [1, 2, 3, 6] (.seq (.reg false [] [⟨.mv (.t 2), some 11, none⟩,
    ⟨.faddr 0 (.t 3), some 12, none⟩,
    ⟨.load false 1 (.t 12), some 13, none⟩,
    ⟨.mv (.t 1), some 14, none⟩,
    ⟨.iaddr 3 (.t 13) (.t 14), some 15, none⟩,
    ⟨.callv (.t 11) [(.t 15)] 0, some 16, none⟩])
  (.keep [3, 6] (.seq (.reg false [] [⟨.load true 1 (.t 3), some 17, none⟩,
    ⟨.store 1 (.t 6) (.t 17), none, none⟩])
  (.ret))))))
def J3f : AFn := ⟨3, 18, J4m, [.cell 6 true 1], false⟩
def J0S : Jl := .seq (.reg false [] [⟨.box 1 (.t 0), some 2, none⟩,
    ⟨.box 13 (.t 1), some 3, none⟩,
    ⟨.newbox (JE default), some 4, none⟩,
    ⟨.mv (.c (.p (.i .i64 0))), some 5, none⟩])
  (.keep [2, 3, 4] (.seq (.block 0 (.seq (.reg false [] [⟨.load true 1 (.t 2), some 7, none⟩,
    ⟨.call J2B [(.t 7)] 0, some 8, none⟩,
    ⟨.un .not (.t 8), some 9, none⟩,
    ⟨.mv (.t 9), some 6, none⟩])
  (.keep [2, 3, 4, 6] (.cond (.t 6)
  (.seq (.reg false [] [⟨.build (JE default) [], some 10, none⟩,
      ⟨.store 1 (.t 4) (.t 10), none, none⟩,
      ⟨.mv (.c (.p (.i .i64 28))), some 5, none⟩])
    (.ret))
  (.seq (.reg false [] [⟨.load true 13 (.t 3), some 12, none⟩,
      ⟨.call J5o [(.t 12)] 0, some 13, none⟩,
      ⟨.un .not (.t 13), some 14, none⟩,
      ⟨.mv (.t 14), some 11, none⟩])
    (.keep [2, 3, 4, 11] (.cond (.t 11)
    (.seq (.reg false [] [⟨.build (JE default) [], some 15, none⟩,
        ⟨.store 1 (.t 4) (.t 15), none, none⟩,
        ⟨.mv (.c (.p (.i .i64 12))), some 5, none⟩])
      (.ret))
    (.seq (.reg false [] [⟨.faddr 1 (.t 3), some 17, none⟩,
        ⟨.load false 1 (.t 17), some 18, none⟩,
        ⟨.bin .neq .plain (.t 18) (.c (.p (.i .i64 7))), some 19, none⟩,
        ⟨.mv (.t 19), some 16, none⟩])
      (.keep [2, 3, 4, 16] (.cond (.t 16)
      (.seq (.reg false [] [⟨.load true 1 (.t 2), some 20, none⟩,
          ⟨.store 1 (.t 4) (.t 20), none, none⟩,
          ⟨.mv (.c (.p (.i .i64 0))), some 5, none⟩])
        (.ret))
      (.seq (.reg false [] [⟨.load true 1 (.t 2), some 22, none⟩,
          ⟨.faddr 6 (.t 3), some 23, none⟩,
          ⟨.faddr 0 (.t 23), some 24, none⟩,
          ⟨.load false 1 (.t 24), some 25, none⟩,
          ⟨.call J2I [(.t 22), (.t 25)] 0, some 26, none⟩,
          ⟨.un .not (.t 26), some 27, none⟩,
          ⟨.mv (.t 27), some 21, none⟩])
        (.keep [2, 3, 4, 21] (.cond (.t 21)
        (.seq (.reg false [] [⟨.build (JE default) [], some 28, none⟩,
            ⟨.store 1 (.t 4) (.t 28), none, none⟩,
            ⟨.mv (.c (.p (.i .i64 1))), some 5, none⟩])
          (.ret))
        (.skip))))))))))))))
  (.seq (.reg false [] [⟨.load true 1 (.t 2), some 29, none⟩,
    ⟨.faddr 6 (.t 3), some 30, none⟩,
    ⟨.faddr 0 (.t 30), some 31, none⟩,
    ⟨.load false 1 (.t 31), some 32, none⟩,
    ⟨.mkfn J1a [] [(.t 3)], some 33, none⟩,
    ⟨.call J3g [(.t 29), (.t 32), (.t 33)] 0, some 34, none⟩,
    ⟨.store 1 (.t 4) (.t 34), none, none⟩,
    ⟨.mv (.c (.p (.i .i64 0))), some 5, none⟩])
  (.ret))))
def J4a : AFn := ⟨2, 35, J0S, [.cell 4 true 1, .tmp 5], false⟩
def J18 : Jl := .seq (.reg false [] [⟨.newbox (J4 default), some 4, none⟩,
    ⟨.mv (.c (.p (.i .i64 0))), some 5, none⟩])
  (.seq (.seq (.reg false [] [⟨.mv (.t 1), some 8, none⟩,
    ⟨.call J5b [(.t 8)] 0, some 9, none⟩,
    ⟨.un .not (.t 9), some 10, none⟩])
  (.keep [0, 1, 4, 10] (.cond (.t 10)
  (.seq (.reg false [] [⟨.build (J4 default) [], some 11, none⟩,
      ⟨.store 34 (.t 4) (.t 11), none, none⟩,
      ⟨.mv (.c (.p (.i .i64 1))), some 5, none⟩])
    (.ret))
  (.skip))))
  (.seq (.reg false [] [⟨.mv (.t 0), some 13, none⟩,
    ⟨.call J5l [(.t 13)] 0, some 14, none⟩,
    ⟨.mv (.t 14), some 12, none⟩,
    ⟨.extr (.t 12) 0, some 15, none⟩,
    ⟨.extr (.t 12) 1, some 16, none⟩,
    ⟨.newbox (J4 default), some 6, none⟩,
    ⟨.store 34 (.t 6) (.t 15), none, none⟩,
    ⟨.mv (.t 16), some 7, none⟩])
  (.keep [1, 4, 6, 7] (.seq (.block 0 (.seq (.reg false [] [⟨.mv (.t 7), some 18, none⟩,
    ⟨.bin .eql .plain (.t 18) (.c (.p (.i .i64 7))), some 19, none⟩,
    ⟨.mv (.t 19), some 17, none⟩])
  (.keep [1, 4, 6, 7, 17] (.cond (.t 17)
  (.seq (.reg false [] [⟨.mv (.t 1), some 20, none⟩,
      ⟨.call J7v [(.t 20)] 0, some 21, none⟩,
      ⟨.store 34 (.t 4) (.t 21), none, none⟩,
      ⟨.mv (.c (.p (.i .i64 0))), some 5, none⟩])
    (.ret))
  (.seq (.reg false [] [⟨.mv (.t 7), some 23, none⟩,
      ⟨.bin .neq .plain (.t 23) (.c (.p (.i .i64 0))), some 24, none⟩,
      ⟨.mv (.t 24), some 22, none⟩])
    (.keep [1, 4, 6, 7, 22] (.cond (.t 22)
    (.seq (.reg false [] [⟨.build (J4 default) [], some 25, none⟩,
        ⟨.mv (.t 7), some 26, none⟩,
        ⟨.store 34 (.t 4) (.t 25), none, none⟩,
        ⟨.mv (.t 26), some 5, none⟩])
      (.ret))
    (.seq (.reg false [] [⟨.faddr 0 (.t 6), some 28, none⟩,
        ⟨.load false 1 (.t 28), some 29, none⟩,
        ⟨.mv (.t 1), some 30, none⟩,
        ⟨.bin .neq .plain (.t 29) (.t 30), some 31, none⟩,
        ⟨.mv (.t 31), some 27, none⟩])
      (.keep [4, 6, 27] (.cond (.t 27)
      (.seq (.reg false [] [⟨.build (J4 default) [], some 32, none⟩,
          ⟨.store 34 (.t 4) (.t 32), none, none⟩,
          ⟨.mv (.c (.p (.i .i64 6))), some 5, none⟩])
        (.ret))
      (.skip)))))))))))
  (.seq (.reg false [] [⟨.load true 34 (.t 6), some 33, none⟩,
    ⟨.store 34 (.t 4) (.t 33), none, none⟩,
    ⟨.mv (.c (.p (.i .i64 0))), some 5, none⟩])
  (.ret))))))
def J4r : AFn := ⟨2, 34, J18, [.cell 4 true 34, .tmp 5], false⟩
def Jh1 : Jl := .reg false [] [⟨.mv (.t 7), some 55, none⟩,
    ⟨.bin .add .plain (.t 55) (.c (.p (.i .i64 1))), some 56, none⟩,
    ⟨.mv (.t 56), some 7, none⟩]
def JgV : Jl := .seq (.seq (.reg false [] [⟨.mv (.t 7), some 53, none⟩,
    ⟨.bin .lss .plain (.t 53) (.c (.p (.i .i64 16))), some 54, none⟩])
  (.cond (.t 54)
  (.skip)
  (.exit 1)))
  (.seq (.block 2 (.seq (.reg false [] [⟨.mv (.t 7), some 57, none⟩,
    ⟨.bin .mul .plain (.t 57) (.c (.p (.i .i64 13))), some 58, none⟩,
    ⟨.bin .add .plain (.c (.p (.i .i64 12))) (.t 58), some 59, none⟩,
    ⟨.mv (.t 59), some 8, none⟩])
  (.keep [0, 2, 6, 7, 8] (.seq (.reg false [] [⟨.mv (.t 0), some 60, none⟩,
    ⟨.mv (.t 8), some 61, none⟩,
    ⟨.sidx (.t 60) (.t 61), some 62, none⟩,
    ⟨.conv (.int .i64) (.t 62), some 63, none⟩,
    ⟨.mv (.t 63), some 9, none⟩])
  (.keep [0, 2, 6, 7, 8, 9] (.seq (.seq (.reg false [] [⟨.mv (.t 9), some 64, none⟩,
    ⟨.bin .eql .plain (.t 64) (.c (.p (.i .i64 255))), some 65, none⟩])
  (.cond (.t 65)
  (.exit 2)
  (.skip)))
  (.seq (.seq (.reg false [] [⟨.mv (.t 9), some 66, none⟩,
    ⟨.bin .gtr .plain (.t 66) (.c (.p (.i .i64 12))), some 67, none⟩])
  (.cond (.t 67)
  (.seq (.reg false [] [⟨.build (J4 default) [], some 68, none⟩,
      ⟨.store 34 (.t 2) (.t 68), none, none⟩,
      ⟨.mv (.c (.p (.i .i64 4))), some 3, none⟩])
    (.ret))
  (.skip)))
  (.reg false [] [⟨.mv (.t 7), some 69, none⟩,
    ⟨.mv (.t 0), some 70, none⟩,
    ⟨.mv (.t 8), some 71, none⟩,
    ⟨.bin .add .plain (.t 71) (.c (.p (.i .i64 1))), some 72, none⟩,
    ⟨.mv (.t 8), some 73, none⟩,
    ⟨.bin .add .plain (.t 73) (.c (.p (.i .i64 1))), some 74, none⟩,
    ⟨.mv (.t 9), some 75, none⟩,
    ⟨.bin .add .plain (.t 74) (.t 75), some 76, none⟩,
    ⟨.slice .str (.t 70) (some (.t 72)) (some (.t 76)) none, some 77, none⟩,
    ⟨.build (Jd default) [(0, 1, (.c (.p (.b true)))), (1, 1, (.t 77))], some 78, none⟩,
    ⟨.faddr 2 (.t 6), some 79, none⟩,
    ⟨.aaddr 16 2 (.t 79) (.t 69), some 80, none⟩,
    ⟨.store 2 (.t 80) (.t 78), none, none⟩]))))))))
  (.keep [0, 2, 6, 7] Jh1))
def JgF : Jl := .seq (.seq (.reg false [] [⟨.load true 34 (.t 6), some 82, none⟩,
    ⟨.call J7C [(.t 82)] 0, some 83, none⟩,
    ⟨.mv (.t 83), some 81, none⟩,
    ⟨.extr (.t 81) 0, some 84, none⟩,
    ⟨.extr (.t 81) 1, some 85, none⟩,
    ⟨.mv (.t 84), some 10, none⟩,
    ⟨.mv (.t 85), some 11, none⟩])
  (.keep [0, 2, 6, 10, 11] (.seq (.reg false [] [⟨.mv (.t 11), some 86, none⟩,
    ⟨.bin .neq .plain (.t 86) (.c (.p (.i .i64 0))), some 87, none⟩,
    ⟨.mv (.t 87), some 88, none⟩,
    ⟨.mv (.t 10), some 89, some (88, false)⟩,
    ⟨.mv (.t 0), some 90, some (88, false)⟩,
    ⟨.bin .neq .plain (.t 89) (.t 90), some 91, some (88, false)⟩,
    ⟨.pick (.t 88) (.c (.p (.b true))) (.t 91), some 92, none⟩])
  (.keep [2, 6, 92] (.cond (.t 92)
  (.seq (.reg false [] [⟨.build (J4 default) [], some 93, none⟩,
      ⟨.store 34 (.t 2) (.t 93), none, none⟩,
      ⟨.mv (.c (.p (.i .i64 4))), some 3, none⟩])
    (.ret))
  (.skip))))))
  (.seq (.reg false [] [⟨.load true 34 (.t 6), some 94, none⟩,
    ⟨.store 34 (.t 2) (.t 94), none, none⟩,
    ⟨.mv (.c (.p (.i .i64 0))), some 3, none⟩])
  (.ret))
def J9t : Jl := .seq (.reg false [] [⟨.newbox (J4 default), some 2, none⟩,
    ⟨.mv (.c (.p (.i .i64 0))), some 3, none⟩])
  (.seq (.block 0 (.seq (.reg false [] [⟨.mv (.t 0), some 13, none⟩,
    ⟨.len true (.t 13), some 14, none⟩,
    ⟨.bin .neq .plain (.t 14) (.c (.p (.i .i64 256))), some 15, none⟩,
    ⟨.mv (.t 15), some 12, none⟩])
  (.keep [0, 2, 12] (.cond (.t 12)
  (.seq (.reg false [] [⟨.build (J4 default) [], some 16, none⟩,
      ⟨.store 34 (.t 2) (.t 16), none, none⟩,
      ⟨.mv (.c (.p (.i .i64 2))), some 3, none⟩])
    (.ret))
  (.seq (.reg false [] [⟨.mv (.t 0), some 18, none⟩,
      ⟨.call J8i [] 0, some 19, none⟩,
      ⟨.bin .eql .plain (.t 18) (.t 19), some 20, none⟩,
      ⟨.mv (.t 20), some 17, none⟩])
    (.keep [0, 2, 17] (.cond (.t 17)
    (.seq (.reg false [] [⟨.build (J4 default) [], some 21, none⟩,
        ⟨.store 34 (.t 2) (.t 21), none, none⟩,
        ⟨.mv (.c (.p (.i .i64 7))), some 3, none⟩])
      (.ret))
    (.seq (.reg true [] [⟨.mv (.t 0), some 23, none⟩,
        ⟨.slice .str (.t 23) none (some (.c (.p (.i .i64 8)))) none, some 24, none⟩,
        ⟨.mv (.t 0), some 25, none⟩,
        ⟨.slice .str (.t 25) (some (.c (.p (.i .i64 248)))) none none, some 26, none⟩,
        ⟨.bin .neq .plain (.t 24) (.t 26), some 27, none⟩,
        ⟨.mv (.t 27), some 22, none⟩])
      (.keep [0, 2, 22] (.cond (.t 22)
      (.seq (.reg false [] [⟨.build (J4 default) [], some 28, none⟩,
          ⟨.store 34 (.t 2) (.t 28), none, none⟩,
          ⟨.mv (.c (.p (.i .i64 27))), some 3, none⟩])
        (.ret))
      (.skip)))))))))))
  (.seq (.reg false [] [⟨.mv (.t 0), some 30, none⟩,
    ⟨.call J86 [(.t 30), (.c (.p (.i .i64 244))), (.c (.p (.i .i64 4)))] 0, some 31, none⟩,
    ⟨.mv (.t 31), some 29, none⟩,
    ⟨.extr (.t 29) 0, some 32, none⟩,
    ⟨.extr (.t 29) 1, some 33, none⟩,
    ⟨.mv (.t 32), some 4, none⟩,
    ⟨.mv (.t 33), some 5, none⟩])
  (.keep [0, 2, 4] (.seq (.seq (.reg false [] [⟨.mv (.t 4), some 34, none⟩,
    ⟨.conv (.int .u32) (.t 34), some 35, none⟩,
    ⟨.mv (.t 0), some 36, none⟩,
    ⟨.slice .str (.t 36) none (some (.c (.p (.i .i64 244)))) none, some 37, none⟩,
    ⟨.call J9H [(.t 37)] 0, some 38, none⟩,
    ⟨.bin .neq .plain (.t 35) (.t 38), some 39, none⟩])
  (.keep [0, 2, 39] (.cond (.t 39)
  (.seq (.reg false [] [⟨.build (J4 default) [], some 40, none⟩,
      ⟨.store 34 (.t 2) (.t 40), none, none⟩,
      ⟨.mv (.c (.p (.i .i64 3))), some 3, none⟩])
    (.ret))
  (.skip))))
  (.seq (.reg false [] [⟨.newbox (J4 default), some 6, none⟩])
  (.seq (.reg false [] [⟨.mv (.t 0), some 42, none⟩,
    ⟨.call J86 [(.t 42), (.c (.p (.i .i64 0))), (.c (.p (.i .i64 8)))] 0, some 43, none⟩,
    ⟨.mv (.t 43), some 41, none⟩,
    ⟨.extr (.t 41) 0, some 44, none⟩,
    ⟨.extr (.t 41) 1, some 45, none⟩,
    ⟨.faddr 1 (.t 6), some 46, none⟩,
    ⟨.store 1 (.t 46) (.t 44), none, none⟩])
  (.keep [0, 2, 6] (.seq (.reg false [] [⟨.mv (.t 0), some 48, none⟩,
    ⟨.call J86 [(.t 48), (.c (.p (.i .i64 8))), (.c (.p (.i .i64 4)))] 0, some 49, none⟩,
    ⟨.mv (.t 49), some 47, none⟩,
    ⟨.extr (.t 47) 0, some 50, none⟩,
    ⟨.extr (.t 47) 1, some 51, none⟩,
    ⟨.faddr 0 (.t 6), some 52, none⟩,
    ⟨.store 1 (.t 52) (.t 50), none, none⟩])
  (.keep [0, 2, 6] (.seq (.seq (.reg false [] [⟨.mv (.c (.p (.i .i64 0))), some 7, none⟩])
  (.block 1 (.loop [0, 2, 6, 7] JgV)))
  (.keep [0, 2, 6] JgF)))))))))))
def Jcy : AFn := ⟨1, 95, J9t, [.cell 2 true 34, .tmp 3], false⟩
def J1w : Jl := .seq (.reg false [] [⟨.mv (.c (.p (.b false))), some 0, none⟩])
  (.seq (.reg false [] [⟨.call J3x [(.c (.p (.i .i64 2)))] 0, some 6, none⟩,
    ⟨.mv (.t 6), some 5, none⟩,
    ⟨.extr (.t 5) 0, some 7, none⟩,
    ⟨.extr (.t 5) 1, some 8, none⟩,
    ⟨.newbox (JE default), some 1, none⟩,
    ⟨.store 1 (.t 1) (.t 7), none, none⟩,
    ⟨.mv (.t 8), some 2, none⟩])
  (.keep [1, 2] (.seq (.reg false [] [⟨.load true 1 (.t 1), some 10, none⟩,
    ⟨.build (J9 default) [(0, 1, (.c (.p (.i .i64 1))))], some 11, none⟩,
    ⟨.build (J3 default) [(0, 1, (.c (.p (.i .i64 9)))), (1, 1, (.c (.p (.i .i64 7)))), (5, 1, (.c (.p (.i .i64 5)))), (6, 6, (.t 11))], some 12, none⟩,
    ⟨.call J2o [(.t 10), (.t 12)] 0, some 13, none⟩,
    ⟨.mv (.t 13), some 9, none⟩,
    ⟨.extr (.t 9) 0, some 14, none⟩,
    ⟨.extr (.t 9) 1, some 15, none⟩,
    ⟨.store 1 (.t 1) (.t 14), none, none⟩,
    ⟨.mv (.t 15), some 3, none⟩])
  (.keep [1, 2, 3] (.seq (.reg false [] [⟨.load true 1 (.t 1), some 17, none⟩,
    ⟨.build (J9 default) [(0, 1, (.c (.p (.i .i64 1))))], some 18, none⟩,
    ⟨.build (J3 default) [(0, 1, (.c (.p (.i .i64 10)))), (1, 1, (.c (.p (.i .i64 7)))), (5, 1, (.c (.p (.i .i64 3)))), (6, 6, (.t 18))], some 19, none⟩,
    ⟨.call J2o [(.t 17), (.t 19)] 0, some 20, none⟩,
    ⟨.mv (.t 20), some 16, none⟩,
    ⟨.extr (.t 16) 0, some 21, none⟩,
    ⟨.extr (.t 16) 1, some 22, none⟩,
    ⟨.store 1 (.t 1) (.t 21), none, none⟩,
    ⟨.mv (.t 22), some 4, none⟩])
  (.keep [1, 2, 3, 4] (.seq (.reg false [] [⟨.mv (.t 2), some 23, none⟩,
    ⟨.bin .eql .plain (.t 23) (.c (.p (.i .i64 0))), some 24, none⟩,
    ⟨.mv (.t 24), some 25, none⟩,
    ⟨.mv (.t 3), some 26, some (25, true)⟩,
    ⟨.bin .eql .plain (.t 26) (.c (.p (.i .i64 0))), some 27, some (25, true)⟩,
    ⟨.pick (.t 25) (.t 27) (.c (.p (.b false))), some 28, none⟩,
    ⟨.mv (.t 28), some 29, none⟩,
    ⟨.mv (.t 4), some 30, some (29, true)⟩,
    ⟨.bin .eql .plain (.t 30) (.c (.p (.i .i64 0))), some 31, some (29, true)⟩,
    ⟨.pick (.t 29) (.t 31) (.c (.p (.b false))), some 32, none⟩,
    ⟨.mv (.t 32), some 33, none⟩,
    ⟨.faddr 0 (.t 1), some 34, some (33, true)⟩,
    ⟨.load false 1 (.t 34), some 35, some (33, true)⟩,
    ⟨.len false (.t 35), some 36, some (33, true)⟩,
    ⟨.bin .eql .plain (.t 36) (.c (.p (.i .i64 2))), some 37, some (33, true)⟩,
    ⟨.pick (.t 33) (.t 37) (.c (.p (.b false))), some 38, none⟩,
    ⟨.mv (.t 38), some 39, none⟩,
    ⟨.faddr 0 (.t 1), some 40, some (39, true)⟩,
    ⟨.load false 1 (.t 40), some 41, some (39, true)⟩,
    ⟨.iaddr 3 (.t 41) (.c (.p (.i .i64 1))), some 42, some (39, true)⟩,
    ⟨.faddr 0 (.t 42), some 43, some (39, true)⟩,
    ⟨.load false 1 (.t 43), some 44, some (39, true)⟩,
    ⟨.bin .eql .plain (.t 44) (.c (.p (.i .i64 5))), some 45, some (39, true)⟩,
    ⟨.pick (.t 39) (.t 45) (.c (.p (.b false))), some 46, none⟩,
    ⟨.mv (.t 46), some 0, none⟩])
  (.ret))))))))
def J5w : AFn := ⟨0, 47, J1w, [.tmp 0], false⟩
def J03 : Jl := .seq (.reg false [] [⟨.box 1 (.t 0), some 4, none⟩,
    ⟨.newbox (J4 default), some 8, none⟩,
    ⟨.mv (.c (.p (.i .i64 0))), some 9, none⟩])
  (.keep [1, 2, 3, 4, 8] (.seq (.block 0 (.seq (.reg false [] [⟨.load true 1 (.t 4), some 14, none⟩,
    ⟨.call J2B [(.t 14)] 0, some 15, none⟩,
    ⟨.un .not (.t 15), some 16, none⟩,
    ⟨.mv (.t 16), some 13, none⟩])
  (.keep [1, 2, 3, 4, 8, 13] (.cond (.t 13)
  (.seq (.reg false [] [⟨.build (J4 default) [], some 17, none⟩,
      ⟨.store 34 (.t 8) (.t 17), none, none⟩,
      ⟨.mv (.c (.p (.i .i64 28))), some 9, none⟩])
    (.ret))
  (.seq (.reg false [] [⟨.load true 1 (.t 4), some 19, none⟩,
      ⟨.mv (.t 1), some 20, none⟩,
      ⟨.call J2I [(.t 19), (.t 20)] 0, some 21, none⟩,
      ⟨.un .not (.t 21), some 22, none⟩,
      ⟨.mv (.t 22), some 23, none⟩,
      ⟨.mv (.t 2), some 24, some (23, false)⟩,
      ⟨.bin .lss .plain (.t 24) (.c (.p (.i .i64 0))), some 25, some (23, false)⟩,
      ⟨.pick (.t 23) (.c (.p (.b true))) (.t 25), some 26, none⟩,
      ⟨.mv (.t 26), some 18, none⟩])
    (.keep [1, 2, 3, 4, 8, 18] (.cond (.t 18)
    (.seq (.reg false [] [⟨.build (J4 default) [], some 27, none⟩,
        ⟨.store 34 (.t 8) (.t 27), none, none⟩,
        ⟨.mv (.c (.p (.i .i64 1))), some 9, none⟩])
      (.ret))
    (.skip))))))))
  (.seq (.reg false [] [⟨.mv (.t 3), some 29, none⟩,
    ⟨.mv (.t 1), some 30, none⟩,
    ⟨.call J4s [(.t 29), (.t 30)] 0, some 31, none⟩,
    ⟨.mv (.t 31), some 28, none⟩,
    ⟨.extr (.t 28) 0, some 32, none⟩,
    ⟨.extr (.t 28) 1, some 33, none⟩,
    ⟨.newbox (J4 default), some 10, none⟩,
    ⟨.store 34 (.t 10) (.t 32), none, none⟩,
    ⟨.mv (.t 33), some 11, none⟩])
  (.keep [1, 2, 4, 8, 10, 11] (.seq (.seq (.reg false [] [⟨.faddr 0 (.t 4), some 34, none⟩,
    ⟨.load false 1 (.t 34), some 35, none⟩,
    ⟨.mv (.t 1), some 36, none⟩,
    ⟨.iaddr 3 (.t 35) (.t 36), some 37, none⟩,
    ⟨.faddr 0 (.t 37), some 38, none⟩,
    ⟨.load false 1 (.t 38), some 39, none⟩,
    ⟨.mv (.t 39), some 12, none⟩])
  (.keep [2, 8, 10, 11, 12] (.block 1 (.seq (.reg false [] [⟨.mv (.t 11), some 41, none⟩,
    ⟨.bin .neq .plain (.t 41) (.c (.p (.i .i64 0))), some 42, none⟩,
    ⟨.mv (.t 42), some 40, none⟩])
  (.keep [2, 8, 10, 11, 12, 40] (.cond (.t 40)
  (.seq (.reg false [] [⟨.build (J4 default) [], some 43, none⟩,
      ⟨.mv (.t 11), some 44, none⟩,
      ⟨.store 34 (.t 8) (.t 43), none, none⟩,
      ⟨.mv (.t 44), some 9, none⟩])
    (.ret))
  (.seq (.reg false [] [⟨.faddr 1 (.t 10), some 46, none⟩,
      ⟨.load false 1 (.t 46), some 47, none⟩,
      ⟨.mv (.t 2), some 48, none⟩,
      ⟨.bin .gtr .plain (.t 47) (.t 48), some 49, none⟩,
      ⟨.mv (.t 49), some 50, none⟩,
      ⟨.faddr 1 (.t 10), some 51, some (50, true)⟩,
      ⟨.load false 1 (.t 51), some 52, some (50, true)⟩,
      ⟨.mv (.t 12), some 53, some (50, true)⟩,
      ⟨.bin .gtr .plain (.t 52) (.t 53), some 54, some (50, true)⟩,
      ⟨.pick (.t 50) (.t 54) (.c (.p (.b false))), some 55, none⟩,
      ⟨.mv (.t 55), some 45, none⟩])
    (.keep [8, 10, 12, 45] (.cond (.t 45)
    (.seq (.reg false [] [⟨.build (J4 default) [], some 56, none⟩,
        ⟨.store 34 (.t 8) (.t 56), none, none⟩,
        ⟨.mv (.c (.p (.i .i64 9))), some 9, none⟩])
      (.ret))
    (.seq (.reg false [] [⟨.faddr 1 (.t 10), some 58, none⟩,
        ⟨.load false 1 (.t 58), some 59, none⟩,
        ⟨.mv (.t 12), some 60, none⟩,
        ⟨.bin .lss .plain (.t 59) (.t 60), some 61, none⟩,
        ⟨.mv (.t 61), some 57, none⟩])
      (.keep [8, 10, 57] (.cond (.t 57)
      (.seq (.reg false [] [⟨.build (J4 default) [], some 62, none⟩,
          ⟨.store 34 (.t 8) (.t 62), none, none⟩,
          ⟨.mv (.c (.p (.i .i64 8))), some 9, none⟩])
        (.ret))
      (.skip)))))))))))))
  (.seq (.reg false [] [⟨.load true 34 (.t 10), some 63, none⟩,
    ⟨.store 34 (.t 8) (.t 63), none, none⟩,
    ⟨.mv (.c (.p (.i .i64 0))), some 9, none⟩])
  (.ret)))))))
def J3F : AFn := ⟨4, 64, J03, [.cell 8 true 34, .tmp 9], false⟩
def J8n : Jl := .seq (.reg false [] [⟨.newbox (J4 default), some 4, none⟩,
    ⟨.mv (.c (.p (.i .i64 0))), some 5, none⟩])
  (.seq (.seq (.reg false [] [⟨.mv (.t 1), some 8, none⟩,
    ⟨.bin .lss .plain (.t 8) (.c (.p (.i .i64 0))), some 9, none⟩,
    ⟨.mv (.t 9), some 10, none⟩,
    ⟨.mv (.t 1), some 11, some (10, false)⟩,
    ⟨.bin .geq .plain (.t 11) (.c (.p (.i .i64 64))), some 12, some (10, false)⟩,
    ⟨.pick (.t 10) (.c (.p (.b true))) (.t 12), some 13, none⟩])
  (.keep [0, 1, 4, 13] (.cond (.t 13)
  (.seq (.reg false [] [⟨.build (J4 default) [], some 14, none⟩,
      ⟨.store 34 (.t 4) (.t 14), none, none⟩,
      ⟨.mv (.c (.p (.i .i64 1))), some 5, none⟩])
    (.ret))
  (.skip))))
  (.seq (.reg false [] [⟨.mv (.t 0), some 16, none⟩,
    ⟨.call J9m [(.t 16)] 0, some 17, none⟩,
    ⟨.mv (.t 17), some 15, none⟩,
    ⟨.extr (.t 15) 0, some 18, none⟩,
    ⟨.extr (.t 15) 1, some 19, none⟩,
    ⟨.newbox (J4 default), some 6, none⟩,
    ⟨.store 34 (.t 6) (.t 18), none, none⟩,
    ⟨.mv (.t 19), some 7, none⟩])
  (.keep [1, 4, 6, 7] (.seq (.seq (.reg false [] [⟨.mv (.t 7), some 20, none⟩,
    ⟨.bin .eql .plain (.t 20) (.c (.p (.i .i64 7))), some 21, none⟩])
  (.cond (.t 21)
  (.seq (.reg false [] [⟨.mv (.t 1), some 22, none⟩,
      ⟨.call Jc0 [(.t 22)] 0, some 23, none⟩,
      ⟨.store 34 (.t 4) (.t 23), none, none⟩,
      ⟨.mv (.c (.p (.i .i64 0))), some 5, none⟩])
    (.ret))
  (.skip)))
  (.seq (.seq (.reg false [] [⟨.mv (.t 7), some 24, none⟩,
    ⟨.bin .eql .plain (.t 24) (.c (.p (.i .i64 0))), some 25, none⟩,
    ⟨.mv (.t 25), some 26, none⟩,
    ⟨.faddr 0 (.t 6), some 27, some (26, true)⟩,
    ⟨.load false 1 (.t 27), some 28, some (26, true)⟩,
    ⟨.mv (.t 1), some 29, some (26, true)⟩,
    ⟨.bin .neq .plain (.t 28) (.t 29), some 30, some (26, true)⟩,
    ⟨.pick (.t 26) (.t 30) (.c (.p (.b false))), some 31, none⟩])
  (.keep [4, 6, 7, 31] (.cond (.t 31)
  (.seq (.reg false [] [⟨.build (J4 default) [], some 32, none⟩,
      ⟨.store 34 (.t 4) (.t 32), none, none⟩,
      ⟨.mv (.c (.p (.i .i64 6))), some 5, none⟩])
    (.ret))
  (.skip))))
  (.seq (.reg false [] [⟨.load true 34 (.t 6), some 33, none⟩,
    ⟨.mv (.t 7), some 34, none⟩,
    ⟨.store 34 (.t 4) (.t 33), none, none⟩,
    ⟨.mv (.t 34), some 5, none⟩])
  (.ret)))))))
def Jbc : AFn := ⟨2, 35, J8n, [.cell 4 true 34, .tmp 5], false⟩
def Jt : Jl := .seq (.reg false [] [⟨.mv (.c (.p (.b false))), some 6, none⟩])
  (.seq (.seq (.reg false [] [⟨.call J4D [] 0, some 30, none⟩,
    ⟨.un .not (.t 30), some 31, none⟩])
  (.cond (.t 31)
  (.seq (.reg false [] [⟨.mv (.c (.p (.b false))), some 6, none⟩])
    (.ret))
  (.skip)))
  (.seq (.reg false [] [⟨.mv (.t 0), some 32, none⟩,
    ⟨.call J6u [(.t 32), (.c (.p (.i .i64 200)))] 1, some 33, none⟩,
    ⟨.mv (.t 33), some 7, none⟩])
  (.keep [1, 2, 7] (.seq (.reg false [] [⟨.mv (.t 7), some 34, none⟩,
    ⟨.call J1O [(.t 34), (.c (.p (.i .i64 1)))] 0, some 35, none⟩,
    ⟨.mv (.t 7), some 36, none⟩,
    ⟨.call J1O [(.t 36), (.c (.p (.i .i64 1)))] 0, some 37, none⟩,
    ⟨.newbox (J4 default), some 8, none⟩,
    ⟨.newbox (J4 default), some 9, none⟩,
    ⟨.store 34 (.t 8) (.t 35), none, none⟩,
    ⟨.store 34 (.t 9) (.t 37), none, none⟩])
  (.keep [1, 2, 8, 9] (.seq (.reg false [] [⟨.mv (.t 1), some 38, none⟩,
    ⟨.conv (.int .i64) (.t 38), some 39, none⟩,
    ⟨.bin .rem .plain (.t 39) (.c (.p (.i .i64 20))), some 40, none⟩,
    ⟨.bin .add .plain (.c (.p (.i .i64 1))) (.t 40), some 41, none⟩,
    ⟨.faddr 1 (.t 8), some 42, none⟩,
    ⟨.store 1 (.t 42) (.t 41), none, none⟩])
  (.keep [2, 8, 9] (.seq (.reg false [] [⟨.faddr 1 (.t 8), some 43, none⟩,
    ⟨.load false 1 (.t 43), some 44, none⟩,
    ⟨.bin .add .plain (.t 44) (.c (.p (.i .i64 1))), some 45, none⟩,
    ⟨.mv (.t 2), some 46, none⟩,
    ⟨.conv (.int .i64) (.t 46), some 47, none⟩,
    ⟨.bin .rem .plain (.t 47) (.c (.p (.i .i64 20))), some 48, none⟩,
    ⟨.bin .add .plain (.t 45) (.t 48), some 49, none⟩,
    ⟨.faddr 1 (.t 9), some 50, none⟩,
    ⟨.store 1 (.t 50) (.t 49), none, none⟩])
  (.keep [8, 9] (.seq (.reg false [] [⟨.load true 34 (.t 8), some 52, none⟩,
    ⟨.call J3R [(.t 52)] 0, some 53, none⟩,
    ⟨.mv (.t 53), some 51, none⟩,
    ⟨.extr (.t 51) 0, some 54, none⟩,
    ⟨.extr (.t 51) 1, some 55, none⟩,
    ⟨.mv (.t 54), some 10, none⟩,
    ⟨.mv (.t 55), some 11, none⟩])
  (.keep [9, 10, 11] (.seq (.reg false [] [⟨.load true 34 (.t 9), some 57, none⟩,
    ⟨.call J3R [(.t 57)] 0, some 58, none⟩,
    ⟨.mv (.t 58), some 56, none⟩,
    ⟨.extr (.t 56) 0, some 59, none⟩,
    ⟨.extr (.t 56) 1, some 60, none⟩,
    ⟨.mv (.t 59), some 12, none⟩,
    ⟨.mv (.t 60), some 13, none⟩])
  (.keep [9, 10, 11, 12, 13] (.seq (.reg false [] [⟨.call J3x [(.c (.p (.i .i64 3)))] 0, some 62, none⟩,
    ⟨.mv (.t 62), some 61, none⟩,
    ⟨.extr (.t 61) 0, some 63, none⟩,
    ⟨.extr (.t 61) 1, some 64, none⟩,
    ⟨.newbox (JE default), some 14, none⟩,
    ⟨.store 1 (.t 14) (.t 63), none, none⟩,
    ⟨.mv (.t 64), some 15, none⟩])
  (.keep [9, 10, 11, 12, 13, 14, 15] (.seq (.reg false [] [⟨.load true 1 (.t 14), some 66, none⟩,
    ⟨.faddr 1 (.t 9), some 67, none⟩,
    ⟨.load false 1 (.t 67), some 68, none⟩,
    ⟨.build (J9 default) [(0, 1, (.c (.p (.i .i64 1))))], some 69, none⟩,
    ⟨.build (J3 default) [(0, 1, (.c (.p (.i .i64 90)))), (1, 1, (.c (.p (.i .i64 7)))), (5, 1, (.t 68)), (6, 6, (.t 69))], some 70, none⟩,
    ⟨.call J2o [(.t 66), (.t 70)] 0, some 71, none⟩,
    ⟨.mv (.t 71), some 65, none⟩,
    ⟨.extr (.t 65) 0, some 72, none⟩,
    ⟨.extr (.t 65) 1, some 73, none⟩,
    ⟨.newbox (JE default), some 16, none⟩,
    ⟨.store 1 (.t 16) (.t 72), none, none⟩,
    ⟨.mv (.t 73), some 17, none⟩])
  (.keep [9, 10, 11, 12, 13, 14, 15, 16, 17] (.seq (.seq (.reg false [] [⟨.mv (.t 11), some 74, none⟩,
    ⟨.bin .neq .plain (.t 74) (.c (.p (.i .i64 0))), some 75, none⟩,
    ⟨.mv (.t 75), some 76, none⟩,
    ⟨.mv (.t 13), some 77, some (76, false)⟩,
    ⟨.bin .neq .plain (.t 77) (.c (.p (.i .i64 0))), some 78, some (76, false)⟩,
    ⟨.pick (.t 76) (.c (.p (.b true))) (.t 78), some 79, none⟩,
    ⟨.mv (.t 79), some 80, none⟩,
    ⟨.mv (.t 15), some 81, some (80, false)⟩,
    ⟨.bin .neq .plain (.t 81) (.c (.p (.i .i64 0))), some 82, some (80, false)⟩,
    ⟨.pick (.t 80) (.c (.p (.b true))) (.t 82), some 83, none⟩,
    ⟨.mv (.t 83), some 84, none⟩,
    ⟨.mv (.t 17), some 85, some (84, false)⟩,
    ⟨.bin .neq .plain (.t 85) (.c (.p (.i .i64 0))), some 86, some (84, false)⟩,
    ⟨.pick (.t 84) (.c (.p (.b true))) (.t 86), some 87, none⟩])
  (.keep [9, 10, 12, 14, 16, 87] (.cond (.t 87)
  (.seq (.reg false [] [⟨.mv (.c (.p (.b false))), some 6, none⟩])
    (.ret))
  (.skip))))
  (.seq (.reg false [] [⟨.load true 1 (.t 16), some 89, none⟩,
    ⟨.faddr 1 (.t 9), some 90, none⟩,
    ⟨.load false 1 (.t 90), some 91, none⟩,
    ⟨.mv (.t 10), some 92, none⟩,
    ⟨.call J0G [(.t 89), (.c (.p (.i .i64 1))), (.t 91), (.t 92)] 0, some 93, none⟩,
    ⟨.mv (.t 93), some 88, none⟩,
    ⟨.extr (.t 88) 0, some 94, none⟩,
    ⟨.extr (.t 88) 1, some 95, none⟩,
    ⟨.newbox (J4 default), some 18, none⟩,
    ⟨.store 34 (.t 18) (.t 94), none, none⟩,
    ⟨.mv (.t 95), some 19, none⟩])
  (.keep [9, 12, 14, 16, 19] (.seq (.reg true [(0, 3), (2, 3), (0, 8), (2, 8), (3, 8), (4, 8)] [⟨.load true 1 (.t 16), some 97, none⟩,
    ⟨.faddr 1 (.t 9), some 98, none⟩,
    ⟨.load false 1 (.t 98), some 99, none⟩,
    ⟨.call J4j [] 0, some 100, none⟩,
    ⟨.call J0G [(.t 97), (.c (.p (.i .i64 1))), (.t 99), (.t 100)] 0, some 101, none⟩,
    ⟨.mv (.t 101), some 96, none⟩,
    ⟨.extr (.t 96) 0, some 102, none⟩,
    ⟨.extr (.t 96) 1, some 103, none⟩,
    ⟨.newbox (J4 default), some 20, none⟩,
    ⟨.store 34 (.t 20) (.t 102), none, none⟩,
    ⟨.mv (.t 103), some 21, none⟩])
  (.keep [9, 12, 14, 16, 19, 21] (.seq (.reg false [] [⟨.load true 1 (.t 16), some 105, none⟩,
    ⟨.mv (.t 12), some 106, none⟩,
    ⟨.call J0G [(.t 105), (.c (.p (.i .i64 2))), (.c (.p (.i .i64 0))), (.t 106)] 0, some 107, none⟩,
    ⟨.mv (.t 107), some 104, none⟩,
    ⟨.extr (.t 104) 0, some 108, none⟩,
    ⟨.extr (.t 104) 1, some 109, none⟩,
    ⟨.newbox (J4 default), some 22, none⟩,
    ⟨.store 34 (.t 22) (.t 108), none, none⟩,
    ⟨.mv (.t 109), some 23, none⟩])
  (.keep [9, 12, 14, 16, 19, 21, 23] (.seq (.reg false [] [⟨.load true 1 (.t 16), some 111, none⟩,
    ⟨.faddr 1 (.t 9), some 112, none⟩,
    ⟨.load false 1 (.t 112), some 113, none⟩,
    ⟨.mv (.t 12), some 114, none⟩,
    ⟨.call J0G [(.t 111), (.c (.p (.i .i64 1))), (.t 113), (.t 114)] 0, some 115, none⟩,
    ⟨.mv (.t 115), some 110, none⟩,
    ⟨.extr (.t 110) 0, some 116, none⟩,
    ⟨.extr (.t 110) 1, some 117, none⟩,
    ⟨.newbox (J4 default), some 24, none⟩,
    ⟨.store 34 (.t 24) (.t 116), none, none⟩,
    ⟨.mv (.t 117), some 25, none⟩])
  (.keep [9, 12, 14, 19, 21, 23, 24, 25] (.seq (.reg false [] [⟨.load true 1 (.t 14), some 119, none⟩,
    ⟨.faddr 1 (.t 9), some 120, none⟩,
    ⟨.load false 1 (.t 120), some 121, none⟩,
    ⟨.mv (.t 12), some 122, none⟩,
    ⟨.call J0G [(.t 119), (.c (.p (.i .i64 1))), (.t 121), (.t 122)] 0, some 123, none⟩,
    ⟨.mv (.t 123), some 118, none⟩,
    ⟨.extr (.t 118) 0, some 124, none⟩,
    ⟨.extr (.t 118) 1, some 125, none⟩,
    ⟨.newbox (J4 default), some 26, none⟩,
    ⟨.store 34 (.t 26) (.t 124), none, none⟩,
    ⟨.mv (.t 125), some 27, none⟩])
  (.keep [9, 12, 14, 19, 21, 23, 24, 25, 26, 27] (.seq (.reg false [] [⟨.load true 1 (.t 14), some 127, none⟩,
    ⟨.faddr 1 (.t 9), some 128, none⟩,
    ⟨.load false 1 (.t 128), some 129, none⟩,
    ⟨.bin .sub .plain (.t 129) (.c (.p (.i .i64 1))), some 130, none⟩,
    ⟨.mv (.t 12), some 131, none⟩,
    ⟨.call J0G [(.t 127), (.c (.p (.i .i64 1))), (.t 130), (.t 131)] 0, some 132, none⟩,
    ⟨.mv (.t 132), some 126, none⟩,
    ⟨.extr (.t 126) 0, some 133, none⟩,
    ⟨.extr (.t 126) 1, some 134, none⟩,
    ⟨.newbox (J4 default), some 28, none⟩,
    ⟨.store 34 (.t 28) (.t 133), none, none⟩,
    ⟨.mv (.t 134), some 29, none⟩])
  (.keep [9, 19, 21, 23, 24, 25, 26, 27, 29] (.seq (.reg false [] [⟨.mv (.t 19), some 135, none⟩,
    ⟨.bin .eql .plain (.t 135) (.c (.p (.i .i64 8))), some 136, none⟩,
    ⟨.mv (.t 136), some 137, none⟩,
    ⟨.mv (.t 21), some 138, some (137, true)⟩,
    ⟨.bin .eql .plain (.t 138) (.c (.p (.i .i64 8))), some 139, some (137, true)⟩,
    ⟨.pick (.t 137) (.t 139) (.c (.p (.b false))), some 140, none⟩,
    ⟨.mv (.t 140), some 141, none⟩,
    ⟨.mv (.t 23), some 142, some (141, true)⟩,
    ⟨.bin .eql .plain (.t 142) (.c (.p (.i .i64 6))), some 143, some (141, true)⟩,
    ⟨.pick (.t 141) (.t 143) (.c (.p (.b false))), some 144, none⟩,
    ⟨.mv (.t 144), some 145, none⟩,
    ⟨.mv (.t 25), some 146, some (145, true)⟩,
    ⟨.bin .eql .plain (.t 146) (.c (.p (.i .i64 0))), some 147, some (145, true)⟩,
    ⟨.pick (.t 145) (.t 147) (.c (.p (.b false))), some 148, none⟩,
    ⟨.mv (.t 148), some 149, none⟩,
    ⟨.load true 34 (.t 24), some 150, some (149, true)⟩,
    ⟨.load true 34 (.t 9), some 151, some (149, true)⟩,
    ⟨.bin .eql (.flat [(.i .i64), (.i .i64), .b, .s, .b, .s, .b, .s, .b, .s, .b, .s, .b, .s, .b, .s, .b, .s, .b, .s, .b, .s, .b, .s, .b, .s, .b, .s, .b, .s, .b, .s, .b, .s]) (.t 150) (.t 151), some 152, some (149, true)⟩,
    ⟨.pick (.t 149) (.t 152) (.c (.p (.b false))), some 153, none⟩,
    ⟨.mv (.t 153), some 154, none⟩,
    ⟨.mv (.t 27), some 155, some (154, true)⟩,
    ⟨.bin .eql .plain (.t 155) (.c (.p (.i .i64 0))), some 156, some (154, true)⟩,
    ⟨.pick (.t 154) (.t 156) (.c (.p (.b false))), some 157, none⟩,
    ⟨.mv (.t 157), some 158, none⟩,
    ⟨.load true 34 (.t 26), some 159, some (158, true)⟩,
    ⟨.load true 34 (.t 9), some 160, some (158, true)⟩,
    ⟨.bin .eql (.flat [(.i .i64), (.i .i64), .b, .s, .b, .s, .b, .s, .b, .s, .b, .s, .b, .s, .b, .s, .b, .s, .b, .s, .b, .s, .b, .s, .b, .s, .b, .s, .b, .s, .b, .s, .b, .s]) (.t 159) (.t 160), some 161, some (158, true)⟩,
    ⟨.pick (.t 158) (.t 161) (.c (.p (.b false))), some 162, none⟩,
    ⟨.mv (.t 162), some 163, none⟩,
    ⟨.mv (.t 29), some 164, some (163, true)⟩,
    ⟨.bin .eql .plain (.t 164) (.c (.p (.i .i64 9))), some 165, some (163, true)⟩,
    ⟨.pick (.t 163) (.t 165) (.c (.p (.b false))), some 166, none⟩,
    ⟨.mv (.t 166), some 6, none⟩])
  (.ret))))))))))))))))))))))))))))))))
def J2d : AFn := ⟨3, 167, Jt, [.tmp 6], false⟩
def Jaa : Jl := .seq (.reg false [] [⟨.box 1 (.t 0), some 4, none⟩,
    ⟨.newbox (J4 default), some 8, none⟩,
    ⟨.mv (.c (.p (.i .i64 0))), some 9, none⟩])
  (.keep [1, 2, 3, 4, 8] (.seq (.seq (.reg false [] [⟨.load true 1 (.t 4), some 12, none⟩,
    ⟨.call Ja2 [(.t 12)] 0, some 13, none⟩,
    ⟨.un .not (.t 13), some 14, none⟩])
  (.keep [1, 2, 3, 4, 8, 14] (.cond (.t 14)
  (.seq (.reg false [] [⟨.build (J4 default) [], some 15, none⟩,
      ⟨.store 34 (.t 8) (.t 15), none, none⟩,
      ⟨.mv (.c (.p (.i .i64 28))), some 9, none⟩])
    (.ret))
  (.skip))))
  (.seq (.seq (.reg false [] [⟨.mv (.t 1), some 16, none⟩,
    ⟨.bin .lss .plain (.t 16) (.c (.p (.i .i64 0))), some 17, none⟩,
    ⟨.mv (.t 17), some 18, none⟩,
    ⟨.mv (.t 1), some 19, some (18, false)⟩,
    ⟨.faddr 0 (.t 4), some 20, some (18, false)⟩,
    ⟨.load false 1 (.t 20), some 21, some (18, false)⟩,
    ⟨.len false (.t 21), some 22, some (18, false)⟩,
    ⟨.bin .geq .plain (.t 19) (.t 22), some 23, some (18, false)⟩,
    ⟨.pick (.t 18) (.c (.p (.b true))) (.t 23), some 24, none⟩,
    ⟨.mv (.t 24), some 25, none⟩,
    ⟨.mv (.t 2), some 26, some (25, false)⟩,
    ⟨.bin .lss .plain (.t 26) (.c (.p (.i .i64 0))), some 27, some (25, false)⟩,
    ⟨.pick (.t 25) (.c (.p (.b true))) (.t 27), some 28, none⟩])
  (.keep [1, 2, 3, 4, 8, 28] (.cond (.t 28)
  (.seq (.reg false [] [⟨.build (J4 default) [], some 29, none⟩,
      ⟨.store 34 (.t 8) (.t 29), none, none⟩,
      ⟨.mv (.c (.p (.i .i64 1))), some 9, none⟩])
    (.ret))
  (.skip))))
  (.seq (.reg false [] [⟨.mv (.t 3), some 31, none⟩,
    ⟨.mv (.t 1), some 32, none⟩,
    ⟨.call J8o [(.t 31), (.t 32)] 0, some 33, none⟩,
    ⟨.mv (.t 33), some 30, none⟩,
    ⟨.extr (.t 30) 0, some 34, none⟩,
    ⟨.extr (.t 30) 1, some 35, none⟩,
    ⟨.newbox (J4 default), some 10, none⟩,
    ⟨.store 34 (.t 10) (.t 34), none, none⟩,
    ⟨.mv (.t 35), some 11, none⟩])
  (.keep [1, 2, 4, 8, 10, 11] (.seq (.block 0 (.seq (.reg false [] [⟨.mv (.t 11), some 37, none⟩,
    ⟨.bin .neq .plain (.t 37) (.c (.p (.i .i64 0))), some 38, none⟩,
    ⟨.mv (.t 38), some 36, none⟩])
  (.keep [1, 2, 4, 8, 10, 11, 36] (.cond (.t 36)
  (.seq (.reg false [] [⟨.build (J4 default) [], some 39, none⟩,
      ⟨.mv (.t 11), some 40, none⟩,
      ⟨.store 34 (.t 8) (.t 39), none, none⟩,
      ⟨.mv (.t 40), some 9, none⟩])
    (.ret))
  (.seq (.reg true [] [⟨.faddr 1 (.t 10), some 42, none⟩,
      ⟨.load false 1 (.t 42), some 43, none⟩,
      ⟨.mv (.t 2), some 44, none⟩,
      ⟨.bin .gtr .plain (.t 43) (.t 44), some 45, none⟩,
      ⟨.mv (.t 45), some 46, none⟩,
      ⟨.faddr 1 (.t 10), some 47, some (46, true)⟩,
      ⟨.load false 1 (.t 47), some 48, some (46, true)⟩,
      ⟨.faddr 0 (.t 4), some 49, some (46, true)⟩,
      ⟨.load false 1 (.t 49), some 50, some (46, true)⟩,
      ⟨.mv (.t 1), some 51, some (46, true)⟩,
      ⟨.iaddr 3 (.t 50) (.t 51), some 52, some (46, true)⟩,
      ⟨.faddr 0 (.t 52), some 53, some (46, true)⟩,
      ⟨.load false 1 (.t 53), some 54, some (46, true)⟩,
      ⟨.bin .gtr .plain (.t 48) (.t 54), some 55, some (46, true)⟩,
      ⟨.pick (.t 46) (.t 55) (.c (.p (.b false))), some 56, none⟩,
      ⟨.mv (.t 56), some 41, none⟩])
    (.keep [1, 4, 8, 10, 41] (.cond (.t 41)
    (.seq (.reg false [] [⟨.build (J4 default) [], some 57, none⟩,
        ⟨.store 34 (.t 8) (.t 57), none, none⟩,
        ⟨.mv (.c (.p (.i .i64 9))), some 9, none⟩])
      (.ret))
    (.seq (.reg true [] [⟨.faddr 1 (.t 10), some 59, none⟩,
        ⟨.load false 1 (.t 59), some 60, none⟩,
        ⟨.faddr 0 (.t 4), some 61, none⟩,
        ⟨.load false 1 (.t 61), some 62, none⟩,
        ⟨.mv (.t 1), some 63, none⟩,
        ⟨.iaddr 3 (.t 62) (.t 63), some 64, none⟩,
        ⟨.faddr 0 (.t 64), some 65, none⟩,
        ⟨.load false 1 (.t 65), some 66, none⟩,
        ⟨.bin .lss .plain (.t 60) (.t 66), some 67, none⟩,
        ⟨.mv (.t 67), some 58, none⟩])
      (.keep [8, 10, 58] (.cond (.t 58)
      (.seq (.reg false [] [⟨.build (J4 default) [], some 68, none⟩,
          ⟨.store 34 (.t 8) (.t 68), none, none⟩,
          ⟨.mv (.c (.p (.i .i64 8))), some 9, none⟩])
        (.ret))
      (.skip)))))))))))
  (.seq (.reg false [] [⟨.load true 34 (.t 10), some 69, none⟩,
    ⟨.store 34 (.t 8) (.t 69), none, none⟩,
    ⟨.mv (.c (.p (.i .i64 0))), some 9, none⟩])
  (.ret))))))))
def JdL : AFn := ⟨4, 70, Jaa, [.cell 8 true 34, .tmp 9], false⟩
def Jaw : Jl := .seq (.reg false [] [⟨.bin .lss .plain (.t 103) (.t 102), some 104, none⟩])
  (.seq (.cond (.t 104)
  (.skip)
  (.exit 4))
  (.seq (.block 5 (.seq (.reg false [] [⟨.iaddr 2 (.t 101) (.t 103), some 105, none⟩,
    ⟨.load true 2 (.t 105), some 106, none⟩,
    ⟨.newbox (J07 (r_i .i64) (Vector.replicate 2 (0 : Int))), some 21, none⟩,
    ⟨.store 2 (.t 21) (.t 106), none, none⟩])
  (.keep [2, 3, 4, 11, 13, 14, 17, 19, 21, 66, 67, 68, 78, 79, 80, 101, 102, 103] (.seq (.reg false [] [⟨.load true 1 (.t 17), some 108, none⟩,
    ⟨.aaddr 2 1 (.t 21) (.c (.p (.i .i64 0))), some 109, none⟩,
    ⟨.load false 1 (.t 109), some 110, none⟩,
    ⟨.aaddr 2 1 (.t 21) (.c (.p (.i .i64 1))), some 111, none⟩,
    ⟨.load false 1 (.t 111), some 112, none⟩,
    ⟨.mv (.t 19), some 113, none⟩,
    ⟨.call J0G [(.t 108), (.t 110), (.t 112), (.t 113)] 0, some 114, none⟩,
    ⟨.mv (.t 114), some 107, none⟩,
    ⟨.extr (.t 107) 0, some 115, none⟩,
    ⟨.extr (.t 107) 1, some 116, none⟩,
    ⟨.newbox (J4 default), some 22, none⟩,
    ⟨.store 34 (.t 22) (.t 115), none, none⟩,
    ⟨.mv (.t 116), some 23, none⟩])
  (.keep [2, 3, 4, 11, 13, 14, 17, 19, 21, 22, 23, 66, 67, 68, 78, 79, 80, 101, 102, 103] (.seq (.reg false [] [⟨.load true 1 (.t 17), some 118, none⟩,
    ⟨.aaddr 2 1 (.t 21) (.c (.p (.i .i64 0))), some 119, none⟩,
    ⟨.load false 1 (.t 119), some 120, none⟩,
    ⟨.aaddr 2 1 (.t 21) (.c (.p (.i .i64 1))), some 121, none⟩,
    ⟨.load false 1 (.t 121), some 122, none⟩,
    ⟨.mv (.t 19), some 123, none⟩,
    ⟨.call Ja0 [(.t 118), (.t 120), (.t 122), (.t 123)] 0, some 124, none⟩,
    ⟨.mv (.t 124), some 117, none⟩,
    ⟨.extr (.t 117) 0, some 125, none⟩,
    ⟨.extr (.t 117) 1, some 126, none⟩,
    ⟨.newbox (J4 default), some 24, none⟩,
    ⟨.store 34 (.t 24) (.t 125), none, none⟩,
    ⟨.mv (.t 126), some 25, none⟩])
  (.keep [2, 3, 4, 11, 13, 14, 17, 19, 22, 23, 24, 25, 66, 67, 68, 78, 79, 80, 101, 102, 103] (.seq (.reg false [] [⟨.load true 34 (.t 22), some 127, none⟩,
    ⟨.load true 34 (.t 24), some 128, none⟩,
    ⟨.bin .neq (.flat [(.i .i64), (.i .i64), .b, .s, .b, .s, .b, .s, .b, .s, .b, .s, .b, .s, .b, .s, .b, .s, .b, .s, .b, .s, .b, .s, .b, .s, .b, .s, .b, .s, .b, .s, .b, .s]) (.t 127) (.t 128), some 129, none⟩,
    ⟨.mv (.t 129), some 130, none⟩,
    ⟨.mv (.t 23), some 131, some (130, false)⟩,
    ⟨.mv (.t 25), some 132, some (130, false)⟩,
    ⟨.bin .neq .plain (.t 131) (.t 132), some 133, some (130, false)⟩,
    ⟨.pick (.t 130) (.c (.p (.b true))) (.t 133), some 134, none⟩])
  (.keep [2, 3, 4, 11, 13, 14, 17, 19, 66, 67, 68, 78, 79, 80, 101, 102, 103, 134] (.cond (.t 134)
  (.seq (.reg false [] [⟨.mv (.c (.p (.b false))), some 10, none⟩])
    (.ret))
  (.skip)))))))))))
  (.reg false [] [⟨.bin .add .plain (.t 103) (.c (.p (.i .i64 1))), some 135, none⟩,
    ⟨.mv (.t 135), some 103, none⟩])))
def JaI : Jl := .reg false [] [⟨.bin .add .plain (.t 80) (.c (.p (.i .i64 1))), some 136, none⟩,
    ⟨.mv (.t 136), some 80, none⟩]
def Jaz : Jl := .seq (.reg false [] [⟨.bin .lss .plain (.t 80) (.t 79), some 81, none⟩])
  (.seq (.cond (.t 81)
  (.skip)
  (.exit 2))
  (.seq (.tidy [2, 3, 4, 10, 11, 13, 14, 17, 66, 67, 68, 78, 79, 80] (.block 3 (.seq (.reg false [] [⟨.iaddr 1 (.t 78) (.t 80), some 82, none⟩,
    ⟨.load false 1 (.t 82), some 83, none⟩,
    ⟨.mv (.t 83), some 19, none⟩])
  (.keep [2, 3, 4, 11, 13, 14, 17, 19, 66, 67, 68, 78, 79, 80] (.seq (.reg true [(4, 10), (8, 10), (4, 13), (8, 13), (4, 15), (8, 15)] [⟨.mv (.t 2), some 84, none⟩,
    ⟨.mv (.t 3), some 85, none⟩,
    ⟨.build (J07 (r_i .i64) (Vector.replicate 2 (0 : Int))) [(0, 1, (.t 84)), (1, 1, (.t 85))], some 86, none⟩,
    ⟨.faddr 0 (.t 13), some 87, none⟩,
    ⟨.load false 1 (.t 87), some 88, none⟩,
    ⟨.mv (.t 3), some 89, none⟩,
    ⟨.build (J07 (r_i .i64) (Vector.replicate 2 (0 : Int))) [(0, 1, (.t 88)), (1, 1, (.t 89))], some 90, none⟩,
    ⟨.faddr 0 (.t 13), some 91, none⟩,
    ⟨.load false 1 (.t 91), some 92, none⟩,
    ⟨.mv (.t 11), some 93, none⟩,
    ⟨.call Jk [(.t 93), (.c (.p (.i .i64 60)))] 0, some 94, none⟩,
    ⟨.build (J07 (r_i .i64) (Vector.replicate 2 (0 : Int))) [(0, 1, (.t 92)), (1, 1, (.t 94))], some 95, none⟩,
    ⟨.mv (.t 11), some 96, none⟩,
    ⟨.call Jk [(.t 96), (.c (.p (.i .i64 6)))] 0, some 97, none⟩,
    ⟨.mv (.t 11), some 98, none⟩,
    ⟨.call Jk [(.t 98), (.c (.p (.i .i64 60)))] 0, some 99, none⟩,
    ⟨.build (J07 (r_i .i64) (Vector.replicate 2 (0 : Int))) [(0, 1, (.t 97)), (1, 1, (.t 99))], some 100, none⟩,
    ⟨.lits false 2 4 (J07 (r_i .i64) (Vector.replicate 2 (0 : Int))) [(0, (.t 86)), (1, (.t 90)), (2, (.t 95)), (3, (.t 100))], some 101, none⟩,
    ⟨.len false (.t 101), some 102, none⟩,
    ⟨.mv (.c (.p (.i .i64 0))), some 103, none⟩])
  (.keep [2, 3, 4, 11, 13, 14, 17, 19, 66, 67, 68, 78, 79, 80, 101, 102, 103] (.block 4 (.loop [2, 3, 4, 11, 13, 14, 17, 19, 66, 67, 68, 78, 79, 80, 101, 102, 103] Jaw))))))))
  (.keep [2, 3, 4, 11, 13, 14, 17, 66, 67, 68, 78, 79, 80] JaI)))
def JaA : Jl := .reg false [] [⟨.bin .add .plain (.t 68) (.c (.p (.i .i64 1))), some 137, none⟩,
    ⟨.mv (.t 137), some 68, none⟩]
def JaG : Jl := .seq (.reg false [] [⟨.bin .lss .plain (.t 68) (.t 67), some 69, none⟩])
  (.seq (.cond (.t 69)
  (.skip)
  (.exit 0))
  (.seq (.tidy [2, 3, 4, 10, 11, 13, 14, 66, 67, 68] (.block 1 (.seq (.reg false [] [⟨.iaddr 1 (.t 66) (.t 68), some 70, none⟩,
    ⟨.load true 1 (.t 70), some 71, none⟩,
    ⟨.newbox (JE default), some 17, none⟩,
    ⟨.store 1 (.t 17) (.t 71), none, none⟩])
  (.keep [2, 3, 4, 11, 13, 14, 17, 66, 67, 68] (.seq (.reg false [] [⟨.mv (.t 4), some 72, none⟩,
    ⟨.mv (.t 14), some 73, none⟩,
    ⟨.mv (.t 11), some 74, none⟩,
    ⟨.mv (.t 14), some 75, none⟩,
    ⟨.call J6S [(.t 74), (.t 75)] 0, some 76, none⟩,
    ⟨.call J8i [] 0, some 77, none⟩,
    ⟨.lits false 1 4 [(.s [])] [(0, (.t 72)), (1, (.t 73)), (2, (.t 76)), (3, (.t 77))], some 78, none⟩,
    ⟨.len false (.t 78), some 79, none⟩,
    ⟨.mv (.c (.p (.i .i64 0))), some 80, none⟩])
  (.keep [2, 3, 4, 11, 13, 14, 17, 66, 67, 68, 78, 79, 80] (.block 2 (.loop [2, 3, 4, 11, 13, 14, 17, 66, 67, 68, 78, 79, 80] Jaz))))))))
  (.keep [2, 3, 4, 11, 13, 14, 66, 67, 68] JaA)))
def JaF : Jl := .seq (.reg false [] [⟨.mv (.c (.p (.b true))), some 10, none⟩])
  (.ret)
def J5h : Jl := .seq (.reg false [] [⟨.box 1 (.t 1), some 6, none⟩,
    ⟨.mv (.c (.p (.b false))), some 10, none⟩])
  (.seq (.seq (.reg false [] [⟨.call J4D [] 0, some 26, none⟩,
    ⟨.un .not (.t 26), some 27, none⟩,
    ⟨.mv (.t 27), some 28, none⟩,
    ⟨.faddr 0 (.t 6), some 29, some (28, false)⟩,
    ⟨.load false 1 (.t 29), some 30, some (28, false)⟩,
    ⟨.len false (.t 30), some 31, some (28, false)⟩,
    ⟨.bin .gtr .plain (.t 31) (.c (.p (.i .i64 100))), some 32, some (28, false)⟩,
    ⟨.pick (.t 28) (.c (.p (.b true))) (.t 32), some 33, none⟩,
    ⟨.mv (.t 33), some 34, none⟩,
    ⟨.mv (.t 4), some 35, some (34, false)⟩,
    ⟨.len true (.t 35), some 36, some (34, false)⟩,
    ⟨.bin .gtr .plain (.t 36) (.c (.p (.i .i64 600))), some 37, some (34, false)⟩,
    ⟨.pick (.t 34) (.c (.p (.b true))) (.t 37), some 38, none⟩])
  (.keep [0, 2, 3, 4, 6, 38] (.cond (.t 38)
  (.seq (.reg false [] [⟨.faddr 0 (.t 6), some 39, none⟩,
      ⟨.load false 1 (.t 39), some 40, none⟩,
      ⟨.len false (.t 40), some 41, none⟩,
      ⟨.bin .gtr .plain (.t 41) (.c (.p (.i .i64 100))), some 42, none⟩,
      ⟨.mv (.t 42), some 43, none⟩,
      ⟨.mv (.t 4), some 44, some (43, false)⟩,
      ⟨.len true (.t 44), some 45, some (43, false)⟩,
      ⟨.bin .gtr .plain (.t 45) (.c (.p (.i .i64 600))), some 46, some (43, false)⟩,
      ⟨.pick (.t 43) (.c (.p (.b true))) (.t 46), some 47, none⟩,
      ⟨.mv (.t 47), some 10, none⟩])
    (.ret))
  (.skip))))
  (.seq (.reg false [] [⟨.mv (.t 0), some 48, none⟩,
    ⟨.call J6u [(.t 48), (.c (.p (.i .i64 200)))] 1, some 49, none⟩,
    ⟨.mv (.t 49), some 11, none⟩])
  (.keep [2, 3, 4, 6, 11] (.seq (.reg false [] [⟨.mv (.t 11), some 50, none⟩,
    ⟨.call J9Y [(.t 50)] 0, some 51, none⟩,
    ⟨.newbox (JE default), some 12, none⟩,
    ⟨.store 1 (.t 12) (.t 51), none, none⟩])
  (.keep [2, 3, 4, 6, 11, 12] (.seq (.reg false [] [⟨.mv (.t 11), some 52, none⟩,
    ⟨.mv (.t 11), some 53, none⟩,
    ⟨.call Jk [(.t 53), (.c (.p (.i .i64 5)))] 0, some 54, none⟩,
    ⟨.call J1O [(.t 52), (.t 54)] 0, some 55, none⟩,
    ⟨.newbox (J4 default), some 13, none⟩,
    ⟨.store 34 (.t 13) (.t 55), none, none⟩])
  (.keep [2, 3, 4, 6, 11, 12, 13] (.seq (.reg false [] [⟨.load true 34 (.t 13), some 57, none⟩,
    ⟨.call J7C [(.t 57)] 0, some 58, none⟩,
    ⟨.mv (.t 58), some 56, none⟩,
    ⟨.extr (.t 56) 0, some 59, none⟩,
    ⟨.extr (.t 56) 1, some 60, none⟩,
    ⟨.mv (.t 59), some 14, none⟩,
    ⟨.mv (.t 60), some 15, none⟩])
  (.keep [2, 3, 4, 6, 11, 12, 13, 14] (.seq (.tidy [10] (.seq (.reg true [(0, 4), (1, 4)] [⟨.load true 1 (.t 6), some 61, none⟩,
    ⟨.load true 1 (.t 12), some 62, none⟩,
    ⟨.mv (.t 11), some 63, none⟩,
    ⟨.load true 1 (.t 12), some 64, none⟩,
    ⟨.call Jc5 [(.t 63), (.t 64)] 0, some 65, none⟩,
    ⟨.lits false 1 3 (JE default) [(0, (.t 61)), (1, (.t 62)), (2, (.t 65))], some 66, none⟩,
    ⟨.len false (.t 66), some 67, none⟩,
    ⟨.mv (.c (.p (.i .i64 0))), some 68, none⟩])
  (.keep [2, 3, 4, 11, 13, 14, 66, 67, 68] (.block 0 (.loop [2, 3, 4, 11, 13, 14, 66, 67, 68] JaG)))))
  (.keep [] JaF)))))))))))
def J7K : AFn := ⟨5, 138, J5h, [.tmp 10], false⟩
theorem JnC : J6r.res = [.tmp 4] ∧ J6r.fresh = false := ⟨rfl, rfl⟩
theorem J60 : J3H.res = [.tmp 4] ∧ J3H.fresh = false := ⟨rfl, rfl⟩
theorem J8K : J4q.res = [.cell 2 true 1, .tmp 3] ∧ J4q.fresh = false := ⟨rfl, rfl⟩
theorem JfC : J0U.res = [.tmp 2] ∧ J0U.fresh = false := ⟨rfl, rfl⟩
theorem J6M : J30.res = [.tmp 6, .tmp 7] ∧ J30.fresh = false := ⟨rfl, rfl⟩
theorem Jan : J3J.res = [.cell 2 true 2] ∧ J3J.fresh = false := ⟨rfl, rfl⟩
theorem Jas : J3L.res = [.tmp 4] ∧ J3L.fresh = false := ⟨rfl, rfl⟩
theorem J93 : J2p.res = [.tmp 2] ∧ J2p.fresh = false := ⟨rfl, rfl⟩
theorem J8G : J2y.res = [.tmp 2] ∧ J2y.fresh = false := ⟨rfl, rfl⟩
theorem JeQ : J6d.res = [.tmp 2] ∧ J6d.fresh = false := ⟨rfl, rfl⟩
theorem Jnr : J7F.res = [.cell 2 true 34] ∧ J7F.fresh = false := ⟨rfl, rfl⟩
theorem JeL : J0a.res = [.cell 0 true 16] ∧ J0a.fresh = false := ⟨rfl, rfl⟩
theorem JcM : J4U.res = [.tmp 4] ∧ J4U.fresh = false := ⟨rfl, rfl⟩
theorem Jk7 : J5x.res = [.cell 0 true 63] ∧ J5x.fresh = false := ⟨rfl, rfl⟩
theorem JkD : J5m.res = [.tmp 6] ∧ J5m.fresh = false := ⟨rfl, rfl⟩
theorem Jgq : J2X.res = [.cell 2 true 34, .tmp 3] ∧ J2X.fresh = false := ⟨rfl, rfl⟩
theorem JgJ : J44.res = [.tmp 2] ∧ J44.fresh = false := ⟨rfl, rfl⟩
theorem JkS : J69.res = [.tmp 2] ∧ J69.fresh = false := ⟨rfl, rfl⟩
theorem Jbo : J4c.res = [.tmp 2] ∧ J4c.fresh = false := ⟨rfl, rfl⟩
theorem J8t : J45.res = [.tmp 2] ∧ J45.fresh = false := ⟨rfl, rfl⟩
theorem Jcs : J52.res = [.tmp 2] ∧ J52.fresh = false := ⟨rfl, rfl⟩
theorem J7r : J3b.res = [.tmp 2] ∧ J3b.fresh = false := ⟨rfl, rfl⟩
theorem JfD : J0V.res = [.cell 4 true 34] ∧ J0V.fresh = false := ⟨rfl, rfl⟩
theorem Jlr : J66.res = [.tmp 0] ∧ J66.fresh = false := ⟨rfl, rfl⟩
theorem J9T : J5q.res = [.tmp 2] ∧ J5q.fresh = false := ⟨rfl, rfl⟩
theorem Jei : J2f.res = [] ∧ J2f.fresh = false := ⟨rfl, rfl⟩
theorem Jms : J2Z.res = [.tmp 2] ∧ J2Z.fresh = false := ⟨rfl, rfl⟩
theorem J3z : J2x.res = [.tmp 2] ∧ J2x.fresh = false := ⟨rfl, rfl⟩
theorem J65 : J4X.res = [.tmp 2] ∧ J4X.fresh = false := ⟨rfl, rfl⟩
theorem Jac : J29.res = [.tmp 2, .tmp 3] ∧ J29.fresh = false := ⟨rfl, rfl⟩
theorem J4H : JT.res = [.tmp 4] ∧ JT.fresh = false := ⟨rfl, rfl⟩
theorem J7b : J0v.res = [.tmp 4] ∧ J0v.fresh = false := ⟨rfl, rfl⟩
theorem J7V : J3M.res = [.tmp 2] ∧ J3M.fresh = false := ⟨rfl, rfl⟩
theorem JB : J0l.res = [.tmp 2] ∧ J0l.fresh = false := ⟨rfl, rfl⟩
theorem J3O : J5j.res = [.cell 2 true 34, .tmp 3] ∧ J5j.fresh = false := ⟨rfl, rfl⟩
theorem Je8 : J2Q.res = [] ∧ J2Q.fresh = false := ⟨rfl, rfl⟩
theorem Jem : J3f.res = [.cell 6 true 1] ∧ J3f.fresh = false := ⟨rfl, rfl⟩
theorem J53 : J4a.res = [.cell 4 true 1, .tmp 5] ∧ J4a.fresh = false := ⟨rfl, rfl⟩
theorem J5F : J4r.res = [.cell 4 true 34, .tmp 5] ∧ J4r.fresh = false := ⟨rfl, rfl⟩
theorem J6C : J5w.res = [.tmp 0] ∧ J5w.fresh = false := ⟨rfl, rfl⟩
theorem J1M : J3F.res = [.cell 8 true 34, .tmp 9] ∧ J3F.fresh = false := ⟨rfl, rfl⟩
theorem J0e : J2d.res = [.tmp 6] ∧ J2d.fresh = false := ⟨rfl, rfl⟩
def fns : List (FuncId × AFn) := [(J6u, J6r), (Jk, J3H), (J3x, J4q), (J3G, J0U), (J57, Jbk), (J5R, Jg8), (J6O, J30), (Jch, Jg6), (J3D, J3J), (J6D, JdR), (J9H, Jgp), (J2I, J3L), (J6g, J2p), (J97, JbO), (J86, Jgb), (Jc0, Jgc), (J1y, J2y), (J5b, J6d), (J7v, J7F), (J80, Jgr), (J3d, J0a), (J3j, J4U), (J4v, J5x), (J7M, Jao), (J36, J5m), (J6I, J2X), (JC, J44), (J0j, J69), (J1m, J4c), (J1k, J45), (J4V, J52), (J2r, J3b), (J6S, J9e), (J9Y, JdJ), (J1O, J0V), (Jc5, Jgn), (J8i, JdT), (J4j, J66), (Ja2, JdI), (J5y, J5q), (J1b, J2f), (J4Q, J2Z), (J9S, JdK), (JZ, J2x), (J0y, J4X), (J3R, J29), (Ja5, JdY), (J0I, JT), (J0u, J0v), (J2B, J3M), (J5o, J0l), (J5l, J5j), (J7C, JcO), (J1a, J2Q), (J3g, J3f), (J2o, J4a), (J4s, J4r), (J9m, Jcy), (J4D, J5w), (J0G, J3F), (J8o, Jbc), (J4f, J2d), (Ja0, JdL), (J7J, J7K)]
def JkI : List (FuncId × J8U) := [(J19, J1B)]
def JkL : List (FuncId × (List AV → List Blk → Option Res)) := [(J21, Jla), (J28, Jm4)]
def lkF {α : Type} (f : FuncId) : List (FuncId × α) → Option α
  | [] => none
  | (g, a) :: r => if f = g then some a else lkF f r
def J1 (prims : FuncId → Option (List AV → List Blk → Option Res)) : J4E := fun f => JtA (lkF f fns) (lkF f JkI) (lkF f JkL) (prims f)
theorem JnE (p) : J1 p J6u = some (.fn J6r) := rfl
theorem JfE (p) : J1 p Jk = some (.fn J3H) := rfl
theorem JhC (p) : J1 p J3x = some (.fn J4q) := rfl
theorem Jg3 (p) : J1 p J3G = some (.fn J0U) := rfl
theorem JmP (p) : J1 p J6O = some (.fn J30) := rfl
theorem Jfx (p) : J1 p J3D = some (.fn J3J) := rfl
theorem Jfy (p) : J1 p J2I = some (.fn J3L) := rfl
theorem Jlg (p) : J1 p J6g = some (.fn J2p) := rfl
theorem Jde (p) : J1 p J1y = some (.fn J2y) := rfl
theorem JlK (p) : J1 p J5b = some (.fn J6d) := rfl
theorem JnY (p) : J1 p J7v = some (.fn J7F) := rfl
theorem JeT (p) : J1 p J3d = some (.fn J0a) := rfl
theorem JiR (p) : J1 p J3j = some (.fn J4U) := rfl
theorem Jk4 (p) : J1 p J4v = some (.fn J5x) := rfl
theorem Jkl (p) : J1 p J36 = some (.fn J5m) := rfl
theorem Jmr (p) : J1 p J6I = some (.fn J2X) := rfl
theorem Jhi (p) : J1 p JC = some (.fn J44) := rfl
theorem JlJ (p) : J1 p J0j = some (.fn J69) := rfl
theorem Jhc (p) : J1 p J1m = some (.fn J4c) := rfl
theorem JgQ (p) : J1 p J1k = some (.fn J45) := rfl
theorem JiT (p) : J1 p J4V = some (.fn J52) := rfl
theorem JeP (p) : J1 p J2r = some (.fn J3b) := rfl
theorem JfL (p) : J1 p J1O = some (.fn J0V) := rfl
theorem Jlj (p) : J1 p J4j = some (.fn J66) := rfl
theorem JjU (p) : J1 p J5y = some (.fn J5q) := rfl
theorem Jed (p) : J1 p J1b = some (.fn J2f) := rfl
theorem Jmq (p) : J1 p J4Q = some (.fn J2Z) := rfl
theorem JcV (p) : J1 p JZ = some (.fn J2x) := rfl
theorem JiG (p) : J1 p J0y = some (.fn J4X) := rfl
theorem Jkj (p) : J1 p J3R = some (.fn J29) := rfl
theorem J7Q (p) : J1 p J0I = some (.fn JT) := rfl
theorem J7c (p) : J1 p J0u = some (.fn J0v) := rfl
theorem Jft (p) : J1 p J2B = some (.fn J3M) := rfl
theorem Jkh (p) : J1 p J5o = some (.fn J0l) := rfl
theorem Jko (p) : J1 p J5l = some (.fn J5j) := rfl
theorem Jeh (p) : J1 p J1a = some (.fn J2Q) := rfl
theorem JeZ (p) : J1 p J3g = some (.fn J3f) := rfl
theorem Jgt (p) : J1 p J2o = some (.fn J4a) := rfl
theorem JhS (p) : J1 p J4s = some (.fn J4r) := rfl
theorem Jku (p) : J1 p J4D = some (.fn J5w) := rfl
theorem JfN (p) : J1 p J0G = some (.fn J3F) := rfl
theorem Jc1 (p) : J1 p J4f = some (.fn J2d) := rfl
theorem J8H (p) : J1 p J19 = some (.fork J1B) := rfl
theorem JmF (p) : J1 p J21 = some (.prim Jla) := rfl
theorem JgM (p) : J1 p J28 = some (.prim Jm4) := rfl
end Go.Am
end
