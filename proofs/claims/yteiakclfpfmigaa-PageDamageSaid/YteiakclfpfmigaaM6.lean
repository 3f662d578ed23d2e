/-
  Parts of a proof: AmPrim, YteiakclfpfmigaaTy, YteiakclfpfmigaaFns, YteiakclfpfmigaaS1.
-/
import Derived.Below
import Derived.Test.YteiakclfpfmigaaM1
import Derived.Test.YteiakclfpfmigaaM4
import Derived.Test.YteiakclfpfmigaaM5
set_option linter.unusedSimpArgs false
set_option linter.unusedVariables false

section
set_option linter.unusedSimpArgs false
set_option linter.unusedVariables false
namespace Go.Am
open Go.RowKit

/-- Whatever a run added above: nothing below changes. -/
theorem below_ok {σ : List Blk} {g : Gh} {w w' : World} (hi : Inv ⟨σ, g, w⟩) (hb : Below w.heap.size w w') :
    Inv ⟨σ, g, w'⟩ ∧ Trans ⟨σ, g, w⟩ ⟨σ, g, w'⟩ := by
  have hk : ∀ (r : Nat) x, w.heap[r]? = some x → w'.heap[r]? = some x := fun r x h => by rw [hb.block r (lt_of_cells h)]; exact h
  have hc : ∀ r o v, cellAt w r o = some v → cellAt w' r o = some v := by
    intro r o v h
    have hr : r < w.heap.size := by
      unfold cellAt at h
      split at h
      · rename_i hx; exact lt_of_cells hx
      · cases h
    unfold cellAt at h ⊢
    rw [hb.block r hr]
    exact h
  have t : Trans ⟨σ, g, w⟩ ⟨σ, g, w'⟩ := by
    refine ⟨⟨hb.size, fun r c e fz h => ⟨c, hk r _ h, rfl, fun _ _ => rfl⟩, fun r x h _ => hk r x h, hb.os, hb.output⟩, fun _ _ h => h, fun _ _ h => .inl h, fun r o ⟨b, hb⟩ => .inl ⟨b, hb⟩, Nat.le_refl _, fun _ cs h => ⟨⟨cs, h, rfl⟩, rfl⟩,
      fun _ wm _ rows h => ⟨wm, rows, h, id, Nat.le_refl _, fun _ => rfl⟩⟩
  exact ⟨inv_of hi t (fun _ => False) (fun _ _ => ⟨rfl, rfl⟩) (fun _ r o v _ _ h => hc r o v h) (fun _ _ h => h.elim) (fun _ _ _ _ h => h.elim)
    (fun _ _ _ _ h => h.elim) (fun r o h => Nat.lt_of_lt_of_le (hi.const r o h).1 hb.size) (fun _ _ _ _ h => h.elim) (fun _ _ _ h h' => (h' h).elim), t⟩

/-- Values of data without slices. -/
def pval : PV → Option Value
  | .b x => some (.bool x)
  | .i k n => some (.int k n)
  | .s l => some (.string ⟨l.toArray⟩)
  | _ => none

theorem pval_rel {x : PV} {v : Value} (h : pval x = some v) (w : World) (C : Nat → Nat → Prop) : RelP w C x v := by
  cases x <;> simp only [pval, Option.some.injEq, reduceCtorEq] at h <;> subst h
  · exact .b _
  · exact .i _ _
  · exact .s _

theorem pval_of {x : PV} {v v' : Value} {w : World} {C : Nat → Nat → Prop} (h : RelP w C x v) (hv : pval x = some v') : v = v' := by
  cases x <;> simp only [pval, Option.some.injEq, reduceCtorEq] at hv <;> subst hv <;> cases h <;> rfl

/-- A function whose arguments and answer are plain data, and which leaves what was there. -/
theorem prim_ok {P : Program} {f : FuncId} {xs : List PV} {vs : List Value} {r : PV} {v : Value} {blks : List Blk}
    (hf : ∃ fn, P.funcs[f]? = some fn ∧ fn.body.isSome = true ∧ (fn.name == "runtime.NumGoroutine") = false)
    (hx : xs.mapM pval = some vs) (hr : pval r = some v)
    (hc : ∀ w, Calls P f vs.toArray w fun e w' => e = .returned v ∧ Below w.heap.size w w') :
    CallOk P f (xs.map .p) blks (.p r, blks) := by
  refine ⟨hf, fun g w vals hi hl ha => ?_⟩
  have hvals : vals = vs.toArray := by
    have key : ∀ (xs : List PV) (vs vl : List Value), xs.mapM pval = some vs → xs.length = vl.length →
        (∀ (i : Nat) x v, (xs.map AV.p)[i]? = some x → vl[i]? = some v → RelA ⟨blks, g, w⟩ x v) → vl = vs := by
      intro xs
      induction xs with
      | nil => intro vs vl h1 h2 _; simp at h1 h2; subst h1; exact List.length_eq_zero_iff.1 h2.symm
      | cons x r ih =>
        intro vs vl h1 h2 h3
        simp only [List.mapM_cons, Option.pure_def, Option.bind_eq_bind] at h1
        obtain ⟨v0, hv0, h1⟩ := Option.bind_eq_some_iff.1 h1
        obtain ⟨vr, hvr, h1⟩ := Option.bind_eq_some_iff.1 h1
        simp only [Option.some.injEq] at h1
        subst h1
        cases vl with
        | nil => simp at h2
        | cons u ur =>
          have := h3 0 (.p x) u rfl rfl
          cases this with
          | p _ _ hp =>
            rw [pval_of hp hv0, ih vr ur hvr (by simpa using h2) (fun i x v hx hv => h3 (i + 1) x v hx hv)]
    apply Array.ext'
    rw [key xs vs vals.toList hx (by simpa using hl) (fun i x v h1 h2 => ha i x v h1 (by simpa using h2))]
  subst hvals
  refine (hc w).mono ?_
  rintro e w' ⟨rfl, hb⟩
  obtain ⟨hi', t⟩ := below_ok hi hb
  exact ⟨v, g, rfl, hi', t, .p _ _ (pval_rel hr _ _)⟩

theorem AF_prim {T : Tabl} {f : FuncId} {g : List AV → List Blk → Option Res} (h : T f = some (.prim g)) (args blks) : AF T f args blks = g args blks := by
  unfold AF callT; rw [h]

/-! ### Tables -/

def tab4 (a : Option AFn) (k : Option FkFn) (g q : Option (List AV → List Blk → Option Res)) : Option Entry :=
  match a with
  | some a => some (.fn a)
  | none => match k with
    | some k => some (.fork k)
    | none => match g with
      | some g => some (.prim g)
      | none => q.map .prim

theorem tab4_cases {a : Option AFn} {k : Option FkFn} {g q : Option (List AV → List Blk → Option Res)} {e : Entry} (h : tab4 a k g q = some e) :
    (∃ x, a = some x ∧ e = .fn x) ∨ (∃ x, k = some x ∧ e = .fork x) ∨ (∃ x, g = some x ∧ e = .prim x) ∨ (∃ x, q = some x ∧ e = .prim x) := by
  cases a with
  | some a => exact .inl ⟨a, rfl, by injection h with h; exact h.symm⟩
  | none =>
    cases k with
    | some k => exact .inr (.inl ⟨k, rfl, by injection h with h; exact h.symm⟩)
    | none =>
      cases g with
      | some g => exact .inr (.inr (.inl ⟨g, rfl, by injection h with h; exact h.symm⟩))
      | none =>
        cases q with
        | some q => exact .inr (.inr (.inr ⟨q, rfl, by injection h with h; exact h.symm⟩))
        | none => cases h

/-! ### strings.Repeat, and a number written behind a string -/

def repS (l : List UInt8) (n : Int) : Option (List UInt8) :=
  if 0 ≤ n ∧ n ≤ 9223372036854775807 ∧ l.length * n.toNat ≤ 140737488355328 then some (List.replicate n.toNat l).flatten else none

def repP : List AV → List Blk → Option Res
  | [.p (.s l), .p (.i .i64 n)], blks => (repS l n).map fun r => (.p (.s r), blks)
  | _, _ => none

/-- One byte of a number. -/
def byteAt (n : Int) (i : Nat) : Int := IntKind.wrap .u8 ((IntKind.wrap .u64 n).fdiv (2 ^ (8 * i)))

def numS (n : Int) (k : Nat) : List UInt8 := toStr ((List.range k).map (byteAt n))

def putS (l : List UInt8) (n size : Int) : Option (List UInt8) :=
  if size < 1 ∨ 8 < size then some l
  else if l.length + 8 ≤ 140737488355328 then some (l ++ numS n size.toNat) else none

def putP : List AV → List Blk → Option Res
  | [.p (.s l), .p (.i .i64 n), .p (.i .i64 k)], blks => (putS l n k).map fun r => (.p (.s r), blks)
  | _, _ => none

theorem wrap_u8 (x : Int) : 0 ≤ IntKind.wrap .u8 x ∧ IntKind.wrap .u8 x < 256 := by
  have h : IntKind.wrap .u8 x = x % 256 := rfl
  rw [h]; omega

theorem byteAt_nat (n : Int) (i : Nat) : ((UInt8.ofNat (byteAt n i).toNat).toNat : Int) = byteAt n i := by
  have h : 0 ≤ byteAt n i ∧ byteAt n i < 256 := wrap_u8 _
  have h2 : (byteAt n i).toNat < 256 := by omega
  rw [UInt8.toNat_ofNat_of_lt' (by simpa using h2)]
  omega

theorem numS_succ (n : Int) (k : Nat) : numS n (k + 1) = numS n k ++ [UInt8.ofNat (byteAt n k).toNat] := by
  simp [numS, toStr, List.range_succ]

theorem numS_length (n : Int) (k : Nat) : (numS n k).length = k := by simp [numS, toStr]

/-! ### Comparison of cells -/

theorem cmp_b (x y : Bool) : cmpL [.b] [.b x] [.b y] = some (decide (x = y)) := by
  simp only [cmpL, cmpP]
  cases x <;> cases y <;> rfl

theorem cmp_i (k : IntKind) (x y : Int) : cmpL [.i k] [.i k x] [.i k y] = some (decide (x = y)) := by
  by_cases h : x = y <;> simp [cmpL, cmpP, h]

theorem cmp_s (x y : List UInt8) : cmpL [.s] [.s x] [.s y] = some (decide (x = y)) := by
  by_cases h : x = y <;> simp [cmpL, cmpP, h]

theorem cmp_cat {p q : Prop} [Decidable p] [Decidable q] : ∀ {k1 k2 : List KD} {a1 a2 b1 b2 : List PV}, cmpL k1 a1 b1 = some (decide p) → cmpL k2 a2 b2 = some (decide q) → cmpL (k1 ++ k2) (cat a1 a2) (cat b1 b2) = some (decide (p ∧ q)) := by
  have key : ∀ (k1 k2 : List KD) (a1 a2 b1 b2 : List PV) (r s : Bool), cmpL k1 a1 b1 = some r → cmpL k2 a2 b2 = some s → cmpL (k1 ++ k2) (a1 ++ a2) (b1 ++ b2) = some (r && s) := by
    intro k1
    induction k1 with
    | nil =>
      intro k2 a1 a2 b1 b2 r s h1 h2
      cases a1 <;> cases b1 <;> simp [cmpL] at h1
      subst h1
      simpa using h2
    | cons k ks ih =>
      intro k2 a1 a2 b1 b2 r s h1 h2
      cases a1 with
      | nil => simp [cmpL] at h1
      | cons a a1 =>
        cases b1 with
        | nil => simp [cmpL] at h1
        | cons b b1 =>
          simp only [cmpL] at h1
          split at h1
          · rename_i u c hu hc
            injection h1 with h1
            subst h1
            simp only [List.cons_append, cmpL, hu, ih _ _ _ _ _ _ _ hc h2, Bool.and_assoc]
          · cases h1
  intro k1 k2 a1 a2 b1 b2 h1 h2
  rw [key _ _ _ _ _ _ _ _ h1 h2, Bool.decide_and]

theorem cmp_ar {α : Type} [DecidableEq α] {n : Nat} {ks : List KD} {r : α → List PV} (h : ∀ x y, cmpL ks (r x) (r y) = some (decide (x = y))) (v w : Vector α n) :
    cmpL (List.replicate n ks).flatten (e_ar r v) (e_ar r w) = some (decide (v = w)) := by
  have key : ∀ (l l' : List α), l.length = l'.length → cmpL (List.replicate l.length ks).flatten (l.map r).flatten (l'.map r).flatten = some (decide (l = l')) := by
    intro l
    induction l with
    | nil => intro l' h1; cases l' with
      | nil => simp [cmpL]
      | cons a l' => simp at h1
    | cons a l ih =>
      intro l' h1
      cases l' with
      | nil => simp at h1
      | cons b l' =>
        have h2 := cmp_cat (h a b) (ih l' (by simpa using h1))
        simp only [List.length_cons, List.replicate_succ, List.flatten_cons, List.map_cons]
        rw [show (decide (a :: l = b :: l')) = decide (a = b ∧ l = l') by simp]
        exact h2
  have h3 := key v.toList w.toList (by simp)
  rw [show v.toList.length = n by simp] at h3
  rw [show decide (v = w) = decide (v.toList = w.toList) by
    apply decide_eq_decide.2
    exact ⟨fun e => by rw [e], fun e => Vector.toList_inj.1 e⟩]
  exact h3

end Go.Am
end

section
namespace Go.Am
set_option maxRecDepth 8000
set_option maxHeartbeats 4000000
set_option linter.unusedSimpArgs false
set_option linter.unusedVariables false

structure T_api_Cell where
  Set : Bool
  Data : List UInt8
  deriving DecidableEq

instance : Inhabited T_api_Cell := ⟨⟨false, []⟩⟩

def e_api_Cell (x : T_api_Cell) : List PV := (cat [.b x.Set] [.s x.Data])

theorem len_api_Cell (x : T_api_Cell) : (e_api_Cell x).length = 2 := by
  simp only [cat, e_api_Cell, List.length_append, List.length_cons, List.length_nil]

theorem sub_api_Cell_Set (x : T_api_Cell) : sub (e_api_Cell x) 0 1 = some [.b x.Set] := by unfold e_api_Cell; exact sub_parts0 rfl

theorem spl_api_Cell_Set (x : T_api_Cell) (y : Bool) : spl (e_api_Cell x) 0 [.b y] = some (e_api_Cell ⟨y, x.Data⟩) := by unfold e_api_Cell; exact spl_parts0 rfl

theorem sub_api_Cell_Data (x : T_api_Cell) : sub (e_api_Cell x) 1 1 = some [.s x.Data] := by
  have e0 : e_api_Cell x = cat [.b x.Set] [.s x.Data] := by unfold e_api_Cell; simp only [cat, List.append_assoc]
  rw [e0]; exact sub_partsE (by simp only [cat, List.length_append, List.length_cons, List.length_nil]) rfl

theorem spl_api_Cell_Data (x : T_api_Cell) (y : List UInt8) : spl (e_api_Cell x) 1 [.s y] = some (e_api_Cell ⟨x.Set, y⟩) := by
  have e0 : e_api_Cell x = cat [.b x.Set] [.s x.Data] := by unfold e_api_Cell; simp only [cat, List.append_assoc]
  have e1 : e_api_Cell ⟨x.Set, y⟩ = cat [.b x.Set] [.s y] := by unfold e_api_Cell; simp only [cat, List.append_assoc]
  rw [e0, e1]; exact spl_partsE (by simp only [cat, List.length_append, List.length_cons, List.length_nil]) rfl

theorem def_api_Cell : (default : T_api_Cell) = (⟨false, []⟩ : T_api_Cell) := rfl

theorem suba_api_Cell (x : T_api_Cell) : sub (e_api_Cell x) 0 2 = some (e_api_Cell x) := sub_all (len_api_Cell x)

theorem spla_api_Cell (x y : T_api_Cell) : spl (e_api_Cell x) 0 (e_api_Cell y) = some (e_api_Cell y) := spl_all ((len_api_Cell x).trans (len_api_Cell y).symm)

theorem B_api_Cell : (∀ x : T_api_Cell, (e_api_Cell x).length = 2) ∧
  (∀ x : T_api_Cell, sub (e_api_Cell x) 0 1 = some [.b x.Set]) ∧
  (∀ (x : T_api_Cell) (y : Bool), spl (e_api_Cell x) 0 [.b y] = some (e_api_Cell ⟨y, x.Data⟩)) ∧
  (∀ x : T_api_Cell, sub (e_api_Cell x) 1 1 = some [.s x.Data]) ∧
  (∀ (x : T_api_Cell) (y : List UInt8), spl (e_api_Cell x) 1 [.s y] = some (e_api_Cell ⟨x.Set, y⟩)) ∧
  ((default : T_api_Cell) = (⟨false, []⟩ : T_api_Cell)) ∧
  (∀ x : T_api_Cell, sub (e_api_Cell x) 0 2 = some (e_api_Cell x)) ∧
  (∀ x y : T_api_Cell, spl (e_api_Cell x) 0 (e_api_Cell y) = some (e_api_Cell y)) :=
  ⟨@len_api_Cell, @sub_api_Cell_Set, @spl_api_Cell_Set, @sub_api_Cell_Data, @spl_api_Cell_Data, def_api_Cell, @suba_api_Cell, @spla_api_Cell⟩

theorem U_api_Cell : (∀ x : T_api_Cell, e_api_Cell x = (cat [.b x.Set] [.s x.Data])) ∧ (default : T_api_Cell) = (⟨false, []⟩ : T_api_Cell) := ⟨fun _ => rfl, rfl⟩

theorem B_ar_eareapiCell16 : (∀ v : Vector T_api_Cell 16, (e_ar e_api_Cell v).length = 32) ∧ (∀ v : Vector T_api_Cell 16, sub (e_ar e_api_Cell v) 0 32 = some (e_ar e_api_Cell v)) ∧ (∀ v y : Vector T_api_Cell 16, spl (e_ar e_api_Cell v) 0 (e_ar e_api_Cell y) = some (e_ar e_api_Cell y)) :=
  ⟨fun v => ar_len len_api_Cell v, fun v => sub_all (ar_len len_api_Cell v), fun v y => spl_all ((ar_len len_api_Cell v).trans (ar_len len_api_Cell y).symm)⟩

structure T_api_Page where
  ID : Int
  LSN : Int
  Cells : Vector T_api_Cell 16
  deriving DecidableEq

instance : Inhabited T_api_Page := ⟨⟨0, 0, (Vector.replicate 16 (⟨false, []⟩ : T_api_Cell))⟩⟩

def e_api_Page (x : T_api_Page) : List PV := (cat [.i .i64 x.ID] (cat [.i .i64 x.LSN] ((e_ar e_api_Cell) x.Cells)))

theorem len_api_Page (x : T_api_Page) : (e_api_Page x).length = 34 := by
  simp only [cat, e_api_Page, (ar_len len_api_Cell x.Cells), List.length_append, List.length_cons, List.length_nil]

theorem sub_api_Page_ID (x : T_api_Page) : sub (e_api_Page x) 0 1 = some [.i .i64 x.ID] := by unfold e_api_Page; exact sub_parts0 rfl

theorem spl_api_Page_ID (x : T_api_Page) (y : Int) : spl (e_api_Page x) 0 [.i .i64 y] = some (e_api_Page ⟨y, x.LSN, x.Cells⟩) := by unfold e_api_Page; exact spl_parts0 rfl

theorem sub_api_Page_LSN (x : T_api_Page) : sub (e_api_Page x) 1 1 = some [.i .i64 x.LSN] := by
  have e0 : e_api_Page x = cat [.i .i64 x.ID] (cat [.i .i64 x.LSN] ((e_ar e_api_Cell) x.Cells)) := by unfold e_api_Page; simp only [cat, List.append_assoc]
  rw [e0]; exact sub_parts (by simp only [cat, List.length_append, List.length_cons, List.length_nil, (ar_len len_api_Cell x.Cells)]) rfl

theorem spl_api_Page_LSN (x : T_api_Page) (y : Int) : spl (e_api_Page x) 1 [.i .i64 y] = some (e_api_Page ⟨x.ID, y, x.Cells⟩) := by
  have e0 : e_api_Page x = cat [.i .i64 x.ID] (cat [.i .i64 x.LSN] ((e_ar e_api_Cell) x.Cells)) := by unfold e_api_Page; simp only [cat, List.append_assoc]
  have e1 : e_api_Page ⟨x.ID, y, x.Cells⟩ = cat [.i .i64 x.ID] (cat [.i .i64 y] ((e_ar e_api_Cell) x.Cells)) := by unfold e_api_Page; simp only [cat, List.append_assoc]
  rw [e0, e1]; exact spl_parts (by simp only [cat, List.length_append, List.length_cons, List.length_nil, (ar_len len_api_Cell x.Cells)]) rfl

theorem sub_api_Page_Cells (x : T_api_Page) : sub (e_api_Page x) 2 32 = some ((e_ar e_api_Cell) x.Cells) := by
  have e0 : e_api_Page x = cat (cat [.i .i64 x.ID] [.i .i64 x.LSN]) ((e_ar e_api_Cell) x.Cells) := by unfold e_api_Page; simp only [cat, List.append_assoc]
  rw [e0]; exact sub_partsE (by simp only [cat, List.length_append, List.length_cons, List.length_nil, (ar_len len_api_Cell x.Cells)]) (ar_len len_api_Cell _)

theorem spl_api_Page_Cells (x : T_api_Page) (y : Vector T_api_Cell 16) : spl (e_api_Page x) 2 ((e_ar e_api_Cell) y) = some (e_api_Page ⟨x.ID, x.LSN, y⟩) := by
  have e0 : e_api_Page x = cat (cat [.i .i64 x.ID] [.i .i64 x.LSN]) ((e_ar e_api_Cell) x.Cells) := by unfold e_api_Page; simp only [cat, List.append_assoc]
  have e1 : e_api_Page ⟨x.ID, x.LSN, y⟩ = cat (cat [.i .i64 x.ID] [.i .i64 x.LSN]) ((e_ar e_api_Cell) y) := by unfold e_api_Page; simp only [cat, List.append_assoc]
  rw [e0, e1]; exact spl_partsE (by simp only [cat, List.length_append, List.length_cons, List.length_nil, (ar_len len_api_Cell x.Cells)]) ((ar_len len_api_Cell _).trans (ar_len len_api_Cell _).symm)

theorem def_api_Page : (default : T_api_Page) = (⟨0, 0, (Vector.replicate 16 (⟨false, []⟩ : T_api_Cell))⟩ : T_api_Page) := rfl

theorem suba_api_Page (x : T_api_Page) : sub (e_api_Page x) 0 34 = some (e_api_Page x) := sub_all (len_api_Page x)

theorem spla_api_Page (x y : T_api_Page) : spl (e_api_Page x) 0 (e_api_Page y) = some (e_api_Page y) := spl_all ((len_api_Page x).trans (len_api_Page y).symm)

theorem B_api_Page : (∀ x : T_api_Page, (e_api_Page x).length = 34) ∧
  (∀ x : T_api_Page, sub (e_api_Page x) 0 1 = some [.i .i64 x.ID]) ∧
  (∀ (x : T_api_Page) (y : Int), spl (e_api_Page x) 0 [.i .i64 y] = some (e_api_Page ⟨y, x.LSN, x.Cells⟩)) ∧
  (∀ x : T_api_Page, sub (e_api_Page x) 1 1 = some [.i .i64 x.LSN]) ∧
  (∀ (x : T_api_Page) (y : Int), spl (e_api_Page x) 1 [.i .i64 y] = some (e_api_Page ⟨x.ID, y, x.Cells⟩)) ∧
  (∀ x : T_api_Page, sub (e_api_Page x) 2 32 = some ((e_ar e_api_Cell) x.Cells)) ∧
  (∀ (x : T_api_Page) (y : Vector T_api_Cell 16), spl (e_api_Page x) 2 ((e_ar e_api_Cell) y) = some (e_api_Page ⟨x.ID, x.LSN, y⟩)) ∧
  ((default : T_api_Page) = (⟨0, 0, (Vector.replicate 16 (⟨false, []⟩ : T_api_Cell))⟩ : T_api_Page)) ∧
  (∀ x : T_api_Page, sub (e_api_Page x) 0 34 = some (e_api_Page x)) ∧
  (∀ x y : T_api_Page, spl (e_api_Page x) 0 (e_api_Page y) = some (e_api_Page y)) :=
  ⟨@len_api_Page, @sub_api_Page_ID, @spl_api_Page_ID, @sub_api_Page_LSN, @spl_api_Page_LSN, @sub_api_Page_Cells, @spl_api_Page_Cells, def_api_Page, @suba_api_Page, @spla_api_Page⟩

theorem U_api_Page : (∀ x : T_api_Page, e_api_Page x = (cat [.i .i64 x.ID] (cat [.i .i64 x.LSN] ((e_ar e_api_Cell) x.Cells)))) ∧ (default : T_api_Page) = (⟨0, 0, (Vector.replicate 16 (⟨false, []⟩ : T_api_Cell))⟩ : T_api_Page) := ⟨fun _ => rfl, rfl⟩

structure T_pagemenddraw_Codes where
  l_ : List Int
  at_ : Int
  deriving DecidableEq

instance : Inhabited T_pagemenddraw_Codes := ⟨⟨[], 0⟩⟩

def e_pagemenddraw_Codes (x : T_pagemenddraw_Codes) : List PV := (cat [.sl 1 (List.map (r_i .u8) x.l_)] [.i .i64 x.at_])

theorem len_pagemenddraw_Codes (x : T_pagemenddraw_Codes) : (e_pagemenddraw_Codes x).length = 2 := by
  simp only [cat, e_pagemenddraw_Codes, List.length_append, List.length_cons, List.length_nil]

theorem sub_pagemenddraw_Codes_l_ (x : T_pagemenddraw_Codes) : sub (e_pagemenddraw_Codes x) 0 1 = some [.sl 1 (List.map (r_i .u8) x.l_)] := by unfold e_pagemenddraw_Codes; exact sub_parts0 rfl

theorem spl_pagemenddraw_Codes_l_ (x : T_pagemenddraw_Codes) (y : List Int) : spl (e_pagemenddraw_Codes x) 0 [.sl 1 (List.map (r_i .u8) y)] = some (e_pagemenddraw_Codes ⟨y, x.at_⟩) := by unfold e_pagemenddraw_Codes; exact spl_parts0 rfl

theorem sub_pagemenddraw_Codes_at_ (x : T_pagemenddraw_Codes) : sub (e_pagemenddraw_Codes x) 1 1 = some [.i .i64 x.at_] := by
  have e0 : e_pagemenddraw_Codes x = cat [.sl 1 (List.map (r_i .u8) x.l_)] [.i .i64 x.at_] := by unfold e_pagemenddraw_Codes; simp only [cat, List.append_assoc]
  rw [e0]; exact sub_partsE (by simp only [cat, List.length_append, List.length_cons, List.length_nil]) rfl

theorem spl_pagemenddraw_Codes_at_ (x : T_pagemenddraw_Codes) (y : Int) : spl (e_pagemenddraw_Codes x) 1 [.i .i64 y] = some (e_pagemenddraw_Codes ⟨x.l_, y⟩) := by
  have e0 : e_pagemenddraw_Codes x = cat [.sl 1 (List.map (r_i .u8) x.l_)] [.i .i64 x.at_] := by unfold e_pagemenddraw_Codes; simp only [cat, List.append_assoc]
  have e1 : e_pagemenddraw_Codes ⟨x.l_, y⟩ = cat [.sl 1 (List.map (r_i .u8) x.l_)] [.i .i64 y] := by unfold e_pagemenddraw_Codes; simp only [cat, List.append_assoc]
  rw [e0, e1]; exact spl_partsE (by simp only [cat, List.length_append, List.length_cons, List.length_nil]) rfl

theorem def_pagemenddraw_Codes : (default : T_pagemenddraw_Codes) = (⟨[], 0⟩ : T_pagemenddraw_Codes) := rfl

theorem suba_pagemenddraw_Codes (x : T_pagemenddraw_Codes) : sub (e_pagemenddraw_Codes x) 0 2 = some (e_pagemenddraw_Codes x) := sub_all (len_pagemenddraw_Codes x)

theorem spla_pagemenddraw_Codes (x y : T_pagemenddraw_Codes) : spl (e_pagemenddraw_Codes x) 0 (e_pagemenddraw_Codes y) = some (e_pagemenddraw_Codes y) := spl_all ((len_pagemenddraw_Codes x).trans (len_pagemenddraw_Codes y).symm)

theorem B_pagemenddraw_Codes : (∀ x : T_pagemenddraw_Codes, (e_pagemenddraw_Codes x).length = 2) ∧
  (∀ x : T_pagemenddraw_Codes, sub (e_pagemenddraw_Codes x) 0 1 = some [.sl 1 (List.map (r_i .u8) x.l_)]) ∧
  (∀ (x : T_pagemenddraw_Codes) (y : List Int), spl (e_pagemenddraw_Codes x) 0 [.sl 1 (List.map (r_i .u8) y)] = some (e_pagemenddraw_Codes ⟨y, x.at_⟩)) ∧
  (∀ x : T_pagemenddraw_Codes, sub (e_pagemenddraw_Codes x) 1 1 = some [.i .i64 x.at_]) ∧
  (∀ (x : T_pagemenddraw_Codes) (y : Int), spl (e_pagemenddraw_Codes x) 1 [.i .i64 y] = some (e_pagemenddraw_Codes ⟨x.l_, y⟩)) ∧
  ((default : T_pagemenddraw_Codes) = (⟨[], 0⟩ : T_pagemenddraw_Codes)) ∧
  (∀ x : T_pagemenddraw_Codes, sub (e_pagemenddraw_Codes x) 0 2 = some (e_pagemenddraw_Codes x)) ∧
  (∀ x y : T_pagemenddraw_Codes, spl (e_pagemenddraw_Codes x) 0 (e_pagemenddraw_Codes y) = some (e_pagemenddraw_Codes y)) :=
  ⟨@len_pagemenddraw_Codes, @sub_pagemenddraw_Codes_l_, @spl_pagemenddraw_Codes_l_, @sub_pagemenddraw_Codes_at_, @spl_pagemenddraw_Codes_at_, def_pagemenddraw_Codes, @suba_pagemenddraw_Codes, @spla_pagemenddraw_Codes⟩

theorem U_pagemenddraw_Codes : (∀ x : T_pagemenddraw_Codes, e_pagemenddraw_Codes x = (cat [.sl 1 (List.map (r_i .u8) x.l_)] [.i .i64 x.at_])) ∧ (default : T_pagemenddraw_Codes) = (⟨[], 0⟩ : T_pagemenddraw_Codes) := ⟨fun _ => rfl, rfl⟩

structure T_page_builder where
  s_ : List UInt8
  deriving DecidableEq

instance : Inhabited T_page_builder := ⟨⟨[]⟩⟩

def e_page_builder (x : T_page_builder) : List PV := [.s x.s_]

theorem len_page_builder (x : T_page_builder) : (e_page_builder x).length = 1 := by
  simp only [cat, e_page_builder, List.length_append, List.length_cons, List.length_nil]

theorem sub_page_builder_s_ (x : T_page_builder) : sub (e_page_builder x) 0 1 = some [.s x.s_] := by unfold e_page_builder; exact sub_all rfl

theorem spl_page_builder_s_ (x : T_page_builder) (y : List UInt8) : spl (e_page_builder x) 0 [.s y] = some (e_page_builder ⟨y⟩) := by unfold e_page_builder; exact spl_all rfl

theorem def_page_builder : (default : T_page_builder) = (⟨[]⟩ : T_page_builder) := rfl

theorem B_page_builder : (∀ x : T_page_builder, (e_page_builder x).length = 1) ∧
  (∀ x : T_page_builder, sub (e_page_builder x) 0 1 = some [.s x.s_]) ∧
  (∀ (x : T_page_builder) (y : List UInt8), spl (e_page_builder x) 0 [.s y] = some (e_page_builder ⟨y⟩)) ∧
  ((default : T_page_builder) = (⟨[]⟩ : T_page_builder)) :=
  ⟨@len_page_builder, @sub_page_builder_s_, @spl_page_builder_s_, def_page_builder⟩

theorem U_page_builder : (∀ x : T_page_builder, e_page_builder x = [.s x.s_]) ∧ (default : T_page_builder) = (⟨[]⟩ : T_page_builder) := ⟨fun _ => rfl, rfl⟩

theorem B_ar_earriu3216 : (∀ v : Vector Int 16, (e_ar (r_i .u32) v).length = 16) ∧ (∀ v : Vector Int 16, sub (e_ar (r_i .u32) v) 0 16 = some (e_ar (r_i .u32) v)) ∧ (∀ v y : Vector Int 16, spl (e_ar (r_i .u32) v) 0 (e_ar (r_i .u32) y) = some (e_ar (r_i .u32) y)) :=
  ⟨fun v => ar_len (r_i_len .u32) v, fun v => sub_all (ar_len (r_i_len .u32) v), fun v y => spl_all ((ar_len (r_i_len .u32) v).trans (ar_len (r_i_len .u32) y).symm)⟩
theorem cmpd_api_Cell (x y : T_api_Cell) : cmpL [.b, .s] (e_api_Cell x) (e_api_Cell y) = some (decide (x = y)) := by
  have h := (cmp_cat (cmp_b x.Set y.Set) (cmp_s x.Data y.Data))
  have e : decide (x.Set = y.Set ∧ (x.Data = y.Data)) = decide (x = y) := decide_eq_decide.2 (by cases x; cases y; simp only [T_api_Cell.mk.injEq])
  exact h.trans (congrArg some e)

theorem cmp_api_Cell (x y : T_api_Cell) : cmpL [.b, .s] (e_api_Cell x) (e_api_Cell y) = some (x == y) := cmpd_api_Cell x y

theorem cmpd_api_Page (x y : T_api_Page) : cmpL [(.i .i64), (.i .i64), .b, .s, .b, .s, .b, .s, .b, .s, .b, .s, .b, .s, .b, .s, .b, .s, .b, .s, .b, .s, .b, .s, .b, .s, .b, .s, .b, .s, .b, .s, .b, .s] (e_api_Page x) (e_api_Page y) = some (decide (x = y)) := by
  have h := (cmp_cat (cmp_i .i64 x.ID y.ID) (cmp_cat (cmp_i .i64 x.LSN y.LSN) (cmp_ar (fun x y => (cmpd_api_Cell x y)) x.Cells y.Cells)))
  have e : decide (x.ID = y.ID ∧ (x.LSN = y.LSN ∧ (x.Cells = y.Cells))) = decide (x = y) := decide_eq_decide.2 (by cases x; cases y; simp only [T_api_Page.mk.injEq])
  exact h.trans (congrArg some e)

theorem cmp_api_Page (x y : T_api_Page) : cmpL [(.i .i64), (.i .i64), .b, .s, .b, .s, .b, .s, .b, .s, .b, .s, .b, .s, .b, .s, .b, .s, .b, .s, .b, .s, .b, .s, .b, .s, .b, .s, .b, .s, .b, .s, .b, .s] (e_api_Page x) (e_api_Page y) = some (x == y) := cmpd_api_Page x y


end Go.Am
end

section
namespace Go.Am
set_option maxRecDepth 8000
set_option maxHeartbeats 4000000
set_option linter.unusedSimpArgs false
set_option linter.unusedVariables false

abbrev i_main_main : FuncId := 0
abbrev i_gosem_cut : FuncId := 1
abbrev i_gosem_cut_init : FuncId := 2
abbrev i_law25_ArchiverParts : FuncId := 3
abbrev i_law11_PageindexExact : FuncId := 4
abbrev i_law11_PageindexReturns : FuncId := 5
abbrev i_law02_PageInjective : FuncId := 6
abbrev i_law02_PageEncodes : FuncId := 7
abbrev i_law02_PageForms : FuncId := 8
abbrev i_law02_PageDamage : FuncId := 9
abbrev i_law02_PageDecodes : FuncId := 10
abbrev i_law02_PageReturns : FuncId := 11
abbrev i_law02_PageTears : FuncId := 12
abbrev i_law10_PoolClock : FuncId := 13
abbrev i_law10_PoolLimits : FuncId := 14
abbrev i_law25_awake : FuncId := 15
abbrev i_draw_New : FuncId := 16
abbrev i_archiver_New : FuncId := 17
abbrev i_make_Bounds : FuncId := 18
abbrev i_archiver_Part : FuncId := 19
abbrev i_law11_awake : FuncId := 20
abbrev i_law11_index : FuncId := 21
abbrev i_law11_odd : FuncId := 22
abbrev i_draw_Codes_Entry : FuncId := 23
abbrev i_draw_Codes_Next : FuncId := 24
abbrev i_pageindex_Note : FuncId := 25
abbrev i_ref11_Note : FuncId := 26
abbrev i_ref11_Same : FuncId := 27
abbrev i_pageindex_SetImage : FuncId := 28
abbrev i_ref11_SetImage : FuncId := 29
abbrev i_pageindex_Encode : FuncId := 30
abbrev i_ref11_Encode : FuncId := 31
abbrev i_pageindex_Valid : FuncId := 32
abbrev i_ref11_Valid : FuncId := 33
abbrev i_draw_Codes_Spoilt : FuncId := 34
abbrev i_pageindex_Decode : FuncId := 35
abbrev i_ref11_Decode : FuncId := 36
abbrev i_pageindex_New : FuncId := 37
abbrev i_ref11_New : FuncId := 38
abbrev i_law02_awake : FuncId := 39
abbrev i_draw_Codes_Page : FuncId := 40
abbrev i_draw_Codes_OddPage : FuncId := 41
abbrev i_page_Encode : FuncId := 42
abbrev i_ref02_Valid : FuncId := 43
abbrev i_ref02_Encode : FuncId := 44
abbrev i_page_Valid : FuncId := 45
abbrev i_page_New : FuncId := 46
abbrev i_ref02_New : FuncId := 47
abbrev i_page_Blank : FuncId := 48
abbrev i_ref02_Blank : FuncId := 49
abbrev i_law02_sealed : FuncId := 50
abbrev i_page_Decode : FuncId := 51
abbrev i_ref02_Decode : FuncId := 52
abbrev i_draw_Codes_Bytes : FuncId := 53
abbrev i_page_Identify : FuncId := 54
abbrev i_ref02_Identify : FuncId := 55
abbrev i_law10_awake : FuncId := 56
abbrev i_pool_New : FuncId := 57
abbrev i_pool_Put : FuncId := 58
abbrev i_pool_Victim : FuncId := 59
abbrev i_pool_Use : FuncId := 60
abbrev i_ref10_Same : FuncId := 61
abbrev i_pool_Drop : FuncId := 62
abbrev i_pool_Get : FuncId := 63
abbrev i_pool_Find : FuncId := 64
abbrev i_pool_Valid : FuncId := 65
abbrev i_slices_Clone_int_int : FuncId := 66
abbrev i_archiver_Valid : FuncId := 67
abbrev i_slices_BinarySearch_int_int : FuncId := 68
abbrev i_archiver_part : FuncId := 69
abbrev i_draw_Codes_Int : FuncId := 70
abbrev i_draw_Codes_Change : FuncId := 71
abbrev i_draw_Codes_Data : FuncId := 72
abbrev i_entry_Valid : FuncId := 73
abbrev i_pageindex_there : FuncId := 74
abbrev i_pageindex_change : FuncId := 75
abbrev i_pageindex_Note_1 : FuncId := 76
abbrev i_ref05_Valid : FuncId := 77
abbrev i_ref11_set : FuncId := 78
abbrev i_pageindex_position : FuncId := 79
abbrev i_pageindex_SetImage_1 : FuncId := 80
abbrev i_ref11_lsn : FuncId := 81
abbrev i_codec_Put : FuncId := 82
abbrev i_ref01_Put : FuncId := 83
abbrev i_slices_ContainsFunc_api_Row_api_Row : FuncId := 84
abbrev i_pageindex_Valid_1 : FuncId := 85
abbrev i_codec_Get : FuncId := 86
abbrev i_pageindex_Decode_1 : FuncId := 87
abbrev i_ref01_Get : FuncId := 88
abbrev i_draw_Codes_Cell : FuncId := 89
abbrev i_page_placed : FuncId := 90
abbrev i_page_cells : FuncId := 91
abbrev i_page_builder_cell : FuncId := 92
abbrev i_strings_Repeat : FuncId := 93
abbrev i_codec_Sum : FuncId := 94
abbrev i_ref02_numbers : FuncId := 95
abbrev i_ref02_cells : FuncId := 96
abbrev i_ref02_Check : FuncId := 97
abbrev i_ref02_zeros : FuncId := 98
abbrev i_ref01_Sum : FuncId := 99
abbrev i_ref02_Seal : FuncId := 100
abbrev i_page_number : FuncId := 101
abbrev i_page_read : FuncId := 102
abbrev i_page_named : FuncId := 103
abbrev i_pool_find : FuncId := 104
abbrev i_slices_Clip_api_Frame_api_Frame : FuncId := 105
abbrev i_slices_Clone_api_Frame_api_Frame : FuncId := 106
abbrev i_pool_with_api_Frame : FuncId := 107
abbrev i_slices_Delete_api_Frame_api_Frame : FuncId := 108
abbrev i_cmp_Less_int : FuncId := 109
abbrev i_slices_isNaN_int : FuncId := 110
abbrev i_entry_before : FuncId := 111
abbrev i_entry_rules : FuncId := 112
abbrev i_slices_Clone_api_Row_api_Row : FuncId := 113
abbrev i_ref05_shape : FuncId := 114
abbrev i_ref05_before : FuncId := 115
abbrev i_strings_Builder_WriteString : FuncId := 116
abbrev i_strings_Builder_WriteByte : FuncId := 117
abbrev i_strings_Builder_String : FuncId := 118
abbrev i_slices_IndexFunc_api_Row_api_Row : FuncId := 119
abbrev i_math_bits_Mul : FuncId := 120
abbrev i_strings_HasPrefix : FuncId := 121
abbrev i_strings_Builder_Grow : FuncId := 122
abbrev i_strings_Builder_Len : FuncId := 123
abbrev i_codec_remainders : FuncId := 124
abbrev i_ref02_ValidCell : FuncId := 125
abbrev i_slices_IndexFunc_api_Frame_api_Frame : FuncId := 126
abbrev i_pool_find_1 : FuncId := 127
abbrev i_cmp_isNaN_int : FuncId := 128
abbrev i_entry_rules_1 : FuncId := 129
abbrev i_entry_none : FuncId := 130
abbrev i_change_Valid : FuncId := 131
abbrev i_entry_rules_2 : FuncId := 132
abbrev i_entry_rules_3 : FuncId := 133
abbrev i_ref03_Valid : FuncId := 134
abbrev i_strings_Builder_copyCheck : FuncId := 135
abbrev i_math_bits_Mul32 : FuncId := 136
abbrev i_math_bits_Mul64 : FuncId := 137
abbrev i_internal_stringslite_HasPrefix : FuncId := 138
abbrev i_strings_Builder_grow : FuncId := 139
abbrev i_change_paged : FuncId := 140
abbrev i_change_ValidCell : FuncId := 141
abbrev i_internal_abi_NoEscape : FuncId := 142
abbrev i_internal_bytealg_MakeNoZero : FuncId := 143
abbrev i_runtime_boundsError_Error : FuncId := 144
abbrev i_runtime_boundsError_RuntimeError : FuncId := 145
abbrev i_runtime_errorString_Error : FuncId := 146
abbrev i_runtime_errorString_RuntimeError : FuncId := 147
abbrev i_runtime_plainError_Error : FuncId := 148
abbrev i_runtime_plainError_RuntimeError : FuncId := 149
abbrev i_runtime_errorAddressString_Error : FuncId := 150
abbrev i_runtime_errorAddressString_RuntimeError : FuncId := 151
abbrev i_runtime_TypeAssertionError_Error : FuncId := 152
abbrev i_runtime_TypeAssertionError_RuntimeError : FuncId := 153
abbrev i_runtime_PanicNilError_Error : FuncId := 154
abbrev i_runtime_PanicNilError_RuntimeError : FuncId := 155
abbrev i_internal_abi_Type_Align : FuncId := 156
abbrev i_internal_runtime_maps_unhashableTypeError_Error : FuncId := 157
abbrev i_internal_runtime_maps_unhashableTypeError_RuntimeError : FuncId := 158
abbrev i_strings_Builder_Reset : FuncId := 159
abbrev i_internal_abi_Kind_String : FuncId := 160

/- pagemend/pagemenddraw.New -/
def c_draw_New_0 : ACode := .seq (.reg false [] [⟨.mv (.t 0), some 12, none⟩,
    ⟨.build (e_pagemenddraw_Codes default) [(0, 1, (.t 12))], some 13, none⟩,
    ⟨.box 2 (.t 13), some 14, none⟩,
    ⟨.mv (.t 14), some 4, none⟩])
  (.ret)
def c_draw_New : ACode := .seq (.reg false [] [⟨.mv (.c (.p .np)), some 4, none⟩])
  (.seq (.seq (.reg false [] [⟨.mv (.t 0), some 5, none⟩,
    ⟨.len false (.t 5), some 6, none⟩,
    ⟨.mv (.t 1), some 7, none⟩,
    ⟨.bin .gtr .plain (.t 6) (.t 7), some 8, none⟩])
  (.keep [0, 1, 8] (.cond (.t 8)
  (.reg false [] [⟨.mv (.t 0), some 9, none⟩,
      ⟨.mv (.t 1), some 10, none⟩,
      ⟨.slice (.sl 1) (.t 9) none (some (.t 10)) none, some 11, none⟩,
      ⟨.mv (.t 11), some 0, none⟩])
  (.skip))))
  (.keep [0] c_draw_New_0))
def f_draw_New : AFn := ⟨2, 15, c_draw_New, [.tmp 4], false⟩

/- (*pagemend/pagemenddraw.Codes).Next -/
def c_draw_Codes_Next : ACode := .seq (.reg false [] [⟨.mv (.c (.p (.i .i64 0))), some 4, none⟩])
  (.seq (.seq (.reg true [] [⟨.mv (.t 0), some 6, none⟩,
    ⟨.nilchk (.t 6), some 7, none⟩,
    ⟨.faddr 1 (.t 7), some 8, none⟩,
    ⟨.load false 1 (.t 8), some 9, none⟩,
    ⟨.mv (.t 0), some 10, none⟩,
    ⟨.nilchk (.t 10), some 11, none⟩,
    ⟨.faddr 0 (.t 11), some 12, none⟩,
    ⟨.load false 1 (.t 12), some 13, none⟩,
    ⟨.len false (.t 13), some 14, none⟩,
    ⟨.bin .geq .plain (.t 9) (.t 14), some 15, none⟩,
    ⟨.mv (.t 15), some 16, none⟩,
    ⟨.mv (.t 1), some 17, some (16, false)⟩,
    ⟨.bin .lss .plain (.t 17) (.c (.p (.i .i64 1))), some 18, some (16, false)⟩,
    ⟨.pick (.t 16) (.c (.p (.b true))) (.t 18), some 19, none⟩])
  (.keep [0, 1, 19] (.cond (.t 19)
  (.seq (.reg false [] [⟨.mv (.c (.p (.i .i64 0))), some 4, none⟩])
    (.ret))
  (.skip))))
  (.seq (.reg true [] [⟨.mv (.t 0), some 20, none⟩,
    ⟨.nilchk (.t 20), some 21, none⟩,
    ⟨.faddr 0 (.t 21), some 22, none⟩,
    ⟨.load false 1 (.t 22), some 23, none⟩,
    ⟨.mv (.t 0), some 24, none⟩,
    ⟨.nilchk (.t 24), some 25, none⟩,
    ⟨.faddr 1 (.t 25), some 26, none⟩,
    ⟨.load false 1 (.t 26), some 27, none⟩,
    ⟨.iaddr 1 (.t 23) (.t 27), some 28, none⟩,
    ⟨.load false 1 (.t 28), some 29, none⟩,
    ⟨.conv (.int .i64) (.t 29), some 30, none⟩,
    ⟨.mv (.t 30), some 5, none⟩])
  (.keep [0, 1, 5] (.seq (.reg false [] [⟨.mv (.t 0), some 31, none⟩,
    ⟨.nilchk (.t 31), some 32, none⟩,
    ⟨.faddr 1 (.t 32), some 33, none⟩,
    ⟨.load false 1 (.t 33), some 34, none⟩,
    ⟨.bin .add .plain (.t 34) (.c (.p (.i .i64 1))), some 35, none⟩,
    ⟨.nilchk (.t 31), some 36, none⟩,
    ⟨.faddr 1 (.t 36), some 37, none⟩,
    ⟨.store 1 (.t 37) (.t 35), none, none⟩])
  (.keep [0, 1, 5] (.seq (.seq (.reg false [] [⟨.mv (.t 1), some 38, none⟩,
    ⟨.bin .gtr .plain (.t 38) (.c (.p (.i .i64 256))), some 39, none⟩])
  (.cond (.t 39)
  (.seq (.reg false [] [⟨.mv (.t 5), some 40, none⟩,
      ⟨.bin .mul .plain (.c (.p (.i .i64 256))) (.t 40), some 41, none⟩,
      ⟨.mv (.t 0), some 42, none⟩,
      ⟨.call i_draw_Codes_Next [(.t 42), (.c (.p (.i .i64 256)))] 0, some 43, none⟩,
      ⟨.bin .add .plain (.t 41) (.t 43), some 44, none⟩,
      ⟨.mv (.t 1), some 45, none⟩,
      ⟨.bin .rem .plain (.t 44) (.t 45), some 46, none⟩,
      ⟨.mv (.t 46), some 4, none⟩])
    (.ret))
  (.skip)))
  (.seq (.reg false [] [⟨.mv (.t 5), some 47, none⟩,
    ⟨.mv (.t 1), some 48, none⟩,
    ⟨.bin .rem .plain (.t 47) (.t 48), some 49, none⟩,
    ⟨.mv (.t 49), some 4, none⟩])
  (.ret))))))))
def f_draw_Codes_Next : AFn := ⟨2, 50, c_draw_Codes_Next, [.tmp 4], false⟩

/- (*pagemend/pagemenddraw.Codes).Spoilt -/
def c_draw_Codes_Spoilt : ACode := .seq (.reg false [] [⟨.mv (.c (.p (.s []))), some 4, none⟩])
  (.seq (.seq (.reg false [] [⟨.mv (.t 1), some 6, none⟩,
    ⟨.len true (.t 6), some 7, none⟩,
    ⟨.bin .eql .plain (.t 7) (.c (.p (.i .i64 0))), some 8, none⟩])
  (.keep [0, 1, 8] (.cond (.t 8)
  (.seq (.reg false [] [⟨.mv (.t 0), some 9, none⟩,
      ⟨.call i_draw_Codes_Next [(.t 9), (.c (.p (.i .i64 256)))] 0, some 10, none⟩,
      ⟨.conv (.int .u8) (.t 10), some 11, none⟩,
      ⟨.lits false 1 1 [(.i .u8 0)] [(0, (.t 11))], some 12, none⟩,
      ⟨.conv .toStr (.t 12), some 13, none⟩,
      ⟨.mv (.t 13), some 4, none⟩])
    (.ret))
  (.skip))))
  (.seq (.reg false [] [⟨.mv (.t 0), some 14, none⟩,
    ⟨.mv (.t 1), some 15, none⟩,
    ⟨.len true (.t 15), some 16, none⟩,
    ⟨.call i_draw_Codes_Next [(.t 14), (.t 16)] 0, some 17, none⟩,
    ⟨.mv (.t 17), some 5, none⟩])
  (.keep [0, 1, 5] (.seq (.seq (.reg false [] [⟨.mv (.t 0), some 18, none⟩,
    ⟨.call i_draw_Codes_Next [(.t 18), (.c (.p (.i .i64 4)))] 0, some 19, none⟩])
  (.block 0 (.seq (.reg false [] [⟨.bin .eql .plain (.t 19) (.c (.p (.i .i64 0))), some 21, none⟩,
    ⟨.mv (.t 21), some 20, none⟩])
  (.cond (.t 20)
  (.seq (.reg true [] [⟨.mv (.t 1), some 22, none⟩,
      ⟨.mv (.t 5), some 23, none⟩,
      ⟨.slice .str (.t 22) none (some (.t 23)) none, some 24, none⟩,
      ⟨.mv (.t 1), some 25, none⟩,
      ⟨.mv (.t 5), some 26, none⟩,
      ⟨.bin .add .plain (.t 26) (.c (.p (.i .i64 1))), some 27, none⟩,
      ⟨.slice .str (.t 25) (some (.t 27)) none none, some 28, none⟩,
      ⟨.bin .add .plain (.t 24) (.t 28), some 29, none⟩,
      ⟨.mv (.t 29), some 4, none⟩])
    (.ret))
  (.seq (.reg false [] [⟨.bin .eql .plain (.t 19) (.c (.p (.i .i64 1))), some 31, none⟩,
      ⟨.mv (.t 31), some 30, none⟩])
    (.cond (.t 30)
    (.seq (.reg false [] [⟨.mv (.t 1), some 32, none⟩,
        ⟨.mv (.t 0), some 33, none⟩,
        ⟨.call i_draw_Codes_Next [(.t 33), (.c (.p (.i .i64 256)))] 0, some 34, none⟩,
        ⟨.conv (.int .u8) (.t 34), some 35, none⟩,
        ⟨.lits false 1 1 [(.i .u8 0)] [(0, (.t 35))], some 36, none⟩,
        ⟨.conv .toStr (.t 36), some 37, none⟩,
        ⟨.bin .add .plain (.t 32) (.t 37), some 38, none⟩,
        ⟨.mv (.t 38), some 4, none⟩])
      (.ret))
    (.skip)))))))
  (.seq (.reg true [] [⟨.mv (.t 1), some 39, none⟩,
    ⟨.mv (.t 5), some 40, none⟩,
    ⟨.slice .str (.t 39) none (some (.t 40)) none, some 41, none⟩,
    ⟨.mv (.t 1), some 42, none⟩,
    ⟨.mv (.t 5), some 43, none⟩,
    ⟨.sidx (.t 42) (.t 43), some 44, none⟩,
    ⟨.mv (.t 0), some 45, none⟩,
    ⟨.call i_draw_Codes_Next [(.t 45), (.c (.p (.i .i64 255)))] 0, some 46, none⟩,
    ⟨.bin .add .plain (.c (.p (.i .i64 1))) (.t 46), some 47, none⟩,
    ⟨.conv (.int .u8) (.t 47), some 48, none⟩,
    ⟨.bin .xor .plain (.t 44) (.t 48), some 49, none⟩,
    ⟨.lits false 1 1 [(.i .u8 0)] [(0, (.t 49))], some 50, none⟩,
    ⟨.conv .toStr (.t 50), some 51, none⟩,
    ⟨.bin .add .plain (.t 41) (.t 51), some 52, none⟩,
    ⟨.mv (.t 1), some 53, none⟩,
    ⟨.mv (.t 5), some 54, none⟩,
    ⟨.bin .add .plain (.t 54) (.c (.p (.i .i64 1))), some 55, none⟩,
    ⟨.slice .str (.t 53) (some (.t 55)) none none, some 56, none⟩,
    ⟨.bin .add .plain (.t 52) (.t 56), some 57, none⟩,
    ⟨.mv (.t 57), some 4, none⟩])
  (.ret))))))
def f_draw_Codes_Spoilt : AFn := ⟨2, 58, c_draw_Codes_Spoilt, [.tmp 4], false⟩

/- pagemend/page.New -/
def c_page_New : ACode := .seq (.reg false [] [⟨.newbox (e_api_Page default), some 2, none⟩])
  (.seq (.reg false [] [⟨.mv (.t 0), some 3, none⟩,
    ⟨.build (e_api_Page default) [(0, 1, (.t 3))], some 4, none⟩,
    ⟨.store 34 (.t 2) (.t 4), none, none⟩])
  (.ret))
def f_page_New : AFn := ⟨1, 5, c_page_New, [.cell 2 true 34], false⟩

/- pagemend/pagemendref02.New -/
def c_ref02_New : ACode := .seq (.reg false [] [⟨.newbox (e_api_Page default), some 2, none⟩])
  (.seq (.reg false [] [⟨.mv (.t 0), some 3, none⟩,
    ⟨.build (e_api_Page default) [(0, 1, (.t 3))], some 4, none⟩,
    ⟨.store 34 (.t 2) (.t 4), none, none⟩])
  (.ret))
def f_ref02_New : AFn := ⟨1, 5, c_ref02_New, [.cell 2 true 34], false⟩

/- (*pagemend/pagemenddraw.Codes).Bytes -/
def c_draw_Codes_Bytes_0 : ACode := .seq (.seq (.reg false [] [⟨.mv (.t 5), some 10, none⟩,
    ⟨.mv (.t 3), some 11, none⟩,
    ⟨.len false (.t 11), some 12, none⟩,
    ⟨.bin .lss .plain (.t 10) (.t 12), some 13, none⟩])
  (.keep [0, 3, 4, 5, 13] (.cond (.t 13)
  (.skip)
  (.exit 0))))
  (.seq (.block 1 (.reg false [] [⟨.mv (.t 3), some 16, none⟩,
    ⟨.mv (.t 5), some 17, none⟩,
    ⟨.mv (.t 4), some 18, none⟩,
    ⟨.iaddr 1 (.t 16) (.t 17), some 19, none⟩,
    ⟨.store 1 (.t 19) (.t 18), none, none⟩]))
  (.reg false [] [⟨.mv (.t 5), some 14, none⟩,
    ⟨.bin .add .plain (.t 14) (.c (.p (.i .i64 1))), some 15, none⟩,
    ⟨.mv (.t 15), some 5, none⟩]))
def c_draw_Codes_Bytes_1 : ACode := .seq (.reg false [] [⟨.mv (.t 3), some 20, none⟩,
    ⟨.mv (.t 0), some 21, none⟩,
    ⟨.call i_draw_Codes_Next [(.t 21), (.c (.p (.i .i64 256)))] 0, some 22, none⟩,
    ⟨.mv (.t 0), some 23, none⟩,
    ⟨.call i_draw_Codes_Next [(.t 23), (.c (.p (.i .i64 256)))] 0, some 24, none⟩,
    ⟨.conv (.int .u8) (.t 24), some 25, none⟩,
    ⟨.iaddr 1 (.t 20) (.t 22), some 26, none⟩,
    ⟨.store 1 (.t 26) (.t 25), none, none⟩])
  (.keep [3] (.seq (.reg false [] [⟨.mv (.t 3), some 27, none⟩,
    ⟨.conv .toStr (.t 27), some 28, none⟩,
    ⟨.mv (.t 28), some 2, none⟩])
  (.ret)))
def c_draw_Codes_Bytes : ACode := .seq (.reg false [] [⟨.mv (.c (.p (.s []))), some 2, none⟩])
  (.seq (.reg false [] [⟨.mkslice true 1 1 [(.i .u8 0)] (.c (.p (.i .i64 256))) (.c (.p (.i .i64 256))), some 6, none⟩,
    ⟨.mv (.t 6), some 3, none⟩])
  (.seq (.reg false [] [⟨.mv (.t 0), some 7, none⟩,
    ⟨.call i_draw_Codes_Next [(.t 7), (.c (.p (.i .i64 256)))] 0, some 8, none⟩,
    ⟨.conv (.int .u8) (.t 8), some 9, none⟩,
    ⟨.mv (.t 9), some 4, none⟩])
  (.keep [0, 3, 4] (.seq (.seq (.reg false [] [⟨.mv (.c (.p (.i .i64 0))), some 5, none⟩])
  (.block 0 (.loop [0, 3, 4, 5] c_draw_Codes_Bytes_0)))
  (.keep [0, 3] c_draw_Codes_Bytes_1)))))
def f_draw_Codes_Bytes : AFn := ⟨1, 29, c_draw_Codes_Bytes, [.tmp 2], false⟩

/- (*pagemend/pagemenddraw.Codes).Int -/
def c_draw_Codes_Int : ACode := .seq (.reg false [] [⟨.mv (.c (.p (.i .i64 0))), some 2, none⟩])
  (.seq (.seq (.reg false [] [⟨.mv (.t 0), some 3, none⟩,
    ⟨.call i_draw_Codes_Next [(.t 3), (.c (.p (.i .i64 10)))] 0, some 4, none⟩])
  (.block 0 (.seq (.reg false [] [⟨.bin .eql .plain (.t 4) (.c (.p (.i .i64 0))), some 6, none⟩,
    ⟨.mv (.t 6), some 5, none⟩])
  (.cond (.t 5)
  (.seq (.reg false [] [⟨.mv (.t 0), some 7, none⟩,
      ⟨.call i_draw_Codes_Next [(.t 7), (.c (.p (.i .i64 3)))] 0, some 8, none⟩,
      ⟨.bin .sub .plain (.c (.p (.i .i64 (-1)))) (.t 8), some 9, none⟩,
      ⟨.mv (.t 9), some 2, none⟩])
    (.ret))
  (.seq (.reg false [] [⟨.bin .eql .plain (.t 4) (.c (.p (.i .i64 1))), some 11, none⟩,
      ⟨.mv (.t 11), some 10, none⟩])
    (.cond (.t 10)
    (.seq (.reg false [] [⟨.lits false 1 16 [(.i .i64 0)] [(0, (.c (.p (.i .i64 9223372036854775807)))), (1, (.c (.p (.i .i64 (-9223372036854775808))))), (2, (.c (.p (.i .i64 1099511627776)))), (3, (.c (.p (.i .i64 1099511627777)))), (4, (.c (.p (.i .i64 1073741824)))), (5, (.c (.p (.i .i64 1073741825)))), (6, (.c (.p (.i .i64 64)))), (7, (.c (.p (.i .i64 63)))), (8, (.c (.p (.i .i64 16)))), (9, (.c (.p (.i .i64 15)))), (10, (.c (.p (.i .i64 256)))), (11, (.c (.p (.i .i64 255)))), (12, (.c (.p (.i .i64 4294967296)))), (13, (.c (.p (.i .i64 65536)))), (14, (.c (.p (.i .i64 256)))), (15, (.c (.p (.i .i64 255))))], some 12, none⟩,
        ⟨.mv (.t 0), some 13, none⟩,
        ⟨.call i_draw_Codes_Next [(.t 13), (.c (.p (.i .i64 16)))] 0, some 14, none⟩,
        ⟨.iaddr 1 (.t 12) (.t 14), some 15, none⟩,
        ⟨.load false 1 (.t 15), some 16, none⟩,
        ⟨.mv (.t 16), some 2, none⟩])
      (.ret))
    (.skip)))))))
  (.seq (.reg false [] [⟨.mv (.t 0), some 17, none⟩,
    ⟨.call i_draw_Codes_Next [(.t 17), (.c (.p (.i .i64 20)))] 0, some 18, none⟩,
    ⟨.mv (.t 18), some 2, none⟩])
  (.ret)))
def f_draw_Codes_Int : AFn := ⟨1, 19, c_draw_Codes_Int, [.tmp 2], false⟩

/- (*pagemend/pagemenddraw.Codes).Data -/
def c_draw_Codes_Data_0 : ACode := .seq (.seq (.reg false [] [⟨.mv (.t 5), some 15, none⟩,
    ⟨.mv (.t 3), some 16, none⟩,
    ⟨.bin .lss .plain (.t 15) (.t 16), some 17, none⟩])
  (.keep [0, 3, 4, 5, 17] (.cond (.t 17)
  (.skip)
  (.exit 0))))
  (.seq (.block 1 (.reg false [] [⟨.mv (.t 4), some 20, none⟩,
    ⟨.mv (.t 0), some 21, none⟩,
    ⟨.call i_draw_Codes_Next [(.t 21), (.c (.p (.i .i64 3)))] 0, some 22, none⟩,
    ⟨.bin .add .plain (.c (.p (.i .i64 97))) (.t 22), some 23, none⟩,
    ⟨.conv (.int .u8) (.t 23), some 24, none⟩,
    ⟨.lits false 1 1 [(.i .u8 0)] [(0, (.t 24))], some 25, none⟩,
    ⟨.app 1 1 [(.i .u8 0)] (.t 20) (.t 25), some 26, none⟩,
    ⟨.mv (.t 26), some 4, none⟩]))
  (.reg false [] [⟨.mv (.t 5), some 18, none⟩,
    ⟨.bin .add .plain (.t 18) (.c (.p (.i .i64 1))), some 19, none⟩,
    ⟨.mv (.t 19), some 5, none⟩]))
def c_draw_Codes_Data_1 : ACode := .seq (.reg false [] [⟨.mv (.t 4), some 27, none⟩,
    ⟨.conv .toStr (.t 27), some 28, none⟩,
    ⟨.mv (.t 28), some 2, none⟩])
  (.ret)
def c_draw_Codes_Data_2 : ACode := .seq (.reg false [] [⟨.mv (.t 3), some 13, none⟩,
    ⟨.mkslice true 1 1 [(.i .u8 0)] (.c (.p (.i .i64 0))) (.t 13), some 14, none⟩,
    ⟨.mv (.t 14), some 4, none⟩])
  (.keep [0, 3, 4] (.seq (.seq (.reg false [] [⟨.mv (.c (.p (.i .i64 0))), some 5, none⟩])
  (.block 0 (.loop [0, 3, 4, 5] c_draw_Codes_Data_0)))
  (.keep [4] c_draw_Codes_Data_1)))
def c_draw_Codes_Data : ACode := .seq (.reg false [] [⟨.mv (.c (.p (.s []))), some 2, none⟩])
  (.seq (.reg false [] [⟨.mv (.t 0), some 6, none⟩,
    ⟨.call i_draw_Codes_Next [(.t 6), (.c (.p (.i .i64 5)))] 0, some 7, none⟩,
    ⟨.mv (.t 7), some 3, none⟩])
  (.keep [0, 3] (.seq (.seq (.reg false [] [⟨.mv (.t 0), some 8, none⟩,
    ⟨.call i_draw_Codes_Next [(.t 8), (.c (.p (.i .i64 6)))] 0, some 9, none⟩,
    ⟨.bin .eql .plain (.t 9) (.c (.p (.i .i64 0))), some 10, none⟩])
  (.keep [0, 3, 10] (.cond (.t 10)
  (.reg false [] [⟨.mv (.t 0), some 11, none⟩,
      ⟨.call i_draw_Codes_Next [(.t 11), (.c (.p (.i .i64 14)))] 0, some 12, none⟩,
      ⟨.mv (.t 12), some 3, none⟩])
  (.skip))))
  (.keep [0, 3] c_draw_Codes_Data_2))))
def f_draw_Codes_Data : AFn := ⟨1, 29, c_draw_Codes_Data, [.tmp 2], false⟩

/- pagemend/codec.Put -/


/- pagemend/pagemendref01.Put -/
def c_ref01_Put_0 : ACode := .seq (.seq (.reg false [] [⟨.mv (.t 7), some 15, none⟩,
    ⟨.mv (.t 2), some 16, none⟩,
    ⟨.bin .lss .plain (.t 15) (.t 16), some 17, none⟩])
  (.keep [0, 1, 2, 7, 17] (.cond (.t 17)
  (.skip)
  (.exit 0))))
  (.seq (.block 1 (.reg false [] [⟨.mv (.t 0), some 20, none⟩,
    ⟨.mv (.t 1), some 21, none⟩,
    ⟨.conv (.int .u64) (.t 21), some 22, none⟩,
    ⟨.mv (.t 7), some 23, none⟩,
    ⟨.bin .mul .plain (.c (.p (.i .i64 8))) (.t 23), some 24, none⟩,
    ⟨.conv (.int .u64) (.t 24), some 25, none⟩,
    ⟨.bin .shr .plain (.t 22) (.t 25), some 26, none⟩,
    ⟨.conv (.int .u8) (.t 26), some 27, none⟩,
    ⟨.lits false 1 1 [(.i .u8 0)] [(0, (.t 27))], some 28, none⟩,
    ⟨.conv .toStr (.t 28), some 29, none⟩,
    ⟨.bin .add .plain (.t 20) (.t 29), some 30, none⟩,
    ⟨.mv (.t 30), some 0, none⟩]))
  (.reg false [] [⟨.mv (.t 7), some 18, none⟩,
    ⟨.bin .add .plain (.t 18) (.c (.p (.i .i64 1))), some 19, none⟩,
    ⟨.mv (.t 19), some 7, none⟩]))
def c_ref01_Put_1 : ACode := .seq (.reg false [] [⟨.mv (.t 0), some 31, none⟩,
    ⟨.mv (.t 31), some 6, none⟩])
  (.ret)
def c_ref01_Put : ACode := .seq (.reg false [] [⟨.mv (.c (.p (.s []))), some 6, none⟩])
  (.seq (.seq (.reg false [] [⟨.mv (.t 2), some 8, none⟩,
    ⟨.bin .lss .plain (.t 8) (.c (.p (.i .i64 1))), some 9, none⟩,
    ⟨.mv (.t 9), some 10, none⟩,
    ⟨.mv (.t 2), some 11, some (10, false)⟩,
    ⟨.bin .gtr .plain (.t 11) (.c (.p (.i .i64 8))), some 12, some (10, false)⟩,
    ⟨.pick (.t 10) (.c (.p (.b true))) (.t 12), some 13, none⟩])
  (.keep [0, 1, 2, 13] (.cond (.t 13)
  (.seq (.reg false [] [⟨.mv (.t 0), some 14, none⟩,
      ⟨.mv (.t 14), some 6, none⟩])
    (.ret))
  (.skip))))
  (.seq (.seq (.reg false [] [⟨.mv (.c (.p (.i .i64 0))), some 7, none⟩])
  (.block 0 (.loop [0, 1, 2, 7] c_ref01_Put_0)))
  (.keep [0] c_ref01_Put_1)))
def f_ref01_Put : AFn := ⟨3, 32, c_ref01_Put, [.tmp 6], false⟩

/- pagemend/codec.Get -/
def c_codec_Get_0 : ACode := .seq (.reg false [] [⟨.bin .lss .plain (.t 35) (.t 34), some 36, none⟩])
  (.seq (.cond (.t 36)
  (.skip)
  (.exit 1))
  (.seq (.block 2 (.seq (.reg false [] [⟨.mv (.t 35), some 37, none⟩,
    ⟨.mv (.t 37), some 9, none⟩])
  (.reg false [] [⟨.mv (.t 8), some 38, none⟩,
    ⟨.mv (.t 0), some 39, none⟩,
    ⟨.mv (.t 1), some 40, none⟩,
    ⟨.mv (.t 9), some 41, none⟩,
    ⟨.bin .add .plain (.t 40) (.t 41), some 42, none⟩,
    ⟨.sidx (.t 39) (.t 42), some 43, none⟩,
    ⟨.conv (.int .u64) (.t 43), some 44, none⟩,
    ⟨.mv (.t 9), some 45, none⟩,
    ⟨.bin .mul .plain (.c (.p (.i .i64 8))) (.t 45), some 46, none⟩,
    ⟨.bin .shl .plain (.t 44) (.t 46), some 47, none⟩,
    ⟨.bin .or .plain (.t 38) (.t 47), some 48, none⟩,
    ⟨.mv (.t 48), some 8, none⟩])))
  (.reg false [] [⟨.bin .add .plain (.t 35) (.c (.p (.i .i64 1))), some 49, none⟩,
    ⟨.mv (.t 49), some 35, none⟩])))
def c_codec_Get_1 : ACode := .seq (.reg false [] [⟨.mv (.t 8), some 50, none⟩,
    ⟨.conv (.int .i64) (.t 50), some 51, none⟩,
    ⟨.mv (.t 51), some 6, none⟩,
    ⟨.mv (.c (.p (.i .i64 0))), some 7, none⟩])
  (.ret)
def c_codec_Get : ACode := .seq (.reg false [] [⟨.mv (.c (.p (.i .i64 0))), some 6, none⟩,
    ⟨.mv (.c (.p (.i .i64 0))), some 7, none⟩])
  (.seq (.block 0 (.seq (.reg false [] [⟨.mv (.t 2), some 11, none⟩,
    ⟨.bin .lss .plain (.t 11) (.c (.p (.i .i64 1))), some 12, none⟩,
    ⟨.mv (.t 12), some 13, none⟩,
    ⟨.mv (.t 2), some 14, some (13, false)⟩,
    ⟨.bin .gtr .plain (.t 14) (.c (.p (.i .i64 8))), some 15, some (13, false)⟩,
    ⟨.pick (.t 13) (.c (.p (.b true))) (.t 15), some 16, none⟩,
    ⟨.mv (.t 16), some 17, none⟩,
    ⟨.mv (.t 1), some 18, some (17, false)⟩,
    ⟨.bin .lss .plain (.t 18) (.c (.p (.i .i64 0))), some 19, some (17, false)⟩,
    ⟨.pick (.t 17) (.c (.p (.b true))) (.t 19), some 20, none⟩,
    ⟨.mv (.t 20), some 10, none⟩])
  (.keep [0, 1, 2, 10] (.cond (.t 10)
  (.seq (.reg false [] [⟨.mv (.c (.p (.i .i64 0))), some 6, none⟩,
      ⟨.mv (.c (.p (.i .i64 1))), some 7, none⟩])
    (.ret))
  (.seq (.reg false [] [⟨.mv (.t 1), some 22, none⟩,
      ⟨.mv (.t 0), some 23, none⟩,
      ⟨.len true (.t 23), some 24, none⟩,
      ⟨.bin .gtr .plain (.t 22) (.t 24), some 25, none⟩,
      ⟨.mv (.t 25), some 26, none⟩,
      ⟨.mv (.t 0), some 27, some (26, false)⟩,
      ⟨.len true (.t 27), some 28, some (26, false)⟩,
      ⟨.mv (.t 1), some 29, some (26, false)⟩,
      ⟨.bin .sub .plain (.t 28) (.t 29), some 30, some (26, false)⟩,
      ⟨.mv (.t 2), some 31, some (26, false)⟩,
      ⟨.bin .lss .plain (.t 30) (.t 31), some 32, some (26, false)⟩,
      ⟨.pick (.t 26) (.c (.p (.b true))) (.t 32), some 33, none⟩,
      ⟨.mv (.t 33), some 21, none⟩])
    (.keep [0, 1, 2, 21] (.cond (.t 21)
    (.seq (.reg false [] [⟨.mv (.c (.p (.i .i64 0))), some 6, none⟩,
        ⟨.mv (.c (.p (.i .i64 5))), some 7, none⟩])
      (.ret))
    (.skip))))))))
  (.seq (.reg false [] [⟨.mv (.c (.p (.i .u64 0))), some 8, none⟩])
  (.seq (.seq (.reg false [] [⟨.mv (.t 2), some 34, none⟩,
    ⟨.mv (.c (.p (.i .i64 0))), some 35, none⟩])
  (.block 1 (.loop [0, 1, 8, 34, 35] c_codec_Get_0)))
  (.keep [8] c_codec_Get_1))))
def f_codec_Get : AFn := ⟨3, 52, c_codec_Get, [.tmp 6, .tmp 7], false⟩

/- pagemend/pagemendref01.Get -/
def c_ref01_Get_0 : ACode := .seq (.seq (.reg false [] [⟨.mv (.t 9), some 32, none⟩,
    ⟨.mv (.t 2), some 33, none⟩,
    ⟨.bin .lss .plain (.t 32) (.t 33), some 34, none⟩])
  (.keep [0, 1, 2, 8, 9, 34] (.cond (.t 34)
  (.skip)
  (.exit 0))))
  (.seq (.block 1 (.reg false [] [⟨.mv (.t 8), some 37, none⟩,
    ⟨.mv (.t 0), some 38, none⟩,
    ⟨.mv (.t 1), some 39, none⟩,
    ⟨.mv (.t 9), some 40, none⟩,
    ⟨.bin .add .plain (.t 39) (.t 40), some 41, none⟩,
    ⟨.sidx (.t 38) (.t 41), some 42, none⟩,
    ⟨.conv (.int .u64) (.t 42), some 43, none⟩,
    ⟨.mv (.t 9), some 44, none⟩,
    ⟨.bin .mul .plain (.c (.p (.i .i64 8))) (.t 44), some 45, none⟩,
    ⟨.conv (.int .u64) (.t 45), some 46, none⟩,
    ⟨.bin .shl .plain (.t 43) (.t 46), some 47, none⟩,
    ⟨.bin .or .plain (.t 37) (.t 47), some 48, none⟩,
    ⟨.mv (.t 48), some 8, none⟩]))
  (.reg false [] [⟨.mv (.t 9), some 35, none⟩,
    ⟨.bin .add .plain (.t 35) (.c (.p (.i .i64 1))), some 36, none⟩,
    ⟨.mv (.t 36), some 9, none⟩]))
def c_ref01_Get_1 : ACode := .seq (.reg false [] [⟨.mv (.t 8), some 49, none⟩,
    ⟨.conv (.int .i64) (.t 49), some 50, none⟩,
    ⟨.mv (.t 50), some 6, none⟩,
    ⟨.mv (.c (.p (.i .i64 0))), some 7, none⟩])
  (.ret)
def c_ref01_Get : ACode := .seq (.reg false [] [⟨.mv (.c (.p (.i .i64 0))), some 6, none⟩,
    ⟨.mv (.c (.p (.i .i64 0))), some 7, none⟩])
  (.seq (.seq (.reg false [] [⟨.mv (.t 2), some 10, none⟩,
    ⟨.bin .lss .plain (.t 10) (.c (.p (.i .i64 1))), some 11, none⟩,
    ⟨.mv (.t 11), some 12, none⟩,
    ⟨.mv (.t 2), some 13, some (12, false)⟩,
    ⟨.bin .gtr .plain (.t 13) (.c (.p (.i .i64 8))), some 14, some (12, false)⟩,
    ⟨.pick (.t 12) (.c (.p (.b true))) (.t 14), some 15, none⟩,
    ⟨.mv (.t 15), some 16, none⟩,
    ⟨.mv (.t 1), some 17, some (16, false)⟩,
    ⟨.bin .lss .plain (.t 17) (.c (.p (.i .i64 0))), some 18, some (16, false)⟩,
    ⟨.pick (.t 16) (.c (.p (.b true))) (.t 18), some 19, none⟩])
  (.keep [0, 1, 2, 19] (.cond (.t 19)
  (.seq (.reg false [] [⟨.mv (.c (.p (.i .i64 0))), some 6, none⟩,
      ⟨.mv (.c (.p (.i .i64 1))), some 7, none⟩])
    (.ret))
  (.skip))))
  (.seq (.seq (.reg false [] [⟨.mv (.t 1), some 20, none⟩,
    ⟨.mv (.t 0), some 21, none⟩,
    ⟨.len true (.t 21), some 22, none⟩,
    ⟨.bin .gtr .plain (.t 20) (.t 22), some 23, none⟩,
    ⟨.mv (.t 23), some 24, none⟩,
    ⟨.mv (.t 0), some 25, some (24, false)⟩,
    ⟨.len true (.t 25), some 26, some (24, false)⟩,
    ⟨.mv (.t 1), some 27, some (24, false)⟩,
    ⟨.bin .sub .plain (.t 26) (.t 27), some 28, some (24, false)⟩,
    ⟨.mv (.t 2), some 29, some (24, false)⟩,
    ⟨.bin .lss .plain (.t 28) (.t 29), some 30, some (24, false)⟩,
    ⟨.pick (.t 24) (.c (.p (.b true))) (.t 30), some 31, none⟩])
  (.keep [0, 1, 2, 31] (.cond (.t 31)
  (.seq (.reg false [] [⟨.mv (.c (.p (.i .i64 0))), some 6, none⟩,
      ⟨.mv (.c (.p (.i .i64 5))), some 7, none⟩])
    (.ret))
  (.skip))))
  (.seq (.reg false [] [⟨.mv (.c (.p (.i .u64 0))), some 8, none⟩])
  (.seq (.seq (.reg false [] [⟨.mv (.c (.p (.i .i64 0))), some 9, none⟩])
  (.block 0 (.loop [0, 1, 2, 8, 9] c_ref01_Get_0)))
  (.keep [8] c_ref01_Get_1)))))
def f_ref01_Get : AFn := ⟨3, 51, c_ref01_Get, [.tmp 6, .tmp 7], false⟩

/- (*pagemend/pagemenddraw.Codes).Cell -/
def c_draw_Codes_Cell : ACode := .seq (.reg false [] [⟨.newbox (e_api_Cell default), some 2, none⟩])
  (.seq (.seq (.reg false [] [⟨.mv (.t 0), some 4, none⟩,
    ⟨.call i_draw_Codes_Next [(.t 4), (.c (.p (.i .i64 3)))] 0, some 5, none⟩,
    ⟨.bin .eql .plain (.t 5) (.c (.p (.i .i64 0))), some 6, none⟩])
  (.keep [0, 2, 6] (.cond (.t 6)
  (.seq (.reg false [] [⟨.build (e_api_Cell default) [], some 7, none⟩,
      ⟨.store 2 (.t 2) (.t 7), none, none⟩])
    (.ret))
  (.skip))))
  (.seq (.reg false [] [⟨.mv (.t 0), some 8, none⟩,
    ⟨.call i_draw_Codes_Data [(.t 8)] 0, some 9, none⟩,
    ⟨.mv (.t 9), some 3, none⟩])
  (.keep [2, 3] (.seq (.reg false [] [⟨.mv (.t 3), some 10, none⟩,
    ⟨.mv (.t 3), some 11, none⟩,
    ⟨.len true (.t 11), some 12, none⟩,
    ⟨.mm false (.t 12) (.c (.p (.i .i64 12))), some 13, none⟩,
    ⟨.slice .str (.t 10) none (some (.t 13)) none, some 14, none⟩,
    ⟨.build (e_api_Cell default) [(0, 1, (.c (.p (.b true)))), (1, 1, (.t 14))], some 15, none⟩,
    ⟨.store 2 (.t 2) (.t 15), none, none⟩])
  (.ret)))))
def f_draw_Codes_Cell : AFn := ⟨1, 16, c_draw_Codes_Cell, [.cell 2 true 2], false⟩

/- pagemend/page.cells -/
def c_page_cells_0 : ACode := .seq (.reg false [] [⟨.bin .lss .plain (.t 7) (.c (.p (.i .i64 16))), some 8, none⟩])
  (.seq (.cond (.t 8)
  (.skip)
  (.exit 0))
  (.seq (.block 1 (.seq (.reg false [] [⟨.aidx true 16 2 (.t 6) (.t 7), some 9, none⟩,
    ⟨.newbox (e_api_Cell default), some 4, none⟩,
    ⟨.store 2 (.t 4) (.t 9), none, none⟩])
  (.keep [1, 4, 6, 7] (.seq (.reg false [] [⟨.faddr 1 (.t 4), some 10, none⟩,
    ⟨.load false 1 (.t 10), some 11, none⟩,
    ⟨.len true (.t 11), some 12, none⟩,
    ⟨.bin .gtr .plain (.t 12) (.c (.p (.i .i64 12))), some 13, none⟩,
    ⟨.mv (.t 13), some 14, none⟩,
    ⟨.faddr 0 (.t 4), some 15, some (14, false)⟩,
    ⟨.load false 1 (.t 15), some 16, some (14, false)⟩,
    ⟨.un .not (.t 16), some 17, some (14, false)⟩,
    ⟨.mv (.t 17), some 18, some (14, false)⟩,
    ⟨.faddr 1 (.t 4), some 19, some (18, true)⟩,
    ⟨.load false 1 (.t 19), some 20, some (18, true)⟩,
    ⟨.bin .neq .plain (.t 20) (.c (.p (.s []))), some 21, some (18, true)⟩,
    ⟨.pick (.t 18) (.t 21) (.c (.p (.b false))), some 22, some (14, false)⟩,
    ⟨.pick (.t 14) (.c (.p (.b true))) (.t 22), some 23, none⟩,
    ⟨.mv (.t 23), some 24, none⟩,
    ⟨.faddr 0 (.t 4), some 25, some (24, false)⟩,
    ⟨.load false 1 (.t 25), some 26, some (24, false)⟩,
    ⟨.mv (.t 26), some 27, some (24, false)⟩,
    ⟨.faddr 1 (.t 1), some 28, some (27, true)⟩,
    ⟨.load false 1 (.t 28), some 29, some (27, true)⟩,
    ⟨.bin .eql .plain (.t 29) (.c (.p (.i .i64 0))), some 30, some (27, true)⟩,
    ⟨.pick (.t 27) (.t 30) (.c (.p (.b false))), some 31, some (24, false)⟩,
    ⟨.pick (.t 24) (.c (.p (.b true))) (.t 31), some 32, none⟩])
  (.keep [1, 6, 7, 32] (.cond (.t 32)
  (.seq (.reg false [] [⟨.mv (.c (.p (.b false))), some 2, none⟩])
    (.ret))
  (.skip)))))))
  (.reg false [] [⟨.bin .add .plain (.t 7) (.c (.p (.i .i64 1))), some 33, none⟩,
    ⟨.mv (.t 33), some 7, none⟩])))
def c_page_cells_1 : ACode := .seq (.reg false [] [⟨.mv (.c (.p (.b true))), some 2, none⟩])
  (.ret)
def c_page_cells : ACode := .seq (.reg false [] [⟨.box 34 (.t 0), some 1, none⟩,
    ⟨.mv (.c (.p (.b false))), some 2, none⟩])
  (.seq (.tidy [2] (.seq (.reg false [] [⟨.faddr 2 (.t 1), some 5, none⟩,
    ⟨.load true 32 (.t 5), some 6, none⟩,
    ⟨.mv (.c (.p (.i .i64 0))), some 7, none⟩])
  (.keep [1, 6, 7] (.block 0 (.loop [1, 6, 7] c_page_cells_0)))))
  (.keep [] c_page_cells_1))
def f_page_cells : AFn := ⟨1, 34, c_page_cells, [.tmp 2], false⟩

/- strings.Repeat -/


/- pagemend/pagemendref02.numbers -/
def c_ref02_numbers : ACode := .seq (.reg false [] [⟨.box 34 (.t 0), some 1, none⟩,
    ⟨.mv (.c (.p (.b false))), some 2, none⟩])
  (.seq (.reg false [] [⟨.faddr 0 (.t 1), some 3, none⟩,
    ⟨.load false 1 (.t 3), some 4, none⟩,
    ⟨.bin .geq .plain (.t 4) (.c (.p (.i .i64 0))), some 5, none⟩,
    ⟨.mv (.t 5), some 6, none⟩,
    ⟨.faddr 0 (.t 1), some 7, some (6, true)⟩,
    ⟨.load false 1 (.t 7), some 8, some (6, true)⟩,
    ⟨.bin .lss .plain (.t 8) (.c (.p (.i .i64 64))), some 9, some (6, true)⟩,
    ⟨.pick (.t 6) (.t 9) (.c (.p (.b false))), some 10, none⟩,
    ⟨.mv (.t 10), some 11, none⟩,
    ⟨.faddr 1 (.t 1), some 12, some (11, true)⟩,
    ⟨.load false 1 (.t 12), some 13, some (11, true)⟩,
    ⟨.bin .geq .plain (.t 13) (.c (.p (.i .i64 0))), some 14, some (11, true)⟩,
    ⟨.pick (.t 11) (.t 14) (.c (.p (.b false))), some 15, none⟩,
    ⟨.mv (.t 15), some 16, none⟩,
    ⟨.faddr 1 (.t 1), some 17, some (16, true)⟩,
    ⟨.load false 1 (.t 17), some 18, some (16, true)⟩,
    ⟨.bin .leq .plain (.t 18) (.c (.p (.i .i64 1099511627776))), some 19, some (16, true)⟩,
    ⟨.pick (.t 16) (.t 19) (.c (.p (.b false))), some 20, none⟩,
    ⟨.mv (.t 20), some 2, none⟩])
  (.ret))
def f_ref02_numbers : AFn := ⟨1, 21, c_ref02_numbers, [.tmp 2], false⟩

/- pagemend/pagemendref02.zeros -/
def c_ref02_zeros : ACode := .seq (.reg false [] [⟨.mv (.c (.p (.s []))), some 2, none⟩])
  (.seq (.reg false [] [⟨.mv (.t 0), some 3, none⟩,
    ⟨.mkslice false 1 1 [(.i .u8 0)] (.t 3) (.t 3), some 4, none⟩,
    ⟨.conv .toStr (.t 4), some 5, none⟩,
    ⟨.mv (.t 5), some 2, none⟩])
  (.ret))
def f_ref02_zeros : AFn := ⟨1, 6, c_ref02_zeros, [.tmp 2], false⟩

/- pagemend/pagemendref01.Sum -/
def c_ref01_Sum_0 : ACode := .reg false [] [⟨.mv (.t 5), some 20, none⟩,
    ⟨.bin .add .plain (.t 20) (.c (.p (.i .i64 1))), some 21, none⟩,
    ⟨.mv (.t 21), some 5, none⟩]
def c_ref01_Sum_1 : ACode := .seq (.seq (.reg false [] [⟨.mv (.t 5), some 18, none⟩,
    ⟨.bin .lss .plain (.t 18) (.c (.p (.i .i64 8))), some 19, none⟩])
  (.cond (.t 19)
  (.skip)
  (.exit 2)))
  (.seq (.block 3 (.seq (.reg false [] [⟨.mv (.t 3), some 22, none⟩,
    ⟨.bin .and .plain (.t 22) (.c (.p (.i .u32 1))), some 23, none⟩,
    ⟨.bin .eql .plain (.t 23) (.c (.p (.i .u32 1))), some 24, none⟩])
  (.keep [0, 3, 4, 5, 24] (.cond (.t 24)
  (.reg false [] [⟨.mv (.t 3), some 25, none⟩,
      ⟨.bin .shr .plain (.t 25) (.c (.p (.i .u64 1))), some 26, none⟩,
      ⟨.bin .xor .plain (.t 26) (.c (.p (.i .u32 2197175160))), some 27, none⟩,
      ⟨.mv (.t 27), some 3, none⟩])
  (.reg false [] [⟨.mv (.t 3), some 28, none⟩,
      ⟨.bin .shr .plain (.t 28) (.c (.p (.i .u64 1))), some 29, none⟩,
      ⟨.mv (.t 29), some 3, none⟩])))))
  (.keep [0, 3, 4, 5] c_ref01_Sum_0))
def c_ref01_Sum_2 : ACode := .reg false [] [⟨.mv (.t 4), some 10, none⟩,
    ⟨.bin .add .plain (.t 10) (.c (.p (.i .i64 1))), some 11, none⟩,
    ⟨.mv (.t 11), some 4, none⟩]
def c_ref01_Sum_3 : ACode := .seq (.seq (.reg false [] [⟨.mv (.t 4), some 6, none⟩,
    ⟨.mv (.t 0), some 7, none⟩,
    ⟨.len true (.t 7), some 8, none⟩,
    ⟨.bin .lss .plain (.t 6) (.t 8), some 9, none⟩])
  (.keep [0, 3, 4, 9] (.cond (.t 9)
  (.skip)
  (.exit 0))))
  (.seq (.block 1 (.seq (.reg false [] [⟨.mv (.t 3), some 12, none⟩,
    ⟨.mv (.t 0), some 13, none⟩,
    ⟨.mv (.t 4), some 14, none⟩,
    ⟨.sidx (.t 13) (.t 14), some 15, none⟩,
    ⟨.conv (.int .u32) (.t 15), some 16, none⟩,
    ⟨.bin .xor .plain (.t 12) (.t 16), some 17, none⟩,
    ⟨.mv (.t 17), some 3, none⟩])
  (.keep [0, 3, 4] (.seq (.reg false [] [⟨.mv (.c (.p (.i .i64 0))), some 5, none⟩])
  (.block 2 (.loop [0, 3, 4, 5] c_ref01_Sum_1))))))
  (.keep [0, 3, 4] c_ref01_Sum_2))
def c_ref01_Sum_4 : ACode := .seq (.reg false [] [⟨.mv (.t 3), some 30, none⟩,
    ⟨.un .xor (.t 30), some 31, none⟩,
    ⟨.mv (.t 31), some 2, none⟩])
  (.ret)
def c_ref01_Sum : ACode := .seq (.reg false [] [⟨.mv (.c (.p (.i .u32 0))), some 2, none⟩])
  (.seq (.reg false [] [⟨.mv (.c (.p (.i .u32 4294967295))), some 3, none⟩])
  (.seq (.seq (.reg false [] [⟨.mv (.c (.p (.i .i64 0))), some 4, none⟩])
  (.block 0 (.loop [0, 3, 4] c_ref01_Sum_3)))
  (.keep [3] c_ref01_Sum_4)))
def f_ref01_Sum : AFn := ⟨1, 32, c_ref01_Sum, [.tmp 2], false⟩

/- pagemend/pagemendref02.Seal -/
def c_ref02_Seal : ACode := .seq (.reg false [] [⟨.mv (.c (.p (.s []))), some 2, none⟩])
  (.seq (.reg true [] [⟨.mv (.t 0), some 3, none⟩,
    ⟨.mv (.t 0), some 4, none⟩,
    ⟨.call i_ref01_Sum [(.t 4)] 0, some 5, none⟩,
    ⟨.conv (.int .i64) (.t 5), some 6, none⟩,
    ⟨.call i_ref01_Put [(.t 3), (.t 6), (.c (.p (.i .i64 4)))] 0, some 7, none⟩,
    ⟨.mv (.t 0), some 8, none⟩,
    ⟨.slice .str (.t 8) none (some (.c (.p (.i .i64 8)))) none, some 9, none⟩,
    ⟨.bin .add .plain (.t 7) (.t 9), some 10, none⟩,
    ⟨.mv (.t 10), some 2, none⟩])
  (.ret))
def f_ref02_Seal : AFn := ⟨1, 11, c_ref02_Seal, [.tmp 2], false⟩

/- pagemend/page.number -/
def c_page_number : ACode := .seq (.reg false [] [⟨.mv (.c (.p (.i .i64 0))), some 6, none⟩])
  (.seq (.reg false [] [⟨.mv (.t 0), some 10, none⟩,
    ⟨.mv (.t 1), some 11, none⟩,
    ⟨.mv (.t 2), some 12, none⟩,
    ⟨.call i_codec_Get [(.t 10), (.t 11), (.t 12)] 0, some 13, none⟩,
    ⟨.mv (.t 13), some 9, none⟩,
    ⟨.extr (.t 9) 0, some 14, none⟩,
    ⟨.extr (.t 9) 1, some 15, none⟩,
    ⟨.mv (.t 14), some 7, none⟩,
    ⟨.mv (.t 15), some 8, none⟩])
  (.keep [7] (.seq (.reg false [] [⟨.mv (.t 7), some 16, none⟩,
    ⟨.mv (.t 16), some 6, none⟩])
  (.ret))))
def f_page_number : AFn := ⟨3, 17, c_page_number, [.tmp 6], false⟩

/- pagemend/page.read -/
def c_page_read_0 : ACode := .seq (.reg false [] [⟨.bin .lss .plain (.t 13) (.c (.p (.i .i64 16))), some 14, none⟩])
  (.seq (.cond (.t 14)
  (.skip)
  (.exit 0))
  (.seq (.block 1 (.seq (.reg false [] [⟨.mv (.t 13), some 15, none⟩,
    ⟨.mv (.t 15), some 5, none⟩])
  (.seq (.reg false [] [⟨.mv (.t 5), some 16, none⟩,
    ⟨.bin .mul .plain (.t 16) (.c (.p (.i .i64 13))), some 17, none⟩,
    ⟨.bin .add .plain (.c (.p (.i .i64 12))) (.t 17), some 18, none⟩,
    ⟨.mv (.t 18), some 6, none⟩])
  (.keep [0, 2, 4, 5, 6, 13] (.seq (.reg false [] [⟨.mv (.t 0), some 19, none⟩,
    ⟨.mv (.t 6), some 20, none⟩,
    ⟨.call i_page_number [(.t 19), (.t 20), (.c (.p (.i .i64 1)))] 0, some 21, none⟩,
    ⟨.mv (.t 21), some 7, none⟩])
  (.keep [0, 2, 4, 5, 6, 7, 13] (.block 2 (.seq (.reg false [] [⟨.mv (.t 7), some 35, none⟩,
    ⟨.bin .eql .plain (.t 35) (.c (.p (.i .i64 255))), some 36, none⟩,
    ⟨.mv (.t 36), some 34, none⟩])
  (.keep [0, 2, 4, 5, 6, 7, 13, 34] (.cond (.t 34)
  (.skip)
  (.seq (.reg false [] [⟨.mv (.t 7), some 38, none⟩,
      ⟨.bin .gtr .plain (.t 38) (.c (.p (.i .i64 12))), some 39, none⟩,
      ⟨.mv (.t 39), some 37, none⟩])
    (.keep [0, 2, 4, 5, 6, 7, 13, 37] (.cond (.t 37)
    (.seq (.reg false [] [⟨.build (e_api_Page default) [], some 40, none⟩,
        ⟨.store 34 (.t 2) (.t 40), none, none⟩,
        ⟨.mv (.c (.p (.b false))), some 3, none⟩])
      (.ret))
    (.reg false [] [⟨.mv (.t 5), some 22, none⟩,
        ⟨.mv (.t 0), some 23, none⟩,
        ⟨.mv (.t 6), some 24, none⟩,
        ⟨.bin .add .plain (.t 24) (.c (.p (.i .i64 1))), some 25, none⟩,
        ⟨.mv (.t 6), some 26, none⟩,
        ⟨.bin .add .plain (.t 26) (.c (.p (.i .i64 1))), some 27, none⟩,
        ⟨.mv (.t 7), some 28, none⟩,
        ⟨.bin .add .plain (.t 27) (.t 28), some 29, none⟩,
        ⟨.slice .str (.t 23) (some (.t 25)) (some (.t 29)) none, some 30, none⟩,
        ⟨.build (e_api_Cell default) [(0, 1, (.c (.p (.b true)))), (1, 1, (.t 30))], some 31, none⟩,
        ⟨.faddr 2 (.t 4), some 32, none⟩,
        ⟨.aaddr 16 2 (.t 32) (.t 22), some 33, none⟩,
        ⟨.store 2 (.t 33) (.t 31), none, none⟩]))))))))))))))
  (.reg false [] [⟨.bin .add .plain (.t 13) (.c (.p (.i .i64 1))), some 41, none⟩,
    ⟨.mv (.t 41), some 13, none⟩])))
def c_page_read_1 : ACode := .seq (.reg false [] [⟨.load true 34 (.t 4), some 42, none⟩,
    ⟨.store 34 (.t 2) (.t 42), none, none⟩,
    ⟨.mv (.c (.p (.b true))), some 3, none⟩])
  (.ret)
def c_page_read : ACode := .seq (.reg false [] [⟨.newbox (e_api_Page default), some 2, none⟩,
    ⟨.mv (.c (.p (.b false))), some 3, none⟩])
  (.seq (.reg false [] [⟨.mv (.t 0), some 8, none⟩,
    ⟨.call i_page_number [(.t 8), (.c (.p (.i .i64 8))), (.c (.p (.i .i64 4)))] 0, some 9, none⟩,
    ⟨.mv (.t 0), some 10, none⟩,
    ⟨.call i_page_number [(.t 10), (.c (.p (.i .i64 0))), (.c (.p (.i .i64 8)))] 0, some 11, none⟩,
    ⟨.build (e_api_Page default) [(0, 1, (.t 9)), (1, 1, (.t 11))], some 12, none⟩,
    ⟨.newbox (e_api_Page default), some 4, none⟩,
    ⟨.store 34 (.t 4) (.t 12), none, none⟩])
  (.keep [0, 2, 4] (.seq (.seq (.reg false [] [⟨.mv (.c (.p (.i .i64 0))), some 13, none⟩])
  (.block 0 (.loop [0, 2, 4, 13] c_page_read_0)))
  (.keep [2, 4] c_page_read_1))))
def f_page_read : AFn := ⟨1, 43, c_page_read, [.cell 2 true 34, .tmp 3], false⟩

/- pagemend/page.named -/
def c_page_named : ACode := .seq (.reg false [] [⟨.mv (.c (.p (.b false))), some 2, none⟩])
  (.seq (.reg false [] [⟨.mv (.t 0), some 3, none⟩,
    ⟨.bin .geq .plain (.t 3) (.c (.p (.i .i64 0))), some 4, none⟩,
    ⟨.mv (.t 4), some 5, none⟩,
    ⟨.mv (.t 0), some 6, some (5, true)⟩,
    ⟨.bin .lss .plain (.t 6) (.c (.p (.i .i64 64))), some 7, some (5, true)⟩,
    ⟨.pick (.t 5) (.t 7) (.c (.p (.b false))), some 8, none⟩,
    ⟨.mv (.t 8), some 2, none⟩])
  (.ret))
def f_page_named : AFn := ⟨1, 9, c_page_named, [.tmp 2], false⟩

/- pagemend/codec.remainders -/
def c_codec_remainders_0 : ACode := .seq (.reg false [] [⟨.bin .lss .plain (.t 9) (.c (.p (.i .i64 4))), some 10, none⟩])
  (.seq (.cond (.t 10)
  (.skip)
  (.exit 2))
  (.seq (.block 3 (.seq (.reg false [] [⟨.mv (.t 3), some 11, none⟩,
    ⟨.bin .and .plain (.t 11) (.c (.p (.i .u32 1))), some 12, none⟩,
    ⟨.bin .eql .plain (.t 12) (.c (.p (.i .u32 1))), some 13, none⟩])
  (.keep [0, 1, 2, 3, 4, 9, 13] (.cond (.t 13)
  (.reg false [] [⟨.mv (.t 3), some 14, none⟩,
      ⟨.bin .shr .plain (.t 14) (.c (.p (.i .u64 1))), some 15, none⟩,
      ⟨.bin .xor .plain (.t 15) (.c (.p (.i .u32 2197175160))), some 16, none⟩,
      ⟨.mv (.t 16), some 3, none⟩])
  (.reg false [] [⟨.mv (.t 3), some 17, none⟩,
      ⟨.bin .shr .plain (.t 17) (.c (.p (.i .u64 1))), some 18, none⟩,
      ⟨.mv (.t 18), some 3, none⟩])))))
  (.reg false [] [⟨.bin .add .plain (.t 9) (.c (.p (.i .i64 1))), some 19, none⟩,
    ⟨.mv (.t 19), some 9, none⟩])))
def c_codec_remainders_1 : ACode := .reg false [] [⟨.mv (.t 2), some 20, none⟩,
    ⟨.mv (.t 3), some 21, none⟩,
    ⟨.aaddr 16 1 (.t 1) (.t 20), some 22, none⟩,
    ⟨.store 1 (.t 22) (.t 21), none, none⟩]
def c_codec_remainders_2 : ACode := .reg false [] [⟨.bin .add .plain (.t 4) (.c (.p (.i .i64 1))), some 23, none⟩,
    ⟨.mv (.t 23), some 4, none⟩]
def c_codec_remainders_3 : ACode := .seq (.reg false [] [⟨.bin .lss .plain (.t 4) (.c (.p (.i .i64 16))), some 5, none⟩])
  (.seq (.cond (.t 5)
  (.skip)
  (.exit 0))
  (.seq (.block 1 (.seq (.reg false [] [⟨.mv (.t 4), some 6, none⟩,
    ⟨.mv (.t 6), some 2, none⟩])
  (.seq (.reg false [] [⟨.mv (.t 2), some 7, none⟩,
    ⟨.conv (.int .u32) (.t 7), some 8, none⟩,
    ⟨.mv (.t 8), some 3, none⟩])
  (.keep [0, 1, 2, 3, 4] (.seq (.seq (.reg false [] [⟨.mv (.c (.p (.i .i64 0))), some 9, none⟩])
  (.block 2 (.loop [0, 1, 2, 3, 4, 9] c_codec_remainders_0)))
  (.keep [0, 1, 2, 3, 4] c_codec_remainders_1))))))
  (.keep [0, 1, 4] c_codec_remainders_2)))
def c_codec_remainders_4 : ACode := .seq (.reg false [] [⟨.load true 16 (.t 1), some 24, none⟩,
    ⟨.store 16 (.t 0) (.t 24), none, none⟩])
  (.ret)
def c_codec_remainders : ACode := .seq (.reg false [] [⟨.newbox (e_ar (r_i .u32) (Vector.replicate 16 (0 : Int))), some 0, none⟩])
  (.seq (.reg false [] [⟨.newbox (e_ar (r_i .u32) (Vector.replicate 16 (0 : Int))), some 1, none⟩])
  (.seq (.seq (.reg false [] [⟨.mv (.c (.p (.i .i64 0))), some 4, none⟩])
  (.block 0 (.loop [0, 1, 4] c_codec_remainders_3)))
  (.keep [0, 1] c_codec_remainders_4)))
def f_codec_remainders : AFn := ⟨0, 25, c_codec_remainders, [.cell 0 true 16], false⟩

/- pagemend/pagemendref02.ValidCell -/
def c_ref02_ValidCell : ACode := .seq (.reg false [] [⟨.box 2 (.t 0), some 1, none⟩,
    ⟨.mv (.c (.p (.b false))), some 2, none⟩])
  (.seq (.reg false [] [⟨.faddr 1 (.t 1), some 3, none⟩,
    ⟨.load false 1 (.t 3), some 4, none⟩,
    ⟨.len true (.t 4), some 5, none⟩,
    ⟨.bin .leq .plain (.t 5) (.c (.p (.i .i64 12))), some 6, none⟩,
    ⟨.mv (.t 6), some 7, none⟩,
    ⟨.faddr 0 (.t 1), some 8, some (7, true)⟩,
    ⟨.load false 1 (.t 8), some 9, some (7, true)⟩,
    ⟨.mv (.t 9), some 10, some (7, true)⟩,
    ⟨.faddr 1 (.t 1), some 11, some (10, false)⟩,
    ⟨.load false 1 (.t 11), some 12, some (10, false)⟩,
    ⟨.bin .eql .plain (.t 12) (.c (.p (.s []))), some 13, some (10, false)⟩,
    ⟨.pick (.t 10) (.c (.p (.b true))) (.t 13), some 14, some (7, true)⟩,
    ⟨.pick (.t 7) (.t 14) (.c (.p (.b false))), some 15, none⟩,
    ⟨.mv (.t 15), some 2, none⟩])
  (.ret))
def f_ref02_ValidCell : AFn := ⟨1, 16, c_ref02_ValidCell, [.tmp 2], false⟩

/- (*pagemend/pagemenddraw.Codes).Page -/
def c_draw_Codes_Page_0 : ACode := .seq (.seq (.reg false [] [⟨.mv (.t 6), some 23, none⟩,
    ⟨.bin .gtr .plain (.t 23) (.c (.p (.i .i64 0))), some 24, none⟩])
  (.cond (.t 24)
  (.skip)
  (.exit 0)))
  (.seq (.block 1 (.reg false [] [⟨.mv (.t 0), some 27, none⟩,
    ⟨.call i_draw_Codes_Next [(.t 27), (.c (.p (.i .i64 16)))] 0, some 28, none⟩,
    ⟨.mv (.t 0), some 29, none⟩,
    ⟨.call i_draw_Codes_Cell [(.t 29)] 0, some 30, none⟩,
    ⟨.faddr 2 (.t 5), some 31, none⟩,
    ⟨.aaddr 16 2 (.t 31) (.t 28), some 32, none⟩,
    ⟨.store 2 (.t 32) (.t 30), none, none⟩]))
  (.reg false [] [⟨.mv (.t 6), some 25, none⟩,
    ⟨.bin .sub .plain (.t 25) (.c (.p (.i .i64 1))), some 26, none⟩,
    ⟨.mv (.t 26), some 6, none⟩]))
def c_draw_Codes_Page_1 : ACode := .seq (.reg false [] [⟨.load true 34 (.t 5), some 33, none⟩,
    ⟨.store 34 (.t 4) (.t 33), none, none⟩])
  (.ret)
def c_draw_Codes_Page_2 : ACode := .seq (.seq (.reg false [] [⟨.faddr 1 (.t 5), some 18, none⟩,
    ⟨.load false 1 (.t 18), some 19, none⟩,
    ⟨.bin .gtr .plain (.t 19) (.c (.p (.i .i64 0))), some 20, none⟩])
  (.keep [0, 4, 5, 20] (.cond (.t 20)
  (.seq (.reg false [] [⟨.mv (.t 0), some 21, none⟩,
      ⟨.call i_draw_Codes_Next [(.t 21), (.c (.p (.i .i64 6)))] 0, some 22, none⟩,
      ⟨.mv (.t 22), some 6, none⟩])
    (.keep [0, 4, 5, 6] (.block 0 (.loop [0, 4, 5, 6] c_draw_Codes_Page_0))))
  (.skip))))
  (.keep [4, 5] c_draw_Codes_Page_1)
def c_draw_Codes_Page : ACode := .seq (.reg false [] [⟨.newbox (e_api_Page default), some 4, none⟩])
  (.seq (.reg false [] [⟨.mv (.t 1), some 7, none⟩,
    ⟨.mv (.t 0), some 8, none⟩,
    ⟨.call i_draw_Codes_Next [(.t 8), (.c (.p (.i .i64 50)))] 0, some 9, none⟩,
    ⟨.build (e_api_Page default) [(0, 1, (.t 7)), (1, 1, (.t 9))], some 10, none⟩,
    ⟨.newbox (e_api_Page default), some 5, none⟩,
    ⟨.store 34 (.t 5) (.t 10), none, none⟩])
  (.keep [0, 4, 5] (.seq (.seq (.reg false [] [⟨.mv (.t 0), some 11, none⟩,
    ⟨.call i_draw_Codes_Next [(.t 11), (.c (.p (.i .i64 10)))] 0, some 12, none⟩,
    ⟨.bin .eql .plain (.t 12) (.c (.p (.i .i64 9))), some 13, none⟩])
  (.keep [0, 4, 5, 13] (.cond (.t 13)
  (.reg false [] [⟨.mv (.t 0), some 14, none⟩,
      ⟨.call i_draw_Codes_Next [(.t 14), (.c (.p (.i .i64 2)))] 0, some 15, none⟩,
      ⟨.bin .sub .plain (.c (.p (.i .i64 1099511627776))) (.t 15), some 16, none⟩,
      ⟨.faddr 1 (.t 5), some 17, none⟩,
      ⟨.store 1 (.t 17) (.t 16), none, none⟩])
  (.skip))))
  (.keep [0, 4, 5] c_draw_Codes_Page_2))))
def f_draw_Codes_Page : AFn := ⟨2, 34, c_draw_Codes_Page, [.cell 4 true 34], false⟩

/- (*pagemend/pagemenddraw.Codes).OddPage -/
def c_draw_Codes_OddPage : ACode := .seq (.reg false [] [⟨.box 34 (.t 1), some 3, none⟩,
    ⟨.newbox (e_api_Page default), some 4, none⟩])
  (.seq (.seq (.reg false [] [⟨.mv (.t 0), some 5, none⟩,
    ⟨.call i_draw_Codes_Next [(.t 5), (.c (.p (.i .i64 4)))] 0, some 6, none⟩])
  (.block 0 (.seq (.reg false [] [⟨.bin .eql .plain (.t 6) (.c (.p (.i .i64 0))), some 8, none⟩,
    ⟨.mv (.t 8), some 7, none⟩])
  (.cond (.t 7)
  (.reg false [] [⟨.mv (.t 0), some 9, none⟩,
      ⟨.call i_draw_Codes_Int [(.t 9)] 0, some 10, none⟩,
      ⟨.faddr 0 (.t 3), some 11, none⟩,
      ⟨.store 1 (.t 11) (.t 10), none, none⟩])
  (.seq (.reg false [] [⟨.bin .eql .plain (.t 6) (.c (.p (.i .i64 1))), some 13, none⟩,
      ⟨.mv (.t 13), some 12, none⟩])
    (.cond (.t 12)
    (.reg false [] [⟨.mv (.t 0), some 14, none⟩,
        ⟨.call i_draw_Codes_Int [(.t 14)] 0, some 15, none⟩,
        ⟨.faddr 1 (.t 3), some 16, none⟩,
        ⟨.store 1 (.t 16) (.t 15), none, none⟩])
    (.seq (.reg false [] [⟨.bin .eql .plain (.t 6) (.c (.p (.i .i64 2))), some 18, none⟩,
        ⟨.mv (.t 18), some 17, none⟩])
      (.cond (.t 17)
      (.reg false [] [⟨.mv (.t 0), some 19, none⟩,
          ⟨.call i_draw_Codes_Next [(.t 19), (.c (.p (.i .i64 16)))] 0, some 20, none⟩,
          ⟨.mv (.t 0), some 21, none⟩,
          ⟨.call i_draw_Codes_Next [(.t 21), (.c (.p (.i .i64 2)))] 0, some 22, none⟩,
          ⟨.bin .eql .plain (.t 22) (.c (.p (.i .i64 1))), some 23, none⟩,
          ⟨.mv (.t 0), some 24, none⟩,
          ⟨.call i_draw_Codes_Data [(.t 24)] 0, some 25, none⟩,
          ⟨.build (e_api_Cell default) [(0, 1, (.t 23)), (1, 1, (.t 25))], some 26, none⟩,
          ⟨.faddr 2 (.t 3), some 27, none⟩,
          ⟨.aaddr 16 2 (.t 27) (.t 20), some 28, none⟩,
          ⟨.store 2 (.t 28) (.t 26), none, none⟩])
      (.seq (.reg false [] [⟨.bin .eql .plain (.t 6) (.c (.p (.i .i64 3))), some 30, none⟩,
          ⟨.mv (.t 30), some 29, none⟩])
        (.cond (.t 29)
        (.reg false [] [⟨.mv (.t 0), some 31, none⟩,
            ⟨.call i_draw_Codes_Next [(.t 31), (.c (.p (.i .i64 16)))] 0, some 32, none⟩,
            ⟨.mv (.t 0), some 33, none⟩,
            ⟨.call i_draw_Codes_Cell [(.t 33)] 0, some 34, none⟩,
            ⟨.faddr 2 (.t 3), some 35, none⟩,
            ⟨.aaddr 16 2 (.t 35) (.t 32), some 36, none⟩,
            ⟨.store 2 (.t 36) (.t 34), none, none⟩])
        (.skip)))))))))))
  (.seq (.reg false [] [⟨.load true 34 (.t 3), some 37, none⟩,
    ⟨.store 34 (.t 4) (.t 37), none, none⟩])
  (.ret)))
def f_draw_Codes_OddPage : AFn := ⟨2, 38, c_draw_Codes_OddPage, [.cell 4 true 34], false⟩

/- pagemend/page.Blank -/
def c_page_Blank : ACode := .seq (.reg false [] [⟨.mv (.c (.p (.s []))), some 0, none⟩])
  (.seq (.reg false [] [⟨.call i_strings_Repeat [(.c (.p (.s [0]))), (.c (.p (.i .i64 256)))] 0, some 1, none⟩,
    ⟨.mv (.t 1), some 0, none⟩])
  (.ret))
def f_page_Blank : AFn := ⟨0, 2, c_page_Blank, [.tmp 0], false⟩

/- pagemend/pagemendref02.Blank -/
def c_ref02_Blank : ACode := .seq (.reg false [] [⟨.mv (.c (.p (.s []))), some 0, none⟩])
  (.seq (.reg false [] [⟨.call i_ref02_zeros [(.c (.p (.i .i64 256)))] 0, some 1, none⟩,
    ⟨.mv (.t 1), some 0, none⟩])
  (.ret))
def f_ref02_Blank : AFn := ⟨0, 2, c_ref02_Blank, [.tmp 0], false⟩

/- pagemend/pagemendlaw02.sealed -/
def c_law02_sealed_0 : ACode := .seq (.seq (.reg false [] [⟨.mv (.t 6), some 11, none⟩,
    ⟨.bin .gtr .plain (.t 11) (.c (.p (.i .i64 0))), some 12, none⟩])
  (.cond (.t 12)
  (.skip)
  (.exit 0)))
  (.seq (.block 1 (.reg false [] [⟨.mv (.t 5), some 15, none⟩,
    ⟨.mv (.t 0), some 16, none⟩,
    ⟨.call i_draw_Codes_Next [(.t 16), (.c (.p (.i .i64 244)))] 0, some 17, none⟩,
    ⟨.mv (.t 0), some 18, none⟩,
    ⟨.call i_draw_Codes_Next [(.t 18), (.c (.p (.i .i64 256)))] 0, some 19, none⟩,
    ⟨.conv (.int .u8) (.t 19), some 20, none⟩,
    ⟨.iaddr 1 (.t 15) (.t 17), some 21, none⟩,
    ⟨.store 1 (.t 21) (.t 20), none, none⟩]))
  (.reg false [] [⟨.mv (.t 6), some 13, none⟩,
    ⟨.bin .sub .plain (.t 13) (.c (.p (.i .i64 1))), some 14, none⟩,
    ⟨.mv (.t 14), some 6, none⟩]))
def c_law02_sealed_1 : ACode := .seq (.reg false [] [⟨.mv (.t 5), some 22, none⟩,
    ⟨.slice (.sl 1) (.t 22) none (some (.c (.p (.i .i64 244)))) none, some 23, none⟩,
    ⟨.conv .toStr (.t 23), some 24, none⟩,
    ⟨.call i_ref02_Seal [(.t 24)] 0, some 25, none⟩,
    ⟨.mv (.t 25), some 4, none⟩])
  (.ret)
def c_law02_sealed : ACode := .seq (.reg false [] [⟨.mv (.c (.p (.s []))), some 4, none⟩])
  (.seq (.reg false [] [⟨.mv (.t 1), some 7, none⟩,
    ⟨.conv (.toBytes true) (.t 7), some 8, none⟩,
    ⟨.mv (.t 8), some 5, none⟩])
  (.keep [0, 5] (.seq (.seq (.reg false [] [⟨.mv (.t 0), some 9, none⟩,
    ⟨.call i_draw_Codes_Next [(.t 9), (.c (.p (.i .i64 4)))] 0, some 10, none⟩,
    ⟨.mv (.t 10), some 6, none⟩])
  (.keep [0, 5, 6] (.block 0 (.loop [0, 5, 6] c_law02_sealed_0))))
  (.keep [5] c_law02_sealed_1))))
def f_law02_sealed : AFn := ⟨2, 26, c_law02_sealed, [.tmp 4], false⟩

/- pagemend/page.placed -/
def c_page_placed : ACode := .seq (.reg false [] [⟨.box 34 (.t 0), some 1, none⟩,
    ⟨.mv (.c (.p (.b false))), some 2, none⟩])
  (.seq (.reg false [] [⟨.faddr 0 (.t 1), some 3, none⟩,
    ⟨.load false 1 (.t 3), some 4, none⟩,
    ⟨.call i_page_named [(.t 4)] 0, some 5, none⟩,
    ⟨.mv (.t 5), some 6, none⟩,
    ⟨.faddr 1 (.t 1), some 7, some (6, true)⟩,
    ⟨.load false 1 (.t 7), some 8, some (6, true)⟩,
    ⟨.bin .geq .plain (.t 8) (.c (.p (.i .i64 0))), some 9, some (6, true)⟩,
    ⟨.pick (.t 6) (.t 9) (.c (.p (.b false))), some 10, none⟩,
    ⟨.mv (.t 10), some 11, none⟩,
    ⟨.faddr 1 (.t 1), some 12, some (11, true)⟩,
    ⟨.load false 1 (.t 12), some 13, some (11, true)⟩,
    ⟨.bin .leq .plain (.t 13) (.c (.p (.i .i64 1099511627776))), some 14, some (11, true)⟩,
    ⟨.pick (.t 11) (.t 14) (.c (.p (.b false))), some 15, none⟩,
    ⟨.mv (.t 15), some 2, none⟩])
  (.ret))
def f_page_placed : AFn := ⟨1, 16, c_page_placed, [.tmp 2], false⟩

/- (*pagemend/page.builder).cell -/
def c_page_builder_cell_0 : ACode := .reg true [(6, 8), (6, 11), (8, 14)] [⟨.mv (.t 0), some 10, none⟩,
    ⟨.mv (.t 0), some 11, none⟩,
    ⟨.nilchk (.t 11), some 12, none⟩,
    ⟨.faddr 0 (.t 12), some 13, none⟩,
    ⟨.load false 1 (.t 13), some 14, none⟩,
    ⟨.mv (.t 4), some 15, none⟩,
    ⟨.call i_codec_Put [(.t 14), (.t 15), (.c (.p (.i .i64 1)))] 0, some 16, none⟩,
    ⟨.faddr 1 (.t 3), some 17, none⟩,
    ⟨.load false 1 (.t 17), some 18, none⟩,
    ⟨.bin .add .plain (.t 16) (.t 18), some 19, none⟩,
    ⟨.faddr 1 (.t 3), some 20, none⟩,
    ⟨.load false 1 (.t 20), some 21, none⟩,
    ⟨.len true (.t 21), some 22, none⟩,
    ⟨.bin .sub .plain (.c (.p (.i .i64 12))) (.t 22), some 23, none⟩,
    ⟨.call i_strings_Repeat [(.c (.p (.s [0]))), (.t 23)] 0, some 24, none⟩,
    ⟨.bin .add .plain (.t 19) (.t 24), some 25, none⟩,
    ⟨.nilchk (.t 10), some 26, none⟩,
    ⟨.faddr 0 (.t 26), some 27, none⟩,
    ⟨.store 1 (.t 27) (.t 25), none, none⟩]
def c_page_builder_cell : ACode := .seq (.reg false [] [⟨.box 2 (.t 1), some 3, none⟩])
  (.seq (.reg false [] [⟨.mv (.c (.p (.i .i64 255))), some 4, none⟩])
  (.seq (.seq (.reg false [] [⟨.faddr 0 (.t 3), some 5, none⟩,
    ⟨.load false 1 (.t 5), some 6, none⟩])
  (.cond (.t 6)
  (.reg false [] [⟨.faddr 1 (.t 3), some 7, none⟩,
      ⟨.load false 1 (.t 7), some 8, none⟩,
      ⟨.len true (.t 8), some 9, none⟩,
      ⟨.mv (.t 9), some 4, none⟩])
  (.skip)))
  (.keep [0, 3, 4] c_page_builder_cell_0)))
def f_page_builder_cell : AFn := ⟨2, 28, c_page_builder_cell, [], false⟩

/- pagemend/codec.Sum -/
def c_codec_Sum_0 : ACode := .seq (.reg false [] [⟨.bin .lss .plain (.t 9) (.t 8), some 10, none⟩])
  (.seq (.cond (.t 10)
  (.skip)
  (.exit 0))
  (.seq (.block 1 (.seq (.reg false [] [⟨.mv (.t 9), some 11, none⟩,
    ⟨.mv (.t 11), some 5, none⟩])
  (.seq (.reg false [] [⟨.mv (.t 4), some 12, none⟩,
    ⟨.mv (.t 0), some 13, none⟩,
    ⟨.mv (.t 5), some 14, none⟩,
    ⟨.sidx (.t 13) (.t 14), some 15, none⟩,
    ⟨.conv (.int .u32) (.t 15), some 16, none⟩,
    ⟨.bin .xor .plain (.t 12) (.t 16), some 17, none⟩,
    ⟨.mv (.t 17), some 4, none⟩])
  (.keep [0, 3, 4, 8, 9] (.seq (.reg false [] [⟨.mv (.t 4), some 18, none⟩,
    ⟨.bin .shr .plain (.t 18) (.c (.p (.i .u64 4))), some 19, none⟩,
    ⟨.mv (.t 4), some 20, none⟩,
    ⟨.bin .and .plain (.t 20) (.c (.p (.i .u32 15))), some 21, none⟩,
    ⟨.aaddr 16 1 (.t 3) (.t 21), some 22, none⟩,
    ⟨.load false 1 (.t 22), some 23, none⟩,
    ⟨.bin .xor .plain (.t 19) (.t 23), some 24, none⟩,
    ⟨.mv (.t 24), some 4, none⟩])
  (.keep [0, 3, 4, 8, 9] (.reg false [] [⟨.mv (.t 4), some 25, none⟩,
    ⟨.bin .shr .plain (.t 25) (.c (.p (.i .u64 4))), some 26, none⟩,
    ⟨.mv (.t 4), some 27, none⟩,
    ⟨.bin .and .plain (.t 27) (.c (.p (.i .u32 15))), some 28, none⟩,
    ⟨.aaddr 16 1 (.t 3) (.t 28), some 29, none⟩,
    ⟨.load false 1 (.t 29), some 30, none⟩,
    ⟨.bin .xor .plain (.t 26) (.t 30), some 31, none⟩,
    ⟨.mv (.t 31), some 4, none⟩])))))))
  (.reg false [] [⟨.bin .add .plain (.t 9) (.c (.p (.i .i64 1))), some 32, none⟩,
    ⟨.mv (.t 32), some 9, none⟩])))
def c_codec_Sum_1 : ACode := .seq (.reg false [] [⟨.mv (.t 4), some 33, none⟩,
    ⟨.un .xor (.t 33), some 34, none⟩,
    ⟨.mv (.t 34), some 2, none⟩])
  (.ret)
def c_codec_Sum : ACode := .seq (.reg false [] [⟨.mv (.c (.p (.i .u32 0))), some 2, none⟩])
  (.seq (.reg false [] [⟨.call i_codec_remainders [] 0, some 6, none⟩,
    ⟨.newbox (e_ar (r_i .u32) (Vector.replicate 16 (0 : Int))), some 3, none⟩,
    ⟨.store 16 (.t 3) (.t 6), none, none⟩])
  (.keep [0, 3] (.seq (.reg false [] [⟨.mv (.c (.p (.i .u32 4294967295))), some 4, none⟩])
  (.seq (.seq (.reg false [] [⟨.mv (.t 0), some 7, none⟩,
    ⟨.len true (.t 7), some 8, none⟩,
    ⟨.mv (.c (.p (.i .i64 0))), some 9, none⟩])
  (.keep [0, 3, 4, 8, 9] (.block 0 (.loop [0, 3, 4, 8, 9] c_codec_Sum_0))))
  (.keep [4] c_codec_Sum_1)))))
def f_codec_Sum : AFn := ⟨1, 35, c_codec_Sum, [.tmp 2], false⟩

/- pagemend/pagemendref02.cells -/
def c_ref02_cells_0 : ACode := .seq (.seq (.reg false [] [⟨.mv (.t 3), some 4, none⟩,
    ⟨.bin .lss .plain (.t 4) (.c (.p (.i .i64 16))), some 5, none⟩])
  (.cond (.t 5)
  (.skip)
  (.exit 0)))
  (.seq (.block 1 (.seq (.reg false [] [⟨.mv (.t 3), some 8, none⟩,
    ⟨.faddr 2 (.t 1), some 9, none⟩,
    ⟨.aaddr 16 2 (.t 9) (.t 8), some 10, none⟩,
    ⟨.load true 2 (.t 10), some 11, none⟩,
    ⟨.call i_ref02_ValidCell [(.t 11)] 0, some 12, none⟩,
    ⟨.un .not (.t 12), some 13, none⟩,
    ⟨.mv (.t 13), some 14, none⟩,
    ⟨.faddr 1 (.t 1), some 15, some (14, false)⟩,
    ⟨.load false 1 (.t 15), some 16, some (14, false)⟩,
    ⟨.bin .eql .plain (.t 16) (.c (.p (.i .i64 0))), some 17, some (14, false)⟩,
    ⟨.mv (.t 17), some 18, some (14, false)⟩,
    ⟨.mv (.t 3), some 19, some (18, true)⟩,
    ⟨.faddr 2 (.t 1), some 20, some (18, true)⟩,
    ⟨.aaddr 16 2 (.t 20) (.t 19), some 21, some (18, true)⟩,
    ⟨.faddr 0 (.t 21), some 22, some (18, true)⟩,
    ⟨.load false 1 (.t 22), some 23, some (18, true)⟩,
    ⟨.pick (.t 18) (.t 23) (.c (.p (.b false))), some 24, some (14, false)⟩,
    ⟨.pick (.t 14) (.c (.p (.b true))) (.t 24), some 25, none⟩])
  (.keep [1, 3, 25] (.cond (.t 25)
  (.seq (.reg false [] [⟨.mv (.c (.p (.b false))), some 2, none⟩])
    (.ret))
  (.skip)))))
  (.reg false [] [⟨.mv (.t 3), some 6, none⟩,
    ⟨.bin .add .plain (.t 6) (.c (.p (.i .i64 1))), some 7, none⟩,
    ⟨.mv (.t 7), some 3, none⟩]))
def c_ref02_cells_1 : ACode := .seq (.reg false [] [⟨.mv (.c (.p (.b true))), some 2, none⟩])
  (.ret)
def c_ref02_cells : ACode := .seq (.reg false [] [⟨.box 34 (.t 0), some 1, none⟩,
    ⟨.mv (.c (.p (.b false))), some 2, none⟩])
  (.seq (.seq (.reg false [] [⟨.mv (.c (.p (.i .i64 0))), some 3, none⟩])
  (.block 0 (.loop [1, 3] c_ref02_cells_0)))
  (.keep [] c_ref02_cells_1))
def f_ref02_cells : AFn := ⟨1, 26, c_ref02_cells, [.tmp 2], false⟩

/- pagemend/pagemendref02.Check -/
def c_ref02_Check : ACode := .seq (.reg false [] [⟨.box 34 (.t 0), some 1, none⟩,
    ⟨.mv (.c (.p (.i .i64 0))), some 2, none⟩])
  (.seq (.block 0 (.seq (.reg false [] [⟨.load true 34 (.t 1), some 4, none⟩,
    ⟨.call i_ref02_numbers [(.t 4)] 0, some 5, none⟩,
    ⟨.un .not (.t 5), some 6, none⟩,
    ⟨.mv (.t 6), some 3, none⟩])
  (.keep [1, 3] (.cond (.t 3)
  (.seq (.reg false [] [⟨.mv (.c (.p (.i .i64 1))), some 2, none⟩])
    (.ret))
  (.seq (.reg false [] [⟨.load true 34 (.t 1), some 8, none⟩,
      ⟨.call i_ref02_cells [(.t 8)] 0, some 9, none⟩,
      ⟨.un .not (.t 9), some 10, none⟩,
      ⟨.mv (.t 10), some 7, none⟩])
    (.keep [7] (.cond (.t 7)
    (.seq (.reg false [] [⟨.mv (.c (.p (.i .i64 22))), some 2, none⟩])
      (.ret))
    (.skip))))))))
  (.seq (.reg false [] [⟨.mv (.c (.p (.i .i64 0))), some 2, none⟩])
  (.ret)))
def f_ref02_Check : AFn := ⟨1, 11, c_ref02_Check, [.tmp 2], false⟩

/- pagemend/page.Encode -/
def c_page_Encode_0 : ACode := .seq (.reg false [] [⟨.bin .lss .plain (.t 29) (.c (.p (.i .i64 16))), some 30, none⟩])
  (.seq (.cond (.t 30)
  (.skip)
  (.exit 1))
  (.seq (.block 2 (.seq (.reg false [] [⟨.aidx true 16 2 (.t 28) (.t 29), some 31, none⟩,
    ⟨.newbox (e_api_Cell default), some 7, none⟩,
    ⟨.store 2 (.t 7) (.t 31), none, none⟩])
  (.keep [1, 4, 5, 7, 28, 29] (.reg false [] [⟨.mv (.t 5), some 32, none⟩,
    ⟨.load true 2 (.t 7), some 33, none⟩,
    ⟨.callv (.t 32) [(.t 33)] 0, some 34, none⟩]))))
  (.reg false [] [⟨.bin .add .plain (.t 29) (.c (.p (.i .i64 1))), some 35, none⟩,
    ⟨.mv (.t 35), some 29, none⟩])))
def c_page_Encode_1 : ACode := .seq (.reg true [(3, 10)] [⟨.mv (.t 4), some 36, none⟩,
    ⟨.nilchk (.t 36), some 37, none⟩,
    ⟨.faddr 0 (.t 37), some 38, none⟩,
    ⟨.load false 1 (.t 38), some 39, none⟩,
    ⟨.mv (.t 4), some 40, none⟩,
    ⟨.nilchk (.t 40), some 41, none⟩,
    ⟨.faddr 0 (.t 41), some 42, none⟩,
    ⟨.load false 1 (.t 42), some 43, none⟩,
    ⟨.len true (.t 43), some 44, none⟩,
    ⟨.bin .sub .plain (.c (.p (.i .i64 244))) (.t 44), some 45, none⟩,
    ⟨.call i_strings_Repeat [(.c (.p (.s [0]))), (.t 45)] 0, some 46, none⟩,
    ⟨.bin .add .plain (.t 39) (.t 46), some 47, none⟩,
    ⟨.mv (.t 47), some 8, none⟩])
  (.keep [1, 8] (.seq (.reg true [(2, 6), (4, 6)] [⟨.mv (.t 8), some 48, none⟩,
    ⟨.mv (.t 8), some 49, none⟩,
    ⟨.call i_codec_Sum [(.t 49)] 0, some 50, none⟩,
    ⟨.conv (.int .i64) (.t 50), some 51, none⟩,
    ⟨.call i_codec_Put [(.t 48), (.t 51), (.c (.p (.i .i64 4)))] 0, some 52, none⟩,
    ⟨.faddr 1 (.t 1), some 53, none⟩,
    ⟨.load false 1 (.t 53), some 54, none⟩,
    ⟨.call i_codec_Put [(.t 52), (.t 54), (.c (.p (.i .i64 8)))] 0, some 55, none⟩,
    ⟨.mv (.t 55), some 2, none⟩,
    ⟨.mv (.c (.p (.i .i64 0))), some 3, none⟩])
  (.ret)))
def c_page_Encode : ACode := .seq (.reg false [] [⟨.box 34 (.t 0), some 1, none⟩,
    ⟨.mv (.c (.p (.s []))), some 2, none⟩,
    ⟨.mv (.c (.p (.i .i64 0))), some 3, none⟩])
  (.keep [1] (.seq (.block 0 (.seq (.reg false [] [⟨.load true 34 (.t 1), some 10, none⟩,
    ⟨.call i_page_placed [(.t 10)] 0, some 11, none⟩,
    ⟨.un .not (.t 11), some 12, none⟩,
    ⟨.mv (.t 12), some 9, none⟩])
  (.keep [1, 9] (.cond (.t 9)
  (.seq (.reg false [] [⟨.mv (.c (.p (.s []))), some 2, none⟩,
      ⟨.mv (.c (.p (.i .i64 1))), some 3, none⟩])
    (.ret))
  (.seq (.reg false [] [⟨.load true 34 (.t 1), some 14, none⟩,
      ⟨.call i_page_cells [(.t 14)] 0, some 15, none⟩,
      ⟨.un .not (.t 15), some 16, none⟩,
      ⟨.mv (.t 16), some 13, none⟩])
    (.keep [1, 13] (.cond (.t 13)
    (.seq (.reg false [] [⟨.mv (.c (.p (.s []))), some 2, none⟩,
        ⟨.mv (.c (.p (.i .i64 22))), some 3, none⟩])
      (.ret))
    (.skip))))))))
  (.seq (.reg true [(2, 4)] [⟨.faddr 1 (.t 1), some 17, none⟩,
    ⟨.load false 1 (.t 17), some 18, none⟩,
    ⟨.call i_codec_Put [(.c (.p (.s []))), (.t 18), (.c (.p (.i .i64 8)))] 0, some 19, none⟩,
    ⟨.faddr 0 (.t 1), some 20, none⟩,
    ⟨.load false 1 (.t 20), some 21, none⟩,
    ⟨.call i_codec_Put [(.t 19), (.t 21), (.c (.p (.i .i64 4)))] 0, some 22, none⟩,
    ⟨.build (e_page_builder default) [(0, 1, (.t 22))], some 23, none⟩,
    ⟨.box 1 (.t 23), some 24, none⟩,
    ⟨.mv (.t 24), some 4, none⟩])
  (.keep [1, 4] (.seq (.reg false [] [⟨.mv (.t 4), some 25, none⟩,
    ⟨.mkfn i_page_builder_cell [(.t 25)] [], some 26, none⟩,
    ⟨.mv (.t 26), some 5, none⟩])
  (.keep [1, 4, 5] (.seq (.tidy [1, 2, 3, 4] (.seq (.reg false [] [⟨.faddr 2 (.t 1), some 27, none⟩,
    ⟨.load true 32 (.t 27), some 28, none⟩,
    ⟨.mv (.c (.p (.i .i64 0))), some 29, none⟩])
  (.keep [1, 4, 5, 28, 29] (.block 1 (.loop [1, 4, 5, 28, 29] c_page_Encode_0)))))
  (.keep [1, 4] c_page_Encode_1))))))))
def f_page_Encode : AFn := ⟨1, 56, c_page_Encode, [.tmp 2, .tmp 3], false⟩

/- pagemend/pagemendref02.Valid -/
def c_ref02_Valid : ACode := .seq (.reg false [] [⟨.box 34 (.t 0), some 1, none⟩,
    ⟨.mv (.c (.p (.b false))), some 2, none⟩])
  (.seq (.reg false [] [⟨.load true 34 (.t 1), some 3, none⟩,
    ⟨.call i_ref02_numbers [(.t 3)] 0, some 4, none⟩,
    ⟨.mv (.t 4), some 5, none⟩,
    ⟨.load true 34 (.t 1), some 6, some (5, true)⟩,
    ⟨.call i_ref02_cells [(.t 6)] 0, some 7, some (5, true)⟩,
    ⟨.pick (.t 5) (.t 7) (.c (.p (.b false))), some 8, none⟩,
    ⟨.mv (.t 8), some 2, none⟩])
  (.ret))
def f_ref02_Valid : AFn := ⟨1, 9, c_ref02_Valid, [.tmp 2], false⟩

/- pagemend/pagemendref02.Encode -/
def c_ref02_Encode_0 : ACode := .seq (.reg false [] [⟨.mv (.t 5), some 35, none⟩,
    ⟨.mv (.t 7), some 36, none⟩,
    ⟨.call i_ref01_Put [(.t 35), (.t 36), (.c (.p (.i .i64 1)))] 0, some 37, none⟩,
    ⟨.mv (.t 37), some 5, none⟩])
  (.keep [1, 5, 6] (.reg true [(5, 13)] [⟨.mv (.t 5), some 38, none⟩,
    ⟨.mv (.t 6), some 39, none⟩,
    ⟨.faddr 2 (.t 1), some 40, none⟩,
    ⟨.aaddr 16 2 (.t 40) (.t 39), some 41, none⟩,
    ⟨.faddr 1 (.t 41), some 42, none⟩,
    ⟨.load false 1 (.t 42), some 43, none⟩,
    ⟨.mv (.t 6), some 44, none⟩,
    ⟨.faddr 2 (.t 1), some 45, none⟩,
    ⟨.aaddr 16 2 (.t 45) (.t 44), some 46, none⟩,
    ⟨.faddr 1 (.t 46), some 47, none⟩,
    ⟨.load false 1 (.t 47), some 48, none⟩,
    ⟨.len true (.t 48), some 49, none⟩,
    ⟨.bin .sub .plain (.c (.p (.i .i64 12))) (.t 49), some 50, none⟩,
    ⟨.call i_ref02_zeros [(.t 50)] 0, some 51, none⟩,
    ⟨.bin .add .plain (.t 43) (.t 51), some 52, none⟩,
    ⟨.bin .add .plain (.t 38) (.t 52), some 53, none⟩,
    ⟨.mv (.t 53), some 5, none⟩]))
def c_ref02_Encode_1 : ACode := .reg false [] [⟨.mv (.t 6), some 22, none⟩,
    ⟨.bin .add .plain (.t 22) (.c (.p (.i .i64 1))), some 23, none⟩,
    ⟨.mv (.t 23), some 6, none⟩]
def c_ref02_Encode_2 : ACode := .seq (.seq (.reg false [] [⟨.mv (.t 6), some 20, none⟩,
    ⟨.bin .lss .plain (.t 20) (.c (.p (.i .i64 16))), some 21, none⟩])
  (.cond (.t 21)
  (.skip)
  (.exit 0)))
  (.seq (.block 1 (.seq (.reg false [] [⟨.mv (.c (.p (.i .i64 255))), some 7, none⟩])
  (.seq (.seq (.reg false [] [⟨.mv (.t 6), some 24, none⟩,
    ⟨.faddr 2 (.t 1), some 25, none⟩,
    ⟨.aaddr 16 2 (.t 25) (.t 24), some 26, none⟩,
    ⟨.faddr 0 (.t 26), some 27, none⟩,
    ⟨.load false 1 (.t 27), some 28, none⟩])
  (.keep [1, 5, 6, 7, 28] (.cond (.t 28)
  (.reg false [] [⟨.mv (.t 6), some 29, none⟩,
      ⟨.faddr 2 (.t 1), some 30, none⟩,
      ⟨.aaddr 16 2 (.t 30) (.t 29), some 31, none⟩,
      ⟨.faddr 1 (.t 31), some 32, none⟩,
      ⟨.load false 1 (.t 32), some 33, none⟩,
      ⟨.len true (.t 33), some 34, none⟩,
      ⟨.mv (.t 34), some 7, none⟩])
  (.skip))))
  (.keep [1, 5, 6, 7] c_ref02_Encode_0))))
  (.keep [1, 5, 6] c_ref02_Encode_1))
def c_ref02_Encode_3 : ACode := .seq (.reg false [] [⟨.mv (.t 5), some 54, none⟩,
    ⟨.mv (.t 5), some 55, none⟩,
    ⟨.len true (.t 55), some 56, none⟩,
    ⟨.bin .sub .plain (.c (.p (.i .i64 244))) (.t 56), some 57, none⟩,
    ⟨.call i_ref02_zeros [(.t 57)] 0, some 58, none⟩,
    ⟨.bin .add .plain (.t 54) (.t 58), some 59, none⟩,
    ⟨.mv (.t 59), some 5, none⟩])
  (.keep [1, 5] (.seq (.reg false [] [⟨.mv (.t 5), some 60, none⟩,
    ⟨.mv (.t 5), some 61, none⟩,
    ⟨.call i_ref01_Sum [(.t 61)] 0, some 62, none⟩,
    ⟨.conv (.int .i64) (.t 62), some 63, none⟩,
    ⟨.call i_ref01_Put [(.t 60), (.t 63), (.c (.p (.i .i64 4)))] 0, some 64, none⟩,
    ⟨.mv (.t 64), some 5, none⟩])
  (.keep [1, 5] (.seq (.reg false [] [⟨.mv (.t 5), some 65, none⟩,
    ⟨.faddr 1 (.t 1), some 66, none⟩,
    ⟨.load false 1 (.t 66), some 67, none⟩,
    ⟨.call i_ref01_Put [(.t 65), (.t 67), (.c (.p (.i .i64 8)))] 0, some 68, none⟩,
    ⟨.mv (.t 68), some 2, none⟩,
    ⟨.mv (.c (.p (.i .i64 0))), some 3, none⟩])
  (.ret)))))
def c_ref02_Encode : ACode := .seq (.reg false [] [⟨.box 34 (.t 0), some 1, none⟩,
    ⟨.mv (.c (.p (.s []))), some 2, none⟩,
    ⟨.mv (.c (.p (.i .i64 0))), some 3, none⟩])
  (.keep [1] (.seq (.seq (.reg false [] [⟨.load true 34 (.t 1), some 8, none⟩,
    ⟨.call i_ref02_Check [(.t 8)] 0, some 9, none⟩,
    ⟨.mv (.t 9), some 4, none⟩])
  (.keep [1, 4] (.seq (.reg false [] [⟨.mv (.t 4), some 10, none⟩,
    ⟨.bin .neq .plain (.t 10) (.c (.p (.i .i64 0))), some 11, none⟩])
  (.cond (.t 11)
  (.seq (.reg false [] [⟨.mv (.t 4), some 12, none⟩,
      ⟨.mv (.c (.p (.s []))), some 2, none⟩,
      ⟨.mv (.t 12), some 3, none⟩])
    (.ret))
  (.skip)))))
  (.seq (.reg false [] [⟨.faddr 1 (.t 1), some 13, none⟩,
    ⟨.load false 1 (.t 13), some 14, none⟩,
    ⟨.call i_ref01_Put [(.c (.p (.s []))), (.t 14), (.c (.p (.i .i64 8)))] 0, some 15, none⟩,
    ⟨.mv (.t 15), some 5, none⟩])
  (.keep [1, 5] (.seq (.reg false [] [⟨.mv (.t 5), some 16, none⟩,
    ⟨.faddr 0 (.t 1), some 17, none⟩,
    ⟨.load false 1 (.t 17), some 18, none⟩,
    ⟨.call i_ref01_Put [(.t 16), (.t 18), (.c (.p (.i .i64 4)))] 0, some 19, none⟩,
    ⟨.mv (.t 19), some 5, none⟩])
  (.keep [1, 5] (.seq (.seq (.reg false [] [⟨.mv (.c (.p (.i .i64 0))), some 6, none⟩])
  (.block 0 (.loop [1, 5, 6] c_ref02_Encode_2)))
  (.keep [1, 5] c_ref02_Encode_3))))))))
def f_ref02_Encode : AFn := ⟨1, 69, c_ref02_Encode, [.tmp 2, .tmp 3], false⟩

/- pagemend/page.Valid -/
def c_page_Valid : ACode := .seq (.reg false [] [⟨.box 34 (.t 0), some 1, none⟩,
    ⟨.mv (.c (.p (.b false))), some 2, none⟩])
  (.seq (.reg false [] [⟨.load true 34 (.t 1), some 3, none⟩,
    ⟨.call i_page_placed [(.t 3)] 0, some 4, none⟩,
    ⟨.mv (.t 4), some 5, none⟩,
    ⟨.load true 34 (.t 1), some 6, some (5, true)⟩,
    ⟨.call i_page_cells [(.t 6)] 0, some 7, some (5, true)⟩,
    ⟨.pick (.t 5) (.t 7) (.c (.p (.b false))), some 8, none⟩,
    ⟨.mv (.t 8), some 2, none⟩])
  (.ret))
def f_page_Valid : AFn := ⟨1, 9, c_page_Valid, [.tmp 2], false⟩

/- pagemend/page.Decode -/
def c_page_Decode : ACode := .seq (.reg false [] [⟨.newbox (e_api_Page default), some 2, none⟩,
    ⟨.mv (.c (.p (.i .i64 0))), some 3, none⟩])
  (.seq (.block 0 (.seq (.reg false [] [⟨.mv (.t 0), some 9, none⟩,
    ⟨.len true (.t 9), some 10, none⟩,
    ⟨.bin .neq .plain (.t 10) (.c (.p (.i .i64 256))), some 11, none⟩,
    ⟨.mv (.t 11), some 8, none⟩])
  (.keep [0, 2, 8] (.cond (.t 8)
  (.seq (.reg false [] [⟨.build (e_api_Page default) [], some 12, none⟩,
      ⟨.store 34 (.t 2) (.t 12), none, none⟩,
      ⟨.mv (.c (.p (.i .i64 2))), some 3, none⟩])
    (.ret))
  (.seq (.reg false [] [⟨.mv (.t 0), some 14, none⟩,
      ⟨.call i_page_Blank [] 0, some 15, none⟩,
      ⟨.bin .eql .plain (.t 14) (.t 15), some 16, none⟩,
      ⟨.mv (.t 16), some 13, none⟩])
    (.keep [0, 2, 13] (.cond (.t 13)
    (.seq (.reg false [] [⟨.build (e_api_Page default) [], some 17, none⟩,
        ⟨.store 34 (.t 2) (.t 17), none, none⟩,
        ⟨.mv (.c (.p (.i .i64 7))), some 3, none⟩])
      (.ret))
    (.seq (.reg true [] [⟨.mv (.t 0), some 19, none⟩,
        ⟨.slice .str (.t 19) none (some (.c (.p (.i .i64 8)))) none, some 20, none⟩,
        ⟨.mv (.t 0), some 21, none⟩,
        ⟨.slice .str (.t 21) (some (.c (.p (.i .i64 248)))) none none, some 22, none⟩,
        ⟨.bin .neq .plain (.t 20) (.t 22), some 23, none⟩,
        ⟨.mv (.t 23), some 18, none⟩])
      (.keep [0, 2, 18] (.cond (.t 18)
      (.seq (.reg false [] [⟨.build (e_api_Page default) [], some 24, none⟩,
          ⟨.store 34 (.t 2) (.t 24), none, none⟩,
          ⟨.mv (.c (.p (.i .i64 27))), some 3, none⟩])
        (.ret))
      (.seq (.reg true [] [⟨.mv (.t 0), some 26, none⟩,
          ⟨.call i_page_number [(.t 26), (.c (.p (.i .i64 244))), (.c (.p (.i .i64 4)))] 0, some 27, none⟩,
          ⟨.mv (.t 0), some 28, none⟩,
          ⟨.slice .str (.t 28) none (some (.c (.p (.i .i64 244)))) none, some 29, none⟩,
          ⟨.call i_codec_Sum [(.t 29)] 0, some 30, none⟩,
          ⟨.conv (.int .i64) (.t 30), some 31, none⟩,
          ⟨.bin .neq .plain (.t 27) (.t 31), some 32, none⟩,
          ⟨.mv (.t 32), some 25, none⟩])
        (.keep [0, 2, 25] (.cond (.t 25)
        (.seq (.reg false [] [⟨.build (e_api_Page default) [], some 33, none⟩,
            ⟨.store 34 (.t 2) (.t 33), none, none⟩,
            ⟨.mv (.c (.p (.i .i64 3))), some 3, none⟩])
          (.ret))
        (.skip))))))))))))))
  (.seq (.reg false [] [⟨.mv (.t 0), some 35, none⟩,
    ⟨.call i_page_read [(.t 35)] 0, some 36, none⟩,
    ⟨.mv (.t 36), some 34, none⟩,
    ⟨.extr (.t 34) 0, some 37, none⟩,
    ⟨.extr (.t 34) 1, some 38, none⟩,
    ⟨.newbox (e_api_Page default), some 4, none⟩,
    ⟨.store 34 (.t 4) (.t 37), none, none⟩,
    ⟨.mv (.t 38), some 5, none⟩])
  (.keep [0, 2, 4, 5] (.seq (.seq (.reg false [] [⟨.load true 34 (.t 4), some 40, none⟩,
    ⟨.call i_page_Encode [(.t 40)] 0, some 41, none⟩,
    ⟨.mv (.t 41), some 39, none⟩,
    ⟨.extr (.t 39) 0, some 42, none⟩,
    ⟨.extr (.t 39) 1, some 43, none⟩,
    ⟨.mv (.t 42), some 6, none⟩,
    ⟨.mv (.t 43), some 7, none⟩])
  (.keep [0, 2, 4, 5, 6, 7] (.seq (.reg false [] [⟨.mv (.t 5), some 44, none⟩,
    ⟨.un .not (.t 44), some 45, none⟩,
    ⟨.mv (.t 45), some 46, none⟩,
    ⟨.mv (.t 7), some 47, some (46, false)⟩,
    ⟨.bin .neq .plain (.t 47) (.c (.p (.i .i64 0))), some 48, some (46, false)⟩,
    ⟨.pick (.t 46) (.c (.p (.b true))) (.t 48), some 49, none⟩,
    ⟨.mv (.t 49), some 50, none⟩,
    ⟨.mv (.t 6), some 51, some (50, false)⟩,
    ⟨.mv (.t 0), some 52, some (50, false)⟩,
    ⟨.bin .neq .plain (.t 51) (.t 52), some 53, some (50, false)⟩,
    ⟨.pick (.t 50) (.c (.p (.b true))) (.t 53), some 54, none⟩])
  (.keep [2, 4, 54] (.cond (.t 54)
  (.seq (.reg false [] [⟨.build (e_api_Page default) [], some 55, none⟩,
      ⟨.store 34 (.t 2) (.t 55), none, none⟩,
      ⟨.mv (.c (.p (.i .i64 4))), some 3, none⟩])
    (.ret))
  (.skip))))))
  (.seq (.reg false [] [⟨.load true 34 (.t 4), some 56, none⟩,
    ⟨.store 34 (.t 2) (.t 56), none, none⟩,
    ⟨.mv (.c (.p (.i .i64 0))), some 3, none⟩])
  (.ret))))))
def f_page_Decode : AFn := ⟨1, 57, c_page_Decode, [.cell 2 true 34, .tmp 3], false⟩

/- pagemend/pagemendref02.Decode -/
def c_ref02_Decode_0 : ACode := .reg false [] [⟨.mv (.t 7), some 55, none⟩,
    ⟨.bin .add .plain (.t 55) (.c (.p (.i .i64 1))), some 56, none⟩,
    ⟨.mv (.t 56), some 7, none⟩]
def c_ref02_Decode_1 : ACode := .seq (.seq (.reg false [] [⟨.mv (.t 7), some 53, none⟩,
    ⟨.bin .lss .plain (.t 53) (.c (.p (.i .i64 16))), some 54, none⟩])
  (.cond (.t 54)
  (.skip)
  (.exit 1)))
  (.seq (.block 2 (.seq (.reg false [] [⟨.mv (.t 7), some 57, none⟩,
    ⟨.bin .mul .plain (.t 57) (.c (.p (.i .i64 13))), some 58, none⟩,
    ⟨.bin .add .plain (.c (.p (.i .i64 12))) (.t 58), some 59, none⟩,
    ⟨.mv (.t 59), some 8, none⟩])
  (.keep [0, 2, 6, 7, 8] (.seq (.reg false [] [⟨.mv (.t 0), some 60, none⟩,
    ⟨.mv (.t 8), some 61, none⟩,
    ⟨.sidx (.t 60) (.t 61), some 62, none⟩,
    ⟨.conv (.int .i64) (.t 62), some 63, none⟩,
    ⟨.mv (.t 63), some 9, none⟩])
  (.keep [0, 2, 6, 7, 8, 9] (.seq (.seq (.reg false [] [⟨.mv (.t 9), some 64, none⟩,
    ⟨.bin .eql .plain (.t 64) (.c (.p (.i .i64 255))), some 65, none⟩])
  (.cond (.t 65)
  (.exit 2)
  (.skip)))
  (.seq (.seq (.reg false [] [⟨.mv (.t 9), some 66, none⟩,
    ⟨.bin .gtr .plain (.t 66) (.c (.p (.i .i64 12))), some 67, none⟩])
  (.cond (.t 67)
  (.seq (.reg false [] [⟨.build (e_api_Page default) [], some 68, none⟩,
      ⟨.store 34 (.t 2) (.t 68), none, none⟩,
      ⟨.mv (.c (.p (.i .i64 4))), some 3, none⟩])
    (.ret))
  (.skip)))
  (.reg false [] [⟨.mv (.t 7), some 69, none⟩,
    ⟨.mv (.t 0), some 70, none⟩,
    ⟨.mv (.t 8), some 71, none⟩,
    ⟨.bin .add .plain (.t 71) (.c (.p (.i .i64 1))), some 72, none⟩,
    ⟨.mv (.t 8), some 73, none⟩,
    ⟨.bin .add .plain (.t 73) (.c (.p (.i .i64 1))), some 74, none⟩,
    ⟨.mv (.t 9), some 75, none⟩,
    ⟨.bin .add .plain (.t 74) (.t 75), some 76, none⟩,
    ⟨.slice .str (.t 70) (some (.t 72)) (some (.t 76)) none, some 77, none⟩,
    ⟨.build (e_api_Cell default) [(0, 1, (.c (.p (.b true)))), (1, 1, (.t 77))], some 78, none⟩,
    ⟨.faddr 2 (.t 6), some 79, none⟩,
    ⟨.aaddr 16 2 (.t 79) (.t 69), some 80, none⟩,
    ⟨.store 2 (.t 80) (.t 78), none, none⟩]))))))))
  (.keep [0, 2, 6, 7] c_ref02_Decode_0))
def c_ref02_Decode_2 : ACode := .seq (.seq (.reg false [] [⟨.load true 34 (.t 6), some 82, none⟩,
    ⟨.call i_ref02_Encode [(.t 82)] 0, some 83, none⟩,
    ⟨.mv (.t 83), some 81, none⟩,
    ⟨.extr (.t 81) 0, some 84, none⟩,
    ⟨.extr (.t 81) 1, some 85, none⟩,
    ⟨.mv (.t 84), some 10, none⟩,
    ⟨.mv (.t 85), some 11, none⟩])
  (.keep [0, 2, 6, 10, 11] (.seq (.reg false [] [⟨.mv (.t 11), some 86, none⟩,
    ⟨.bin .neq .plain (.t 86) (.c (.p (.i .i64 0))), some 87, none⟩,
    ⟨.mv (.t 87), some 88, none⟩,
    ⟨.mv (.t 10), some 89, some (88, false)⟩,
    ⟨.mv (.t 0), some 90, some (88, false)⟩,
    ⟨.bin .neq .plain (.t 89) (.t 90), some 91, some (88, false)⟩,
    ⟨.pick (.t 88) (.c (.p (.b true))) (.t 91), some 92, none⟩])
  (.keep [2, 6, 92] (.cond (.t 92)
  (.seq (.reg false [] [⟨.build (e_api_Page default) [], some 93, none⟩,
      ⟨.store 34 (.t 2) (.t 93), none, none⟩,
      ⟨.mv (.c (.p (.i .i64 4))), some 3, none⟩])
    (.ret))
  (.skip))))))
  (.seq (.reg false [] [⟨.load true 34 (.t 6), some 94, none⟩,
    ⟨.store 34 (.t 2) (.t 94), none, none⟩,
    ⟨.mv (.c (.p (.i .i64 0))), some 3, none⟩])
  (.ret))
def c_ref02_Decode : ACode := .seq (.reg false [] [⟨.newbox (e_api_Page default), some 2, none⟩,
    ⟨.mv (.c (.p (.i .i64 0))), some 3, none⟩])
  (.seq (.block 0 (.seq (.reg false [] [⟨.mv (.t 0), some 13, none⟩,
    ⟨.len true (.t 13), some 14, none⟩,
    ⟨.bin .neq .plain (.t 14) (.c (.p (.i .i64 256))), some 15, none⟩,
    ⟨.mv (.t 15), some 12, none⟩])
  (.keep [0, 2, 12] (.cond (.t 12)
  (.seq (.reg false [] [⟨.build (e_api_Page default) [], some 16, none⟩,
      ⟨.store 34 (.t 2) (.t 16), none, none⟩,
      ⟨.mv (.c (.p (.i .i64 2))), some 3, none⟩])
    (.ret))
  (.seq (.reg false [] [⟨.mv (.t 0), some 18, none⟩,
      ⟨.call i_ref02_Blank [] 0, some 19, none⟩,
      ⟨.bin .eql .plain (.t 18) (.t 19), some 20, none⟩,
      ⟨.mv (.t 20), some 17, none⟩])
    (.keep [0, 2, 17] (.cond (.t 17)
    (.seq (.reg false [] [⟨.build (e_api_Page default) [], some 21, none⟩,
        ⟨.store 34 (.t 2) (.t 21), none, none⟩,
        ⟨.mv (.c (.p (.i .i64 7))), some 3, none⟩])
      (.ret))
    (.seq (.reg true [] [⟨.mv (.t 0), some 23, none⟩,
        ⟨.slice .str (.t 23) none (some (.c (.p (.i .i64 8)))) none, some 24, none⟩,
        ⟨.mv (.t 0), some 25, none⟩,
        ⟨.slice .str (.t 25) (some (.c (.p (.i .i64 248)))) none none, some 26, none⟩,
        ⟨.bin .neq .plain (.t 24) (.t 26), some 27, none⟩,
        ⟨.mv (.t 27), some 22, none⟩])
      (.keep [0, 2, 22] (.cond (.t 22)
      (.seq (.reg false [] [⟨.build (e_api_Page default) [], some 28, none⟩,
          ⟨.store 34 (.t 2) (.t 28), none, none⟩,
          ⟨.mv (.c (.p (.i .i64 27))), some 3, none⟩])
        (.ret))
      (.skip)))))))))))
  (.seq (.reg false [] [⟨.mv (.t 0), some 30, none⟩,
    ⟨.call i_ref01_Get [(.t 30), (.c (.p (.i .i64 244))), (.c (.p (.i .i64 4)))] 0, some 31, none⟩,
    ⟨.mv (.t 31), some 29, none⟩,
    ⟨.extr (.t 29) 0, some 32, none⟩,
    ⟨.extr (.t 29) 1, some 33, none⟩,
    ⟨.mv (.t 32), some 4, none⟩,
    ⟨.mv (.t 33), some 5, none⟩])
  (.keep [0, 2, 4] (.seq (.seq (.reg false [] [⟨.mv (.t 4), some 34, none⟩,
    ⟨.conv (.int .u32) (.t 34), some 35, none⟩,
    ⟨.mv (.t 0), some 36, none⟩,
    ⟨.slice .str (.t 36) none (some (.c (.p (.i .i64 244)))) none, some 37, none⟩,
    ⟨.call i_ref01_Sum [(.t 37)] 0, some 38, none⟩,
    ⟨.bin .neq .plain (.t 35) (.t 38), some 39, none⟩])
  (.keep [0, 2, 39] (.cond (.t 39)
  (.seq (.reg false [] [⟨.build (e_api_Page default) [], some 40, none⟩,
      ⟨.store 34 (.t 2) (.t 40), none, none⟩,
      ⟨.mv (.c (.p (.i .i64 3))), some 3, none⟩])
    (.ret))
  (.skip))))
  (.seq (.reg false [] [⟨.newbox (e_api_Page default), some 6, none⟩])
  (.seq (.reg false [] [⟨.mv (.t 0), some 42, none⟩,
    ⟨.call i_ref01_Get [(.t 42), (.c (.p (.i .i64 0))), (.c (.p (.i .i64 8)))] 0, some 43, none⟩,
    ⟨.mv (.t 43), some 41, none⟩,
    ⟨.extr (.t 41) 0, some 44, none⟩,
    ⟨.extr (.t 41) 1, some 45, none⟩,
    ⟨.faddr 1 (.t 6), some 46, none⟩,
    ⟨.store 1 (.t 46) (.t 44), none, none⟩])
  (.keep [0, 2, 6] (.seq (.reg false [] [⟨.mv (.t 0), some 48, none⟩,
    ⟨.call i_ref01_Get [(.t 48), (.c (.p (.i .i64 8))), (.c (.p (.i .i64 4)))] 0, some 49, none⟩,
    ⟨.mv (.t 49), some 47, none⟩,
    ⟨.extr (.t 47) 0, some 50, none⟩,
    ⟨.extr (.t 47) 1, some 51, none⟩,
    ⟨.faddr 0 (.t 6), some 52, none⟩,
    ⟨.store 1 (.t 52) (.t 50), none, none⟩])
  (.keep [0, 2, 6] (.seq (.seq (.reg false [] [⟨.mv (.c (.p (.i .i64 0))), some 7, none⟩])
  (.block 1 (.loop [0, 2, 6, 7] c_ref02_Decode_1)))
  (.keep [0, 2, 6] c_ref02_Decode_2)))))))))))
def f_ref02_Decode : AFn := ⟨1, 95, c_ref02_Decode, [.cell 2 true 34, .tmp 3], false⟩

/- pagemend/page.Identify -/
def c_page_Identify : ACode := .seq (.reg false [] [⟨.newbox (e_api_Page default), some 4, none⟩,
    ⟨.mv (.c (.p (.i .i64 0))), some 5, none⟩])
  (.seq (.seq (.reg false [] [⟨.mv (.t 1), some 8, none⟩,
    ⟨.call i_page_named [(.t 8)] 0, some 9, none⟩,
    ⟨.un .not (.t 9), some 10, none⟩])
  (.keep [0, 1, 4, 10] (.cond (.t 10)
  (.seq (.reg false [] [⟨.build (e_api_Page default) [], some 11, none⟩,
      ⟨.store 34 (.t 4) (.t 11), none, none⟩,
      ⟨.mv (.c (.p (.i .i64 1))), some 5, none⟩])
    (.ret))
  (.skip))))
  (.seq (.reg false [] [⟨.mv (.t 0), some 13, none⟩,
    ⟨.call i_page_Decode [(.t 13)] 0, some 14, none⟩,
    ⟨.mv (.t 14), some 12, none⟩,
    ⟨.extr (.t 12) 0, some 15, none⟩,
    ⟨.extr (.t 12) 1, some 16, none⟩,
    ⟨.newbox (e_api_Page default), some 6, none⟩,
    ⟨.store 34 (.t 6) (.t 15), none, none⟩,
    ⟨.mv (.t 16), some 7, none⟩])
  (.keep [1, 4, 6, 7] (.seq (.block 0 (.seq (.reg false [] [⟨.mv (.t 7), some 18, none⟩,
    ⟨.bin .eql .plain (.t 18) (.c (.p (.i .i64 7))), some 19, none⟩,
    ⟨.mv (.t 19), some 17, none⟩])
  (.keep [1, 4, 6, 7, 17] (.cond (.t 17)
  (.seq (.reg false [] [⟨.mv (.t 1), some 20, none⟩,
      ⟨.call i_page_New [(.t 20)] 0, some 21, none⟩,
      ⟨.store 34 (.t 4) (.t 21), none, none⟩,
      ⟨.mv (.c (.p (.i .i64 0))), some 5, none⟩])
    (.ret))
  (.seq (.reg false [] [⟨.mv (.t 7), some 23, none⟩,
      ⟨.bin .neq .plain (.t 23) (.c (.p (.i .i64 0))), some 24, none⟩,
      ⟨.mv (.t 24), some 22, none⟩])
    (.keep [1, 4, 6, 7, 22] (.cond (.t 22)
    (.seq (.reg false [] [⟨.build (e_api_Page default) [], some 25, none⟩,
        ⟨.mv (.t 7), some 26, none⟩,
        ⟨.store 34 (.t 4) (.t 25), none, none⟩,
        ⟨.mv (.t 26), some 5, none⟩])
      (.ret))
    (.seq (.reg false [] [⟨.faddr 0 (.t 6), some 28, none⟩,
        ⟨.load false 1 (.t 28), some 29, none⟩,
        ⟨.mv (.t 1), some 30, none⟩,
        ⟨.bin .neq .plain (.t 29) (.t 30), some 31, none⟩,
        ⟨.mv (.t 31), some 27, none⟩])
      (.keep [4, 6, 27] (.cond (.t 27)
      (.seq (.reg false [] [⟨.build (e_api_Page default) [], some 32, none⟩,
          ⟨.store 34 (.t 4) (.t 32), none, none⟩,
          ⟨.mv (.c (.p (.i .i64 6))), some 5, none⟩])
        (.ret))
      (.skip)))))))))))
  (.seq (.reg false [] [⟨.load true 34 (.t 6), some 33, none⟩,
    ⟨.store 34 (.t 4) (.t 33), none, none⟩,
    ⟨.mv (.c (.p (.i .i64 0))), some 5, none⟩])
  (.ret))))))
def f_page_Identify : AFn := ⟨2, 34, c_page_Identify, [.cell 4 true 34, .tmp 5], false⟩

/- pagemend/pagemendref02.Identify -/
def c_ref02_Identify : ACode := .seq (.reg false [] [⟨.newbox (e_api_Page default), some 4, none⟩,
    ⟨.mv (.c (.p (.i .i64 0))), some 5, none⟩])
  (.seq (.seq (.reg false [] [⟨.mv (.t 1), some 8, none⟩,
    ⟨.bin .lss .plain (.t 8) (.c (.p (.i .i64 0))), some 9, none⟩,
    ⟨.mv (.t 9), some 10, none⟩,
    ⟨.mv (.t 1), some 11, some (10, false)⟩,
    ⟨.bin .geq .plain (.t 11) (.c (.p (.i .i64 64))), some 12, some (10, false)⟩,
    ⟨.pick (.t 10) (.c (.p (.b true))) (.t 12), some 13, none⟩])
  (.keep [0, 1, 4, 13] (.cond (.t 13)
  (.seq (.reg false [] [⟨.build (e_api_Page default) [], some 14, none⟩,
      ⟨.store 34 (.t 4) (.t 14), none, none⟩,
      ⟨.mv (.c (.p (.i .i64 1))), some 5, none⟩])
    (.ret))
  (.skip))))
  (.seq (.reg false [] [⟨.mv (.t 0), some 16, none⟩,
    ⟨.call i_ref02_Decode [(.t 16)] 0, some 17, none⟩,
    ⟨.mv (.t 17), some 15, none⟩,
    ⟨.extr (.t 15) 0, some 18, none⟩,
    ⟨.extr (.t 15) 1, some 19, none⟩,
    ⟨.newbox (e_api_Page default), some 6, none⟩,
    ⟨.store 34 (.t 6) (.t 18), none, none⟩,
    ⟨.mv (.t 19), some 7, none⟩])
  (.keep [1, 4, 6, 7] (.seq (.seq (.reg false [] [⟨.mv (.t 7), some 20, none⟩,
    ⟨.bin .eql .plain (.t 20) (.c (.p (.i .i64 7))), some 21, none⟩])
  (.cond (.t 21)
  (.seq (.reg false [] [⟨.mv (.t 1), some 22, none⟩,
      ⟨.call i_ref02_New [(.t 22)] 0, some 23, none⟩,
      ⟨.store 34 (.t 4) (.t 23), none, none⟩,
      ⟨.mv (.c (.p (.i .i64 0))), some 5, none⟩])
    (.ret))
  (.skip)))
  (.seq (.seq (.reg false [] [⟨.mv (.t 7), some 24, none⟩,
    ⟨.bin .eql .plain (.t 24) (.c (.p (.i .i64 0))), some 25, none⟩,
    ⟨.mv (.t 25), some 26, none⟩,
    ⟨.faddr 0 (.t 6), some 27, some (26, true)⟩,
    ⟨.load false 1 (.t 27), some 28, some (26, true)⟩,
    ⟨.mv (.t 1), some 29, some (26, true)⟩,
    ⟨.bin .neq .plain (.t 28) (.t 29), some 30, some (26, true)⟩,
    ⟨.pick (.t 26) (.t 30) (.c (.p (.b false))), some 31, none⟩])
  (.keep [4, 6, 7, 31] (.cond (.t 31)
  (.seq (.reg false [] [⟨.build (e_api_Page default) [], some 32, none⟩,
      ⟨.store 34 (.t 4) (.t 32), none, none⟩,
      ⟨.mv (.c (.p (.i .i64 6))), some 5, none⟩])
    (.ret))
  (.skip))))
  (.seq (.reg false [] [⟨.load true 34 (.t 6), some 33, none⟩,
    ⟨.mv (.t 7), some 34, none⟩,
    ⟨.store 34 (.t 4) (.t 33), none, none⟩,
    ⟨.mv (.t 34), some 5, none⟩])
  (.ret)))))))
def f_ref02_Identify : AFn := ⟨2, 35, c_ref02_Identify, [.cell 4 true 34, .tmp 5], false⟩

/- pagemend/pagemendlaw02.awake -/
def c_law02_awake : ACode := .seq (.reg false [] [⟨.mv (.c (.p (.b false))), some 0, none⟩])
  (.seq (.reg false [] [⟨.call i_page_New [(.c (.p (.i .i64 3)))] 0, some 4, none⟩,
    ⟨.call i_page_Encode [(.t 4)] 0, some 5, none⟩,
    ⟨.mv (.t 5), some 3, none⟩,
    ⟨.extr (.t 3) 0, some 6, none⟩,
    ⟨.extr (.t 3) 1, some 7, none⟩,
    ⟨.mv (.t 6), some 1, none⟩,
    ⟨.mv (.t 7), some 2, none⟩])
  (.keep [1, 2] (.seq (.reg false [] [⟨.mv (.t 2), some 8, none⟩,
    ⟨.bin .eql .plain (.t 8) (.c (.p (.i .i64 0))), some 9, none⟩,
    ⟨.mv (.t 9), some 10, none⟩,
    ⟨.mv (.t 1), some 11, some (10, true)⟩,
    ⟨.len true (.t 11), some 12, some (10, true)⟩,
    ⟨.bin .eql .plain (.t 12) (.c (.p (.i .i64 256))), some 13, some (10, true)⟩,
    ⟨.pick (.t 10) (.t 13) (.c (.p (.b false))), some 14, none⟩,
    ⟨.mv (.t 14), some 15, none⟩,
    ⟨.mv (.t 1), some 16, some (15, true)⟩,
    ⟨.sidx (.t 16) (.c (.p (.i .i64 8))), some 17, some (15, true)⟩,
    ⟨.bin .eql .plain (.t 17) (.c (.p (.i .u8 3))), some 18, some (15, true)⟩,
    ⟨.pick (.t 15) (.t 18) (.c (.p (.b false))), some 19, none⟩,
    ⟨.mv (.t 19), some 0, none⟩])
  (.ret))))
def f_law02_awake : AFn := ⟨0, 20, c_law02_awake, [.tmp 0], false⟩

/- pagemend/pagemendlaw02.PageInjective -/
def c_law02_PageInjective : ACode := .seq (.reg false [] [⟨.mv (.c (.p (.b false))), some 4, none⟩])
  (.seq (.seq (.reg false [] [⟨.call i_law02_awake [] 0, some 16, none⟩,
    ⟨.un .not (.t 16), some 17, none⟩])
  (.cond (.t 17)
  (.seq (.reg false [] [⟨.mv (.c (.p (.b false))), some 4, none⟩])
    (.ret))
  (.skip)))
  (.seq (.reg false [] [⟨.mv (.t 0), some 18, none⟩,
    ⟨.call i_draw_New [(.t 18), (.c (.p (.i .i64 100)))] 1, some 19, none⟩,
    ⟨.mv (.t 1), some 20, none⟩,
    ⟨.call i_draw_New [(.t 20), (.c (.p (.i .i64 100)))] 1, some 21, none⟩,
    ⟨.mv (.t 19), some 5, none⟩,
    ⟨.mv (.t 21), some 6, none⟩])
  (.keep [5, 6] (.seq (.reg false [] [⟨.mv (.t 5), some 22, none⟩,
    ⟨.mv (.t 5), some 23, none⟩,
    ⟨.call i_draw_Codes_Next [(.t 23), (.c (.p (.i .i64 3)))] 0, some 24, none⟩,
    ⟨.call i_draw_Codes_Page [(.t 22), (.t 24)] 0, some 25, none⟩,
    ⟨.mv (.t 6), some 26, none⟩,
    ⟨.mv (.t 6), some 27, none⟩,
    ⟨.call i_draw_Codes_Next [(.t 27), (.c (.p (.i .i64 3)))] 0, some 28, none⟩,
    ⟨.call i_draw_Codes_Page [(.t 26), (.t 28)] 0, some 29, none⟩,
    ⟨.newbox (e_api_Page default), some 7, none⟩,
    ⟨.newbox (e_api_Page default), some 8, none⟩,
    ⟨.store 34 (.t 7) (.t 25), none, none⟩,
    ⟨.store 34 (.t 8) (.t 29), none, none⟩])
  (.keep [5, 7, 8] (.seq (.reg false [] [⟨.mv (.t 5), some 30, none⟩,
    ⟨.load true 34 (.t 7), some 31, none⟩,
    ⟨.call i_draw_Codes_OddPage [(.t 30), (.t 31)] 0, some 32, none⟩,
    ⟨.newbox (e_api_Page default), some 9, none⟩,
    ⟨.store 34 (.t 9) (.t 32), none, none⟩])
  (.keep [7, 8, 9] (.seq (.reg false [] [⟨.load true 34 (.t 7), some 34, none⟩,
    ⟨.call i_page_Encode [(.t 34)] 0, some 35, none⟩,
    ⟨.mv (.t 35), some 33, none⟩,
    ⟨.extr (.t 33) 0, some 36, none⟩,
    ⟨.extr (.t 33) 1, some 37, none⟩,
    ⟨.mv (.t 36), some 10, none⟩,
    ⟨.mv (.t 37), some 11, none⟩])
  (.keep [7, 8, 9, 10, 11] (.seq (.reg false [] [⟨.load true 34 (.t 8), some 39, none⟩,
    ⟨.call i_page_Encode [(.t 39)] 0, some 40, none⟩,
    ⟨.mv (.t 40), some 38, none⟩,
    ⟨.extr (.t 38) 0, some 41, none⟩,
    ⟨.extr (.t 38) 1, some 42, none⟩,
    ⟨.mv (.t 41), some 12, none⟩,
    ⟨.mv (.t 42), some 13, none⟩])
  (.keep [7, 8, 9, 10, 11, 12, 13] (.seq (.reg false [] [⟨.load true 34 (.t 9), some 44, none⟩,
    ⟨.call i_page_Encode [(.t 44)] 0, some 45, none⟩,
    ⟨.mv (.t 45), some 43, none⟩,
    ⟨.extr (.t 43) 0, some 46, none⟩,
    ⟨.extr (.t 43) 1, some 47, none⟩,
    ⟨.mv (.t 46), some 14, none⟩,
    ⟨.mv (.t 47), some 15, none⟩])
  (.keep [7, 8, 9, 10, 11, 12, 13, 14, 15] (.seq (.seq (.reg false [] [⟨.mv (.t 11), some 48, none⟩,
    ⟨.bin .neq .plain (.t 48) (.c (.p (.i .i64 0))), some 49, none⟩,
    ⟨.mv (.t 49), some 50, none⟩,
    ⟨.mv (.t 13), some 51, some (50, false)⟩,
    ⟨.bin .neq .plain (.t 51) (.c (.p (.i .i64 0))), some 52, some (50, false)⟩,
    ⟨.pick (.t 50) (.c (.p (.b true))) (.t 52), some 53, none⟩,
    ⟨.mv (.t 53), some 54, none⟩,
    ⟨.mv (.t 15), some 55, some (54, false)⟩,
    ⟨.bin .eql .plain (.t 55) (.c (.p (.i .i64 0))), some 56, some (54, false)⟩,
    ⟨.load true 34 (.t 9), some 57, some (54, false)⟩,
    ⟨.call i_ref02_Valid [(.t 57)] 0, some 58, some (54, false)⟩,
    ⟨.bin .neq .bool (.t 56) (.t 58), some 59, some (54, false)⟩,
    ⟨.pick (.t 54) (.c (.p (.b true))) (.t 59), some 60, none⟩])
  (.keep [7, 8, 9, 10, 12, 14, 15, 60] (.cond (.t 60)
  (.seq (.reg false [] [⟨.mv (.c (.p (.b false))), some 4, none⟩])
    (.ret))
  (.skip))))
  (.seq (.reg false [] [⟨.mv (.t 10), some 61, none⟩,
    ⟨.mv (.t 12), some 62, none⟩,
    ⟨.bin .eql .plain (.t 61) (.t 62), some 63, none⟩,
    ⟨.load true 34 (.t 7), some 64, none⟩,
    ⟨.load true 34 (.t 8), some 65, none⟩,
    ⟨.bin .eql (.flat [(.i .i64), (.i .i64), .b, .s, .b, .s, .b, .s, .b, .s, .b, .s, .b, .s, .b, .s, .b, .s, .b, .s, .b, .s, .b, .s, .b, .s, .b, .s, .b, .s, .b, .s, .b, .s]) (.t 64) (.t 65), some 66, none⟩,
    ⟨.bin .eql .bool (.t 63) (.t 66), some 67, none⟩,
    ⟨.mv (.t 67), some 68, none⟩,
    ⟨.mv (.t 15), some 69, some (68, true)⟩,
    ⟨.bin .neq .plain (.t 69) (.c (.p (.i .i64 0))), some 70, some (68, true)⟩,
    ⟨.mv (.t 70), some 71, some (68, true)⟩,
    ⟨.mv (.t 10), some 72, some (71, false)⟩,
    ⟨.mv (.t 14), some 73, some (71, false)⟩,
    ⟨.bin .eql .plain (.t 72) (.t 73), some 74, some (71, false)⟩,
    ⟨.load true 34 (.t 7), some 75, some (71, false)⟩,
    ⟨.load true 34 (.t 9), some 76, some (71, false)⟩,
    ⟨.bin .eql (.flat [(.i .i64), (.i .i64), .b, .s, .b, .s, .b, .s, .b, .s, .b, .s, .b, .s, .b, .s, .b, .s, .b, .s, .b, .s, .b, .s, .b, .s, .b, .s, .b, .s, .b, .s, .b, .s]) (.t 75) (.t 76), some 77, some (71, false)⟩,
    ⟨.bin .eql .bool (.t 74) (.t 77), some 78, some (71, false)⟩,
    ⟨.pick (.t 71) (.c (.p (.b true))) (.t 78), some 79, some (68, true)⟩,
    ⟨.pick (.t 68) (.t 79) (.c (.p (.b false))), some 80, none⟩,
    ⟨.mv (.t 80), some 4, none⟩])
  (.ret))))))))))))))))
def f_law02_PageInjective : AFn := ⟨2, 81, c_law02_PageInjective, [.tmp 4], false⟩

/- pagemend/pagemendlaw02.PageEncodes -/
def c_law02_PageEncodes_0 : ACode := .seq (.reg false [] [⟨.bin .lss .plain (.t 33) (.t 32), some 34, none⟩])
  (.seq (.cond (.t 34)
  (.skip)
  (.exit 0))
  (.seq (.block 1 (.seq (.reg false [] [⟨.iaddr 34 (.t 31) (.t 33), some 35, none⟩,
    ⟨.load true 34 (.t 35), some 36, none⟩,
    ⟨.newbox (e_api_Page default), some 10, none⟩,
    ⟨.store 34 (.t 10) (.t 36), none, none⟩])
  (.keep [2, 10, 31, 32, 33] (.seq (.reg false [] [⟨.load true 34 (.t 10), some 38, none⟩,
    ⟨.call i_page_Encode [(.t 38)] 0, some 39, none⟩,
    ⟨.mv (.t 39), some 37, none⟩,
    ⟨.extr (.t 37) 0, some 40, none⟩,
    ⟨.extr (.t 37) 1, some 41, none⟩,
    ⟨.mv (.t 40), some 11, none⟩,
    ⟨.mv (.t 41), some 12, none⟩])
  (.keep [2, 10, 11, 12, 31, 32, 33] (.seq (.reg false [] [⟨.load true 34 (.t 10), some 43, none⟩,
    ⟨.call i_ref02_Encode [(.t 43)] 0, some 44, none⟩,
    ⟨.mv (.t 44), some 42, none⟩,
    ⟨.extr (.t 42) 0, some 45, none⟩,
    ⟨.extr (.t 42) 1, some 46, none⟩,
    ⟨.mv (.t 45), some 13, none⟩,
    ⟨.mv (.t 46), some 14, none⟩])
  (.keep [2, 10, 11, 12, 13, 14, 31, 32, 33] (.seq (.reg true [(10, 11)] [⟨.mv (.t 11), some 47, none⟩,
    ⟨.mv (.t 13), some 48, none⟩,
    ⟨.bin .neq .plain (.t 47) (.t 48), some 49, none⟩,
    ⟨.mv (.t 49), some 50, none⟩,
    ⟨.mv (.t 12), some 51, some (50, false)⟩,
    ⟨.mv (.t 14), some 52, some (50, false)⟩,
    ⟨.bin .neq .plain (.t 51) (.t 52), some 53, some (50, false)⟩,
    ⟨.pick (.t 50) (.c (.p (.b true))) (.t 53), some 54, none⟩,
    ⟨.mv (.t 54), some 55, none⟩,
    ⟨.load true 34 (.t 10), some 56, some (55, false)⟩,
    ⟨.call i_page_Valid [(.t 56)] 0, some 57, some (55, false)⟩,
    ⟨.load true 34 (.t 10), some 58, some (55, false)⟩,
    ⟨.call i_ref02_Valid [(.t 58)] 0, some 59, some (55, false)⟩,
    ⟨.bin .neq .bool (.t 57) (.t 59), some 60, some (55, false)⟩,
    ⟨.pick (.t 55) (.c (.p (.b true))) (.t 60), some 61, none⟩])
  (.keep [2, 31, 32, 33, 61] (.cond (.t 61)
  (.seq (.reg false [] [⟨.mv (.c (.p (.b false))), some 6, none⟩])
    (.ret))
  (.skip)))))))))))
  (.reg false [] [⟨.bin .add .plain (.t 33) (.c (.p (.i .i64 1))), some 62, none⟩,
    ⟨.mv (.t 62), some 33, none⟩])))
def c_law02_PageEncodes_1 : ACode := .seq (.reg false [] [⟨.mv (.t 2), some 63, none⟩,
    ⟨.call i_page_New [(.t 63)] 0, some 64, none⟩,
    ⟨.mv (.t 2), some 65, none⟩,
    ⟨.call i_ref02_New [(.t 65)] 0, some 66, none⟩,
    ⟨.bin .eql (.flat [(.i .i64), (.i .i64), .b, .s, .b, .s, .b, .s, .b, .s, .b, .s, .b, .s, .b, .s, .b, .s, .b, .s, .b, .s, .b, .s, .b, .s, .b, .s, .b, .s, .b, .s, .b, .s]) (.t 64) (.t 66), some 67, none⟩,
    ⟨.mv (.t 67), some 68, none⟩,
    ⟨.call i_page_Blank [] 0, some 69, some (68, true)⟩,
    ⟨.call i_ref02_Blank [] 0, some 70, some (68, true)⟩,
    ⟨.bin .eql .plain (.t 69) (.t 70), some 71, some (68, true)⟩,
    ⟨.pick (.t 68) (.t 71) (.c (.p (.b false))), some 72, none⟩,
    ⟨.mv (.t 72), some 6, none⟩])
  (.ret)
def c_law02_PageEncodes : ACode := .seq (.reg false [] [⟨.box 34 (.t 1), some 4, none⟩,
    ⟨.mv (.c (.p (.b false))), some 6, none⟩])
  (.seq (.seq (.reg false [] [⟨.call i_law02_awake [] 0, some 15, none⟩,
    ⟨.un .not (.t 15), some 16, none⟩])
  (.cond (.t 16)
  (.seq (.reg false [] [⟨.mv (.c (.p (.b false))), some 6, none⟩])
    (.ret))
  (.skip)))
  (.seq (.reg false [] [⟨.mv (.t 0), some 17, none⟩,
    ⟨.call i_draw_New [(.t 17), (.c (.p (.i .i64 100)))] 1, some 18, none⟩,
    ⟨.mv (.t 18), some 7, none⟩])
  (.keep [2, 4, 7] (.seq (.reg false [] [⟨.mv (.t 7), some 19, none⟩,
    ⟨.mv (.t 7), some 20, none⟩,
    ⟨.call i_draw_Codes_Next [(.t 20), (.c (.p (.i .i64 64)))] 0, some 21, none⟩,
    ⟨.call i_draw_Codes_Page [(.t 19), (.t 21)] 0, some 22, none⟩,
    ⟨.newbox (e_api_Page default), some 8, none⟩,
    ⟨.store 34 (.t 8) (.t 22), none, none⟩])
  (.keep [2, 4, 7, 8] (.seq (.tidy [2, 6] (.seq (.reg true [(0, 4), (1, 4), (4, 6), (0, 7), (1, 7)] [⟨.load true 34 (.t 4), some 23, none⟩,
    ⟨.load true 34 (.t 8), some 24, none⟩,
    ⟨.mv (.t 7), some 25, none⟩,
    ⟨.load true 34 (.t 8), some 26, none⟩,
    ⟨.call i_draw_Codes_OddPage [(.t 25), (.t 26)] 0, some 27, none⟩,
    ⟨.mv (.t 7), some 28, none⟩,
    ⟨.load true 34 (.t 8), some 29, none⟩,
    ⟨.call i_draw_Codes_OddPage [(.t 28), (.t 29)] 0, some 30, none⟩,
    ⟨.lits false 34 4 (e_api_Page default) [(0, (.t 23)), (1, (.t 24)), (2, (.t 27)), (3, (.t 30))], some 31, none⟩,
    ⟨.len false (.t 31), some 32, none⟩,
    ⟨.mv (.c (.p (.i .i64 0))), some 33, none⟩])
  (.keep [2, 31, 32, 33] (.block 0 (.loop [2, 31, 32, 33] c_law02_PageEncodes_0)))))
  (.keep [2] c_law02_PageEncodes_1)))))))
def f_law02_PageEncodes : AFn := ⟨3, 73, c_law02_PageEncodes, [.tmp 6], false⟩

/- pagemend/pagemendlaw02.PageForms -/
def c_law02_PageForms_0 : ACode := .seq (.seq (.reg false [] [⟨.mv (.t 6), some 26, none⟩,
    ⟨.bin .lss .plain (.t 26) (.c (.p (.i .i64 4))), some 27, none⟩])
  (.cond (.t 27)
  (.skip)
  (.exit 0)))
  (.seq (.block 1 (.seq (.reg false [] [⟨.mv (.t 3), some 30, none⟩,
    ⟨.mv (.t 4), some 31, none⟩,
    ⟨.call i_law02_sealed [(.t 30), (.t 31)] 0, some 32, none⟩,
    ⟨.mv (.t 32), some 7, none⟩])
  (.keep [3, 4, 6, 7] (.seq (.reg false [] [⟨.mv (.t 7), some 34, none⟩,
    ⟨.call i_page_Decode [(.t 34)] 0, some 35, none⟩,
    ⟨.mv (.t 35), some 33, none⟩,
    ⟨.extr (.t 33) 0, some 36, none⟩,
    ⟨.extr (.t 33) 1, some 37, none⟩,
    ⟨.newbox (e_api_Page default), some 8, none⟩,
    ⟨.store 34 (.t 8) (.t 36), none, none⟩,
    ⟨.mv (.t 37), some 9, none⟩])
  (.keep [3, 4, 6, 7, 8, 9] (.seq (.reg false [] [⟨.mv (.t 7), some 39, none⟩,
    ⟨.call i_ref02_Decode [(.t 39)] 0, some 40, none⟩,
    ⟨.mv (.t 40), some 38, none⟩,
    ⟨.extr (.t 38) 0, some 41, none⟩,
    ⟨.extr (.t 38) 1, some 42, none⟩,
    ⟨.newbox (e_api_Page default), some 10, none⟩,
    ⟨.store 34 (.t 10) (.t 41), none, none⟩,
    ⟨.mv (.t 42), some 11, none⟩])
  (.keep [3, 4, 6, 7, 8, 9, 10, 11] (.seq (.seq (.reg false [] [⟨.load true 34 (.t 8), some 43, none⟩,
    ⟨.load true 34 (.t 10), some 44, none⟩,
    ⟨.bin .neq (.flat [(.i .i64), (.i .i64), .b, .s, .b, .s, .b, .s, .b, .s, .b, .s, .b, .s, .b, .s, .b, .s, .b, .s, .b, .s, .b, .s, .b, .s, .b, .s, .b, .s, .b, .s, .b, .s]) (.t 43) (.t 44), some 45, none⟩,
    ⟨.mv (.t 45), some 46, none⟩,
    ⟨.mv (.t 9), some 47, some (46, false)⟩,
    ⟨.mv (.t 11), some 48, some (46, false)⟩,
    ⟨.bin .neq .plain (.t 47) (.t 48), some 49, some (46, false)⟩,
    ⟨.pick (.t 46) (.c (.p (.b true))) (.t 49), some 50, none⟩])
  (.keep [3, 4, 6, 7, 8, 9, 50] (.cond (.t 50)
  (.seq (.reg false [] [⟨.mv (.c (.p (.b false))), some 2, none⟩])
    (.ret))
  (.skip))))
  (.seq (.reg false [] [⟨.load true 34 (.t 8), some 52, none⟩,
    ⟨.call i_page_Encode [(.t 52)] 0, some 53, none⟩,
    ⟨.mv (.t 53), some 51, none⟩,
    ⟨.extr (.t 51) 0, some 54, none⟩,
    ⟨.extr (.t 51) 1, some 55, none⟩,
    ⟨.mv (.t 54), some 12, none⟩,
    ⟨.mv (.t 55), some 13, none⟩])
  (.keep [3, 4, 6, 7, 9, 12, 13] (.seq (.reg false [] [⟨.mv (.t 9), some 56, none⟩,
    ⟨.bin .eql .plain (.t 56) (.c (.p (.i .i64 0))), some 57, none⟩,
    ⟨.mv (.t 57), some 58, none⟩,
    ⟨.mv (.t 13), some 59, some (58, true)⟩,
    ⟨.bin .neq .plain (.t 59) (.c (.p (.i .i64 0))), some 60, some (58, true)⟩,
    ⟨.mv (.t 60), some 61, some (58, true)⟩,
    ⟨.mv (.t 12), some 62, some (61, false)⟩,
    ⟨.mv (.t 7), some 63, some (61, false)⟩,
    ⟨.bin .neq .plain (.t 62) (.t 63), some 64, some (61, false)⟩,
    ⟨.pick (.t 61) (.c (.p (.b true))) (.t 64), some 65, some (58, true)⟩,
    ⟨.pick (.t 58) (.t 65) (.c (.p (.b false))), some 66, none⟩])
  (.keep [3, 4, 6, 66] (.cond (.t 66)
  (.seq (.reg false [] [⟨.mv (.c (.p (.b false))), some 2, none⟩])
    (.ret))
  (.skip))))))))))))))
  (.reg false [] [⟨.mv (.t 6), some 28, none⟩,
    ⟨.bin .add .plain (.t 28) (.c (.p (.i .i64 1))), some 29, none⟩,
    ⟨.mv (.t 29), some 6, none⟩]))
def c_law02_PageForms_1 : ACode := .seq (.reg false [] [⟨.mv (.c (.p (.b true))), some 2, none⟩])
  (.ret)
def c_law02_PageForms : ACode := .seq (.reg false [] [⟨.mv (.c (.p (.b false))), some 2, none⟩])
  (.seq (.seq (.reg false [] [⟨.call i_law02_awake [] 0, some 14, none⟩,
    ⟨.un .not (.t 14), some 15, none⟩])
  (.cond (.t 15)
  (.seq (.reg false [] [⟨.mv (.c (.p (.b false))), some 2, none⟩])
    (.ret))
  (.skip)))
  (.seq (.reg false [] [⟨.mv (.t 0), some 16, none⟩,
    ⟨.call i_draw_New [(.t 16), (.c (.p (.i .i64 160)))] 1, some 17, none⟩,
    ⟨.mv (.t 17), some 3, none⟩])
  (.keep [3] (.seq (.reg false [] [⟨.mv (.t 3), some 19, none⟩,
    ⟨.mv (.t 3), some 20, none⟩,
    ⟨.call i_draw_Codes_Next [(.t 20), (.c (.p (.i .i64 5)))] 0, some 21, none⟩,
    ⟨.call i_draw_Codes_Page [(.t 19), (.t 21)] 0, some 22, none⟩,
    ⟨.call i_ref02_Encode [(.t 22)] 0, some 23, none⟩,
    ⟨.mv (.t 23), some 18, none⟩,
    ⟨.extr (.t 18) 0, some 24, none⟩,
    ⟨.extr (.t 18) 1, some 25, none⟩,
    ⟨.mv (.t 24), some 4, none⟩,
    ⟨.mv (.t 25), some 5, none⟩])
  (.keep [3, 4] (.seq (.tidy [2] (.seq (.reg false [] [⟨.mv (.c (.p (.i .i64 0))), some 6, none⟩])
  (.block 0 (.loop [3, 4, 6] c_law02_PageForms_0))))
  (.keep [] c_law02_PageForms_1)))))))
def f_law02_PageForms : AFn := ⟨1, 67, c_law02_PageForms, [.tmp 2], false⟩

/- pagemend/pagemendlaw02.PageDamage -/
def c_law02_PageDamage_0 : ACode := .seq (.reg false [] [⟨.bin .lss .plain (.t 37) (.t 36), some 38, none⟩])
  (.seq (.cond (.t 38)
  (.skip)
  (.exit 0))
  (.seq (.block 1 (.seq (.reg false [] [⟨.iaddr 1 (.t 35) (.t 37), some 39, none⟩,
    ⟨.load false 1 (.t 39), some 40, none⟩,
    ⟨.mv (.t 40), some 11, none⟩])
  (.keep [1, 2, 11, 35, 36, 37] (.seq (.seq (.reg false [] [⟨.mv (.t 11), some 41, none⟩,
    ⟨.len true (.t 41), some 42, none⟩,
    ⟨.bin .neq .plain (.t 42) (.c (.p (.i .i64 256))), some 43, none⟩])
  (.keep [1, 2, 11, 35, 36, 37, 43] (.cond (.t 43)
  (.seq (.reg false [] [⟨.mv (.c (.p (.b false))), some 6, none⟩])
    (.ret))
  (.skip))))
  (.seq (.reg false [] [⟨.mv (.t 1), some 44, none⟩,
    ⟨.conv (.int .i64) (.t 44), some 45, none⟩,
    ⟨.mv (.t 45), some 12, none⟩])
  (.keep [1, 2, 11, 12, 35, 36, 37] (.seq (.reg true [(8, 20), (9, 20), (16, 20)] [⟨.mv (.t 11), some 47, none⟩,
    ⟨.mv (.t 12), some 48, none⟩,
    ⟨.slice .str (.t 47) none (some (.t 48)) none, some 49, none⟩,
    ⟨.mv (.t 11), some 50, none⟩,
    ⟨.mv (.t 12), some 51, none⟩,
    ⟨.sidx (.t 50) (.t 51), some 52, none⟩,
    ⟨.mv (.t 2), some 53, none⟩,
    ⟨.bin .xor .plain (.t 52) (.t 53), some 54, none⟩,
    ⟨.lits false 1 1 [(.i .u8 0)] [(0, (.t 54))], some 55, none⟩,
    ⟨.conv .toStr (.t 55), some 56, none⟩,
    ⟨.bin .add .plain (.t 49) (.t 56), some 57, none⟩,
    ⟨.mv (.t 11), some 58, none⟩,
    ⟨.mv (.t 12), some 59, none⟩,
    ⟨.bin .add .plain (.t 59) (.c (.p (.i .i64 1))), some 60, none⟩,
    ⟨.slice .str (.t 58) (some (.t 60)) none none, some 61, none⟩,
    ⟨.bin .add .plain (.t 57) (.t 61), some 62, none⟩,
    ⟨.call i_page_Decode [(.t 62)] 0, some 63, none⟩,
    ⟨.mv (.t 63), some 46, none⟩,
    ⟨.extr (.t 46) 0, some 64, none⟩,
    ⟨.extr (.t 46) 1, some 65, none⟩,
    ⟨.newbox (e_api_Page default), some 13, none⟩,
    ⟨.store 34 (.t 13) (.t 64), none, none⟩,
    ⟨.mv (.t 65), some 14, none⟩])
  (.keep [1, 2, 14, 35, 36, 37] (.seq (.reg false [] [⟨.mv (.t 14), some 66, none⟩,
    ⟨.bin .eql .plain (.t 66) (.c (.p (.i .i64 0))), some 67, none⟩,
    ⟨.mv (.t 67), some 68, none⟩,
    ⟨.mv (.t 14), some 69, some (68, false)⟩,
    ⟨.bin .eql .plain (.t 69) (.c (.p (.i .i64 7))), some 70, some (68, false)⟩,
    ⟨.pick (.t 68) (.c (.p (.b true))) (.t 70), some 71, none⟩])
  (.keep [1, 2, 35, 36, 37, 71] (.cond (.t 71)
  (.seq (.reg false [] [⟨.mv (.c (.p (.b false))), some 6, none⟩])
    (.ret))
  (.skip))))))))))))
  (.reg false [] [⟨.bin .add .plain (.t 37) (.c (.p (.i .i64 1))), some 72, none⟩,
    ⟨.mv (.t 72), some 37, none⟩])))
def c_law02_PageDamage_1 : ACode := .seq (.reg false [] [⟨.mv (.c (.p (.b true))), some 6, none⟩])
  (.ret)
def c_law02_PageDamage : ACode := .seq (.reg false [] [⟨.mv (.c (.p (.b false))), some 6, none⟩])
  (.seq (.seq (.reg false [] [⟨.call i_law02_awake [] 0, some 15, none⟩,
    ⟨.un .not (.t 15), some 16, none⟩,
    ⟨.mv (.t 16), some 17, none⟩,
    ⟨.mv (.t 2), some 18, some (17, false)⟩,
    ⟨.bin .eql .plain (.t 18) (.c (.p (.i .u8 0))), some 19, some (17, false)⟩,
    ⟨.pick (.t 17) (.c (.p (.b true))) (.t 19), some 20, none⟩])
  (.keep [0, 1, 2, 20] (.cond (.t 20)
  (.seq (.reg false [] [⟨.mv (.t 2), some 21, none⟩,
      ⟨.bin .eql .plain (.t 21) (.c (.p (.i .u8 0))), some 22, none⟩,
      ⟨.mv (.t 22), some 6, none⟩])
    (.ret))
  (.skip))))
  (.seq (.reg false [] [⟨.mv (.t 0), some 23, none⟩,
    ⟨.call i_draw_New [(.t 23), (.c (.p (.i .i64 100)))] 1, some 24, none⟩,
    ⟨.mv (.t 24), some 7, none⟩])
  (.keep [1, 2, 7] (.seq (.reg false [] [⟨.mv (.t 7), some 26, none⟩,
    ⟨.mv (.t 7), some 27, none⟩,
    ⟨.call i_draw_Codes_Next [(.t 27), (.c (.p (.i .i64 64)))] 0, some 28, none⟩,
    ⟨.call i_draw_Codes_Page [(.t 26), (.t 28)] 0, some 29, none⟩,
    ⟨.call i_page_Encode [(.t 29)] 0, some 30, none⟩,
    ⟨.mv (.t 30), some 25, none⟩,
    ⟨.extr (.t 25) 0, some 31, none⟩,
    ⟨.extr (.t 25) 1, some 32, none⟩,
    ⟨.mv (.t 31), some 8, none⟩,
    ⟨.mv (.t 32), some 9, none⟩])
  (.keep [1, 2, 8] (.seq (.tidy [6] (.seq (.reg false [] [⟨.mv (.t 8), some 33, none⟩,
    ⟨.call i_page_Blank [] 0, some 34, none⟩,
    ⟨.lits false 1 2 [(.s [])] [(0, (.t 33)), (1, (.t 34))], some 35, none⟩,
    ⟨.len false (.t 35), some 36, none⟩,
    ⟨.mv (.c (.p (.i .i64 0))), some 37, none⟩])
  (.keep [1, 2, 35, 36, 37] (.block 0 (.loop [1, 2, 35, 36, 37] c_law02_PageDamage_0)))))
  (.keep [] c_law02_PageDamage_1)))))))
def f_law02_PageDamage : AFn := ⟨3, 73, c_law02_PageDamage, [.tmp 6], false⟩

/- pagemend/pagemendlaw02.PageDecodes -/
def c_law02_PageDecodes_0 : ACode := .seq (.reg false [] [⟨.bin .lss .plain (.t 86) (.t 85), some 87, none⟩])
  (.seq (.cond (.t 87)
  (.skip)
  (.exit 2))
  (.seq (.block 3 (.seq (.reg false [] [⟨.iaddr 1 (.t 84) (.t 86), some 88, none⟩,
    ⟨.load false 1 (.t 88), some 89, none⟩,
    ⟨.mv (.t 89), some 18, none⟩])
  (.keep [2, 7, 8, 12, 13, 15, 18, 55, 56, 57, 84, 85, 86] (.seq (.reg false [] [⟨.mv (.t 12), some 91, none⟩,
    ⟨.mv (.t 18), some 92, none⟩,
    ⟨.call i_page_Identify [(.t 91), (.t 92)] 0, some 93, none⟩,
    ⟨.mv (.t 93), some 90, none⟩,
    ⟨.extr (.t 90) 0, some 94, none⟩,
    ⟨.extr (.t 90) 1, some 95, none⟩,
    ⟨.store 34 (.t 13) (.t 94), none, none⟩,
    ⟨.mv (.t 95), some 14, none⟩])
  (.keep [2, 7, 8, 12, 13, 14, 15, 18, 55, 56, 57, 84, 85, 86] (.seq (.reg false [] [⟨.mv (.t 12), some 97, none⟩,
    ⟨.mv (.t 18), some 98, none⟩,
    ⟨.call i_ref02_Identify [(.t 97), (.t 98)] 0, some 99, none⟩,
    ⟨.mv (.t 99), some 96, none⟩,
    ⟨.extr (.t 96) 0, some 100, none⟩,
    ⟨.extr (.t 96) 1, some 101, none⟩,
    ⟨.store 34 (.t 15) (.t 100), none, none⟩,
    ⟨.mv (.t 101), some 16, none⟩])
  (.keep [2, 7, 8, 12, 13, 14, 15, 16, 55, 56, 57, 84, 85, 86] (.seq (.reg false [] [⟨.load true 34 (.t 13), some 102, none⟩,
    ⟨.load true 34 (.t 15), some 103, none⟩,
    ⟨.bin .neq (.flat [(.i .i64), (.i .i64), .b, .s, .b, .s, .b, .s, .b, .s, .b, .s, .b, .s, .b, .s, .b, .s, .b, .s, .b, .s, .b, .s, .b, .s, .b, .s, .b, .s, .b, .s, .b, .s]) (.t 102) (.t 103), some 104, none⟩,
    ⟨.mv (.t 104), some 105, none⟩,
    ⟨.mv (.t 14), some 106, some (105, false)⟩,
    ⟨.mv (.t 16), some 107, some (105, false)⟩,
    ⟨.bin .neq .plain (.t 106) (.t 107), some 108, some (105, false)⟩,
    ⟨.pick (.t 105) (.c (.p (.b true))) (.t 108), some 109, none⟩])
  (.keep [2, 7, 8, 12, 13, 15, 55, 56, 57, 84, 85, 86, 109] (.cond (.t 109)
  (.seq (.reg false [] [⟨.mv (.c (.p (.b false))), some 6, none⟩])
    (.ret))
  (.skip)))))))))))
  (.reg false [] [⟨.bin .add .plain (.t 86) (.c (.p (.i .i64 1))), some 110, none⟩,
    ⟨.mv (.t 110), some 86, none⟩])))
def c_law02_PageDecodes_1 : ACode := .reg false [] [⟨.bin .add .plain (.t 57) (.c (.p (.i .i64 1))), some 111, none⟩,
    ⟨.mv (.t 111), some 57, none⟩]
def c_law02_PageDecodes_2 : ACode := .seq (.reg false [] [⟨.bin .lss .plain (.t 57) (.t 56), some 58, none⟩])
  (.seq (.cond (.t 58)
  (.skip)
  (.exit 0))
  (.seq (.tidy [2, 6, 7, 8, 55, 56, 57] (.block 1 (.seq (.reg false [] [⟨.iaddr 1 (.t 55) (.t 57), some 59, none⟩,
    ⟨.load false 1 (.t 59), some 60, none⟩,
    ⟨.mv (.t 60), some 12, none⟩])
  (.keep [2, 7, 8, 12, 55, 56, 57] (.seq (.reg false [] [⟨.mv (.t 12), some 62, none⟩,
    ⟨.call i_page_Decode [(.t 62)] 0, some 63, none⟩,
    ⟨.mv (.t 63), some 61, none⟩,
    ⟨.extr (.t 61) 0, some 64, none⟩,
    ⟨.extr (.t 61) 1, some 65, none⟩,
    ⟨.newbox (e_api_Page default), some 13, none⟩,
    ⟨.store 34 (.t 13) (.t 64), none, none⟩,
    ⟨.mv (.t 65), some 14, none⟩])
  (.keep [2, 7, 8, 12, 13, 14, 55, 56, 57] (.seq (.reg false [] [⟨.mv (.t 12), some 67, none⟩,
    ⟨.call i_ref02_Decode [(.t 67)] 0, some 68, none⟩,
    ⟨.mv (.t 68), some 66, none⟩,
    ⟨.extr (.t 66) 0, some 69, none⟩,
    ⟨.extr (.t 66) 1, some 70, none⟩,
    ⟨.newbox (e_api_Page default), some 15, none⟩,
    ⟨.store 34 (.t 15) (.t 69), none, none⟩,
    ⟨.mv (.t 70), some 16, none⟩])
  (.keep [2, 7, 8, 12, 13, 14, 15, 16, 55, 56, 57] (.seq (.seq (.reg false [] [⟨.load true 34 (.t 13), some 71, none⟩,
    ⟨.load true 34 (.t 15), some 72, none⟩,
    ⟨.bin .neq (.flat [(.i .i64), (.i .i64), .b, .s, .b, .s, .b, .s, .b, .s, .b, .s, .b, .s, .b, .s, .b, .s, .b, .s, .b, .s, .b, .s, .b, .s, .b, .s, .b, .s, .b, .s, .b, .s]) (.t 71) (.t 72), some 73, none⟩,
    ⟨.mv (.t 73), some 74, none⟩,
    ⟨.mv (.t 14), some 75, some (74, false)⟩,
    ⟨.mv (.t 16), some 76, some (74, false)⟩,
    ⟨.bin .neq .plain (.t 75) (.t 76), some 77, some (74, false)⟩,
    ⟨.pick (.t 74) (.c (.p (.b true))) (.t 77), some 78, none⟩])
  (.keep [2, 7, 8, 12, 13, 15, 55, 56, 57, 78] (.cond (.t 78)
  (.seq (.reg false [] [⟨.mv (.c (.p (.b false))), some 6, none⟩])
    (.ret))
  (.skip))))
  (.seq (.reg true [(2, 4)] [⟨.mv (.t 2), some 79, none⟩,
    ⟨.faddr 0 (.t 8), some 80, none⟩,
    ⟨.load false 1 (.t 80), some 81, none⟩,
    ⟨.mv (.t 7), some 82, none⟩,
    ⟨.call i_draw_Codes_Next [(.t 82), (.c (.p (.i .i64 5)))] 0, some 83, none⟩,
    ⟨.lits false 1 3 [(.i .i64 0)] [(0, (.t 79)), (1, (.t 81)), (2, (.t 83))], some 84, none⟩,
    ⟨.len false (.t 84), some 85, none⟩,
    ⟨.mv (.c (.p (.i .i64 0))), some 86, none⟩])
  (.keep [2, 7, 8, 12, 13, 15, 55, 56, 57, 84, 85, 86] (.block 2 (.loop [2, 7, 8, 12, 13, 15, 55, 56, 57, 84, 85, 86] c_law02_PageDecodes_0)))))))))))))
  (.keep [2, 7, 8, 55, 56, 57] c_law02_PageDecodes_1)))
def c_law02_PageDecodes_3 : ACode := .seq (.reg false [] [⟨.mv (.c (.p (.b true))), some 6, none⟩])
  (.ret)
def c_law02_PageDecodes : ACode := .seq (.reg false [] [⟨.mv (.c (.p (.b false))), some 6, none⟩])
  (.seq (.seq (.reg false [] [⟨.call i_law02_awake [] 0, some 19, none⟩,
    ⟨.un .not (.t 19), some 20, none⟩,
    ⟨.mv (.t 20), some 21, none⟩,
    ⟨.mv (.t 1), some 22, some (21, false)⟩,
    ⟨.len true (.t 22), some 23, some (21, false)⟩,
    ⟨.bin .gtr .plain (.t 23) (.c (.p (.i .i64 600))), some 24, some (21, false)⟩,
    ⟨.pick (.t 21) (.c (.p (.b true))) (.t 24), some 25, none⟩])
  (.keep [0, 1, 2, 25] (.cond (.t 25)
  (.seq (.reg false [] [⟨.mv (.t 1), some 26, none⟩,
      ⟨.len true (.t 26), some 27, none⟩,
      ⟨.bin .gtr .plain (.t 27) (.c (.p (.i .i64 600))), some 28, none⟩,
      ⟨.mv (.t 28), some 6, none⟩])
    (.ret))
  (.skip))))
  (.seq (.reg false [] [⟨.mv (.t 0), some 29, none⟩,
    ⟨.call i_draw_New [(.t 29), (.c (.p (.i .i64 160)))] 1, some 30, none⟩,
    ⟨.mv (.t 30), some 7, none⟩])
  (.keep [1, 2, 7] (.seq (.reg false [] [⟨.mv (.t 7), some 31, none⟩,
    ⟨.mv (.t 7), some 32, none⟩,
    ⟨.call i_draw_Codes_Next [(.t 32), (.c (.p (.i .i64 5)))] 0, some 33, none⟩,
    ⟨.call i_draw_Codes_Page [(.t 31), (.t 33)] 0, some 34, none⟩,
    ⟨.newbox (e_api_Page default), some 8, none⟩,
    ⟨.store 34 (.t 8) (.t 34), none, none⟩])
  (.keep [1, 2, 7, 8] (.seq (.reg false [] [⟨.load true 34 (.t 8), some 36, none⟩,
    ⟨.call i_ref02_Encode [(.t 36)] 0, some 37, none⟩,
    ⟨.mv (.t 37), some 35, none⟩,
    ⟨.extr (.t 35) 0, some 38, none⟩,
    ⟨.extr (.t 35) 1, some 39, none⟩,
    ⟨.mv (.t 38), some 9, none⟩,
    ⟨.mv (.t 39), some 10, none⟩])
  (.keep [1, 2, 7, 8, 9] (.seq (.tidy [6] (.seq (.reg false [] [⟨.mv (.t 1), some 40, none⟩,
    ⟨.mv (.t 9), some 41, none⟩,
    ⟨.mv (.t 7), some 42, none⟩,
    ⟨.mv (.t 9), some 43, none⟩,
    ⟨.call i_draw_Codes_Spoilt [(.t 42), (.t 43)] 0, some 44, none⟩,
    ⟨.mv (.t 7), some 45, none⟩,
    ⟨.call i_ref02_Blank [] 0, some 46, none⟩,
    ⟨.call i_draw_Codes_Spoilt [(.t 45), (.t 46)] 0, some 47, none⟩,
    ⟨.call i_ref02_Blank [] 0, some 48, none⟩,
    ⟨.mv (.t 7), some 49, none⟩,
    ⟨.call i_draw_Codes_Bytes [(.t 49)] 0, some 50, none⟩,
    ⟨.mv (.t 9), some 51, none⟩,
    ⟨.mv (.t 7), some 52, none⟩,
    ⟨.call i_draw_Codes_Next [(.t 52), (.c (.p (.i .i64 257)))] 0, some 53, none⟩,
    ⟨.slice .str (.t 51) none (some (.t 53)) none, some 54, none⟩,
    ⟨.lits false 1 7 [(.s [])] [(0, (.t 40)), (1, (.t 41)), (2, (.t 44)), (3, (.t 47)), (4, (.t 48)), (5, (.t 50)), (6, (.t 54))], some 55, none⟩,
    ⟨.len false (.t 55), some 56, none⟩,
    ⟨.mv (.c (.p (.i .i64 0))), some 57, none⟩])
  (.keep [2, 7, 8, 55, 56, 57] (.block 0 (.loop [2, 7, 8, 55, 56, 57] c_law02_PageDecodes_2)))))
  (.keep [] c_law02_PageDecodes_3)))))))))
def f_law02_PageDecodes : AFn := ⟨3, 112, c_law02_PageDecodes, [.tmp 6], false⟩

/- pagemend/pagemendlaw02.PageReturns -/
def c_law02_PageReturns : ACode := .seq (.reg false [] [⟨.mv (.c (.p (.b false))), some 4, none⟩])
  (.seq (.seq (.reg false [] [⟨.call i_law02_awake [] 0, some 18, none⟩,
    ⟨.un .not (.t 18), some 19, none⟩])
  (.cond (.t 19)
  (.seq (.reg false [] [⟨.mv (.c (.p (.b false))), some 4, none⟩])
    (.ret))
  (.skip)))
  (.seq (.reg false [] [⟨.mv (.t 0), some 20, none⟩,
    ⟨.call i_draw_New [(.t 20), (.c (.p (.i .i64 100)))] 1, some 21, none⟩,
    ⟨.mv (.t 21), some 5, none⟩])
  (.keep [1, 5] (.seq (.reg false [] [⟨.mv (.t 5), some 22, none⟩,
    ⟨.mv (.t 5), some 23, none⟩,
    ⟨.call i_draw_Codes_Next [(.t 23), (.c (.p (.i .i64 64)))] 0, some 24, none⟩,
    ⟨.call i_draw_Codes_Page [(.t 22), (.t 24)] 0, some 25, none⟩,
    ⟨.newbox (e_api_Page default), some 6, none⟩,
    ⟨.store 34 (.t 6) (.t 25), none, none⟩])
  (.keep [1, 6] (.seq (.reg false [] [⟨.load true 34 (.t 6), some 27, none⟩,
    ⟨.call i_page_Encode [(.t 27)] 0, some 28, none⟩,
    ⟨.mv (.t 28), some 26, none⟩,
    ⟨.extr (.t 26) 0, some 29, none⟩,
    ⟨.extr (.t 26) 1, some 30, none⟩,
    ⟨.mv (.t 29), some 7, none⟩,
    ⟨.mv (.t 30), some 8, none⟩])
  (.keep [1, 6, 7, 8] (.seq (.reg false [] [⟨.mv (.t 7), some 32, none⟩,
    ⟨.call i_page_Decode [(.t 32)] 0, some 33, none⟩,
    ⟨.mv (.t 33), some 31, none⟩,
    ⟨.extr (.t 31) 0, some 34, none⟩,
    ⟨.extr (.t 31) 1, some 35, none⟩,
    ⟨.newbox (e_api_Page default), some 9, none⟩,
    ⟨.store 34 (.t 9) (.t 34), none, none⟩,
    ⟨.mv (.t 35), some 10, none⟩])
  (.keep [1, 6, 7, 8, 9, 10] (.seq (.reg false [] [⟨.mv (.t 7), some 37, none⟩,
    ⟨.faddr 0 (.t 6), some 38, none⟩,
    ⟨.load false 1 (.t 38), some 39, none⟩,
    ⟨.call i_page_Identify [(.t 37), (.t 39)] 0, some 40, none⟩,
    ⟨.mv (.t 40), some 36, none⟩,
    ⟨.extr (.t 36) 0, some 41, none⟩,
    ⟨.extr (.t 36) 1, some 42, none⟩,
    ⟨.newbox (e_api_Page default), some 11, none⟩,
    ⟨.store 34 (.t 11) (.t 41), none, none⟩,
    ⟨.mv (.t 42), some 12, none⟩])
  (.keep [1, 6, 7, 8, 9, 10, 11, 12] (.seq (.reg false [] [⟨.mv (.t 1), some 43, none⟩,
    ⟨.conv (.int .i64) (.t 43), some 44, none⟩,
    ⟨.bin .rem .plain (.t 44) (.c (.p (.i .i64 64))), some 45, none⟩,
    ⟨.mv (.t 45), some 13, none⟩])
  (.keep [6, 7, 8, 9, 10, 11, 12, 13] (.seq (.reg false [] [⟨.mv (.t 7), some 47, none⟩,
    ⟨.mv (.t 13), some 48, none⟩,
    ⟨.call i_page_Identify [(.t 47), (.t 48)] 0, some 49, none⟩,
    ⟨.mv (.t 49), some 46, none⟩,
    ⟨.extr (.t 46) 0, some 50, none⟩,
    ⟨.extr (.t 46) 1, some 51, none⟩,
    ⟨.newbox (e_api_Page default), some 14, none⟩,
    ⟨.store 34 (.t 14) (.t 50), none, none⟩,
    ⟨.mv (.t 51), some 15, none⟩])
  (.keep [6, 8, 9, 10, 11, 12, 13, 15] (.seq (.reg false [] [⟨.call i_page_Blank [] 0, some 53, none⟩,
    ⟨.mv (.t 13), some 54, none⟩,
    ⟨.call i_page_Identify [(.t 53), (.t 54)] 0, some 55, none⟩,
    ⟨.mv (.t 55), some 52, none⟩,
    ⟨.extr (.t 52) 0, some 56, none⟩,
    ⟨.extr (.t 52) 1, some 57, none⟩,
    ⟨.newbox (e_api_Page default), some 16, none⟩,
    ⟨.store 34 (.t 16) (.t 56), none, none⟩,
    ⟨.mv (.t 57), some 17, none⟩])
  (.keep [6, 8, 9, 10, 11, 12, 13, 15, 16, 17] (.seq (.reg true [(44, 46)] [⟨.mv (.t 8), some 58, none⟩,
    ⟨.bin .eql .plain (.t 58) (.c (.p (.i .i64 0))), some 59, none⟩,
    ⟨.mv (.t 59), some 60, none⟩,
    ⟨.mv (.t 10), some 61, some (60, true)⟩,
    ⟨.bin .eql .plain (.t 61) (.c (.p (.i .i64 0))), some 62, some (60, true)⟩,
    ⟨.pick (.t 60) (.t 62) (.c (.p (.b false))), some 63, none⟩,
    ⟨.mv (.t 63), some 64, none⟩,
    ⟨.mv (.t 12), some 65, some (64, true)⟩,
    ⟨.bin .eql .plain (.t 65) (.c (.p (.i .i64 0))), some 66, some (64, true)⟩,
    ⟨.pick (.t 64) (.t 66) (.c (.p (.b false))), some 67, none⟩,
    ⟨.mv (.t 67), some 68, none⟩,
    ⟨.load true 34 (.t 6), some 69, some (68, true)⟩,
    ⟨.load true 34 (.t 9), some 70, some (68, true)⟩,
    ⟨.bin .eql (.flat [(.i .i64), (.i .i64), .b, .s, .b, .s, .b, .s, .b, .s, .b, .s, .b, .s, .b, .s, .b, .s, .b, .s, .b, .s, .b, .s, .b, .s, .b, .s, .b, .s, .b, .s, .b, .s]) (.t 69) (.t 70), some 71, some (68, true)⟩,
    ⟨.pick (.t 68) (.t 71) (.c (.p (.b false))), some 72, none⟩,
    ⟨.mv (.t 72), some 73, none⟩,
    ⟨.load true 34 (.t 6), some 74, some (73, true)⟩,
    ⟨.load true 34 (.t 11), some 75, some (73, true)⟩,
    ⟨.bin .eql (.flat [(.i .i64), (.i .i64), .b, .s, .b, .s, .b, .s, .b, .s, .b, .s, .b, .s, .b, .s, .b, .s, .b, .s, .b, .s, .b, .s, .b, .s, .b, .s, .b, .s, .b, .s, .b, .s]) (.t 74) (.t 75), some 76, some (73, true)⟩,
    ⟨.pick (.t 73) (.t 76) (.c (.p (.b false))), some 77, none⟩,
    ⟨.mv (.t 77), some 78, none⟩,
    ⟨.mv (.t 15), some 79, some (78, true)⟩,
    ⟨.bin .eql .plain (.t 79) (.c (.p (.i .i64 0))), some 80, some (78, true)⟩,
    ⟨.mv (.t 13), some 81, some (78, true)⟩,
    ⟨.faddr 0 (.t 6), some 82, some (78, true)⟩,
    ⟨.load false 1 (.t 82), some 83, some (78, true)⟩,
    ⟨.bin .eql .plain (.t 81) (.t 83), some 84, some (78, true)⟩,
    ⟨.bin .eql .bool (.t 80) (.t 84), some 85, some (78, true)⟩,
    ⟨.pick (.t 78) (.t 85) (.c (.p (.b false))), some 86, none⟩,
    ⟨.mv (.t 86), some 87, none⟩,
    ⟨.mv (.t 13), some 88, some (87, true)⟩,
    ⟨.faddr 0 (.t 6), some 89, some (87, true)⟩,
    ⟨.load false 1 (.t 89), some 90, some (87, true)⟩,
    ⟨.bin .eql .plain (.t 88) (.t 90), some 91, some (87, true)⟩,
    ⟨.mv (.t 91), some 92, some (87, true)⟩,
    ⟨.mv (.t 15), some 93, some (92, false)⟩,
    ⟨.bin .eql .plain (.t 93) (.c (.p (.i .i64 6))), some 94, some (92, false)⟩,
    ⟨.pick (.t 92) (.c (.p (.b true))) (.t 94), some 95, some (87, true)⟩,
    ⟨.pick (.t 87) (.t 95) (.c (.p (.b false))), some 96, none⟩,
    ⟨.mv (.t 96), some 97, none⟩,
    ⟨.mv (.t 17), some 98, some (97, true)⟩,
    ⟨.bin .eql .plain (.t 98) (.c (.p (.i .i64 0))), some 99, some (97, true)⟩,
    ⟨.pick (.t 97) (.t 99) (.c (.p (.b false))), some 100, none⟩,
    ⟨.mv (.t 100), some 101, none⟩,
    ⟨.load true 34 (.t 16), some 102, some (101, true)⟩,
    ⟨.mv (.t 13), some 103, some (101, true)⟩,
    ⟨.call i_page_New [(.t 103)] 0, some 104, some (101, true)⟩,
    ⟨.bin .eql (.flat [(.i .i64), (.i .i64), .b, .s, .b, .s, .b, .s, .b, .s, .b, .s, .b, .s, .b, .s, .b, .s, .b, .s, .b, .s, .b, .s, .b, .s, .b, .s, .b, .s, .b, .s, .b, .s]) (.t 102) (.t 104), some 105, some (101, true)⟩,
    ⟨.pick (.t 101) (.t 105) (.c (.p (.b false))), some 106, none⟩,
    ⟨.mv (.t 106), some 4, none⟩])
  (.ret)))))))))))))))))))
def f_law02_PageReturns : AFn := ⟨2, 107, c_law02_PageReturns, [.tmp 4], false⟩

/- pagemend/pagemendlaw02.PageTears -/
def c_law02_PageTears_0 : ACode := .seq (.reg false [] [⟨.bin .lss .plain (.t 89) (.t 88), some 90, none⟩])
  (.seq (.cond (.t 90)
  (.skip)
  (.exit 0))
  (.seq (.block 1 (.seq (.reg false [] [⟨.iaddr 1 (.t 87) (.t 89), some 91, none⟩,
    ⟨.load false 1 (.t 91), some 92, none⟩,
    ⟨.mv (.t 92), some 17, none⟩])
  (.keep [8, 11, 13, 17, 87, 88, 89] (.seq (.reg false [] [⟨.mv (.t 17), some 94, none⟩,
    ⟨.mv (.t 8), some 95, none⟩,
    ⟨.call i_page_Identify [(.t 94), (.t 95)] 0, some 96, none⟩,
    ⟨.mv (.t 96), some 93, none⟩,
    ⟨.extr (.t 93) 0, some 97, none⟩,
    ⟨.extr (.t 93) 1, some 98, none⟩,
    ⟨.newbox (e_api_Page default), some 18, none⟩,
    ⟨.store 34 (.t 18) (.t 97), none, none⟩,
    ⟨.mv (.t 98), some 19, none⟩])
  (.keep [8, 11, 13, 17, 18, 19, 87, 88, 89] (.seq (.reg false [] [⟨.mv (.t 19), some 99, none⟩,
    ⟨.bin .eql .plain (.t 99) (.c (.p (.i .i64 0))), some 100, none⟩,
    ⟨.mv (.t 100), some 101, none⟩,
    ⟨.mv (.t 17), some 102, some (101, true)⟩,
    ⟨.mv (.t 11), some 103, some (101, true)⟩,
    ⟨.bin .neq .plain (.t 102) (.t 103), some 104, some (101, true)⟩,
    ⟨.mv (.t 104), some 105, some (101, true)⟩,
    ⟨.mv (.t 17), some 106, some (105, true)⟩,
    ⟨.mv (.t 13), some 107, some (105, true)⟩,
    ⟨.bin .neq .plain (.t 106) (.t 107), some 108, some (105, true)⟩,
    ⟨.pick (.t 105) (.t 108) (.c (.p (.b false))), some 109, some (101, true)⟩,
    ⟨.mv (.t 109), some 110, some (101, true)⟩,
    ⟨.faddr 0 (.t 18), some 111, some (110, false)⟩,
    ⟨.load false 1 (.t 111), some 112, some (110, false)⟩,
    ⟨.mv (.t 8), some 113, some (110, false)⟩,
    ⟨.bin .neq .plain (.t 112) (.t 113), some 114, some (110, false)⟩,
    ⟨.pick (.t 110) (.c (.p (.b true))) (.t 114), some 115, some (101, true)⟩,
    ⟨.pick (.t 101) (.t 115) (.c (.p (.b false))), some 116, none⟩])
  (.keep [8, 11, 13, 87, 88, 89, 116] (.cond (.t 116)
  (.seq (.reg false [] [⟨.mv (.c (.p (.b false))), some 6, none⟩])
    (.ret))
  (.skip)))))))))
  (.reg false [] [⟨.bin .add .plain (.t 89) (.c (.p (.i .i64 1))), some 117, none⟩,
    ⟨.mv (.t 117), some 89, none⟩])))
def c_law02_PageTears_1 : ACode := .seq (.reg false [] [⟨.mv (.c (.p (.b true))), some 6, none⟩])
  (.ret)
def c_law02_PageTears_2 : ACode := .seq (.seq (.reg false [] [⟨.mv (.t 12), some 54, none⟩,
    ⟨.bin .neq .plain (.t 54) (.c (.p (.i .i64 0))), some 55, none⟩,
    ⟨.mv (.t 55), some 56, none⟩,
    ⟨.mv (.t 14), some 57, some (56, false)⟩,
    ⟨.bin .neq .plain (.t 57) (.c (.p (.i .i64 0))), some 58, some (56, false)⟩,
    ⟨.pick (.t 56) (.c (.p (.b true))) (.t 58), some 59, none⟩,
    ⟨.mv (.t 59), some 60, none⟩,
    ⟨.mv (.t 11), some 61, some (60, false)⟩,
    ⟨.len true (.t 61), some 62, some (60, false)⟩,
    ⟨.bin .neq .plain (.t 62) (.c (.p (.i .i64 256))), some 63, some (60, false)⟩,
    ⟨.pick (.t 60) (.c (.p (.b true))) (.t 63), some 64, none⟩,
    ⟨.mv (.t 64), some 65, none⟩,
    ⟨.mv (.t 13), some 66, some (65, false)⟩,
    ⟨.len true (.t 66), some 67, some (65, false)⟩,
    ⟨.bin .neq .plain (.t 67) (.c (.p (.i .i64 256))), some 68, some (65, false)⟩,
    ⟨.pick (.t 65) (.c (.p (.b true))) (.t 68), some 69, none⟩])
  (.keep [1, 8, 11, 13, 69] (.cond (.t 69)
  (.seq (.reg false [] [⟨.mv (.c (.p (.b false))), some 6, none⟩])
    (.ret))
  (.skip))))
  (.seq (.reg false [] [⟨.mv (.t 1), some 70, none⟩,
    ⟨.conv (.int .i64) (.t 70), some 71, none⟩,
    ⟨.bin .rem .plain (.t 71) (.c (.p (.i .i64 257))), some 72, none⟩,
    ⟨.mv (.t 72), some 15, none⟩])
  (.keep [8, 11, 13, 15] (.seq (.tidy [6] (.seq (.reg true [] [⟨.mv (.t 11), some 73, none⟩,
    ⟨.mv (.t 15), some 74, none⟩,
    ⟨.slice .str (.t 73) none (some (.t 74)) none, some 75, none⟩,
    ⟨.mv (.t 13), some 76, none⟩,
    ⟨.mv (.t 15), some 77, none⟩,
    ⟨.slice .str (.t 76) (some (.t 77)) none none, some 78, none⟩,
    ⟨.bin .add .plain (.t 75) (.t 78), some 79, none⟩,
    ⟨.mv (.t 13), some 80, none⟩,
    ⟨.mv (.t 15), some 81, none⟩,
    ⟨.slice .str (.t 80) none (some (.t 81)) none, some 82, none⟩,
    ⟨.mv (.t 11), some 83, none⟩,
    ⟨.mv (.t 15), some 84, none⟩,
    ⟨.slice .str (.t 83) (some (.t 84)) none none, some 85, none⟩,
    ⟨.bin .add .plain (.t 82) (.t 85), some 86, none⟩,
    ⟨.lits false 1 2 [(.s [])] [(0, (.t 79)), (1, (.t 86))], some 87, none⟩,
    ⟨.len false (.t 87), some 88, none⟩,
    ⟨.mv (.c (.p (.i .i64 0))), some 89, none⟩])
  (.keep [8, 11, 13, 87, 88, 89] (.block 0 (.loop [8, 11, 13, 87, 88, 89] c_law02_PageTears_0)))))
  (.keep [] c_law02_PageTears_1))))
def c_law02_PageTears : ACode := .seq (.reg false [] [⟨.mv (.c (.p (.b false))), some 6, none⟩])
  (.seq (.seq (.reg false [] [⟨.call i_law02_awake [] 0, some 20, none⟩,
    ⟨.un .not (.t 20), some 21, none⟩])
  (.cond (.t 21)
  (.seq (.reg false [] [⟨.mv (.c (.p (.b false))), some 6, none⟩])
    (.ret))
  (.skip)))
  (.seq (.reg false [] [⟨.mv (.t 0), some 22, none⟩,
    ⟨.call i_draw_New [(.t 22), (.c (.p (.i .i64 200)))] 1, some 23, none⟩,
    ⟨.mv (.t 23), some 7, none⟩])
  (.keep [1, 2, 7] (.seq (.reg false [] [⟨.mv (.t 7), some 24, none⟩,
    ⟨.call i_draw_Codes_Next [(.t 24), (.c (.p (.i .i64 64)))] 0, some 25, none⟩,
    ⟨.mv (.t 25), some 8, none⟩])
  (.keep [1, 2, 7, 8] (.seq (.reg false [] [⟨.mv (.t 7), some 26, none⟩,
    ⟨.mv (.t 8), some 27, none⟩,
    ⟨.call i_draw_Codes_Page [(.t 26), (.t 27)] 0, some 28, none⟩,
    ⟨.mv (.t 7), some 29, none⟩,
    ⟨.mv (.t 8), some 30, none⟩,
    ⟨.call i_draw_Codes_Page [(.t 29), (.t 30)] 0, some 31, none⟩,
    ⟨.newbox (e_api_Page default), some 9, none⟩,
    ⟨.newbox (e_api_Page default), some 10, none⟩,
    ⟨.store 34 (.t 9) (.t 28), none, none⟩,
    ⟨.store 34 (.t 10) (.t 31), none, none⟩])
  (.keep [1, 2, 8, 9, 10] (.seq (.seq (.reg false [] [⟨.faddr 1 (.t 9), some 32, none⟩,
    ⟨.load false 1 (.t 32), some 33, none⟩,
    ⟨.faddr 1 (.t 10), some 34, none⟩,
    ⟨.load false 1 (.t 34), some 35, none⟩,
    ⟨.bin .eql .plain (.t 33) (.t 35), some 36, none⟩])
  (.keep [1, 2, 8, 9, 10, 36] (.cond (.t 36)
  (.seq (.reg false [] [⟨.mv (.c (.p (.b true))), some 6, none⟩])
    (.ret))
  (.skip))))
  (.seq (.reg false [] [⟨.load true 34 (.t 9), some 38, none⟩,
    ⟨.call i_page_Encode [(.t 38)] 0, some 39, none⟩,
    ⟨.mv (.t 39), some 37, none⟩,
    ⟨.extr (.t 37) 0, some 40, none⟩,
    ⟨.extr (.t 37) 1, some 41, none⟩,
    ⟨.mv (.t 40), some 11, none⟩,
    ⟨.mv (.t 41), some 12, none⟩])
  (.keep [1, 2, 8, 10, 11, 12] (.seq (.reg false [] [⟨.load true 34 (.t 10), some 43, none⟩,
    ⟨.call i_page_Encode [(.t 43)] 0, some 44, none⟩,
    ⟨.mv (.t 44), some 42, none⟩,
    ⟨.extr (.t 42) 0, some 45, none⟩,
    ⟨.extr (.t 42) 1, some 46, none⟩,
    ⟨.mv (.t 45), some 13, none⟩,
    ⟨.mv (.t 46), some 14, none⟩])
  (.keep [1, 2, 8, 10, 11, 12, 13, 14] (.seq (.seq (.reg false [] [⟨.mv (.t 2), some 47, none⟩,
    ⟨.mv (.t 47), some 48, none⟩,
    ⟨.faddr 1 (.t 10), some 49, some (48, true)⟩,
    ⟨.load false 1 (.t 49), some 50, some (48, true)⟩,
    ⟨.bin .gtr .plain (.t 50) (.c (.p (.i .i64 0))), some 51, some (48, true)⟩,
    ⟨.pick (.t 48) (.t 51) (.c (.p (.b false))), some 52, none⟩])
  (.keep [1, 8, 11, 12, 13, 14, 52] (.cond (.t 52)
  (.reg false [] [⟨.call i_page_Blank [] 0, some 53, none⟩,
      ⟨.mv (.t 53), some 11, none⟩])
  (.skip))))
  (.keep [1, 8, 11, 12, 13, 14] c_law02_PageTears_2))))))))))))))
def f_law02_PageTears : AFn := ⟨3, 118, c_law02_PageTears, [.tmp 6], false⟩
theorem z_draw_New : f_draw_New.res = [.tmp 4] ∧ f_draw_New.fresh = false := ⟨rfl, rfl⟩
theorem z_draw_Codes_Next : f_draw_Codes_Next.res = [.tmp 4] ∧ f_draw_Codes_Next.fresh = false := ⟨rfl, rfl⟩
theorem z_draw_Codes_Spoilt : f_draw_Codes_Spoilt.res = [.tmp 4] ∧ f_draw_Codes_Spoilt.fresh = false := ⟨rfl, rfl⟩
theorem z_page_New : f_page_New.res = [.cell 2 true 34] ∧ f_page_New.fresh = false := ⟨rfl, rfl⟩
theorem z_ref02_New : f_ref02_New.res = [.cell 2 true 34] ∧ f_ref02_New.fresh = false := ⟨rfl, rfl⟩
theorem z_draw_Codes_Bytes : f_draw_Codes_Bytes.res = [.tmp 2] ∧ f_draw_Codes_Bytes.fresh = false := ⟨rfl, rfl⟩
theorem z_draw_Codes_Int : f_draw_Codes_Int.res = [.tmp 2] ∧ f_draw_Codes_Int.fresh = false := ⟨rfl, rfl⟩
theorem z_draw_Codes_Data : f_draw_Codes_Data.res = [.tmp 2] ∧ f_draw_Codes_Data.fresh = false := ⟨rfl, rfl⟩
theorem z_ref01_Put : f_ref01_Put.res = [.tmp 6] ∧ f_ref01_Put.fresh = false := ⟨rfl, rfl⟩
theorem z_codec_Get : f_codec_Get.res = [.tmp 6, .tmp 7] ∧ f_codec_Get.fresh = false := ⟨rfl, rfl⟩
theorem z_ref01_Get : f_ref01_Get.res = [.tmp 6, .tmp 7] ∧ f_ref01_Get.fresh = false := ⟨rfl, rfl⟩
theorem z_draw_Codes_Cell : f_draw_Codes_Cell.res = [.cell 2 true 2] ∧ f_draw_Codes_Cell.fresh = false := ⟨rfl, rfl⟩
theorem z_page_cells : f_page_cells.res = [.tmp 2] ∧ f_page_cells.fresh = false := ⟨rfl, rfl⟩
theorem z_ref02_numbers : f_ref02_numbers.res = [.tmp 2] ∧ f_ref02_numbers.fresh = false := ⟨rfl, rfl⟩
theorem z_ref02_zeros : f_ref02_zeros.res = [.tmp 2] ∧ f_ref02_zeros.fresh = false := ⟨rfl, rfl⟩
theorem z_ref01_Sum : f_ref01_Sum.res = [.tmp 2] ∧ f_ref01_Sum.fresh = false := ⟨rfl, rfl⟩
theorem z_ref02_Seal : f_ref02_Seal.res = [.tmp 2] ∧ f_ref02_Seal.fresh = false := ⟨rfl, rfl⟩
theorem z_page_number : f_page_number.res = [.tmp 6] ∧ f_page_number.fresh = false := ⟨rfl, rfl⟩
theorem z_page_read : f_page_read.res = [.cell 2 true 34, .tmp 3] ∧ f_page_read.fresh = false := ⟨rfl, rfl⟩
theorem z_page_named : f_page_named.res = [.tmp 2] ∧ f_page_named.fresh = false := ⟨rfl, rfl⟩
theorem z_codec_remainders : f_codec_remainders.res = [.cell 0 true 16] ∧ f_codec_remainders.fresh = false := ⟨rfl, rfl⟩
theorem z_ref02_ValidCell : f_ref02_ValidCell.res = [.tmp 2] ∧ f_ref02_ValidCell.fresh = false := ⟨rfl, rfl⟩
theorem z_draw_Codes_Page : f_draw_Codes_Page.res = [.cell 4 true 34] ∧ f_draw_Codes_Page.fresh = false := ⟨rfl, rfl⟩
theorem z_draw_Codes_OddPage : f_draw_Codes_OddPage.res = [.cell 4 true 34] ∧ f_draw_Codes_OddPage.fresh = false := ⟨rfl, rfl⟩
theorem z_page_Blank : f_page_Blank.res = [.tmp 0] ∧ f_page_Blank.fresh = false := ⟨rfl, rfl⟩
theorem z_ref02_Blank : f_ref02_Blank.res = [.tmp 0] ∧ f_ref02_Blank.fresh = false := ⟨rfl, rfl⟩
theorem z_law02_sealed : f_law02_sealed.res = [.tmp 4] ∧ f_law02_sealed.fresh = false := ⟨rfl, rfl⟩
theorem z_page_placed : f_page_placed.res = [.tmp 2] ∧ f_page_placed.fresh = false := ⟨rfl, rfl⟩
theorem z_page_builder_cell : f_page_builder_cell.res = [] ∧ f_page_builder_cell.fresh = false := ⟨rfl, rfl⟩
theorem z_codec_Sum : f_codec_Sum.res = [.tmp 2] ∧ f_codec_Sum.fresh = false := ⟨rfl, rfl⟩
theorem z_ref02_cells : f_ref02_cells.res = [.tmp 2] ∧ f_ref02_cells.fresh = false := ⟨rfl, rfl⟩
theorem z_ref02_Check : f_ref02_Check.res = [.tmp 2] ∧ f_ref02_Check.fresh = false := ⟨rfl, rfl⟩
theorem z_page_Encode : f_page_Encode.res = [.tmp 2, .tmp 3] ∧ f_page_Encode.fresh = false := ⟨rfl, rfl⟩
theorem z_ref02_Valid : f_ref02_Valid.res = [.tmp 2] ∧ f_ref02_Valid.fresh = false := ⟨rfl, rfl⟩
theorem z_ref02_Encode : f_ref02_Encode.res = [.tmp 2, .tmp 3] ∧ f_ref02_Encode.fresh = false := ⟨rfl, rfl⟩
theorem z_page_Valid : f_page_Valid.res = [.tmp 2] ∧ f_page_Valid.fresh = false := ⟨rfl, rfl⟩
theorem z_page_Decode : f_page_Decode.res = [.cell 2 true 34, .tmp 3] ∧ f_page_Decode.fresh = false := ⟨rfl, rfl⟩
theorem z_ref02_Decode : f_ref02_Decode.res = [.cell 2 true 34, .tmp 3] ∧ f_ref02_Decode.fresh = false := ⟨rfl, rfl⟩
theorem z_page_Identify : f_page_Identify.res = [.cell 4 true 34, .tmp 5] ∧ f_page_Identify.fresh = false := ⟨rfl, rfl⟩
theorem z_ref02_Identify : f_ref02_Identify.res = [.cell 4 true 34, .tmp 5] ∧ f_ref02_Identify.fresh = false := ⟨rfl, rfl⟩
theorem z_law02_awake : f_law02_awake.res = [.tmp 0] ∧ f_law02_awake.fresh = false := ⟨rfl, rfl⟩
theorem z_law02_PageInjective : f_law02_PageInjective.res = [.tmp 4] ∧ f_law02_PageInjective.fresh = false := ⟨rfl, rfl⟩
theorem z_law02_PageEncodes : f_law02_PageEncodes.res = [.tmp 6] ∧ f_law02_PageEncodes.fresh = false := ⟨rfl, rfl⟩
theorem z_law02_PageForms : f_law02_PageForms.res = [.tmp 2] ∧ f_law02_PageForms.fresh = false := ⟨rfl, rfl⟩
theorem z_law02_PageDamage : f_law02_PageDamage.res = [.tmp 6] ∧ f_law02_PageDamage.fresh = false := ⟨rfl, rfl⟩
theorem z_law02_PageDecodes : f_law02_PageDecodes.res = [.tmp 6] ∧ f_law02_PageDecodes.fresh = false := ⟨rfl, rfl⟩
theorem z_law02_PageReturns : f_law02_PageReturns.res = [.tmp 4] ∧ f_law02_PageReturns.fresh = false := ⟨rfl, rfl⟩
theorem z_law02_PageTears : f_law02_PageTears.res = [.tmp 6] ∧ f_law02_PageTears.fresh = false := ⟨rfl, rfl⟩

def fns : List (FuncId × AFn) := [(i_draw_New, f_draw_New), (i_draw_Codes_Next, f_draw_Codes_Next), (i_draw_Codes_Spoilt, f_draw_Codes_Spoilt), (i_page_New, f_page_New), (i_ref02_New, f_ref02_New), (i_draw_Codes_Bytes, f_draw_Codes_Bytes), (i_draw_Codes_Int, f_draw_Codes_Int), (i_draw_Codes_Data, f_draw_Codes_Data), (i_ref01_Put, f_ref01_Put), (i_codec_Get, f_codec_Get), (i_ref01_Get, f_ref01_Get), (i_draw_Codes_Cell, f_draw_Codes_Cell), (i_page_cells, f_page_cells), (i_ref02_numbers, f_ref02_numbers), (i_ref02_zeros, f_ref02_zeros), (i_ref01_Sum, f_ref01_Sum), (i_ref02_Seal, f_ref02_Seal), (i_page_number, f_page_number), (i_page_read, f_page_read), (i_page_named, f_page_named), (i_codec_remainders, f_codec_remainders), (i_ref02_ValidCell, f_ref02_ValidCell), (i_draw_Codes_Page, f_draw_Codes_Page), (i_draw_Codes_OddPage, f_draw_Codes_OddPage), (i_page_Blank, f_page_Blank), (i_ref02_Blank, f_ref02_Blank), (i_law02_sealed, f_law02_sealed), (i_page_placed, f_page_placed), (i_page_builder_cell, f_page_builder_cell), (i_codec_Sum, f_codec_Sum), (i_ref02_cells, f_ref02_cells), (i_ref02_Check, f_ref02_Check), (i_page_Encode, f_page_Encode), (i_ref02_Valid, f_ref02_Valid), (i_ref02_Encode, f_ref02_Encode), (i_page_Valid, f_page_Valid), (i_page_Decode, f_page_Decode), (i_ref02_Decode, f_ref02_Decode), (i_page_Identify, f_page_Identify), (i_ref02_Identify, f_ref02_Identify), (i_law02_awake, f_law02_awake), (i_law02_PageInjective, f_law02_PageInjective), (i_law02_PageEncodes, f_law02_PageEncodes), (i_law02_PageForms, f_law02_PageForms), (i_law02_PageDamage, f_law02_PageDamage), (i_law02_PageDecodes, f_law02_PageDecodes), (i_law02_PageReturns, f_law02_PageReturns), (i_law02_PageTears, f_law02_PageTears)]

def forks : List (FuncId × FkFn) := []

def plist : List (FuncId × (List AV → List Blk → Option Res)) := [(i_codec_Put, putP), (i_strings_Repeat, repP)]

def lkF {α : Type} (f : FuncId) : List (FuncId × α) → Option α
  | [] => none
  | (g, a) :: r => if f = g then some a else lkF f r

def tabOf (prims : FuncId → Option (List AV → List Blk → Option Res)) : Tabl := fun f => tab4 (lkF f fns) (lkF f forks) (lkF f plist) (prims f)

theorem t_draw_New (p) : tabOf p i_draw_New = some (.fn f_draw_New) := rfl
theorem t_draw_Codes_Next (p) : tabOf p i_draw_Codes_Next = some (.fn f_draw_Codes_Next) := rfl
theorem t_draw_Codes_Spoilt (p) : tabOf p i_draw_Codes_Spoilt = some (.fn f_draw_Codes_Spoilt) := rfl
theorem t_page_New (p) : tabOf p i_page_New = some (.fn f_page_New) := rfl
theorem t_ref02_New (p) : tabOf p i_ref02_New = some (.fn f_ref02_New) := rfl
theorem t_draw_Codes_Bytes (p) : tabOf p i_draw_Codes_Bytes = some (.fn f_draw_Codes_Bytes) := rfl
theorem t_draw_Codes_Int (p) : tabOf p i_draw_Codes_Int = some (.fn f_draw_Codes_Int) := rfl
theorem t_draw_Codes_Data (p) : tabOf p i_draw_Codes_Data = some (.fn f_draw_Codes_Data) := rfl
theorem t_ref01_Put (p) : tabOf p i_ref01_Put = some (.fn f_ref01_Put) := rfl
theorem t_codec_Get (p) : tabOf p i_codec_Get = some (.fn f_codec_Get) := rfl
theorem t_ref01_Get (p) : tabOf p i_ref01_Get = some (.fn f_ref01_Get) := rfl
theorem t_draw_Codes_Cell (p) : tabOf p i_draw_Codes_Cell = some (.fn f_draw_Codes_Cell) := rfl
theorem t_page_cells (p) : tabOf p i_page_cells = some (.fn f_page_cells) := rfl
theorem t_ref02_numbers (p) : tabOf p i_ref02_numbers = some (.fn f_ref02_numbers) := rfl
theorem t_ref02_zeros (p) : tabOf p i_ref02_zeros = some (.fn f_ref02_zeros) := rfl
theorem t_ref01_Sum (p) : tabOf p i_ref01_Sum = some (.fn f_ref01_Sum) := rfl
theorem t_ref02_Seal (p) : tabOf p i_ref02_Seal = some (.fn f_ref02_Seal) := rfl
theorem t_page_number (p) : tabOf p i_page_number = some (.fn f_page_number) := rfl
theorem t_page_read (p) : tabOf p i_page_read = some (.fn f_page_read) := rfl
theorem t_page_named (p) : tabOf p i_page_named = some (.fn f_page_named) := rfl
theorem t_codec_remainders (p) : tabOf p i_codec_remainders = some (.fn f_codec_remainders) := rfl
theorem t_ref02_ValidCell (p) : tabOf p i_ref02_ValidCell = some (.fn f_ref02_ValidCell) := rfl
theorem t_draw_Codes_Page (p) : tabOf p i_draw_Codes_Page = some (.fn f_draw_Codes_Page) := rfl
theorem t_draw_Codes_OddPage (p) : tabOf p i_draw_Codes_OddPage = some (.fn f_draw_Codes_OddPage) := rfl
theorem t_page_Blank (p) : tabOf p i_page_Blank = some (.fn f_page_Blank) := rfl
theorem t_ref02_Blank (p) : tabOf p i_ref02_Blank = some (.fn f_ref02_Blank) := rfl
theorem t_law02_sealed (p) : tabOf p i_law02_sealed = some (.fn f_law02_sealed) := rfl
theorem t_page_placed (p) : tabOf p i_page_placed = some (.fn f_page_placed) := rfl
theorem t_page_builder_cell (p) : tabOf p i_page_builder_cell = some (.fn f_page_builder_cell) := rfl
theorem t_codec_Sum (p) : tabOf p i_codec_Sum = some (.fn f_codec_Sum) := rfl
theorem t_ref02_cells (p) : tabOf p i_ref02_cells = some (.fn f_ref02_cells) := rfl
theorem t_ref02_Check (p) : tabOf p i_ref02_Check = some (.fn f_ref02_Check) := rfl
theorem t_page_Encode (p) : tabOf p i_page_Encode = some (.fn f_page_Encode) := rfl
theorem t_ref02_Valid (p) : tabOf p i_ref02_Valid = some (.fn f_ref02_Valid) := rfl
theorem t_ref02_Encode (p) : tabOf p i_ref02_Encode = some (.fn f_ref02_Encode) := rfl
theorem t_page_Valid (p) : tabOf p i_page_Valid = some (.fn f_page_Valid) := rfl
theorem t_page_Decode (p) : tabOf p i_page_Decode = some (.fn f_page_Decode) := rfl
theorem t_ref02_Decode (p) : tabOf p i_ref02_Decode = some (.fn f_ref02_Decode) := rfl
theorem t_page_Identify (p) : tabOf p i_page_Identify = some (.fn f_page_Identify) := rfl
theorem t_ref02_Identify (p) : tabOf p i_ref02_Identify = some (.fn f_ref02_Identify) := rfl
theorem t_law02_awake (p) : tabOf p i_law02_awake = some (.fn f_law02_awake) := rfl
theorem t_law02_PageInjective (p) : tabOf p i_law02_PageInjective = some (.fn f_law02_PageInjective) := rfl
theorem t_law02_PageEncodes (p) : tabOf p i_law02_PageEncodes = some (.fn f_law02_PageEncodes) := rfl
theorem t_law02_PageForms (p) : tabOf p i_law02_PageForms = some (.fn f_law02_PageForms) := rfl
theorem t_law02_PageDamage (p) : tabOf p i_law02_PageDamage = some (.fn f_law02_PageDamage) := rfl
theorem t_law02_PageDecodes (p) : tabOf p i_law02_PageDecodes = some (.fn f_law02_PageDecodes) := rfl
theorem t_law02_PageReturns (p) : tabOf p i_law02_PageReturns = some (.fn f_law02_PageReturns) := rfl
theorem t_law02_PageTears (p) : tabOf p i_law02_PageTears = some (.fn f_law02_PageTears) := rfl
theorem t_codec_Put (p) : tabOf p i_codec_Put = some (.prim putP) := rfl
theorem t_strings_Repeat (p) : tabOf p i_strings_Repeat = some (.prim repP) := rfl

end Go.Am
end

section
namespace Go.Am
set_option maxRecDepth 8000
set_option maxHeartbeats 4000000
set_option linter.unusedSimpArgs false
set_option linter.unusedVariables false

noncomputable section
variable (p : FuncId → Option (List AV → List Blk → Option Res))

/-! pagemend/pagemenddraw.New -/

def d_draw_New  (r : T_pagemenddraw_Codes) : Option Res := some (.ptr 0 0, [.box (List.map AV.p (e_pagemenddraw_Codes r))])

def S_draw_New_0 (x0 : List Int) : Option (T_pagemenddraw_Codes) :=
  some (⟨x0, 0⟩ : T_pagemenddraw_Codes)

theorem e_draw_New_0 {x0 : List Int} {o : T_pagemenddraw_Codes} (h : S_draw_New_0 x0 = some o) :
    rk (tabOf p) f_draw_New 0 [] (X (tabOf p) c_draw_New_0 ⟨[(0, .p (.sl 1 (List.map (r_i .u8) x0)))], []⟩) = d_draw_New o := by
  unfold S_draw_New_0 at h
  obtain rfl := sj h
  try simp only [↓Da, Ua, c_draw_New_0, B_pagemenddraw_Codes, z_draw_New, ↓reduceIte, Nat.reduceEqDiff, Nat.reduceAdd, Nat.reduceLT, Nat.reduceMul]
  rfl


def S_draw_New (x0 : List Int) (x1 : Int) : Option (T_pagemenddraw_Codes) :=
  if (decide (((List.length x0 : Nat) : Int) > x1)) then
    Option.bind (slcS x0 none (some x1)) fun m2 =>
    S_draw_New_0 m2
  else
    S_draw_New_0 x0

theorem e_draw_New_top {x0 : List Int} {x1 : Int} {o : T_pagemenddraw_Codes} (h : S_draw_New x0 x1 = some o) :
    rk (tabOf p) f_draw_New 0 [] (X (tabOf p) c_draw_New ⟨[(0, .p (.sl 1 (List.map (r_i .u8) x0))), (1, .p (.i .i64 x1))], []⟩) = d_draw_New o := by
  unfold S_draw_New at h
  rcases ite_inv h with ⟨h1, h⟩ | ⟨h1, h⟩
  · obtain ⟨m2, h3, h⟩ := bi h
    have f4 : sliceL 1 (.p (.sl 1 (List.map (r_i .u8) x0))) none (some (.p (.i .i64 x1))) = some (.p (.sl 1 (List.map (r_i .u8) m2))) := sliceL_ok (k := .i64) (lo := none) (hi := (some x1)) h3
    try simp only [Nf] at f4
    try simp only [↓Da, Ua, c_draw_New, B_pagemenddraw_Codes, *, ↓reduceIte, Nat.reduceEqDiff, Nat.reduceAdd, Nat.reduceLT, Nat.reduceMul]
    have e0 := e_draw_New_0 p h
    exact e0
  · try simp only [↓Da, Ua, c_draw_New, B_pagemenddraw_Codes, *, ↓reduceIte, Nat.reduceEqDiff, Nat.reduceAdd, Nat.reduceLT, Nat.reduceMul]
    have e0 := e_draw_New_0 p h
    exact e0


theorem e_draw_New {x0 : List Int} {x1 : Int} {o : T_pagemenddraw_Codes} (h : S_draw_New x0 x1 = some o) : AF (tabOf p) i_draw_New [.p (.sl 1 (List.map (r_i .u8) x0)), .p (.i .i64 x1)] [] = d_draw_New o :=
  (AF_rk (tabOf p) (t_draw_New p) rfl).trans (e_draw_New_top p h)

/-! (*pagemend/pagemenddraw.Codes).Next -/

def d_draw_Codes_Next  (r : Int × T_pagemenddraw_Codes) : Option Res := some (.p (.i .i64 r.1), [.box (List.map AV.p (e_pagemenddraw_Codes r.2))])

def S_draw_Codes_Next_R (rec : T_pagemenddraw_Codes → Int → Option (Int × T_pagemenddraw_Codes)) (b0 : T_pagemenddraw_Codes) (x1 : Int) : Option (Int × T_pagemenddraw_Codes) :=
  if (decide (b0.at_ ≥ ((List.length b0.l_ : Nat) : Int))) then
    some (0, b0)
  else
    if (decide (x1 < 1)) then
      some (0, b0)
    else
      Option.bind (idx b0.l_ b0.at_) fun y3 =>
      if (decide (x1 > 256)) then
        Option.bind (rec (⟨b0.l_, (IntKind.wrap .i64 (b0.at_ + 1))⟩ : T_pagemenddraw_Codes) 256) fun r7 =>
        Option.bind (remS (IntKind.wrap .i64 ((IntKind.wrap .i64 (256 * (IntKind.wrap .i64 y3))) + r7.1)) x1) fun q10 =>
        some (q10, r7.2)
      else
        Option.bind (remS (IntKind.wrap .i64 y3) x1) fun q12 =>
        some (q12, (⟨b0.l_, (IntKind.wrap .i64 (b0.at_ + 1))⟩ : T_pagemenddraw_Codes))

theorem e_draw_Codes_Next_top {rec : T_pagemenddraw_Codes → Int → Option (Int × T_pagemenddraw_Codes)} (hrec : ∀ {b0 : T_pagemenddraw_Codes} {x1 : Int} {o : Int × T_pagemenddraw_Codes}, rec b0 x1 = some o → AF (tabOf p) i_draw_Codes_Next [.ptr 0 0, .p (.i .i64 x1)] [.box (List.map AV.p (e_pagemenddraw_Codes b0))] = d_draw_Codes_Next o) {b0 : T_pagemenddraw_Codes} {x1 : Int} {o : Int × T_pagemenddraw_Codes} (h : S_draw_Codes_Next_R rec b0 x1 = some o) :
    rk (tabOf p) f_draw_Codes_Next 1 [] (X (tabOf p) c_draw_Codes_Next ⟨[(0, .ptr 0 0), (1, .p (.i .i64 x1))], [.box (List.map AV.p (e_pagemenddraw_Codes b0))]⟩) = d_draw_Codes_Next o := by
  unfold S_draw_Codes_Next_R at h
  rcases ite_inv h with ⟨h1, h⟩ | ⟨h1, h⟩
  · obtain rfl := sj h
    try simp only [↓Da, Ua, c_draw_Codes_Next, B_pagemenddraw_Codes, z_draw_Codes_Next, *, ↓reduceIte, Nat.reduceEqDiff, Nat.reduceAdd, Nat.reduceLT, Nat.reduceMul]
    rfl
  · try simp only [↓Da, Ua, c_draw_Codes_Next, B_pagemenddraw_Codes, *, ↓reduceIte, Nat.reduceEqDiff, Nat.reduceAdd, Nat.reduceLT, Nat.reduceMul]
    rcases ite_inv h with ⟨h2, h⟩ | ⟨h2, h⟩
    · obtain rfl := sj h
      try simp only [↓Da, Ua, c_draw_Codes_Next, B_pagemenddraw_Codes, z_draw_Codes_Next, *, ↓reduceIte, Nat.reduceEqDiff, Nat.reduceAdd, Nat.reduceLT, Nat.reduceMul]
      rfl
    · obtain ⟨y3, h4, h⟩ := bi h
      have f5 := rowAt_idx (r := (r_i .u8)) h4
      try simp only [Nf] at f5
      try simp only [↓Da, Ua, c_draw_Codes_Next, B_pagemenddraw_Codes, *, ↓reduceIte, Nat.reduceEqDiff, Nat.reduceAdd, Nat.reduceLT, Nat.reduceMul]
      rcases ite_inv h with ⟨h6, h⟩ | ⟨h6, h⟩
      · obtain ⟨r7, h8, h⟩ := bi h
        have f9 : ∀ ws new s, boxesAt ws s [0] [List.map AV.p (e_pagemenddraw_Codes (⟨b0.l_, (IntKind.wrap .i64 (b0.at_ + 1))⟩ : T_pagemenddraw_Codes))] → (callR2 (AF (tabOf p)) i_draw_Codes_Next ([.ptr 0 0, .p (.i .i64 256)], ws) 0 new).run s = some ⟨.p (.i .i64 r7.1), ws ++ [(0, .box (List.map AV.p (e_pagemenddraw_Codes r7.2)))]⟩ := callR2_ptrs (args' := [.ptr 0 0, .p (.i .i64 256)]) (bs := [0]) (css := [List.map AV.p (e_pagemenddraw_Codes (⟨b0.l_, (IntKind.wrap .i64 (b0.at_ + 1))⟩ : T_pagemenddraw_Codes))]) (css' := [List.map AV.p (e_pagemenddraw_Codes r7.2)]) rfl rfl rfl (by simp [allPlain, all_plain_mapp]) (hrec h8) rfl rfl (by simp [allPlain, all_plain_mapp])
        try simp only [Nf] at f9
        obtain ⟨q10, h11, h⟩ := bi h
        obtain rfl := sj h
        try simp only [↓Da, Ua, c_draw_Codes_Next, B_pagemenddraw_Codes, z_draw_Codes_Next, *, ↓reduceIte, Nat.reduceEqDiff, Nat.reduceAdd, Nat.reduceLT, Nat.reduceMul]
        rfl
      · obtain ⟨q12, h13, h⟩ := bi h
        obtain rfl := sj h
        try simp only [↓Da, Ua, c_draw_Codes_Next, B_pagemenddraw_Codes, z_draw_Codes_Next, *, ↓reduceIte, Nat.reduceEqDiff, Nat.reduceAdd, Nat.reduceLT, Nat.reduceMul]
        rfl


def S_draw_Codes_Next_N : Nat → T_pagemenddraw_Codes → Int → Option (Int × T_pagemenddraw_Codes)
  | 0 => fun _ _ => none
  | n + 1 => S_draw_Codes_Next_R (S_draw_Codes_Next_N n)

def S_draw_Codes_Next : T_pagemenddraw_Codes → Int → Option (Int × T_pagemenddraw_Codes) := S_draw_Codes_Next_N 12

theorem e_draw_Codes_Next_N : ∀ n, ∀ {b0 : T_pagemenddraw_Codes} {x1 : Int} {o : Int × T_pagemenddraw_Codes}, S_draw_Codes_Next_N n b0 x1 = some o → AF (tabOf p) i_draw_Codes_Next [.ptr 0 0, .p (.i .i64 x1)] [.box (List.map AV.p (e_pagemenddraw_Codes b0))] = d_draw_Codes_Next o
  | 0 => fun h => by cases h
  | n + 1 => fun h => (AF_rk (tabOf p) (t_draw_Codes_Next p) rfl).trans (e_draw_Codes_Next_top p (e_draw_Codes_Next_N n) h)

theorem e_draw_Codes_Next {b0 : T_pagemenddraw_Codes} {x1 : Int} {o : Int × T_pagemenddraw_Codes} (h : S_draw_Codes_Next b0 x1 = some o) : AF (tabOf p) i_draw_Codes_Next [.ptr 0 0, .p (.i .i64 x1)] [.box (List.map AV.p (e_pagemenddraw_Codes b0))] = d_draw_Codes_Next o := e_draw_Codes_Next_N p 12 h

/-! (*pagemend/pagemenddraw.Codes).Spoilt -/

def d_draw_Codes_Spoilt  (r : (List UInt8) × T_pagemenddraw_Codes) : Option Res := some (.p (.s r.1), [.box (List.map AV.p (e_pagemenddraw_Codes r.2))])

def S_draw_Codes_Spoilt (b0 : T_pagemenddraw_Codes) (x1 : List UInt8) : Option ((List UInt8) × T_pagemenddraw_Codes) :=
  if ((((List.length x1 : Nat) : Int) : Int) == 0) then
    Option.bind (S_draw_Codes_Next b0 256) fun r2 =>
    some ((toStr ([(IntKind.wrap .u8 r2.1)] : List Int)), r2.2)
  else
    Option.bind (S_draw_Codes_Next b0 ((List.length x1 : Nat) : Int)) fun r6 =>
    Option.bind (S_draw_Codes_Next r6.2 4) fun r9 =>
    if ((r9.1 : Int) == 0) then
      Option.bind (slcS x1 none (some r6.1)) fun m13 =>
      Option.bind (slcS x1 (some (IntKind.wrap .i64 (r6.1 + 1))) none) fun m16 =>
      Option.bind (catS m13 m16) fun s19 =>
      some (s19, r9.2)
    else
      if ((r9.1 : Int) == 1) then
        Option.bind (S_draw_Codes_Next r9.2 256) fun r22 =>
        Option.bind (catS x1 (toStr ([(IntKind.wrap .u8 r22.1)] : List Int))) fun s26 =>
        some (s26, r22.2)
      else
        Option.bind (slcS x1 none (some r6.1)) fun m28 =>
        Option.bind (sidS x1 r6.1) fun c31 =>
        Option.bind (S_draw_Codes_Next r9.2 255) fun r33 =>
        Option.bind (catS m28 (toStr ([(xorI .u8 c31 (IntKind.wrap .u8 (IntKind.wrap .i64 (1 + r33.1))))] : List Int))) fun s37 =>
        Option.bind (slcS x1 (some (IntKind.wrap .i64 (r6.1 + 1))) none) fun m39 =>
        Option.bind (catS s37 m39) fun s42 =>
        some (s42, r33.2)

theorem e_draw_Codes_Spoilt_top {b0 : T_pagemenddraw_Codes} {x1 : List UInt8} {o : (List UInt8) × T_pagemenddraw_Codes} (h : S_draw_Codes_Spoilt b0 x1 = some o) :
    rk (tabOf p) f_draw_Codes_Spoilt 1 [] (X (tabOf p) c_draw_Codes_Spoilt ⟨[(0, .ptr 0 0), (1, .p (.s x1))], [.box (List.map AV.p (e_pagemenddraw_Codes b0))]⟩) = d_draw_Codes_Spoilt o := by
  unfold S_draw_Codes_Spoilt at h
  rcases ite_inv h with ⟨h1, h⟩ | ⟨h1, h⟩
  · obtain ⟨r2, h3, h⟩ := bi h
    have f4 : ∀ ws new s, boxesAt ws s [0] [List.map AV.p (e_pagemenddraw_Codes b0)] → (callR2 (AF (tabOf p)) i_draw_Codes_Next ([.ptr 0 0, .p (.i .i64 256)], ws) 0 new).run s = some ⟨.p (.i .i64 r2.1), ws ++ [(0, .box (List.map AV.p (e_pagemenddraw_Codes r2.2)))]⟩ := callR2_ptrs (args' := [.ptr 0 0, .p (.i .i64 256)]) (bs := [0]) (css := [List.map AV.p (e_pagemenddraw_Codes b0)]) (css' := [List.map AV.p (e_pagemenddraw_Codes r2.2)]) rfl rfl rfl (by simp [allPlain, all_plain_mapp]) (e_draw_Codes_Next p h3) rfl rfl (by simp [allPlain, all_plain_mapp])
    try simp only [Nf] at f4
    have f5 : ∀ env sto new, (cvR .toStr (.p (.sl 1 (List.map (r_i .u8) ([(IntKind.wrap .u8 r2.1)] : List Int)))) new).run ⟨env, sto⟩ = some ⟨.p (.s (toStr ([(IntKind.wrap .u8 r2.1)] : List Int))), []⟩ := fun env sto new => cv_t env sto _ new
    try simp only [Nf] at f5
    obtain rfl := sj h
    try simp only [↓Da, Ua, c_draw_Codes_Spoilt, B_pagemenddraw_Codes, z_draw_Codes_Spoilt, *, ↓reduceIte, Nat.reduceEqDiff, Nat.reduceAdd, Nat.reduceLT, Nat.reduceMul]
    rfl
  · obtain ⟨r6, h7, h⟩ := bi h
    have f8 : ∀ ws new s, boxesAt ws s [0] [List.map AV.p (e_pagemenddraw_Codes b0)] → (callR2 (AF (tabOf p)) i_draw_Codes_Next ([.ptr 0 0, .p (.i .i64 ((List.length x1 : Nat) : Int))], ws) 0 new).run s = some ⟨.p (.i .i64 r6.1), ws ++ [(0, .box (List.map AV.p (e_pagemenddraw_Codes r6.2)))]⟩ := callR2_ptrs (args' := [.ptr 0 0, .p (.i .i64 ((List.length x1 : Nat) : Int))]) (bs := [0]) (css := [List.map AV.p (e_pagemenddraw_Codes b0)]) (css' := [List.map AV.p (e_pagemenddraw_Codes r6.2)]) rfl rfl rfl (by simp [allPlain, all_plain_mapp]) (e_draw_Codes_Next p h7) rfl rfl (by simp [allPlain, all_plain_mapp])
    try simp only [Nf] at f8
    obtain ⟨r9, h10, h⟩ := bi h
    have f11 : ∀ ws new s, boxesAt ws s [0] [List.map AV.p (e_pagemenddraw_Codes r6.2)] → (callR2 (AF (tabOf p)) i_draw_Codes_Next ([.ptr 0 0, .p (.i .i64 4)], ws) 0 new).run s = some ⟨.p (.i .i64 r9.1), ws ++ [(0, .box (List.map AV.p (e_pagemenddraw_Codes r9.2)))]⟩ := callR2_ptrs (args' := [.ptr 0 0, .p (.i .i64 4)]) (bs := [0]) (css := [List.map AV.p (e_pagemenddraw_Codes r6.2)]) (css' := [List.map AV.p (e_pagemenddraw_Codes r9.2)]) rfl rfl rfl (by simp [allPlain, all_plain_mapp]) (e_draw_Codes_Next p h10) rfl rfl (by simp [allPlain, all_plain_mapp])
    try simp only [Nf] at f11
    try simp only [↓Da, Ua, c_draw_Codes_Spoilt, B_pagemenddraw_Codes, *, ↓reduceIte, Nat.reduceEqDiff, Nat.reduceAdd, Nat.reduceLT, Nat.reduceMul]
    rcases ite_inv h with ⟨h12, h⟩ | ⟨h12, h⟩
    · obtain ⟨m13, h14, h⟩ := bi h
      have f15 : sliceS (.p (.s x1)) none (some (.p (.i .i64 r6.1))) = some (.p (.s m13)) := sliceS_ok (k := .i64) (lo := none) (hi := (some r6.1)) h14
      try simp only [Nf] at f15
      obtain ⟨m16, h17, h⟩ := bi h
      have f18 : sliceS (.p (.s x1)) (some (.p (.i .i64 (IntKind.wrap .i64 (r6.1 + 1))))) none = some (.p (.s m16)) := sliceS_ok (k := .i64) (lo := (some (IntKind.wrap .i64 (r6.1 + 1)))) (hi := none) h17
      try simp only [Nf] at f18
      obtain ⟨s19, h20, h⟩ := bi h
      obtain rfl := sj h
      try simp only [↓Da, Ua, c_draw_Codes_Spoilt, B_pagemenddraw_Codes, z_draw_Codes_Spoilt, *, ↓reduceIte, Nat.reduceEqDiff, Nat.reduceAdd, Nat.reduceLT, Nat.reduceMul]
      rfl
    · try simp only [↓Da, Ua, c_draw_Codes_Spoilt, B_pagemenddraw_Codes, *, ↓reduceIte, Nat.reduceEqDiff, Nat.reduceAdd, Nat.reduceLT, Nat.reduceMul]
      rcases ite_inv h with ⟨h21, h⟩ | ⟨h21, h⟩
      · obtain ⟨r22, h23, h⟩ := bi h
        have f24 : ∀ ws new s, boxesAt ws s [0] [List.map AV.p (e_pagemenddraw_Codes r9.2)] → (callR2 (AF (tabOf p)) i_draw_Codes_Next ([.ptr 0 0, .p (.i .i64 256)], ws) 0 new).run s = some ⟨.p (.i .i64 r22.1), ws ++ [(0, .box (List.map AV.p (e_pagemenddraw_Codes r22.2)))]⟩ := callR2_ptrs (args' := [.ptr 0 0, .p (.i .i64 256)]) (bs := [0]) (css := [List.map AV.p (e_pagemenddraw_Codes r9.2)]) (css' := [List.map AV.p (e_pagemenddraw_Codes r22.2)]) rfl rfl rfl (by simp [allPlain, all_plain_mapp]) (e_draw_Codes_Next p h23) rfl rfl (by simp [allPlain, all_plain_mapp])
        try simp only [Nf] at f24
        have f25 : ∀ env sto new, (cvR .toStr (.p (.sl 1 (List.map (r_i .u8) ([(IntKind.wrap .u8 r22.1)] : List Int)))) new).run ⟨env, sto⟩ = some ⟨.p (.s (toStr ([(IntKind.wrap .u8 r22.1)] : List Int))), []⟩ := fun env sto new => cv_t env sto _ new
        try simp only [Nf] at f25
        obtain ⟨s26, h27, h⟩ := bi h
        obtain rfl := sj h
        try simp only [↓Da, Ua, c_draw_Codes_Spoilt, B_pagemenddraw_Codes, z_draw_Codes_Spoilt, *, ↓reduceIte, Nat.reduceEqDiff, Nat.reduceAdd, Nat.reduceLT, Nat.reduceMul]
        rfl
      · obtain ⟨m28, h29, h⟩ := bi h
        have f30 : sliceS (.p (.s x1)) none (some (.p (.i .i64 r6.1))) = some (.p (.s m28)) := sliceS_ok (k := .i64) (lo := none) (hi := (some r6.1)) h29
        try simp only [Nf] at f30
        obtain ⟨c31, h32, h⟩ := bi h
        obtain ⟨r33, h34, h⟩ := bi h
        have f35 : ∀ ws new s, boxesAt ws s [0] [List.map AV.p (e_pagemenddraw_Codes r9.2)] → (callR2 (AF (tabOf p)) i_draw_Codes_Next ([.ptr 0 0, .p (.i .i64 255)], ws) 0 new).run s = some ⟨.p (.i .i64 r33.1), ws ++ [(0, .box (List.map AV.p (e_pagemenddraw_Codes r33.2)))]⟩ := callR2_ptrs (args' := [.ptr 0 0, .p (.i .i64 255)]) (bs := [0]) (css := [List.map AV.p (e_pagemenddraw_Codes r9.2)]) (css' := [List.map AV.p (e_pagemenddraw_Codes r33.2)]) rfl rfl rfl (by simp [allPlain, all_plain_mapp]) (e_draw_Codes_Next p h34) rfl rfl (by simp [allPlain, all_plain_mapp])
        try simp only [Nf] at f35
        have f36 : ∀ env sto new, (cvR .toStr (.p (.sl 1 (List.map (r_i .u8) ([(xorI .u8 c31 (IntKind.wrap .u8 (IntKind.wrap .i64 (1 + r33.1))))] : List Int)))) new).run ⟨env, sto⟩ = some ⟨.p (.s (toStr ([(xorI .u8 c31 (IntKind.wrap .u8 (IntKind.wrap .i64 (1 + r33.1))))] : List Int))), []⟩ := fun env sto new => cv_t env sto _ new
        try simp only [Nf] at f36
        obtain ⟨s37, h38, h⟩ := bi h
        obtain ⟨m39, h40, h⟩ := bi h
        have f41 : sliceS (.p (.s x1)) (some (.p (.i .i64 (IntKind.wrap .i64 (r6.1 + 1))))) none = some (.p (.s m39)) := sliceS_ok (k := .i64) (lo := (some (IntKind.wrap .i64 (r6.1 + 1)))) (hi := none) h40
        try simp only [Nf] at f41
        obtain ⟨s42, h43, h⟩ := bi h
        obtain rfl := sj h
        try simp only [↓Da, Ua, c_draw_Codes_Spoilt, B_pagemenddraw_Codes, z_draw_Codes_Spoilt, *, ↓reduceIte, Nat.reduceEqDiff, Nat.reduceAdd, Nat.reduceLT, Nat.reduceMul]
        rfl


theorem e_draw_Codes_Spoilt {b0 : T_pagemenddraw_Codes} {x1 : List UInt8} {o : (List UInt8) × T_pagemenddraw_Codes} (h : S_draw_Codes_Spoilt b0 x1 = some o) : AF (tabOf p) i_draw_Codes_Spoilt [.ptr 0 0, .p (.s x1)] [.box (List.map AV.p (e_pagemenddraw_Codes b0))] = d_draw_Codes_Spoilt o :=
  (AF_rk (tabOf p) (t_draw_Codes_Spoilt p) rfl).trans (e_draw_Codes_Spoilt_top p h)

/-! pagemend/page.New -/

def d_page_New  (r : T_api_Page) : Option Res := some (.data (e_api_Page r), [])

def S_page_New (x0 : Int) : Option (T_api_Page) :=
  some (⟨x0, 0, (Vector.replicate 16 (⟨false, []⟩ : T_api_Cell))⟩ : T_api_Page)

theorem e_page_New_top {x0 : Int} {o : T_api_Page} (h : S_page_New x0 = some o) :
    rk (tabOf p) f_page_New 0 [] (X (tabOf p) c_page_New ⟨[(0, .p (.i .i64 x0))], []⟩) = d_page_New o := by
  unfold S_page_New at h
  obtain rfl := sj h
  try simp only [↓Da, Ua, c_page_New, B_api_Cell, B_ar_eareapiCell16, B_api_Page, z_page_New, ↓reduceIte, Nat.reduceEqDiff, Nat.reduceAdd, Nat.reduceLT, Nat.reduceMul]
  rfl


theorem e_page_New {x0 : Int} {o : T_api_Page} (h : S_page_New x0 = some o) : AF (tabOf p) i_page_New [.p (.i .i64 x0)] [] = d_page_New o :=
  (AF_rk (tabOf p) (t_page_New p) rfl).trans (e_page_New_top p h)

theorem q_page_New {x0 : Int} {o : T_api_Page} (h : S_page_New x0 = some o) : ∀ ws new st, (callR2 (AF (tabOf p)) i_page_New ([.p (.i .i64 x0)], ws) 0 new).run st = some ⟨.data (e_api_Page o), ws⟩ := callR2_plain rfl (e_page_New p h) rfl

/-! pagemend/pagemendref02.New -/

def d_ref02_New  (r : T_api_Page) : Option Res := some (.data (e_api_Page r), [])

def S_ref02_New (x0 : Int) : Option (T_api_Page) :=
  some (⟨x0, 0, (Vector.replicate 16 (⟨false, []⟩ : T_api_Cell))⟩ : T_api_Page)

theorem e_ref02_New_top {x0 : Int} {o : T_api_Page} (h : S_ref02_New x0 = some o) :
    rk (tabOf p) f_ref02_New 0 [] (X (tabOf p) c_ref02_New ⟨[(0, .p (.i .i64 x0))], []⟩) = d_ref02_New o := by
  unfold S_ref02_New at h
  obtain rfl := sj h
  try simp only [↓Da, Ua, c_ref02_New, B_api_Cell, B_ar_eareapiCell16, B_api_Page, z_ref02_New, ↓reduceIte, Nat.reduceEqDiff, Nat.reduceAdd, Nat.reduceLT, Nat.reduceMul]
  rfl


theorem e_ref02_New {x0 : Int} {o : T_api_Page} (h : S_ref02_New x0 = some o) : AF (tabOf p) i_ref02_New [.p (.i .i64 x0)] [] = d_ref02_New o :=
  (AF_rk (tabOf p) (t_ref02_New p) rfl).trans (e_ref02_New_top p h)

theorem q_ref02_New {x0 : Int} {o : T_api_Page} (h : S_ref02_New x0 = some o) : ∀ ws new st, (callR2 (AF (tabOf p)) i_ref02_New ([.p (.i .i64 x0)], ws) 0 new).run st = some ⟨.data (e_api_Page o), ws⟩ := callR2_plain rfl (e_ref02_New p h) rfl

/-! (*pagemend/pagemenddraw.Codes).Bytes -/

def d_draw_Codes_Bytes  (r : (List UInt8) × T_pagemenddraw_Codes) : Option Res := some (.p (.s r.1), [.box (List.map AV.p (e_pagemenddraw_Codes r.2))])

def d_draw_Codes_Bytes_0 (x4 : Int) (b0 : T_pagemenddraw_Codes) (o : (Int × (List Int)) ⊕ ((List UInt8) × T_pagemenddraw_Codes)) : Option Res := match o with
  | .inl s => rk (tabOf p) f_draw_Codes_Bytes 1 [.bl 0, .sq (.keep [0, 3] c_draw_Codes_Bytes_1)] (X (tabOf p) (.lp 2 [0, 3, 4, 5] c_draw_Codes_Bytes_0) ⟨[(0, .ptr 0 0), (3, .slr 1 0 (List.length s.2)), (4, .p (.i .u8 x4)), (5, .p (.i .i64 s.1))], [.box (List.map AV.p (e_pagemenddraw_Codes b0)), .arr true 1 (List.map (r_i .u8) s.2)]⟩)
  | .inr o => d_draw_Codes_Bytes o

def S_draw_Codes_Bytes_1 (b0 : T_pagemenddraw_Codes) (l1 : List Int) : Option ((List UInt8) × T_pagemenddraw_Codes) :=
  Option.bind (S_draw_Codes_Next b0 256) fun r1 =>
  Option.bind (S_draw_Codes_Next r1.2 256) fun r4 =>
  Option.bind (idx l1 r1.1) fun y7 =>
  Option.bind (some (List.set l1 (Int.toNat r1.1) (IntKind.wrap .u8 r4.1))) fun m11 =>
  some ((toStr m11), r4.2)

theorem e_draw_Codes_Bytes_1 {b0 : T_pagemenddraw_Codes} {l1 : List Int} {o : (List UInt8) × T_pagemenddraw_Codes} (h : S_draw_Codes_Bytes_1 b0 l1 = some o) :
    rk (tabOf p) f_draw_Codes_Bytes 1 [] (X (tabOf p) c_draw_Codes_Bytes_1 ⟨[(0, .ptr 0 0), (3, .slr 1 0 (List.length l1))], [.box (List.map AV.p (e_pagemenddraw_Codes b0)), .arr true 1 (List.map (r_i .u8) l1)]⟩) = d_draw_Codes_Bytes o := by
  unfold S_draw_Codes_Bytes_1 at h
  obtain ⟨r1, h2, h⟩ := bi h
  have f3 : ∀ ws new s, boxesAt ws s [0] [List.map AV.p (e_pagemenddraw_Codes b0)] → (callR2 (AF (tabOf p)) i_draw_Codes_Next ([.ptr 0 0, .p (.i .i64 256)], ws) 0 new).run s = some ⟨.p (.i .i64 r1.1), ws ++ [(0, .box (List.map AV.p (e_pagemenddraw_Codes r1.2)))]⟩ := callR2_ptrs (args' := [.ptr 0 0, .p (.i .i64 256)]) (bs := [0]) (css := [List.map AV.p (e_pagemenddraw_Codes b0)]) (css' := [List.map AV.p (e_pagemenddraw_Codes r1.2)]) rfl rfl rfl (by simp [allPlain, all_plain_mapp]) (e_draw_Codes_Next p h2) rfl rfl (by simp [allPlain, all_plain_mapp])
  try simp only [Nf] at f3
  obtain ⟨r4, h5, h⟩ := bi h
  have f6 : ∀ ws new s, boxesAt ws s [0] [List.map AV.p (e_pagemenddraw_Codes r1.2)] → (callR2 (AF (tabOf p)) i_draw_Codes_Next ([.ptr 0 0, .p (.i .i64 256)], ws) 0 new).run s = some ⟨.p (.i .i64 r4.1), ws ++ [(0, .box (List.map AV.p (e_pagemenddraw_Codes r4.2)))]⟩ := callR2_ptrs (args' := [.ptr 0 0, .p (.i .i64 256)]) (bs := [0]) (css := [List.map AV.p (e_pagemenddraw_Codes r1.2)]) (css' := [List.map AV.p (e_pagemenddraw_Codes r4.2)]) rfl rfl rfl (by simp [allPlain, all_plain_mapp]) (e_draw_Codes_Next p h5) rfl rfl (by simp [allPlain, all_plain_mapp])
  try simp only [Nf] at f6
  obtain ⟨y7, h8, h⟩ := bi h
  have f9 := getq_idx (r := (r_i .u8)) h8
  try simp only [Nf] at f9
  have f10 : (0 ≤ (r1.1 : Int) ∧ (r1.1 : Int) < (((List.length l1) : Nat) : Int)) = True := eq_true (by have e0 := idx_inb h8; (try simp only [List.length_cons, List.length_nil, Nat.zero_add] at e0); omega)
  obtain ⟨m11, h12, h⟩ := bi h
  have f13 : List.set (List.map (r_i .u8) l1) (Int.toNat r1.1) ((r_i .u8) (IntKind.wrap .u8 r4.1)) = List.map (r_i .u8) m11 := by
    rw [← Option.some.inj h12, List.map_set]
  try simp only [Nf] at f13
  have g14 : List.length m11 = List.length l1 := by rw [← Option.some.inj h12, List.length_set]
  obtain rfl := sj h
  try simp only [↓Da, Ua, c_draw_Codes_Bytes_1, B_pagemenddraw_Codes, z_draw_Codes_Bytes, *, ↓reduceIte, Nat.reduceEqDiff, Nat.reduceAdd, Nat.reduceLT, Nat.reduceMul]
  rfl


def S_draw_Codes_Bytes_0 (x4 : Int) (b0 : T_pagemenddraw_Codes) (x5 : Int) (l1 : List Int) : Option (((Int × (List Int)) ⊕ ((List UInt8) × T_pagemenddraw_Codes))) :=
  if (decide (x5 < (((List.length l1) : Nat) : Int))) then
    Option.bind (idx l1 x5) fun y2 =>
    Option.bind (some (List.set l1 (Int.toNat x5) x4)) fun m6 =>
    some (.inl ((IntKind.wrap .i64 (x5 + 1)), m6))
  else
    Option.map (fun o => .inr o) (S_draw_Codes_Bytes_1 b0 l1)

theorem e_draw_Codes_Bytes_0 {x4 : Int} {b0 : T_pagemenddraw_Codes} {x5 : Int} {l1 : List Int} {o : ((Int × (List Int)) ⊕ ((List UInt8) × T_pagemenddraw_Codes))} (h : S_draw_Codes_Bytes_0 x4 b0 x5 l1 = some o) :
    rk (tabOf p) f_draw_Codes_Bytes 1 [.lo 2 [0, 3, 4, 5] c_draw_Codes_Bytes_0, .bl 0, .sq (.keep [0, 3] c_draw_Codes_Bytes_1)] (X (tabOf p) c_draw_Codes_Bytes_0 ⟨[(0, .ptr 0 0), (3, .slr 1 0 (List.length l1)), (4, .p (.i .u8 x4)), (5, .p (.i .i64 x5))], [.box (List.map AV.p (e_pagemenddraw_Codes b0)), .arr true 1 (List.map (r_i .u8) l1)]⟩) = (d_draw_Codes_Bytes_0 p x4 b0) o := by
  unfold S_draw_Codes_Bytes_0 at h
  rcases ite_inv h with ⟨h1, h⟩ | ⟨h1, h⟩
  · obtain ⟨y2, h3, h⟩ := bi h
    have f4 := getq_idx (r := (r_i .u8)) h3
    try simp only [Nf] at f4
    have f5 : (0 ≤ (x5 : Int) ∧ (x5 : Int) < (((List.length l1) : Nat) : Int)) = True := eq_true (by have e0 := idx_inb h3; (try simp only [List.length_cons, List.length_nil, Nat.zero_add] at e0); omega)
    obtain ⟨m6, h7, h⟩ := bi h
    have f8 : List.set (List.map (r_i .u8) l1) (Int.toNat x5) ((r_i .u8) x4) = List.map (r_i .u8) m6 := by
      rw [← Option.some.inj h7, List.map_set]
    try simp only [Nf] at f8
    have g9 : List.length m6 = List.length l1 := by rw [← Option.some.inj h7, List.length_set]
    obtain rfl := sj h
    try simp only [↓Da, Ua, c_draw_Codes_Bytes_0, *, ↓reduceIte, Nat.reduceEqDiff, Nat.reduceAdd, Nat.reduceLT, Nat.reduceMul]
    try simp only [d_draw_Codes_Bytes_0, g9]
    try rfl
  · obtain ⟨o', h', rfl⟩ := mi h
    try simp only [↓Da, Ua, c_draw_Codes_Bytes_0, *, ↓reduceIte, Nat.reduceEqDiff, Nat.reduceAdd, Nat.reduceLT, Nat.reduceMul]
    have e0 := e_draw_Codes_Bytes_1 p h'
    exact e0


def W_draw_Codes_Bytes_0 (x4 : Int) (b0 : T_pagemenddraw_Codes) (s : Int × (List Int)) : Option ((List UInt8) × T_pagemenddraw_Codes) :=
  whileO (fun s => S_draw_Codes_Bytes_0 x4 b0 s.1 s.2) s

theorem e_draw_Codes_Bytes_0_w {x4 : Int} {b0 : T_pagemenddraw_Codes} {s : Int × (List Int)} {o : (List UInt8) × T_pagemenddraw_Codes} (h : W_draw_Codes_Bytes_0 x4 b0 s = some o) :
    rk (tabOf p) f_draw_Codes_Bytes 1 [.bl 0, .sq (.keep [0, 3] c_draw_Codes_Bytes_1)] (X (tabOf p) (.lp 2 [0, 3, 4, 5] c_draw_Codes_Bytes_0) ⟨[(0, .ptr 0 0), (3, .slr 1 0 (List.length s.2)), (4, .p (.i .u8 x4)), (5, .p (.i .i64 s.1))], [.box (List.map AV.p (e_pagemenddraw_Codes b0)), .arr true 1 (List.map (r_i .u8) s.2)]⟩) = d_draw_Codes_Bytes o := by
  have h0 : whileO (fun s => S_draw_Codes_Bytes_0 x4 b0 s.1 s.2) s = some o := h
  exact while_ind (P := fun (s : Int × (List Int)) (o : (List UInt8) × T_pagemenddraw_Codes) => rk (tabOf p) f_draw_Codes_Bytes 1 [.bl 0, .sq (.keep [0, 3] c_draw_Codes_Bytes_1)] (X (tabOf p) (.lp 2 [0, 3, 4, 5] c_draw_Codes_Bytes_0) ⟨[(0, .ptr 0 0), (3, .slr 1 0 (List.length s.2)), (4, .p (.i .u8 x4)), (5, .p (.i .i64 s.1))], [.box (List.map AV.p (e_pagemenddraw_Codes b0)), .arr true 1 (List.map (r_i .u8) s.2)]⟩) = d_draw_Codes_Bytes o) (fun s r hs => by rw [rk_lp]; exact e_draw_Codes_Bytes_0 p hs) (fun s s1 r hs ih => by rw [rk_lp]; exact (e_draw_Codes_Bytes_0 p hs).trans ih) h0

def S_draw_Codes_Bytes (b0 : T_pagemenddraw_Codes) : Option ((List UInt8) × T_pagemenddraw_Codes) :=
  Option.bind (mkS 1 256 256 0) fun m1 =>
  Option.bind (S_draw_Codes_Next b0 256) fun r6 =>
  W_draw_Codes_Bytes_0 (IntKind.wrap .u8 r6.1) r6.2 (0, m1)

theorem e_draw_Codes_Bytes_top {b0 : T_pagemenddraw_Codes} {o : (List UInt8) × T_pagemenddraw_Codes} (h : S_draw_Codes_Bytes b0 = some o) :
    rk (tabOf p) f_draw_Codes_Bytes 1 [] (X (tabOf p) c_draw_Codes_Bytes ⟨[(0, .ptr 0 0)], [.box (List.map AV.p (e_pagemenddraw_Codes b0))]⟩) = d_draw_Codes_Bytes o := by
  unfold S_draw_Codes_Bytes at h
  obtain ⟨m1, h2, h⟩ := bi h
  have f3 : (0 ≤ (256 : Int) ∧ (256 : Int) ≤ 256 ∧ ((1 : Nat) : Int) * 256 ≤ 281474976710656 ∧ (256 : Int) ≤ 281474976710656) = True := eq_true (mkS_iff h2).1
  have f4 : List.replicate (Int.toNat 256) ((r_i .u8) 0) = List.map (r_i .u8) m1 := by rw [(mkS_iff h2).2, List.map_replicate]
  try simp only [Nf] at f4
  have g5 : List.length m1 = Int.toNat 256 := by rw [(mkS_iff h2).2, List.length_replicate]
  obtain ⟨r6, h7, h⟩ := bi h
  have f8 : ∀ ws new s, boxesAt ws s [0] [List.map AV.p (e_pagemenddraw_Codes b0)] → (callR2 (AF (tabOf p)) i_draw_Codes_Next ([.ptr 0 0, .p (.i .i64 256)], ws) 0 new).run s = some ⟨.p (.i .i64 r6.1), ws ++ [(0, .box (List.map AV.p (e_pagemenddraw_Codes r6.2)))]⟩ := callR2_ptrs (args' := [.ptr 0 0, .p (.i .i64 256)]) (bs := [0]) (css := [List.map AV.p (e_pagemenddraw_Codes b0)]) (css' := [List.map AV.p (e_pagemenddraw_Codes r6.2)]) rfl rfl rfl (by simp [allPlain, all_plain_mapp]) (e_draw_Codes_Next p h7) rfl rfl (by simp [allPlain, all_plain_mapp])
  try simp only [Nf] at f8
  try simp only [↓Da, Ua, c_draw_Codes_Bytes, B_pagemenddraw_Codes, *, ↓reduceIte, Nat.reduceEqDiff, Nat.reduceAdd, Nat.reduceLT, Nat.reduceMul]
  have e0 := e_draw_Codes_Bytes_0_w p h
  try simp only [g5] at e0
  exact e0


theorem e_draw_Codes_Bytes {b0 : T_pagemenddraw_Codes} {o : (List UInt8) × T_pagemenddraw_Codes} (h : S_draw_Codes_Bytes b0 = some o) : AF (tabOf p) i_draw_Codes_Bytes [.ptr 0 0] [.box (List.map AV.p (e_pagemenddraw_Codes b0))] = d_draw_Codes_Bytes o :=
  (AF_rk (tabOf p) (t_draw_Codes_Bytes p) rfl).trans (e_draw_Codes_Bytes_top p h)

/-! (*pagemend/pagemenddraw.Codes).Int -/

def d_draw_Codes_Int  (r : Int × T_pagemenddraw_Codes) : Option Res := some (.p (.i .i64 r.1), [.box (List.map AV.p (e_pagemenddraw_Codes r.2))])

def S_draw_Codes_Int (b0 : T_pagemenddraw_Codes) : Option (Int × T_pagemenddraw_Codes) :=
  Option.bind (S_draw_Codes_Next b0 10) fun r1 =>
  if ((r1.1 : Int) == 0) then
    Option.bind (S_draw_Codes_Next r1.2 3) fun r5 =>
    some ((IntKind.wrap .i64 ((-1) - r5.1)), r5.2)
  else
    if ((r1.1 : Int) == 1) then
      Option.bind (S_draw_Codes_Next r1.2 16) fun r9 =>
      Option.bind (idx ([9223372036854775807, (-9223372036854775808), 1099511627776, 1099511627777, 1073741824, 1073741825, 64, 63, 16, 15, 256, 255, 4294967296, 65536, 256, 255] : List Int) r9.1) fun y12 =>
      some (y12, r9.2)
    else
      Option.bind (S_draw_Codes_Next r1.2 20) fun r15 =>
      some (r15.1, r15.2)

theorem e_draw_Codes_Int_top {b0 : T_pagemenddraw_Codes} {o : Int × T_pagemenddraw_Codes} (h : S_draw_Codes_Int b0 = some o) :
    rk (tabOf p) f_draw_Codes_Int 1 [] (X (tabOf p) c_draw_Codes_Int ⟨[(0, .ptr 0 0)], [.box (List.map AV.p (e_pagemenddraw_Codes b0))]⟩) = d_draw_Codes_Int o := by
  unfold S_draw_Codes_Int at h
  obtain ⟨r1, h2, h⟩ := bi h
  have f3 : ∀ ws new s, boxesAt ws s [0] [List.map AV.p (e_pagemenddraw_Codes b0)] → (callR2 (AF (tabOf p)) i_draw_Codes_Next ([.ptr 0 0, .p (.i .i64 10)], ws) 0 new).run s = some ⟨.p (.i .i64 r1.1), ws ++ [(0, .box (List.map AV.p (e_pagemenddraw_Codes r1.2)))]⟩ := callR2_ptrs (args' := [.ptr 0 0, .p (.i .i64 10)]) (bs := [0]) (css := [List.map AV.p (e_pagemenddraw_Codes b0)]) (css' := [List.map AV.p (e_pagemenddraw_Codes r1.2)]) rfl rfl rfl (by simp [allPlain, all_plain_mapp]) (e_draw_Codes_Next p h2) rfl rfl (by simp [allPlain, all_plain_mapp])
  try simp only [Nf] at f3
  try simp only [↓Da, Ua, c_draw_Codes_Int, B_pagemenddraw_Codes, *, ↓reduceIte, Nat.reduceEqDiff, Nat.reduceAdd, Nat.reduceLT, Nat.reduceMul]
  rcases ite_inv h with ⟨h4, h⟩ | ⟨h4, h⟩
  · obtain ⟨r5, h6, h⟩ := bi h
    have f7 : ∀ ws new s, boxesAt ws s [0] [List.map AV.p (e_pagemenddraw_Codes r1.2)] → (callR2 (AF (tabOf p)) i_draw_Codes_Next ([.ptr 0 0, .p (.i .i64 3)], ws) 0 new).run s = some ⟨.p (.i .i64 r5.1), ws ++ [(0, .box (List.map AV.p (e_pagemenddraw_Codes r5.2)))]⟩ := callR2_ptrs (args' := [.ptr 0 0, .p (.i .i64 3)]) (bs := [0]) (css := [List.map AV.p (e_pagemenddraw_Codes r1.2)]) (css' := [List.map AV.p (e_pagemenddraw_Codes r5.2)]) rfl rfl rfl (by simp [allPlain, all_plain_mapp]) (e_draw_Codes_Next p h6) rfl rfl (by simp [allPlain, all_plain_mapp])
    try simp only [Nf] at f7
    obtain rfl := sj h
    try simp only [↓Da, Ua, c_draw_Codes_Int, B_pagemenddraw_Codes, z_draw_Codes_Int, *, ↓reduceIte, Nat.reduceEqDiff, Nat.reduceAdd, Nat.reduceLT, Nat.reduceMul]
    rfl
  · try simp only [↓Da, Ua, c_draw_Codes_Int, B_pagemenddraw_Codes, *, ↓reduceIte, Nat.reduceEqDiff, Nat.reduceAdd, Nat.reduceLT, Nat.reduceMul]
    rcases ite_inv h with ⟨h8, h⟩ | ⟨h8, h⟩
    · obtain ⟨r9, h10, h⟩ := bi h
      have f11 : ∀ ws new s, boxesAt ws s [0] [List.map AV.p (e_pagemenddraw_Codes r1.2)] → (callR2 (AF (tabOf p)) i_draw_Codes_Next ([.ptr 0 0, .p (.i .i64 16)], ws) 0 new).run s = some ⟨.p (.i .i64 r9.1), ws ++ [(0, .box (List.map AV.p (e_pagemenddraw_Codes r9.2)))]⟩ := callR2_ptrs (args' := [.ptr 0 0, .p (.i .i64 16)]) (bs := [0]) (css := [List.map AV.p (e_pagemenddraw_Codes r1.2)]) (css' := [List.map AV.p (e_pagemenddraw_Codes r9.2)]) rfl rfl rfl (by simp [allPlain, all_plain_mapp]) (e_draw_Codes_Next p h10) rfl rfl (by simp [allPlain, all_plain_mapp])
      try simp only [Nf] at f11
      obtain ⟨y12, h13, h⟩ := bi h
      have f14 := rowAt_idx (r := (r_i .i64)) h13
      try simp only [Nf] at f14
      obtain rfl := sj h
      try simp only [↓Da, Ua, c_draw_Codes_Int, B_pagemenddraw_Codes, z_draw_Codes_Int, *, ↓reduceIte, Nat.reduceEqDiff, Nat.reduceAdd, Nat.reduceLT, Nat.reduceMul]
      rfl
    · obtain ⟨r15, h16, h⟩ := bi h
      have f17 : ∀ ws new s, boxesAt ws s [0] [List.map AV.p (e_pagemenddraw_Codes r1.2)] → (callR2 (AF (tabOf p)) i_draw_Codes_Next ([.ptr 0 0, .p (.i .i64 20)], ws) 0 new).run s = some ⟨.p (.i .i64 r15.1), ws ++ [(0, .box (List.map AV.p (e_pagemenddraw_Codes r15.2)))]⟩ := callR2_ptrs (args' := [.ptr 0 0, .p (.i .i64 20)]) (bs := [0]) (css := [List.map AV.p (e_pagemenddraw_Codes r1.2)]) (css' := [List.map AV.p (e_pagemenddraw_Codes r15.2)]) rfl rfl rfl (by simp [allPlain, all_plain_mapp]) (e_draw_Codes_Next p h16) rfl rfl (by simp [allPlain, all_plain_mapp])
      try simp only [Nf] at f17
      obtain rfl := sj h
      try simp only [↓Da, Ua, c_draw_Codes_Int, B_pagemenddraw_Codes, z_draw_Codes_Int, *, ↓reduceIte, Nat.reduceEqDiff, Nat.reduceAdd, Nat.reduceLT, Nat.reduceMul]
      rfl


theorem e_draw_Codes_Int {b0 : T_pagemenddraw_Codes} {o : Int × T_pagemenddraw_Codes} (h : S_draw_Codes_Int b0 = some o) : AF (tabOf p) i_draw_Codes_Int [.ptr 0 0] [.box (List.map AV.p (e_pagemenddraw_Codes b0))] = d_draw_Codes_Int o :=
  (AF_rk (tabOf p) (t_draw_Codes_Int p) rfl).trans (e_draw_Codes_Int_top p h)

/-! (*pagemend/pagemenddraw.Codes).Data -/

def d_draw_Codes_Data  (r : (List UInt8) × T_pagemenddraw_Codes) : Option Res := some (.p (.s r.1), [.box (List.map AV.p (e_pagemenddraw_Codes r.2))])

def d_draw_Codes_Data_0 (x3 : Int) (w1 : Bool) (o : (Int × T_pagemenddraw_Codes × (List Int)) ⊕ ((List UInt8) × T_pagemenddraw_Codes)) : Option Res := match o with
  | .inl s => rk (tabOf p) f_draw_Codes_Data 1 [.bl 0, .sq (.keep [4] c_draw_Codes_Data_1)] (X (tabOf p) (.lp 2 [0, 3, 4, 5] c_draw_Codes_Data_0) ⟨[(0, .ptr 0 0), (3, .p (.i .i64 x3)), (4, .slr 1 0 (List.length s.2.2)), (5, .p (.i .i64 s.1))], [.box (List.map AV.p (e_pagemenddraw_Codes s.2.1)), .arr w1 1 (List.map (r_i .u8) s.2.2)]⟩)
  | .inr o => d_draw_Codes_Data o

def S_draw_Codes_Data_1 (b0 : T_pagemenddraw_Codes) (l1 : List Int) : Option ((List UInt8) × T_pagemenddraw_Codes) :=
  some ((toStr l1), b0)

theorem e_draw_Codes_Data_1 {b0 : T_pagemenddraw_Codes} {l1 : List Int} {w1 : Bool} {o : (List UInt8) × T_pagemenddraw_Codes} (h : S_draw_Codes_Data_1 b0 l1 = some o) :
    rk (tabOf p) f_draw_Codes_Data 1 [] (X (tabOf p) c_draw_Codes_Data_1 ⟨[(4, .slr 1 0 (List.length l1))], [.box (List.map AV.p (e_pagemenddraw_Codes b0)), .arr w1 1 (List.map (r_i .u8) l1)]⟩) = d_draw_Codes_Data o := by
  unfold S_draw_Codes_Data_1 at h
  obtain rfl := sj h
  try simp only [↓Da, Ua, c_draw_Codes_Data_1, z_draw_Codes_Data, ↓reduceIte, Nat.reduceEqDiff, Nat.reduceAdd, Nat.reduceLT, Nat.reduceMul]
  rfl


def S_draw_Codes_Data_0 (x3 : Int) (x5 : Int) (b0 : T_pagemenddraw_Codes) (l1 : List Int) : Option (((Int × T_pagemenddraw_Codes × (List Int)) ⊕ ((List UInt8) × T_pagemenddraw_Codes))) :=
  if (decide (x5 < x3)) then
    Option.bind (S_draw_Codes_Next b0 3) fun r2 =>
    Option.bind (appS 1 l1 ([(IntKind.wrap .u8 (IntKind.wrap .i64 (97 + r2.1)))] : List Int)) fun m5 =>
    some (.inl ((IntKind.wrap .i64 (x5 + 1)), r2.2, m5))
  else
    Option.map (fun o => .inr o) (S_draw_Codes_Data_1 b0 l1)

theorem e_draw_Codes_Data_0 {x3 : Int} {x5 : Int} {b0 : T_pagemenddraw_Codes} {l1 : List Int} {w1 : Bool} {o : ((Int × T_pagemenddraw_Codes × (List Int)) ⊕ ((List UInt8) × T_pagemenddraw_Codes))} (h : S_draw_Codes_Data_0 x3 x5 b0 l1 = some o) :
    rk (tabOf p) f_draw_Codes_Data 1 [.lo 2 [0, 3, 4, 5] c_draw_Codes_Data_0, .bl 0, .sq (.keep [4] c_draw_Codes_Data_1)] (X (tabOf p) c_draw_Codes_Data_0 ⟨[(0, .ptr 0 0), (3, .p (.i .i64 x3)), (4, .slr 1 0 (List.length l1)), (5, .p (.i .i64 x5))], [.box (List.map AV.p (e_pagemenddraw_Codes b0)), .arr w1 1 (List.map (r_i .u8) l1)]⟩) = (d_draw_Codes_Data_0 p x3 w1) o := by
  unfold S_draw_Codes_Data_0 at h
  rcases ite_inv h with ⟨h1, h⟩ | ⟨h1, h⟩
  · obtain ⟨r2, h3, h⟩ := bi h
    have f4 : ∀ ws new s, boxesAt ws s [0] [List.map AV.p (e_pagemenddraw_Codes b0)] → (callR2 (AF (tabOf p)) i_draw_Codes_Next ([.ptr 0 0, .p (.i .i64 3)], ws) 0 new).run s = some ⟨.p (.i .i64 r2.1), ws ++ [(0, .box (List.map AV.p (e_pagemenddraw_Codes r2.2)))]⟩ := callR2_ptrs (args' := [.ptr 0 0, .p (.i .i64 3)]) (bs := [0]) (css := [List.map AV.p (e_pagemenddraw_Codes b0)]) (css' := [List.map AV.p (e_pagemenddraw_Codes r2.2)]) rfl rfl rfl (by simp [allPlain, all_plain_mapp]) (e_draw_Codes_Next p h3) rfl rfl (by simp [allPlain, all_plain_mapp])
    try simp only [Nf] at f4
    obtain ⟨m5, h6, h⟩ := bi h
    have f7 : ∀ s : St, s.sto[1]? = some (.arr w1 1 (List.map (r_i .u8) l1)) → (rowsOf 1 (.p (.sl 1 (List.map (r_i .u8) ([(IntKind.wrap .u8 (IntKind.wrap .i64 (97 + r2.1)))] : List Int))))).run s = some (List.map (r_i .u8) ([(IntKind.wrap .u8 (IntKind.wrap .i64 (97 + r2.1)))] : List Int)) → (appR 1 1 (.slr 1 0 (List.length l1)) (.p (.sl 1 (List.map (r_i .u8) ([(IntKind.wrap .u8 (IntKind.wrap .i64 (97 + r2.1)))] : List Int))))).run s = some ⟨.slr 1 0 (List.length m5), [(1, .arr w1 1 (List.map (r_i .u8) m5))]⟩ := by
      intro s e1 e2; have e3 := appR_ok h6 e1 e2; try simp only [List.length_cons, List.length_nil, Nat.zero_add] at e3
      exact e3
    try simp only [Nf] at f7
    obtain rfl := sj h
    try simp only [↓Da, Ua, c_draw_Codes_Data_0, B_pagemenddraw_Codes, *, ↓reduceIte, Nat.reduceEqDiff, Nat.reduceAdd, Nat.reduceLT, Nat.reduceMul]
    rfl
  · obtain ⟨o', h', rfl⟩ := mi h
    try simp only [↓Da, Ua, c_draw_Codes_Data_0, B_pagemenddraw_Codes, *, ↓reduceIte, Nat.reduceEqDiff, Nat.reduceAdd, Nat.reduceLT, Nat.reduceMul]
    have e0 := e_draw_Codes_Data_1 p (w1 := w1) h'
    exact e0


def W_draw_Codes_Data_0 (x3 : Int) (s : Int × T_pagemenddraw_Codes × (List Int)) : Option ((List UInt8) × T_pagemenddraw_Codes) :=
  whileO (fun s => S_draw_Codes_Data_0 x3 s.1 s.2.1 s.2.2) s

theorem e_draw_Codes_Data_0_w {x3 : Int} {w1 : Bool} {s : Int × T_pagemenddraw_Codes × (List Int)} {o : (List UInt8) × T_pagemenddraw_Codes} (h : W_draw_Codes_Data_0 x3 s = some o) :
    rk (tabOf p) f_draw_Codes_Data 1 [.bl 0, .sq (.keep [4] c_draw_Codes_Data_1)] (X (tabOf p) (.lp 2 [0, 3, 4, 5] c_draw_Codes_Data_0) ⟨[(0, .ptr 0 0), (3, .p (.i .i64 x3)), (4, .slr 1 0 (List.length s.2.2)), (5, .p (.i .i64 s.1))], [.box (List.map AV.p (e_pagemenddraw_Codes s.2.1)), .arr w1 1 (List.map (r_i .u8) s.2.2)]⟩) = d_draw_Codes_Data o := by
  have h0 : whileO (fun s => S_draw_Codes_Data_0 x3 s.1 s.2.1 s.2.2) s = some o := h
  exact while_ind (P := fun (s : Int × T_pagemenddraw_Codes × (List Int)) (o : (List UInt8) × T_pagemenddraw_Codes) => rk (tabOf p) f_draw_Codes_Data 1 [.bl 0, .sq (.keep [4] c_draw_Codes_Data_1)] (X (tabOf p) (.lp 2 [0, 3, 4, 5] c_draw_Codes_Data_0) ⟨[(0, .ptr 0 0), (3, .p (.i .i64 x3)), (4, .slr 1 0 (List.length s.2.2)), (5, .p (.i .i64 s.1))], [.box (List.map AV.p (e_pagemenddraw_Codes s.2.1)), .arr w1 1 (List.map (r_i .u8) s.2.2)]⟩) = d_draw_Codes_Data o) (fun s r hs => by rw [rk_lp]; exact e_draw_Codes_Data_0 p hs) (fun s s1 r hs ih => by rw [rk_lp]; exact (e_draw_Codes_Data_0 p hs).trans ih) h0

def S_draw_Codes_Data_2 (x3 : Int) (b0 : T_pagemenddraw_Codes) : Option ((List UInt8) × T_pagemenddraw_Codes) :=
  Option.bind (mkS 1 0 x3 0) fun m1 =>
  W_draw_Codes_Data_0 x3 (0, b0, m1)

theorem e_draw_Codes_Data_2 {x3 : Int} {b0 : T_pagemenddraw_Codes} {o : (List UInt8) × T_pagemenddraw_Codes} (h : S_draw_Codes_Data_2 x3 b0 = some o) :
    rk (tabOf p) f_draw_Codes_Data 1 [] (X (tabOf p) c_draw_Codes_Data_2 ⟨[(0, .ptr 0 0), (3, .p (.i .i64 x3))], [.box (List.map AV.p (e_pagemenddraw_Codes b0))]⟩) = d_draw_Codes_Data o := by
  unfold S_draw_Codes_Data_2 at h
  obtain ⟨m1, h2, h⟩ := bi h
  have f3 : (0 ≤ (0 : Int) ∧ (0 : Int) ≤ x3 ∧ ((1 : Nat) : Int) * x3 ≤ 281474976710656 ∧ (x3 : Int) ≤ 281474976710656) = True := eq_true (mkS_iff h2).1
  have f4 : List.replicate (Int.toNat 0) ((r_i .u8) 0) = List.map (r_i .u8) m1 := by rw [(mkS_iff h2).2, List.map_replicate]
  try simp only [Nf] at f4
  have g5 : List.length m1 = Int.toNat 0 := by rw [(mkS_iff h2).2, List.length_replicate]
  try simp only [↓Da, Ua, c_draw_Codes_Data_2, *, ↓reduceIte, Nat.reduceEqDiff, Nat.reduceAdd, Nat.reduceLT, Nat.reduceMul]
  have e0 := e_draw_Codes_Data_0_w p (w1 := true) h
  try simp only [g5] at e0
  exact e0


def S_draw_Codes_Data (b0 : T_pagemenddraw_Codes) : Option ((List UInt8) × T_pagemenddraw_Codes) :=
  Option.bind (S_draw_Codes_Next b0 5) fun r1 =>
  Option.bind (S_draw_Codes_Next r1.2 6) fun r4 =>
  if ((r4.1 : Int) == 0) then
    Option.bind (S_draw_Codes_Next r4.2 14) fun r8 =>
    S_draw_Codes_Data_2 r8.1 r8.2
  else
    S_draw_Codes_Data_2 r1.1 r4.2

theorem e_draw_Codes_Data_top {b0 : T_pagemenddraw_Codes} {o : (List UInt8) × T_pagemenddraw_Codes} (h : S_draw_Codes_Data b0 = some o) :
    rk (tabOf p) f_draw_Codes_Data 1 [] (X (tabOf p) c_draw_Codes_Data ⟨[(0, .ptr 0 0)], [.box (List.map AV.p (e_pagemenddraw_Codes b0))]⟩) = d_draw_Codes_Data o := by
  unfold S_draw_Codes_Data at h
  obtain ⟨r1, h2, h⟩ := bi h
  have f3 : ∀ ws new s, boxesAt ws s [0] [List.map AV.p (e_pagemenddraw_Codes b0)] → (callR2 (AF (tabOf p)) i_draw_Codes_Next ([.ptr 0 0, .p (.i .i64 5)], ws) 0 new).run s = some ⟨.p (.i .i64 r1.1), ws ++ [(0, .box (List.map AV.p (e_pagemenddraw_Codes r1.2)))]⟩ := callR2_ptrs (args' := [.ptr 0 0, .p (.i .i64 5)]) (bs := [0]) (css := [List.map AV.p (e_pagemenddraw_Codes b0)]) (css' := [List.map AV.p (e_pagemenddraw_Codes r1.2)]) rfl rfl rfl (by simp [allPlain, all_plain_mapp]) (e_draw_Codes_Next p h2) rfl rfl (by simp [allPlain, all_plain_mapp])
  try simp only [Nf] at f3
  obtain ⟨r4, h5, h⟩ := bi h
  have f6 : ∀ ws new s, boxesAt ws s [0] [List.map AV.p (e_pagemenddraw_Codes r1.2)] → (callR2 (AF (tabOf p)) i_draw_Codes_Next ([.ptr 0 0, .p (.i .i64 6)], ws) 0 new).run s = some ⟨.p (.i .i64 r4.1), ws ++ [(0, .box (List.map AV.p (e_pagemenddraw_Codes r4.2)))]⟩ := callR2_ptrs (args' := [.ptr 0 0, .p (.i .i64 6)]) (bs := [0]) (css := [List.map AV.p (e_pagemenddraw_Codes r1.2)]) (css' := [List.map AV.p (e_pagemenddraw_Codes r4.2)]) rfl rfl rfl (by simp [allPlain, all_plain_mapp]) (e_draw_Codes_Next p h5) rfl rfl (by simp [allPlain, all_plain_mapp])
  try simp only [Nf] at f6
  try simp only [↓Da, Ua, c_draw_Codes_Data, B_pagemenddraw_Codes, *, ↓reduceIte, Nat.reduceEqDiff, Nat.reduceAdd, Nat.reduceLT, Nat.reduceMul]
  rcases ite_inv h with ⟨h7, h⟩ | ⟨h7, h⟩
  · obtain ⟨r8, h9, h⟩ := bi h
    have f10 : ∀ ws new s, boxesAt ws s [0] [List.map AV.p (e_pagemenddraw_Codes r4.2)] → (callR2 (AF (tabOf p)) i_draw_Codes_Next ([.ptr 0 0, .p (.i .i64 14)], ws) 0 new).run s = some ⟨.p (.i .i64 r8.1), ws ++ [(0, .box (List.map AV.p (e_pagemenddraw_Codes r8.2)))]⟩ := callR2_ptrs (args' := [.ptr 0 0, .p (.i .i64 14)]) (bs := [0]) (css := [List.map AV.p (e_pagemenddraw_Codes r4.2)]) (css' := [List.map AV.p (e_pagemenddraw_Codes r8.2)]) rfl rfl rfl (by simp [allPlain, all_plain_mapp]) (e_draw_Codes_Next p h9) rfl rfl (by simp [allPlain, all_plain_mapp])
    try simp only [Nf] at f10
    try simp only [↓Da, Ua, c_draw_Codes_Data, B_pagemenddraw_Codes, *, ↓reduceIte, Nat.reduceEqDiff, Nat.reduceAdd, Nat.reduceLT, Nat.reduceMul]
    have e0 := e_draw_Codes_Data_2 p h
    exact e0
  · try simp only [↓Da, Ua, c_draw_Codes_Data, B_pagemenddraw_Codes, *, ↓reduceIte, Nat.reduceEqDiff, Nat.reduceAdd, Nat.reduceLT, Nat.reduceMul]
    have e0 := e_draw_Codes_Data_2 p h
    exact e0


theorem e_draw_Codes_Data {b0 : T_pagemenddraw_Codes} {o : (List UInt8) × T_pagemenddraw_Codes} (h : S_draw_Codes_Data b0 = some o) : AF (tabOf p) i_draw_Codes_Data [.ptr 0 0] [.box (List.map AV.p (e_pagemenddraw_Codes b0))] = d_draw_Codes_Data o :=
  (AF_rk (tabOf p) (t_draw_Codes_Data p) rfl).trans (e_draw_Codes_Data_top p h)

/-! pagemend/codec.Put -/

def d_codec_Put (r : List UInt8) : Option Res := some (.p (.s r), [])

def S_codec_Put (x0 : List UInt8) (x1 : Int) (x2 : Int) : Option (List UInt8) := putS x0 x1 x2

theorem e_codec_Put {x0 : List UInt8} {x1 : Int} {x2 : Int} {o : List UInt8} (h : S_codec_Put x0 x1 x2 = some o) : AF (tabOf p) i_codec_Put [.p (.s x0), .p (.i .i64 x1), .p (.i .i64 x2)] [] = d_codec_Put o := by
  rw [AF_prim (t_codec_Put p)]
  have h' : putS x0 x1 x2 = some o := h
  simp only [putP, h', Option.map_some, d_codec_Put]

theorem q_codec_Put {x0 : List UInt8} {x1 : Int} {x2 : Int} {o : List UInt8} (h : S_codec_Put x0 x1 x2 = some o) : ∀ ws new st, (callR2 (AF (tabOf p)) i_codec_Put ([.p (.s x0), .p (.i .i64 x1), .p (.i .i64 x2)], ws) 0 new).run st = some ⟨.p (.s o), ws⟩ := callR2_plain rfl (e_codec_Put p h) rfl

/-! pagemend/pagemendref01.Put -/

def d_ref01_Put  (r : (List UInt8)) : Option Res := some (.p (.s r), [])

def d_ref01_Put_0 (x1 : Int) (x2 : Int) (o : ((List UInt8) × Int) ⊕ ((List UInt8))) : Option Res := match o with
  | .inl s => rk (tabOf p) f_ref01_Put 0 [.bl 0, .sq (.keep [0] c_ref01_Put_1)] (X (tabOf p) (.lp 0 [0, 1, 2, 7] c_ref01_Put_0) ⟨[(0, .p (.s s.1)), (1, .p (.i .i64 x1)), (2, .p (.i .i64 x2)), (7, .p (.i .i64 s.2))], []⟩)
  | .inr o => d_ref01_Put o

def S_ref01_Put_1 (x0 : List UInt8) : Option ((List UInt8)) :=
  some x0

theorem e_ref01_Put_1 {x0 : List UInt8} {o : (List UInt8)} (h : S_ref01_Put_1 x0 = some o) :
    rk (tabOf p) f_ref01_Put 0 [] (X (tabOf p) c_ref01_Put_1 ⟨[(0, .p (.s x0))], []⟩) = d_ref01_Put o := by
  unfold S_ref01_Put_1 at h
  obtain rfl := sj h
  try simp only [↓Da, Ua, c_ref01_Put_1, z_ref01_Put, ↓reduceIte, Nat.reduceEqDiff, Nat.reduceAdd, Nat.reduceLT, Nat.reduceMul]
  rfl


def S_ref01_Put_0 (x1 : Int) (x2 : Int) (x0 : List UInt8) (x7 : Int) : Option ((((List UInt8) × Int) ⊕ ((List UInt8)))) :=
  if (decide (x7 < x2)) then
    Option.bind (shrS .u64 (IntKind.wrap .u64 x1) (IntKind.wrap .u64 (IntKind.wrap .i64 (8 * x7)))) fun q2 =>
    Option.bind (catS x0 (toStr ([(IntKind.wrap .u8 q2)] : List Int))) fun s5 =>
    some (.inl (s5, (IntKind.wrap .i64 (x7 + 1))))
  else
    Option.map (fun o => .inr o) (S_ref01_Put_1 x0)

theorem e_ref01_Put_0 {x1 : Int} {x2 : Int} {x0 : List UInt8} {x7 : Int} {o : (((List UInt8) × Int) ⊕ ((List UInt8)))} (h : S_ref01_Put_0 x1 x2 x0 x7 = some o) :
    rk (tabOf p) f_ref01_Put 0 [.lo 0 [0, 1, 2, 7] c_ref01_Put_0, .bl 0, .sq (.keep [0] c_ref01_Put_1)] (X (tabOf p) c_ref01_Put_0 ⟨[(0, .p (.s x0)), (1, .p (.i .i64 x1)), (2, .p (.i .i64 x2)), (7, .p (.i .i64 x7))], []⟩) = (d_ref01_Put_0 p x1 x2) o := by
  unfold S_ref01_Put_0 at h
  rcases ite_inv h with ⟨h1, h⟩ | ⟨h1, h⟩
  · obtain ⟨q2, h3, h⟩ := bi h
    have f4 : ∀ env sto new, (cvR .toStr (.p (.sl 1 (List.map (r_i .u8) ([(IntKind.wrap .u8 q2)] : List Int)))) new).run ⟨env, sto⟩ = some ⟨.p (.s (toStr ([(IntKind.wrap .u8 q2)] : List Int))), []⟩ := fun env sto new => cv_t env sto _ new
    try simp only [Nf] at f4
    obtain ⟨s5, h6, h⟩ := bi h
    obtain rfl := sj h
    try simp only [↓Da, Ua, c_ref01_Put_0, *, ↓reduceIte, Nat.reduceEqDiff, Nat.reduceAdd, Nat.reduceLT, Nat.reduceMul]
    rfl
  · obtain ⟨o', h', rfl⟩ := mi h
    try simp only [↓Da, Ua, c_ref01_Put_0, *, ↓reduceIte, Nat.reduceEqDiff, Nat.reduceAdd, Nat.reduceLT, Nat.reduceMul]
    have e0 := e_ref01_Put_1 p h'
    exact e0


def W_ref01_Put_0 (x1 : Int) (x2 : Int) (s : (List UInt8) × Int) : Option ((List UInt8)) :=
  whileO (fun s => S_ref01_Put_0 x1 x2 s.1 s.2) s

theorem e_ref01_Put_0_w {x1 : Int} {x2 : Int} {s : (List UInt8) × Int} {o : (List UInt8)} (h : W_ref01_Put_0 x1 x2 s = some o) :
    rk (tabOf p) f_ref01_Put 0 [.bl 0, .sq (.keep [0] c_ref01_Put_1)] (X (tabOf p) (.lp 0 [0, 1, 2, 7] c_ref01_Put_0) ⟨[(0, .p (.s s.1)), (1, .p (.i .i64 x1)), (2, .p (.i .i64 x2)), (7, .p (.i .i64 s.2))], []⟩) = d_ref01_Put o := by
  have h0 : whileO (fun s => S_ref01_Put_0 x1 x2 s.1 s.2) s = some o := h
  exact while_ind (P := fun (s : (List UInt8) × Int) (o : (List UInt8)) => rk (tabOf p) f_ref01_Put 0 [.bl 0, .sq (.keep [0] c_ref01_Put_1)] (X (tabOf p) (.lp 0 [0, 1, 2, 7] c_ref01_Put_0) ⟨[(0, .p (.s s.1)), (1, .p (.i .i64 x1)), (2, .p (.i .i64 x2)), (7, .p (.i .i64 s.2))], []⟩) = d_ref01_Put o) (fun s r hs => by rw [rk_lp]; exact e_ref01_Put_0 p hs) (fun s s1 r hs ih => by rw [rk_lp]; exact (e_ref01_Put_0 p hs).trans ih) h0

def S_ref01_Put (x0 : List UInt8) (x1 : Int) (x2 : Int) : Option ((List UInt8)) :=
  if (decide (x2 < 1)) then
    some x0
  else
    if (decide (x2 > 8)) then
      some x0
    else
      W_ref01_Put_0 x1 x2 (x0, 0)

theorem e_ref01_Put_top {x0 : List UInt8} {x1 : Int} {x2 : Int} {o : (List UInt8)} (h : S_ref01_Put x0 x1 x2 = some o) :
    rk (tabOf p) f_ref01_Put 0 [] (X (tabOf p) c_ref01_Put ⟨[(0, .p (.s x0)), (1, .p (.i .i64 x1)), (2, .p (.i .i64 x2))], []⟩) = d_ref01_Put o := by
  unfold S_ref01_Put at h
  rcases ite_inv h with ⟨h1, h⟩ | ⟨h1, h⟩
  · obtain rfl := sj h
    try simp only [↓Da, Ua, c_ref01_Put, z_ref01_Put, *, ↓reduceIte, Nat.reduceEqDiff, Nat.reduceAdd, Nat.reduceLT, Nat.reduceMul]
    rfl
  · try simp only [↓Da, Ua, c_ref01_Put, *, ↓reduceIte, Nat.reduceEqDiff, Nat.reduceAdd, Nat.reduceLT, Nat.reduceMul]
    rcases ite_inv h with ⟨h2, h⟩ | ⟨h2, h⟩
    · obtain rfl := sj h
      try simp only [↓Da, Ua, c_ref01_Put, z_ref01_Put, *, ↓reduceIte, Nat.reduceEqDiff, Nat.reduceAdd, Nat.reduceLT, Nat.reduceMul]
      rfl
    · try simp only [↓Da, Ua, c_ref01_Put, *, ↓reduceIte, Nat.reduceEqDiff, Nat.reduceAdd, Nat.reduceLT, Nat.reduceMul]
      have e0 := e_ref01_Put_0_w p h
      exact e0


theorem e_ref01_Put {x0 : List UInt8} {x1 : Int} {x2 : Int} {o : (List UInt8)} (h : S_ref01_Put x0 x1 x2 = some o) : AF (tabOf p) i_ref01_Put [.p (.s x0), .p (.i .i64 x1), .p (.i .i64 x2)] [] = d_ref01_Put o :=
  (AF_rk (tabOf p) (t_ref01_Put p) rfl).trans (e_ref01_Put_top p h)

theorem q_ref01_Put {x0 : List UInt8} {x1 : Int} {x2 : Int} {o : (List UInt8)} (h : S_ref01_Put x0 x1 x2 = some o) : ∀ ws new st, (callR2 (AF (tabOf p)) i_ref01_Put ([.p (.s x0), .p (.i .i64 x1), .p (.i .i64 x2)], ws) 0 new).run st = some ⟨.p (.s o), ws⟩ := callR2_plain rfl (e_ref01_Put p h) rfl

/-! pagemend/codec.Get -/

def d_codec_Get  (r : Int × Int) : Option Res := some (.tup [.p (.i .i64 r.1), .p (.i .i64 r.2)], [])

def d_codec_Get_0 (x0 : List UInt8) (x1 : Int) (x34 : Int) (o : (Int × Int) ⊕ (Int × Int)) : Option Res := match o with
  | .inl s => rk (tabOf p) f_codec_Get 0 [.bl 1, .sq (.keep [8] c_codec_Get_1)] (X (tabOf p) (.lp 0 [0, 1, 8, 34, 35] c_codec_Get_0) ⟨[(0, .p (.s x0)), (1, .p (.i .i64 x1)), (8, .p (.i .u64 s.1)), (34, .p (.i .i64 x34)), (35, .p (.i .i64 s.2))], []⟩)
  | .inr o => d_codec_Get o

def S_codec_Get_1 (x8 : Int) : Option (Int × Int) :=
  some ((IntKind.wrap .i64 x8), 0)

theorem e_codec_Get_1 {x8 : Int} {o : Int × Int} (h : S_codec_Get_1 x8 = some o) :
    rk (tabOf p) f_codec_Get 0 [] (X (tabOf p) c_codec_Get_1 ⟨[(8, .p (.i .u64 x8))], []⟩) = d_codec_Get o := by
  unfold S_codec_Get_1 at h
  obtain rfl := sj h
  try simp only [↓Da, Ua, c_codec_Get_1, z_codec_Get, ↓reduceIte, Nat.reduceEqDiff, Nat.reduceAdd, Nat.reduceLT, Nat.reduceMul]
  rfl


def S_codec_Get_0 (x0 : List UInt8) (x1 : Int) (x34 : Int) (x8 : Int) (x35 : Int) : Option (((Int × Int) ⊕ (Int × Int))) :=
  if (decide (x35 < x34)) then
    Option.bind (sidS x0 (IntKind.wrap .i64 (x1 + x35))) fun c2 =>
    Option.bind (shlS .u64 (IntKind.wrap .u64 c2) (IntKind.wrap .i64 (8 * x35))) fun q4 =>
    some (.inl ((orI .u64 x8 q4), (IntKind.wrap .i64 (x35 + 1))))
  else
    Option.map (fun o => .inr o) (S_codec_Get_1 x8)

theorem e_codec_Get_0 {x0 : List UInt8} {x1 : Int} {x34 : Int} {x8 : Int} {x35 : Int} {o : ((Int × Int) ⊕ (Int × Int))} (h : S_codec_Get_0 x0 x1 x34 x8 x35 = some o) :
    rk (tabOf p) f_codec_Get 0 [.lo 0 [0, 1, 8, 34, 35] c_codec_Get_0, .bl 1, .sq (.keep [8] c_codec_Get_1)] (X (tabOf p) c_codec_Get_0 ⟨[(0, .p (.s x0)), (1, .p (.i .i64 x1)), (8, .p (.i .u64 x8)), (34, .p (.i .i64 x34)), (35, .p (.i .i64 x35))], []⟩) = (d_codec_Get_0 p x0 x1 x34) o := by
  unfold S_codec_Get_0 at h
  rcases ite_inv h with ⟨h1, h⟩ | ⟨h1, h⟩
  · obtain ⟨c2, h3, h⟩ := bi h
    obtain ⟨q4, h5, h⟩ := bi h
    obtain rfl := sj h
    try simp only [↓Da, Ua, c_codec_Get_0, *, ↓reduceIte, Nat.reduceEqDiff, Nat.reduceAdd, Nat.reduceLT, Nat.reduceMul]
    rfl
  · obtain ⟨o', h', rfl⟩ := mi h
    try simp only [↓Da, Ua, c_codec_Get_0, *, ↓reduceIte, Nat.reduceEqDiff, Nat.reduceAdd, Nat.reduceLT, Nat.reduceMul]
    have e0 := e_codec_Get_1 p h'
    exact e0


def W_codec_Get_0 (x0 : List UInt8) (x1 : Int) (x34 : Int) (s : Int × Int) : Option (Int × Int) :=
  whileO (fun s => S_codec_Get_0 x0 x1 x34 s.1 s.2) s

theorem e_codec_Get_0_w {x0 : List UInt8} {x1 : Int} {x34 : Int} {s : Int × Int} {o : Int × Int} (h : W_codec_Get_0 x0 x1 x34 s = some o) :
    rk (tabOf p) f_codec_Get 0 [.bl 1, .sq (.keep [8] c_codec_Get_1)] (X (tabOf p) (.lp 0 [0, 1, 8, 34, 35] c_codec_Get_0) ⟨[(0, .p (.s x0)), (1, .p (.i .i64 x1)), (8, .p (.i .u64 s.1)), (34, .p (.i .i64 x34)), (35, .p (.i .i64 s.2))], []⟩) = d_codec_Get o := by
  have h0 : whileO (fun s => S_codec_Get_0 x0 x1 x34 s.1 s.2) s = some o := h
  exact while_ind (P := fun (s : Int × Int) (o : Int × Int) => rk (tabOf p) f_codec_Get 0 [.bl 1, .sq (.keep [8] c_codec_Get_1)] (X (tabOf p) (.lp 0 [0, 1, 8, 34, 35] c_codec_Get_0) ⟨[(0, .p (.s x0)), (1, .p (.i .i64 x1)), (8, .p (.i .u64 s.1)), (34, .p (.i .i64 x34)), (35, .p (.i .i64 s.2))], []⟩) = d_codec_Get o) (fun s r hs => by rw [rk_lp]; exact e_codec_Get_0 p hs) (fun s s1 r hs ih => by rw [rk_lp]; exact (e_codec_Get_0 p hs).trans ih) h0

def S_codec_Get (x0 : List UInt8) (x1 : Int) (x2 : Int) : Option (Int × Int) :=
  if (decide (x2 < 1)) then
    some (0, 1)
  else
    if (decide (x2 > 8)) then
      some (0, 1)
    else
      if (decide (x1 < 0)) then
        some (0, 1)
      else
        if (decide (x1 > ((List.length x0 : Nat) : Int))) then
          some (0, 5)
        else
          if (decide ((IntKind.wrap .i64 (((List.length x0 : Nat) : Int) - x1)) < x2)) then
            some (0, 5)
          else
            W_codec_Get_0 x0 x1 x2 (0, 0)

theorem e_codec_Get_top {x0 : List UInt8} {x1 : Int} {x2 : Int} {o : Int × Int} (h : S_codec_Get x0 x1 x2 = some o) :
    rk (tabOf p) f_codec_Get 0 [] (X (tabOf p) c_codec_Get ⟨[(0, .p (.s x0)), (1, .p (.i .i64 x1)), (2, .p (.i .i64 x2))], []⟩) = d_codec_Get o := by
  unfold S_codec_Get at h
  rcases ite_inv h with ⟨h1, h⟩ | ⟨h1, h⟩
  · obtain rfl := sj h
    try simp only [↓Da, Ua, c_codec_Get, z_codec_Get, *, ↓reduceIte, Nat.reduceEqDiff, Nat.reduceAdd, Nat.reduceLT, Nat.reduceMul]
    rfl
  · try simp only [↓Da, Ua, c_codec_Get, *, ↓reduceIte, Nat.reduceEqDiff, Nat.reduceAdd, Nat.reduceLT, Nat.reduceMul]
    rcases ite_inv h with ⟨h2, h⟩ | ⟨h2, h⟩
    · obtain rfl := sj h
      try simp only [↓Da, Ua, c_codec_Get, z_codec_Get, *, ↓reduceIte, Nat.reduceEqDiff, Nat.reduceAdd, Nat.reduceLT, Nat.reduceMul]
      rfl
    · try simp only [↓Da, Ua, c_codec_Get, *, ↓reduceIte, Nat.reduceEqDiff, Nat.reduceAdd, Nat.reduceLT, Nat.reduceMul]
      rcases ite_inv h with ⟨h3, h⟩ | ⟨h3, h⟩
      · obtain rfl := sj h
        try simp only [↓Da, Ua, c_codec_Get, z_codec_Get, *, ↓reduceIte, Nat.reduceEqDiff, Nat.reduceAdd, Nat.reduceLT, Nat.reduceMul]
        rfl
      · try simp only [↓Da, Ua, c_codec_Get, *, ↓reduceIte, Nat.reduceEqDiff, Nat.reduceAdd, Nat.reduceLT, Nat.reduceMul]
        rcases ite_inv h with ⟨h4, h⟩ | ⟨h4, h⟩
        · obtain rfl := sj h
          try simp only [↓Da, Ua, c_codec_Get, z_codec_Get, *, ↓reduceIte, Nat.reduceEqDiff, Nat.reduceAdd, Nat.reduceLT, Nat.reduceMul]
          rfl
        · try simp only [↓Da, Ua, c_codec_Get, *, ↓reduceIte, Nat.reduceEqDiff, Nat.reduceAdd, Nat.reduceLT, Nat.reduceMul]
          rcases ite_inv h with ⟨h5, h⟩ | ⟨h5, h⟩
          · obtain rfl := sj h
            try simp only [↓Da, Ua, c_codec_Get, z_codec_Get, *, ↓reduceIte, Nat.reduceEqDiff, Nat.reduceAdd, Nat.reduceLT, Nat.reduceMul]
            rfl
          · try simp only [↓Da, Ua, c_codec_Get, *, ↓reduceIte, Nat.reduceEqDiff, Nat.reduceAdd, Nat.reduceLT, Nat.reduceMul]
            have e0 := e_codec_Get_0_w p h
            exact e0


theorem e_codec_Get {x0 : List UInt8} {x1 : Int} {x2 : Int} {o : Int × Int} (h : S_codec_Get x0 x1 x2 = some o) : AF (tabOf p) i_codec_Get [.p (.s x0), .p (.i .i64 x1), .p (.i .i64 x2)] [] = d_codec_Get o :=
  (AF_rk (tabOf p) (t_codec_Get p) rfl).trans (e_codec_Get_top p h)

theorem q_codec_Get {x0 : List UInt8} {x1 : Int} {x2 : Int} {o : Int × Int} (h : S_codec_Get x0 x1 x2 = some o) : ∀ ws new st, (callR2 (AF (tabOf p)) i_codec_Get ([.p (.s x0), .p (.i .i64 x1), .p (.i .i64 x2)], ws) 0 new).run st = some ⟨.tup [.p (.i .i64 o.1), .p (.i .i64 o.2)], ws⟩ := callR2_plain rfl (e_codec_Get p h) rfl

/-! pagemend/pagemendref01.Get -/

def d_ref01_Get  (r : Int × Int) : Option Res := some (.tup [.p (.i .i64 r.1), .p (.i .i64 r.2)], [])

def d_ref01_Get_0 (x0 : List UInt8) (x1 : Int) (x2 : Int) (o : (Int × Int) ⊕ (Int × Int)) : Option Res := match o with
  | .inl s => rk (tabOf p) f_ref01_Get 0 [.bl 0, .sq (.keep [8] c_ref01_Get_1)] (X (tabOf p) (.lp 0 [0, 1, 2, 8, 9] c_ref01_Get_0) ⟨[(0, .p (.s x0)), (1, .p (.i .i64 x1)), (2, .p (.i .i64 x2)), (8, .p (.i .u64 s.1)), (9, .p (.i .i64 s.2))], []⟩)
  | .inr o => d_ref01_Get o

def S_ref01_Get_1 (x8 : Int) : Option (Int × Int) :=
  some ((IntKind.wrap .i64 x8), 0)

theorem e_ref01_Get_1 {x8 : Int} {o : Int × Int} (h : S_ref01_Get_1 x8 = some o) :
    rk (tabOf p) f_ref01_Get 0 [] (X (tabOf p) c_ref01_Get_1 ⟨[(8, .p (.i .u64 x8))], []⟩) = d_ref01_Get o := by
  unfold S_ref01_Get_1 at h
  obtain rfl := sj h
  try simp only [↓Da, Ua, c_ref01_Get_1, z_ref01_Get, ↓reduceIte, Nat.reduceEqDiff, Nat.reduceAdd, Nat.reduceLT, Nat.reduceMul]
  rfl


def S_ref01_Get_0 (x0 : List UInt8) (x1 : Int) (x2 : Int) (x8 : Int) (x9 : Int) : Option (((Int × Int) ⊕ (Int × Int))) :=
  if (decide (x9 < x2)) then
    Option.bind (sidS x0 (IntKind.wrap .i64 (x1 + x9))) fun c2 =>
    Option.bind (shlS .u64 (IntKind.wrap .u64 c2) (IntKind.wrap .u64 (IntKind.wrap .i64 (8 * x9)))) fun q4 =>
    some (.inl ((orI .u64 x8 q4), (IntKind.wrap .i64 (x9 + 1))))
  else
    Option.map (fun o => .inr o) (S_ref01_Get_1 x8)

theorem e_ref01_Get_0 {x0 : List UInt8} {x1 : Int} {x2 : Int} {x8 : Int} {x9 : Int} {o : ((Int × Int) ⊕ (Int × Int))} (h : S_ref01_Get_0 x0 x1 x2 x8 x9 = some o) :
    rk (tabOf p) f_ref01_Get 0 [.lo 0 [0, 1, 2, 8, 9] c_ref01_Get_0, .bl 0, .sq (.keep [8] c_ref01_Get_1)] (X (tabOf p) c_ref01_Get_0 ⟨[(0, .p (.s x0)), (1, .p (.i .i64 x1)), (2, .p (.i .i64 x2)), (8, .p (.i .u64 x8)), (9, .p (.i .i64 x9))], []⟩) = (d_ref01_Get_0 p x0 x1 x2) o := by
  unfold S_ref01_Get_0 at h
  rcases ite_inv h with ⟨h1, h⟩ | ⟨h1, h⟩
  · obtain ⟨c2, h3, h⟩ := bi h
    obtain ⟨q4, h5, h⟩ := bi h
    obtain rfl := sj h
    try simp only [↓Da, Ua, c_ref01_Get_0, *, ↓reduceIte, Nat.reduceEqDiff, Nat.reduceAdd, Nat.reduceLT, Nat.reduceMul]
    rfl
  · obtain ⟨o', h', rfl⟩ := mi h
    try simp only [↓Da, Ua, c_ref01_Get_0, *, ↓reduceIte, Nat.reduceEqDiff, Nat.reduceAdd, Nat.reduceLT, Nat.reduceMul]
    have e0 := e_ref01_Get_1 p h'
    exact e0


def W_ref01_Get_0 (x0 : List UInt8) (x1 : Int) (x2 : Int) (s : Int × Int) : Option (Int × Int) :=
  whileO (fun s => S_ref01_Get_0 x0 x1 x2 s.1 s.2) s

theorem e_ref01_Get_0_w {x0 : List UInt8} {x1 : Int} {x2 : Int} {s : Int × Int} {o : Int × Int} (h : W_ref01_Get_0 x0 x1 x2 s = some o) :
    rk (tabOf p) f_ref01_Get 0 [.bl 0, .sq (.keep [8] c_ref01_Get_1)] (X (tabOf p) (.lp 0 [0, 1, 2, 8, 9] c_ref01_Get_0) ⟨[(0, .p (.s x0)), (1, .p (.i .i64 x1)), (2, .p (.i .i64 x2)), (8, .p (.i .u64 s.1)), (9, .p (.i .i64 s.2))], []⟩) = d_ref01_Get o := by
  have h0 : whileO (fun s => S_ref01_Get_0 x0 x1 x2 s.1 s.2) s = some o := h
  exact while_ind (P := fun (s : Int × Int) (o : Int × Int) => rk (tabOf p) f_ref01_Get 0 [.bl 0, .sq (.keep [8] c_ref01_Get_1)] (X (tabOf p) (.lp 0 [0, 1, 2, 8, 9] c_ref01_Get_0) ⟨[(0, .p (.s x0)), (1, .p (.i .i64 x1)), (2, .p (.i .i64 x2)), (8, .p (.i .u64 s.1)), (9, .p (.i .i64 s.2))], []⟩) = d_ref01_Get o) (fun s r hs => by rw [rk_lp]; exact e_ref01_Get_0 p hs) (fun s s1 r hs ih => by rw [rk_lp]; exact (e_ref01_Get_0 p hs).trans ih) h0

def S_ref01_Get (x0 : List UInt8) (x1 : Int) (x2 : Int) : Option (Int × Int) :=
  if (decide (x2 < 1)) then
    some (0, 1)
  else
    if (decide (x2 > 8)) then
      some (0, 1)
    else
      if (decide (x1 < 0)) then
        some (0, 1)
      else
        if (decide (x1 > ((List.length x0 : Nat) : Int))) then
          some (0, 5)
        else
          if (decide ((IntKind.wrap .i64 (((List.length x0 : Nat) : Int) - x1)) < x2)) then
            some (0, 5)
          else
            W_ref01_Get_0 x0 x1 x2 (0, 0)

theorem e_ref01_Get_top {x0 : List UInt8} {x1 : Int} {x2 : Int} {o : Int × Int} (h : S_ref01_Get x0 x1 x2 = some o) :
    rk (tabOf p) f_ref01_Get 0 [] (X (tabOf p) c_ref01_Get ⟨[(0, .p (.s x0)), (1, .p (.i .i64 x1)), (2, .p (.i .i64 x2))], []⟩) = d_ref01_Get o := by
  unfold S_ref01_Get at h
  rcases ite_inv h with ⟨h1, h⟩ | ⟨h1, h⟩
  · obtain rfl := sj h
    try simp only [↓Da, Ua, c_ref01_Get, z_ref01_Get, *, ↓reduceIte, Nat.reduceEqDiff, Nat.reduceAdd, Nat.reduceLT, Nat.reduceMul]
    rfl
  · try simp only [↓Da, Ua, c_ref01_Get, *, ↓reduceIte, Nat.reduceEqDiff, Nat.reduceAdd, Nat.reduceLT, Nat.reduceMul]
    rcases ite_inv h with ⟨h2, h⟩ | ⟨h2, h⟩
    · obtain rfl := sj h
      try simp only [↓Da, Ua, c_ref01_Get, z_ref01_Get, *, ↓reduceIte, Nat.reduceEqDiff, Nat.reduceAdd, Nat.reduceLT, Nat.reduceMul]
      rfl
    · try simp only [↓Da, Ua, c_ref01_Get, *, ↓reduceIte, Nat.reduceEqDiff, Nat.reduceAdd, Nat.reduceLT, Nat.reduceMul]
      rcases ite_inv h with ⟨h3, h⟩ | ⟨h3, h⟩
      · obtain rfl := sj h
        try simp only [↓Da, Ua, c_ref01_Get, z_ref01_Get, *, ↓reduceIte, Nat.reduceEqDiff, Nat.reduceAdd, Nat.reduceLT, Nat.reduceMul]
        rfl
      · try simp only [↓Da, Ua, c_ref01_Get, *, ↓reduceIte, Nat.reduceEqDiff, Nat.reduceAdd, Nat.reduceLT, Nat.reduceMul]
        rcases ite_inv h with ⟨h4, h⟩ | ⟨h4, h⟩
        · obtain rfl := sj h
          try simp only [↓Da, Ua, c_ref01_Get, z_ref01_Get, *, ↓reduceIte, Nat.reduceEqDiff, Nat.reduceAdd, Nat.reduceLT, Nat.reduceMul]
          rfl
        · try simp only [↓Da, Ua, c_ref01_Get, *, ↓reduceIte, Nat.reduceEqDiff, Nat.reduceAdd, Nat.reduceLT, Nat.reduceMul]
          rcases ite_inv h with ⟨h5, h⟩ | ⟨h5, h⟩
          · obtain rfl := sj h
            try simp only [↓Da, Ua, c_ref01_Get, z_ref01_Get, *, ↓reduceIte, Nat.reduceEqDiff, Nat.reduceAdd, Nat.reduceLT, Nat.reduceMul]
            rfl
          · try simp only [↓Da, Ua, c_ref01_Get, *, ↓reduceIte, Nat.reduceEqDiff, Nat.reduceAdd, Nat.reduceLT, Nat.reduceMul]
            have e0 := e_ref01_Get_0_w p h
            exact e0


theorem e_ref01_Get {x0 : List UInt8} {x1 : Int} {x2 : Int} {o : Int × Int} (h : S_ref01_Get x0 x1 x2 = some o) : AF (tabOf p) i_ref01_Get [.p (.s x0), .p (.i .i64 x1), .p (.i .i64 x2)] [] = d_ref01_Get o :=
  (AF_rk (tabOf p) (t_ref01_Get p) rfl).trans (e_ref01_Get_top p h)

theorem q_ref01_Get {x0 : List UInt8} {x1 : Int} {x2 : Int} {o : Int × Int} (h : S_ref01_Get x0 x1 x2 = some o) : ∀ ws new st, (callR2 (AF (tabOf p)) i_ref01_Get ([.p (.s x0), .p (.i .i64 x1), .p (.i .i64 x2)], ws) 0 new).run st = some ⟨.tup [.p (.i .i64 o.1), .p (.i .i64 o.2)], ws⟩ := callR2_plain rfl (e_ref01_Get p h) rfl


end
end Go.Am
end

