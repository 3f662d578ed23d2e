/-
  Parts of a proof.
-/
import Derived.Below
import Derived.Laws.IdiomCopy
import Derived.Lib.SliceRun
import Derived.Test.YtiallbcnaadmoaaM1
import Derived.Test.YtiallbcnaadmoaaM3
import Derived.Test.YtiallbcnaadmoaaM4
import Derived.Test.YtiallbcnaadmoaaM5
set_option linter.unusedSimpArgs false
set_option linter.unusedVariables false
section
set_option linter.unusedSimpArgs false
set_option linter.unusedVariables false
namespace Go.Am
open Go.RowKit
theorem Jnz {σ : List Blk} {g : Gh} {w w' : World} (hi : Inv ⟨σ, g, w⟩) (hb : Below w.heap.size w w') :
    Inv ⟨σ, g, w'⟩ ∧ JY ⟨σ, g, w⟩ ⟨σ, g, w'⟩ := by
  have hk : ∀ (r : Nat) x, w.heap[r]? = some x → w'.heap[r]? = some x := fun r x h => by rw [hb.block r (J1O h)]; exact h
  have hc : ∀ r o v, J0r w r o = some v → J0r w' r o = some v := by
    intro r o v h
    have hr : r < w.heap.size := by
      unfold J0r at h
      split at h
      · rename_i hx; exact J1O hx
      · cases h
    unfold J0r at h ⊢
    rw [hb.block r hr]
    exact h
  have t : JY ⟨σ, g, w⟩ ⟨σ, g, w'⟩ := by
    refine ⟨⟨hb.size, fun r c e fz h => ⟨c, hk r _ h, rfl, fun _ _ => rfl⟩, fun r x h _ => hk r x h, hb.os, hb.output⟩, fun _ _ h => h, fun _ _ h => .inl h, fun r o ⟨b, hb⟩ => .inl ⟨b, hb⟩, Nat.le_refl _, fun _ cs h => ⟨⟨cs, h, rfl⟩, rfl⟩,
      fun _ wm _ rows h => ⟨wm, rows, h, id, Nat.le_refl _, fun _ => rfl⟩⟩
  exact ⟨J9f hi t (fun _ => False) (fun _ _ => ⟨rfl, rfl⟩) (fun _ r o v _ _ h => hc r o v h) (fun _ _ h => h.elim) (fun _ _ _ _ h => h.elim)
    (fun _ _ _ _ h => h.elim) (fun r o h => Nat.lt_of_lt_of_le (hi.const r o h).1 hb.size) (fun _ _ _ _ h => h.elim) (fun _ _ _ h h' => (h' h).elim), t⟩
def JbN : PV → Option Value
  | .b x => some (.bool x)
  | .i k n => some (.int k n)
  | .s l => some (.string ⟨l.toArray⟩)
  | _ => none
theorem Jet {x : PV} {v : Value} (h : JbN x = some v) (w : World) (C : Nat → Nat → Prop) : J07 w C x v := by
  cases x <;> simp only [JbN, Option.some.injEq, reduceCtorEq] at h <;> subst h
  · exact .b _
  · exact .i _ _
  · exact .s _
theorem JpA {x : PV} {v v' : Value} {w : World} {C : Nat → Nat → Prop} (h : J07 w C x v) (hv : JbN x = some v') : v = v' := by
  cases x <;> simp only [JbN, Option.some.injEq, reduceCtorEq] at hv <;> subst hv <;> cases h <;> rfl
theorem Jkp {P : Program} {f : FuncId} {xs : List PV} {vs : List Value} {r : PV} {v : Value} {blks : List Blk}
    (hf : ∃ fn, P.funcs[f]? = some fn ∧ fn.body.isSome = true ∧ (fn.name == "runtime.NumGoroutine") = false)
    (hx : xs.mapM JbN = some vs) (hr : JbN r = some v)
    (hc : ∀ w, Calls P f vs.toArray w fun e w' => e = .returned v ∧ Below w.heap.size w w') :
    J6W P f (xs.map .p) blks (.p r, blks) := by
  refine ⟨hf, fun g w vals hi hl ha => ?_⟩
  have hvals : vals = vs.toArray := by
    have key : ∀ (xs : List PV) (vs vl : List Value), xs.mapM JbN = some vs → xs.length = vl.length →
        (∀ (i : Nat) x v, (xs.map AV.p)[i]? = some x → vl[i]? = some v → Jz ⟨blks, g, w⟩ x v) → vl = vs := by
      intro xs
      induction xs with
      | nil => intro vs vl h1 h2 _; simp at h1 h2; subst h1; exact List.length_eq_zero_iff.1 h2.symm
      | cons x r ih =>
        intro vs vl h1 h2 h3
        simp only [List.mapM_cons, Option.pure_def, Option.bind_eq_bind] at h1
        obtain ⟨v0, hv0, h1⟩ := Option.bind_eq_some_iff.1 h1
        obtain ⟨vr, hvr, h1⟩ := Option.bind_eq_some_iff.1 h1
        simp only [Option.some.injEq] at h1
        subst h1
        cases vl with
        | nil => simp at h2
        | cons u ur =>
          have := h3 0 (.p x) u rfl rfl
          cases this with
          | p _ _ hp =>
            rw [JpA hp hv0, ih vr ur hvr (by simpa using h2) (fun i x v hx hv => h3 (i + 1) x v hx hv)]
    apply Array.ext'
    rw [key xs vs vals.toList hx (by simpa using hl) (fun i x v h1 h2 => ha i x v h1 (by simpa using h2))]
  subst hvals
  refine (hc w).mono ?_
  rintro e w' ⟨rfl, hb⟩
  obtain ⟨hi', t⟩ := Jnz hi hb
  exact ⟨v, g, rfl, hi', t, .p _ _ (Jet hr _ _)⟩
theorem JgZ {T : J5O} {f : FuncId} {g : List AV → List Blk → Option Res} (h : T f = some (.prim g)) (args blks) : AF T f args blks = g args blks := by
  unfold AF JaJ; rw [h]
def Jvz (a : Option AFn) (k : Option JaN) (g q : Option (List AV → List Blk → Option Res)) : Option J8U :=
  match a with
  | some a => some (.fn a)
  | none => match k with
    | some k => some (.fork k)
    | none => match g with
      | some g => some (.prim g)
      | none => q.map .prim
theorem JeE {a : Option AFn} {k : Option JaN} {g q : Option (List AV → List Blk → Option Res)} {e : J8U} (h : Jvz a k g q = some e) :
    (∃ x, a = some x ∧ e = .fn x) ∨ (∃ x, k = some x ∧ e = .fork x) ∨ (∃ x, g = some x ∧ e = .prim x) ∨ (∃ x, q = some x ∧ e = .prim x) := by
  cases a with
  | some a => exact .inl ⟨a, rfl, by injection h with h; exact h.symm⟩
  | none =>
    cases k with
    | some k => exact .inr (.inl ⟨k, rfl, by injection h with h; exact h.symm⟩)
    | none =>
      cases g with
      | some g => exact .inr (.inr (.inl ⟨g, rfl, by injection h with h; exact h.symm⟩))
      | none =>
        cases q with
        | some q => exact .inr (.inr (.inr ⟨q, rfl, by injection h with h; exact h.symm⟩))
        | none => cases h
def JkF (l : List UInt8) (n : Int) : Option (List UInt8) :=
  if 0 ≤ n ∧ n ≤ 9223372036854775807 ∧ l.length * n.toNat ≤ 140737488355328 then some (List.replicate n.toNat l).flatten else none
def Jnv : List AV → List Blk → Option Res
  | [.p (.s l), .p (.i .i64 n)], blks => (JkF l n).map fun r => (.p (.s r), blks)
  | _, _ => none
def Ja6 (n : Int) (i : Nat) : Int := IntKind.wrap .u8 ((IntKind.wrap .u64 n).fdiv (2 ^ (8 * i)))
def J33 (n : Int) (k : Nat) : List UInt8 := toStr ((List.range k).map (Ja6 n))
def Jl3 (l : List UInt8) (n size : Int) : Option (List UInt8) :=
  if size < 1 ∨ 8 < size then some l
  else if l.length + 8 ≤ 140737488355328 then some (l ++ J33 n size.toNat) else none
def JmY : List AV → List Blk → Option Res
  | [.p (.s l), .p (.i .i64 n), .p (.i .i64 k)], blks => (Jl3 l n k).map fun r => (.p (.s r), blks)
  | _, _ => none
theorem Jvd (x : Int) : 0 ≤ IntKind.wrap .u8 x ∧ IntKind.wrap .u8 x < 256 := by
  have h : IntKind.wrap .u8 x = x % 256 := rfl
  rw [h]; omega
theorem JpT (n : Int) (i : Nat) : ((UInt8.ofNat (Ja6 n i).toNat).toNat : Int) = Ja6 n i := by
  have h : 0 ≤ Ja6 n i ∧ Ja6 n i < 256 := Jvd _
  have h2 : (Ja6 n i).toNat < 256 := by omega
  rw [UInt8.toNat_ofNat_of_lt' (by simpa using h2)]
  omega
theorem Jr4 (n : Int) (k : Nat) : J33 n (k + 1) = J33 n k ++ [UInt8.ofNat (Ja6 n k).toNat] := by
  simp [J33, toStr, List.range_succ]
theorem J68 (n : Int) (k : Nat) : (J33 n k).length = k := by simp [J33, toStr]
def Jiv {α : Type} (l : List α) (i j : Int) : Option (List α) :=
  if 0 ≤ i ∧ i ≤ j ∧ j ≤ l.length then some (l.take i.toNat ++ l.drop j.toNat) else none
def JiE (esz : Nat) (zero : List PV) : List AV → List Blk → Option Res
  | [.slr 0 0 n, .p (.i .i64 i), .p (.i .i64 j)], [.arr true e rows] =>
    if e = esz ∧ n = rows.length then (Jiv rows i j).map fun r => (.p (.sl esz r), [.arr false esz (r ++ List.replicate (n - r.length) zero)]) else none
  | _, _ => none
theorem Jv6 {α : Type} (r : α → List PV) (z : α) {esz : Nat} {l o : List α} {i j : Int} (h : Jiv l i j = some o) :
    JiE esz (r z) [.slr 0 0 l.length, .p (.i .i64 i), .p (.i .i64 j)] [.arr true esz (l.map r)] = some (.p (.sl esz (o.map r)), [.arr false esz ((o ++ List.replicate (l.length - o.length) z).map r)]) := by
  unfold Jiv at h
  split at h
  · rename_i hc
    injection h with h
    subst h
    simp [JiE, Jiv, hc, ← List.map_take, ← List.map_drop]
  · cases h
theorem Jqg (x y : Bool) : J0Q [.b] [.b x] [.b y] = some (decide (x = y)) := by
  simp only [J0Q, JeW]
  cases x <;> cases y <;> rfl
theorem Jh8 (k : IntKind) (x y : Int) : J0Q [.i k] [.i k x] [.i k y] = some (decide (x = y)) := by
  by_cases h : x = y <;> simp [J0Q, JeW, h]
theorem Jwv (x y : List UInt8) : J0Q [.s] [.s x] [.s y] = some (decide (x = y)) := by
  by_cases h : x = y <;> simp [J0Q, JeW, h]
theorem J9l {p q : Prop} [Decidable p] [Decidable q] : ∀ {k1 k2 : List KD} {a1 a2 b1 b2 : List PV}, J0Q k1 a1 b1 = some (decide p) → J0Q k2 a2 b2 = some (decide q) → J0Q (k1 ++ k2) (cat a1 a2) (cat b1 b2) = some (decide (p ∧ q)) := by
  have key : ∀ (k1 k2 : List KD) (a1 a2 b1 b2 : List PV) (r s : Bool), J0Q k1 a1 b1 = some r → J0Q k2 a2 b2 = some s → J0Q (k1 ++ k2) (a1 ++ a2) (b1 ++ b2) = some (r && s) := by
    intro k1
    induction k1 with
    | nil =>
      intro k2 a1 a2 b1 b2 r s h1 h2
      cases a1 <;> cases b1 <;> simp [J0Q] at h1
      subst h1
      simpa using h2
    | cons k ks ih =>
      intro k2 a1 a2 b1 b2 r s h1 h2
      cases a1 with
      | nil => simp [J0Q] at h1
      | cons a a1 =>
        cases b1 with
        | nil => simp [J0Q] at h1
        | cons b b1 =>
          simp only [J0Q] at h1
          split at h1
          · rename_i u c hu hc
            injection h1 with h1
            subst h1
            simp only [List.cons_append, J0Q, hu, ih _ _ _ _ _ _ _ hc h2, Bool.and_assoc]
          · cases h1
  intro k1 k2 a1 a2 b1 b2 h1 h2
  rw [key _ _ _ _ _ _ _ _ h1 h2, Bool.decide_and]
theorem JvG {α : Type} [DecidableEq α] {n : Nat} {ks : List KD} {r : α → List PV} (h : ∀ x y, J0Q ks (r x) (r y) = some (decide (x = y))) (v w : Vector α n) :
    J0Q (List.replicate n ks).flatten (J06 r v) (J06 r w) = some (decide (v = w)) := by
  have key : ∀ (l l' : List α), l.length = l'.length → J0Q (List.replicate l.length ks).flatten (l.map r).flatten (l'.map r).flatten = some (decide (l = l')) := by
    intro l
    induction l with
    | nil => intro l' h1; cases l' with
      | nil => simp [J0Q]
      | cons a l' => simp at h1
    | cons a l ih =>
      intro l' h1
      cases l' with
      | nil => simp at h1
      | cons b l' =>
        have h2 := J9l (h a b) (ih l' (by simpa using h1))
        simp only [List.length_cons, List.replicate_succ, List.flatten_cons, List.map_cons]
        rw [show (decide (a :: l = b :: l')) = decide (a = b ∧ l = l') by simp]
        exact h2
  have h3 := key v.toList w.toList (by simp)
  rw [show v.toList.length = n by simp] at h3
  rw [show decide (v = w) = decide (v.toList = w.toList) by
    apply decide_eq_decide.2
    exact ⟨fun e => by rw [e], fun e => Vector.toList_inj.1 e⟩]
  exact h3
end Go.Am
end
section
set_option linter.unusedSimpArgs false
set_option linter.unusedVariables false
namespace Go.Am
variable {P : Program}
theorem Jow (w : World) (t e ty : TypeId) (z : Value) (ht : P.underlying t = some (.slice e)) (hv : ∀ w, (zeroValue e).run P w = .ok z w) (b o n c : Nat) (hn : 0 < n)
    (hc : ∀ j, j < n * z.cells.size → (w.cell? ⟨b, o + j, none⟩).isSome = true) (hf : ∀ j, j < n * z.cells.size → w.frozen? ⟨b, o + j, none⟩ = false) (h1 : ∀ v ∈ (Builtin.zeroCells z.cells n).toList, v.oneCell' = true) :
    (Builtin.clear_ #[t] ty #[.slice (some ⟨b, o, none⟩) n c]).run P w = .ok (.tuple #[]) (w.setCells b o (Builtin.zeroCells z.cells n).toList) := by
  have hl : (Builtin.zeroCells z.cells n).toList.length = n * z.cells.size := by rw [Array.length_toList, size_zeroCells]
  have hst := run_storeCells_cells (P := P) b o (Builtin.zeroCells z.cells n).toList 0 w (by rw [hl]; simpa using hc) (by rw [hl]; simpa using hf) h1
  simp only [Nat.add_zero] at hst
  obtain ⟨m, rfl⟩ : ∃ m, n = m + 1 := ⟨n - 1, by omega⟩
  simp [Builtin.clear_, run_underlying ht, hv, hst]
structure J8t (r : Nat) (c c' : Array Value) (w w' : World) : Prop where
  os : w'.os = w.os
  out : w'.output = w.output
  size : w'.heap.size = w.heap.size
  at_ : ∃ et fz, w.heap[r]? = some (.cells c et fz) ∧ w'.heap[r]? = some (.cells c' et fz)
  csize : c'.size = c.size
  rest : ∀ k, k ≠ r → w'.heap[k]? = w.heap[k]?
theorem Jq5 {r o : Nat} {c : Array Value} {et : TypeId} {fz : Nat × Nat} {w : World} {v : Value} (h : w.heap[r]? = some (.cells c et fz)) (ho : o < c.size) :
    J8t r c (c.setIfInBounds o v) w (w.setCell ⟨r, o, none⟩ v) := by
  have hr : r < w.heap.size := J1O h
  have e : w.heap[r] = .cells c et fz := by
    have := Array.getElem?_eq_getElem hr
    rw [this] at h; injection h
  have hh : (w.setCell ⟨r, o, none⟩ v).heap[r]? = some (.cells (c.setIfInBounds o v) et fz) := by
    simp [World.setCell, Array.getElem?_modify, h]
    try simp [ho]
  exact ⟨rfl, rfl, by simp [World.setCell], ⟨et, fz, h, hh⟩, by simp, fun k hk => by simp [World.setCell, Array.getElem?_modify, Ne.symm hk]⟩
theorem J8t.trans {r : Nat} {c c1 c2 : Array Value} {w w1 w2 : World} (h : J8t r c c1 w w1) (h' : J8t r c1 c2 w1 w2) : J8t r c c2 w w2 := by
  obtain ⟨et, fz, a, b⟩ := h.at_
  obtain ⟨et', fz', a', b'⟩ := h'.at_
  rw [b] at a'
  injection a' with a'
  injection a' with e1 e2 e3
  subst e2 e3
  exact ⟨h'.os.trans h.os, h'.out.trans h.out, h'.size.trans h.size, ⟨et, fz, a, b'⟩, h'.csize.trans h.csize, fun k hk => (h'.rest k hk).trans (h.rest k hk)⟩
theorem JdB {r : Nat} {et : TypeId} {fz : Nat × Nat} : ∀ (vs : List Value) {o : Nat} {c : Array Value} {w : World}, w.heap[r]? = some (.cells c et fz) → o + vs.length ≤ c.size →
    ∃ c', J8t r c c' w (w.setCells r o vs) ∧ ∀ k, c'[k]? = if o ≤ k ∧ k < o + vs.length then vs[k - o]? else c[k]?
  | [], o, c, w, h, _ => ⟨c, ⟨rfl, rfl, rfl, ⟨et, fz, h, h⟩, rfl, fun _ _ => rfl⟩, fun k => by
      rw [if_neg (by simp only [List.length_nil]; omega)]⟩
  | v :: vs, o, c, w, h, hl => by
    have h1 := Jq5 (v := v) h (show o < c.size by simp at hl; omega)
    obtain ⟨et', fz', a, b⟩ := h1.at_
    rw [h] at a
    injection a with a
    injection a with e1 e2 e3
    subst e2 e3
    obtain ⟨c', h2, h3⟩ := JdB vs (o := o + 1) b (by simp at hl ⊢; omega)
    refine ⟨c', h1.trans h2, fun k => ?_⟩
    rw [h3 k]
    by_cases hk : k = o
    · subst hk
      rw [if_neg (by omega), if_pos (by simp), Nat.sub_self, Array.getElem?_setIfInBounds, if_pos rfl, if_pos (by simp at hl; omega)]
      rfl
    · by_cases hr : o + 1 ≤ k ∧ k < o + 1 + vs.length
      · rw [if_pos hr, if_pos (by simp; omega), show k - o = (k - (o + 1)) + 1 by omega]
        simp
      · rw [if_neg hr, if_neg (by simp; omega), Array.getElem?_setIfInBounds, if_neg (Ne.symm hk)]
theorem JnL {g : Gh} {w : World} {esz : Nat} {rows : List (List PV)} {v : Value} (hi : Inv ⟨[.arr true esz rows], g, w⟩) (hv : Jz ⟨[.arr true esz rows], g, w⟩ (.slr 0 0 rows.length) v) (hne : rows ≠ []) :
    ∃ r cap c et fz, v = .slice (some ⟨r, 0, none⟩) rows.length cap ∧ rows.length ≤ cap ∧ cap * esz ≤ c.size ∧ w.heap[r]? = some (.cells c et fz) ∧ Jcf esz fz c.size ∧ (∀ row ∈ rows, row.length = esz) ∧
      (∀ (i j : Nat) row x, rows[i]? = some row → row[j]? = some x → ∃ u, c[i * esz + j]? = some u ∧ J07 w g.C x u) ∧
      ∀ (w' : World) (c' : Array Value) (rows' : List (List PV)), J8t r c c' w w' → rows'.length = rows.length → (∀ row ∈ rows', row.length = esz) →
        (∀ (i j : Nat) row x, rows'[i]? = some row → row[j]? = some x → ∃ u, c'[i * esz + j]? = some u ∧ J07 w g.C x u) →
        Inv ⟨[.arr true esz rows'], g, w'⟩ ∧ JY ⟨[.arr true esz rows], g, w⟩ ⟨[.arr true esz rows'], g, w'⟩ ∧ Jz ⟨[.arr true esz rows'], g, w'⟩ (.slr 0 0 rows.length) v := by
  have hb : (⟨[.arr true esz rows], g, w⟩ : Sn).σ[0]? = some (.arr true esz rows) := rfl
  have harr := hi.arr 0 true esz rows hb
  cases hv with
  | slr _ _ _ _ wm esz' rows' h0 h1 h2 h3 =>
    have h1' : (some (.arr true esz rows) : Option Blk) = some (.arr wm esz' rows') := h1
    injection h1' with h1'
    injection h1' with a1 a2 a3
    subst a1 a2 a3
    rcases h3 (by omega) with ⟨m, _, hn, _⟩ | ⟨r, cap, c, et, fz, m, hv, hcap, hh, hs⟩
    · exact absurd (List.eq_nil_of_length_eq_zero hn) hne
    · rcases harr with ⟨m', _⟩ | ⟨r', c', et', fz', m', hh', hrow, hlen, hx, hf⟩
      · rw [m] at m'; cases m'
      · rw [m] at m'
        injection m' with m'
        injection m' with m' _
        subst m'
        rw [hh] at hh'
        injection hh' with hh'
        injection hh' with w1 w2 w3
        subst w1 w2 w3
        refine ⟨r, cap, c, et, fz, by simpa using hv, hcap, by simpa using hs, hh, hf, hrow, fun i j row x h1 h2 => (hx i j row x h1 h2).1, ?_⟩
        intro w' c' rows' ht hlen' hrow' hx'
        obtain ⟨et', fz', b1, b2⟩ := ht.at_
        have b1 : w.heap[r]? = some (.cells c et' fz') := b1
        have hh : w.heap[r]? = some (.cells c et fz) := hh
        rw [hh] at b1
        injection b1 with b1
        injection b1 with _ w2 w3
        subst w2 w3
        have hself : (⟨[.arr true esz rows'], g, w'⟩ : Sn).σ[0]? = some (.arr true esz rows') := rfl
        have wr : ∀ b r o, Wr1 ⟨[.arr true esz rows'], g, w'⟩ b r o ↔ Wr1 ⟨[.arr true esz rows], g, w⟩ b r o := by
          intro b r o
          unfold Wr1
          match b with
          | 0 => exact Iff.rfl
          | b + 1 => exact Iff.rfl
        have hw0 : ∀ o, Wr1 ⟨[.arr true esz rows], g, w⟩ 0 r o := fun o => ⟨0, m⟩
        have keep : JbL (Wr ⟨[.arr true esz rows], g, w⟩) w w' := by
          refine ⟨by rw [ht.size]; exact Nat.le_refl _, fun r1 c1 e1 fz1 h1 => ?_, fun r1 x h1 hxc => ?_, ht.os, ht.out⟩
          · by_cases hr : r1 = r
            · subst hr
              have h1 : w.heap[r1]? = some (.cells c1 e1 fz1) := h1
              rw [hh] at h1
              injection h1 with h1
              injection h1 with w1 w2 w3
              subst w1 w2 w3
              exact ⟨c', b2, ht.csize, fun o ho => absurd ⟨0, hw0 o⟩ ho⟩
            · exact ⟨c1, by rw [ht.rest r1 hr]; exact h1, rfl, fun _ _ => rfl⟩
          · by_cases hr : r1 = r
            · subst hr
              have h1 : w.heap[r1]? = some x := h1
              rw [hh] at h1
              injection h1 with h1
              exact absurd h1.symm (hxc _ _ _)
            · rw [ht.rest r1 hr]; exact h1
        have t : JY ⟨[.arr true esz rows], g, w⟩ ⟨[.arr true esz rows'], g, w'⟩ := by
          refine ⟨keep, fun _ _ h => h, fun _ _ h => .inl h, fun r o ⟨b, h⟩ => .inl ⟨b, (wr b r o).1 h⟩, Nat.le_refl _, fun b cs h => ?_, fun b wm esz' rw' h => ?_⟩
          · match b with
            | 0 => cases h
            | b + 1 => exact ⟨⟨cs, h, rfl⟩, rfl⟩
          · match b with
            | 0 =>
              have h : (some (.arr true esz rows) : Option Blk) = some (.arr wm esz' rw') := h
              injection h with h
              injection h with a1 a2 a3
              subst a1 a2 a3
              exact ⟨true, rows', rfl, id, by omega, fun _ => rfl⟩
            | b + 1 => exact ⟨wm, rw', h, id, Nat.le_refl _, fun _ => rfl⟩
        have i' : Inv ⟨[.arr true esz rows'], g, w'⟩ := by
          refine J9f hi t (fun b => b = 0) (fun b hne' => ?_) (fun b r o v hne' hw _ => ?_) ?_ ?_ ?_ (fun r o hc => ?_) (fun r o b hc hb hw => ?_) (fun r o b hc hn => absurd hc hn)
          · match b with
            | 0 => exact absurd rfl hne'
            | b + 1 => exact ⟨rfl, rfl⟩
          · match b with
            | 0 => exact absurd rfl hne'
            | b + 1 => exact hw.elim
          · rintro b cs rfl h; cases h
          · rintro b wm esz' rw' rfl h
            have h : (some (.arr true esz rows') : Option Blk) = some (.arr wm esz' rw') := h
            injection h with h
            injection h with a1 a2 a3
            subst a1 a2 a3
            refine .inr ⟨r, c', et, fz, m, b2, hrow', by rw [hlen', ht.csize]; exact hlen, fun i j row x h1 h2 => ?_, by rw [ht.csize]; exact hf⟩
            obtain ⟨u, hu, hr⟩ := hx' i j row x h1 h2
            exact ⟨⟨u, hu, J07.mono (s0 := ⟨[.arr true esz rows], g, w⟩) (s := ⟨[.arr true esz rows'], g, w'⟩) hi t hr⟩, fun h => by cases h⟩
          · rintro b1 b2 r o rfl h1 h2
            exact hi.apart _ _ _ _ ((wr _ _ _).1 h1) ((wr _ _ _).1 h2)
          · have := (hi.const r o hc).1
            show r < w'.heap.size
            rw [ht.size]; exact this
          · exact (hi.const r o hc).2 b ((wr _ _ _).1 hw)
        refine ⟨i', t, ?_⟩
        refine .slr 0 0 _ _ true esz rows' h0 hself (by omega) fun e => .inr ⟨r, cap, c', et, fz, m, hv, hcap, b2, by rw [ht.csize]; exact hs⟩
theorem JlR {z : Value} {n t : Nat} (h : t < n * z.cells.size) : (Builtin.zeroCells z.cells n).toList[t]? = z.cells[t % z.cells.size]? := by
  have hpos : 0 < z.cells.size := by
    rcases Nat.eq_zero_or_pos z.cells.size with h0 | h0
    · rw [h0] at h; omega
    · exact h0
  unfold Builtin.zeroCells
  rw [Array.getElem?_toList, Array.getElem?_map, Array.getElem?_range, if_pos h]
  have hm := Nat.mod_lt t hpos
  simp only [Option.map_some]
  rw [getElem!_pos z.cells _ hm, Array.getElem?_eq_getElem hm]
theorem Jkm {σ : List Blk} {g : Gh} {w : World} {b n m esz cap : Nat} {ad : Option Addr} {rows : List (List PV)} (hi : Inv ⟨σ, g, w⟩) (hb : σ[b]? = some (.arr true esz rows)) (hr : Jz ⟨σ, g, w⟩ (.slr b 0 n) (.slice ad n cap)) (hn : n = rows.length) (hm : m ≤ n) :
    ∃ g', Inv ⟨σ.set b (.arr false esz rows), g', w⟩ ∧ JY ⟨σ, g, w⟩ ⟨σ.set b (.arr false esz rows), g', w⟩ ∧ Jz ⟨σ.set b (.arr false esz rows), g', w⟩ (.p (.sl esz (rows.take m))) (.slice ad m cap) := by
  subst hn
  obtain ⟨g', h1, h2, h3, h4⟩ := JlM hi hr hb (by omega)
  refine ⟨g', h1, h2, .p _ _ ?_⟩
  rw [List.drop_zero] at h4
  obtain ⟨ad', cap', hv, hcap, hrel⟩ := Jnt (s := ⟨σ.set b (.arr false esz rows), g', w⟩) (i := 0) (j := m) h4 (Nat.zero_le _) hm
  injection hv with v1 _ v3
  subst v1 v3
  have e0 : (if cap = 0 then ad else ad.map (·.add (0 * esz))) = ad := by
    split
    · rfl
    · cases ad with
      | none => rfl
      | some ad => cases ad; simp [Addr.add]
  rw [e0] at hrel
  simpa using hrel
theorem Jvw {P : Program} {f : FuncId} {esz : Nat} {zrow : List PV} {zc : Array Value} (hfn : ∃ fn, P.funcs[f]? = some fn ∧ fn.body.isSome = true ∧ (fn.name == "runtime.NumGoroutine") = false) (hpos : 0 < esz) (hzc : zc.size = esz) (hz : zrow.mapM JbN = some zc.toList)
    (hc0 : ∀ (a : Option Addr) (n cap i : Nat), i ≤ n → n ≤ cap → ∀ w : World, Calls P f #[.slice a n cap, .int .i64 i, .int .i64 i] w fun e w' => e = .returned (.slice a n cap) ∧ w' = w)
    (hc1 : ∀ (r n cap i j : Nat), i < j → j ≤ n → n ≤ cap → ∀ (w : World) (news : List Value), news.length = (n - j) * esz → (∀ u ∈ news, u.oneCell' = true) →
      (∀ t u, news[t]? = some u → w.cell? ⟨r, j * esz + t, none⟩ = some u) → (∀ t, t < n * esz → (w.cell? ⟨r, t, none⟩).isSome = true ∧ w.frozen? ⟨r, t, none⟩ = false) →
      ∀ (W1 : World), W1 = w.drew.setCells r (i * esz) news → (∀ t, t < n * esz → (W1.cell? ⟨r, t, none⟩).isSome = true ∧ W1.frozen? ⟨r, t, none⟩ = false) → (∀ v ∈ (Builtin.zeroCells zc (j - i)).toList, v.oneCell' = true) →
      Calls P f #[.slice (some ⟨r, 0, none⟩) n cap, .int .i64 i, .int .i64 j] w fun e w' => e = .returned (.slice (some ⟨r, 0, none⟩) (n - (j - i)) cap) ∧ w' = W1.setCells r ((i + (n - j)) * esz) (Builtin.zeroCells zc (j - i)).toList) :
    ∀ (args : List AV) (blks : List Blk) (r : Res), JiE esz zrow args blks = some r → J6W P f args blks r := by
  intro args blks r h
  unfold JiE at h
  split at h
  case h_2 => cases h
  rename_i n i j e rows
  split at h
  case isFalse => cases h
  rename_i hc
  obtain ⟨rfl, rfl⟩ := hc
  obtain ⟨rr, hd, rfl⟩ := Option.map_eq_some_iff.1 h
  clear h
  unfold Jiv at hd
  split at hd
  case isFalse => cases hd
  rename_i hb
  injection hd with hd
  subst hd
  obtain ⟨i, rfl⟩ : ∃ k : Nat, i = (k : Int) := ⟨i.toNat, by omega⟩
  obtain ⟨j, rfl⟩ : ∃ k : Nat, j = (k : Int) := ⟨j.toNat, by omega⟩
  have hij : i ≤ j := by omega
  have hj : j ≤ rows.length := by omega
  simp only [Int.toNat_natCast]
  refine ⟨hfn, fun g w vals hi hl ha => ?_⟩
  obtain ⟨v0, v1, v2, rfl⟩ : ∃ v0 v1 v2, vals = #[v0, v1, v2] := by
    obtain ⟨l⟩ := vals
    match l, hl with
    | [a, b, c], _ => exact ⟨a, b, c, rfl⟩
  have r0 := ha 0 _ v0 rfl rfl
  have r1 := J4g (ha 1 _ v1 rfl rfl)
  have r2 := J4g (ha 2 _ v2 rfl rfl)
  subst r1 r2
  have hlen : (rows.take i ++ rows.drop j).length = rows.length - (j - i) := by simp; omega
  by_cases heq : i = j
  · subst heq
    have e1 : rows.take i ++ rows.drop i = rows := List.take_append_drop i rows
    obtain ⟨a, cap, hv, hcap⟩ : ∃ a cap, v0 = .slice a rows.length cap ∧ rows.length ≤ cap := by
      cases r0 with
      | slr _ _ _ _ wm esz' rows' h0 h1 h2 h3 =>
        have h1 : (some (.arr true e rows) : Option Blk) = some (.arr wm esz' rows') := h1
        injection h1 with h1
        injection h1 with a1 a2 a3
        subst a1 a2 a3
        rcases h3 (by omega) with ⟨_, _, hn, hv⟩ | ⟨r, cap, c, et, fz, _, hv, hcap, _⟩
        · exact ⟨none, 0, by rw [hv, hn], by omega⟩
        · exact ⟨_, cap, hv, hcap⟩
    subst hv
    refine (hc0 a rows.length cap i hj hcap w).mono ?_
    rintro e' w' ⟨rfl, rfl⟩
    obtain ⟨g', i1, t1, q1⟩ := Jkm (m := rows.length) hi rfl r0 rfl (Nat.le_refl _)
    refine ⟨_, g', rfl, ?_⟩
    rw [e1, Nat.sub_self, List.replicate_zero, List.append_nil]
    rw [List.take_length] at q1
    exact ⟨i1, t1, q1⟩
  · have hlt : i < j := by omega
    have hne : rows ≠ [] := by rintro rfl; simp at hj; omega
    obtain ⟨r, cap, c, et, fz, hv, hcap, hsz, hh, hfz, hrow, hx, fin⟩ := JnL hi r0 hne
    subst hv
    have hall : rows.length * e ≤ c.size := Nat.le_trans (Nat.mul_le_mul_right _ hcap) hsz
    have hcell : ∀ t, t < rows.length * e → ∃ u, c[t]? = some u ∧ u.oneCell' = true := by
      intro t ht
      have hd : t / e < rows.length := (Nat.div_lt_iff_lt_mul hpos).2 ht
      have hm : t % e < e := Nat.mod_lt _ hpos
      have h1 : rows[t / e]? = some rows[t / e] := List.getElem?_eq_getElem hd
      have hl1 := hrow _ (List.getElem_mem hd)
      have h2 : rows[t / e][t % e]? = some (rows[t / e][t % e]'(by omega)) := List.getElem?_eq_getElem _
      obtain ⟨u, hu, hr⟩ := hx _ _ _ _ h1 h2
      rw [show t / e * e + t % e = t by rw [Nat.mul_comm]; exact Nat.div_add_mod t e] at hu
      exact ⟨u, hu, hr.one⟩
    obtain ⟨news, hnews⟩ : ∃ news, news = (c.toList.drop (j * e)).take ((rows.length - j) * e) := ⟨_, rfl⟩
    have hjn : j * e + (rows.length - j) * e = rows.length * e := by rw [← Nat.add_mul]; congr 1; omega
    have hnl : news.length = (rows.length - j) * e := by rw [hnews]; simp; omega
    have hng : ∀ t, t < (rows.length - j) * e → news[t]? = c[j * e + t]? := by
      intro t ht
      rw [hnews, List.getElem?_take, if_pos ht, List.getElem?_drop, Array.getElem?_toList]
    have hcw : ∀ t, w.cell? ⟨r, t, none⟩ = c[t]? := fun t => by rw [J6N, J1X hh]
    have hfw : ∀ t, t < c.size → w.frozen? ⟨r, t, none⟩ = false := fun t ht => by
      have := hfz.1 t (Nat.zero_le _) ht
      simp only [World.frozen?, hh]
      simpa using this
    obtain ⟨c1, t1, q1⟩ := JdB (r := r) news (w := w.drew) (o := i * e) (c := c) hh (by
      have := Nat.mul_le_mul_right e hij
      omega)
    obtain ⟨W1, hW1⟩ : ∃ W1, W1 = w.drew.setCells r (i * e) news := ⟨_, rfl⟩
    rw [← hW1] at t1
    obtain ⟨et1, fz1, b1, b2⟩ := t1.at_
    have hh' : w.drew.heap[r]? = some (.cells c et fz) := hh
    rw [hh'] at b1
    injection b1 with b1
    injection b1 with _ w2 w3
    subst w2 w3
    have hzl : (Builtin.zeroCells zc (j - i)).toList.length = (j - i) * e := by rw [Array.length_toList, size_zeroCells, hzc]
    have hkn : (i + (rows.length - j)) * e + (j - i) * e = rows.length * e := by rw [← Nat.add_mul]; congr 1; omega
    obtain ⟨c2, t2, q2⟩ := JdB (r := r) (Builtin.zeroCells zc (j - i)).toList (w := W1) (o := (i + (rows.length - j)) * e) (c := c1) b2 (by
      rw [hzl, t1.csize]; omega)
    have hzrel : ∀ (k : Nat) (x : PV), zrow[k]? = some x → ∃ u, zc[k]? = some u ∧ J07 w g.C x u ∧ u.oneCell' = true := by
      intro k x hk
      have hk' := Jj hk
      obtain ⟨hl1, hl2⟩ : zc.toList.length = zrow.length ∧ ∀ (k : Nat) (x : PV) (u : Value), zrow[k]? = some x → zc.toList[k]? = some u → JbN x = some u := by
        clear hk hk' hzl q2 t2 hc1 hzc
        generalize zc.toList = zl at hz
        clear zc
        induction zrow generalizing zl with
        | nil => simp at hz; subst hz; exact ⟨rfl, fun k x u h => by simp at h⟩
        | cons y l ih =>
          simp only [List.mapM_cons, Option.pure_def, Option.bind_eq_bind] at hz
          obtain ⟨v0, hv0, hz⟩ := Option.bind_eq_some_iff.1 hz
          obtain ⟨vr, hvr, hz⟩ := Option.bind_eq_some_iff.1 hz
          simp only [Option.some.injEq] at hz
          subst hz
          obtain ⟨a1, a2⟩ := ih _ hvr
          refine ⟨by simp [a1], fun k x u h1 h2 => ?_⟩
          cases k with
          | zero => simp at h1 h2; subst h1 h2; exact hv0
          | succ k => exact a2 k x u (by simpa using h1) (by simpa using h2)
      have hk2 : k < zc.toList.length := by omega
      have h3 := hl2 k x _ hk (List.getElem?_eq_getElem hk2)
      refine ⟨_, by rw [← Array.getElem?_toList]; exact List.getElem?_eq_getElem hk2, Jet h3 w g.C, ?_⟩
      exact (Jet h3 w g.C).one
    have hzlen : zrow.length = e := by
      have hl1 : zc.toList.length = zrow.length := by
        clear hzrel hzl q2 t2 hc1 hzc
        generalize zc.toList = zl at hz
        clear zc
        induction zrow generalizing zl with
        | nil => simp at hz; subst hz; rfl
        | cons y l ih =>
          simp only [List.mapM_cons, Option.pure_def, Option.bind_eq_bind] at hz
          obtain ⟨v0, hv0, hz⟩ := Option.bind_eq_some_iff.1 hz
          obtain ⟨vr, hvr, hz⟩ := Option.bind_eq_some_iff.1 hz
          simp only [Option.some.injEq] at hz
          subst hz
          simp [ih _ hvr]
      rw [← hl1, Array.length_toList, hzc]
    have hzone : ∀ v ∈ (Builtin.zeroCells zc (j - i)).toList, v.oneCell' = true := by
      intro v hv
      obtain ⟨t, ht⟩ := List.getElem?_of_mem hv
      have htl := Jj ht
      rw [hzl] at htl
      have hz0 := JlR (z := .agg zc) (n := j - i) (t := t) (by show t < (j - i) * zc.size; rw [hzc]; exact htl)
      have hz0 : (Builtin.zeroCells zc (j - i)).toList[t]? = zc[t % zc.size]? := hz0
      rw [hz0] at ht
      have hm : t % zc.size < zrow.length := by rw [hzlen, ← hzc]; exact Nat.mod_lt _ (by omega)
      obtain ⟨u, hu, _, h1⟩ := hzrel (t % zc.size) _ (List.getElem?_eq_getElem hm)
      rw [hu] at ht
      injection ht with ht
      exact ht ▸ h1
    refine (hc1 r rows.length cap i j hlt hj hcap w news hnl (fun u hu => ?_) (fun t u hu => ?_) (fun t ht => ?_) W1 hW1 (fun t ht => ?_) hzone).mono ?_
    · obtain ⟨t, ht⟩ := List.getElem?_of_mem hu
      have htl := Jj ht
      rw [hng t (by omega)] at ht
      obtain ⟨u', hu', h1⟩ := hcell (j * e + t) (by omega)
      rw [hu'] at ht
      injection ht with ht
      exact ht ▸ h1
    · have htl := Jj hu
      rw [hcw, ← hng t (by omega)]
      exact hu
    · obtain ⟨u, hu, _⟩ := hcell t ht
      exact ⟨by rw [hcw, hu]; rfl, hfw t (by omega)⟩
    · have hc1w : W1.cell? ⟨r, t, none⟩ = c1[t]? := by rw [J6N, J1X b2]
      refine ⟨?_, ?_⟩
      · rw [hc1w, q1 t]
        split
        · rename_i hr
          rw [hng _ (by omega)]
          obtain ⟨u, hu, _⟩ := hcell (j * e + (t - i * e)) (by omega)
          rw [hu]; rfl
        · obtain ⟨u, hu, _⟩ := hcell t ht
          rw [hu]; rfl
      · have := hfz.1 t (Nat.zero_le _) (by omega)
        simp only [World.frozen?, b2]
        simpa using this
    · rintro e' w' ⟨rfl, rfl⟩
      have tt : J8t r c c2 w (W1.setCells r ((i + (rows.length - j)) * e) (Builtin.zeroCells zc (j - i)).toList) := by
        have t0 : J8t r c c w w.drew := ⟨rfl, rfl, rfl, ⟨et, fz, hh, hh⟩, rfl, fun _ _ => rfl⟩
        exact (t0.trans t1).trans t2
      have hrl : (rows.take i ++ rows.drop j ++ List.replicate (j - i) zrow).length = rows.length := by simp; omega
      obtain ⟨i1, tr1, r1⟩ := fin _ c2 (rows.take i ++ rows.drop j ++ List.replicate (j - i) zrow) tt hrl (fun row hr => by
        rcases List.mem_append.1 hr with hr | hr
        · rcases List.mem_append.1 hr with hr | hr
          · exact hrow row (List.mem_of_mem_take hr)
          · exact hrow row (List.mem_of_mem_drop hr)
        · rw [(List.mem_replicate.1 hr).2]; exact hzlen) (fun a b row x h1 h2 => by
        have hb := Jj h2
        have ha := Jj h1
        rw [hrl] at ha
        rcases J9B h1 with h1 | ⟨hge, h1⟩
        · rcases J9B h1 with h1 | ⟨hge, h1⟩
          · have hai := Jj h1
            rw [List.getElem?_take] at h1
            split at h1
            · rename_i hai
              have hre := hrow row (J0d h1)
              obtain ⟨u, hu, hr⟩ := hx a b row x h1 h2
              refine ⟨u, ?_, hr⟩
              have hlt2 : a * e + b < i * e := J4U hai (by omega)
              have hle : i * e ≤ (i + (rows.length - j)) * e := Nat.mul_le_mul_right _ (by omega)
              rw [q2, if_neg (by omega), q1, if_neg (by omega)]
              exact hu
            · cases h1
          · simp only [List.length_take] at hge h1
            rw [Nat.min_eq_left (by omega)] at hge h1
            rw [List.getElem?_drop] at h1
            have hre := hrow row (J0d h1)
            have hlt1 := Jj h1
            obtain ⟨u, hu, hr⟩ := hx _ b row x h1 h2
            refine ⟨u, ?_, hr⟩
            have h5 : i * e + ((a - i) * e + b) = a * e + b := by rw [← Nat.add_assoc, ← Nat.add_mul]; congr 2; omega
            have h6 : (a - i) * e + b < (rows.length - j) * e := J4U (by omega) (by omega)
            have h7 : (i + (rows.length - j)) * e = i * e + (rows.length - j) * e := Nat.add_mul _ _ _
            have h8 : j * e + ((a - i) * e + b) = (j + (a - i)) * e + b := by rw [← Nat.add_assoc, ← Nat.add_mul]
            rw [q2, if_neg (by omega), q1, if_pos (by rw [hnl]; omega), show a * e + b - i * e = (a - i) * e + b by omega, hng _ h6, h8]
            exact hu
        · have hge' : i + (rows.length - j) ≤ a := by simp at hge; omega
          rw [List.getElem?_replicate] at h1
          split at h1
          · injection h1 with h1
            subst h1
            obtain ⟨u, hu, hr, _⟩ := hzrel b x h2
            refine ⟨u, ?_, hr⟩
            have h5 : (i + (rows.length - j)) * e + ((a - (i + (rows.length - j))) * e + b) = a * e + b := by rw [← Nat.add_assoc, ← Nat.add_mul]; congr 2; omega
            have h6 : (a - (i + (rows.length - j))) * e + b < (j - i) * e := J4U (by omega) (by omega)
            rw [q2, if_pos (by rw [hzl]; omega), show a * e + b - (i + (rows.length - j)) * e = (a - (i + (rows.length - j))) * e + b by omega]
            have hz0 := JlR (z := .agg zc) (n := j - i) (t := (a - (i + (rows.length - j))) * e + b) (by show _ < (j - i) * zc.size; rw [hzc]; exact h6)
            have hz0 : (Builtin.zeroCells zc (j - i)).toList[(a - (i + (rows.length - j))) * e + b]? = zc[((a - (i + (rows.length - j))) * e + b) % zc.size]? := hz0
            rw [hz0, hzc, Nat.mul_comm, Nat.mul_add_mod, Nat.mod_eq_of_lt (by omega)]
            exact hu
          · cases h1)
      have e2 : rows.length - (rows.take i ++ rows.drop j).length = j - i := by rw [hlen]; omega
      obtain ⟨g', i2, tr2, r2⟩ := Jkm (m := rows.length - (j - i)) i1 rfl r1 hrl.symm (by omega)
      refine ⟨_, g', rfl, ?_⟩
      rw [e2]
      have e3 : (rows.take i ++ rows.drop j ++ List.replicate (j - i) zrow).take (rows.length - (j - i)) = rows.take i ++ rows.drop j := by
        rw [← hlen, List.take_left]
      rw [e3] at r2
      exact ⟨i2, tr1.trans tr2, r2⟩
end Go.Am
end
