/-
  The abstract machine: what its values and stores mean in a world.
-/
import Derived.Test.YteiakclfpfmigaaAmFix
import Derived.Laws.Sem
set_option linter.unusedSimpArgs false
set_option linter.unusedVariables false
namespace Go.Am

structure Gh where
  μ : Nat → Option (Nat × Nat)
  C : Nat → Nat → Prop

def cellAt (w : World) (r o : Nat) : Option Value :=
  match w.heap[r]? with
  | some (.cells c _ _) => c[o]?
  | _ => none

theorem cell_at (w : World) (r o : Nat) : w.cell? ⟨r, o, none⟩ = cellAt w r o := by
  unfold World.cell? cellAt
  split <;> simp_all

theorem cellAt_of {w : World} {r o : Nat} {c e fz} (h : w.heap[r]? = some (.cells c e fz)) : cellAt w r o = c[o]? := by
  simp [cellAt, h]

inductive RelP (w : World) (C : Nat → Nat → Prop) : PV → Value → Prop where
  | b (x : Bool) : RelP w C (.b x) (.bool x)
  | i (k : IntKind) (n : Int) : RelP w C (.i k n) (.int k n)
  | s (l : List UInt8) : RelP w C (.s l) (.string ⟨l.toArray⟩)
  | np : RelP w C .np (.pointer none)
  | nf : RelP w C .nf .nilFunc
  | sl0 (esz : Nat) (a : Option Addr) (cap : Nat) : RelP w C (.sl esz []) (.slice a 0 cap)
  | sl (esz : Nat) (rows : List (List PV)) (r o cap : Nat) (vals : Nat → Nat → Value) :
      rows.length ≤ cap → (∀ row ∈ rows, row.length = esz) →
      (∀ (i j : Nat) row x, rows[i]? = some row → row[j]? = some x → C r (o + i * esz + j) ∧ cellAt w r (o + i * esz + j) = some (vals i j)) →
      (∀ (i j : Nat) row x, rows[i]? = some row → row[j]? = some x → RelP w C x (vals i j)) →
      RelP w C (.sl esz rows) (.slice (some ⟨r, o, none⟩) rows.length cap)

structure Sn where
  σ : List Blk
  g : Gh
  w : World

def IsBox (σ : List Blk) (b : Nat) : Prop := ∃ cs, σ[b]? = some (.box cs)

def SlOk (s : Sn) (b esz i n : Nat) (v : Value) : Prop :=
  (s.g.μ b = none ∧ i = 0 ∧ n = 0 ∧ v = .slice none 0 0) ∨
  ∃ r cap c e fz, s.g.μ b = some (r, 0) ∧ v = .slice (some ⟨r, i * esz, none⟩) n cap ∧ n ≤ cap ∧ s.w.heap[r]? = some (.cells c e fz) ∧ (i + cap) * esz ≤ c.size

inductive RelA (s : Sn) : AV → Value → Prop where
  | p (c v) : RelP s.w s.g.C c v → RelA s (.p c) v
  | data (cs : List PV) (vs : Array Value) : cs.length = vs.size → (∀ (i : Nat) x v, cs[i]? = some x → vs[i]? = some v → RelP s.w s.g.C x v) → RelA s (.data cs) (.agg vs)
  | agg (cs : List AV) (vs : Array Value) : cs.length = vs.size → (∀ (i : Nat) v, vs[i]? = some v → v.oneCell' = true) → (∀ (i : Nat) x v, cs[i]? = some x → vs[i]? = some v → RelA s x v) → RelA s (.agg cs) (.agg vs)
  | tup (cs : List AV) (vs : Array Value) : cs.length = vs.size → (∀ (i : Nat) x v, cs[i]? = some x → vs[i]? = some v → RelA s x v) → RelA s (.tup cs) (.tuple vs)
  | ptr (b off r o) : s.g.μ b = some (r, o) → IsBox s.σ b → RelA s (.ptr b off) (.pointer (some ⟨r, o + off, none⟩))
  | cp (cs : List PV) (off r o : Nat) (vals : Nat → Value) :
      (∀ (j : Nat) x, cs[j]? = some x → s.g.C r (o + j) ∧ cellAt s.w r (o + j) = some (vals j)) →
      (∀ (j : Nat) x, cs[j]? = some x → RelP s.w s.g.C x (vals j)) → RelA s (.cp cs off) (.pointer (some ⟨r, o + off, none⟩))
  | slr (b i n v wm esz rows) : (∃ a cap, v = .slice a n cap ∧ (n = 0 ∨ a ≠ none)) → s.σ[b]? = some (.arr wm esz rows) → i + n ≤ rows.length → (i + n = rows.length → SlOk s b esz i n v) → RelA s (.slr b i n) v
  | ep (b ext i off v wm esz rows) : (∃ r o, v = .pointer (some ⟨r, o, none⟩)) → s.σ[b]? = some (.arr wm esz rows) → ext ≤ rows.length →
      (ext = rows.length → i < ext → ∃ r, s.g.μ b = some (r, 0) ∧ v = .pointer (some ⟨r, i * esz + off, none⟩)) → RelA s (.ep b ext i off) v
  | fn (f : FuncId) (first caps : List AV) (fs cs : Array Value) : first.length = fs.size → caps.length = cs.size →
      (∀ (i : Nat) x v, first[i]? = some x → fs[i]? = some v → RelA s x v) → (∀ (i : Nat) x v, caps[i]? = some x → cs[i]? = some v → RelA s x v) →
      RelA s (.fn f first caps) (.func (.func f) fs cs)
  | unk (x : Bool) : RelA s .unk (.bool x)

/-- Cells that may be written through block b. -/
def Wr1 (s : Sn) (b r o : Nat) : Prop :=
  match s.σ[b]? with
  | some (.box cs) => ∃ o0, s.g.μ b = some (r, o0) ∧ o0 ≤ o ∧ o < o0 + cs.length
  | some (.arr true _ _) => ∃ o0, s.g.μ b = some (r, o0)
  | some (.arr false esz rows) => ∃ o0, s.g.μ b = some (r, o0) ∧ rows.length * esz ≤ o
  | _ => False

def Wr (s : Sn) (r o : Nat) : Prop := ∃ b, Wr1 s b r o

def Free (fz : Nat × Nat) (a b : Nat) : Prop := ∀ o, a ≤ o → o < b → ¬ (fz.1 ≤ o ∧ o < fz.2)

def BoxOk (s : Sn) (b : Nat) (cs : List AV) : Prop :=
  ∃ r o c e fz, s.g.μ b = some (r, o) ∧ s.w.heap[r]? = some (.cells c e fz) ∧ o + cs.length ≤ c.size ∧
    (∀ (i : Nat) x, cs[i]? = some x → ∃ v, c[o + i]? = some v ∧ RelA s x v ∧ v.oneCell' = true) ∧ Free fz o (o + cs.length)

def ArrOk (s : Sn) (b : Nat) (wm : Bool) (esz : Nat) (rows : List (List PV)) : Prop :=
  (s.g.μ b = none ∧ rows = []) ∨
  ∃ r c e fz, s.g.μ b = some (r, 0) ∧ s.w.heap[r]? = some (.cells c e fz) ∧ (∀ row ∈ rows, row.length = esz) ∧ rows.length * esz ≤ c.size ∧
    (∀ (i j : Nat) row x, rows[i]? = some row → row[j]? = some x → (∃ v, c[i * esz + j]? = some v ∧ RelP s.w s.g.C x v) ∧ (wm = false → s.g.C r (i * esz + j))) ∧
    Free fz 0 c.size

structure Inv (s : Sn) : Prop where
  box : ∀ b cs, s.σ[b]? = some (.box cs) → BoxOk s b cs
  arr : ∀ b wm esz rows, s.σ[b]? = some (.arr wm esz rows) → ArrOk s b wm esz rows
  apart : ∀ b1 b2 r o, Wr1 s b1 r o → Wr1 s b2 r o → b1 = b2
  const : ∀ r o, s.g.C r o → r < s.w.heap.size ∧ ∀ b, ¬ Wr1 s b r o

def Keep (W : Nat → Nat → Prop) (w0 w : World) : Prop :=
  w0.heap.size ≤ w.heap.size ∧
  (∀ (r : Nat) c e fz, w0.heap[r]? = some (.cells c e fz) → ∃ c', w.heap[r]? = some (.cells c' e fz) ∧ c'.size = c.size ∧ ∀ o, ¬ W r o → c'[o]? = c[o]?) ∧
  (∀ (r : Nat) x, w0.heap[r]? = some x → (∀ c e fz, x ≠ .cells c e fz) → w.heap[r]? = some x) ∧ w.os = w0.os ∧ w.output = w0.output

structure Trans (s0 s : Sn) : Prop where
  keep : Keep (Wr s0) s0.w s.w
  cmono : ∀ r o, s0.g.C r o → s.g.C r o
  cnew : ∀ r o, s.g.C r o → s0.g.C r o ∨ Wr s0 r o ∨ s0.w.heap.size ≤ r
  wnew : ∀ r o, Wr s r o → Wr s0 r o ∨ s0.w.heap.size ≤ r
  len : s0.σ.length ≤ s.σ.length
  box : ∀ b cs, s0.σ[b]? = some (.box cs) → (∃ cs', s.σ[b]? = some (.box cs') ∧ cs'.length = cs.length) ∧ s.g.μ b = s0.g.μ b
  arr : ∀ b wm esz rows, s0.σ[b]? = some (.arr wm esz rows) → ∃ wm' rows', s.σ[b]? = some (.arr wm' esz rows') ∧ (wm' = true → wm = true) ∧
    rows.length ≤ rows'.length ∧ (rows'.length = rows.length → s.g.μ b = s0.g.μ b)

theorem Keep.refl (W w) : Keep W w w := ⟨Nat.le_refl _, fun _ c _ _ h => ⟨c, h, rfl, fun _ _ => rfl⟩, fun _ _ h _ => h, rfl, rfl⟩

theorem Keep.mono {W W' : Nat → Nat → Prop} {w0 w} (h : Keep W w0 w) (hw : ∀ r o, W r o → W' r o) : Keep W' w0 w :=
  ⟨h.1, fun r c e fz hr => let ⟨c', a, b, d⟩ := h.2.1 r c e fz hr; ⟨c', a, b, fun o ho => d o fun x => ho (hw _ _ x)⟩, h.2.2⟩

theorem Keep.cell {W w0 w} (h : Keep W w0 w) {r o v} (hn : ¬ W r o) (hv : cellAt w0 r o = some v) : cellAt w r o = some v := by
  unfold cellAt at hv
  split at hv
  · rename_i c e fz hr
    obtain ⟨c', h1, _, h3⟩ := h.2.1 r c e fz hr
    rw [cellAt_of h1, h3 o hn, hv]
  · cases hv

theorem Trans.refl (s : Sn) : Trans s s :=
  ⟨.refl _ _, fun _ _ h => h, fun _ _ h => .inl h, fun _ _ h => .inl h, Nat.le_refl _, fun _ cs h => ⟨⟨cs, h, rfl⟩, rfl⟩,
    fun _ wm _ rows h => ⟨wm, rows, h, id, Nat.le_refl _, fun _ => rfl⟩⟩

theorem lt_of_cells {w : World} {r : Nat} {x : Obj} (h : w.heap[r]? = some x) : r < w.heap.size := by
  rcases Nat.lt_or_ge r w.heap.size with hl | hl
  · exact hl
  · simp [Array.getElem?_eq_none hl] at h

theorem Trans.trans {s0 s1 s2 : Sn} (h : Trans s0 s1) (h' : Trans s1 s2) : Trans s0 s2 where
  keep := by
    refine ⟨Nat.le_trans h.keep.1 h'.keep.1, fun r c e fz hr => ?_, fun r x hr hx => h'.keep.2.2.1 r x (h.keep.2.2.1 r x hr hx) hx, h'.keep.2.2.2.1.trans h.keep.2.2.2.1, h'.keep.2.2.2.2.trans h.keep.2.2.2.2⟩
    obtain ⟨c1, a1, b1, d1⟩ := h.keep.2.1 r c e fz hr
    obtain ⟨c2, a2, b2, d2⟩ := h'.keep.2.1 r c1 e fz a1
    refine ⟨c2, a2, b2.trans b1, fun o ho => (d2 o fun hw => ?_).trans (d1 o ho)⟩
    rcases h.wnew r o hw with hw | hw
    · exact ho hw
    · have := lt_of_cells hr; omega
  cmono r o hc := h'.cmono r o (h.cmono r o hc)
  cnew r o hc := by
    rcases h'.cnew r o hc with hc | hw | hn
    · exact h.cnew r o hc
    · rcases h.wnew r o hw with hw | hn
      · exact .inr (.inl hw)
      · exact .inr (.inr hn)
    · exact .inr (.inr (Nat.le_trans h.keep.1 hn))
  wnew r o hw := by
    rcases h'.wnew r o hw with hw | hn
    · exact h.wnew r o hw
    · exact .inr (Nat.le_trans h.keep.1 hn)
  len := Nat.le_trans h.len h'.len
  box b cs hb := by
    obtain ⟨⟨c1, a1, l1⟩, m1⟩ := h.box b cs hb
    obtain ⟨⟨c2, a2, l2⟩, m2⟩ := h'.box b c1 a1
    exact ⟨⟨c2, a2, l2.trans l1⟩, m2.trans m1⟩
  arr b wm esz rows hb := by
    obtain ⟨wm1, r1, a1, b1, c1, d1⟩ := h.arr b wm esz rows hb
    obtain ⟨wm2, r2, a2, b2, c2, d2⟩ := h'.arr b wm1 esz r1 a1
    exact ⟨wm2, r2, a2, fun e => b1 (b2 e), Nat.le_trans c1 c2, fun e => (d2 (by omega)).trans (d1 (by omega))⟩

theorem Inv.cfix {s0 s : Sn} (hi : Inv s0) (t : Trans s0 s) {r o v} (hc : s0.g.C r o) (hv : cellAt s0.w r o = some v) : cellAt s.w r o = some v :=
  t.keep.cell (fun ⟨b, hb⟩ => (hi.const r o hc).2 b hb) hv

theorem RelP.mono {s0 s : Sn} (hi : Inv s0) (t : Trans s0 s) {x v} (h : RelP s0.w s0.g.C x v) : RelP s.w s.g.C x v := by
  induction h with
  | b x => exact .b x
  | i k n => exact .i k n
  | s l => exact .s l
  | np => exact .np
  | nf => exact .nf
  | sl0 esz a cap => exact .sl0 esz a cap
  | sl esz rows r o cap vals h1 h2 h3 _ ih =>
    exact .sl esz rows r o cap vals h1 h2 (fun i j row x hr hx => ⟨t.cmono _ _ (h3 i j row x hr hx).1, hi.cfix t (h3 i j row x hr hx).1 (h3 i j row x hr hx).2⟩) ih

theorem IsBox.mono {s0 s : Sn} (t : Trans s0 s) {b} (h : IsBox s0.σ b) : IsBox s.σ b := by
  obtain ⟨cs, h⟩ := h
  obtain ⟨⟨cs', h', _⟩, _⟩ := t.box b cs h
  exact ⟨cs', h'⟩

theorem RelA.mono {s0 s : Sn} (hi : Inv s0) (t : Trans s0 s) {x v} (h : RelA s0 x v) : RelA s x v := by
  induction h with
  | p c v h => exact .p c v (h.mono hi t)
  | data cs vs h1 h2 => exact .data cs vs h1 fun i x v hx hv => (h2 i x v hx hv).mono hi t
  | agg cs vs h1 h2 _ ih => exact .agg cs vs h1 h2 ih
  | tup cs vs h1 _ ih => exact .tup cs vs h1 ih
  | ptr b off r o h1 h2 =>
    obtain ⟨cs, h3⟩ := h2
    exact .ptr b off r o ((t.box b cs h3).2.trans h1) (.mono t ⟨cs, h3⟩)
  | cp cs off r o vals h1 h2 => exact .cp cs off r o vals (fun j x hx => ⟨t.cmono _ _ (h1 j x hx).1, hi.cfix t (h1 j x hx).1 (h1 j x hx).2⟩) fun j x hx => (h2 j x hx).mono hi t
  | slr b i n v wm esz rows h0 h1 h2 h3 =>
    obtain ⟨wm', rows', a, _, c, d⟩ := t.arr b wm esz rows h1
    refine .slr b i n v wm' esz rows' h0 a (Nat.le_trans h2 c) fun e => ?_
    have e0 : rows'.length = rows.length := by omega
    rcases h3 (by omega) with ⟨m, hi0, hn, hv⟩ | ⟨r, cap, ce, e1, fz, m, hv, hcap, hh, hs⟩
    · exact .inl ⟨(d e0).trans m, hi0, hn, hv⟩
    · obtain ⟨c', k1, k2, _⟩ := t.keep.2.1 r ce e1 fz hh
      exact .inr ⟨r, cap, c', e1, fz, (d e0).trans m, hv, hcap, k1, by omega⟩
  | ep b ext i off v wm esz rows h0 h1 h2 h3 =>
    obtain ⟨wm', rows', a, _, c, d⟩ := t.arr b wm esz rows h1
    refine .ep b ext i off v wm' esz rows' h0 a (Nat.le_trans h2 c) fun e hlt => ?_
    have e0 : rows'.length = rows.length := by omega
    obtain ⟨r, m, hv⟩ := h3 (by omega) hlt
    exact ⟨r, (d e0).trans m, hv⟩
  | fn f first caps fs cs h1 h2 _ _ ih1 ih2 => exact .fn f first caps fs cs h1 h2 ih1 ih2
  | unk x => exact .unk x

/-- A step that touches the blocks of D alone. -/
theorem inv_of {s0 s : Sn} (hi : Inv s0) (t : Trans s0 s) (D : Nat → Prop)
    (same : ∀ b, ¬ D b → s.σ[b]? = s0.σ[b]? ∧ s.g.μ b = s0.g.μ b)
    (keepU : ∀ b r o v, ¬ D b → Wr1 s0 b r o → cellAt s0.w r o = some v → cellAt s.w r o = some v)
    (boxD : ∀ b cs, D b → s.σ[b]? = some (.box cs) → BoxOk s b cs)
    (arrD : ∀ b wm esz rows, D b → s.σ[b]? = some (.arr wm esz rows) → ArrOk s b wm esz rows)
    (apartD : ∀ b1 b2 r o, D b1 → Wr1 s b1 r o → Wr1 s b2 r o → b1 = b2)
    (constL : ∀ r o, s.g.C r o → r < s.w.heap.size)
    (constD : ∀ r o b, s.g.C r o → D b → ¬ Wr1 s b r o)
    (constU : ∀ r o b, s.g.C r o → ¬ s0.g.C r o → ¬ D b → ¬ Wr1 s0 b r o) : Inv s := by
  have wr : ∀ b r o, ¬ D b → (Wr1 s b r o ↔ Wr1 s0 b r o) := by
    intro b r o hd
    obtain ⟨h1, h2⟩ := same b hd
    unfold Wr1
    rw [h1, h2]
  have cells : ∀ (r : Nat) c e fz, s0.w.heap[r]? = some (.cells c e fz) → ∃ c', s.w.heap[r]? = some (.cells c' e fz) ∧ c'.size = c.size ∧ ∀ o v, cellAt s.w r o = some v → c'[o]? = some v := by
    intro r c e fz hr
    obtain ⟨c', h1, h2, _⟩ := t.keep.2.1 r c e fz hr
    exact ⟨c', h1, h2, fun o v h => by rw [← h, cellAt_of h1]⟩
  refine ⟨?_, ?_, ?_, ?_⟩
  · intro b cs hb
    by_cases hd : D b
    · exact boxD b cs hd hb
    · obtain ⟨h1, h2⟩ := same b hd
      obtain ⟨r, o, c, e, fz, m, hh, hl, hx, hf⟩ := hi.box b cs (h1 ▸ hb)
      obtain ⟨c', k1, k2, k3⟩ := cells r c e fz hh
      refine ⟨r, o, c', e, fz, h2.trans m, k1, by omega, fun i x hix => ?_, hf⟩
      obtain ⟨v, hv, hr, h1v⟩ := hx i x hix
      refine ⟨v, k3 _ _ (keepU b r (o + i) v hd ?_ (by rw [cellAt_of hh]; exact hv)), hr.mono hi t, h1v⟩
      have : i < cs.length := by
        rcases Nat.lt_or_ge i cs.length with h | h
        · exact h
        · simp [List.getElem?_eq_none h] at hix
      have hb0 : s0.σ[b]? = some (.box cs) := h1 ▸ hb
      unfold Wr1
      rw [hb0]
      exact ⟨o, m, by omega, by omega⟩
  · intro b wm esz rows hb
    by_cases hd : D b
    · exact arrD b wm esz rows hd hb
    · obtain ⟨h1, h2⟩ := same b hd
      rcases hi.arr b wm esz rows (h1 ▸ hb) with ⟨m, hr⟩ | ⟨r, c, e, fz, m, hh, hrow, hl, hx, hf⟩
      · exact .inl ⟨h2.trans m, hr⟩
      · obtain ⟨c', k1, k2, k3⟩ := cells r c e fz hh
        refine .inr ⟨r, c', e, fz, h2.trans m, k1, hrow, by omega, fun i j row x hir hjx => ?_, k2 ▸ hf⟩
        obtain ⟨⟨v, hv, hr⟩, hc⟩ := hx i j row x hir hjx
        refine ⟨⟨v, k3 _ _ ?_, hr.mono hi t⟩, fun e => t.cmono _ _ (hc e)⟩
        cases wm with
        | true =>
          refine keepU b r _ v hd ?_ (by rw [cellAt_of hh]; exact hv)
          have hb0 : s0.σ[b]? = some (.arr true esz rows) := h1 ▸ hb
          unfold Wr1
          rw [hb0]
          exact ⟨0, m⟩
        | false => exact hi.cfix t (hc rfl) (by rw [cellAt_of hh]; exact hv)
  · intro b1 b2 r o h1 h2
    by_cases hd1 : D b1
    · exact apartD b1 b2 r o hd1 h1 h2
    · by_cases hd2 : D b2
      · exact (apartD b2 b1 r o hd2 h2 h1).symm
      · exact hi.apart b1 b2 r o ((wr b1 r o hd1).1 h1) ((wr b2 r o hd2).1 h2)
  · intro r o hc
    refine ⟨constL r o hc, fun b hb => ?_⟩
    by_cases hd : D b
    · exact constD r o b hc hd hb
    · by_cases h0 : s0.g.C r o
      · exact (hi.const r o h0).2 b ((wr b r o hd).1 hb)
      · exact constU r o b hc h0 hd ((wr b r o hd).1 hb)

end Go.Am
