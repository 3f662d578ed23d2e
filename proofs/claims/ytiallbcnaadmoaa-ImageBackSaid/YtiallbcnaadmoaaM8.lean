/-
  Parts of a proof.
-/
import Derived.Test.YtiallbcnaadmoaaM1
import Derived.Test.YtiallbcnaadmoaaM7
set_option linter.unusedSimpArgs false
set_option linter.unusedVariables false
section
set_option linter.unusedSimpArgs false
set_option linter.unusedVariables false
namespace Go.Am
theorem JoO {s0 : Sn} (hi : Inv s0) {b esz r : Nat} {rows rows' : List (List PV)} {c c' : Array Value} {w' : World} (hb : s0.σ[b]? = some (.arr true esz rows)) (hm : s0.g.μ b = some (r, 0))
  (ht : J52 r c c' s0.w w') (hlen : rows.length ≤ rows'.length) (hrow : ∀ row ∈ rows', row.length = esz) (hsz : rows'.length * esz ≤ c.size)
  (hx : ∀ (i j : Nat) row x, rows'[i]? = some row → row[j]? = some x → ∃ u, c'[i * esz + j]? = some u ∧ JJ s0.w s0.g.C x u) :
  Inv ⟨s0.σ.set b (.arr true esz rows'), s0.g, w'⟩ ∧ JE s0 ⟨s0.σ.set b (.arr true esz rows'), s0.g, w'⟩ := by
 have hself : (s0.σ.set b (.arr true esz rows'))[b]? = some (.arr true esz rows') := J0a hb
 obtain ⟨et, fz, hh, hh'⟩ := ht.at_
 have wr : ∀ b' r' o, Wr1 ⟨s0.σ.set b (.arr true esz rows'), s0.g, w'⟩ b' r' o ↔ Wr1 s0 b' r' o := by
  intro b' r' o
  by_cases e : b' = b
  ·subst e
   unfold Wr1
   simp only [hself, hb]
  ·unfold Wr1
   simp only [JD (Ne.symm e)]
 have wself : ∀ o, Wr1 s0 b r o := by
  intro o
  unfold Wr1
  rw [hb]
  exact ⟨0, hm⟩
 have keep : Jbc (Wr s0) s0.w w' := by
  refine ⟨by rw [ht.size]; exact Nat.le_refl _, fun r1 c1 e1 fz1 h1 => ?_, fun r1 x h1 hxc => ?_, ht.os, ht.out⟩
  ·by_cases hr : r1 = r
   ·subst hr
    rw [hh] at h1
    injection h1 with h1
    injection h1 with w1 w2 w3
    subst w1 w2 w3
    exact ⟨c', hh', ht.csize, fun o ho => absurd ⟨b, wself o⟩ ho⟩
   ·exact ⟨c1, by rw [ht.rest r1 hr]; exact h1, rfl, fun _ _ => rfl⟩
  ·by_cases hr : r1 = r
   ·subst hr
    rw [hh] at h1
    injection h1 with h1
    exact absurd h1.symm (hxc _ _ _)
   ·rw [ht.rest r1 hr]; exact h1
 have t : JE s0 ⟨s0.σ.set b (.arr true esz rows'), s0.g, w'⟩ := by
  refine ⟨keep, fun _ _ h => h, fun _ _ h => .inl h, fun r o ⟨b', h⟩ => .inl ⟨b', (wr b' r o).1 h⟩, by simp, fun b' cs h => ?_, fun b' wm esz' rw' h => ?_⟩
  ·have e : b' ≠ b := by rintro rfl; rw [hb] at h; cases h
   exact ⟨⟨cs, (JD (Ne.symm e)).trans h, rfl⟩, rfl⟩
  ·by_cases e : b' = b
   ·subst e; rw [hb] at h; injection h with h; injection h with h1 h2 h3; subst h1 h2 h3
    exact ⟨true, rows', hself, id, hlen, fun _ => rfl⟩
   ·exact ⟨wm, rw', (JD (Ne.symm e)).trans h, id, Nat.le_refl _, fun _ => rfl⟩
 refine ⟨J7j hi t (fun b' => b' = b) (fun b' hne => ⟨JD (Ne.symm hne), rfl⟩) (fun b' r' k v hne hw hv => ?_) ?_ ?_ ?_ (fun r' o hc => ?_) (fun r' o b' hc hb' hw => ?_) (fun r' o b' hc hn => absurd hc hn), t⟩
 ·by_cases er : r' = r
  ·subst er; exact absurd (hi.apart _ _ _ _ hw (wself k)) hne
  ·unfold JY at hv ⊢
   show (match w'.heap[r']? with | some (.cells c _ _) => c[k]? | _ => none) = some v
   rw [ht.rest r' er]; exact hv
 ·rintro b' cs rfl h
  have h : (s0.σ.set b' (.arr true esz rows'))[b']? = some (.box cs) := h
  rw [hself] at h; cases h
 ·rintro b' wm esz' rw' rfl h
  have h : (s0.σ.set b' (.arr true esz rows'))[b']? = some (.arr wm esz' rw') := h
  rw [hself] at h
  injection h with h
  injection h with a1 a2 a3
  subst a1 a2 a3
  rcases hi.arr _ _ _ _ hb with ⟨m', _⟩ | ⟨r2, c2, et2, fz2, m', hh2, _, _, _, hf⟩
  ·rw [hm] at m'; cases m'
  ·rw [hm] at m'; injection m' with m'; injection m' with m' _; subst m'
   rw [hh] at hh2; injection hh2 with hh2; injection hh2 with q1 q2 q3; subst q1 q2 q3
   refine .inr ⟨r, c', et, fz, hm, hh', hrow, by rw [ht.csize]; exact hsz, fun i j row x h1 h2 => ?_, by rw [ht.csize]; exact hf⟩
   obtain ⟨u, hu, hr⟩ := hx i j row x h1 h2
   exact ⟨⟨u, hu, hr.mono hi t⟩, fun h => by cases h⟩
 ·rintro b1 b2 r o rfl h1 h2
  exact hi.apart _ _ _ _ ((wr _ _ _).1 h1) ((wr _ _ _).1 h2)
 ·have := (hi.const r' o hc).1
  show r' < w'.heap.size
  rw [ht.size]; exact this
 ·exact (hi.const r' o hc).2 b' ((wr _ _ _).1 hw)
theorem JjC {s0 : Sn} (hi : Inv s0) {b esz : Nat} {rows rows' : List (List PV)} {c : Array Value} {e : TypeId} {w' : World}
  (hb : s0.σ[b]? = some (.arr true esz rows)) (hlt : rows.length < rows'.length) (hrows : ∀ row ∈ rows', row.length = esz)
  (hh : w'.heap = s0.w.heap.push (.cells c e (0, 0))) (ho : w'.os = s0.w.os) (hp : w'.output = s0.w.output) (hsize : rows'.length * esz ≤ c.size)
  (hx : ∀ (i j : Nat) row x, rows'[i]? = some row → row[j]? = some x → ∃ u, c[i * esz + j]? = some u ∧ JJ s0.w s0.g.C x u) :
  ∃ g', g'.μ b = some (s0.w.heap.size, 0) ∧ g'.C = s0.g.C ∧ Inv ⟨s0.σ.set b (.arr true esz rows'), g', w'⟩ ∧ JE s0 ⟨s0.σ.set b (.arr true esz rows'), g', w'⟩ := by
 have hself : (s0.σ.set b (.arr true esz rows'))[b]? = some (.arr true esz rows') := J0a hb
 refine ⟨⟨fun b' => if b' = b then some (s0.w.heap.size, 0) else s0.g.μ b', s0.g.C⟩, if_pos rfl, rfl, ?_⟩
 generalize hs : (⟨s0.σ.set b (.arr true esz rows'), _, w'⟩ : Sn) = s
 have hσ : s.σ = s0.σ.set b (.arr true esz rows') := by rw [← hs]
 have hμ : ∀ b', s.g.μ b' = if b' = b then some (s0.w.heap.size, 0) else s0.g.μ b' := by rw [← hs]; exact fun _ => rfl
 have hC : s.g.C = s0.g.C := by rw [← hs]
 have hw : s.w = w' := by rw [← hs]
 have wr : ∀ b' r' o, b' ≠ b → (Wr1 s b' r' o ↔ Wr1 s0 b' r' o) := by
  intro b' r' o e
  unfold Wr1
  rw [hσ, hμ, if_neg e, JD (Ne.symm e)]
 have wrb : ∀ r' o, Wr1 s b r' o → r' = s0.w.heap.size := by
  intro r' o h
  unfold Wr1 at h
  rw [hσ, hself, hμ, if_pos rfl] at h
  obtain ⟨o0, m⟩ := h; simp at m; exact m.1.symm
 have t : JE s0 s := by
  refine ⟨?_, fun r o h => by rw [hC]; exact h, fun r' o h => .inl (by rw [hC] at h; exact h), fun r o ⟨b', h⟩ => ?_, by rw [hσ]; simp, fun b' cs h => ?_, fun b' wm' esz' rw' h => ?_⟩
  ·rw [hw]; exact JaY hh ho hp
  ·by_cases eb : b' = b
   ·subst eb; exact .inr (Nat.le_of_eq (wrb r o h).symm)
   ·exact .inl ⟨b', (wr b' r o eb).1 h⟩
  ·have eb : b' ≠ b := by rintro rfl; rw [hb] at h; cases h
   exact ⟨⟨cs, by rw [hσ, JD (Ne.symm eb)]; exact h, rfl⟩, by rw [hμ, if_neg eb]⟩
  ·by_cases eb : b' = b
   ·subst eb; rw [hb] at h; injection h with h; injection h with h1 h2 h3; subst h1 h2 h3
    exact ⟨true, rows', by rw [hσ]; exact hself, id, by omega, fun h => by omega⟩
   ·exact ⟨wm', rw', by rw [hσ, JD (Ne.symm eb)]; exact h, id, Nat.le_refl _, fun _ => by rw [hμ, if_neg eb]⟩
 refine ⟨J7j hi t (fun b' => b' = b) (fun b' hn => ⟨by rw [hσ]; exact JD (Ne.symm hn), by rw [hμ, if_neg hn]⟩) (fun b r o v _ _ h => by rw [hw]; exact JcW hh h) ?_ ?_ ?_ ?_ ?_ ?_, t⟩
 ·rintro b' cs rfl h; rw [hσ, hself] at h; cases h
 ·rintro b' wm' esz' rw' rfl h
  rw [hσ, hself] at h; cases h
  refine .inr ⟨s0.w.heap.size, c, e, (0, 0), by rw [hμ, if_pos rfl], by rw [hw]; exact J3J hh, hrows, hsize, ?_, J9W.zero _ _⟩
  intro i j row x hir hjx
  obtain ⟨u, hu, hr⟩ := hx i j row x hir hjx
  exact ⟨⟨u, hu, hr.mono hi t⟩, fun ew => by cases ew⟩
 ·rintro b1 b2 r o rfl h1 h2
  by_cases eb : b2 = b1
  ·exact eb.symm
  ·have := JcC hi _ _ _ ((wr b2 r o eb).1 h2)
   have := wrb r o h1
   omega
 ·intro r' o hc
  rw [hC] at hc
  rw [hw, hh]
  have := (hi.const r' o hc).1; simp; omega
 ·rintro r' o b' hc rfl h
  rw [hC] at hc
  have h1 := wrb _ _ h
  have := (hi.const r' o hc).1; omega
 ·intro r' o b' hc hn hne h
  rw [hC] at hc
  exact hn hc
theorem Jbw {P : Program} (w : World) (dT sT ty elem : TypeId) (sz b o dLen dCap : Nat) (a : Addr) (sLen sCap m : Nat) (cs : List Value)
  (hu : P.underlying dT = some (.slice elem)) (hs : (P.info? elem).map (·.size) = some sz) (hm : m = Nat.min sLen dLen) (hn : cs.length = m * sz)
  (hsrc : ∀ (j : Nat) v, cs[j]? = some v → w.cell? (a.add j) = some v) (hc : ∀ j, j < cs.length → (w.cell? ⟨b, o + j, none⟩).isSome = true) (hf : ∀ j, j < cs.length → w.frozen? ⟨b, o + j, none⟩ = false) (h1 : ∀ v ∈ cs, v.oneCell' = true) :
  (Builtin.copy_ #[dT, sT] ty #[.slice (some ⟨b, o, none⟩) dLen dCap, .slice (some a) sLen sCap]).run P w = .ok (goInt m) (w.setCells b o cs) := by
 have hl := run_loadCells_list (P := P) w a cs hsrc
 have hst := run_storeCells_cells (P := P) b o cs 0 w (by simpa using hc) (by simpa using hf) h1
 cases hq : P.info? elem with
 | none => simp [hq] at hs
 | some i =>
  have hi : i.size = sz := by simpa [hq] using hs
  have hst' : (storeCells ⟨b, o, none⟩ cs).run P w = .ok () (w.setCells b o cs) := by simpa using hst
  simp [Builtin.copy_, run_underlying hu, Builtin.lenOf, Builtin.firstCells, sizeOf, typeInfo, hq, hi, ← hm, ← hn, hl, hst, hst']
def JpL {α : Type} (bytes : Nat) (l : List α) (i : Int) (x : α) : Option (List α) :=
 if 0 ≤ i ∧ i ≤ l.length ∧ J63 (l.length + 1) bytes = true then some (l.take i.toNat ++ x :: l.drop i.toNat) else none
def JpZ (esz bytes : Nat) : List AV → List Blk → Option Res
 | [.slr 0 0 n, .p (.i .i64 i), .slr 1 0 1], [.arr true e rows, .arr true e' [v]] =>
  if e = esz ∧ e' = esz ∧ n = rows.length then (JpL bytes rows i v).map fun r => (.slr 0 0 r.length, [.arr true esz r, .arr true esz [v]]) else none
 | _, _ => none
theorem Jth {α : Type} {l : List α} {i a : Nat} {x y : α} (hi : i ≤ l.length) (h : (l.take i ++ x :: l.drop i)[a]? = some y) :
  (a < i ∧ l[a]? = some y) ∨ (a = i ∧ y = x) ∨ (i < a ∧ l[a - 1]? = some y) := by
 rcases J9K h with h | ⟨hge, h⟩
 ·have := Jb h
  rw [List.getElem?_take] at h
  split at h
  ·rename_i hl; exact .inl ⟨hl, h⟩
  ·cases h
 ·rw [List.length_take, Nat.min_eq_left hi] at hge h
  rcases Nat.eq_or_lt_of_le hge with e | e
  ·subst e
   rw [Nat.sub_self] at h
   exact .inr (.inl ⟨rfl, by simpa using h.symm⟩)
  ·refine .inr (.inr ⟨e, ?_⟩)
   obtain ⟨k, hk⟩ : ∃ k, a - i = k + 1 := ⟨a - i - 1, by omega⟩
   rw [hk, List.getElem?_cons_succ, List.getElem?_drop] at h
   rw [show a - 1 = i + k by omega]
   exact h
theorem J52.push {c0 c' : Array Value} {e : TypeId} {fz : Nat × Nat} {w W0 w' : World} (h0 : W0.heap = w.heap.push (.cells c0 e fz)) (h : J52 w.heap.size c0 c' W0 w') : w'.heap = w.heap.push (.cells c' e fz) := by
 obtain ⟨et, fz', a, b⟩ := h.at_
 rw [h0] at a
 simp only [Array.getElem?_push_size, Option.some.injEq, Obj.cells.injEq, true_and] at a
 obtain ⟨rfl, rfl⟩ := a
 apply Array.ext_getElem?
 intro k
 by_cases hk : k = w.heap.size
 ·subst hk; rw [b]; simp
 ·rw [h.rest k hk, h0, Array.getElem?_push, Array.getElem?_push, if_neg hk, if_neg hk]
structure JoF (P : Program) (f : FuncId) (e B : Nat) : Prop where
 fn : ∃ fn, P.funcs[f]? = some fn ∧ fn.body.isSome = true ∧ (fn.name == "runtime.NumGoroutine") = false
 pos : 0 < e
 shift : ∀ (r n cap i vb vc : Nat) (cs vs : List Value) (w : World) (tA tB : TypeId) (kA kB : Nat), i < n → n + 1 ≤ cap → (n + 1) * B ≤ 140737488355328 → vb ≠ r → cs.length = n * e → vs.length = e →
  (∀ (j : Nat) v, cs[j]? = some v → w.cell? ⟨r, j, none⟩ = some v) → (∀ j, j < (n + 1) * e → (w.cell? ⟨r, j, none⟩).isSome = true) → (∀ j, j < (n + 1) * e → w.frozen? ⟨r, j, none⟩ = false) →
  (∀ (j : Nat) v, vs[j]? = some v → w.cell? ⟨vb, j, none⟩ = some v) → (∀ v ∈ cs, v.oneCell' = true) → (∀ v ∈ vs, v.oneCell' = true) →
  w.shape? vb = some (tA, kA) → w.shape? r = some (tB, kB) → kB ≠ 0 → w.frozen? ⟨vb, 0, none⟩ = false → w.frozen? ⟨vb, kA, none⟩ = false →
  Calls P f #[.slice (some ⟨r, 0, none⟩) n cap, .int .i64 i, .slice (some ⟨vb, 0, none⟩) 1 vc] w fun x w' =>
   x = .returned (.slice (some ⟨r, 0, none⟩) (n + 1) cap) ∧ w' = (w.drew.setCells r ((i + 1) * e) (cs.drop (i * e))).setCells r (i * e) vs
 room : ∀ (r n cap vb vc : Nat) (vs : List Value) (w : World), n + 1 ≤ cap → (n + 1) * B ≤ 140737488355328 → vs.length = e → (∀ j, j < (n + 1) * e → (w.cell? ⟨r, j, none⟩).isSome = true) → (∀ j, j < (n + 1) * e → w.frozen? ⟨r, j, none⟩ = false) →
  (∀ (j : Nat) v, vs[j]? = some v → w.cell? ⟨vb, j, none⟩ = some v) → (∀ v ∈ vs, v.oneCell' = true) →
  Calls P f #[.slice (some ⟨r, 0, none⟩) n cap, .int .i64 n, .slice (some ⟨vb, 0, none⟩) 1 vc] w fun x w' =>
   x = .returned (.slice (some ⟨r, 0, none⟩) (n + 1) cap) ∧ w' = w.setCells r (n * e) vs
 grow : ∀ (base : Option Addr) (n vb vc : Nat) (cs vs : List Value) (w : World), (n + 1) * B ≤ 140737488355328 → cs.length = n * e → vs.length = e → (base = none → n = 0) →
  (∀ a, base = some a → ∀ (j : Nat) v, cs[j]? = some v → w.cell? (a.add j) = some v) →
  (∀ (j : Nat) v, vs[j]? = some v → w.cell? ⟨vb, j, none⟩ = some v) → (∀ v ∈ vs, v.oneCell' = true) →
  Calls P f #[.slice base n n, .int .i64 n, .slice (some ⟨vb, 0, none⟩) 1 vc] w fun x w' => ∃ (G : Nat) (zs : Array Value) (t : TypeId), n + 1 ≤ G ∧ zs.size = (G - (n + 1)) * e ∧
   x = .returned (.slice (some ⟨w.heap.size, 0, none⟩) (n + 1) G) ∧ w' = w.drew.alloc (.cells ((cs ++ vs).toArray ++ zs) t)
 move : ∀ (r n i vb vc : Nat) (cs vs : List Value) (w : World), i < n → (n + 1) * B ≤ 140737488355328 → vb ≠ r → cs.length = n * e → vs.length = e →
  (∀ (j : Nat) v, cs[j]? = some v → w.cell? ⟨r, j, none⟩ = some v) → (∀ (j : Nat) v, vs[j]? = some v → w.cell? ⟨vb, j, none⟩ = some v) → (∀ v ∈ cs, v.oneCell' = true) → (∀ v ∈ vs, v.oneCell' = true) →
  Calls P f #[.slice (some ⟨r, 0, none⟩) n n, .int .i64 i, .slice (some ⟨vb, 0, none⟩) 1 vc] w fun x w' => ∃ (G : Nat) (row : Array Value) (t : TypeId), n + 1 ≤ G ∧ G * e = row.size ∧ (∀ j, j < i * e → row[j]? = cs[j]?) ∧
   x = .returned (.slice (some ⟨w.heap.size, 0, none⟩) (n + 1) G) ∧ w' = (((w.alloc (.cells row t)).drew.setCells w.heap.size (i * e) vs).drew).setCells w.heap.size ((i + 1) * e) (cs.drop (i * e))
theorem JqJ {P : Program} {f : FuncId} {esz B : Nat} (W : JoF P f esz B) (args : List AV) (blks : List Blk) (res : Res) (h : JpZ esz B args blks = some res) (hne : esz ≠ 1) : J74 P f args blks res := by
 unfold JpZ at h
 split at h
 case h_2 => cases h
 rename_i n i e rows e' v
 split at h
 case isFalse => cases h
 rename_i hc
 obtain ⟨rfl, rfl, rfl⟩ := hc
 obtain ⟨rr, hd, rfl⟩ := Option.map_eq_some_iff.1 h
 clear h
 unfold JpL at hd
 split at hd
 case isFalse => cases hd
 rename_i hb
 injection hd with hd
 subst hd
 obtain ⟨i, rfl⟩ : ∃ k : Nat, i = (k : Int) := ⟨i.toNat, by omega⟩
 have hin : i ≤ rows.length := by omega
 have hbig : (rows.length + 1) * B ≤ 140737488355328 := by
  have := hb.2.2
  simp only [J63, decide_eq_true_eq] at this
  rw [Nat.add_mul, Nat.mul_assoc] at this
  omega
 clear hb
 simp only [Int.toNat_natCast]
 have hpos := W.pos
 refine ⟨W.fn, fun g w vals hi hl ha => ?_⟩
 obtain ⟨v0, v1, v2, rfl⟩ : ∃ v0 v1 v2, vals = #[v0, v1, v2] := by
  obtain ⟨l⟩ := vals
  match l, hl with
  | [a, b, c], _ => exact ⟨a, b, c, rfl⟩
 have r0 := ha 0 _ v0 rfl rfl
 have r1 := J4B (ha 1 _ v1 rfl rfl)
 have r2 := ha 2 _ v2 rfl rfl
 subst r1
 clear ha hl
 have hb0 : (⟨[.arr true e' rows, .arr true e' [v]], g, w⟩ : Sn).σ[0]? = some (.arr true e' rows) := rfl
 have hb1 : (⟨[.arr true e' rows, .arr true e' [v]], g, w⟩ : Sn).σ[1]? = some (.arr true e' [v]) := rfl
 obtain ⟨vb, vc, ce, tA, fA, hv2, hmv, hhv, hvrow, hvsz, hvx, hvf⟩ : ∃ vb vc ce tA fA, v2 = .slice (some ⟨vb, 0, none⟩) 1 vc ∧ g.μ 1 = some (vb, 0) ∧ w.heap[vb]? = some (.cells ce tA fA) ∧ v.length = e' ∧ e' ≤ ce.size ∧
   (∀ (j : Nat) x, v[j]? = some x → ∃ u, ce[j]? = some u ∧ JJ w g.C x u) ∧ J9W e' fA ce.size := by
  cases r2 with
  | slr _ _ _ _ wm esz' rows' h0 h1 h2 h3 =>
   have h1' : (some (.arr true e' [v]) : Option Blk) = some (.arr wm esz' rows') := h1
   injection h1' with h1'
   injection h1' with a1 a2 a3
   subst a1 a2 a3
   rcases h3 rfl with ⟨_, _, hn, _⟩ | ⟨r, cap, c, et, fz, m, hv, hcap, hh, hs⟩
   ·cases hn
   ·rcases hi.arr _ _ _ _ hb1 with ⟨m', hx⟩ | ⟨r', c', et', fz', m', hh', hrow, hlen, hx, hf⟩
    ·cases hx
    ·have m : g.μ 1 = some (r, 0) := m
     have m' : g.μ 1 = some (r', 0) := m'
     rw [m] at m'
     injection m' with m'
     injection m' with m' _
     subst m'
     have hh : w.heap[r]? = some (.cells c et fz) := hh
     have hh' : w.heap[r]? = some (.cells c' et' fz') := hh'
     rw [hh] at hh'
     injection hh' with hh'
     injection hh' with w1 w2 w3
     subst w1 w2 w3
     refine ⟨r, cap, c, et, fz, by simpa using hv, m, hh, hrow v (by simp), by simpa using hlen, fun j x hj => ?_, hf⟩
     obtain ⟨u, hu, hr⟩ := (hx 0 j v x rfl hj).1
     exact ⟨u, by simpa using hu, hr⟩
 subst hv2
 obtain ⟨vs, hvs⟩ : ∃ vs, vs = ce.toList.take e' := ⟨_, rfl⟩
 have hvl : vs.length = e' := by rw [hvs]; simp; omega
 have hvg : ∀ j, j < e' → vs[j]? = ce[j]? := fun j hj => by rw [hvs, List.getElem?_take, if_pos hj, Array.getElem?_toList]
 have hvw : ∀ (j : Nat) u, vs[j]? = some u → w.cell? ⟨vb, j, none⟩ = some u := fun j u hu => by
  have := Jb hu
  rw [J55, J1Y hhv, ← hvg j (by omega)]; exact hu
 have hvrel : ∀ (j : Nat) x, v[j]? = some x → ∃ u, vs[j]? = some u ∧ JJ w g.C x u := fun j x hj => by
  have := Jb hj
  obtain ⟨u, hu, hr⟩ := hvx j x hj
  exact ⟨u, by rw [hvg j (by omega)]; exact hu, hr⟩
 have hv1 : ∀ u ∈ vs, u.oneCell' = true := fun u hu => by
  obtain ⟨j, hj⟩ := List.getElem?_of_mem hu
  have hjl := Jb hj
  obtain ⟨u', hu', hr⟩ := hvrel j _ (List.getElem?_eq_getElem (by omega : j < v.length))
  rw [hj] at hu'
  injection hu' with hu'
  exact hu' ▸ hr.one
 have hl' : (rows.take i ++ v :: rows.drop i).length = rows.length + 1 := by simp; omega
 have done : ∀ (w' : World) (g' : Gh) (r cap : Nat), (∃ c et fz, w'.heap[r]? = some (.cells c et fz) ∧ cap * e' ≤ c.size) → g'.μ 0 = some (r, 0) → rows.length + 1 ≤ cap →
   Inv ⟨[.arr true e' (rows.take i ++ v :: rows.drop i), .arr true e' [v]], g', w'⟩ ∧ JE ⟨[.arr true e' rows, .arr true e' [v]], g, w⟩ ⟨[.arr true e' (rows.take i ++ v :: rows.drop i), .arr true e' [v]], g', w'⟩ →
   ∃ u g', Ending.returned (.slice (some ⟨r, 0, none⟩) (rows.length + 1) cap) = .returned u ∧ Inv ⟨[.arr true e' (rows.take i ++ v :: rows.drop i), .arr true e' [v]], g', w'⟩ ∧
    JE ⟨[.arr true e' rows, .arr true e' [v]], g, w⟩ ⟨[.arr true e' (rows.take i ++ v :: rows.drop i), .arr true e' [v]], g', w'⟩ ∧
    Jr ⟨[.arr true e' (rows.take i ++ v :: rows.drop i), .arr true e' [v]], g', w'⟩ (.slr 0 0 (rows.take i ++ v :: rows.drop i).length) u := by
  rintro w' g' r cap ⟨c, et, fz, hh, hsz⟩ hm hcap ⟨i', t'⟩
  refine ⟨_, g', rfl, i', t', .slr 0 0 _ _ true e' (rows.take i ++ v :: rows.drop i) ⟨_, _, by rw [hl'], .inr (by simp)⟩ rfl (by omega) fun _ => .inr ⟨r, cap, c, et, fz, hm, by rw [hl']; simp, by omega, hh, by simpa using hsz⟩⟩
 have hrow1 : ∀ row ∈ rows.take i ++ v :: rows.drop i, (∀ row ∈ rows, row.length = e') → row.length = e' := by
  intro row hr hrows
  rcases List.mem_append.1 hr with hr | hr
  ·exact hrows row (List.mem_of_mem_take hr)
  ·rcases List.mem_cons.1 hr with hr | hr
   ·rw [hr]; exact hvrow
   ·exact hrows row (List.mem_of_mem_drop hr)
 cases r0 with
 | slr _ _ _ _ wm esz' rows' h0 h1 h2 h3 =>
  have h1' : (some (.arr true e' rows) : Option Blk) = some (.arr wm esz' rows') := h1
  injection h1' with h1'
  injection h1' with a1 a2 a3
  subst a1 a2 a3
  rcases h3 (by omega) with ⟨m, _, hn, hv⟩ | ⟨r, cap, c, et, fz, m, hv, hcap, hh, hs⟩
  ·
   have hr0 : rows = [] := List.eq_nil_of_length_eq_zero hn
   subst hr0
   subst hv
   obtain rfl : i = 0 := by simpa using hin
   refine (W.grow none 0 vb vc [] vs w hbig (by simp) hvl (fun _ => rfl) (fun a h => by cases h) hvw hv1).mono ?_
   rintro x w' ⟨G, zs, t, hG, hzs, rfl, rfl⟩
   have hh : (w.drew.alloc (.cells (([] ++ vs).toArray ++ zs) t)).heap = w.heap.push (.cells (([] ++ vs).toArray ++ zs) t (0, 0)) := rfl
   have hsz : ((([] : List Value) ++ vs).toArray ++ zs).size = G * e' := by
    obtain ⟨k, rfl⟩ : ∃ k, G = k + 1 := ⟨G - 1, by simp at hG; omega⟩
    simp [hvl, hzs, Nat.succ_mul]
    omega
   obtain ⟨g', q1, _, q2, q3⟩ := JjC hi (b := 0) (rows' := [v]) hb0 (by simp) (fun row hr => by simp at hr; rw [hr]; exact hvrow) hh rfl rfl (by rw [hsz]; simpa using Nat.le_mul_of_pos_left e' (by simp at hG; omega)) (fun a j row x h1 h2 => by
    have ha := Jb h1
    simp at ha
    subst ha
    simp at h1
    subst h1
    obtain ⟨u, hu, hr⟩ := hvrel j x h2
    refine ⟨u, ?_, hr⟩
    have := Jb hu
    rw [Nat.zero_mul, Nat.zero_add, Array.getElem?_append_left (by simpa using this)]
    simpa using hu)
   exact done _ g' w.heap.size G ⟨_, _, _, J3J hh, Nat.le_of_eq hsz.symm⟩ q1 (by simpa using hG) ⟨q2, q3⟩
  ·have m : g.μ 0 = some (r, 0) := m
   have hh : w.heap[r]? = some (.cells c et fz) := hh
   have hs : cap * e' ≤ c.size := by simpa using hs
   obtain ⟨hrow, hx, hf⟩ : (∀ row ∈ rows, row.length = e') ∧ (∀ (i j : Nat) row x, rows[i]? = some row → row[j]? = some x → ∃ u, c[i * e' + j]? = some u ∧ JJ w g.C x u) ∧ J9W e' fz c.size := by
    rcases hi.arr _ _ _ _ hb0 with ⟨m', _⟩ | ⟨r2, c2, et2, fz2, m', hh2, hrow, _, hx, hf⟩
    ·have m' : g.μ 0 = none := m'
     rw [m] at m'; cases m'
    ·have m' : g.μ 0 = some (r2, 0) := m'
     rw [m] at m'; injection m' with m'; injection m' with m' _; subst m'
     have hh2 : w.heap[r]? = some (.cells c2 et2 fz2) := hh2
     rw [hh] at hh2; injection hh2 with hh2; injection hh2 with q1 q2 q3; subst q1 q2 q3
     exact ⟨hrow, fun i j row x h1 h2 => (hx i j row x h1 h2).1, hf⟩
   have hne2 : vb ≠ r := by
    rintro rfl
    have w0 : Wr1 ⟨[.arr true e' rows, .arr true e' [v]], g, w⟩ 0 vb 0 := ⟨0, m⟩
    have w1 : Wr1 ⟨[.arr true e' rows, .arr true e' [v]], g, w⟩ 1 vb 0 := ⟨0, hmv⟩
    exact absurd (hi.apart _ _ _ _ w0 w1) (by decide)
   subst hv
   have hcw : ∀ t, w.cell? ⟨r, t, none⟩ = c[t]? := fun t => by rw [J55, J1Y hh]
   have hfw : ∀ t, t < c.size → w.frozen? ⟨r, t, none⟩ = false := fun t ht => by
    have := hf.1 t (Nat.zero_le _) ht
    simp only [World.frozen?, hh]
    simpa using this
   have hnc : rows.length * e' ≤ c.size := Nat.le_trans (Nat.mul_le_mul_right _ hcap) hs
   obtain ⟨cs, hcs⟩ : ∃ cs, cs = c.toList.take (rows.length * e') := ⟨_, rfl⟩
   have hcl : cs.length = rows.length * e' := by rw [hcs]; simp; omega
   have hcg : ∀ j, j < rows.length * e' → cs[j]? = c[j]? := fun j hj => by rw [hcs, List.getElem?_take, if_pos hj, Array.getElem?_toList]
   have hcell : ∀ (j : Nat) u, cs[j]? = some u → w.cell? ⟨r, j, none⟩ = some u := fun j u hu => by
    have := Jb hu
    rw [hcw, ← hcg j (by omega)]; exact hu
   have hrel : ∀ (a j : Nat) row x, rows[a]? = some row → row[j]? = some x → ∃ u, cs[a * e' + j]? = some u ∧ JJ w g.C x u := fun a j row x h1 h2 => by
    obtain ⟨u, hu, hr⟩ := hx a j row x h1 h2
    have := Jb h1
    have h4 := Jb h2
    rw [hrow row (JV h1)] at h4
    exact ⟨u, by rw [hcg _ (J4X this h4)]; exact hu, hr⟩
   have hc1 : ∀ u ∈ cs, u.oneCell' = true := fun u hu => by
    obtain ⟨t, ht⟩ := List.getElem?_of_mem hu
    have htl := Jb ht
    have hd : t / e' < rows.length := (Nat.div_lt_iff_lt_mul hpos).2 (by omega)
    have hm2 : t % e' < e' := Nat.mod_lt _ hpos
    have hl1 := hrow _ (List.getElem_mem hd)
    obtain ⟨u', hu', hr⟩ := hrel _ (t % e') _ _ (List.getElem?_eq_getElem hd) (List.getElem?_eq_getElem (by omega))
    rw [show t / e' * e' + t % e' = t by rw [Nat.mul_comm]; exact Nat.div_add_mod t e', ht] at hu'
    injection hu' with hu'
    exact hu' ▸ hr.one
   have hsuc : (rows.length + 1) * e' = rows.length * e' + e' := Nat.succ_mul _ _
   have hisuc : (i + 1) * e' = i * e' + e' := Nat.succ_mul _ _
   have hile : i * e' ≤ rows.length * e' := Nat.mul_le_mul_right _ hin
   have hdl : (cs.drop (i * e')).length = (rows.length - i) * e' := by rw [List.length_drop, hcl, Nat.sub_mul]
   have hdl2 : (rows.length - i) * e' = rows.length * e' - i * e' := Nat.sub_mul _ _ _
   have fin : ∀ c' : Array Value, (∀ t, t < i * e' → c'[t]? = cs[t]?) → (∀ t, t < e' → c'[i * e' + t]? = vs[t]?) → (∀ t, i * e' ≤ t → t < rows.length * e' → c'[t + e']? = cs[t]?) →
     ∀ (a j : Nat) row x, (rows.take i ++ v :: rows.drop i)[a]? = some row → row[j]? = some x → ∃ u, c'[a * e' + j]? = some u ∧ JJ w g.C x u := by
    intro c' f1 f2 f3 a j row x h1 h2
    rcases Jth hin h1 with ⟨hl, h1⟩ | ⟨rfl, rfl⟩ | ⟨hl, h1⟩
    ·have h4 := Jb h2
     rw [hrow row (JV h1)] at h4
     obtain ⟨u, hu, hr⟩ := hrel a j row x h1 h2
     exact ⟨u, by rw [f1 _ (J4X hl h4)]; exact hu, hr⟩
    ·have h4 := Jb h2
     obtain ⟨u, hu, hr⟩ := hvrel j x h2
     exact ⟨u, by rw [f2 _ (by omega)]; exact hu, hr⟩
    ·have h4 := Jb h2
     have h5 := Jb h1
     rw [hrow row (JV h1)] at h4
     obtain ⟨u, hu, hr⟩ := hrel (a - 1) j row x h1 h2
     obtain ⟨k, rfl⟩ : ∃ k, a = k + 1 := ⟨a - 1, by omega⟩
     simp only [Nat.add_sub_cancel] at *
     have h6 : i * e' ≤ k * e' := Nat.mul_le_mul_right _ (by omega)
     have h7 := J4X h5 h4
     have := f3 (k * e' + j) (by omega) h7
     refine ⟨u, ?_, hr⟩
     rw [show (k + 1) * e' + j = k * e' + j + e' by rw [Nat.succ_mul]; omega, this]
     exact hu
   simp only [Nat.zero_mul]
   by_cases hroom : rows.length + 1 ≤ cap
   ·have hcap2 : (rows.length + 1) * e' ≤ c.size := Nat.le_trans (Nat.mul_le_mul_right _ hroom) hs
    have hsp : ∀ j, j < (rows.length + 1) * e' → (w.cell? ⟨r, j, none⟩).isSome = true := fun j hj => by rw [hcw, Array.getElem?_eq_getElem (by omega)]; rfl
    have hfz : ∀ j, j < (rows.length + 1) * e' → w.frozen? ⟨r, j, none⟩ = false := fun j hj => hfw j (by omega)
    rcases Nat.eq_or_lt_of_le hin with hie | hil
    ·
     subst hie
     refine (W.room r rows.length cap vb vc vs w hroom hbig hvl hsp hfz hvw hv1).mono ?_
     rintro x w' ⟨rfl, rfl⟩
     obtain ⟨c', t1, q1⟩ := J7Q (r := r) vs (o := rows.length * e') hh (by omega)
     obtain ⟨et', fz', b1, b2⟩ := t1.at_
     refine done _ g r cap ⟨c', _, _, b2, by rw [t1.csize]; exact hs⟩ m hroom (JoO hi (b := 0) hb0 m t1 (by omega) (fun row hr => hrow1 row hr hrow) (by rw [hl']; exact hcap2) (fin c' (fun t ht => ?_) (fun t ht => ?_) (fun t h1 h2 => by omega)))
     ·rw [q1, if_neg (by omega), hcg t ht]
     ·rw [q1, if_pos (by omega), Nat.add_sub_cancel_left]
    ·refine (W.shift r rows.length cap i vb vc cs vs w tA et ce.size c.size hil hroom hbig hne2 hcl hvl hcell hsp hfz hvw hc1 hv1 (by simp [World.shape?, hhv]) (by simp [World.shape?, hh]) (by omega) ?_ ?_).mono ?_
     ·have := hvf.1 0 (Nat.le_refl _) (by omega)
      simp only [World.frozen?, hhv]
      simpa using this
     ·have := hvf.2 hne
      simp only [World.frozen?, hhv]
      simpa using this
     rintro x w' ⟨rfl, rfl⟩
     have hh0 : w.drew.heap[r]? = some (.cells c et fz) := hh
     obtain ⟨c1, t1, q1⟩ := J7Q (r := r) (cs.drop (i * e')) (w := w.drew) (o := (i + 1) * e') hh0 (by omega)
     obtain ⟨et1, fz1, b1, b2⟩ := t1.at_
     obtain ⟨c2, t2, q2⟩ := J7Q (r := r) vs (o := i * e') b2 (by rw [t1.csize]; omega)
     have tt : J52 r c c2 w ((w.drew.setCells r ((i + 1) * e') (cs.drop (i * e'))).setCells r (i * e') vs) := by
      have t0 : J52 r c c w w.drew := ⟨rfl, rfl, rfl, ⟨et, fz, hh, hh⟩, rfl, fun _ _ => rfl⟩
      exact (t0.trans t1).trans t2
     obtain ⟨et', fz', b3, b4⟩ := tt.at_
     refine done _ g r cap ⟨c2, _, _, b4, by rw [tt.csize]; exact hs⟩ m hroom (JoO hi (b := 0) hb0 m tt (by omega) (fun row hr => hrow1 row hr hrow) (by rw [hl']; exact hcap2) (fin c2 (fun t ht => ?_) (fun t ht => ?_) (fun t h1 h2 => ?_)))
     ·rw [q2, if_neg (by omega), q1, if_neg (by omega), hcg t (by omega)]
     ·rw [q2, if_pos (by omega), Nat.add_sub_cancel_left]
     ·rw [q2, if_neg (by omega), q1, if_pos (by omega), List.getElem?_drop]
      congr 1; omega
   ·obtain rfl : cap = rows.length := by omega
    rcases Nat.eq_or_lt_of_le hin with hie | hil
    ·subst hie
     refine (W.grow (some ⟨r, 0, none⟩) rows.length vb vc cs vs w hbig hcl hvl (fun h => by cases h) (fun a h j u hu => by injection h with h; subst h; rw [Addr.add_lit, Nat.zero_add]; exact hcell j u hu) hvw hv1).mono ?_
     rintro x w' ⟨G, zs, t, hG, hzs, rfl, rfl⟩
     have hh2 : (w.drew.alloc (.cells ((cs ++ vs).toArray ++ zs) t)).heap = w.heap.push (.cells ((cs ++ vs).toArray ++ zs) t (0, 0)) := rfl
     have hG2 : (rows.length + 1) * e' ≤ G * e' := Nat.mul_le_mul_right _ hG
     have hsz : ((cs ++ vs).toArray ++ zs).size = G * e' := by
      simp only [Array.size_append, List.size_toArray, List.length_append, hcl, hvl, hzs, Nat.sub_mul]
      omega
     have hF := fin ((cs ++ vs).toArray ++ zs)
      (fun t ht => by rw [Array.getElem?_append_left (by simp; omega), List.getElem?_toArray, List.getElem?_append_left (by omega)])
      (fun t ht => by rw [Array.getElem?_append_left (by simp; omega), List.getElem?_toArray, List.getElem?_append_right (by omega), hcl, Nat.add_sub_cancel_left])
      (fun t h1 h2 => by omega)
     obtain ⟨g', q1, _, q2, q3⟩ := JjC hi (b := 0) hb0 (by omega) (fun row hr => hrow1 row hr hrow) hh2 rfl rfl (by rw [hl', hsz]; exact hG2) hF
     exact done _ g' w.heap.size G ⟨_, _, _, J3J hh2, Nat.le_of_eq hsz.symm⟩ q1 hG ⟨q2, q3⟩
    ·refine (W.move r rows.length i vb vc cs vs w hil hbig hne2 hcl hvl hcell hvw hc1 hv1).mono ?_
     rintro x w' ⟨G, row, t, hG, hzs, hrg, rfl, rfl⟩
     have hG2 : (rows.length + 1) * e' ≤ G * e' := Nat.mul_le_mul_right _ hG
     have hh0 : (w.alloc (.cells row t)).heap = w.heap.push (.cells row t (0, 0)) := rfl
     have ha : (w.alloc (.cells row t)).drew.heap[w.heap.size]? = some (.cells row t (0, 0)) := J3J hh0
     obtain ⟨c1, t1, q1⟩ := J7Q (r := w.heap.size) vs (w := (w.alloc (.cells row t)).drew) (o := i * e') ha (by omega)
     obtain ⟨et1, fz1, b1, b2⟩ := t1.at_
     have b2' : ((w.alloc (.cells row t)).drew.setCells w.heap.size (i * e') vs).drew.heap[w.heap.size]? = some (.cells c1 et1 fz1) := b2
     obtain ⟨c2, t2, q2⟩ := J7Q (r := w.heap.size) (cs.drop (i * e')) (w := ((w.alloc (.cells row t)).drew.setCells w.heap.size (i * e') vs).drew) (o := (i + 1) * e') b2' (by rw [t1.csize]; omega)
     have tt : J52 w.heap.size row c2 (w.alloc (.cells row t)) ((((w.alloc (.cells row t)).drew.setCells w.heap.size (i * e') vs).drew).setCells w.heap.size ((i + 1) * e') (cs.drop (i * e'))) := by
      have t0 : J52 w.heap.size row row (w.alloc (.cells row t)) (w.alloc (.cells row t)).drew := ⟨rfl, rfl, rfl, ⟨_, _, J3J hh0, J3J hh0⟩, rfl, fun _ _ => rfl⟩
      have t3 : J52 w.heap.size c1 c1 ((w.alloc (.cells row t)).drew.setCells w.heap.size (i * e') vs) ((w.alloc (.cells row t)).drew.setCells w.heap.size (i * e') vs).drew := ⟨rfl, rfl, rfl, ⟨_, _, b2, b2⟩, rfl, fun _ _ => rfl⟩
      exact ((t0.trans t1).trans t3).trans t2
     have hh2 := tt.push hh0
     have hsz : c2.size = G * e' := by rw [tt.csize, hzs]
     have hF := fin c2 (fun t ht => by rw [q2, if_neg (by omega), q1, if_neg (by omega), hrg t ht])
      (fun t ht => by rw [q2, if_neg (by omega), q1, if_pos (by omega), Nat.add_sub_cancel_left])
      (fun t h1 h2 => by rw [q2, if_pos (by omega), List.getElem?_drop]; congr 1; omega)
     obtain ⟨g', p1, _, p2, p3⟩ := JjC hi (b := 0) hb0 (by omega) (fun row hr => hrow1 row hr hrow) hh2 tt.os tt.out (by rw [hl', hsz]; exact hG2) hF
     exact done _ g' w.heap.size G ⟨_, _, _, J3J hh2, Nat.le_of_eq hsz.symm⟩ p1 hG ⟨p2, p3⟩
end Go.Am
end
