/-
  Parts of a proof.
-/
import Derived.DeepKeys
import Derived.Orders
import Derived.LoopN
import Derived.Scope
import Derived.Test.YtkopficpneehnaaX1
set_option linter.unusedSimpArgs false
set_option linter.unusedVariables false
section
namespace Go.Am
section
variable {P : Program} {F : Orc} {s : Sn} {a : Act} {env : List (Nat × AV)} {o : Oper} {new : Nat} {e : Eff}
theorem Jdp (l : List UInt8) (c : Array Value) (hc : ∀ (i : Nat) b, l[i]? = some b → c[i]? = some (.int .u8 b.toNat)) (hl : l.length ≤ c.size) : J87 s 1 (l.map J2U) c := by
 refine ⟨fun row hr => ?_, by simpa using hl, fun i j row x hi hj => ?_⟩
 ·obtain ⟨b, _, rfl⟩ := List.mem_map.1 hr; rfl
 ·rw [List.getElem?_map] at hi
  cases hli : l[i]? with
  | none => simp [hli] at hi
  | some b =>
   simp [hli] at hi; subst hi
   have : j = 0 := by have := J8 hj; simp [J2U] at this; exact this
   subst this
   simp [J2U] at hj; subst hj
   exact ⟨_, by rw [Nat.mul_one, Nat.add_zero]; exact hc i b hli, .i _ _⟩
theorem Jgi {α : Type} {esz : Nat} : ∀ {rows : List (List α)}, (∀ row ∈ rows, row.length = esz) → ∀ {i j : Nat} {row : List α} {x : α}, rows[i]? = some row → row[j]? = some x → rows.flatten[i * esz + j]? = some x
 | [], _, i, j, row, x, h, _ => by simp at h
 | r0 :: rs, hl, i, j, row, x, h, hx => by
  have hr0 : r0.length = esz := hl r0 (by simp)
  cases i with
  | zero =>
   simp at h; subst h
   have := J8 hx
   simp only [Nat.zero_mul, Nat.zero_add, List.flatten_cons]
   rw [List.getElem?_append_left (by omega)]; exact hx
  | succ i =>
   simp only [List.flatten_cons]
   rw [List.getElem?_append_right (by rw [Nat.add_mul]; omega)]
   have := Jgi (rows := rs) (fun row hm => hl row (by simp [hm])) (by simpa using h) hx
   rw [← this]; congr 1
   rw [Nat.add_mul]; omega
theorem JkK {h : Array Obj} {x : Obj} (f : Obj → Obj) : (h.push x).modify h.size f = h.push (f x) := by
 apply Array.ext_getElem?
 intro i
 rw [Array.getElem?_modify, Array.getElem?_push, Array.getElem?_push]
 by_cases hi : i = h.size
 ·subst hi; simp
 ·rw [if_neg (Ne.symm hi), if_neg hi, if_neg hi]
theorem JiB {el : TypeId} (l : List UInt8) (w : World) : ∃ w' cap c fz, (Conv.stringToBytes el ⟨l.toArray⟩).run P w = .ok (.slice (some ⟨w.heap.size, 0, none⟩) l.length cap) w' ∧
  w'.heap = w.heap.push (.cells c el fz) ∧ w'.os = w.os ∧ w'.output = w.output ∧ Free fz 0 c.size ∧ l.length ≤ cap ∧ c.size = cap ∧ ∀ (i : Nat) b, l[i]? = some b → c[i]? = some (.int .u8 b.toNat) := by
 have hf : (Question.appendCap l.length 0 el).forced = false := rfl
 have hcap : l.length ≤ (Question.appendCap l.length 0 el).cut (w.tape w.drawn (.appendCap l.length 0 el)) := by simp [Question.cut]
 generalize hq : (Question.appendCap l.length 0 el).cut (w.tape w.drawn (.appendCap l.length 0 el)) = cap at hcap
 let c : Array Value := (l.toArray.map fun b => Value.int .u8 b.toNat) ++ Array.replicate (cap - l.length) (.int .u8 0)
 have hc : c.size = cap := by simp [c]; omega
 refine ⟨({ w with drawn := w.drawn + 1, heap := w.heap.push (.cells c el) }).freeze { block := w.heap.size, off := c.size } 1, cap, c, (c.size, c.size + 1), ?_, ?_, ?_, ?_, ?_, hcap, hc, ?_⟩
 ·unfold Conv.stringToBytes
  have hs : ByteArray.size ⟨l.toArray⟩ = l.length := J5R l
  have hsh : World.shape? { w with drawn := w.drawn + 1, heap := w.heap.push (.cells c el) } w.heap.size = some (el, c.size) := by simp [World.shape?]
  have he : (Array.map (fun b => Value.int IntKind.u8 ↑(UInt8.toNat b)) l.toArray ++ Array.replicate (cap - l.length) (Value.int IntKind.u8 0)) = c := rfl
  simp only [Sem.run_bind, run_choose, hs, hf, Bool.false_eq_true, if_false, Result.andThen_ok, hq, newRow, run_newObj, Sem.run_pure, markStringish, run_shape, run_freeze, he, hsh]
 ·unfold World.freeze
  simp only [Nat.one_ne_zero, if_false]
  rw [JkK]
  simp
 ·unfold World.freeze; simp
 ·unfold World.freeze; simp
 ·intro o _ h; simp; omega
 ·intro i b hb
  have hlt := J8 hb
  rw [List.getElem?_eq_getElem hlt] at hb
  injection hb with hb
  simp [c, Array.getElem?_append, hlt, hb]
theorem Jmn (hi : Inv s) (he : JA s a.tmps env) {own x} (hn : own = true → s.σ[new]? = some .dead) (h : (opR F (.conv (.toBytes own) x) new).run ⟨env, s.σ⟩ = some e)
  (hc : Jk P (.conv (.toBytes own) x) o.op = true) : J0h P o a s e := by
 simp only [opR] at h
 obtain ⟨u, h1, h'⟩ := bind_some h
 clear h
 unfold Jk at hc
 simp only at hc
 split at hc
 ·rename_i src dst y hop
  simp only [Bool.and_eq_true] at hc
  obtain ⟨hx, hs, ht⟩ := hc
  have rx := Jv he h1 hx
  split at ht
  ·rename_i el hel
   simp only [Bool.and_eq_true, beq_iff_eq] at ht
   have hu' : ∃ l, u = .p (.s l) ∧ (if own = true then RM.ret ⟨.slr new 0 l.length, [(new, .arr true 1 (l.map J2U))]⟩ else RM.ret ⟨.p (.sl 1 (l.map J2U)), []⟩ : RM Eff).run ⟨env, s.σ⟩ = some e := by
    cases u with
    | p c => cases c with
     | s l => exact ⟨l, rfl, h'⟩
     | _ => cases h'
    | _ => cases h'
   clear h'
   obtain ⟨l, rfl, h'⟩ := hu'
   ·skip
    obtain ⟨w', cap, c, fz, hrun, hh, ho, hp, hf, hcap, hcs, hg⟩ := JiB (P := P) (el := el) l s.w
    have ex := J7q rx
    have hex : (execOp a.eval o).run P s.w = .ok (.value (.slice (some ⟨s.w.heap.size, 0, none⟩) l.length cap)) w' := by
     simp [execOp, hop, ex, convert, run_underlying (J4G hs), run_underlying (J14 hel), run_underlying (Jk0 ht.1), hrun]
    have hrow := Jdp (s := s) l c hg (by omega)
    split at h'
    ·rename_i hown
     simp only [RM.run] at h'; injection h' with h'; subst h'
     obtain ⟨g', i', t', r'⟩ := JaR (esz := 1) hi (hn hown) hh ho hp ⟨hf, fun h => absurd rfl h⟩ hrow (cap := cap) (by simpa using hcap) (by omega)
     simp only [List.length_map] at r'
     exact J1h hex i' t' r'
    ·simp only [RM.run] at h'; injection h' with h'; subst h'
     obtain ⟨g', i', t', r'⟩ := JbN hi hh ho hp hrow (cap := cap) (by simpa using hcap)
     simp only [List.length_map] at r'
     exact J1h (e := ⟨_, []⟩) hex i' t' r'
  ·cases ht
 ·cases hc
theorem JnU (hi : Inv s) {esz : Nat} {x : AV} {new : List (List PV)} {v : Value} {u : TypeId} (h : (J1D esz x).run ⟨env, s.σ⟩ = some new) (hr : Jf s x v)
  (hu : (elT P u).isSome = true ∨ J4k P u = true) :
  ∃ news, Src P esz u v new.length news s.w ∧ (∀ row ∈ new, row.length = esz) ∧
   ∀ (i j : Nat) row y, new[i]? = some row → row[j]? = some y → ∃ q, news[i * esz + j]? = some q ∧ Jl s.w s.g.C y q := by
 have kind : (∃ e', P.underlying u = some (.slice e')) ∨ P.underlying u = some .string := by
  rcases hu with hu | hu
  ·obtain ⟨e', he'⟩ := Option.isSome_iff_exists.1 hu
   exact .inl ⟨e', J14 he'⟩
  ·exact .inr (J4G hu)
 rcases JfD hi h hr with ⟨l, rfl, rfl, rfl, rfl⟩ | hsl
 ·have hlen : (byteCells ⟨l.toArray⟩).length = l.length := by rw [byteCells_length, J5R]
  have hfc : ∀ w : World, (Builtin.firstCells 1 l.length (.string ⟨l.toArray⟩)).run P w = .ok (byteCells ⟨l.toArray⟩).toArray w := by
   intro w
   have := firstCells_string (P := P) ⟨l.toArray⟩ w
   rwa [J5R] at this
  refine ⟨byteCells ⟨l.toArray⟩, ⟨kind, fun w => by rw [List.length_map, ← J5R]; rfl, by rw [List.length_map]; exact hfc _, by rw [List.length_map]; exact hfc _, by rw [hlen]; simp, fun q hq => by
   obtain ⟨_, _, rfl⟩ := List.mem_map.1 hq
   rfl⟩, fun row hr => ?_, ?_⟩
  ·obtain ⟨b, _, rfl⟩ := List.mem_map.1 hr; rfl
  ·have := (Jdp (s := s) l (byteCells ⟨l.toArray⟩).toArray (fun i b hb => by
    simp [byteCells, hb]) (by simp [byteCells])).2.2
   intro i j row y h1 h2
   obtain ⟨q, hq, hr⟩ := this i j row y h1 h2
   exact ⟨q, by simpa using hq, hr⟩
 ·obtain ⟨ad, cap, vs, hv, hcap, hlen, hrel, hmem, hrow⟩ := hsl.cells
  have hone : ∀ q ∈ vs, q.oneCell' = true := by
   intro q hq
   obtain ⟨k, hk⟩ := List.getElem?_of_mem hq
   have hlt := J8 hk
   have : k < new.flatten.length := by rw [Jbh hrow]; omega
   obtain ⟨q', hq', hr⟩ := hrel k _ (List.getElem?_eq_getElem this)
   rw [hk] at hq'; injection hq' with hq'; subst hq'; exact hr.one
  have hget : ∀ (i j : Nat) row y, new[i]? = some row → row[j]? = some y → ∃ q, vs[i * esz + j]? = some q ∧ Jl s.w s.g.C y q := by
   intro i j row y h1 h2
   refine hrel _ _ ?_
   clear hrel hmem hlen hone h hr hv hcap hsl
   induction new generalizing i with
   | nil => simp at h1
   | cons r0 new ih =>
    have hr0 : r0.length = esz := hrow r0 (by simp)
    cases i with
    | zero =>
     simp at h1; subst h1
     have := J8 h2
     simp only [Nat.zero_mul, Nat.zero_add, List.flatten_cons]
     rw [List.getElem?_append_left (by omega)]; exact h2
    | succ i =>
     simp only [List.flatten_cons]
     rw [List.getElem?_append_right (by rw [Nat.add_mul]; omega)]
     have := ih (fun row hm => hrow row (by simp [hm])) i (by simpa using h1)
     rw [← this]; congr 1
     rw [Nat.add_mul]; omega
  subst hv
  rcases hmem with hnil | ⟨r, o', rfl, hm⟩
  ·subst hnil
   simp at hlen; subst hlen
   refine ⟨[], ?_, hrow, hget⟩
   cases ad with
   | none => exact ⟨kind, fun _ => rfl, run_firstCells_none s.w esz 0 0 cap, run_firstCells_none s.w.drew esz 0 0 cap, by simp, fun _ h => by cases h⟩
   | some ad => exact ⟨kind, fun _ => rfl, run_firstCells_some s.w esz 0 ad 0 cap [] (by simp) (fun j u h => by simp at h), run_firstCells_some s.w.drew esz 0 ad 0 cap [] (by simp) (fun j u h => by simp at h), by simp, fun _ h => by cases h⟩
  ·have hm' : ∀ j q, vs[j]? = some q → s.w.cell? (Addr.add ⟨r, o', none⟩ j) = some q := fun j q hj => by rw [J6R, J2z]; exact hm j q hj
   exact ⟨vs, ⟨kind, fun _ => rfl, run_firstCells_some s.w esz _ _ _ cap vs hlen hm', run_firstCells_some s.w.drew esz _ _ _ cap vs hlen (by simpa using hm'), hlen, hone⟩, hrow, hget⟩
theorem JcV (b : Nat) (x : Blk) (σ : List Blk) : upd [(b, x)] σ = σ.set b x := rfl
structure JpT (P : Program) (esz bytes : Nat) (t ut ty el : TypeId) (z v : Value) (n : Nat) (news : List Value) (w : World) : Prop where
 newsLen : news.length = n * esz
 room : ∀ (r off sLen sCap : Nat), sLen + n ≤ sCap → (∀ j, j < news.length → (w.cell? ⟨r, off + sLen * esz + j, none⟩).isSome = true) → (∀ j, j < news.length → w.frozen? ⟨r, off + sLen * esz + j, none⟩ = false) →
  (Builtin.append_ #[t, ut] ty #[.slice (some ⟨r, off, none⟩) sLen sCap, v]).run P w = .ok (.slice (some ⟨r, off, none⟩) (sLen + n) sCap) (w.setCells r (off + sLen * esz) news)
 grow : ∀ (base : Option Addr) (sLen sCap : Nat) (olds : List Value), (Builtin.firstCells esz sLen (.slice base sLen sCap)).run P w.drew = .ok olds.toArray w.drew → sCap < sLen + n → ((sLen + n : Nat) : Int) ≤ 9223372036854775807 →
  Builtin.nextslicecap (sLen + n) sCap * bytes ≤ 281474976710656 →
  (Builtin.append_ #[t, ut] ty #[.slice base sLen sCap, v]).run P w = .ok (.slice (some ⟨w.heap.size, 0, none⟩) (sLen + n) (grownCap w (sLen + n) sCap el)) (w.drew.alloc (.cells ((olds ++ news).toArray ++ Builtin.zeroCells z.cells (grownCap w (sLen + n) sCap el - (sLen + n))) el))
 nil : n = 0 → (Builtin.append_ #[t, ut] ty #[.slice none 0 0, v]).run P w = .ok (.slice none 0 0) w
theorem Src.gen {esz bytes : Nat} {t ut ty el : TypeId} {i : TypeInfo} {z v : Value} {n : Nat} {news : List Value} {w : World} (hel : elT P t = some el) (hs : szT P el = some esz) (hinf : P.info? el = some i) (hsz : i.size = esz) (hbytes : i.bytes = bytes) (hzero : i.zero = some z)
  (h : Src P esz ut v n news w) : JpT P esz bytes t ut ty el z v n news w := by
 have hsrc := h
 rw [← hsz] at hsrc
 refine ⟨h.newsLen, fun r off sLen sCap h1 h2 h3 => ?_, fun base sLen sCap olds h1 h2 h3 h4 => ?_, fun h0 => ?_⟩
 ·have hrun := run_append_room_src (P := P) w t ut ty el i (J14 hel) hinf r off sLen sCap v n news hsrc h1 (by rw [hsz]; exact h2) (by rw [hsz]; exact h3)
  rw [hsz] at hrun; exact hrun
 ·exact run_append_grow_src (P := P) w t ut ty el i z (J14 hel) hinf hzero base sLen sCap olds (by rw [hsz]; exact h1) v n news hsrc h2 h3 (by rw [hbytes]; exact h4)
 ·subst h0
  have hl := h.len w
  have hcl := h.cells
  rcases h.kind with ⟨e', hk⟩ | hk
  ·simp [Builtin.append_, run_underlying (J14 hel), run_underlying hk, J1S hs, hl, hcl]
  ·simp [Builtin.append_, run_underlying (J14 hel), run_underlying hk, J1S hs, hl, hcl]
theorem Jn2 {esz bytes : Nat} {t ut ty el : TypeId} {i : TypeInfo} {z : Value} {k k' : IntKind} {m : Nat} {w : World} (hel : elT P t = some el) (hs : szT P el = some esz) (hinf : P.info? el = some i) (hsz : i.size = esz) (hbytes : i.bytes = bytes) (hzero : i.zero = some z)
  (hzs : z.cells.size = esz) (hone : ∀ u ∈ z.cells.toList, u.oneCell' = true) (hk : P.underlying ut = some (.int k)) (hm : m * bytes ≤ 281474976710656) (hm2 : m ≤ 281474976710656) :
  JpT P esz bytes t ut ty el z (.int k' (m : Int)) m (Builtin.zeroCells z.cells m).toList w := by
 have w0 : IntKind.i64.wrap (m : Int) = (m : Int) := by simp [IntKind.wrap_i64]; omega
 have c0 : ¬ (m : Int) < 0 := by omega
 have c1 : ¬ (281474976710656 : Int) < (m : Int) * (bytes : Int) := by
  have : ((m * bytes : Nat) : Int) ≤ 281474976710656 := by omega
  rw [Int.natCast_mul] at this; omega
 have hl : (Builtin.zeroCells z.cells m).toList.length = m * esz := by rw [Array.length_toList, size_zeroCells, hzs]
 have hone' : ∀ u ∈ (Builtin.zeroCells z.cells m).toList, u.oneCell' = true := by
  intro u hu
  unfold Builtin.zeroCells at hu
  simp only [Array.toList_map, List.mem_map] at hu
  obtain ⟨j, _, rfl⟩ := hu
  by_cases hj : j % z.cells.size < z.cells.size
  ·rw [getElem!_pos z.cells _ hj]; exact hone _ (Array.getElem_mem_toList _)
  ·have : z.cells.size = 0 := by
    rcases Nat.eq_zero_or_pos z.cells.size with h | h
    ·exact h
    ·exact absurd (Nat.mod_lt _ h) hj
   rw [getElem!_neg z.cells _ hj]; rfl
 have hz0 : m * esz = 0 → Builtin.zeroCells z.cells m = #[] := by
  intro h0
  apply Array.eq_empty_of_size_eq_zero
  rw [size_zeroCells, hzs]; exact h0
 refine ⟨hl, fun r off sLen sCap h1 h2 h3 => ?_, fun base sLen sCap olds h1 h2 h3 h4 => ?_, fun h0 => ?_⟩
 ·have hst := run_storeCells_cells (P := P) r (off + sLen * esz) (Builtin.zeroCells z.cells m).toList 0 w (by simpa using h2) (by simpa using h3) hone'
  simp only [Nat.add_zero] at hst
  by_cases hz : m * esz = 0
  ·have e := hz0 hz
   rw [e] at hst ⊢
   simp [Builtin.append_, run_underlying (J14 hel), run_underlying hk, sizeOf, typeInfo, hinf, hsz, hbytes, asInt, asIntOf, w0, c0, c1, h1, hz, Addr.add_lit, hst]
  ·simp [Builtin.append_, run_underlying (J14 hel), run_underlying hk, sizeOf, typeInfo, zeroValue, hinf, hzero, hsz, hbytes, asInt, asIntOf, w0, c0, c1, h1, hz, Addr.add_lit, hst]
 ·have hn : ¬ (sLen + m ≤ sCap) := by omega
  have h63' : ¬ (9223372036854775807 < ((sLen : Int) + (m : Int))) := by omega
  have h48' : ¬ (281474976710656 < Builtin.nextslicecap (sLen + m) sCap * bytes) := by omega
  by_cases hz : m * esz = 0
  ·have e := hz0 hz
   rw [e]
   simp [Builtin.append_, run_underlying (J14 hel), run_underlying hk, sizeOf, typeInfo, zeroValue, hinf, hzero, hsz, hbytes, asInt, asIntOf, w0, c0, c1, hz, hn, h63', h48', Question.forced, h1, newRow, grownCap]
  ·simp [Builtin.append_, run_underlying (J14 hel), run_underlying hk, sizeOf, typeInfo, zeroValue, hinf, hzero, hsz, hbytes, asInt, asIntOf, w0, c0, c1, hz, hn, h63', h48', Question.forced, h1, newRow, grownCap]
   congr 2
   apply Array.ext'
   simp [List.append_assoc]
 ·subst h0
  have w00 : IntKind.i64.wrap 0 = 0 := by decide
  simp [Builtin.append_, run_underlying (J14 hel), run_underlying hk, sizeOf, typeInfo, hinf, hsz, hbytes, asInt, asIntOf, w00]
theorem JgW (hi : Inv s) {esz bytes : Nat} {zero : List PV} {u v : AV} {c : Call} {x' y' : Operand} {t ut el : TypeId} (hop : o.op = .call c) (hcal : c.callee = .builtin .append)
  (hargs : c.args.toList = [x', y']) (htys : c.argTypes.toList = [t, ut]) (hel : elT P t = some el)
  (ht : (szT P el == some esz && byT P el == some bytes && J7j P zero el && zero.length == esz && decide (0 < esz) && decide (0 < bytes)) = true)
  (rx : Jf s u (a.eval x')) (hG : ∀ (i : TypeInfo) (z : Value) (new : List (List PV)), szT P el = some esz → P.info? el = some i → i.size = esz → i.bytes = bytes → i.zero = some z → zeT P el = some z → zero.length = z.cells.size → new.length * bytes ≤ 281474976710656 → new.length ≤ 281474976710656 → (J1D esz v).run ⟨env, s.σ⟩ = some new →
   ∃ news, JpT P esz bytes t ut o.type el z (a.eval y') new.length news s.w ∧ (∀ row ∈ new, row.length = esz) ∧
    ∀ (i j : Nat) row y, new[i]? = some row → row[j]? = some y → ∃ q, news[i * esz + j]? = some q ∧ Jl s.w s.g.C y q)
  (h'' : (J5D esz bytes u v).run ⟨env, s.σ⟩ = some e) : J0h P o a s e := by
 simp only [Bool.and_eq_true, beq_iff_eq, decide_eq_true_eq] at ht
 obtain ⟨⟨⟨⟨⟨hs, hby⟩, hz⟩, hzl⟩, hpos⟩, hbpos⟩ := ht
 obtain ⟨i, hinf, hsz⟩ := Jcy hs
 obtain ⟨z, hz1, hz2, hz3⟩ := J3l hz
 have hbytes := Jdt hby hinf
 have hzero := Jgq hz1 hinf
 have hm : c.args.map a.eval = #[a.eval x', a.eval y'] := by apply Array.ext'; simp [hargs]
 have hty : c.argTypes = #[t, ut] := by apply Array.ext'; rw [htys]
 have hex : ∀ {q : Value} {w' : World}, (Builtin.append_ #[t, ut] o.type #[a.eval x', a.eval y']).run P s.w = .ok q w' → (execOp a.eval o).run P s.w = .ok (.value q) w' := by
  intro q w' hr
  simp [execOp, hop, resolve, hcal, hm, hty, invoke, builtin, hr]
 unfold J5D at h''
 split at h''
 ·rename_i b j n
  simp only [RM.run] at h''
  split at h''
  ·rename_i blk hb
   split at h''
   ·rename_i wm esz' rows
    obtain ⟨new', h3, h4⟩ := bind_some h''
    clear h''
    split at h4
    ·rename_i hcond
     obtain ⟨rfl, rfl, rfl, hroom⟩ := hcond
     simp only [RM.run] at h4; injection h4 with h4; subst h4
     have hb : s.σ[b]? = some (.arr wm esz rows) := hb
     have hroom : (2 * (rows.length + new'.length) + 512) * bytes ≤ 281474976710656 := by simpa [J1e] using hroom
     have hneed : rows.length + new'.length ≤ 281474976710656 := by
      have h5 : (2 * (rows.length + new'.length) + 512) * 1 ≤ (2 * (rows.length + new'.length) + 512) * bytes := Nat.mul_le_mul_left _ hbpos
      omega
     have hmul : new'.length * bytes ≤ 281474976710656 := by
      have h5 : new'.length * bytes ≤ (2 * (rows.length + new'.length) + 512) * bytes := Nat.mul_le_mul_right _ (by omega)
      omega
     obtain ⟨news, hsrc, hnrow, hnget⟩ := hG i z new' hs hinf hsz hbytes hzero hz1 (by omega) hmul (by omega) h3
     have hnl := hsrc.newsLen
     have hslx := J4n.of_slr hi rx hb (by omega)
     simp only [List.drop_zero] at hslx
     generalize hzz : a.eval x' = zz at rx
     have hfit : ∀ {old : Nat}, old < rows.length + new'.length → Builtin.nextslicecap (rows.length + new'.length) old * i.bytes ≤ 281474976710656 := by
      intro old ho
      have h5 := nextslicecap_le ho
      rw [hbytes]
      have h6 : Builtin.nextslicecap (rows.length + new'.length) old * bytes ≤ (2 * (rows.length + new'.length) + 512) * bytes := Nat.mul_le_mul_right _ (by omega)
      omega
     have grow : ∀ {base : Option Addr} {cap : Nat}, zz = .slice base rows.length cap → cap < rows.length + new'.length →
       J0h P o a s ⟨.slr b 0 (rows.length + new'.length), [(b, .arr wm esz (rows ++ new'))]⟩ := by
      intro base cap hzv hlt
      rw [hzz] at hslx
      obtain ⟨ad, cap', vs, hv, hcap', hvlen, hvrel, hvmem, hvrow⟩ := hslx.cells
      rw [hzv] at hv
      injection hv with v1 v2 v3; subst v1 v3
      have hold : (Builtin.firstCells esz rows.length (.slice base rows.length cap)).run P s.w.drew = .ok vs.toArray s.w.drew := by
       rcases hvmem with hnil | ⟨r, o', rfl, hvm⟩
       ·subst hnil
        simp at hvlen; subst hvlen
        cases base with
        | none => exact run_firstCells_none s.w.drew esz 0 0 cap
        | some ad => exact run_firstCells_some s.w.drew esz 0 ad 0 cap [] (by simp) (fun j u h => by simp at h)
       ·exact run_firstCells_some s.w.drew esz _ _ _ cap vs hvlen (fun j q hj => by
         have : s.w.drew.cell? (Addr.add ⟨r, o', none⟩ j) = s.w.cell? (Addr.add ⟨r, o', none⟩ j) := by simp
         rw [this, J6R, J2z]; exact hvm j q hj)
      have hrun := hsrc.grow base rows.length cap vs hold hlt (by omega) (by rw [← hbytes]; exact hfit hlt)
      have hge : rows.length + new'.length ≤ grownCap s.w (rows.length + new'.length) cap el := by unfold grownCap; simp [Question.cut]
      generalize grownCap s.w (rows.length + new'.length) cap el = nc at hrun hge
      have hne : new' ≠ [] := by rintro rfl; simp at hlt; omega
      have hzs : z.cells.size = esz := by omega
      obtain ⟨i0, t0⟩ := Jc1 (w' := s.w.drew) hi rfl rfl rfl
      have hcsz : ((vs ++ news).toArray ++ Builtin.zeroCells z.cells (nc - (rows.length + new'.length))).size = nc * esz := by
       have : nc * esz = (rows.length + new'.length) * esz + (nc - (rows.length + new'.length)) * esz := by rw [← Nat.add_mul]; congr 1; omega
       rw [this, Nat.add_mul]
       simp [size_zeroCells, hvlen, hnl, hzs]
      obtain ⟨g', hμ, i', t'⟩ := Jpo (s0 := ⟨s.σ, s.g, s.w.drew⟩) i0 (w' := s.w.drew.alloc (.cells ((vs ++ news).toArray ++ Builtin.zeroCells z.cells (nc - (rows.length + new'.length))) el)) hb hne hvrow hnrow rfl rfl rfl
       (by rw [hcsz]; exact Nat.mul_le_mul_right _ hge) (fun k m row q hk hq => by
        have hm0 := J8 hq
        rcases J7M hk with hk | ⟨hgek, hk⟩
        ·have hk0 := J8 hk
         rw [hvrow row (JM hk)] at hm0
         have hlt' := J48 hk0 hm0
         have hfl := Jgi hvrow hk hq
         obtain ⟨w, hw, hrel⟩ := hvrel _ q hfl
         refine ⟨w, ?_, hrel.mono hi t0⟩
         rw [Array.getElem?_append_left (by simp; omega)]
         simp
         rw [List.getElem?_append_left (by omega)]; exact hw
        ·rw [hnrow row (JM hk)] at hm0
         have hk0 := J8 hk
         have hlt' := J48 hk0 hm0
         obtain ⟨w, hw, hrel⟩ := hnget _ m row q hk hq
         have e4 : k * esz + m = rows.length * esz + ((k - rows.length) * esz + m) := by
          rw [← Nat.add_assoc, ← Nat.add_mul, Nat.add_sub_cancel' hgek]
         refine ⟨w, ?_, hrel.mono hi t0⟩
         rw [Array.getElem?_append_left (by simp; omega)]
         simp
         rw [List.getElem?_append_right (by omega), ← hw]; congr 1; omega)
      refine J1h (e := ⟨.slr b 0 (rows.length + new'.length), [(b, .arr wm esz (rows ++ new'))]⟩) (g' := g') (hex (by rw [hzz, hzv]; exact hrun)) i' (t0.trans t') ?_
      refine .slr b 0 _ _ wm esz (rows ++ new') ⟨_, _, rfl, .inr (by simp)⟩ (J09 hb) (by simp) fun _ => .inr ⟨_, nc, _, el, (0, 0), hμ, by simp, hge, J72 rfl, ?_⟩
      rw [Nat.zero_add, hcsz]; exact Nat.le_refl _
     cases rx with
     | slr _ _ _ _ wm' esz' rows' q0 q1 q2 q3 =>
      have q1 : s.σ[b]? = some (.arr wm' esz' rows') := q1
      rw [hb] at q1; injection q1 with q1; injection q1 with a1 a2 a3; subst a1 a2 a3
      rcases q3 (by omega) with ⟨m', _, hn0, hv⟩ | ⟨r, cap, cc, e1, fz, m', hv, hcap, hh, hsz'⟩
      ·have hrnil : rows = [] := List.eq_nil_of_length_eq_zero hn0
       subst hrnil
       by_cases hnew : new' = []
       ·subst hnew
        simp at hnl; subst hnl
        subst hv
        have hrun : (Builtin.append_ #[t, ut] o.type #[.slice none 0 0, a.eval y']).run P s.w = .ok (.slice none 0 0) s.w := by
         exact hsrc.nil rfl
        have hset : s.σ.set b (.arr wm esz []) = s.σ := by
         apply List.ext_getElem?
         intro k
         by_cases hk : k = b
         ·subst hk; rw [J09 hb, hb]
         ·rw [JI (Ne.symm hk)]
        refine J1h (e := ⟨.slr b 0 0, [(b, .arr wm esz [])]⟩) (g' := s.g) (hex (by rw [hzz]; exact hrun)) ?_ ?_ ?_
        ·rw [JcV, hset]; exact hi
        ·rw [JcV, hset]; exact .refl s
        ·rw [JcV, hset]
         exact .slr b 0 0 _ wm esz [] ⟨none, 0, rfl, .inl rfl⟩ hb (Nat.le_refl _) fun _ => .inl ⟨m', rfl, rfl, rfl⟩
       ·refine grow (cap := 0) hv ?_
        have := List.length_pos_iff.2 hnew
        simpa using this
      ·subst hv
       by_cases hfits : rows.length + new'.length ≤ cap
       ·rcases hi.arr b _ _ _ hb with ⟨m'', _⟩ | ⟨r', c', e', fz', m'', hh', hrow, hlen, hxx, hff⟩
        ·rw [m'] at m''; cases m''
        ·rw [m'] at m''; injection m'' with m''; injection m'' with m'' _; subst m''
         rw [hh] at hh'; injection hh' with hh'; injection hh' with w1 w2 w3; subst w1 w2 w3
         have hbnd : (rows.length + new'.length) * esz ≤ cc.size := by
          have := Nat.mul_le_mul_right esz hfits
          simp at hsz'; omega
         have hadd : (rows.length + new'.length) * esz = rows.length * esz + new'.length * esz := Nat.add_mul _ _ _
         have hput := J5C (vs := news) (o := rows.length * esz) hh (by omega)
         obtain ⟨i', t'⟩ := Js2 hi hb m' hnrow hput hnl hnget
         have hrun := hsrc.room r 0 rows.length cap hfits
          (fun k hk => by rw [J2z, J1E hh]; simp; omega)
          (fun k hk => by
           have := hff.1 (0 + rows.length * esz + k) (by omega) (by omega)
           simp only [World.frozen?, hh]
           simpa using this)
         simp only [Nat.zero_add] at hrun
         obtain ⟨c0, e0, fz0, c'', p1, p2, p3, p4, p5, p6⟩ := hput.there
         rw [hh] at p1; injection p1 with p1; injection p1 with w1 w2 w3; subst w1 w2 w3
         refine J1h (e := ⟨.slr b 0 (rows.length + new'.length), [(b, .arr wm esz (rows ++ new'))]⟩) (hex (by rw [hzz]; simpa using hrun)) i' t' ?_
         refine .slr b 0 _ _ wm esz (rows ++ new') ⟨_, _, rfl, .inr (by simp)⟩ (J09 hb) (by simp) fun _ => .inr ⟨r, cap, c'', e1, fz, m', by simp, hfits, p2, by rw [p3]; simpa using hsz'⟩
       ·exact grow (cap := cap) rfl (by omega)
    ·cases h4
   ·cases h''
  ·cases h''
 ·cases h''
theorem JiG (hi : Inv s) {esz bytes : Nat} {zero : List PV} {u v : AV} {c : Call} {x' y' : Operand} {t ut el : TypeId} (hop : o.op = .call c) (hcal : c.callee = .builtin .append)
  (hargs : c.args.toList = [x', y']) (htys : c.argTypes.toList = [t, ut]) (hut : ((elT P ut).isSome || J4k P ut) = true) (hel : elT P t = some el)
  (ht : (szT P el == some esz && byT P el == some bytes && J7j P zero el && zero.length == esz && decide (0 < esz) && decide (0 < bytes)) = true)
  (rx : Jf s u (a.eval x')) (ry : Jf s v (a.eval y')) (h'' : (J5D esz bytes u v).run ⟨env, s.σ⟩ = some e) : J0h P o a s e :=
 JgW hi hop hcal hargs htys hel ht rx (fun _ _ _ hs hinf hsz hbytes hzero _ _ _ _ h3 => by
  obtain ⟨news, hsrc, h1, h2⟩ := JnU (u := ut) hi h3 ry (Bool.or_eq_true_iff.1 hut)
  exact ⟨news, Src.gen hel hs hinf hsz hbytes hzero hsrc, h1, h2⟩) h''
theorem JrB (hi : Inv s) (he : JA s a.tmps env) {esz bytes zero x y} (h : (opR F (.appz esz bytes zero x y) new).run ⟨env, s.σ⟩ = some e) (hc : Jk P (.appz esz bytes zero x y) o.op = true) : J0h P o a s e := by
 simp only [opR] at h
 obtain ⟨u, h1, h'⟩ := bind_some h
 obtain ⟨v, h2, h''⟩ := bind_some h'
 clear h h'
 unfold Jk at hc
 simp only at hc
 split at hc
 ·rename_i c hop
  split at hc
  ·rename_i hcal
   split at hc
   ·rename_i x' y' t ut hargs htys
    simp only [Bool.and_eq_true] at hc
    obtain ⟨⟨⟨hx, hy⟩, hut⟩, ht⟩ := hc
    split at ht
    ·rename_i el hel
     split at hut
     ·rename_i k hk
      split at h''
      ·rename_i c1 hz1
       unfold zrs at hz1
       split at hz1
       ·rename_i k' n
        split at hz1
        case isFalse => cases hz1
        rename_i hn
        injection hz1 with hz1
        subst hz1
        have ry := Jv he h2 hy
        obtain ⟨m, rfl⟩ : ∃ m : Nat, n = (m : Int) := ⟨n.toNat, by omega⟩
        have hv : a.eval y' = .int k' (m : Int) := by
         generalize a.eval y' = v0 at ry
         cases ry with | p _ _ h => cases h with | i => rfl
        refine JgW hi hop hcal hargs htys hel (by simpa only [Bool.and_eq_true] using ht) (Jv he h1 hx) (fun i z new hs hinf hsz hbytes hzero hz hzl hb1 hb2 h3 => ?_) h''
        simp only [J1D, if_pos, RM.run, Int.toNat_natCast] at h3
        injection h3 with h3
        subst h3
        rw [List.length_replicate] at hb1 hb2
        simp only [Bool.and_eq_true, beq_iff_eq, decide_eq_true_eq] at ht
        obtain ⟨⟨⟨⟨⟨_, _⟩, hzok⟩, hzl2⟩, hpos⟩, _⟩ := ht
        obtain ⟨z', hz', hzl', hzr⟩ := J3l hzok
        rw [hz] at hz'; injection hz' with hz'; subst hz'
        have hzs : z.cells.size = esz := by omega
        have hget : ∀ (j : Nat) (u : Value), z.cells[j]? = some u → ∃ y : PV, zero[j]? = some y ∧ Jl s.w s.g.C y u := by
         intro j u hu
         have hj : j < zero.length := by
          have := (Array.getElem?_eq_some_iff.1 hu).1
          omega
         exact ⟨zero[j], List.getElem?_eq_getElem hj, hzr j _ u (List.getElem?_eq_getElem hj) hu⟩
        refine ⟨(Builtin.zeroCells z.cells m).toList, ?_, fun row hr => by rw [(List.mem_replicate.1 hr).2]; exact hzl2, fun i j row y hrow hy => ?_⟩
        ·rw [List.length_replicate, hv]
         refine Jn2 hel hs hinf hsz hbytes hzero hzs (fun u hu => ?_) hk hb1 hb2
         obtain ⟨j, hj⟩ := List.getElem?_of_mem hu
         obtain ⟨y, _, hr⟩ := hget j u (by simpa using hj)
         exact hr.one
        ·have hi' : i < m := by
          have := J8 hrow
          simpa using this
         have hre : row = zero := (List.mem_replicate.1 (JM hrow)).2
         subst hre
         have hj := J8 hy
         have hj' : j < z.cells.size := by omega
         refine ⟨z.cells[j], ?_, hzr j y _ hy (Array.getElem?_eq_getElem hj')⟩
         have hlt : i * esz + j < m * esz := J48 hi' (by omega)
         unfold Builtin.zeroCells
         rw [Array.getElem?_toList, Array.getElem?_map, hzs, Array.getElem?_range, if_pos hlt]
         have e : (i * esz + j) % esz = j := by
          rw [Nat.mul_comm, Nat.mul_add_mod]; exact Nat.mod_eq_of_lt (by omega)
         simp only [Option.map_some, e]
         rw [getElem!_pos z.cells _ hj']
       ·cases hz1
      ·cases h''
     ·cases hut
    ·cases ht
   ·cases hc
  ·cases hc
 ·cases hc
theorem Jt2 (hi : Inv s) (he : JA s a.tmps env) {esz bytes zero x y} (h : (opR F (.app esz bytes zero x y) new).run ⟨env, s.σ⟩ = some e) (hc : Jk P (.app esz bytes zero x y) o.op = true) : J0h P o a s e := by
 simp only [opR] at h
 obtain ⟨u, h1, h'⟩ := bind_some h
 obtain ⟨v, h2, h''⟩ := bind_some h'
 clear h h'
 unfold Jk at hc
 simp only at hc
 split at hc
 ·rename_i c hop
  split at hc
  ·rename_i hcal
   split at hc
   ·rename_i x' y' t ut hargs htys
    simp only [Bool.and_eq_true] at hc
    obtain ⟨⟨⟨hx, hy⟩, hut⟩, ht⟩ := hc
    split at ht
    ·rename_i el hel
     exact JiG hi hop hcal hargs htys hut hel (by simpa only [Bool.and_eq_true] using ht) (Jv he h1 hx) (Jv he h2 hy) h''
    ·cases ht
   ·cases hc
  ·cases hc
 ·cases hc
theorem Jr5 (hi : Inv s) (he : JA s a.tmps env) (hn : s.σ[new]? = some .dead) {esz bytes zero y} (h : (opR F (.appn esz bytes zero y) new).run ⟨env, s.σ⟩ = some e) (hc : Jk P (.appn esz bytes zero y) o.op = true) : J0h P o a s e := by
 simp only [opR] at h
 obtain ⟨v, h2, h'⟩ := bind_some h
 obtain ⟨rows, h3, h4⟩ := bind_some h'
 clear h h'
 unfold Jk at hc
 simp only at hc
 split at hc
 ·rename_i c hop
  split at hc
  ·rename_i hcal
   split at hc
   ·rename_i y' t ut hargs htys
    simp only [Bool.and_eq_true] at hc
    obtain ⟨⟨hy, hut⟩, ht⟩ := hc
    split at ht
    ·rename_i el hel
     split at h4
     ·rename_i hroom
      simp only [RM.run] at h4; injection h4 with h4; subst h4
      obtain ⟨i1, t1⟩ := JcP hi hn esz
      have hself : (s.σ.set new (.arr true esz []))[new]? = some (.arr true esz []) := J09 hn
      have rx : Jf ⟨s.σ.set new (.arr true esz []), J3B s.g new none, s.w⟩ (.slr new 0 0) (a.eval (.const (.slice none 0 0))) :=
       .slr new 0 0 _ true esz [] ⟨none, 0, rfl, .inl rfl⟩ hself (Nat.le_refl _) fun _ => .inl ⟨if_pos rfl, rfl, rfl, rfl⟩
      have ry := (Jv he h2 hy).mono hi t1
      have h3' : (J1D esz v).run ⟨env, s.σ.set new (.arr true esz [])⟩ = some rows := by
       cases v with
       | slr b i n =>
        simp only [J1D, RM.run] at h3 ⊢
        by_cases hb : b = new
        ·subst hb; rw [hn] at h3; cases h3
        ·rw [JI (Ne.symm hb)]
         cases hq : s.σ[b]? with
         | none => rw [hq] at h3; cases h3
         | some B =>
          rw [hq] at h3
          cases B with
          | arr w z rw' =>
           simp only at h3 ⊢
           split at h3
           ·rename_i hh; rw [if_pos hh]; exact h3
           ·cases h3
          | _ => cases h3
       | p c => cases c <;> simp only [J1D] at h3 ⊢ <;> first | exact h3 | (split at h3 <;> rename_i hh <;> first | (rw [if_pos hh]; exact h3) | cases h3) | cases h3
       | _ => cases h3
      have happ : (J5D esz bytes (.slr new 0 0) v).run ⟨env, s.σ.set new (.arr true esz [])⟩ = some ⟨.slr new 0 rows.length, [(new, .arr true esz rows)]⟩ := by
       simp only [J5D, RM.run, hself, run_bind, h3', Option.bind_some, List.length_nil, Nat.zero_add, List.nil_append]
       rw [if_pos ⟨by trivial, by trivial, by trivial, hroom⟩]; rfl
      have ok := JiG (s := ⟨s.σ.set new (.arr true esz []), J3B s.g new none, s.w⟩) i1 hop hcal hargs htys hut hel (by simpa only [Bool.and_eq_true] using ht) rx ry happ
      intro next Q hnext
      refine ok next Q fun v' w' g' hi' ht' hr' => ?_
      have eσ : upd [(new, Blk.arr true esz rows)] (s.σ.set new (.arr true esz [])) = upd [(new, Blk.arr true esz rows)] s.σ := by
       simp only [JcV, List.set_set]
      simp only at hi' ht' hr'
      rw [eσ] at hi' ht' hr'
      exact hnext v' w' g' hi' (t1.trans ht') hr'
     ·cases h4
    ·cases ht
   ·cases hc
  ·cases hc
 ·cases hc
theorem JrA (hi : Inv s) (he : JA s a.tmps env) (hn : s.σ[new]? = some .dead) {esz bytes zero x y} (h : (opR F (.appc esz bytes zero x y) new).run ⟨env, s.σ⟩ = some e) (hc : Jk P (.appc esz bytes zero x y) o.op = true) : J0h P o a s e := by
 simp only [opR] at h
 obtain ⟨u, h1, h'⟩ := bind_some h
 obtain ⟨v, h2, h''⟩ := bind_some h'
 clear h h'
 unfold Jk at hc
 simp only at hc
 split at hc
 ·rename_i c hop
  split at hc
  ·rename_i hcal
   split at hc
   ·rename_i x' y' t ut hargs htys
    simp only [Bool.and_eq_true] at hc
    obtain ⟨⟨⟨hx, hy⟩, hut⟩, ht⟩ := hc
    split at ht
    ·rename_i el hel
     simp only [Bool.and_eq_true, beq_iff_eq, decide_eq_true_eq] at ht
     obtain ⟨⟨⟨⟨⟨hs, hby⟩, hz⟩, hzl⟩, hpos⟩, hbpos⟩ := ht
     obtain ⟨i, hinf, hsz⟩ := Jcy hs
     obtain ⟨z, hz1, hz2, hz3⟩ := J3l hz
     have hbytes := Jdt hby hinf
     have hzero := Jgq hz1 hinf
     have hm : c.args.map a.eval = #[a.eval x', a.eval y'] := by apply Array.ext'; simp [hargs]
     have hty : c.argTypes = #[t, ut] := by apply Array.ext'; rw [htys]
     have hex : ∀ {q : Value} {w' : World}, (Builtin.append_ #[t, ut] o.type #[a.eval x', a.eval y']).run P s.w = .ok q w' → (execOp a.eval o).run P s.w = .ok (.value q) w' := by
      intro q w' hr
      simp [execOp, hop, resolve, hcal, hm, hty, invoke, builtin, hr]
     have rx := Jv he h1 hx
     have ry := Jv he h2 hy
     unfold JjA at h''
     split at h''
     ·rename_i esz' rows
      obtain ⟨add, h3, h4⟩ := bind_some h''
      clear h''
      split at h4
      ·rename_i hcond
       obtain ⟨rfl, hne, hroom⟩ := hcond
       simp only [RM.run] at h4; injection h4 with h4; subst h4
       have hroom : (2 * (rows.length + add.length) + 512) * bytes ≤ 281474976710656 := by simpa [J1e] using hroom
       have hneed : rows.length + add.length ≤ 281474976710656 := by
        have h5 : (2 * (rows.length + add.length) + 512) * 1 ≤ (2 * (rows.length + add.length) + 512) * bytes := Nat.mul_le_mul_left _ hbpos
        omega
       obtain ⟨news, hsrc0, hnrow, hnget⟩ := JnU (u := ut) hi h3 ry (Bool.or_eq_true_iff.1 hut)
       have hsrc := Src.gen (t := t) (ty := o.type) hel hs hinf hsz hbytes hzero hsrc0
       have hnl := hsrc.newsLen
       generalize hzz : a.eval x' = zz at rx
       cases rx with
       | p _ _ rx =>
        cases rx with
        | slc _ _ base hrel =>
         have hslx := J4n.of_sl hrel
         obtain ⟨ad, cap', vs, hv, hcap', hvlen, hvrel, hvmem, hvrow⟩ := hslx.cells
         injection hv with v1 v2 v3; subst v1 v3
         have hlt : rows.length < rows.length + add.length := by
          omega
         have hfit : Builtin.nextslicecap (rows.length + add.length) rows.length * i.bytes ≤ 281474976710656 := by
          have h5 := nextslicecap_le hlt
          rw [hbytes]
          have h6 : Builtin.nextslicecap (rows.length + add.length) rows.length * bytes ≤ (2 * (rows.length + add.length) + 512) * bytes := Nat.mul_le_mul_right _ (by omega)
          omega
         have hold : (Builtin.firstCells esz rows.length (.slice base rows.length rows.length)).run P s.w.drew = .ok vs.toArray s.w.drew := by
          rcases hvmem with hnil | ⟨r, o', rfl, hvm⟩
          ·subst hnil
           simp at hvlen; subst hvlen
           cases base with
           | none => exact run_firstCells_none s.w.drew esz 0 0 0
           | some ad => exact run_firstCells_some s.w.drew esz 0 ad 0 0 [] (by simp) (fun j u h => by simp at h)
          ·exact run_firstCells_some s.w.drew esz _ _ _ rows.length vs hvlen (fun j q hj => by
            have : s.w.drew.cell? (Addr.add ⟨r, o', none⟩ j) = s.w.cell? (Addr.add ⟨r, o', none⟩ j) := by simp
            rw [this, J6R, J2z]; exact hvm j q hj)
         have hrun := hsrc.grow base rows.length rows.length vs hold hlt (by omega) (by rw [← hbytes]; exact hfit)
         have hge : rows.length + add.length ≤ grownCap s.w (rows.length + add.length) rows.length el := by unfold grownCap; simp [Question.cut]
         generalize grownCap s.w (rows.length + add.length) rows.length el = nc at hrun hge
         have hzs : z.cells.size = esz := by omega
         obtain ⟨i0, t0⟩ := Jc1 (w' := s.w.drew) hi rfl rfl rfl
         have hcsz : ((vs ++ news).toArray ++ Builtin.zeroCells z.cells (nc - (rows.length + add.length))).size = nc * esz := by
          have : nc * esz = (rows.length + add.length) * esz + (nc - (rows.length + add.length)) * esz := by rw [← Nat.add_mul]; congr 1; omega
          rw [this, Nat.add_mul]
          simp [size_zeroCells, hvlen, hnl, hzs]
         have hlen : (rows ++ add).length = rows.length + add.length := List.length_append
         obtain ⟨g', i', t', r'⟩ := JaR (s0 := ⟨s.σ, s.g, s.w.drew⟩) (new := new) i0 hn (esz := esz) (rows := rows ++ add) (cap := nc) (w' := s.w.drew.alloc (.cells ((vs ++ news).toArray ++ Builtin.zeroCells z.cells (nc - (rows.length + add.length))) el)) rfl rfl rfl
          (J9x.zero _ _)
          ⟨fun row hr => (List.mem_append.1 hr).elim (hvrow row) (hnrow row), by rw [hcsz, hlen]; exact Nat.mul_le_mul_right _ hge, fun k m row q hk hq => by
           have hm0 := J8 hq
           rcases J7M hk with hk | ⟨hgek, hk⟩
           ·have hk0 := J8 hk
            rw [hvrow row (JM hk)] at hm0
            have hlt' := J48 hk0 hm0
            have hfl := Jgi hvrow hk hq
            obtain ⟨w, hw, hrel⟩ := hvrel _ q hfl
            refine ⟨w, ?_, hrel.mono hi t0⟩
            rw [Array.getElem?_append_left (by simp; omega)]
            simp
            rw [List.getElem?_append_left (by omega)]; exact hw
           ·rw [hnrow row (JM hk)] at hm0
            have hk0 := J8 hk
            have hlt' := J48 hk0 hm0
            obtain ⟨w, hw, hrel⟩ := hnget _ m row q hk hq
            have e4 : k * esz + m = rows.length * esz + ((k - rows.length) * esz + m) := by
             rw [← Nat.add_assoc, ← Nat.add_mul, Nat.add_sub_cancel' hgek]
            refine ⟨w, ?_, hrel.mono hi t0⟩
            rw [Array.getElem?_append_left (by simp; omega)]
            simp
            rw [List.getElem?_append_right (by omega), ← hw]; congr 1; omega⟩ (by rw [hlen]; exact hge) (by rw [hcsz]; exact Nat.le_refl _)
         rw [hlen] at r'
         exact J1h (e := ⟨.slr new 0 (rows.length + add.length), [(new, .arr true esz (rows ++ add))]⟩) (g' := g') (hex (by rw [hzz]; exact hrun)) i' (t0.trans t') r'
      ·cases h4
     ·cases h''
    ·cases ht
   ·cases hc
  ·cases hc
 ·cases hc
end
end Go.Am
end
section
namespace Go.Am
theorem Jeg : ∀ {k1 k2 : List KD} {xs ys : List PV} {r : Bool}, J0L (k1 ++ k2) xs ys = some r →
  ∃ r1 r2, J0L k1 (xs.take k1.length) (ys.take k1.length) = some r1 ∧ J0L k2 (xs.drop k1.length) (ys.drop k1.length) = some r2 ∧ r = (r1 && r2)
 | [], k2, xs, ys, r, h => ⟨true, r, by simp [J0L], by simpa using h, by simp⟩
 | k :: k1, k2, xs, ys, r, h => by
  cases xs with
  | nil => simp [J0L] at h
  | cons x xs =>
   cases ys with
   | nil => simp [J0L] at h
   | cons y ys =>
    simp only [List.cons_append, J0L] at h
    split at h
    ·rename_i a c ha hc
     injection h with h; subst h
     obtain ⟨r1, r2, h1, h2, h3⟩ := Jeg hc
     exact ⟨a && r1, r2, by simp [J0L, ha, h1], by simpa using h2, by rw [h3, Bool.and_assoc]⟩
    ·cases h
theorem Jb1 : ∀ {ks : List KD} {xs ys : List PV} {r : Bool}, J0L ks xs ys = some r → xs.length = ks.length ∧ ys.length = ks.length
 | [], xs, ys, r, h => by cases xs <;> cases ys <;> simp [J0L] at h ⊢
 | k :: ks, xs, ys, r, h => by
  cases xs with
  | nil => simp [J0L] at h
  | cons x xs =>
   cases ys with
   | nil => simp [J0L] at h
   | cons y ys =>
    simp only [J0L] at h
    split at h
    ·rename_i a c ha hc
     obtain ⟨h1, h2⟩ := Jb1 hc
     simp [h1, h2]
    ·cases h
section
variable {P : Program} {F : Orc} {s : Sn} {a : Act} {env : List (Nat × AV)} {o : Oper} {new : Nat} {e : Eff}
def Jqa (P : Program) (t : TypeId) (vs : List Value) (X : Value) : Prop :=
 (agT P t = some true ∧ X = .agg vs.toArray) ∨ (agT P t = some false ∧ ∃ v, vs = [v] ∧ X = v)
theorem J9X {t : TypeId} {n off : Nat} {cs : Array Value} (hs : szT P t = some n) (hle : off + n ≤ cs.size) (hag : (agT P t = some true) ∨ (agT P t = some false ∧ n = 1)) (w : World) :
  ∃ X, (part t cs off).run P w = .ok X w ∧ Jqa P t ((cs.toList.drop off).take n) X := by
 rcases hag with h | ⟨h, rfl⟩
 ·refine ⟨.agg (cs.extract off (off + n)), by simp [part, J8Q h, J1S hs], .inl ⟨h, ?_⟩⟩
  congr 1
  apply Array.ext'
  rw [Array.toList_extract]
  simp [List.extract]
 ·have hlt : off < cs.size := by omega
  have hg : cs[off]? = some cs[off] := by simp [hlt]
  refine ⟨cs[off], by simp [part, J8Q h, hg], .inr ⟨h, cs[off], ?_, rfl⟩⟩
  have : cs.toList.drop off = cs[off] :: cs.toList.drop (off + 1) := by rw [List.drop_eq_getElem_cons (by simpa using hlt)]; simp
  rw [this]; rfl
def J8k (s : Sn) (xs : List PV) (vs : List Value) : Prop := xs.length = vs.length ∧ ∀ (i : Nat) x v, xs[i]? = some x → vs[i]? = some v → Jl s.w s.g.C x v
theorem J8k.take {xs vs} (h : J8k s xs vs) (n : Nat) : J8k s (xs.take n) (vs.take n) :=
 ⟨by simp [h.1], fun i x v hx hv => by
  rw [List.getElem?_take] at hx hv
  split at hx
  ·rename_i hi; rw [if_pos hi] at hv; exact h.2 i x v hx hv
  ·cases hx⟩
theorem J8k.drop {xs vs} (h : J8k s xs vs) (n : Nat) : J8k s (xs.drop n) (vs.drop n) :=
 ⟨by simp [h.1], fun i x v hx hv => by
  rw [List.getElem?_drop] at hx hv
  exact h.2 _ x v hx hv⟩
def EqK (P : Program) (s : Sn) (d : Nat) (t : TypeId) (ks : List KD) : Prop :=
 ∀ (e : Nat) (w : World) (xs ys : List PV) (vs us : List Value) (r : Bool) (X Y : Value), J0L ks xs ys = some r → J8k s xs vs → J8k s ys us → Jqa P t vs X → Jqa P t us Y →
  (Op.equalIn (d + e) t X Y).run P w = .ok r w
theorem Jdl {d : Nat} {t : TypeId} {ks : List KD} (h : J6u P d t = some ks) : agT P t = some true ∨ (agT P t = some false ∧ ks.length = 1) := by
 cases d with
 | zero => simp [J6u] at h
 | succ d =>
  unfold J6u at h
  split at h <;> rename_i hu
  ·injection h with h; subst h; exact .inr ⟨by simp [agT, hu, J9g], rfl⟩
  ·injection h with h; subst h; exact .inr ⟨by simp [agT, hu, J9g], rfl⟩
  ·injection h with h; subst h; exact .inr ⟨by simp [agT, hu, J9g], rfl⟩
  ·exact .inl (by simp [agT, hu, J9g])
  ·exact .inl (by simp [agT, hu, J9g])
  ·cases h
theorem JgT (d e : Nat) (IH : ∀ t ks, J6u P d t = some ks → EqK P s d t ks) (w : World) {xs ys : List PV} {vs us : List Value} (hx : J8k s xs vs) (hy : J8k s ys us) :
  ∀ {fs : List Field} {off : Nat} {ks : List KD} {r : Bool}, Jad P (J6u P d) off fs = some ks → J0L ks (xs.drop off) (ys.drop off) = some r →
   (Op.eqFields (d + e) vs.toArray us.toArray fs).run P w = .ok r w
 | [], off, ks, r, h, hc => by
  simp [Jad] at h; subst h
  cases hxd : xs.drop off <;> cases hyd : ys.drop off <;> simp [hxd, hyd, J0L] at hc
  subst hc
  simp [Op.eqFields]
 | f :: fs, off, ks, r, h, hc => by
  unfold Jad at h
  split at h
  ·cases h
  ·rename_i hn
   have hname : f.name ≠ "_" := fun e => hn (.inl e)
   have hoff : f.offset = off := by
    by_cases h : f.offset = off
    ·exact h
    ·exact (hn (.inr h)).elim
   split at h
   ·cases h
   ·rename_i k1 hk1
    split at h
    ·rename_i hsz
     obtain ⟨hsz, hpos⟩ := hsz
     split at h
     ·rename_i k2 hk2
      injection h with h; subst h
      obtain ⟨r1, r2, c1, c2, rfl⟩ := Jeg hc
      obtain ⟨l1, l2⟩ := Jb1 c1
      rw [List.length_take, List.length_drop] at l1 l2
      rw [List.drop_drop, List.drop_drop] at c2
      have hag := Jdl hk1
      obtain ⟨X, pX, fX⟩ := J9X (P := P) (cs := vs.toArray) (off := off) hsz (by have := hx.1; simp; omega) hag w
      obtain ⟨Y, pY, fY⟩ := J9X (P := P) (cs := us.toArray) (off := off) hsz (by have := hy.1; simp; omega) hag w
      have he := IH f.type k1 hk1 e w _ _ _ _ r1 X Y c1 ((hx.drop off).take _) ((hy.drop off).take _) (by simpa using fX) (by simpa using fY)
      have ih := JgT d e IH w hx hy hk2 c2
      simp only [Op.eqFields]
      rw [if_pos hname]
      simp only [Sem.run_bind, hoff, pX, pY, he, Result.andThen_ok, Sem.run_ite]
      cases r1
      ·simp
      ·simp [ih]
     ·cases h
    ·cases h
theorem Jks (d e : Nat) {t : TypeId} {ks : List KD} (IH : EqK P s d t ks) (hk : J6u P d t = some ks) (hsz : szT P t = some ks.length) (hpos : 0 < ks.length) (w : World) {xs ys : List PV} {vs us : List Value} (hx : J8k s xs vs) (hy : J8k s ys us) :
  ∀ {m i : Nat} {r : Bool}, J0L (List.replicate m ks).flatten (xs.drop (i * ks.length)) (ys.drop (i * ks.length)) = some r →
   (Op.eqItems (d + e) t ks.length vs.toArray us.toArray (List.range' i m)).run P w = .ok r w
 | 0, i, r, hc => by
  simp only [List.replicate_zero, List.flatten_nil] at hc
  cases hxd : xs.drop (i * ks.length) <;> cases hyd : ys.drop (i * ks.length) <;> simp [hxd, hyd, J0L] at hc
  subst hc
  simp [Op.eqItems]
 | m + 1, i, r, hc => by
  rw [List.replicate_succ, List.flatten_cons] at hc
  obtain ⟨r1, r2, c1, c2, rfl⟩ := Jeg hc
  obtain ⟨l1, l2⟩ := Jb1 c1
  rw [List.length_take, List.length_drop] at l1 l2
  rw [List.drop_drop, List.drop_drop] at c2
  have hag := Jdl hk
  obtain ⟨X, pX, fX⟩ := J9X (P := P) (cs := vs.toArray) (off := i * ks.length) hsz (by have := hx.1; simp; omega) hag w
  obtain ⟨Y, pY, fY⟩ := J9X (P := P) (cs := us.toArray) (off := i * ks.length) hsz (by have := hy.1; simp; omega) hag w
  have he := IH e w _ _ _ _ r1 X Y c1 ((hx.drop _).take _) ((hy.drop _).take _) (by simpa using fX) (by simpa using fY)
  have ih := Jks d e IH hk hsz hpos w hx hy (m := m) (i := i + 1) (r := r2) (by
   have : (i + 1) * ks.length = i * ks.length + ks.length := by rw [Nat.add_mul, Nat.one_mul]
   rw [this]; exact c2)
  rw [List.range'_succ]
  simp only [Op.eqItems, Sem.run_bind, pX, pY, he, Result.andThen_ok, Sem.run_ite]
  cases r1
  ·simp
  ·simp [ih]
theorem eqK : ∀ (d : Nat) (t : TypeId) (ks : List KD), J6u P d t = some ks → EqK P s d t ks
 | 0, t, ks, h => by simp [J6u] at h
 | d + 1, t, ks, h => by
  intro e w xs ys vs us r X Y hc hx hy fX fY
  have hde : d + 1 + e = (d + e) + 1 := by omega
  rw [hde]
  have hl := Jb1 hc
  unfold J6u at h
  have single : ∀ {k : KD}, agT P t = some false → ks = [k] → ∃ x y, xs = [x] ∧ ys = [y] ∧ JaY k x y = some r ∧ Jl s.w s.g.C x X ∧ Jl s.w s.g.C y Y := by
   rintro k hag rfl
   obtain ⟨x, rfl⟩ := List.length_eq_one_iff.1 hl.1
   obtain ⟨y, rfl⟩ := List.length_eq_one_iff.1 hl.2
   rcases fX with ⟨hag', _⟩ | ⟨_, v, rfl, rfl⟩
   ·rw [hag] at hag'; cases hag'
   ·rcases fY with ⟨hag', _⟩ | ⟨_, u, rfl, rfl⟩
    ·rw [hag] at hag'; cases hag'
    ·refine ⟨x, y, rfl, rfl, ?_, hx.2 0 x _ rfl rfl, hy.2 0 y _ rfl rfl⟩
     simp only [J0L] at hc
     cases hcp : JaY k x y with
     | none => simp [hcp] at hc
     | some b => simp [hcp] at hc; rw [hc]
  split at h <;> rename_i hu
  ·injection h with h; subst h
   obtain ⟨x, y, rfl, rfl, hcp, rx, ry⟩ := single (by simp [agT, hu, J9g]) rfl
   cases rx <;> cases ry <;> simp only [JaY] at hcp <;> try (cases hcp; done)
   injection hcp with hcp; subst hcp
   rw [run_equalIn_bool w (d + e) t _ _ hu]
  ·injection h with h; subst h
   obtain ⟨x, y, rfl, rfl, hcp, rx, ry⟩ := single (by simp [agT, hu, J9g]) rfl
   cases rx <;> cases ry <;> simp only [JaY] at hcp <;> try (cases hcp; done)
   split at hcp
   ·rename_i hk
    obtain ⟨rfl, rfl⟩ := hk
    injection hcp with hcp; subst hcp
    rw [run_equalIn_int w (d + e) t _ _ _ _ hu]
   ·cases hcp
  ·injection h with h; subst h
   obtain ⟨x, y, rfl, rfl, hcp, rx, ry⟩ := single (by simp [agT, hu, J9g]) rfl
   cases rx <;> cases ry <;> simp only [JaY] at hcp <;> try (cases hcp; done)
   injection hcp with hcp; subst hcp
   rw [run_equalIn_string w (d + e) t _ _ hu, JgU, JgU]
  ·rename_i fs
   split at h
   ·cases h
   ·rename_i hst
    have hag : agT P t = some true := by simp [agT, hu, J9g]
    rcases fX with ⟨_, rfl⟩ | ⟨hag', _⟩
    ·rcases fY with ⟨_, rfl⟩ | ⟨hag', _⟩
     ·have hfs : P.fieldsOf t = fs := by simp [Program.fieldsOf, hu]
      rw [run_equalIn_struct w (d + e) t _ _ (by rw [hfs]; exact hu) (by simpa using hst), hfs]
      exact JgT d e (fun t ks hk => eqK d t ks hk) w hx hy h (by simpa using hc)
     ·rw [hag] at hag'; cases hag'
    ·rw [hag] at hag'; cases hag'
  ·rename_i n el
   split at h
   ·rename_i k1 hk1
    split at h
    ·rename_i hsz
     injection h with h; subst h
     have hag : agT P t = some true := by simp [agT, hu, J9g]
     rcases fX with ⟨_, rfl⟩ | ⟨hag', _⟩
     ·rcases fY with ⟨_, rfl⟩ | ⟨hag', _⟩
      ·obtain ⟨i, hi, hisz⟩ := Jcy hsz.1
       have hcell : P.cellsOf el = k1.length := by simp [Program.cellsOf, hi, hisz]
       rw [run_equalIn_array w (d + e) _ _ hu hi, hcell, List.range_eq_range']
       exact Jks d e (eqK d el k1 hk1) hk1 hsz.1 hsz.2 w hx hy (i := 0) (by simpa using hc)
      ·rw [hag] at hag'; cases hag'
     ·rw [hag] at hag'; cases hag'
    ·cases h
   ·cases h
  ·cases h
theorem Jl9 (hi : Inv s) (he : JA s a.tmps env) {op ks x y} (h : (opR F (.bin op (.flat ks) x y) new).run ⟨env, s.σ⟩ = some e) (hc : Jk P (.bin op (.flat ks) x y) o.op = true) : J0h P o a s e := by
 simp only [opR] at h
 obtain ⟨u, h1, h'⟩ := bind_some h
 obtain ⟨v, h2, h''⟩ := bind_some h'
 obtain ⟨r, h3, rfl⟩ := J15 h''
 clear h h' h''
 unfold Jk at hc
 simp only at hc
 split at hc
 ·rename_i op' t x' y' ty hop
  simp only [Bool.and_eq_true, beq_iff_eq] at hc
  obtain ⟨⟨rfl, hx⟩, ⟨⟨hy, hk⟩, hag⟩, hg⟩ := hc
  have rx := Jv he h1 hx
  have ry := Jv he h2 hy
  generalize hzx : a.eval x' = zx at rx
  generalize hzy : a.eval y' = zy at ry
  simp only [J8j] at h3
  split at h3
  ·rename_i p q
   cases rx with
   | data _ vs p1 p2 =>
    cases ry with
    | data _ us q1 q2 =>
     have hb : ∃ b, J0L ks p q = some b := by
      cases hcm : J0L ks p q with
      | none => rw [hcm] at h3; cases op <;> simp [J62] at h3
      | some b => exact ⟨b, rfl⟩
     obtain ⟨b, hb⟩ := hb
     rw [hb] at h3
     obtain ⟨ho, rfl⟩ := J3Z h3
     have hguard : (eqGuard op t x' y' (.agg vs) (.agg us)).run P s.w = .ok () s.w := run_eqGuard_agg s.w op t x' y' vs us (by simpa using hg)
     have heq := eqK (P := P) (s := s) 100 t ks hk 9900 s.w p q vs.toList us.toList b (.agg vs) (.agg us) hb ⟨by simpa using p1, fun i x v hx hv => p2 i x v hx (by simpa using hv)⟩ ⟨by simpa using q1, fun i x v hx hv => q2 i x v hx (by simpa using hv)⟩ (.inl ⟨hag, by simp⟩) (.inl ⟨hag, by simp⟩)
     have hrun : (binOp op t (.agg vs) (.agg us)).run P s.w = .ok (.bool (if op = .eql then b else !b)) s.w := by
      rcases ho with rfl | rfl
      ·rw [run_eql_struct]
       rw [show (10000 : Nat) = 100 + 9900 from rfl, heq]; rfl
      ·rw [run_neq_struct]
       rw [show (10000 : Nat) = 100 + 9900 from rfl, heq]; rfl
     exact Jg hi (by simp only [execOp, hop, hzx, hzy]; simp only [Sem.run_bind, hguard, Result.andThen_ok, hrun, Sem.run_pure]) (J3O _)
  ·cases h3
 ·cases hc
end
end Go.Am
end
section
namespace Go.Am
def get (s : St) : Loc → Option (AV ⊕ Blk)
 | .slot n => (lk n s.env).map .inl
 | .blk b => (s.sto[b]?).map .inr
theorem Jox {α : Type} (m : RM α) (s s' : St) (h : ∀ l ∈ m.reads s, get s' l = get s l) : m.run s' = m.run s := by
 induction m with
 | ret a => rfl
 | slot n k ih =>
  have h0 := h (.slot n) (by simp [RM.reads])
  have h0 : lk n s'.env = lk n s.env := by
   simp only [get] at h0
   cases h1 : lk n s'.env <;> cases h2 : lk n s.env <;> simp_all
  simp only [RM.run, h0]
  split
  ·rename_i v hv
   exact ih v fun l hl => h l (by simp [RM.reads, hv, hl])
  ·rfl
 | blk b k ih =>
  have h0 := h (.blk b) (by simp [RM.reads])
  have h0 : s'.sto[b]? = s.sto[b]? := by
   simp only [get] at h0
   cases h1 : s'.sto[b]? <;> cases h2 : s.sto[b]? <;> simp_all
  simp only [RM.run, h0]
  split
  ·rename_i v hv
   exact ih v fun l hl => h l (by simp [RM.reads, hv, hl])
  ·rfl
 | fail => rfl
theorem J47 {b : Nat} : ∀ {ws : List (Nat × Blk)}, b ∉ ws.map (·.1) → J3i b ws = none
 | [], _ => rfl
 | (c, x) :: r, h => by
  simp at h
  simp only [J3i]
  rw [J47 (by simpa using h.2)]
  simp; exact fun e => h.1 e.symm
theorem Jfz {b : Nat} : ∀ {ws : List (Nat × Blk)}, b ∈ ws.map (·.1) → ∃ y, J3i b ws = some y
 | [], h => by simp at h
 | (c, x) :: r, h => by
  simp only [J3i]
  by_cases hr : b ∈ r.map (·.1)
  ·obtain ⟨y, hy⟩ := Jfz hr; exact ⟨y, by rw [hy]⟩
  ·rw [J47 hr]
   simp only [List.map_cons, List.mem_cons] at h
   rcases h with h | h
   ·exact ⟨x, by simp [h]⟩
   ·exact absurd h hr
theorem J7W : ∀ (ws : List (Nat × Blk)) (σ : List Blk), (upd ws σ).length = σ.length
 | [], _ => rfl
 | y :: ws, σ => by show (upd ws (σ.set y.1 y.2)).length = _; rw [J7W ws]; simp
theorem J70 : ∀ (ws : List (Nat × Blk)) (σ : List Blk) (b : Nat), b < σ.length → (upd ws σ)[b]? = match J3i b ws with
  | some y => some y
  | none => σ[b]?
 | [], σ, b, _ => rfl
 | (c, x) :: ws, σ, b, h => by
  show (upd ws (σ.set c x))[b]? = _
  rw [J70 ws (σ.set c x) b (by simpa using h)]
  simp only [J3i]
  cases hl : J3i b ws with
  | some y => rfl
  | none =>
   by_cases hc : c = b
   ·subst hc; simp [h]
   ·simp [hc]
structure Run (F : Orc) (ins : List J0E) (new : Nat → Nat) (S : Nat → St) (eff : Nat → Eff) : Prop where
 step : ∀ k i, ins[k]? = some i → (J0C F i (new k)).run (S k) = some (eff k) ∧ S (k + 1) = put i.dst (eff k) (S k)
structure Jik (F : Orc) (ins : List J0E) (new : Nat → Nat) (S : Nat → St) (eff : Nat → Eff) (i j : Nat) : Prop where
 slotW : ∀ x y m, ins[i]? = some x → ins[j]? = some y → x.dst = some m → y.dst ≠ some m ∧ Loc.slot m ∉ (J0C F y (new j)).reads (S j)
 slotR : ∀ x y m, ins[i]? = some x → ins[j]? = some y → y.dst = some m → Loc.slot m ∉ (J0C F x (new i)).reads (S i)
 blkW : ∀ y b, ins[j]? = some y → b ∈ (eff i).ws.map (·.1) → b ∉ (eff j).ws.map (·.1) ∧ Loc.blk b ∉ (J0C F y (new j)).reads (S j)
 blkR : ∀ x b, ins[i]? = some x → b ∈ (eff j).ws.map (·.1) → Loc.blk b ∉ (J0C F x (new i)).reads (S i)
section
variable {F : Orc} {ins : List J0E} {new : Nat → Nat} {S : Nat → St} {eff : Nat → Eff}
def J7f (ins : List J0E) (k : Nat) : Option Nat := (ins[k]?).bind (·.dst)
def J7g (ins : List J0E) (eff : Nat → Eff) (s0 : St) (D : Nat → Bool) : Nat → Nat → Option AV
 | 0, m => lk m s0.env
 | k + 1, m => if D k = true ∧ J7f ins k = some m then some (eff k).val else J7g ins eff s0 D k m
def J8i (eff : Nat → Eff) (s0 : St) (D : Nat → Bool) : Nat → Nat → Option Blk
 | 0, b => s0.sto[b]?
 | k + 1, b => if D k = true then (match J3i b (eff k).ws with
   | some y => some y
   | none => J8i eff s0 D k b) else J8i eff s0 D k b
structure Agree (ins : List J0E) (eff : Nat → Eff) (s0 : St) (D : Nat → Bool) (s : St) : Prop where
 slot : ∀ m, lk m s.env = J7g ins eff s0 D ins.length m
 len : s.sto.length = s0.sto.length
 blk : ∀ b, b < s0.sto.length → s.sto[b]? = J8i eff s0 D ins.length b
theorem JcC (hr : Run F ins new S eff) : ∀ k, k ≤ ins.length → (S k).sto.length = (S 0).sto.length
 | 0, _ => rfl
 | k + 1, h => by
  have hk : ins[k]? = some ins[k] := List.getElem?_eq_getElem (by omega)
  obtain ⟨_, h2⟩ := hr.step k _ hk
  rw [h2, ← JcC hr k (by omega)]
  unfold put
  split <;> simp [J7W]
theorem JbU (hr : Run F ins new S eff) (D : Nat → Bool) : ∀ k, k ≤ ins.length → (∀ j, j < k → D j = true) → ∀ m, J7g ins eff (S 0) D k m = lk m (S k).env
 | 0, _, _, m => rfl
 | k + 1, h, hD, m => by
  have hk : ins[k]? = some ins[k] := List.getElem?_eq_getElem (by omega)
  obtain ⟨_, h2⟩ := hr.step k _ hk
  simp only [J7g]
  rw [JbU hr D k (by omega) (fun j hj => hD j (by omega)) m, h2]
  have hd : J7f ins k = ins[k].dst := by simp [J7f, hk]
  rw [hd]
  unfold put
  cases hdk : ins[k].dst with
  | none => simp
  | some d =>
   simp only [lk]
   by_cases hm : m = d
   ·subst hm; simp [hD k (by omega)]
   ·simp [hm, Ne.symm hm]
theorem Jdu (hr : Run F ins new S eff) (D : Nat → Bool) : ∀ k, k ≤ ins.length → (∀ j, j < k → D j = true) → ∀ b, b < (S 0).sto.length → J8i eff (S 0) D k b = (S k).sto[b]?
 | 0, _, _, b, _ => rfl
 | k + 1, h, hD, b, hb => by
  have hk : ins[k]? = some ins[k] := List.getElem?_eq_getElem (by omega)
  obtain ⟨_, h2⟩ := hr.step k _ hk
  simp only [J8i]
  rw [Jdu hr D k (by omega) (fun j hj => hD j (by omega)) b hb, h2, if_pos (hD k (by omega))]
  have : (put ins[k].dst (eff k) (S k)).sto = upd (eff k).ws (S k).sto := by unfold put; split <;> rfl
  rw [this, J70 _ _ _ (by rw [JcC hr k (by omega)]; exact hb)]
theorem JaV {s0 : St} {D D' : Nat → Bool} {m : Nat} : ∀ n, (∀ j, j < n → J7f ins j = some m → D j = D' j) → J7g ins eff s0 D n m = J7g ins eff s0 D' n m
 | 0, _ => rfl
 | n + 1, h => by
  simp only [J7g]
  rw [JaV n fun j hj => h j (by omega)]
  by_cases hd : J7f ins n = some m
  ·rw [h n (by omega) hd]
  ·simp [hd]
theorem Jci {s0 : St} {D D' : Nat → Bool} {b : Nat} : ∀ n, (∀ j, j < n → b ∈ (eff j).ws.map (·.1) → D j = D' j) → J8i eff s0 D n b = J8i eff s0 D' n b
 | 0, _ => rfl
 | n + 1, h => by
  simp only [J8i]
  rw [Jci n fun j hj => h j (by omega)]
  by_cases hd : b ∈ (eff n).ws.map (·.1)
  ·rw [h n (by omega) hd]
  ·rw [J47 hd]; simp
theorem J9I {s0 : St} {D : Nat → Bool} {m k : Nat} : ∀ n, k ≤ n → (∀ j, k ≤ j → j < n → J7f ins j = some m → D j = false) → J7g ins eff s0 D n m = J7g ins eff s0 D k m
 | 0, h, _ => by
  have : k = 0 := by omega
  subst this; rfl
 | n + 1, h, hD => by
  by_cases hk : k = n + 1
  ·subst hk; rfl
  ·simp only [J7g]
   rw [J9I n (by omega) fun j h1 h2 => hD j h1 (by omega)]
   by_cases hd : J7f ins n = some m
   ·rw [hD n (by omega) (by omega) hd]; simp
   ·simp [hd]
theorem Jb2 {s0 : St} {D : Nat → Bool} {b k : Nat} : ∀ n, k ≤ n → (∀ j, k ≤ j → j < n → b ∈ (eff j).ws.map (·.1) → D j = false) → J8i eff s0 D n b = J8i eff s0 D k b
 | 0, h, _ => by
  have : k = 0 := by omega
  subst this; rfl
 | n + 1, h, hD => by
  by_cases hk : k = n + 1
  ·subst hk; rfl
  ·simp only [J8i]
   rw [Jb2 n (by omega) fun j h1 h2 => hD j h1 (by omega)]
   by_cases hd : b ∈ (eff n).ws.map (·.1)
   ·rw [hD n (by omega) (by omega) hd]; simp
   ·rw [J47 hd]; simp
theorem Jqx (hr : Run F ins new S eff) {D : Nat → Bool} {s : St} (ha : Agree ins eff (S 0) D s) {k : Nat} {i : J0E} (hk : ins[k]? = some i) (hkD : D k = false)
  (hlow : ∀ j, j < k → D j = false → Jik F ins new S eff j k) (hhigh : ∀ j, k < j → j < ins.length → D j = true → Jik F ins new S eff k j) :
  (J0C F i (new k)).run s = some (eff k) ∧ Agree ins eff (S 0) (fun j => if j = k then true else D j) (put i.dst (eff k) s) := by
 have hklt : k < ins.length := by
  rcases Nat.lt_or_ge k ins.length with h | h
  ·exact h
  ·simp [List.getElem?_eq_none h] at hk
 have get_at : ∀ j, j < ins.length → ins[j]? = some ins[j]! := fun j hj => by simp [hj]
 have dst_at : ∀ j, j < ins.length → J7f ins j = ins[j]!.dst := fun j hj => by simp [J7f, hj]
 obtain ⟨h1, h2⟩ := hr.step k i hk
 have hdk : J7f ins k = i.dst := by simp [J7f, hk]
 let T : Nat → Bool := fun _ => true
 have reads : ∀ l ∈ (J0C F i (new k)).reads (S k), get s l = get (S k) l := by
  intro l hl
  cases l with
  | slot m =>
   simp only [get]
   rw [ha.slot m]
   congr 1
   rw [J9I ins.length (k := k) (by omega) fun j hj1 hj2 hd => ?_]
   ·rw [JaV (D' := T) k fun j hj hd => ?_, JbU hr T k (by omega) (fun _ _ => rfl) m]
    cases hDj : D j with
    | true => rfl
    | false =>
     have := (hlow j hj hDj).slotW _ i m (get_at j (by omega)) hk (by rw [← dst_at j (by omega)]; exact hd)
     exact absurd hl this.2
   ·by_cases hjk : j = k
    ·subst hjk; exact hkD
    ·cases hDj : D j with
     | false => rfl
     | true =>
      have := (hhigh j (by omega) hj2 hDj).slotR i _ m hk (get_at j hj2) (by rw [← dst_at j hj2]; exact hd)
      exact absurd hl this
  | blk b =>
   simp only [get]
   by_cases hb : b < (S 0).sto.length
   ·rw [ha.blk b hb]
    congr 1
    rw [Jb2 ins.length (k := k) (by omega) fun j hj1 hj2 hd => ?_]
    ·rw [Jci (D' := T) k fun j hj hd => ?_, Jdu hr T k (by omega) (fun _ _ => rfl) b hb]
     cases hDj : D j with
     | true => rfl
     | false => exact absurd hl ((hlow j hj hDj).blkW i b hk hd).2
    ·by_cases hjk : j = k
     ·subst hjk; exact hkD
     ·cases hDj : D j with
      | false => rfl
      | true => exact absurd hl ((hhigh j (by omega) hj2 hDj).blkR i b hk hd)
   ·rw [List.getElem?_eq_none (by have := ha.len; omega), List.getElem?_eq_none (by have := JcC hr k (by omega); omega)]
 refine ⟨by rw [Jox _ (S k) s reads, h1], ?_, ?_, ?_⟩
 ·intro m
  have hput : lk m (put i.dst (eff k) s).env = if i.dst = some m then some (eff k).val else lk m s.env := by
   unfold put
   cases i.dst with
   | none => simp
   | some d => simp only [lk]; by_cases hm : m = d <;> simp [hm, Ne.symm] <;> exact fun e => absurd e.symm hm
  rw [hput, ha.slot m]
  by_cases hm : i.dst = some m
  ·rw [if_pos hm]
   rw [J9I ins.length (k := k + 1) (by omega) fun j hj1 hj2 hd => ?_]
   ·simp only [J7g]; simp [hdk, hm]
   ·have hjk : j ≠ k := by omega
    simp only [if_neg hjk]
    cases hDj : D j with
    | false => rfl
    | true =>
     have := (hhigh j (by omega) hj2 hDj).slotW i _ m hk (get_at j hj2) hm
     exact absurd (by rw [← dst_at j hj2]; exact hd) this.1
  ·rw [if_neg hm]
   refine JaV _ fun j hj hd => ?_
   have hjk : j ≠ k := by rintro rfl; rw [hdk] at hd; exact hm hd
   simp [hjk]
 ·have : (put i.dst (eff k) s).sto = upd (eff k).ws s.sto := by unfold put; split <;> rfl
  rw [this, J7W, ha.len]
 ·intro b hb
  have : (put i.dst (eff k) s).sto = upd (eff k).ws s.sto := by unfold put; split <;> rfl
  rw [this, J70 _ _ _ (by rw [ha.len]; exact hb), ha.blk b hb]
  by_cases hw : b ∈ (eff k).ws.map (·.1)
  ·obtain ⟨y, hy⟩ := Jfz hw
   simp only [hy]
   rw [Jb2 (D := fun j => if j = k then true else D j) ins.length (k := k + 1) (by omega) fun j hj1 hj2 hd => ?_]
   ·simp only [J8i]; simp [hy]
   ·have hjk : j ≠ k := by omega
    simp only [if_neg hjk]
    cases hDj : D j with
    | false => rfl
    | true => exact absurd hd ((hhigh j (by omega) hj2 hDj).blkW _ b (get_at j hj2) hw).1
  ·rw [J47 hw]
   refine Jci _ fun j hj hd => ?_
   have hjk : j ≠ k := by rintro rfl; exact hw hd
   simp [hjk]
theorem JkN : Agree ins eff (S 0) (fun _ => false) (S 0) := by
 refine ⟨fun m => ?_, rfl, fun b _ => ?_⟩
 ·rw [J9I ins.length (k := 0) (Nat.zero_le _) fun _ _ _ _ => rfl]; rfl
 ·rw [Jb2 ins.length (k := 0) (Nat.zero_le _) fun _ _ _ _ => rfl]; rfl
theorem JnT (hr : Run F ins new S eff) {D : Nat → Bool} {s : St} (ha : Agree ins eff (S 0) D s) (hD : ∀ j, j < ins.length → D j = true) :
  (∀ m, lk m s.env = lk m (S ins.length).env) ∧ s.sto = (S ins.length).sto := by
 refine ⟨fun m => by rw [ha.slot m, JbU hr D _ (Nat.le_refl _) hD m], List.ext_getElem? fun b => ?_⟩
 by_cases hb : b < (S 0).sto.length
 ·rw [ha.blk b hb, Jdu hr D _ (Nat.le_refl _) hD b hb]
 ·rw [List.getElem?_eq_none (by have := ha.len; omega), List.getElem?_eq_none (by have := JcC hr _ (Nat.le_refl _); omega)]
end
end Go.Am
end
section
namespace Go.Am
def oSl : Opd → List Nat
 | .t n => [n]
 | .c _ => []
def J57 : List Opd → List Nat
 | [] => []
 | x :: r => oSl x ++ J57 r
def JmQ : Option Opd → List Nat
 | none => []
 | some x => oSl x
def JZ : AOp → List Nat
 | .mv x | .box _ x | .appn _ _ _ x | .load _ _ x | .nilchk x | .un _ x | .conv _ x | .faddr _ x | .field _ _ _ x | .extr x _ | .len _ x => oSl x
 | .mkarr _ _ | .newbox _ | .alen _ => []
 | .pick c a b => oSl c ++ (oSl a ++ oSl b)
 | .build _ parts => J57 (parts.map (·.2.2))
 | .lits _ _ _ _ parts => J57 (parts.map (·.2))
 | .store _ x v => oSl x ++ oSl v
 | .bin _ _ x y | .iaddr _ x y | .aaddr _ _ x y | .sidx x y | .aidx _ _ _ x y | .app _ _ _ x y | .appz _ _ _ x y | .appc _ _ _ x y | .mm _ x y | .mkslice _ _ _ _ x y => oSl x ++ oSl y
 | .slice _ x lo hi mx => oSl x ++ (JmQ lo ++ (JmQ hi ++ JmQ mx))
 | .call _ args _ => J57 args
 | .callv g args _ => oSl g ++ J57 args
 | .mkfn _ a b => J57 a ++ J57 b
 | .newboxo _ _ => []
 | .buildo _ parts _ => J57 (parts.map (·.2.2))
 | .storen _ x => oSl x
 | .callo _ _ args _ => J57 args
def J5j (i : J0E) : List Nat := JZ i.op ++ match i.g with
 | some (g, _) => [g]
 | none => []
def JdS : AOp → Bool
 | .mkarr _ _ | .newbox _ | .box _ _ | .lits _ _ _ _ _ | .store _ _ _ | .conv (.toBytes _) _ | .mkslice _ _ _ _ _ _ | .slice (.sl _) _ _ _ _ | .call _ _ _ | .callv _ _ _ | .app _ _ _ _ _ | .appz _ _ _ _ _ | .appc _ _ _ _ _ | .appn _ _ _ _ | .newboxo _ _ | .buildo _ _ _ | .storen _ _ | .callo _ _ _ _ => true
 | _ => false
def JjR : AOp → Bool
 | .load _ _ _ | .iaddr _ _ _ | .conv .toStr _ => true
 | op => JdS op
def Sl {α : Type} (L : List Nat) (m : RM α) : Prop := ∀ s n, Loc.slot n ∈ m.reads s → n ∈ L
section
variable {α β : Type} {L : List Nat}
theorem Ji (a : α) : Sl L (.ret a) := fun s n h => by simp [RM.reads] at h
theorem Jd : Sl L (.fail : RM α) := fun s n h => by simp [RM.reads] at h
theorem J5r {b : Nat} {k : Blk → RM α} (h : ∀ v, Sl L (k v)) : Sl L (.blk b k) := fun s n hn => by
 simp only [RM.reads, List.mem_cons] at hn
 rcases hn with hn | hn
 ·cases hn
 ·split at hn
  ·exact h _ s n hn
  ·simp at hn
theorem Jly {m : Nat} {k : AV → RM α} (hm : m ∈ L) (h : ∀ v, Sl L (k v)) : Sl L (.slot m k) := fun s n hn => by
 simp only [RM.reads, List.mem_cons] at hn
 rcases hn with hn | hn
 ·cases hn; exact hm
 ·split at hn
  ·exact h _ s n hn
  ·simp at hn
theorem Ja {m : RM α} {f : α → RM β} (h : Sl L m) (hf : ∀ a, Sl L (f a)) : Sl L (m.bind f) := fun s n hn => by
 rw [J45, List.mem_append] at hn
 rcases hn with hn | hn
 ·exact h s n hn
 ·cases hr : m.run s with
  | none => simp [hr] at hn
  | some a => simp [hr] at hn; exact hf a s n hn
theorem JrL {L' : List Nat} {m : RM α} (h : Sl L m) (hl : ∀ x ∈ L, x ∈ L') : Sl L' m := fun s n hn => hl n (h s n hn)
theorem J0V {c : Prop} [Decidable c] {x y : RM α} (hx : Sl L x) (hy : Sl L y) : Sl L (if c then x else y) := by split <;> assumption
end
theorem J0g {L : List Nat} (x : Opd) (h : ∀ n ∈ oSl x, n ∈ L) : Sl L (ev x) := by
 cases x with
 | t n => exact Jly (h n (by simp [oSl])) fun v => Ji v
 | c v => exact Ji v
theorem JaI {L : List Nat} : ∀ (xs : List Opd), (∀ n ∈ J57 xs, n ∈ L) → Sl L (evs xs)
 | [], _ => Ji _
 | x :: xs, h => Ja (J0g x fun n hn => h n (by simp [J57, hn])) fun v => Ja (JaI xs fun n hn => h n (by simp [J57, hn])) fun vs => Ji _
theorem Jkg {L : List Nat} (x : Option Opd) (h : ∀ n ∈ JmQ x, n ∈ L) : Sl L (evo x) := by
 cases x with
 | none => exact Ji _
 | some x => exact Ja (J0g x h) fun v => Ji _
theorem J41 {L : List Nat} (x : Option AV) : Sl L (val x) := by cases x <;> first | exact Jd | exact Ji _
theorem Jtc {L : List Nat} (x : AV) : Sl L (fz.fz1 x) := by
 cases x <;> try exact Jd
 ·exact Ji _
 ·refine J5r fun v => ?_
  cases v <;> first | exact Jd | exact J0V (Ji _) Jd
theorem Jop {L : List Nat} : ∀ (xs : List AV), Sl L (fz.fzL xs)
 | [] => Ji _
 | x :: xs => Ja (Jtc x) fun _ => Ja (Jop xs) fun _ => Ji _
theorem Jf7 {L : List Nat} (x : AV) : Sl L (fz x) := by
 cases x <;> try first | exact Jd | exact Ji _
 ·exact Jop _
 ·refine J5r fun v => ?_
  cases v <;> first | exact Jd | exact J0V (Ji _) Jd
theorem Jom {L : List Nat} : ∀ (xs : List Opd), (∀ n ∈ J57 xs, n ∈ L) → Sl L (fzs xs)
 | [], _ => Ji _
 | x :: xs, h => Ja (J0g x fun n hn => h n (by simp [J57, hn])) fun v => Ja (Jf7 v) fun _ => Ja (Jom xs fun n hn => h n (by simp [J57, hn])) fun _ => Ji _
theorem J9T {L : List Nat} (esz : Nat) (x : AV) : Sl L (J1D esz x) := by
 unfold J1D
 split
 ·exact J0V (Ji _) Jd
 ·exact J0V (Ji _) Jd
 ·refine J5r fun v => ?_
  cases v <;> first | exact Jd | exact J0V (Ji _) Jd
 ·exact Jd
theorem Jp8 {L : List Nat} (agg : Bool) (size : Nat) (x : AV) : Sl L (J2V agg size x) := by
 unfold J2V
 split
 ·split
  ·exact J41 _
  ·exact Jd
 ·refine J5r fun v => ?_
  cases v <;> try exact Jd
  dsimp only
  split
  ·exact J41 _
  ·exact Jd
 ·refine J5r fun v => ?_
  cases v <;> try exact Jd
  dsimp only
  refine J0V ?_ Jd
  split
  ·split
   ·exact J41 _
   ·exact Jd
  ·exact Jd
 ·exact Jd
theorem JgR {L : List Nat} (size : Nat) (x v : AV) : Sl L (J2G size x v) := by
 unfold J2G
 split
 ·refine J5r fun v => ?_
  cases v <;> try exact Jd
  dsimp only
  split
  ·refine J0V ?_ Jd
   split
   ·exact Ji _
   ·exact Jd
  ·exact Jd
 ·refine J5r fun v => ?_
  cases v with
  | arr w esz rows =>
   cases w
   ·exact Jd
   ·dsimp only
    refine J0V ?_ Jd
    split
    ·refine Ja (Jf7 _) fun _ => J0V ?_ Jd
     split
     ·exact Ji _
     ·exact Jd
    ·exact Jd
  | _ => exact Jd
 ·exact Jd
theorem JnA {L : List Nat} (esz : Nat) (x i : AV) : Sl L (J4A esz x i) := by
 unfold J4A
 split
 ·refine J0V ?_ Jd
  split
  ·exact Ji _
  ·exact Jd
 ·refine J5r fun v => ?_
  cases v <;> first | exact Jd | exact J0V (Ji _) Jd
 ·exact Jd
theorem Jla {L : List Nat} (esz bytes : Nat) (x y : AV) : Sl L (J5D esz bytes x y) := by
 unfold J5D
 split
 ·refine J5r fun v => ?_
  cases v <;> try exact Jd
  exact Ja (J9T _ _) fun _ => J0V (Ji _) Jd
 ·exact Jd
theorem JcS {L : List Nat} (ws : List (Nat × Blk)) (b : Nat) : Sl L (Ja3 ws b) :=
 J5r fun v => by split <;> exact Ji _
theorem J8X {L : List Nat} (ws : List (Nat × Blk)) : ∀ (es acc : List Ent), Sl L (J2I ws es acc)
 | [], acc => Ji _
 | .whole b :: r, acc => Ja (JcS ws b) fun v => by cases v <;> exact J8X ws r _
 | .elem b e i :: r, acc => J8X ws r acc
theorem JfV {L : List Nat} (x : AV) : Sl L (J6e x) := by
 cases x <;> try first | exact Jd | exact Ji _
 ·exact Ja (Jf7 _) fun _ => Ji _
 ·refine Ja (Jf7 _) fun a => ?_
  split
  ·exact Ji _
  ·exact Jd
theorem Jjs {L : List Nat} : ∀ (xs : List AV), Sl L (J4J xs)
 | [] => Ji _
 | x :: xs => Ja (JfV x) fun _ => Ja (Jjs xs) fun _ => Ji _
theorem Jpi {L : List Nat} (ws : List (Nat × Blk)) (ρ : Ent → Option Nat) (e : Ent) : Sl L (Jbc ws ρ e) := by
 cases e with
 | whole b =>
  refine Ja (JcS ws b) fun v => ?_
  cases v
  ·exact Jd
  ·dsimp only
   split
   ·exact Ji _
   ·exact Jd
  ·exact Ji _
 | elem b e i =>
  refine Ja (JcS ws b) fun v => ?_
  cases v with
  | arr w esz rows =>
   cases w
   ·exact Jd
   ·dsimp only
    refine J0V ?_ Jd
    split
    ·exact Ji _
    ·exact Jd
  | _ => exact Jd
theorem Jc5 {L : List Nat} (ws : List (Nat × Blk)) (ρ : Ent → Option Nat) : ∀ (es : List Ent), Sl L (J3t ws ρ es)
 | [] => Ji _
 | e :: r => Ja (Jpi ws ρ e) fun _ => Ja (Jc5 ws ρ r) fun _ => Ji _
theorem JoP {L : List Nat} (ws : List (Nat × Blk)) (es : List Ent) (new : Nat) (e : Ent) (x : Blk) : Sl L (J5z ws es new e x) := by
 unfold J5z
 split
 ·split
  ·exact Ji _
  ·exact Jd
 ·exact Ji _
 ·refine Ja (JcS ws _) fun v => ?_
  cases v <;> try exact Jd
  dsimp only
  split
  ·exact Ji _
  ·exact Jd
 ·exact Jd
theorem Jbg {L : List Nat} (ws : List (Nat × Blk)) (es : List Ent) (new : Nat) : ∀ (e : List Ent) (x : List Blk), Sl L (J2g ws es new e x)
 | [], _ => Ji _
 | _ :: _, [] => Jd
 | e :: r, x :: l => Ja (JoP ws es new e x) fun _ => Ja (Jbg ws es new r l) fun _ => Ji _
theorem Jkm {L : List Nat} (F : Orc) (f : FuncId) (args : List AV) (k new : Nat) : Sl L (J3H F f args k new) := by
 unfold J3H
 refine Ja (Jjs _) fun a => Ja (J8X _ _ _) fun es1 => Ja (J8X _ _ _) fun es => J0V ?_ Jd
 split
 ·exact Jd
 ·refine Ja (Jc5 _ _ _) fun blks => ?_
  split
  ·exact Jd
  ·refine J0V ?_ Jd
   split
   ·exact Ja (Jbg _ _ _ _ _) fun _ => Ji _
   ·exact Jd
theorem Jnx {L : List Nat} (F : Orc) (f : FuncId) (a : List AV × List (Nat × Blk)) (k new : Nat) : Sl L (J1Q F f a k new) := by
 unfold J1Q
 refine Ja (J8X _ _ _) fun es1 => Ja (J8X _ _ _) fun es => J0V ?_ Jd
 split
 ·exact Jd
 ·refine Ja (Jc5 _ _ _) fun blks => ?_
  split
  ·exact Jd
  ·refine J0V ?_ Jd
   split
   ·exact Ja (Jbg _ _ _ _ _) fun _ => Ji _
   ·exact Jd
theorem Jbj {L : List Nat} : ∀ (m : List Bool) (xs : List AV), Sl L (J2i m xs)
 | _, [] => by cases ‹List Bool› <;> exact Ji _
 | [], x :: xs => Ja (JfV x) fun _ => Ja (Jbj [] xs) fun _ => Ji _
 | true :: m, x :: xs => Ja (Jbj m xs) fun _ => Ji _
 | false :: m, x :: xs => Ja (JfV x) fun _ => Ja (Jbj m xs) fun _ => Ji _
theorem JbJ {L : List Nat} : ∀ (xs : List (Nat × Nat × Opd)), (∀ n ∈ J57 (xs.map (·.2.2)), n ∈ L) → Sl L (J3x xs)
 | [], _ => Ji _
 | (a, b, x) :: xs, h => by
  unfold J3x
  refine Ja (J0g x fun n hn => h n (by simp [J57, hn])) fun v => ?_
  split
  ·exact Ja (JbJ xs fun n hn => h n (by simp [J57, hn])) fun _ => Ji _
  ·exact Jd
theorem Jtt (F : Orc) (op : AOp) (new : Nat) : Sl (JZ op) (opR F op new) := by
 cases op with
 | mv x => exact Ja (J0g x fun n h => h) fun v => Ji _
 | mkarr => exact Ji _
 | appn esz bytes zero y => exact Ja (J0g y fun n h => h) fun v => Ja (J9T _ _) fun _ => J0V (Ji _) Jd
 | pick c a b =>
  refine Ja (J0g c fun n h => by simp [JZ, h]) fun v => ?_
  cases v with
  | p q => cases q with
   | b x => exact J0V (Ja (J0g a fun n h => by simp [JZ, h]) fun _ => Ji _) (Ja (J0g b fun n h => by simp [JZ, h]) fun _ => Ji _)
   | _ => exact Jd
  | _ => exact Jd
 | newbox => exact Ji _
 | box size x =>
  refine Ja (J0g x fun n h => h) fun v => ?_
  split
  ·exact J0V (Ji _) Jd
  ·exact Jd
 | build zero parts =>
  refine Ja (JbJ parts fun n h => h) fun v => ?_
  split
  ·exact J41 _
  ·exact Jd
 | lits own esz n zero parts =>
  refine Ja (Jom _ fun n h => h) fun v => ?_
  split
  ·exact J0V (Ji _) (Ji _)
  ·exact Jd
 | load agg size x => exact Ja (J0g x fun n h => h) fun v => Jp8 _ _ _
 | store size x y => exact Ja (J0g x fun n h => by simp [JZ, h]) fun v => Ja (J0g y fun n h => by simp [JZ, h]) fun _ => JgR _ _ _
 | nilchk x =>
  refine Ja (J0g x fun n h => h) fun v => ?_
  cases v <;> first | exact Ji _ | exact Jd
 | bin op t x y => exact Ja (J0g x fun n h => by simp [JZ, h]) fun v => Ja (J0g y fun n h => by simp [JZ, h]) fun _ => J41 _
 | un op x => exact Ja (J0g x fun n h => h) fun v => J41 _
 | conv k x =>
  refine Ja (J0g x fun n h => h) fun v => ?_
  split
  ·exact Ji _
  ·exact Ji _
  ·refine Ja (J9T _ _) fun _ => ?_
   split
   ·exact Ji _
   ·exact Jd
  ·exact J0V (Ji _) (Ji _)
  ·exact Jd
 | mkslice own esz bytes zero x y =>
  refine Ja (J0g x fun n h => by simp [JZ, h]) fun v => Ja (J0g y fun n h => by simp [JZ, h]) fun u => ?_
  split
  ·exact J0V (J0V (Ji _) (Ji _)) Jd
  ·exact Jd
 | slice k x lo hi mx =>
  refine Ja (J0g x fun n h => by simp [JZ, h]) fun v => Ja (Jkg lo fun n h => by simp [JZ, h]) fun _ => Ja (Jkg hi fun n h => by simp [JZ, h]) fun _ => Ja (Jkg mx fun n h => by simp [JZ, h]) fun _ => ?_
  split
  ·refine Ja (Jf7 _) fun _ => ?_
   split
   ·split
    ·exact Ji _
    ·exact Jd
   ·exact Jd
  ·exact J41 _
 | faddr off x => exact Ja (J0g x fun n h => h) fun v => J41 _
 | field agg off size x => exact Ja (J0g x fun n h => h) fun v => J41 _
 | iaddr esz x y => exact Ja (J0g x fun n h => by simp [JZ, h]) fun v => Ja (J0g y fun n h => by simp [JZ, h]) fun _ => JnA _ _ _
 | aaddr len esz x y => exact Ja (J0g x fun n h => by simp [JZ, h]) fun v => Ja (J0g y fun n h => by simp [JZ, h]) fun _ => J41 _
 | sidx x y =>
  refine Ja (J0g x fun n h => by simp [JZ, h]) fun v => Ja (J0g y fun n h => by simp [JZ, h]) fun u => ?_
  split
  ·refine J0V ?_ Jd
   split
   ·exact Ji _
   ·exact Jd
  ·exact Jd
 | aidx agg len esz x y =>
  refine Ja (J0g x fun n h => by simp [JZ, h]) fun v => Ja (J0g y fun n h => by simp [JZ, h]) fun u => ?_
  split
  ·exact J0V (J41 _) Jd
  ·exact Jd
 | extr x i => exact Ja (J0g x fun n h => h) fun v => J41 _
 | call f args k => exact Ja (JaI args fun n h => h) fun v => Jkm _ _ _ _ _
 | callv g args k =>
  refine Ja (J0g g fun n h => by simp [JZ, h]) fun v => ?_
  cases v <;> try exact Jd
  exact Ja (JaI args fun n h => by simp [JZ, h]) fun _ => Jkm _ _ _ _ _
 | len str x => exact Ja (J0g x fun n h => h) fun v => J41 _
 | alen n => exact Ji _
 | appz esz bytes zero x y =>
  refine Ja (J0g x fun n h => by simp [JZ, h]) fun v => Ja (J0g y fun n h => by simp [JZ, h]) fun c => ?_
  split
  ·exact Jla _ _ _ _
  ·exact Jd
 | appc esz bytes zero x y =>
  refine Ja (J0g x fun n h => by simp [JZ, h]) fun v => Ja (J0g y fun n h => by simp [JZ, h]) fun c => ?_
  unfold JjA
  split
  ·exact Ja (J9T _ _) fun _ => J0V (Ji _) Jd
  ·exact Jd
 | app esz bytes zero x y => exact Ja (J0g x fun n h => by simp [JZ, h]) fun v => Ja (J0g y fun n h => by simp [JZ, h]) fun _ => Jla _ _ _ _
 | mm mx x y => exact Ja (J0g x fun n h => by simp [JZ, h]) fun v => Ja (J0g y fun n h => by simp [JZ, h]) fun _ => J41 _
 | mkfn f a b => exact Ja (JaI a fun n h => by simp [JZ, h]) fun v => Ja (JaI b fun n h => by simp [JZ, h]) fun _ => Ji _
 | newboxo => exact Ji _
 | buildo zero parts os =>
  refine Ja (JbJ parts fun n h => h) fun v => ?_
  split
  ·split
   ·exact Ji _
   ·exact Jd
  ·exact Jd
 | storen esz x => exact Ja (J0g x fun n h => h) fun v => Ja (JgR _ _ _) fun _ => Ji _
 | callo f keep args k => exact Ja (JaI args fun n h => h) fun v => Ja (Jbj _ _) fun _ => Jnx _ _ _ _ _
theorem Jix {L : List Nat} : ∀ (k new : Nat), Sl L (J8M new k)
 | 0, _ => Ji _
 | k + 1, new => J5r fun v => by cases v <;> first | exact Jix k _ | exact Jd
theorem Jlr (F : Orc) (i : J0E) (new : Nat) : Sl (J5j i) (J0C F i new) := by
 have h : Sl (J5j i) (opD F i.op new) := Ja (Jix _ _) fun _ => JrL (Jtt F i.op new) fun x hx => by simp [J5j, hx]
 unfold J0C
 split
 ·exact h
 ·rename_i g want hg
  refine Jly (by simp [J5j, hg]) fun v => ?_
  split
  ·exact J0V h (Ji _)
  ·exact Ji _
  ·exact Jd
end Go.Am
end
section
namespace Go.Am
def W0 (m : RM Eff) : Prop := ∀ s e, m.run s = some e → e.ws = []
def B0 {α : Type} (m : RM α) : Prop := ∀ s e, m.run s = some e → ∀ b, Loc.blk b ∉ m.reads s
theorem J3R (x : Option AV) : W0 (val x) := fun s e h => by
 cases x with
 | none => cases h
 | some v => simp only [val, RM.run] at h; injection h with h; rw [← h]
theorem J3Y (v : AV) : W0 (.ret ⟨v, []⟩) := fun s e h => by simp only [RM.run] at h; injection h with h; rw [← h]
theorem J0P : W0 .fail := fun s e h => by cases h
theorem J06 {α : Type} {m : RM α} {f : α → RM Eff} (h : ∀ a, W0 (f a)) : W0 (m.bind f) := fun s e he => by
 rw [run_bind] at he
 cases hm : m.run s with
 | none => rw [hm] at he; cases he
 | some a => rw [hm] at he; exact h a s e he
theorem Jjo {b : Nat} {k : Blk → RM Eff} (h : ∀ v, W0 (k v)) : W0 (.blk b k) := fun s e he => by
 simp only [RM.run] at he
 split at he
 ·exact h _ s e he
 ·cases he
theorem J90 {c : Prop} [Decidable c] {x y : RM Eff} (hx : W0 x) (hy : W0 y) : W0 (if c then x else y) := by split <;> assumption
theorem Jrg {g : Nat} {k : AV → RM Eff} (h : ∀ v, W0 (k v)) : W0 (.slot g k) := fun s e he => by
 simp only [RM.run] at he
 split at he
 ·exact h _ s e he
 ·cases he
theorem J2e {α : Type} (a : α) : B0 (.ret a) := fun s e _ b h => by simp [RM.reads] at h
theorem J3p {α : Type} : B0 (.fail : RM α) := fun s e h => by cases h
theorem J5y (x : Option AV) : B0 (val x) := by cases x <;> first | exact J3p | exact J2e _
theorem J03 {α β : Type} {m : RM α} {f : α → RM β} (hm : B0 m) (h : ∀ a, B0 (f a)) : B0 (m.bind f) := fun s e he b hb => by
 rw [run_bind] at he
 rw [J45] at hb
 cases hr : m.run s with
 | none => rw [hr] at he; cases he
 | some a =>
  rw [hr] at he hb
  rcases List.mem_append.1 hb with hb | hb
  ·exact hm s a hr b hb
  ·exact h a s e he b (by simpa using hb)
theorem Jfh {α : Type} {c : Prop} [Decidable c] {x y : RM α} (hx : B0 x) (hy : B0 y) : B0 (if c then x else y) := by split <;> assumption
theorem J26 (x : Opd) : B0 (ev x) := by
 cases x with
 | t n => exact fun s e _ b h => by simp only [ev, RM.reads, List.mem_cons] at h; rcases h with h | h; cases h; split at h <;> simp [RM.reads] at h
 | c v => exact J2e _
theorem Js7 {α : Type} {g : Nat} {k : AV → RM α} (h : ∀ v, B0 (k v)) : B0 (.slot g k) := fun s e he b hb => by
 simp only [RM.run] at he
 simp only [RM.reads, List.mem_cons] at hb
 rcases hb with hb | hb
 ·cases hb
 ·cases hl : lk g s.env with
  | none => rw [hl] at he; cases he
  | some v =>
   rw [hl] at he hb
   exact h v s e he b hb
theorem Jiy : ∀ xs : List Opd, B0 (evs xs)
 | [] => J2e _
 | x :: xs => J03 (J26 x) fun _ => J03 (Jiy xs) fun _ => J2e _
theorem Jiv (x : Option Opd) : B0 (evo x) := by
 cases x with
 | none => exact J2e _
 | some x => exact J03 (J26 x) fun _ => J2e _
theorem JgO : ∀ (xs : List (Nat × Nat × Opd)), B0 (J3x xs)
 | [] => J2e _
 | (a, b, x) :: xs => by
  unfold J3x
  refine J03 (J26 x) fun v => ?_
  split
  ·exact J03 (JgO xs) fun _ => J2e _
  ·exact J3p
theorem Jlo (lo hi mx : Option AV) (c : PV) (hc : ∀ l, c ≠ .s l) : J3v .str (.p c) lo hi mx = none := by
 cases mx with
 | some _ => rfl
 | none => cases c <;> first | rfl | exact absurd rfl (hc _)
theorem Jtn (F : Orc) (op : AOp) (new : Nat) (h : JdS op = false) : W0 (opR F op new) := by
 cases op with
 | mkarr => cases h
 | newboxo => cases h
 | buildo => cases h
 | storen => cases h
 | callo => cases h
 | newbox => cases h
 | box => cases h
 | lits => cases h
 | store => cases h
 | mkslice => cases h
 | call => cases h
 | callv => cases h
 | app => cases h
 | appz => cases h
 | appc => cases h
 | appn => cases h
 | mv x => exact J06 fun _ => J3Y _
 | pick c a b =>
  refine J06 fun v => ?_
  cases v with
  | p q => cases q with
   | b x => exact J90 (J06 fun _ => J3Y _) (J06 fun _ => J3Y _)
   | _ => exact J0P
  | _ => exact J0P
 | build zero parts =>
  refine J06 fun v => ?_
  split
  ·exact J3R _
  ·exact J0P
 | load agg size x =>
  refine J06 fun v => ?_
  unfold J2V
  split
  ·split
   ·exact J3R _
   ·exact J0P
  ·refine Jjo fun v => ?_
   cases v <;> try exact J0P
   dsimp only
   split
   ·exact J3R _
   ·exact J0P
  ·refine Jjo fun v => ?_
   cases v <;> try exact J0P
   dsimp only
   refine J90 ?_ J0P
   split
   ·split
    ·exact J3R _
    ·exact J0P
   ·exact J0P
  ·exact J0P
 | nilchk x =>
  refine J06 fun v => ?_
  cases v <;> first | exact J3Y _ | exact J0P
 | bin op t x y => exact J06 fun _ => J06 fun _ => J3R _
 | un op x => exact J06 fun _ => J3R _
 | conv k x =>
  refine J06 fun v => ?_
  split
  ·exact J3Y _
  ·exact J3Y _
  ·refine J06 fun _ => ?_
   split
   ·exact J3Y _
   ·exact J0P
  ·cases h
  ·exact J0P
 | slice k x lo hi mx =>
  cases k with
  | sl esz => cases h
  | str =>
   refine J06 fun v => J06 fun _ => J06 fun _ => J06 fun _ => ?_
   split
   ·rename_i b i n
    intro s e he
    exfalso
    rw [run_bind] at he
    cases h1 : (fz (.slr b i n)).run s with
    | none => rw [h1] at he; cases he
    | some y =>
     rw [h1] at he
     have hsl : ∃ ez rw, y.1 = [.sl ez rw] := by
      simp only [fz, RM.run] at h1
      split at h1
      ·split at h1
       ·split at h1
        ·simp only [RM.run] at h1; injection h1 with h1; rw [← h1]; exact ⟨_, _, rfl⟩
        ·cases h1
       ·cases h1
      ·cases h1
     obtain ⟨ez, rw', hy⟩ := hsl
     simp only [Option.bind_some, hy, Jlo _ _ _ (.sl ez rw') (by simp)] at he
     cases he
   ·exact J3R _
 | faddr off x => exact J06 fun _ => J3R _
 | field agg off size x => exact J06 fun _ => J3R _
 | iaddr esz x y =>
  refine J06 fun v => J06 fun u => ?_
  unfold J4A
  split
  ·refine J90 ?_ J0P
   split
   ·exact J3Y _
   ·exact J0P
  ·refine Jjo fun v => ?_
   cases v <;> first | exact J0P | exact J90 (J3Y _) J0P
  ·exact J0P
 | aaddr len esz x y => exact J06 fun _ => J06 fun _ => J3R _
 | sidx x y =>
  refine J06 fun v => J06 fun u => ?_
  split
  ·refine J90 ?_ J0P
   split
   ·exact J3Y _
   ·exact J0P
  ·exact J0P
 | aidx agg len esz x y =>
  refine J06 fun v => J06 fun u => ?_
  split
  ·exact J90 (J3R _) J0P
  ·exact J0P
 | extr x i => exact J06 fun _ => J3R _
 | len str x => exact J06 fun _ => J3R _
 | alen n => exact J3Y _
 | mm mx x y => exact J06 fun _ => J06 fun _ => J3R _
 | mkfn f a b => exact J06 fun _ => J06 fun _ => J3Y _
theorem JsF (F : Orc) (op : AOp) (new : Nat) (h : JjR op = false) : B0 (opR F op new) := by
 cases op with
 | mkarr => cases h
 | newboxo => cases h
 | buildo => cases h
 | storen => cases h
 | callo => cases h
 | newbox => cases h
 | box => cases h
 | lits => cases h
 | store => cases h
 | mkslice => cases h
 | call => cases h
 | callv => cases h
 | app => cases h
 | appz => cases h
 | appc => cases h
 | appn => cases h
 | load => cases h
 | iaddr => cases h
 | mv x => exact J03 (J26 x) fun _ => J2e _
 | pick c a b =>
  refine J03 (J26 c) fun v => ?_
  cases v with
  | p q => cases q with
   | b x => exact Jfh (J03 (J26 a) fun _ => J2e _) (J03 (J26 b) fun _ => J2e _)
   | _ => exact J3p
  | _ => exact J3p
 | build zero parts =>
  refine J03 (JgO parts) fun v => ?_
  split
  ·exact J5y _
  ·exact J3p
 | nilchk x =>
  refine J03 (J26 x) fun v => ?_
  cases v <;> first | exact J2e _ | exact J3p
 | bin op t x y => exact J03 (J26 x) fun _ => J03 (J26 y) fun _ => J5y _
 | un op x => exact J03 (J26 x) fun _ => J5y _
 | conv k x =>
  refine J03 (J26 x) fun v => ?_
  split
  ·exact J2e _
  ·exact J2e _
  ·cases h
  ·cases h
  ·exact J3p
 | slice k x lo hi mx =>
  cases k with
  | sl esz => cases h
  | str =>
   refine J03 (J26 x) fun v => J03 (Jiv lo) fun _ => J03 (Jiv hi) fun _ => J03 (Jiv mx) fun _ => ?_
   split
   ·rename_i b i n
    intro s e he
    exfalso
    rw [run_bind] at he
    cases h1 : (fz (.slr b i n)).run s with
    | none => rw [h1] at he; cases he
    | some y =>
     rw [h1] at he
     have hsl : ∃ ez rw, y.1 = [.sl ez rw] := by
      simp only [fz, RM.run] at h1
      split at h1
      ·split at h1
       ·split at h1
        ·simp only [RM.run] at h1; injection h1 with h1; rw [← h1]; exact ⟨_, _, rfl⟩
        ·cases h1
       ·cases h1
      ·cases h1
     obtain ⟨ez, rw', hy⟩ := hsl
     simp only [Option.bind_some, hy, Jlo _ _ _ (.sl ez rw') (by simp)] at he
     cases he
   ·exact J5y _
 | faddr off x => exact J03 (J26 x) fun _ => J5y _
 | field agg off size x => exact J03 (J26 x) fun _ => J5y _
 | aaddr len esz x y => exact J03 (J26 x) fun _ => J03 (J26 y) fun _ => J5y _
 | sidx x y =>
  refine J03 (J26 x) fun v => J03 (J26 y) fun u => ?_
  split
  ·refine Jfh ?_ J3p
   split
   ·exact J2e _
   ·exact J3p
  ·exact J3p
 | aidx agg len esz x y =>
  refine J03 (J26 x) fun v => J03 (J26 y) fun u => ?_
  split
  ·exact Jfh (J5y _) J3p
  ·exact J3p
 | extr x i => exact J03 (J26 x) fun _ => J5y _
 | len str x => exact J03 (J26 x) fun _ => J5y _
 | alen n => exact J2e _
 | mm mx x y => exact J03 (J26 x) fun _ => J03 (J26 y) fun _ => J5y _
 | mkfn f a b => exact J03 (Jiy a) fun _ => J03 (Jiy b) fun _ => J2e _
theorem Jo4 {op : AOp} (h : JjR op = false) : JdS op = false := by
 cases op <;> first | rfl | cases h | skip
 ·rename_i k x; cases k <;> first | rfl | cases h
 ·rename_i k x lo hi mx; cases k <;> first | rfl | cases h
theorem JrK {op : AOp} (h : JdS op = false) : J3K op = 0 := by
 cases op <;> first | rfl | cases h | skip
 rename_i k x; cases k <;> first | rfl | cases h
theorem Jgn (F : Orc) (i : J0E) (new : Nat) (h : JdS i.op = false) : W0 (J0C F i new) := by
 have h1 : W0 (opD F i.op new) := J06 fun _ => Jtn F _ _ h
 unfold J0C
 split
 ·exact h1
 ·refine Jrg fun v => ?_
  split
  ·exact J90 h1 (J3Y _)
  ·exact J3Y _
  ·exact J0P
theorem JlS (F : Orc) (i : J0E) (new : Nat) (h : JjR i.op = false) : B0 (J0C F i new) := by
 have h1 : B0 (opD F i.op new) := by
  unfold opD
  rw [JrK (Jo4 h)]
  exact J03 (J2e _) fun _ => JsF F _ _ h
 unfold J0C
 split
 ·exact h1
 ·refine Js7 fun v => ?_
  split
  ·exact Jfh h1 (J2e _)
  ·exact J2e _
  ·exact J3p
end Go.Am
end
section
namespace Go.Am
theorem Jl.weaken {w : World} {C C' : Nat → Nat → Prop} (h : ∀ r o, C r o → C' r o) {x v} (hr : Jl w C x v) : Jl w C' x v := by
 induction hr with
 | b x => exact .b x
 | i k n => exact .i k n
 | s l => exact .s l
 | np => exact .np
 | nf => exact .nf
 | sl0 esz a cap => exact .sl0 esz a cap
 | sl esz rows r o cap vals h1 h2 h3 _ ih => exact .sl esz rows r o cap vals h1 h2 (fun i j row x hr hx => ⟨h _ _ (h3 i j row x hr hx).1, (h3 i j row x hr hx).2⟩) ih
 | slc esz rows a _ ih => exact .slc esz rows a ih
theorem Jm4 {s c : Sn} (hi : Inv s) (hw : c.w = s.w) (hbox : ∀ k cs, c.σ[k]? = some (.box cs) → Jic c k cs) (harr : ∀ k wm esz rows, c.σ[k]? = some (.arr wm esz rows) → Ji6 c k wm esz rows)
  (id : Nat → Nat) (inj : ∀ k1 k2, k1 < c.σ.length → k2 < c.σ.length → id k1 = id k2 → k1 = k2) (wr : ∀ k r o, Wr1 c k r o → Wr1 s (id k) r o)
  (hC : ∀ r o, c.g.C r o → r < s.w.heap.size ∧ ∀ k, ¬ Wr1 c k r o) : Inv c := by
 have hlt : ∀ k r o, Wr1 c k r o → k < c.σ.length := by
  intro k r o h
  unfold Wr1 at h
  cases hk : c.σ[k]? with
  | none => rw [hk] at h; exact h.elim
  | some b => exact J8 hk
 exact ⟨hbox, harr, fun k1 k2 r o h1 h2 => inj k1 k2 (hlt _ _ _ h1) (hlt _ _ _ h2) (hi.apart _ _ _ _ (wr _ _ _ h1) (wr _ _ _ h2)), fun r o h => by rw [hw]; exact hC r o h⟩
theorem J3X {m ids sto} : ∀ {xs ys : List AV}, fin.finL m ids sto xs = some ys → xs.length = ys.length ∧ ∀ (i : Nat) x y, xs[i]? = some x → ys[i]? = some y → fin m ids sto x = some y
 | [], ys, h => by simp [fin.finL] at h; subst h; exact ⟨rfl, fun i x y h => by simp at h⟩
 | x :: xs, ys, h => by
  simp only [fin.finL] at h
  split at h
  ·rename_i y l hy hl
   injection h with h; subst h
   obtain ⟨h1, h2⟩ := J3X hl
   refine ⟨by simp [h1], fun i a b ha hb => ?_⟩
   cases i with
   | zero => simp at ha hb; subst ha hb; exact hy
   | succ i => exact h2 i a b (by simpa using ha) (by simpa using hb)
  ·cases h
theorem J8y {m ids sto} : ∀ {xs ys : List Blk}, J80 m ids sto xs = some ys → xs.length = ys.length ∧ ∀ (i : Nat) x y, xs[i]? = some x → ys[i]? = some y → J3r m ids sto x = some y
 | [], ys, h => by simp [J80] at h; subst h; exact ⟨rfl, fun i x y h => by simp at h⟩
 | x :: xs, ys, h => by
  simp only [J80] at h
  split at h
  ·rename_i y l hy hl
   injection h with h; subst h
   obtain ⟨h1, h2⟩ := J8y hl
   refine ⟨by simp [h1], fun i a b ha hb => ?_⟩
   cases i with
   | zero => simp at ha hb; subst ha hb; exact hy
   | succ i => exact h2 i a b (by simpa using ha) (by simpa using hb)
  ·cases h
theorem Jfa {sto} : ∀ {ids : List Nat} {ys : List Blk}, J9F sto ids = some ys → ids.length = ys.length ∧ ∀ (i : Nat) b y, ids[i]? = some b → ys[i]? = some y → sto[b]? = some y
 | [], ys, h => by simp [J9F] at h; subst h; exact ⟨rfl, fun i x y h => by simp at h⟩
 | x :: xs, ys, h => by
  simp only [J9F] at h
  split at h
  ·rename_i y l hy hl
   injection h with h; subst h
   obtain ⟨h1, h2⟩ := Jfa hl
   refine ⟨by simp [h1], fun i a b ha hb => ?_⟩
   cases i with
   | zero => simp at ha hb; subst ha hb; exact hy
   | succ i => exact h2 i a b (by simpa using ha) (by simpa using hb)
  ·cases h
theorem J9M {b : Nat} : ∀ {ids : List Nat} {k j : Nat}, J34 b ids k = some j → k ≤ j ∧ ids[j - k]? = some b
 | [], k, j, h => by simp [J34] at h
 | x :: r, k, j, h => by
  simp only [J34] at h
  split at h
  ·rename_i hx; injection h with h; subst h; exact ⟨Nat.le_refl _, by simp [hx]⟩
  ·obtain ⟨h1, h2⟩ := J9M h
   refine ⟨by omega, ?_⟩
   rw [show j - k = (j - (k + 1)) + 1 by omega]
   simpa using h2
theorem Jh8 {b : Nat} : ∀ {ids : List Nat} {k : Nat}, J34 b ids k = none → b ∉ ids
 | [], _, _ => by simp
 | x :: r, k, h => by
  simp only [J34] at h
  split at h
  ·cases h
  ·rename_i hx
   simp only [List.mem_cons, not_or]
   exact ⟨fun e => hx e.symm, Jh8 h⟩
theorem J8w : ∀ {l : List Nat}, J3f l = true → l.Nodup
 | [], _ => List.nodup_nil
 | x :: r, h => by
  simp only [J3f, Bool.and_eq_true, Bool.not_eq_true'] at h
  refine List.nodup_cons.2 ⟨?_, J8w h.2⟩
  intro hm
  have : r.contains x = true := by simpa using hm
  rw [this] at h; cases h.1
theorem J9G {α : Type} : ∀ {l : List α}, l.Nodup → ∀ {i j : Nat} {x : α}, l[i]? = some x → l[j]? = some x → i = j
 | [], _, i, j, x, h, _ => by simp at h
 | y :: l, h, i, j, x, h1, h2 => by
  obtain ⟨hn, hl⟩ := List.nodup_cons.1 h
  cases i with
  | zero =>
   cases j with
   | zero => rfl
   | succ j => simp at h1 h2; subst h1; exact absurd (JM h2) hn
  | succ i =>
   cases j with
   | zero => simp at h1 h2; subst h2; exact absurd (JM h1) hn
   | succ j => exact congrArg (· + 1) (J9G hl (i := i) (j := j) (x := x) (by simpa using h1) (by simpa using h2))
def Jut (s : Sn) (m : Nat) (ids : List Nat) : Nat → Nat → Prop := fun r o =>
 s.g.C r o ∨ ∃ b wm esz rows, m ≤ b ∧ b ∉ ids ∧ s.σ[b]? = some (Blk.arr wm esz rows) ∧ s.g.μ b = some (r, 0) ∧ o < rows.length * esz
def J4R (s : Sn) (m : Nat) (ids : List Nat) (σ : List Blk) : Sn :=
 ⟨σ, ⟨fun k => if k < m then s.g.μ k else match ids[k - m]? with
  | some b => s.g.μ b
  | none => none, Jut s m ids⟩, s.w⟩
section
variable {s : Sn} {m : Nat} {ids : List Nat} {l q q' : List Blk}
def J4c (m : Nat) (ids : List Nat) (k : Nat) : Nat := if k < m then k else (ids[k - m]?).getD 0
structure Jnn (s : Sn) (m : Nat) (ids : List Nat) (σ : List Blk) : Prop where
 inv : Inv s
 le : m ≤ s.σ.length
 nodup : ids.Nodup
 ge : ∀ b ∈ ids, m ≤ b
 len : σ.length = m + ids.length
 blk : ∀ k x, σ[k]? = some x → ∃ y, s.σ[J4c m ids k]? = some y ∧ J3r m ids s.σ y = some x
variable {σ : List Blk} (h : Jnn s m ids σ)
theorem J8t (k : Nat) (hk : k < m + ids.length) : (J4R s m ids σ).g.μ k = s.g.μ (J4c m ids k) := by
 simp only [J4R, J4c]
 split
 ·rfl
 ·have : k - m < ids.length := by omega
  simp [this]
include h in
theorem Jgg {k : Nat} {x : Blk} (hk : σ[k]? = some x) : k < m + ids.length ∧ ∃ y, s.σ[J4c m ids k]? = some y ∧ J3r m ids s.σ y = some x := by
 have := J8 hk
 exact ⟨by rw [← h.len]; exact this, h.blk k x hk⟩
include h in
theorem Jc6 {b k : Nat} {y : Blk} (hid : J4c m ids k = b) (hk : k < m + ids.length) (hb : s.σ[b]? = some y) : ∃ x, σ[k]? = some x ∧ J3r m ids s.σ y = some x := by
 have hlt : k < σ.length := by rw [h.len]; exact hk
 obtain ⟨y', h1, h2⟩ := h.blk k σ[k] (List.getElem?_eq_getElem hlt)
 rw [hid, hb] at h1; injection h1 with h1; subst h1
 exact ⟨_, List.getElem?_eq_getElem hlt, h2⟩
theorem J5U {k : Nat} (hk : k < m) : J4c m ids k = k := by simp [J4c, hk]
theorem JfT {b j : Nat} (hj : J34 b ids m = some j) : J4c m ids j = b ∧ j < m + ids.length := by
 obtain ⟨h1, h2⟩ := J9M hj
 have := J8 h2
 exact ⟨by simp [J4c, h2]; omega, by omega⟩
include h in
theorem JfP {x y : AV} {v : Value} (hr : Jf s x v) : fin m ids s.σ x = some y → Jf (J4R s m ids σ) y v := by
 have hC : ∀ r o, s.g.C r o → (J4R s m ids σ).g.C r o := fun r o h => .inl h
 induction hr generalizing y with
 | p c v hp => intro hf; simp [fin] at hf; subst hf; exact .p _ _ (hp.weaken hC)
 | data cs vs h1 h2 => intro hf; simp [fin] at hf; subst hf; exact .data _ _ h1 fun i x v hx hv => (h2 i x v hx hv).weaken hC
 | agg cs vs h1 h0 h2 ih =>
  intro hf
  simp only [fin] at hf
  split at hf
  ·rename_i l hl
   obtain ⟨k1, k2⟩ := J3X hl
   have hrel : ∀ (i : Nat) y v, l[i]? = some y → vs[i]? = some v → Jf (J4R s m ids σ) y v := by
    intro i y v hy hv
    have hlt := J8 hy
    have hx : cs[i]? = some (cs[i]'(by omega)) := List.getElem?_eq_getElem _
    exact ih i _ v hx hv (k2 i _ y hx hy)
   split at hf
   ·rename_i q hq
    injection hf with hf; subst hf
    have := Jb8 hq; subst this
    refine .data _ _ (by simpa [k1] using h1) fun i c v hc hv => ?_
    have := hrel i (.p c) v (by simp [hc]) hv
    cases this with | p _ _ h => exact h
   ·injection hf with hf; subst hf
    exact .agg _ _ (by omega) h0 hrel
  ·cases hf
 | tup cs vs h1 h2 ih =>
  intro hf
  simp only [fin] at hf
  split at hf
  ·rename_i l hl
   injection hf with hf; subst hf
   obtain ⟨k1, k2⟩ := J3X hl
   refine .tup _ _ (by omega) fun i y v hy hv => ?_
   have hlt := J8 hy
   have hx : cs[i]? = some (cs[i]'(by omega)) := List.getElem?_eq_getElem _
   exact ih i _ v hx hv (k2 i _ y hx hy)
  ·cases hf
 | ptr b off r o hm hb =>
  intro hf
  obtain ⟨cs, hb⟩ := hb
  have go : ∀ k, J4c m ids k = b → k < m + ids.length → Jf (J4R s m ids σ) (.ptr k off) (.pointer (some ⟨r, o + off, none⟩)) := by
   intro k hid hk
   obtain ⟨x, hx, hfx⟩ := Jc6 h hid hk hb
   simp only [J3r] at hfx
   split at hfx
   ·injection hfx with hfx; subst hfx
    exact .ptr k off r o (by rw [J8t k hk, hid]; exact hm) ⟨_, hx⟩
   ·cases hfx
  simp only [fin] at hf
  split at hf
  ·rename_i hlt
   injection hf with hf; subst hf
   exact go b (J5U hlt) (by omega)
  ·obtain ⟨k, hk, rfl⟩ := Option.map_eq_some_iff.1 hf
   obtain ⟨h1, h2⟩ := JfT hk
   exact go k h1 h2
 | cp cs off r o vals p1 p2 =>
  intro hf; simp [fin] at hf; subst hf
  exact .cp cs off r o vals (fun j x hx => ⟨hC _ _ (p1 j x hx).1, (p1 j x hx).2⟩) fun j x hx => (p2 j x hx).weaken hC
 | slr b i n v wm esz rows h0 hb hle hv =>
  intro hf
  have go : ∀ k, J4c m ids k = b → k < m + ids.length → Jf (J4R s m ids σ) (.slr k i n) v := by
   intro k hid hk
   obtain ⟨x, hx, hfx⟩ := Jc6 h hid hk hb
   simp only [J3r] at hfx
   injection hfx with hfx; subst hfx
   refine .slr k i n v wm esz rows h0 hx hle fun e => ?_
   have hμ : (J4R s m ids σ).g.μ k = s.g.μ b := by rw [J8t k hk, hid]
   rcases hv e with ⟨m', q1, q2, q3⟩ | ⟨r, cap, c, e1, fz, m', q⟩
   ·exact .inl ⟨by rw [hμ]; exact m', q1, q2, q3⟩
   ·exact .inr ⟨r, cap, c, e1, fz, by rw [hμ]; exact m', q⟩
  simp only [fin] at hf
  split at hf
  ·rename_i hlt
   injection hf with hf; subst hf
   exact go b (J5U hlt) (by omega)
  ·rename_i hge
   split at hf
   ·rename_i k hk
    injection hf with hf; subst hf
    obtain ⟨h1, h2⟩ := JfT hk
    exact go k h1 h2
   ·rename_i hnone
    rw [hb] at hf
    simp only at hf
    split at hf
    ·rename_i e
     injection hf with hf; subst hf
     obtain ⟨a, cap, k1, k2, k3, k4⟩ := J4n.of_slr h.inv (.slr b i n v wm esz rows h0 hb hle hv) hb e
     refine .p _ _ (Ja2 (s := J4R s m ids σ) k1 k2 k3 (k4.imp id ?_))
     rintro ⟨r, o, rfl, hx⟩
     refine ⟨r, o, rfl, fun k j row x hk hj => ⟨.inr ⟨b, wm, esz, rows, by omega, Jh8 hnone, hb, ?_⟩, ?_⟩⟩
     ·rcases hv e with ⟨m', q1, q2, q3⟩ | ⟨r', cap', c, e1, fz, m', q1, _⟩
      ·rw [k1] at q3; simp at q3
      ·rw [k1] at q1; injection q1 with v1 v2 v3; injection v1 with v1; injection v1 with v1 v4; subst v1 v4
       refine ⟨m', ?_⟩
       have hk' := J8 hk
       have hj' := J8 hj
       rw [k3 row (JM hk)] at hj'
       rw [List.length_drop] at hk'
       have := J48 (a := i + k) (b := j) (n := rows.length) (e := esz) (by omega) hj'
       rw [Nat.add_mul] at this
       exact this
     ·obtain ⟨u, hu, hr⟩ := hx k j row x hk hj
      exact ⟨u, hu, hr.weaken hC⟩
    ·cases hf
 | ep b ext i off v wm esz rows h0 hb hle hv =>
  intro hf
  have go : ∀ k, J4c m ids k = b → k < m + ids.length → Jf (J4R s m ids σ) (.ep k ext i off) v := by
   intro k hid hk
   obtain ⟨x, hx, hfx⟩ := Jc6 h hid hk hb
   simp only [J3r] at hfx
   injection hfx with hfx; subst hfx
   refine .ep k ext i off v wm esz rows h0 hx hle fun e1 e2 => ?_
   obtain ⟨r, m', q⟩ := hv e1 e2
   exact ⟨r, by rw [J8t k hk, hid]; exact m', q⟩
  simp only [fin] at hf
  split at hf
  ·rename_i hlt
   injection hf with hf; subst hf
   exact go b (J5U hlt) (by omega)
  ·obtain ⟨k, hk, rfl⟩ := Option.map_eq_some_iff.1 hf
   obtain ⟨h1, h2⟩ := JfT hk
   exact go k h1 h2
 | fn f first caps fs cs h1 h2 _ _ ih1 ih2 =>
  intro hf
  simp only [fin] at hf
  split at hf
  ·rename_i a c ha hc
   injection hf with hf; subst hf
   obtain ⟨k1, k2⟩ := J3X ha
   obtain ⟨k3, k4⟩ := J3X hc
   refine .fn f a c fs cs (by omega) (by omega) (fun i y v hy hv => ?_) (fun i y v hy hv => ?_)
   ·have hlt := J8 hy
    have hx : first[i]? = some (first[i]'(by omega)) := List.getElem?_eq_getElem _
    exact ih1 i _ v hx hv (k2 i _ y hx hy)
   ·have hlt := J8 hy
    have hx : caps[i]? = some (caps[i]'(by omega)) := List.getElem?_eq_getElem _
    exact ih2 i _ v hx hv (k4 i _ y hx hy)
  ·cases hf
 | unk x => intro hf; simp [fin] at hf; subst hf; exact .unk x
include h in
theorem Jew (k r o : Nat) (hw : Wr1 (J4R s m ids σ) k r o) : k < m + ids.length ∧ Wr1 s (J4c m ids k) r o := by
 unfold Wr1 at hw
 have hσ : (J4R s m ids σ).σ = σ := rfl
 rw [hσ] at hw
 cases hk : σ[k]? with
 | none => rw [hk] at hw; exact hw.elim
 | some x =>
  obtain ⟨hlt, y, hy, hf⟩ := Jgg h hk
  refine ⟨hlt, ?_⟩
  rw [hk] at hw
  rw [J8t k hlt] at hw
  unfold Wr1
  rw [hy]
  cases y with
  | dead => simp [J3r] at hf; subst hf; exact hw
  | box cs =>
   simp only [J3r] at hf
   split at hf
   ·rename_i l hl
    injection hf with hf; subst hf
    have := (J3X hl).1
    simp only at hw ⊢
    rw [this]; exact hw
   ·cases hf
  | arr w esz rows => simp [J3r] at hf; subst hf; exact hw
include h in
theorem Jlz : Inv (J4R s m ids σ) := by
 have hi := h.inv
 have inj : ∀ k1 k2, k1 < m + ids.length → k2 < m + ids.length → J4c m ids k1 = J4c m ids k2 → k1 = k2 := by
  intro k1 k2 h1 h2 he
  simp only [J4c] at he
  split at he <;> split at he
  ·exact he
  ·rename_i a b
   have : k2 - m < ids.length := by omega
   have := h.ge ids[k2 - m] (by simp)
   simp [show k2 - m < ids.length by omega] at he
   omega
  ·rename_i a b
   have := h.ge (ids[k1 - m]'(by omega)) (by simp)
   simp [show k1 - m < ids.length by omega] at he
   omega
  ·have e1 : k1 - m < ids.length := by omega
   have e2 : k2 - m < ids.length := by omega
   simp [e1, e2] at he
   have := J9G h.nodup (List.getElem?_eq_getElem e1) (by rw [he]; exact List.getElem?_eq_getElem e2)
   omega
 refine Jm4 hi rfl ?_ ?_ (J4c m ids) (fun k1 k2 h1 h2 he => inj k1 k2 (by rw [← h.len]; exact h1) (by rw [← h.len]; exact h2) he) (fun k r o hw => (Jew h k r o hw).2) ?_
 ·intro k cs hk
  obtain ⟨hlt, y, hy, hf⟩ := Jgg h hk
  cases y with
  | dead => simp [J3r] at hf
  | arr => simp [J3r] at hf
  | box cs0 =>
   simp only [J3r] at hf
   split at hf
   ·rename_i l hl
    injection hf with hf; injection hf with hf; subst hf
    obtain ⟨k1, k2⟩ := J3X hl
    obtain ⟨r, o, c, e, fz, hm, hh, hle, hx, hfr⟩ := hi.box _ _ hy
    refine ⟨r, o, c, e, fz, by rw [J8t k hlt]; exact hm, hh, by omega, fun i x hix => ?_, by rw [← k1]; exact hfr⟩
    have hi' := J8 hix
    have hx0 : cs0[i]? = some (cs0[i]'(by omega)) := List.getElem?_eq_getElem _
    obtain ⟨v, hv, hr, h1⟩ := hx i _ hx0
    exact ⟨v, hv, JfP h hr (k2 i _ x hx0 hix), h1⟩
   ·cases hf
 ·intro k wm esz rows hk
  obtain ⟨hlt, y, hy, hf⟩ := Jgg h hk
  cases y with
  | dead => simp [J3r] at hf
  | box cs0 => simp only [J3r] at hf; split at hf <;> cases hf
  | arr w e rs =>
   simp [J3r] at hf
   obtain ⟨rfl, rfl, rfl⟩ := hf
   rcases hi.arr _ _ _ _ hy with ⟨hm, hr⟩ | ⟨r, c, e, fz, hm, hh, hrow, hl, hx, hfr⟩
   ·exact .inl ⟨by rw [J8t k hlt]; exact hm, hr⟩
   ·refine .inr ⟨r, c, e, fz, by rw [J8t k hlt]; exact hm, hh, hrow, hl, fun i j row x h1 h2 => ?_, hfr⟩
    obtain ⟨⟨v, hv, hr⟩, hc⟩ := hx i j row x h1 h2
    exact ⟨⟨v, hv, hr.weaken fun r o h => .inl h⟩, fun e => .inl (hc e)⟩
 ·intro r o hc
  rcases hc with hc | ⟨b, wm, esz, rows, hb1, hb2, hb3, hb4, hb5⟩
  ·exact ⟨(hi.const r o hc).1, fun k hw => (hi.const r o hc).2 _ (Jew h k r o hw).2⟩
  ·rcases hi.arr _ _ _ _ hb3 with ⟨hm, _⟩ | ⟨r', c, e, fz, hm, hh, hrow, hl, hx, _⟩
   ·rw [hb4] at hm; cases hm
   ·rw [hb4] at hm; injection hm with hm; injection hm with hm _; subst hm
    refine ⟨J0o hh, fun k hw => ?_⟩
    obtain ⟨hlt, hw⟩ := Jew h k r o hw
    have hneq : J4c m ids k ≠ b := by
     intro e
     simp only [J4c] at e
     split at e
     ·omega
     ·have : k - m < ids.length := by omega
      simp [this] at e
      exact hb2 (by rw [← e]; simp)
    cases wm with
    | true =>
     refine hneq (hi.apart _ _ _ _ hw ?_)
     unfold Wr1; rw [hb3]; exact ⟨0, hb4⟩
    | false =>
     have hpos : 0 < esz := by
      rcases Nat.eq_zero_or_pos esz with h0 | h0
      ·subst h0; simp at hb5
      ·exact h0
     have hdiv : o / esz < rows.length := Nat.div_lt_of_lt_mul (by rw [Nat.mul_comm]; exact hb5)
     have hrow1 : rows[o / esz]? = some (rows[o / esz]'hdiv) := List.getElem?_eq_getElem _
     have hlen := hrow _ (JM hrow1)
     have hmod : o % esz < (rows[o / esz]'hdiv).length := by rw [hlen]; exact Nat.mod_lt _ hpos
     have hcc := (hx _ _ _ _ hrow1 (List.getElem?_eq_getElem hmod)).2 rfl
     have : o / esz * esz + o % esz = o := by rw [Nat.mul_comm]; exact Nat.div_add_mod o esz
     rw [this] at hcc
     exact (hi.const r o hcc).2 _ hw
include h in
theorem Jhp {E : Sn} (t : Js E s) (hE : E.σ.length ≤ m) : Js E (J4R s m ids σ) := by
 have hi := h.inv
 refine ⟨t.keep, fun r o hc => .inl (t.cmono r o hc), fun r o hc => ?_, fun r o ⟨k, hw⟩ => t.wnew r o ⟨_, (Jew h k r o hw).2⟩, ?_, fun b cs hb => ?_, fun b wm esz rows hb => ?_⟩
 ·rcases hc with hc | ⟨b, wm, esz, rows, hb1, hb2, hb3, hb4, hb5⟩
  ·exact t.cnew r o hc
  ·cases wm with
   | true =>
    have := t.wnew r o ⟨b, by unfold Wr1; rw [hb3]; exact ⟨0, hb4⟩⟩
    exact .inr this
   | false =>
    rcases hi.arr _ _ _ _ hb3 with ⟨hm, _⟩ | ⟨r', c, e, fz, hm, hh, hrow, hl, hx, _⟩
    ·rw [hb4] at hm; cases hm
    ·rw [hb4] at hm; injection hm with hm; injection hm with hm _; subst hm
     have hpos : 0 < esz := by
      rcases Nat.eq_zero_or_pos esz with h0 | h0
      ·subst h0; simp at hb5
      ·exact h0
     have hdiv : o / esz < rows.length := Nat.div_lt_of_lt_mul (by rw [Nat.mul_comm]; exact hb5)
     have hrow1 : rows[o / esz]? = some (rows[o / esz]'hdiv) := List.getElem?_eq_getElem _
     have hlen := hrow _ (JM hrow1)
     have hmod : o % esz < (rows[o / esz]'hdiv).length := by rw [hlen]; exact Nat.mod_lt _ hpos
     have hcc := (hx _ _ _ _ hrow1 (List.getElem?_eq_getElem hmod)).2 rfl
     have : o / esz * esz + o % esz = o := by rw [Nat.mul_comm]; exact Nat.div_add_mod o esz
     rw [this] at hcc
     exact t.cnew r o hcc
 ·show E.σ.length ≤ σ.length
  rw [h.len]; omega
 ·have hblt : b < m := by have := J8 hb; omega
  obtain ⟨⟨cs', h1, h2⟩, h3⟩ := t.box b cs hb
  obtain ⟨x, hx, hfx⟩ := Jc6 h (J5U hblt) (by omega) h1
  simp only [J3r] at hfx
  split at hfx
  ·rename_i l hl
   injection hfx with hfx; subst hfx
   exact ⟨⟨l, hx, by rw [← (J3X hl).1]; exact h2⟩, by rw [J8t b (by omega), J5U hblt]; exact h3⟩
  ·cases hfx
 ·have hblt : b < m := by have := J8 hb; omega
  obtain ⟨wm', rows', h1, h2, h3, h4⟩ := t.arr b wm esz rows hb
  obtain ⟨x, hx, hfx⟩ := Jc6 h (J5U hblt) (by omega) h1
  simp [J3r] at hfx; subst hfx
  exact ⟨wm', rows', hx, h2, h3, fun e => by rw [J8t b (by omega), J5U hblt]; exact h4 e⟩
end
end Go.Am
end
section
namespace Go.Am
def J2f (P : Program) (f : FuncId) (args : List AV) (blks : List Blk) (r : Res) : Prop :=
 (∃ fn, P.funcs[f]? = some fn ∧ fn.body.isSome = true ∧ (fn.name == "runtime.NumGoroutine") = false) ∧
 ∀ (g : Gh) (w : World) (vals : Array Value), Inv ⟨blks, g, w⟩ → args.length = vals.size → (∀ (i : Nat) x v, args[i]? = some x → vals[i]? = some v → Jf ⟨blks, g, w⟩ x v) →
  Calls P f vals w fun e w' => ∃ v g', e = .returned v ∧ Inv ⟨r.2, g', w'⟩ ∧ Js ⟨blks, g, w⟩ ⟨r.2, g', w'⟩ ∧ Jf ⟨r.2, g', w'⟩ r.1 v
def J2P (P : Program) (F : Orc) : Prop := ∀ f args blks r, F f args blks = some r → J2f P f args blks r
theorem J44 {e : Ent} : ∀ {es : List Ent} {k j : Nat}, J0Y e es k = some j → k ≤ j ∧ es[j - k]? = some e
 | [], k, j, h => by simp [J0Y] at h
 | x :: r, k, j, h => by
  simp only [J0Y] at h
  split at h
  ·rename_i hx; injection h with h; subst h; exact ⟨Nat.le_refl _, by simp [hx]⟩
  ·obtain ⟨h1, h2⟩ := J44 h
   refine ⟨by omega, ?_⟩
   rw [show j - k = (j - (k + 1)) + 1 by omega]
   simpa using h2
theorem J40 {ρ : Ent → Option Nat} : ∀ {xs ys : List AV}, ren.renL ρ xs = some ys → xs.length = ys.length ∧ ∀ (i : Nat) x y, xs[i]? = some x → ys[i]? = some y → ren ρ x = some y
 | [], ys, h => by simp [ren.renL] at h; subst h; exact ⟨rfl, fun i x y h => by simp at h⟩
 | x :: xs, ys, h => by
  simp only [ren.renL] at h
  split at h
  ·rename_i y l hy hl
   injection h with h; subst h
   obtain ⟨h1, h2⟩ := J40 hl
   refine ⟨by simp [h1], fun i a b ha hb => ?_⟩
   cases i with
   | zero => simp at ha hb; subst ha hb; exact hy
   | succ i => exact h2 i a b (by simpa using ha) (by simpa using hb)
  ·cases h
theorem J4Q {es : List Ent} {new : Nat} : ∀ {xs ys : List AV}, bk.bkL es new xs = some ys → xs.length = ys.length ∧ ∀ (i : Nat) x y, xs[i]? = some x → ys[i]? = some y → bk es new x = some y
 | [], ys, h => by simp [bk.bkL] at h; subst h; exact ⟨rfl, fun i x y h => by simp at h⟩
 | x :: xs, ys, h => by
  simp only [bk.bkL] at h
  split at h
  ·rename_i y l hy hl
   injection h with h; subst h
   obtain ⟨h1, h2⟩ := J4Q hl
   refine ⟨by simp [h1], fun i a b ha hb => ?_⟩
   cases i with
   | zero => simp at ha hb; subst ha hb; exact hy
   | succ i => exact h2 i a b (by simpa using ha) (by simpa using hb)
  ·cases h
def JmX (s : Sn) (ρ : Ent → Option Nat) (e : Ent) (x : Blk) : Prop :=
 match e with
 | .whole b => (∃ cs l, s.σ[b]? = some (.box cs) ∧ ren.renL ρ cs = some l ∧ x = .box l) ∨ (∃ w esz rows, s.σ[b]? = some (.arr w esz rows) ∧ x = .arr w esz rows)
 | .elem b ext i => ∃ esz rows row, s.σ[b]? = some (.arr true esz rows) ∧ ext = rows.length ∧ rows[i]? = some row ∧ x = .box (row.map .p)
section
variable {s : Sn} {env : List (Nat × AV)}
theorem Jef {σ0 : List Blk} {ws : List (Nat × Blk)} {b : Nat} {x : Blk} (h : (Ja3 ws b).run ⟨env, σ0⟩ = some x) : (upd ws σ0)[b]? = some x := by
 simp only [Ja3, RM.run] at h
 split at h
 ·rename_i y hy
  have hlt := J8 hy
  rw [J70 _ _ _ hlt]
  split at h
  ·rename_i z hz; simp only [RM.run] at h; injection h with h; subst h; simp [hz]
  ·rename_i hz; simp only [RM.run] at h; injection h with h; subst h; first | exact hy | (simp [hz]; exact hy)
 ·cases h
theorem Jo3 {σ0 : List Blk} {ws : List (Nat × Blk)} (hσ : s.σ = upd ws σ0) {ρ : Ent → Option Nat} {e : Ent} {x : Blk} (h : (Jbc ws ρ e).run ⟨env, σ0⟩ = some x) : JmX s ρ e x := by
 cases e with
 | whole b =>
  simp only [Jbc] at h
  obtain ⟨y, h1, h⟩ := bind_some h
  have hb := Jef h1
  rw [← hσ] at hb
  cases y with
  | dead => cases h
  | box cs =>
   dsimp only at h
   split at h
   ·rename_i l hl
    simp only [RM.run] at h; injection h with h; subst h
    exact .inl ⟨cs, l, hb, hl, rfl⟩
   ·cases h
  | arr w esz rows =>
   simp only [RM.run] at h; injection h with h; subst h
   exact .inr ⟨w, esz, rows, hb, rfl⟩
 | elem b ext i =>
  simp only [Jbc] at h
  obtain ⟨y, h1, h⟩ := bind_some h
  have hb := Jef h1
  rw [← hσ] at hb
  cases y with
  | arr w esz rows =>
   cases w
   ·cases h
   ·dsimp only at h
    split at h
    ·rename_i he
     split at h
     ·rename_i row hrow
      simp only [RM.run] at h; injection h with h; subst h
      exact ⟨esz, rows, row, hb, he, hrow, rfl⟩
     ·cases h
    ·cases h
  | _ => cases h
theorem JeT {σ0 : List Blk} {ws : List (Nat × Blk)} (hσ : s.σ = upd ws σ0) {ρ : Ent → Option Nat} : ∀ {es : List Ent} {blks : List Blk}, (J3t ws ρ es).run ⟨env, σ0⟩ = some blks →
  es.length = blks.length ∧ ∀ (k : Nat) e x, es[k]? = some e → blks[k]? = some x → JmX s ρ e x
 | [], blks, h => by simp only [J3t, RM.run] at h; injection h with h; subst h; exact ⟨rfl, fun k e x h => by simp at h⟩
 | e :: es, blks, h => by
  simp only [J3t] at h
  obtain ⟨x, h1, h⟩ := bind_some h
  obtain ⟨l, h2, h⟩ := bind_some h
  simp only [RM.run] at h; injection h with h; subst h
  obtain ⟨k1, k2⟩ := JeT hσ h2
  refine ⟨by simp [k1], fun k e' x' he hx => ?_⟩
  cases k with
  | zero => simp at he hx; subst he hx; exact Jo3 hσ h1
  | succ k => exact k2 k e' x' (by simpa using he) (by simpa using hx)
def J53 (s : Sn) (es : List Ent) (blks : List Blk) : Sn :=
 ⟨blks, ⟨fun k => match es[k]? with
  | some (.whole b) => s.g.μ b
  | some (.elem b _ i) => (match s.σ[b]? with
   | some (.arr _ esz _) => (match s.g.μ b with
    | some p => some (p.1, i * esz)
    | none => none)
   | _ => none)
  | none => none, s.g.C⟩, s.w⟩
structure Jj4 (s : Sn) (es : List Ent) (blks : List Blk) : Prop where
 inv : Inv s
 nodup : (es.map Ent.id).Nodup
 len : es.length = blks.length
 blk : ∀ (k : Nat) e x, es[k]? = some e → blks[k]? = some x → JmX s (fun e => J0Y e es 0) e x
variable {es : List Ent} {blks : List Blk} (h : Jj4 s es blks)
include h in
theorem J7Z {k : Nat} {e : Ent} (he : es[k]? = some e) : ∃ x, blks[k]? = some x ∧ JmX s (fun e => J0Y e es 0) e x := by
 have hlt := J8 he
 have : k < blks.length := by rw [← h.len]; exact hlt
 exact ⟨blks[k], List.getElem?_eq_getElem this, h.blk k e _ he (List.getElem?_eq_getElem this)⟩
theorem J3k {k b : Nat} (he : es[k]? = some (.whole b)) : (J53 s es blks).g.μ k = s.g.μ b := by simp [J53, he]
theorem J9w {k b ext i esz : Nat} {wm rows r} (he : es[k]? = some (.elem b ext i)) (hb : s.σ[b]? = some (.arr wm esz rows)) (hm : s.g.μ b = some (r, 0)) : (J53 s es blks).g.μ k = some (r, i * esz) := by
 simp [J53, he, hb, hm]
include h in
theorem JoE {x y : AV} {v : Value} (hr : Jf s x v) : ren (fun e => J0Y e es 0) x = some y → Jf (J53 s es blks) y v := by
 induction hr generalizing y with
 | p c v hp => intro hf; simp [ren] at hf; subst hf; exact .p _ _ hp
 | data cs vs h1 h2 => intro hf; simp [ren] at hf; subst hf; exact .data _ _ h1 h2
 | cp cs off r o vals p1 p2 => intro hf; simp [ren] at hf; subst hf; exact .cp cs off r o vals p1 p2
 | unk x => intro hf; simp [ren] at hf; subst hf; exact .unk x
 | agg cs vs h1 h0 h2 ih =>
  intro hf
  simp only [ren] at hf
  obtain ⟨l, hl, rfl⟩ := Option.map_eq_some_iff.1 hf
  obtain ⟨k1, k2⟩ := J40 hl
  refine .agg _ _ (by omega) h0 fun i y v hy hv => ?_
  have hlt := J8 hy
  have hx : cs[i]? = some (cs[i]'(by omega)) := List.getElem?_eq_getElem _
  exact ih i _ v hx hv (k2 i _ y hx hy)
 | tup cs vs h1 h2 ih =>
  intro hf
  simp only [ren] at hf
  obtain ⟨l, hl, rfl⟩ := Option.map_eq_some_iff.1 hf
  obtain ⟨k1, k2⟩ := J40 hl
  refine .tup _ _ (by omega) fun i y v hy hv => ?_
  have hlt := J8 hy
  have hx : cs[i]? = some (cs[i]'(by omega)) := List.getElem?_eq_getElem _
  exact ih i _ v hx hv (k2 i _ y hx hy)
 | ptr b off r o hm hb =>
  intro hf
  simp only [ren] at hf
  obtain ⟨k, hk, rfl⟩ := Option.map_eq_some_iff.1 hf
  obtain ⟨_, hk⟩ := J44 hk
  simp only [Nat.sub_zero] at hk
  obtain ⟨cs, hb⟩ := hb
  obtain ⟨x, hx, hin⟩ := J7Z h hk
  rcases hin with ⟨cs', l, h1, h2, rfl⟩ | ⟨w, esz, rows, h1, rfl⟩
  ·exact .ptr k off r o (by rw [J3k hk]; exact hm) ⟨l, hx⟩
  ·rw [hb] at h1; cases h1
 | slr b i n v wm esz rows h0 hb hle hv =>
  intro hf
  simp only [ren] at hf
  obtain ⟨k, hk, rfl⟩ := Option.map_eq_some_iff.1 hf
  obtain ⟨_, hk⟩ := J44 hk
  simp only [Nat.sub_zero] at hk
  obtain ⟨x, hx, hin⟩ := J7Z h hk
  rcases hin with ⟨cs', l, h1, h2, rfl⟩ | ⟨w, esz', rows', h1, rfl⟩
  ·rw [hb] at h1; cases h1
  ·rw [hb] at h1; injection h1 with h1; injection h1 with a1 a2 a3; subst a1 a2 a3
   refine .slr k i n v wm esz rows h0 hx hle fun e => ?_
   have hμ : (J53 s es blks).g.μ k = s.g.μ b := J3k hk
   rcases hv e with ⟨m', q1, q2, q3⟩ | ⟨r, cap, c, e1, fz, m', q⟩
   ·exact .inl ⟨by rw [hμ]; exact m', q1, q2, q3⟩
   ·exact .inr ⟨r, cap, c, e1, fz, by rw [hμ]; exact m', q⟩
 | ep b ext i off v wm esz rows h0 hb hle hv =>
  intro hf
  simp only [ren] at hf
  obtain ⟨k, hk, rfl⟩ := Option.map_eq_some_iff.1 hf
  obtain ⟨_, hk⟩ := J44 hk
  simp only [Nat.sub_zero] at hk
  obtain ⟨x, hx, hin⟩ := J7Z h hk
  obtain ⟨esz', rows', row, h1, h2, h3, rfl⟩ := hin
  have h1' := h1
  rw [hb] at h1; injection h1 with h1; injection h1 with a1 a2 a3; subst a1 a2 a3
  have hlt := J8 h3
  obtain ⟨r, m', hv⟩ := hv h2 (by omega)
  subst hv
  exact .ptr k off r (i * esz) (J9w hk h1' m') ⟨_, hx⟩
 | fn f first caps fs cs h1 h2 _ _ ih1 ih2 =>
  intro hf
  simp only [ren] at hf
  obtain ⟨l1, hl1, hf⟩ := Option.bind_eq_some_iff.1 hf
  obtain ⟨l2, hl2, rfl⟩ := Option.map_eq_some_iff.1 hf
  obtain ⟨k1, k2⟩ := J40 hl1
  obtain ⟨k3, k4⟩ := J40 hl2
  refine .fn f _ _ fs cs (by omega) (by omega) (fun i y v hy hv => ?_) (fun i y v hy hv => ?_)
  ·have hlt := J8 hy
   have hx : first[i]? = some (first[i]'(by omega)) := List.getElem?_eq_getElem _
   exact ih1 i _ v hx hv (k2 i _ y hx hy)
  ·have hlt := J8 hy
   have hx : caps[i]? = some (caps[i]'(by omega)) := List.getElem?_eq_getElem _
   exact ih2 i _ v hx hv (k4 i _ y hx hy)
def idE (es : List Ent) (k : Nat) : Nat := ((es[k]?).map Ent.id).getD 0
theorem J89 {k : Nat} {e : Ent} (he : es[k]? = some e) : idE es k = e.id := by simp [idE, he]
include h in
theorem J8O (k r o : Nat) (hw : Wr1 (J53 s es blks) k r o) : k < es.length ∧ Wr1 s (idE es k) r o := by
 unfold Wr1 at hw
 have hσ : (J53 s es blks).σ = blks := rfl
 rw [hσ] at hw
 cases hk : blks[k]? with
 | none => rw [hk] at hw; exact hw.elim
 | some x =>
  have hlt : k < es.length := by rw [h.len]; exact J8 hk
  refine ⟨hlt, ?_⟩
  have hek : es[k]? = some es[k] := List.getElem?_eq_getElem hlt
  have hin := h.blk k _ x hek hk
  rw [J89 hek]
  rw [hk] at hw
  unfold Wr1
  cases hcase : es[k] with
  | whole b =>
   rw [hcase] at hin hek
   rcases hin with ⟨cs', l, h1, h2, rfl⟩ | ⟨w, esz', rows', h1, rfl⟩
   ·simp only [Ent.id]
    rw [h1]
    rw [J3k hek] at hw
    have := (J40 h2).1
    simp only at hw ⊢
    rw [this]; exact hw
   ·simp only [Ent.id]
    rw [h1]
    rw [J3k hek] at hw
    exact hw
  | elem b ext i =>
   rw [hcase] at hin hek
   obtain ⟨esz', rows', row, h1, h2, h3, rfl⟩ := hin
   simp only [Ent.id]
   rw [h1]
   obtain ⟨o0, m, _⟩ := hw
   have : ∃ p, s.g.μ b = some p ∧ p.1 = r := by
    simp only [J53, hek, h1] at m
    cases hp : s.g.μ b with
    | none => simp [hp] at m
    | some p => simp [hp] at m; exact ⟨p, rfl, m.1⟩
   obtain ⟨p, hp, hr⟩ := this
   exact ⟨p.2, by rw [hp, ← hr]⟩
include h in
theorem JsH : Inv (J53 s es blks) := by
 have hi := h.inv
 have hlen : (J53 s es blks).σ.length = es.length := h.len.symm
 refine Jm4 hi rfl ?_ ?_ (idE es) ?_ (fun k r o hw => (J8O h k r o hw).2) (fun r o hc => ⟨(hi.const r o hc).1, fun k hw => (hi.const r o hc).2 _ (J8O h k r o hw).2⟩)
 ·intro k cs hk
  have hk : blks[k]? = some (.box cs) := hk
  have hlt : k < es.length := by rw [h.len]; exact J8 hk
  have hek : es[k]? = some es[k] := List.getElem?_eq_getElem hlt
  have hin := h.blk k _ _ hek hk
  cases hcase : es[k] with
  | whole b =>
   rw [hcase] at hin hek
   rcases hin with ⟨cs', l, h1, h2, heq⟩ | ⟨w, esz', rows', h1, heq⟩
   ·injection heq with heq; subst heq
    obtain ⟨k1, k2⟩ := J40 h2
    obtain ⟨r, o, c, e, fz, hm, hh, hle, hx, hfr⟩ := hi.box _ _ h1
    refine ⟨r, o, c, e, fz, by rw [J3k hek]; exact hm, hh, by omega, fun i x hix => ?_, by rw [← k1]; exact hfr⟩
    have hi' := J8 hix
    have hx0 : cs'[i]? = some (cs'[i]'(by omega)) := List.getElem?_eq_getElem _
    obtain ⟨v, hv, hr, h1⟩ := hx i _ hx0
    exact ⟨v, hv, JoE h hr (k2 i _ x hx0 hix), h1⟩
   ·cases heq
  | elem b ext i =>
   rw [hcase] at hin hek
   obtain ⟨esz', rows', row, h1, h2, h3, heq⟩ := hin
   injection heq with heq; subst heq
   have hlt' := J8 h3
   rcases hi.arr _ _ _ _ h1 with ⟨hm, hr⟩ | ⟨r, c, e, fz, hm, hh, hrow, hl, hx, hfr⟩
   ·subst hr; simp at h3
   ·have hrl := hrow row (JM h3)
    have hbnd : i * esz' + esz' ≤ rows'.length * esz' := by
     have := Nat.mul_le_mul_right esz' (show i + 1 ≤ rows'.length from hlt')
     rwa [Nat.add_mul, Nat.one_mul] at this
    refine ⟨r, i * esz', c, e, fz, J9w hek h1 hm, hh, by simp; omega, fun j x hjx => ?_, fun o h1 h2 => hfr.1 o (Nat.zero_le _) (by simp at h2; omega)⟩
    rw [List.getElem?_map] at hjx
    cases hrj : row[j]? with
    | none => simp [hrj] at hjx
    | some c0 =>
     simp [hrj] at hjx; subst hjx
     obtain ⟨⟨v, hv, hr⟩, _⟩ := hx i j row c0 h3 hrj
     exact ⟨v, hv, .p _ _ hr, hr.one⟩
 ·intro k wm esz rows hk
  have hk : blks[k]? = some (.arr wm esz rows) := hk
  have hlt : k < es.length := by rw [h.len]; exact J8 hk
  have hek : es[k]? = some es[k] := List.getElem?_eq_getElem hlt
  have hin := h.blk k _ _ hek hk
  cases hcase : es[k] with
  | whole b =>
   rw [hcase] at hin hek
   rcases hin with ⟨cs', l, h1, h2, heq⟩ | ⟨w, esz', rows', h1, heq⟩
   ·cases heq
   ·injection heq with a1 a2 a3; subst a1 a2 a3
    rcases hi.arr _ _ _ _ h1 with ⟨hm, hr⟩ | ⟨r, c, e, fz, hm, hq⟩
    ·exact .inl ⟨by rw [J3k hek]; exact hm, hr⟩
    ·exact .inr ⟨r, c, e, fz, by rw [J3k hek]; exact hm, hq⟩
  | elem b ext i =>
   rw [hcase] at hin hek
   obtain ⟨esz', rows', row, h1, h2, h3, heq⟩ := hin
   cases heq
 ·intro k1 k2 h1 h2 he
  rw [hlen] at h1 h2
  have e1 : es[k1]? = some es[k1] := List.getElem?_eq_getElem h1
  have e2 : es[k2]? = some es[k2] := List.getElem?_eq_getElem h2
  rw [J89 e1, J89 e2] at he
  refine J9G h.nodup (x := es[k1].id) ?_ ?_
  ·rw [List.getElem?_map, e1]; rfl
  ·rw [List.getElem?_map, e2, he]; rfl
end
end Go.Am
end
section
namespace Go.Am
def J7w (s1 : Sn) (es : List Ent) (new : Nat) (σ2 : List Blk) (k : Nat) (y : Blk) : Prop :=
 match es[k]? with
 | some (.whole b) => (∃ cs l, y = .box cs ∧ bk.bkL es new cs = some l ∧ σ2[b]? = some (.box l)) ∨ (∃ w esz rows, y = .arr w esz rows ∧ σ2[b]? = some (.arr w esz rows))
 | some (.elem b _ i) => ∃ w esz rows row', s1.σ[b]? = some (.arr w esz rows) ∧ y = .box (row'.map .p) ∧ σ2[b]? = some (.arr w esz (rows.set i row'))
 | none => (∃ cs l, y = .box cs ∧ bk.bkL es new cs = some l ∧ σ2[new + (k - es.length)]? = some (.box l)) ∨ (∃ w esz rows, y = .arr w esz rows ∧ σ2[new + (k - es.length)]? = some (.arr w esz rows))
structure Jlh (s1 : Sn) (es : List Ent) (blks : List Blk) (new kf : Nat) (c' : Sn) (σ2 : List Blk) : Prop where
 cin : Jj4 s1 es blks
 inv : Inv c'
 trans : Js (J53 s1 es blks) c'
 len : c'.σ.length = es.length + kf
 slen : σ2.length = s1.σ.length
 dead : ∀ j, j < kf → s1.σ[new + j]? = some .dead
 out : ∀ k y, c'.σ[k]? = some y → J7w s1 es new σ2 k y
 same : ∀ b, b ∉ es.map Ent.id → (b < new ∨ new + kf ≤ b) → σ2[b]? = s1.σ[b]?
def kOf (es : List Ent) (new kf b : Nat) : Option Nat :=
 match J0Y (.whole b) es 0 with
 | some k => some k
 | none => if new ≤ b ∧ b < new + kf ∧ b ∉ es.map Ent.id then some (es.length + (b - new)) else none
def J2s (s1 : Sn) (es : List Ent) (new kf : Nat) (c' : Sn) (σ2 : List Blk) : Sn :=
 ⟨σ2, ⟨fun b => match kOf es new kf b with
  | some k => c'.g.μ k
  | none => s1.g.μ b, c'.g.C⟩, c'.w⟩
theorem Jf4 {e : Ent} : ∀ {es : List Ent} {k : Nat}, J0Y e es k = none → e ∉ es
 | [], k, _ => by simp
 | x :: r, k, h => by
  simp only [J0Y] at h
  split at h
  ·cases h
  ·rename_i hx
   simp only [List.mem_cons, not_or]
   exact ⟨fun e => hx e.symm, Jf4 h⟩
section
variable {s1 c' : Sn} {es : List Ent} {blks σ2 : List Blk} {new kf : Nat} (h : Jlh s1 es blks new kf c' σ2)
theorem J9m {k : Nat} {e : Ent} (he : es[k]? = some e) : e.id ∈ es.map Ent.id := List.mem_map.2 ⟨e, JM he, rfl⟩
include h in
theorem JaA {k1 k2 : Nat} {e1 e2 : Ent} (h1 : es[k1]? = some e1) (h2 : es[k2]? = some e2) (he : e1.id = e2.id) : k1 = k2 :=
 J9G h.cin.nodup (x := e1.id) (by rw [List.getElem?_map, h1]; rfl) (by rw [List.getElem?_map, h2, he]; rfl)
include h in
theorem Jsc {k : Nat} {e : Ent} (he : es[k]? = some e) : ∃ y, s1.σ[e.id]? = some y ∧ y ≠ .dead := by
 obtain ⟨x, _, hin⟩ := J7Z h.cin he
 cases e with
 | whole b =>
  rcases hin with ⟨cs', l, h1, h2, rfl⟩ | ⟨w, esz', rows', h1, rfl⟩
  ·exact ⟨_, h1, by simp⟩
  ·exact ⟨_, h1, by simp⟩
 | elem b ext i =>
  obtain ⟨esz', rows', row, h1, h2, h3, rfl⟩ := hin
  exact ⟨_, h1, by simp⟩
include h in
theorem JoW {j : Nat} (hj : j < kf) : new + j ∉ es.map Ent.id := by
 intro hm
 obtain ⟨e, he, hid⟩ := List.mem_map.1 hm
 obtain ⟨k, hk⟩ := List.getElem?_of_mem he
 obtain ⟨y, hy, hd⟩ := Jsc h hk
 rw [hid, h.dead j hj] at hy
 injection hy with hy; exact hd hy.symm
include h in
theorem JnQ {k b : Nat} (he : es[k]? = some (.whole b)) : kOf es new kf b = some k := by
 unfold kOf
 cases hc : J0Y (.whole b) es 0 with
 | none => exact absurd (JM he) (Jf4 hc)
 | some k' =>
  obtain ⟨_, hk'⟩ := J44 hc
  simp only [Nat.sub_zero] at hk'
  rw [JaA h hk' he rfl]
include h in
theorem Jp6 {k b e i : Nat} (he : es[k]? = some (.elem b e i)) : kOf es new kf b = none := by
 unfold kOf
 cases hc : J0Y (.whole b) es 0 with
 | some k' =>
  obtain ⟨_, hk'⟩ := J44 hc
  simp only [Nat.sub_zero] at hk'
  have := JaA h hk' he rfl
  subst this
  rw [he] at hk'; cases hk'
 | none =>
  have : b ∈ es.map Ent.id := J9m he
  simp [this]
include h in
theorem JoL {j : Nat} (hj : j < kf) : kOf es new kf (new + j) = some (es.length + j) := by
 unfold kOf
 have hn := JoW h hj
 cases hc : J0Y (.whole (new + j)) es 0 with
 | some k' =>
  obtain ⟨_, hk'⟩ := J44 hc
  simp only [Nat.sub_zero] at hk'
  exact absurd (J9m hk') hn
 | none =>
  simp only
  rw [if_pos ⟨by omega, by omega, hn⟩]
  congr 1; omega
theorem J9C {b : Nat} (h1 : b ∉ es.map Ent.id) (h2 : b < new ∨ new + kf ≤ b) : kOf es new kf b = none := by
 unfold kOf
 cases hc : J0Y (.whole b) es 0 with
 | some k' =>
  obtain ⟨_, hk'⟩ := J44 hc
  simp only [Nat.sub_zero] at hk'
  exact absurd (J9m hk') h1
 | none =>
  simp only
  rw [if_neg (by omega)]
def tgt (es : List Ent) (new k : Nat) : Nat := match es[k]? with
 | some e => e.id
 | none => new + (k - es.length)
include h in
theorem J6z {k : Nat} (hk : k < es.length + kf) (hne : ∀ b e i, es[k]? ≠ some (.elem b e i)) : (J2s s1 es new kf c' σ2).g.μ (tgt es new k) = c'.g.μ k := by
 simp only [J2s, tgt]
 cases he : es[k]? with
 | some e =>
  cases e with
  | whole b => simp only [Ent.id]; rw [JnQ h he]
  | elem b e i => exact absurd he (hne b e i)
 | none =>
  have hge : es.length ≤ k := by
   rcases Nat.lt_or_ge k es.length with hlt | hge
   ·rw [List.getElem?_eq_getElem hlt] at he; cases he
   ·exact hge
  have := JoL h (j := k - es.length) (by omega)
  simp only
  rw [this]
  simp only
  congr 1; omega
include h in
theorem J5X {k b ext i : Nat} (he : es[k]? = some (.elem b ext i)) : ∃ esz rows row r row', s1.σ[b]? = some (.arr true esz rows) ∧ ext = rows.length ∧ rows[i]? = some row ∧ s1.g.μ b = some (r, 0) ∧
  c'.σ[k]? = some (.box (row'.map .p)) ∧ row'.length = row.length ∧ row.length = esz ∧ c'.g.μ k = some (r, i * esz) ∧ σ2[b]? = some (.arr true esz (rows.set i row')) ∧ (J2s s1 es new kf c' σ2).g.μ b = some (r, 0) := by
 obtain ⟨x, hx, hin⟩ := J7Z h.cin he
 obtain ⟨esz, rows, row, h1, h2, h3, rfl⟩ := hin
 have hlt := J8 h3
 rcases h.cin.inv.arr _ _ _ _ h1 with ⟨hm, hr⟩ | ⟨r, c, e, fz, hm, hh, hrow, hl, hxx, hfr⟩
 ·subst hr; simp at h3
 ·obtain ⟨⟨cs', q1, q2⟩, q3⟩ := h.trans.box k _ hx
  have ho := h.out k _ q1
  unfold J7w at ho
  rw [he] at ho
  obtain ⟨w, esz', rows', row', o1, o2, o3⟩ := ho
  rw [h1] at o1; injection o1 with o1; injection o1 with a1 a2 a3; subst a1 a2 a3
  injection o2 with o2; subst o2
  refine ⟨esz, rows, row, r, row', h1, h2, h3, hm, q1, by simpa using q2, hrow row (JM h3), ?_, o3, ?_⟩
  ·rw [q3, J9w he h1 hm]
  ·simp only [J2s]; rw [Jp6 h he]; exact hm
include h in
theorem JlF {x y : AV} {v : Value} (hr : Jf c' x v) : bk es new x = some y → Jf (J2s s1 es new kf c' σ2) y v := by
 have at_k : ∀ {k : Nat} {z : Blk}, c'.σ[k]? = some z → k < es.length + kf := fun hz => by rw [← h.len]; exact J8 hz
 induction hr generalizing y with
 | p c v hp => intro hf; simp [bk] at hf; subst hf; exact .p _ _ hp
 | data cs vs h1 h2 => intro hf; simp [bk] at hf; subst hf; exact .data _ _ h1 h2
 | cp cs off r o vals p1 p2 => intro hf; simp [bk] at hf; subst hf; exact .cp cs off r o vals p1 p2
 | unk x => intro hf; simp [bk] at hf; subst hf; exact .unk x
 | agg cs vs h1 h0 h2 ih =>
  intro hf
  simp only [bk] at hf
  split at hf
  ·rename_i l hl
   injection hf with hf; subst hf
   obtain ⟨k1, k2⟩ := J4Q hl
   refine .agg _ _ (by omega) h0 fun i y v hy hv => ?_
   have hlt := J8 hy
   have hx : cs[i]? = some (cs[i]'(by omega)) := List.getElem?_eq_getElem _
   exact ih i _ v hx hv (k2 i _ y hx hy)
  ·cases hf
 | tup cs vs h1 h2 ih =>
  intro hf
  simp only [bk] at hf
  split at hf
  ·rename_i l hl
   injection hf with hf; subst hf
   obtain ⟨k1, k2⟩ := J4Q hl
   refine .tup _ _ (by omega) fun i y v hy hv => ?_
   have hlt := J8 hy
   have hx : cs[i]? = some (cs[i]'(by omega)) := List.getElem?_eq_getElem _
   exact ih i _ v hx hv (k2 i _ y hx hy)
  ·cases hf
 | ptr k off r o hm hb =>
  intro hf
  obtain ⟨cs, hb⟩ := hb
  have hk := at_k hb
  have ho := h.out k _ hb
  unfold J7w at ho
  simp only [bk] at hf
  split at hf
  ·rename_i hlt
   have hek : es[k]? = some es[k] := List.getElem?_eq_getElem hlt
   split at hf
   ·rename_i b he
    injection hf with hf; subst hf
    have hμ := J6z h hk (by rw [he]; simp)
    simp only [tgt, he, Ent.id] at hμ
    rw [he] at ho
    rcases ho with ⟨cs', l, e1, e2, e3⟩ | ⟨w, esz, rows, e1, e2⟩
    ·exact .ptr b off r o (by rw [hμ]; exact hm) ⟨l, e3⟩
    ·cases e1
   ·rename_i b e i he
    injection hf with hf; subst hf
    obtain ⟨esz, rows, row, r', row', f1, f2, f3, f4, f5, f6, f7, f8, f9, f10⟩ := J5X h he
    rw [hm] at f8; injection f8 with f8; injection f8 with g1 g2; subst g1 g2
    exact .ep b e i off _ true esz (rows.set i row') ⟨_, _, rfl⟩ f9 (by simp [f2]) fun _ _ => ⟨r, f10, rfl⟩
   ·cases hf
  ·rename_i hge
   injection hf with hf; subst hf
   have he : es[k]? = none := List.getElem?_eq_none (by omega)
   have hμ := J6z h hk (by rw [he]; simp)
   simp only [tgt, he] at hμ
   rw [he] at ho
   rcases ho with ⟨cs', l, e1, e2, e3⟩ | ⟨w, esz, rows, e1, e2⟩
   ·exact .ptr _ off r o (by rw [hμ]; exact hm) ⟨l, e3⟩
   ·cases e1
 | slr k i n v wm esz rows h0 hb hle hv =>
  intro hf
  have hk := at_k hb
  have ho := h.out k _ hb
  unfold J7w at ho
  have go : ∀ b, (J2s s1 es new kf c' σ2).g.μ b = c'.g.μ k → σ2[b]? = some (.arr wm esz rows) → Jf (J2s s1 es new kf c' σ2) (.slr b i n) v := by
   intro b hμ hσ
   refine .slr b i n v wm esz rows h0 hσ hle fun e => ?_
   rcases hv e with ⟨m', q1, q2, q3⟩ | ⟨r, cap, c, e1, fz, m', q⟩
   ·exact .inl ⟨by rw [hμ]; exact m', q1, q2, q3⟩
   ·exact .inr ⟨r, cap, c, e1, fz, by rw [hμ]; exact m', q⟩
  simp only [bk] at hf
  split at hf
  ·rename_i hlt
   split at hf
   ·rename_i b he
    injection hf with hf; subst hf
    have hμ := J6z h hk (by rw [he]; simp)
    simp only [tgt, he, Ent.id] at hμ
    rw [he] at ho
    rcases ho with ⟨cs', l, e1, e2, e3⟩ | ⟨w, esz', rows', e1, e2⟩
    ·cases e1
    ·injection e1 with a1 a2 a3; subst a1 a2 a3
     exact go b hμ e2
   ·cases hf
  ·rename_i hge
   injection hf with hf; subst hf
   have he : es[k]? = none := List.getElem?_eq_none (by omega)
   have hμ := J6z h hk (by rw [he]; simp)
   simp only [tgt, he] at hμ
   rw [he] at ho
   rcases ho with ⟨cs', l, e1, e2, e3⟩ | ⟨w, esz', rows', e1, e2⟩
   ·cases e1
   ·injection e1 with a1 a2 a3; subst a1 a2 a3
    exact go _ hμ e2
 | ep k ext i off v wm esz rows h0 hb hle hv =>
  intro hf
  have hk := at_k hb
  have ho := h.out k _ hb
  unfold J7w at ho
  have go : ∀ b, (J2s s1 es new kf c' σ2).g.μ b = c'.g.μ k → σ2[b]? = some (.arr wm esz rows) → Jf (J2s s1 es new kf c' σ2) (.ep b ext i off) v := by
   intro b hμ hσ
   refine .ep b ext i off v wm esz rows h0 hσ hle fun e1 e2 => ?_
   obtain ⟨r, m', q⟩ := hv e1 e2
   exact ⟨r, by rw [hμ]; exact m', q⟩
  simp only [bk] at hf
  split at hf
  ·rename_i hlt
   split at hf
   ·rename_i b he
    injection hf with hf; subst hf
    have hμ := J6z h hk (by rw [he]; simp)
    simp only [tgt, he, Ent.id] at hμ
    rw [he] at ho
    rcases ho with ⟨cs', l, e1, e2, e3⟩ | ⟨w, esz', rows', e1, e2⟩
    ·cases e1
    ·injection e1 with a1 a2 a3; subst a1 a2 a3
     exact go b hμ e2
   ·cases hf
  ·rename_i hge
   injection hf with hf; subst hf
   have he : es[k]? = none := List.getElem?_eq_none (by omega)
   have hμ := J6z h hk (by rw [he]; simp)
   simp only [tgt, he] at hμ
   rw [he] at ho
   rcases ho with ⟨cs', l, e1, e2, e3⟩ | ⟨w, esz', rows', e1, e2⟩
   ·cases e1
   ·injection e1 with a1 a2 a3; subst a1 a2 a3
    exact go _ hμ e2
 | fn f first caps fs cs h1 h2 _ _ ih1 ih2 =>
  intro hf
  simp only [bk] at hf
  split at hf
  ·rename_i a c ha hc
   injection hf with hf; subst hf
   obtain ⟨k1, k2⟩ := J4Q ha
   obtain ⟨k3, k4⟩ := J4Q hc
   refine .fn f a c fs cs (by omega) (by omega) (fun i y v hy hv => ?_) (fun i y v hy hv => ?_)
   ·have hlt := J8 hy
    have hx : first[i]? = some (first[i]'(by omega)) := List.getElem?_eq_getElem _
    exact ih1 i _ v hx hv (k2 i _ y hx hy)
   ·have hlt := J8 hy
    have hx : caps[i]? = some (caps[i]'(by omega)) := List.getElem?_eq_getElem _
    exact ih2 i _ v hx hv (k4 i _ y hx hy)
  ·cases hf
inductive Jni (es : List Ent) (new kf b : Nat) : Prop where
 | out (k : Nat) : k < es.length + kf → tgt es new k = b → (∀ b e i, es[k]? ≠ some (.elem b e i)) → Jni es new kf b
 | elem (k e i : Nat) : es[k]? = some (.elem b e i) → Jni es new kf b
 | other : b ∉ es.map Ent.id → (b < new ∨ new + kf ≤ b) → Jni es new kf b
theorem J5T (b : Nat) : Jni es new kf b := by
 by_cases hm : b ∈ es.map Ent.id
 ·obtain ⟨e, he, hid⟩ := List.mem_map.1 hm
  obtain ⟨k, hk⟩ := List.getElem?_of_mem he
  have hlt := J8 hk
  cases e with
  | whole b' => simp only [Ent.id] at hid; subst hid; exact .out k (by omega) (by simp [tgt, hk, Ent.id]) (by rw [hk]; simp)
  | elem b' e' i' => simp only [Ent.id] at hid; subst hid; exact .elem k e' i' hk
 ·by_cases hr : new ≤ b ∧ b < new + kf
  ·have he : es[es.length + (b - new)]? = none := List.getElem?_eq_none (by omega)
   refine .out (es.length + (b - new)) (by omega) ?_ (by rw [he]; simp)
   simp only [tgt, he]; omega
  ·exact .other hm (by omega)
include h in
theorem JbY {k : Nat} (hk : k < es.length + kf) (hne : ∀ b e i, es[k]? ≠ some (.elem b e i)) (r o : Nat) :
  Wr1 (J2s s1 es new kf c' σ2) (tgt es new k) r o ↔ Wr1 c' k r o := by
 have hμ := J6z h hk hne
 have hlt : k < c'.σ.length := by rw [h.len]; exact hk
 have hg : c'.σ[k]? = some c'.σ[k] := List.getElem?_eq_getElem hlt
 have ho := h.out k _ hg
 unfold J7w at ho
 unfold Wr1
 rw [hg, hμ]
 have hσ : (J2s s1 es new kf c' σ2).σ = σ2 := rfl
 rw [hσ]
 cases he : es[k]? with
 | some e =>
  cases e with
  | whole b =>
   simp only [tgt, he, Ent.id]
   rw [he] at ho
   rcases ho with ⟨cs', l, e1, e2, e3⟩ | ⟨w, esz', rows', e1, e2⟩
   ·rw [e1, e3]; simp only; rw [(J4Q e2).1]
   ·rw [e1, e2]
  | elem b e i => exact absurd he (hne b e i)
 | none =>
  simp only [tgt, he]
  rw [he] at ho
  rcases ho with ⟨cs', l, e1, e2, e3⟩ | ⟨w, esz', rows', e1, e2⟩
  ·rw [e1, e3]; simp only; rw [(J4Q e2).1]
  ·rw [e1, e2]
include h in
theorem Jat {k b e i : Nat} (he : es[k]? = some (.elem b e i)) (r o : Nat) : Wr1 (J2s s1 es new kf c' σ2) b r o ↔ Wr1 s1 b r o := by
 obtain ⟨esz, rows, row, r', row', f1, f2, f3, f4, f5, f6, f7, f8, f9, f10⟩ := J5X h he
 unfold Wr1
 have hσ : (J2s s1 es new kf c' σ2).σ = σ2 := rfl
 rw [hσ, f9, f1, f10, f4]
include h in
theorem Je7 {b : Nat} (h1 : b ∉ es.map Ent.id) (h2 : b < new ∨ new + kf ≤ b) (r o : Nat) : Wr1 (J2s s1 es new kf c' σ2) b r o ↔ Wr1 s1 b r o := by
 unfold Wr1
 have hσ : (J2s s1 es new kf c' σ2).σ = σ2 := rfl
 have hμ : (J2s s1 es new kf c' σ2).g.μ b = s1.g.μ b := by simp only [J2s]; rw [J9C h1 h2]
 rw [hσ, h.same b h1 h2, hμ]
include h in
theorem Jh4 {r o : Nat} (hw : Wr c' r o) : (∃ k e, es[k]? = some e ∧ Wr1 (J53 s1 es blks) k r o ∧ Wr1 s1 e.id r o) ∨ s1.w.heap.size ≤ r := by
 rcases h.trans.wnew r o hw with ⟨k, hk⟩ | hn
 ·obtain ⟨hlt, hw'⟩ := J8O h.cin k r o hk
  have he : es[k]? = some es[k] := List.getElem?_eq_getElem hlt
  rw [J89 he] at hw'
  exact .inl ⟨k, _, he, hk, hw'⟩
 ·exact .inr hn
include h in
theorem Jhm : Js s1 (J2s s1 es new kf c' σ2) := by
 refine ⟨?_, fun r o hc => h.trans.cmono r o hc, fun r o hc => ?_, fun r o ⟨b, hw⟩ => ?_, Nat.le_of_eq h.slen.symm, fun b cs hb => ?_, fun b wm esz rows hb => ?_⟩
 ·refine h.trans.keep.mono fun r o ⟨k, hk⟩ => ?_
  exact ⟨_, (J8O h.cin k r o hk).2⟩
 ·rcases h.trans.cnew r o hc with hc | ⟨k, hk⟩ | hn
  ·exact .inl hc
  ·exact .inr (.inl ⟨_, (J8O h.cin k r o hk).2⟩)
  ·exact .inr (.inr hn)
 ·cases J5T (es := es) (new := new) (kf := kf) b with
  | out k hk ht hne =>
   subst ht
   rcases Jh4 h ⟨k, (JbY h hk hne r o).1 hw⟩ with ⟨k', e, _, _, hw'⟩ | hn
   ·exact .inl ⟨_, hw'⟩
   ·exact .inr hn
  | elem k e i he => exact .inl ⟨b, (Jat h he r o).1 hw⟩
  | other h1 h2 => exact .inl ⟨b, (Je7 h h1 h2 r o).1 hw⟩
 ·cases J5T (es := es) (new := new) (kf := kf) b with
  | out k hk ht hne =>
   cases he : es[k]? with
   | none =>
    exfalso
    simp only [tgt, he] at ht
    have hge : es.length ≤ k := by
     rcases Nat.lt_or_ge k es.length with hlt | hge
     ·rw [List.getElem?_eq_getElem hlt] at he; cases he
     ·exact hge
    have := h.dead (k - es.length) (by omega)
    rw [ht, hb] at this; cases this
   | some e =>
    cases e with
    | elem b e i => exact absurd he (hne b e i)
    | whole b' =>
     simp only [tgt, he, Ent.id] at ht; subst ht
     obtain ⟨x, hx, hin⟩ := J7Z h.cin he
     rcases hin with ⟨cs', l, h1, h2, rfl⟩ | ⟨w, esz', rows', h1, rfl⟩
     ·rw [hb] at h1; injection h1 with h1; injection h1 with h1; subst h1
      obtain ⟨⟨cs2, q1, q2⟩, q3⟩ := h.trans.box k _ hx
      have ho := h.out k _ q1
      unfold J7w at ho
      rw [he] at ho
      have hμ := J6z h hk hne
      simp only [tgt, he, Ent.id] at hμ
      rcases ho with ⟨cs3, l', e1, e2, e3⟩ | ⟨w, esz, rows, e1, e2⟩
      ·injection e1 with e1; subst e1
       refine ⟨⟨l', e3, ?_⟩, ?_⟩
       ·rw [← (J4Q e2).1, q2, (J40 h2).1]
       ·rw [hμ, q3, J3k he]
      ·cases e1
     ·rw [hb] at h1; cases h1
  | elem k e i he =>
   obtain ⟨esz, rows, row, r', row', f1, _⟩ := J5X h he
   rw [hb] at f1; cases f1
  | other h1 h2 =>
   refine ⟨⟨cs, by rw [← hb]; exact h.same b h1 h2, rfl⟩, ?_⟩
   simp only [J2s]; rw [J9C h1 h2]
 ·cases J5T (es := es) (new := new) (kf := kf) b with
  | out k hk ht hne =>
   cases he : es[k]? with
   | none =>
    exfalso
    simp only [tgt, he] at ht
    have hge : es.length ≤ k := by
     rcases Nat.lt_or_ge k es.length with hlt | hge
     ·rw [List.getElem?_eq_getElem hlt] at he; cases he
     ·exact hge
    have := h.dead (k - es.length) (by omega)
    rw [ht, hb] at this; cases this
   | some e =>
    cases e with
    | elem b e i => exact absurd he (hne b e i)
    | whole b' =>
     simp only [tgt, he, Ent.id] at ht; subst ht
     obtain ⟨x, hx, hin⟩ := J7Z h.cin he
     rcases hin with ⟨cs', l, h1, h2, rfl⟩ | ⟨w, esz', rows', h1, rfl⟩
     ·rw [hb] at h1; cases h1
     ·rw [hb] at h1; injection h1 with h1; injection h1 with a1 a2 a3; subst a1 a2 a3
      obtain ⟨wm', rows2, q1, q2, q3, q4⟩ := h.trans.arr k _ _ _ hx
      have ho := h.out k _ q1
      unfold J7w at ho
      rw [he] at ho
      have hμ := J6z h hk hne
      simp only [tgt, he, Ent.id] at hμ
      rcases ho with ⟨cs3, l', e1, e2, e3⟩ | ⟨w, esz2, rows3, e1, e2⟩
      ·cases e1
      ·injection e1 with a1 a2 a3; subst a1 a2 a3
       exact ⟨wm', rows2, e2, q2, q3, fun e => by rw [hμ, q4 e, J3k he]⟩
  | elem k e i he =>
   obtain ⟨esz', rows', row, r', row', f1, f2, f3, f4, f5, f6, f7, f8, f9, f10⟩ := J5X h he
   rw [hb] at f1; injection f1 with f1; injection f1 with a1 a2 a3; subst a1 a2 a3
   exact ⟨true, _, f9, fun _ => rfl, by simp, fun _ => by rw [f10, f4]⟩
  | other h1 h2 =>
   refine ⟨wm, rows, by rw [← hb]; exact h.same b h1 h2, id, Nat.le_refl _, fun _ => ?_⟩
   simp only [J2s]; rw [J9C h1 h2]
include h in
theorem Js5 : Inv (J2s s1 es new kf c' σ2) := by
 have hi := h.cin.inv
 have t := Jhm h
 have notOther : ∀ {b}, ¬ (b ∈ es.map Ent.id ∨ (new ≤ b ∧ b < new + kf)) → b ∉ es.map Ent.id ∧ (b < new ∨ new + kf ≤ b) := fun hn => ⟨fun hm => hn (.inl hm), by omega⟩
 have elem_back : ∀ {k b e i r o}, es[k]? = some (.elem b e i) → (Wr1 (J53 s1 es blks) k r o ↔ Wr1 c' k r o) := by
  intro k b e i r o he
  obtain ⟨x, hx, hin⟩ := J7Z h.cin he
  obtain ⟨esz, rows, row, h1, h2, h3, rfl⟩ := hin
  obtain ⟨⟨cs', q1, q2⟩, q3⟩ := h.trans.box k _ hx
  have hx' : (J53 s1 es blks).σ[k]? = some (.box (row.map .p)) := hx
  unfold Wr1
  rw [hx', q1, q3]
  simp only [q2]
 have meet : ∀ {k b r o}, k < es.length + kf → Wr1 c' k r o → Wr1 s1 b r o → (∃ k', es[k']? = some (.whole b) ∨ ∃ e i, es[k']? = some (.elem b e i) ∧ k' = k) := by
  intro k b r o hk hw hb
  rcases Jh4 h ⟨k, hw⟩ with ⟨k', e, he, hwin, hw'⟩ | hn
  ·have hid := hi.apart _ _ _ _ hw' hb
   cases e with
   | whole b' => simp only [Ent.id] at hid; subst hid; exact ⟨k', .inl he⟩
   | elem b' e' i' =>
    simp only [Ent.id] at hid; subst hid
    have := h.inv.apart _ _ _ _ ((elem_back he).1 hwin) hw
    exact ⟨k', .inr ⟨e', i', he, this⟩⟩
  ·have := J8N hi b r o hb; omega
 refine J4U hi t (fun b => b ∈ es.map Ent.id ∨ (new ≤ b ∧ b < new + kf)) ?_ ?_ ?_ ?_ ?_ ?_ ?_ ?_
 ·intro b hn
  obtain ⟨h1, h2⟩ := notOther hn
  exact ⟨h.same b h1 h2, by simp only [J2s]; rw [J9C h1 h2]⟩
 ·intro b r o v hn hw hv
  refine h.trans.keep.cell ?_ hv
  rintro ⟨k, hk⟩
  obtain ⟨hlt, hw'⟩ := J8O h.cin k r o hk
  have he : es[k]? = some es[k] := List.getElem?_eq_getElem hlt
  rw [J89 he] at hw'
  have := hi.apart _ _ _ _ hw' hw
  exact hn (.inl (this ▸ J9m he))
 ·intro b cs hd hb
  have hb : σ2[b]? = some (.box cs) := hb
  cases J5T (es := es) (new := new) (kf := kf) b with
  | other h1 h2 => rcases hd with hd | hd; exact absurd hd h1; omega
  | elem k e i he =>
   obtain ⟨esz', rows', row, r', row', f1, f2, f3, f4, f5, f6, f7, f8, f9, f10⟩ := J5X h he
   rw [hb] at f9; cases f9
  | out k hk ht hne =>
   subst ht
   have hlt : k < c'.σ.length := by rw [h.len]; exact hk
   have hg : c'.σ[k]? = some c'.σ[k] := List.getElem?_eq_getElem hlt
   have ho := h.out k _ hg
   unfold J7w at ho
   have key : ∃ cs0, c'.σ[k]? = some (.box cs0) ∧ bk.bkL es new cs0 = some cs := by
    cases he : es[k]? with
    | some e =>
     cases e with
     | elem b e i => exact absurd he (hne b e i)
     | whole b' =>
      simp only [tgt, he, Ent.id] at hb
      rw [he] at ho
      rcases ho with ⟨cs3, l', e1, e2, e3⟩ | ⟨w, esz2, rows3, e1, e2⟩
      ·rw [hb] at e3; injection e3 with e3; injection e3 with e3; subst e3; exact ⟨cs3, by rw [hg, e1], e2⟩
      ·rw [hb] at e2; cases e2
    | none =>
     simp only [tgt, he] at hb
     rw [he] at ho
     rcases ho with ⟨cs3, l', e1, e2, e3⟩ | ⟨w, esz2, rows3, e1, e2⟩
     ·rw [hb] at e3; injection e3 with e3; injection e3 with e3; subst e3; exact ⟨cs3, by rw [hg, e1], e2⟩
     ·rw [hb] at e2; cases e2
   obtain ⟨cs0, h0, hl⟩ := key
   obtain ⟨k1, k2⟩ := J4Q hl
   obtain ⟨r, o, c, e, fz, hm, hh, hle, hx, hfr⟩ := h.inv.box _ _ h0
   refine ⟨r, o, c, e, fz, by rw [J6z h hk hne]; exact hm, hh, by omega, fun i x hix => ?_, by rw [← k1]; exact hfr⟩
   have hi' := J8 hix
   have hx0 : cs0[i]? = some (cs0[i]'(by omega)) := List.getElem?_eq_getElem _
   obtain ⟨v, hv, hr, h1⟩ := hx i _ hx0
   exact ⟨v, hv, JlF h hr (k2 i _ x hx0 hix), h1⟩
 ·intro b wm esz rows hd hb
  have hb : σ2[b]? = some (.arr wm esz rows) := hb
  cases J5T (es := es) (new := new) (kf := kf) b with
  | other h1 h2 => rcases hd with hd | hd; exact absurd hd h1; omega
  | elem k e i he =>
   obtain ⟨esz', rows', row, r', row', f1, f2, f3, f4, f5, f6, f7, f8, f9, f10⟩ := J5X h he
   rw [hb] at f9; injection f9 with f9; injection f9 with a1 a2 a3; subst a1 a2 a3
   have hlt := J8 f3
   rcases hi.arr _ _ _ _ f1 with ⟨hm, hr⟩ | ⟨r, c, e1, fz, hm, hh, hrow, hl, hx, hfr⟩
   ·subst hr; simp at f3
   ·rw [f4] at hm; injection hm with hm; injection hm with hm _; subst hm
    obtain ⟨c2, q1, q2, q3⟩ := t.keep.2.1 _ _ _ _ hh
    obtain ⟨rr, oo, c3, e3, fz3, m3, hh3, hle3, hx3, hfr3⟩ := h.inv.box _ _ f5
    rw [f8] at m3; injection m3 with m3; injection m3 with w1 w2; subst w1 w2
    have q1' : c'.w.heap[r']? = some (.cells c2 e1 fz) := q1
    rw [q1'] at hh3; injection hh3 with hh3; injection hh3 with w1 w2 w3; subst w1 w2 w3
    refine .inr ⟨r', c2, e1, fz, f10, q1, fun rw0 hrw => ?_, by simp; omega, fun k0 j row0 x0 hk0 hj0 => ⟨?_, fun h => by cases h⟩, by rw [q2]; exact hfr⟩
    ·rcases List.mem_or_eq_of_mem_set hrw with hm | hm
     ·exact hrow _ hm
     ·subst hm; omega
    ·have hjlt := J8 hj0
     by_cases hki : k0 = i
     ·subst hki
      rw [List.getElem?_set_self hlt] at hk0
      injection hk0 with hk0; subst hk0
      obtain ⟨v, hv, hr, _⟩ := hx3 j (.p x0) (by simp [hj0])
      refine ⟨v, hv, ?_⟩
      cases hr with | p _ _ hr => exact hr
     ·rw [List.getElem?_set_ne (Ne.symm hki)] at hk0
      obtain ⟨⟨v', hv', hr'⟩, _⟩ := hx k0 j row0 x0 hk0 hj0
      refine ⟨v', ?_, hr'.mono hi t⟩
      have hcell : cellAt s1.w r' (k0 * esz + j) = some v' := by rw [J1E hh]; exact hv'
      have hj1 : j < esz := by rw [hrow _ (JM hk0)] at hjlt; exact hjlt
      have hnw : ¬ Wr (J53 s1 es blks) r' (k0 * esz + j) := by
       rintro ⟨k', hk'⟩
       obtain ⟨hlt', hw'⟩ := J8O h.cin k' _ _ hk'
       have he' : es[k']? = some es[k'] := List.getElem?_eq_getElem hlt'
       rw [J89 he'] at hw'
       have hb1 : Wr1 s1 b r' (k0 * esz + j) := by unfold Wr1; rw [f1]; exact ⟨0, f4⟩
       have hid := hi.apart _ _ _ _ hw' hb1
       have hkk : k' = k := JaA h he' he hid
       subst hkk
       obtain ⟨x, hx', hin⟩ := J7Z h.cin he
       obtain ⟨esz2, rows2, row2, g1, g2, g3, rfl⟩ := hin
       rw [f1] at g1; injection g1 with g1; injection g1 with z1 z2 z3; subst z2 z3
       have hx'' : (J53 s1 es blks).σ[k']? = some (.box (row2.map .p)) := hx'
       unfold Wr1 at hk'
       rw [hx'', J9w he f1 f4] at hk'
       obtain ⟨o0, m0, hlo, hhi⟩ := hk'
       injection m0 with m0; injection m0 with _ m0; subst m0
       have hrl2 := hrow row2 (JM g3)
       simp at hhi
       rcases Nat.lt_or_ge k0 i with hlt2 | hge2
       ·have := J48 hlt2 hj1
        omega
       ·have := Nat.mul_le_mul_right esz (show i + 1 ≤ k0 by omega)
        rw [Nat.add_mul, Nat.one_mul] at this
        omega
      have := h.trans.keep.cell hnw hcell
      rw [J1E q1'] at this
      exact this
  | out k hk ht hne =>
   subst ht
   have hlt : k < c'.σ.length := by rw [h.len]; exact hk
   have hg : c'.σ[k]? = some c'.σ[k] := List.getElem?_eq_getElem hlt
   have ho := h.out k _ hg
   unfold J7w at ho
   have key : c'.σ[k]? = some (.arr wm esz rows) := by
    cases he : es[k]? with
    | some e =>
     cases e with
     | elem b e i => exact absurd he (hne b e i)
     | whole b' =>
      simp only [tgt, he, Ent.id] at hb
      rw [he] at ho
      rcases ho with ⟨cs3, l', e1, e2, e3⟩ | ⟨w, esz2, rows3, e1, e2⟩
      ·rw [hb] at e3; cases e3
      ·rw [hb] at e2; injection e2 with e2; rw [hg, e1, e2]
    | none =>
     simp only [tgt, he] at hb
     rw [he] at ho
     rcases ho with ⟨cs3, l', e1, e2, e3⟩ | ⟨w, esz2, rows3, e1, e2⟩
     ·rw [hb] at e3; cases e3
     ·rw [hb] at e2; injection e2 with e2; rw [hg, e1, e2]
   rcases h.inv.arr _ _ _ _ key with ⟨hm, hr⟩ | ⟨r, c, e, fz, hm, hq⟩
   ·exact .inl ⟨by rw [J6z h hk hne]; exact hm, hr⟩
   ·exact .inr ⟨r, c, e, fz, by rw [J6z h hk hne]; exact hm, hq⟩
 ·
  intro b1 b2 r o hd h1 h2
  cases J5T (es := es) (new := new) (kf := kf) b1 with
  | other g1 g2 => rcases hd with hd | hd; exact absurd hd g1; omega
  | out k1 hk1 ht1 hne1 =>
   subst ht1
   have w1 := (JbY h hk1 hne1 r o).1 h1
   cases J5T (es := es) (new := new) (kf := kf) b2 with
   | out k2 hk2 ht2 hne2 =>
    subst ht2
    have w2 := (JbY h hk2 hne2 r o).1 h2
    rw [h.inv.apart _ _ _ _ w1 w2]
   | elem k2 e i he =>
    exfalso
    have w2 := (Jat h he r o).1 h2
    obtain ⟨k', hk' | ⟨e', i', hk', hkk⟩⟩ := meet hk1 w1 w2
    ·have := JaA h hk' he rfl
     subst this; rw [he] at hk'; cases hk'
    ·subst hkk; exact hne1 _ _ _ hk'
   | other g1 g2 =>
    exfalso
    have w2 := (Je7 h g1 g2 r o).1 h2
    obtain ⟨k', hk' | ⟨e', i', hk', hkk⟩⟩ := meet hk1 w1 w2
    ·exact g1 (J9m hk')
    ·exact g1 (J9m hk')
  | elem k1 e1 i1 he1 =>
   have w1 := (Jat h he1 r o).1 h1
   cases J5T (es := es) (new := new) (kf := kf) b2 with
   | out k2 hk2 ht2 hne2 =>
    subst ht2
    exfalso
    have w2 := (JbY h hk2 hne2 r o).1 h2
    obtain ⟨k', hk' | ⟨e', i', hk', hkk⟩⟩ := meet hk2 w2 w1
    ·have := JaA h hk' he1 rfl
     subst this; rw [he1] at hk'; cases hk'
    ·subst hkk; exact hne2 _ _ _ hk'
   | elem k2 e i he => exact hi.apart _ _ _ _ w1 ((Jat h he r o).1 h2)
   | other g1 g2 => exact hi.apart _ _ _ _ w1 ((Je7 h g1 g2 r o).1 h2)
 ·exact fun r o hc => (h.inv.const r o hc).1
 ·intro r o b hc hd hw
  cases J5T (es := es) (new := new) (kf := kf) b with
  | other g1 g2 => rcases hd with hd | hd; exact absurd hd g1; omega
  | out k hk ht hne =>
   subst ht
   exact (h.inv.const r o hc).2 _ ((JbY h hk hne r o).1 hw)
  | elem k e i he =>
   have w1 := (Jat h he r o).1 hw
   rcases h.trans.cnew r o hc with hc0 | ⟨k', hk'⟩ | hn
   ·exact (hi.const r o hc0).2 _ w1
   ·obtain ⟨hlt', hw'⟩ := J8O h.cin k' _ _ hk'
    have he' : es[k']? = some es[k'] := List.getElem?_eq_getElem hlt'
    rw [J89 he'] at hw'
    have hid := hi.apart _ _ _ _ hw' w1
    have hkk : k' = k := JaA h he' he hid
    subst hkk
    exact (h.inv.const r o hc).2 _ ((elem_back he).1 hk')
   ·have hn : s1.w.heap.size ≤ r := hn
    have := J8N hi _ _ _ w1; omega
 ·intro r o b hc hn0 hd hw
  rcases h.trans.cnew r o hc with hc0 | ⟨k', hk'⟩ | hn
  ·exact hn0 hc0
  ·obtain ⟨hlt', hw'⟩ := J8O h.cin k' _ _ hk'
   have he' : es[k']? = some es[k'] := List.getElem?_eq_getElem hlt'
   rw [J89 he'] at hw'
   have hid := hi.apart _ _ _ _ hw' hw
   exact hd (.inl (hid ▸ J9m he'))
  ·have hn : s1.w.heap.size ≤ r := hn
   have := J8N hi _ _ _ hw; omega
end
end Go.Am
end
section
namespace Go.Am
section
variable {P : Program} {F : Orc} {s : Sn} {a : Act} {env : List (Nat × AV)} {o : Oper} {new : Nat} {e : Eff}
theorem Jkc {σ0 : List Blk} (hi : Inv s) (hF : Frz σ0 s.σ) {x : AV} {y : AV × List (Nat × Blk)} {v : Value} (h : (J6e x).run ⟨env, σ0⟩ = some y) (hr : Jf s x v) :
  ∃ g', Inv ⟨upd y.2 s.σ, g', s.w⟩ ∧ Js s ⟨upd y.2 s.σ, g', s.w⟩ ∧ Frz s.σ (upd y.2 s.σ) ∧ Jf ⟨upd y.2 s.σ, g', s.w⟩ y.1 v := by
 have same : ∀ {z : AV}, (RM.ret (z, []) : RM (AV × List (Nat × Blk))).run ⟨env, σ0⟩ = some y → Jf s z v → ∃ g', Inv ⟨upd y.2 s.σ, g', s.w⟩ ∧ Js s ⟨upd y.2 s.σ, g', s.w⟩ ∧ Frz s.σ (upd y.2 s.σ) ∧ Jf ⟨upd y.2 s.σ, g', s.w⟩ y.1 v := by
  intro z hz hr
  simp only [RM.run] at hz; injection hz with hz; subst hz
  exact ⟨s.g, hi, .refl s, .refl _, hr⟩
 cases x with
 | slr b i n =>
  simp only [J6e] at h
  obtain ⟨y1, h1, h⟩ := bind_some h
  obtain ⟨g', k1, k2, k3, c, hc, rc⟩ := J7h hi hF h1 hr
  rw [hc] at h
  simp only [RM.run] at h; injection h with h; subst h
  exact ⟨g', k1, k2, k3, .p _ _ rc⟩
 | agg cs =>
  simp only [J6e] at h
  obtain ⟨y1, h1, h⟩ := bind_some h
  simp only [RM.run] at h; injection h with h; subst h
  obtain ⟨g', k1, k2, k3, k4, k5⟩ := Jj8 hi hF h1 hr
  cases hr with
  | agg _ vs h1 h0 h2 => exact ⟨g', k1, k2, k3, .data _ _ k4 fun i x v hx hv => k5 i x v hx hv⟩
 | tup => simp only [J6e, RM.run] at h; cases h
 | p c => exact same h hr
 | data cs => exact same h hr
 | ptr b off => exact same h hr
 | cp cs off => exact same h hr
 | ep b e i off => exact same h hr
 | fn f first caps => exact same h hr
 | unk => exact same h hr
theorem Jhf {σ0 : List Blk} : ∀ {xs : List AV} {s : Sn} {y : List AV × List (Nat × Blk)} {vs : List Value}, Inv s → Frz σ0 s.σ → (J4J xs).run ⟨env, σ0⟩ = some y → xs.length = vs.length →
  (∀ (i : Nat) x v, xs[i]? = some x → vs[i]? = some v → Jf s x v) →
  ∃ g', Inv ⟨upd y.2 s.σ, g', s.w⟩ ∧ Js s ⟨upd y.2 s.σ, g', s.w⟩ ∧ Frz s.σ (upd y.2 s.σ) ∧ y.1.length = vs.length ∧
   ∀ (i : Nat) x v, y.1[i]? = some x → vs[i]? = some v → Jf ⟨upd y.2 s.σ, g', s.w⟩ x v
 | [], s, y, vs, hi, hF, h, hl, hr => by
  simp only [J4J, RM.run] at h; injection h with h; subst h
  exact ⟨s.g, hi, .refl s, .refl _, by simpa using hl, fun i c v hc => by simp at hc⟩
 | x :: xs, s, y, [], hi, hF, h, hl, hr => by simp at hl
 | x :: xs, s, y, v :: vs, hi, hF, h, hl, hr => by
  simp only [J4J] at h
  obtain ⟨y1, h1, h⟩ := bind_some h
  obtain ⟨y2, h2, h⟩ := bind_some h
  simp only [RM.run] at h; injection h with h; subst h
  obtain ⟨g1, i1, t1, f1, r1⟩ := Jkc hi hF h1 (hr 0 x v rfl rfl)
  obtain ⟨g2, i2, t2, f2, l2, r2⟩ := Jhf (s := ⟨upd y1.2 s.σ, g1, s.w⟩) i1 (hF.trans f1) h2 (by simpa using hl) fun i x v hx hv => (hr (i + 1) x v (by simpa using hx) (by simpa using hv)).mono hi t1
  refine ⟨g2, by rw [J0I]; exact i2, by rw [J0I]; exact t1.trans t2, by rw [J0I]; exact f1.trans f2, by simp [l2], fun i c' v' hc' hv' => ?_⟩
  rw [J0I]
  cases i with
  | zero =>
   simp at hc' hv'; subst hc' hv'
   exact Jf.mono (s0 := ⟨upd y1.2 s.σ, g1, s.w⟩) (s := ⟨upd y2.2 (upd y1.2 s.σ), g2, s.w⟩) i1 t2 r1
  | succ i => exact r2 i c' v' (by simpa using hc') (by simpa using hv')
def Joq (s1 : Sn) (es : List Ent) (new : Nat) (e : Ent) (x : Blk) (y : Nat × Blk) : Prop :=
 y.1 = e.id ∧ match e with
 | .whole _ => (∃ cs l, x = .box cs ∧ bk.bkL es new cs = some l ∧ y.2 = .box l) ∨ (∃ w esz rows, x = .arr w esz rows ∧ y.2 = .arr w esz rows)
 | .elem b _ i => ∃ w esz rows row', s1.σ[b]? = some (.arr w esz rows) ∧ x = .box (row'.map .p) ∧ y.2 = .arr w esz (rows.set i row')
theorem JmL {σ0 : List Blk} {ws : List (Nat × Blk)} (hσ : s.σ = upd ws σ0) {es : List Ent} {en : Ent} {x : Blk} {y : Nat × Blk} (h : (J5z ws es new en x).run ⟨env, σ0⟩ = some y) : Joq s es new en x y := by
 unfold J5z at h
 split at h
 ·rename_i b cs
  split at h
  ·rename_i l hl
   simp only [RM.run] at h; injection h with h; subst h
   exact ⟨rfl, .inl ⟨cs, l, rfl, hl, rfl⟩⟩
  ·cases h
 ·simp only [RM.run] at h; injection h with h; subst h
  exact ⟨rfl, .inr ⟨_, _, _, rfl, rfl⟩⟩
 ·rename_i b ext i cs
  obtain ⟨z, h1, h⟩ := bind_some h
  have hb := Jef h1
  rw [← hσ] at hb
  cases z with
  | arr w esz rows =>
   dsimp only at h
   split at h
   ·rename_i row' hrow
    simp only [RM.run] at h; injection h with h; subst h
    exact ⟨rfl, w, esz, rows, row', hb, by rw [Jb8 hrow], rfl⟩
   ·cases h
  | _ => cases h
 ·cases h
theorem Jdn {σ0 : List Blk} {ws : List (Nat × Blk)} (hσ : s.σ = upd ws σ0) {es : List Ent} : ∀ {ens : List Ent} {xs : List Blk} {ys : List (Nat × Blk)}, (J2g ws es new ens xs).run ⟨env, σ0⟩ = some ys →
  ens.length = ys.length ∧ ens.length ≤ xs.length ∧ ∀ (k : Nat) en x y, ens[k]? = some en → xs[k]? = some x → ys[k]? = some y → Joq s es new en x y
 | [], xs, ys, h => by simp only [J2g, RM.run] at h; injection h with h; subst h; exact ⟨rfl, Nat.zero_le _, fun k e x y h => by simp at h⟩
 | _ :: _, [], ys, h => by cases h
 | en :: ens, x :: xs, ys, h => by
  simp only [J2g] at h
  obtain ⟨y, h1, h⟩ := bind_some h
  obtain ⟨l, h2, h⟩ := bind_some h
  simp only [RM.run] at h; injection h with h; subst h
  obtain ⟨k1, k2, k3⟩ := Jdn hσ h2
  refine ⟨by simp [k1], by simpa using k2, fun k e' x' y' he hx hy => ?_⟩
  cases k with
  | zero => simp at he hx hy; subst he hx hy; exact JmL hσ h1
  | succ k => exact k3 k e' x' y' (by simpa using he) (by simpa using hx) (by simpa using hy)
theorem Ja1 {es : List Ent} : ∀ {xs : List Blk} {k0 : Nat} {ys : List (Nat × Blk)}, J1O es new k0 xs = some ys →
  xs.length = ys.length ∧ ∀ (j : Nat) x y, xs[j]? = some x → ys[j]? = some y → y.1 = k0 + j ∧ ((∃ cs l, x = .box cs ∧ bk.bkL es new cs = some l ∧ y.2 = .box l) ∨ (∃ w esz rows, x = .arr w esz rows ∧ y.2 = .arr w esz rows))
 | [], k0, ys, h => by simp [J1O] at h; subst h; exact ⟨rfl, fun j x y h => by simp at h⟩
 | .dead :: _, k0, ys, h => by simp [J1O] at h
 | .box cs :: xs, k0, ys, h => by
  simp only [J1O] at h
  split at h
  ·rename_i c l hc hl
   injection h with h; subst h
   obtain ⟨k1, k2⟩ := Ja1 hl
   refine ⟨by simp [k1], fun j x y hx hy => ?_⟩
   cases j with
   | zero => simp at hx hy; subst hx hy; exact ⟨rfl, .inl ⟨cs, c, rfl, hc, rfl⟩⟩
   | succ j => obtain ⟨h1, h2⟩ := k2 j x y (by simpa using hx) (by simpa using hy); exact ⟨by omega, h2⟩
  ·cases h
 | .arr w esz rows :: xs, k0, ys, h => by
  simp only [J1O] at h
  split at h
  ·rename_i l hl
   injection h with h; subst h
   obtain ⟨k1, k2⟩ := Ja1 hl
   refine ⟨by simp [k1], fun j x y hx hy => ?_⟩
   cases j with
   | zero => simp at hx hy; subst hx hy; exact ⟨rfl, .inr ⟨w, esz, rows, rfl, rfl⟩⟩
   | succ j => obtain ⟨h1, h2⟩ := k2 j x y (by simpa using hx) (by simpa using hy); exact ⟨by omega, h2⟩
  ·cases h
theorem Jhc (b : Nat) (p q : List (Nat × Blk)) : J3i b (p ++ q) = match J3i b q with
  | some y => some y
  | none => J3i b p := by
 induction p with
 | nil => simp [J3i]; cases J3i b q <;> rfl
 | cons x p ih =>
  obtain ⟨c, z⟩ := x
  simp only [List.cons_append, J3i, ih]
  cases J3i b q <;> rfl
theorem Jdx {b : Nat} {x : Blk} : ∀ {ws : List (Nat × Blk)}, (ws.map (·.1)).Nodup → ∀ {k : Nat}, ws[k]? = some (b, x) → J3i b ws = some x
 | [], _, k, h => by simp at h
 | (c, z) :: r, hn, k, h => by
  obtain ⟨h1, h2⟩ := List.nodup_cons.1 hn
  simp only [J3i]
  cases k with
  | zero =>
   simp at h
   obtain ⟨rfl, rfl⟩ := h
   rw [J47 h1]; simp
  | succ k => rw [Jdx h2 (k := k) (by simpa using h)]
theorem JkE (n k : Nat) : ((List.range k).map (n + ·)).Nodup := by
 rw [List.Nodup, List.pairwise_map]
 exact (List.nodup_range (n := k)).imp fun h e => h (by omega)
theorem Jh6 (hF : J2P P F) {f : FuncId} {ar : List AV × List (Nat × Blk)} {k0 : Nat} {vals : Array Value} (hdead0 : ∀ j, j < k0 → s.σ[new + j]? = some .dead)
  {g1 : Gh} (i1 : Inv ⟨upd ar.2 s.σ, g1, s.w⟩) (t1 : Js s ⟨upd ar.2 s.σ, g1, s.w⟩) (f1 : Frz s.σ (upd ar.2 s.σ)) (l1 : ar.1.length = vals.toList.length)
  (r1 : ∀ (i : Nat) x v, ar.1[i]? = some x → vals.toList[i]? = some v → Jf ⟨upd ar.2 s.σ, g1, s.w⟩ x v)
  (h : (J1Q F f ar k0 new).run ⟨env, s.σ⟩ = some e)
  (hex : ∀ fn, P.funcs[f]? = some fn → fn.body.isSome = true → (fn.name == "runtime.NumGoroutine") = false → (execOp a.eval o).run P s.w = .ok (.enter f vals) s.w) : J0h P o a s e := by
 unfold J1Q at h
 obtain ⟨es1, h2, h⟩ := bind_some h
 obtain ⟨es, h3, h⟩ := bind_some h
 split at h
 ·rename_i hnd
  split at h
  ·cases h
  ·rename_i args' hren
   obtain ⟨blks, h4, h⟩ := bind_some h
   split at h
   ·cases h
   ·rename_i r hres
    split at h
    ·rename_i hlen0
     obtain ⟨k, hlen, hk⟩ : ∃ k, r.2.length = es.length + k ∧ k ≤ k0 := ⟨r.2.length - es.length, by omega, by omega⟩
     have hdead : ∀ j, j < k → s.σ[new + j]? = some .dead := fun j hj => hdead0 j (by omega)
     clear hlen0
     split at h
     ·rename_i v fresh hv hfresh
      obtain ⟨back, h5, h⟩ := bind_some h
      simp only [RM.run] at h; injection h with h; subst h
      let s1 : Sn := ⟨upd ar.2 s.σ, g1, s.w⟩
      obtain ⟨bl, hblk⟩ := JeT (s := s1) rfl h4
      have cin : Jj4 s1 es blks := ⟨i1, J8w hnd, bl, hblk⟩
      obtain ⟨⟨fn, hfn, hbody, hname⟩, hcall⟩ := hF f args' blks r hres
      obtain ⟨q1, q2⟩ := J40 hren
      have ci := JsH cin
      have hc := hcall (J53 s1 es blks).g s.w vals ci (by rw [← q1, l1]; simp) (fun i x v hx hv => by
       have hlt := J8 hx
       have hx0 : ar.1[i]? = some (ar.1[i]'(by omega)) := List.getElem?_eq_getElem _
       exact JoE cin (r1 i _ v hx0 (by simpa using hv)) (q2 i _ x hx0 hx))
      intro next Q hnext
      simp only [Oper.wp, hex fn hfn hbody hname, Oper.upon]
      refine hc.mono ?_
      rintro e w' ⟨rv, g', rfl, inv', trans', rel'⟩
      simp only
      obtain ⟨b1, b2, b3⟩ := Jdn (s := s1) rfl h5
      obtain ⟨n1, n2⟩ := Ja1 hfresh
      have hdead1 : ∀ j, j < k → s1.σ[new + j]? = some .dead := fun j hj => f1.2 _ _ (hdead j hj) (by simp)
      have hkf : (r.2.drop es.length).length = k := by simp; omega
      have hbid : back.map (·.1) = es.map Ent.id := by
       apply List.ext_getElem?
       intro i
       rw [List.getElem?_map, List.getElem?_map]
       by_cases hlt : i < es.length
       ·have e1 : es[i]? = some es[i] := List.getElem?_eq_getElem hlt
        have e2 : back[i]? = some (back[i]'(by omega)) := List.getElem?_eq_getElem _
        have e3 : r.2[i]? = some (r.2[i]'(by omega)) := List.getElem?_eq_getElem _
        have := (b3 i _ _ _ e1 e3 e2).1
        rw [e1, e2]; simp [this]
       ·rw [List.getElem?_eq_none (by omega), List.getElem?_eq_none (by omega)]; rfl
      have hfid : ∀ j, j < k → fresh[j]? = some (new + j, (fresh[j]?.map (·.2)).getD .dead) := by
       intro j hj
       have e1 : fresh[j]? = some (fresh[j]'(by omega)) := List.getElem?_eq_getElem _
       have e2 : (r.2.drop es.length)[j]? = some ((r.2.drop es.length)[j]'(by omega)) := List.getElem?_eq_getElem _
       have := (n2 j _ _ e2 e1).1
       rw [e1]; simp [← this]
      have hfnd : (fresh.map (·.1)).Nodup := by
       have : fresh.map (·.1) = (List.range k).map (new + ·) := by
        apply List.ext_getElem?
        intro j
        by_cases hj : j < k
        ·rw [List.getElem?_map, hfid j hj, List.getElem?_map, List.getElem?_range hj]; rfl
        ·rw [List.getElem?_eq_none (by simp; omega), List.getElem?_eq_none (by simp; omega)]
       rw [this]
       exact JkE new k
      have hfmem : ∀ b, b ∈ fresh.map (·.1) ↔ new ≤ b ∧ b < new + k := by
       intro b
       constructor
       ·intro hm
        obtain ⟨j, hj⟩ := List.getElem?_of_mem hm
        have hlt := J8 hj
        simp at hlt
        rw [List.getElem?_map, hfid j (by omega)] at hj
        simp at hj; omega
       ·intro hm
        have := hfid (b - new) (by omega)
        rw [show new + (b - new) = b by omega] at this
        exact List.mem_map.2 ⟨_, JM this, rfl⟩
      have hlenσ : (upd (back ++ fresh) s1.σ).length = s1.σ.length := J7W _ _
      have liveE : ∀ {k0 : Nat} {en : Ent}, es[k0]? = some en → en.id < s1.σ.length ∧ ¬ (new ≤ en.id ∧ en.id < new + k) := by
       intro k0 en he
       obtain ⟨x, _, hin⟩ := J7Z cin he
       have hy : ∃ y, s1.σ[en.id]? = some y ∧ y ≠ .dead := by
        cases en with
        | whole b =>
         rcases hin with ⟨cs', l, h1, h2, rfl⟩ | ⟨w, esz', rows', h1, rfl⟩
         ·exact ⟨_, h1, by simp⟩
         ·exact ⟨_, h1, by simp⟩
        | elem b ext i =>
         obtain ⟨esz', rows', row, h1, h2, h3, rfl⟩ := hin
         exact ⟨_, h1, by simp⟩
       obtain ⟨y, hy, hd⟩ := hy
       refine ⟨J8 hy, fun hm => ?_⟩
       have := hdead1 (en.id - new) (by omega)
       rw [show new + (en.id - new) = en.id by omega, hy] at this
       injection this with this; exact hd this
      have getE : ∀ {k0 : Nat} {en : Ent} {y : Nat × Blk}, es[k0]? = some en → back[k0]? = some y → (upd (back ++ fresh) s1.σ)[en.id]? = some y.2 := by
       intro k0 en y he hy
       obtain ⟨hlt, hnf⟩ := liveE he
       have e3 : r.2[k0]? = some (r.2[k0]'(by have := J8 he; omega)) := List.getElem?_eq_getElem _
       have hid := (b3 k0 en _ y he e3 hy).1
       rw [J70 _ _ _ hlt, Jhc, J47 (by rw [hfmem]; exact hnf)]
       simp only
       rw [Jdx (x := y.2) (by rw [hbid]; exact cin.nodup) (k := k0) (by rw [hy, ← hid])]
      have getN : ∀ {j : Nat} {y : Nat × Blk}, j < k → fresh[j]? = some y → (upd (back ++ fresh) s1.σ)[new + j]? = some y.2 := by
       intro j y hj hy
       have hlt := J8 (hdead1 j hj)
       have e2 : (r.2.drop es.length)[j]? = some ((r.2.drop es.length)[j]'(by omega)) := List.getElem?_eq_getElem _
       have hid := (n2 j _ _ e2 hy).1
       rw [J70 _ _ _ hlt, Jhc, Jdx (x := y.2) hfnd (k := j) (by rw [hy, ← hid])]
      have co : Jlh s1 es blks new k ⟨r.2, g', w'⟩ (upd (back ++ fresh) s1.σ) := by
       refine ⟨cin, inv', trans', hlen, hlenσ, hdead1, fun k0 y hy => ?_, fun b hb1 hb2 => ?_⟩
       ·have hy : r.2[k0]? = some y := hy
        unfold J7w
        cases he : es[k0]? with
        | some en =>
         have hlt := J8 he
         have e2 : back[k0]? = some (back[k0]'(by omega)) := List.getElem?_eq_getElem _
         obtain ⟨hid, hbk⟩ := b3 k0 en y _ he hy e2
         have hg := getE he e2
         cases en with
         | whole b =>
          rcases hbk with ⟨cs, l, e1, e3, e4⟩ | ⟨w, esz, rows, e1, e4⟩
          ·exact .inl ⟨cs, l, e1, e3, by rw [← e4]; exact hg⟩
          ·exact .inr ⟨w, esz, rows, e1, by rw [← e4]; exact hg⟩
         | elem b ext i =>
          obtain ⟨w, esz, rows, row', e1, e3, e4⟩ := hbk
          exact ⟨w, esz, rows, row', e1, e3, by rw [← e4]; exact hg⟩
        | none =>
         have hge : es.length ≤ k0 := by
          rcases Nat.lt_or_ge k0 es.length with hlt | hge
          ·rw [List.getElem?_eq_getElem hlt] at he; cases he
          ·exact hge
         have hlt := J8 hy
         have e2 : fresh[k0 - es.length]? = some (fresh[k0 - es.length]'(by omega)) := List.getElem?_eq_getElem _
         have e3 : (r.2.drop es.length)[k0 - es.length]? = some y := by rw [List.getElem?_drop, ← hy]; congr 1; omega
         obtain ⟨hid, hbk⟩ := n2 _ _ _ e3 e2
         have hg := getN (j := k0 - es.length) (by omega) e2
         rcases hbk with ⟨cs, l, e1, e5, e4⟩ | ⟨w, esz, rows, e1, e4⟩
         ·exact .inl ⟨cs, l, e1, e5, by rw [← e4]; exact hg⟩
         ·exact .inr ⟨w, esz, rows, e1, by rw [← e4]; exact hg⟩
       ·by_cases hlt : b < s1.σ.length
        ·rw [J70 _ _ _ hlt, J47]
         rw [List.map_append, List.mem_append, hbid, hfmem]
         rintro (h | h)
         ·exact hb1 h
         ·omega
        ·rw [List.getElem?_eq_none (by omega), List.getElem?_eq_none (by omega)]
      have oi := Js5 co
      have ot := Jhm co
      have hupd : upd (ar.2 ++ back ++ fresh) s.σ = upd (back ++ fresh) s1.σ := by rw [List.append_assoc, J0I]
      refine hnext rv w' (J2s s1 es new k ⟨r.2, g', w'⟩ (upd (back ++ fresh) s1.σ)).g ?_ ?_ ?_
      ·rw [hupd]; exact oi
      ·rw [hupd]; exact t1.trans ot
      ·rw [hupd]; exact JlF co rel' hv
     ·cases h
    ·cases h
 ·cases h
theorem Jm9 {f : FuncId} {args : List AV} {k : Nat} {s : St} (h : (J3H F f args k new).run s = some e) : ∃ ar, (J4J args).run s = some ar ∧ (J1Q F f ar k new).run s = some e := by
 unfold J3H at h
 obtain ⟨ar, h1, h⟩ := bind_some h
 obtain ⟨es1, h2, h⟩ := bind_some h
 obtain ⟨es, h3, h⟩ := bind_some h
 refine ⟨ar, h1, ?_⟩
 unfold J1Q
 rw [run_bind, h2, Option.bind_some, run_bind, h3, Option.bind_some]
 split at h
 ·rename_i hnd
  rw [if_pos hnd]
  split at h
  ·cases h
  ·rename_i args' hren
   obtain ⟨blks, h4, h⟩ := bind_some h
   try rw [hren]
   try dsimp only
   rw [run_bind, h4, Option.bind_some]
   split at h
   ·cases h
   ·rename_i r hres
    try rw [hres]
    try dsimp only
    split at h
    ·rename_i hlen
     rw [if_pos (by omega)]
     exact h
    ·cases h
 ·cases h
theorem JlZ (hF : J2P P F) (hi : Inv s) {f : FuncId} {args : List AV} {k : Nat} {vals : Array Value} (hdead : ∀ j, j < k → s.σ[new + j]? = some .dead)
  (h : (J3H F f args k new).run ⟨env, s.σ⟩ = some e) (hl : args.length = vals.size) (hr : ∀ (i : Nat) x v, args[i]? = some x → vals[i]? = some v → Jf s x v)
  (hex : ∀ fn, P.funcs[f]? = some fn → fn.body.isSome = true → (fn.name == "runtime.NumGoroutine") = false → (execOp a.eval o).run P s.w = .ok (.enter f vals) s.w) : J0h P o a s e := by
 obtain ⟨ar, h1, h2⟩ := Jm9 h
 obtain ⟨g1, i1, t1, f1, l1, r1⟩ := Jhf (vs := vals.toList) hi (.refl _) h1 (by simpa using hl) (fun i x v hx hv => hr i x v hx (by simpa using hv))
 exact Jh6 hF hdead i1 t1 f1 l1 r1 h2 hex
theorem Jol {σ0 : List Blk} : ∀ {m : List Bool} {xs : List AV} {s : Sn} {y : List AV × List (Nat × Blk)} {vs : List Value}, Inv s → Frz σ0 s.σ → (J2i m xs).run ⟨env, σ0⟩ = some y → xs.length = vs.length →
  (∀ (i : Nat) x v, xs[i]? = some x → vs[i]? = some v → Jf s x v) →
  ∃ g', Inv ⟨upd y.2 s.σ, g', s.w⟩ ∧ Js s ⟨upd y.2 s.σ, g', s.w⟩ ∧ Frz s.σ (upd y.2 s.σ) ∧ y.1.length = vs.length ∧
   ∀ (i : Nat) x v, y.1[i]? = some x → vs[i]? = some v → Jf ⟨upd y.2 s.σ, g', s.w⟩ x v := by
 intro m xs
 induction xs generalizing m with
 | nil =>
  intro s y vs hi hF h hl hr
  have h : (RM.ret ([], []) : RM (List AV × List (Nat × Blk))).run ⟨env, σ0⟩ = some y := by cases m <;> exact h
  simp only [RM.run] at h; injection h with h; subst h
  exact ⟨s.g, hi, .refl s, .refl _, by simpa using hl, fun i c v hc => by simp at hc⟩
 | cons x xs ih =>
  intro s y vs hi hF h hl hr
  cases vs with
  | nil => simp at hl
  | cons v vs =>
   have frz : ∀ {m' : List Bool}, ((J6e x).bind fun a => (J2i m' xs).bind fun c => .ret (a.1 :: c.1, a.2 ++ c.2)).run ⟨env, σ0⟩ = some y →
     ∃ g', Inv ⟨upd y.2 s.σ, g', s.w⟩ ∧ Js s ⟨upd y.2 s.σ, g', s.w⟩ ∧ Frz s.σ (upd y.2 s.σ) ∧ y.1.length = (v :: vs).length ∧
      ∀ (i : Nat) x v', y.1[i]? = some x → (v :: vs)[i]? = some v' → Jf ⟨upd y.2 s.σ, g', s.w⟩ x v' := by
    intro m' h
    obtain ⟨y1, h1, h⟩ := bind_some h
    obtain ⟨y2, h2, h⟩ := bind_some h
    simp only [RM.run] at h; injection h with h; subst h
    obtain ⟨g1, i1, t1, f1, r1⟩ := Jkc hi hF h1 (hr 0 x v rfl rfl)
    obtain ⟨g2, i2, t2, f2, l2, r2⟩ := ih (m := m') (s := ⟨upd y1.2 s.σ, g1, s.w⟩) i1 (hF.trans f1) h2 (by simpa using hl) fun i x v hx hv => (hr (i + 1) x v (by simpa using hx) (by simpa using hv)).mono hi t1
    refine ⟨g2, by rw [J0I]; exact i2, by rw [J0I]; exact t1.trans t2, by rw [J0I]; exact f1.trans f2, by simp [l2], fun i c' v' hc' hv' => ?_⟩
    rw [J0I]
    cases i with
    | zero =>
     simp at hc' hv'; subst hc' hv'
     exact Jf.mono (s0 := ⟨upd y1.2 s.σ, g1, s.w⟩) (s := ⟨upd y2.2 (upd y1.2 s.σ), g2, s.w⟩) i1 t2 r1
    | succ i => exact r2 i c' v' (by simpa using hc') (by simpa using hv')
   cases m with
   | nil => exact frz h
   | cons b m =>
    cases b with
    | false => exact frz h
    | true =>
     simp only [J2i] at h
     obtain ⟨y2, h2, h⟩ := bind_some h
     simp only [RM.run] at h; injection h with h; subst h
     obtain ⟨g2, i2, t2, f2, l2, r2⟩ := ih (m := m) hi hF h2 (by simpa using hl) fun i x v hx hv => hr (i + 1) x v (by simpa using hx) (by simpa using hv)
     refine ⟨g2, i2, t2, f2, by simp [l2], fun i c' v' hc' hv' => ?_⟩
     cases i with
     | zero =>
      simp at hc' hv'; subst hc' hv'
      exact (hr 0 x v rfl rfl).mono hi t2
     | succ i => exact r2 i c' v' (by simpa using hc') (by simpa using hv')
theorem J9p {f : FuncId} {args : Array Value} {fn : Func} (h1 : P.funcs[f]? = some fn) (h2 : fn.body.isSome = true) (h3 : (fn.name == "runtime.NumGoroutine") = false) (w : World) :
  (callFunc f args).run P w = .ok (.enter f args) w := by
 have h3' : fn.name ≠ "runtime.NumGoroutine" := by simpa using h3
 have h4 : fn.body ≠ none := by intro h; rw [h] at h2; cases h2
 simp [callFunc, h1, h3', h4]
theorem Jr2 (hF : J2P P F) (hi : Inv s) (he : JA s a.tmps env) {f args k} (hdead : ∀ j, j < k → s.σ[new + j]? = some .dead) (h : (opR F (.call f args k) new).run ⟨env, s.σ⟩ = some e)
  (hc : Jk P (.call f args k) o.op = true) : J0h P o a s e := by
 simp only [opR] at h
 obtain ⟨vs, h1, h'⟩ := bind_some h
 clear h
 unfold Jk at hc
 simp only at hc
 split at hc
 ·rename_i c hop
  split at hc
  ·rename_i g hcal
   simp only [Bool.and_eq_true, beq_iff_eq] at hc
   obtain ⟨rfl, hargs⟩ := hc
   obtain ⟨l, r⟩ := J8S he h1 hargs
   refine JlZ hF hi hdead h' (vals := c.args.map a.eval) (by simpa using l) (fun i x v hx hv => r i x v hx (by simpa using hv)) fun fn g1 g2 g3 => ?_
   simp [execOp, hop, resolve, hcal, Act.eval, Deferred.ofValue, invoke, J9p g1 g2 g3]
  ·cases hc
 ·cases hc
theorem Jpl (hF : J2P P F) (hi : Inv s) (he : JA s a.tmps env) {f keep args k} (hdead : ∀ j, j < k → s.σ[new + j]? = some .dead) (h : (opR F (.callo f keep args k) new).run ⟨env, s.σ⟩ = some e)
  (hc : Jk P (.callo f keep args k) o.op = true) : J0h P o a s e := by
 simp only [opR] at h
 obtain ⟨vs, h1, h'⟩ := bind_some h
 obtain ⟨ar, h2, h3⟩ := bind_some h'
 clear h h'
 unfold Jk at hc
 simp only at hc
 split at hc
 ·rename_i c hop
  split at hc
  ·rename_i g hcal
   simp only [Bool.and_eq_true, beq_iff_eq] at hc
   obtain ⟨rfl, hargs⟩ := hc
   obtain ⟨l, r⟩ := J8S he h1 hargs
   obtain ⟨g1, i1, t1, f1, l1, r1⟩ := Jol (vs := (c.args.map a.eval).toList) hi (.refl _) h2 (by simpa using l) (fun i x v hx hv => r i x v hx (by simpa using hv))
   refine Jh6 hF hdead (vals := c.args.map a.eval) i1 t1 f1 l1 r1 h3 fun fn g1 g2 g3 => ?_
   simp [execOp, hop, resolve, hcal, Act.eval, Deferred.ofValue, invoke, J9p g1 g2 g3]
  ·cases hc
 ·cases hc
theorem JpQ (hF : J2P P F) (hi : Inv s) (he : JA s a.tmps env) {x args k} (hdead : ∀ j, j < k → s.σ[new + j]? = some .dead) (h : (opR F (.callv x args k) new).run ⟨env, s.σ⟩ = some e)
  (hc : Jk P (.callv x args k) o.op = true) : J0h P o a s e := by
 simp only [opR] at h
 obtain ⟨u, h0, h'⟩ := bind_some h
 clear h
 unfold Jk at hc
 simp only at hc
 split at hc
 ·rename_i c hop
  split at hc
  ·rename_i y hcal
   simp only [Bool.and_eq_true] at hc
   obtain ⟨hx, hargs⟩ := hc
   have rx := Jv he h0 hx
   cases u with
   | fn f first caps =>
    dsimp only at h'
    obtain ⟨vs, h1, h''⟩ := bind_some h'
    obtain ⟨l, r⟩ := J8S he h1 hargs
    generalize hz : a.eval y = z at rx
    cases rx with
    | fn _ _ _ fs cs p1 p2 p3 p4 =>
     have l' : vs.length = c.args.size := by simpa using l
     refine JlZ hF hi hdead h'' (vals := fs ++ c.args.map a.eval ++ cs) (by simp; omega) (fun i x v hx hv => ?_) fun fn g1 g2 g3 => ?_
     ·rcases J7M hx with hx | ⟨hge, hx⟩
      ·have hlt := J8 hx
       rw [Array.getElem?_append_left (by simp at hlt ⊢; omega)] at hv
       rcases J7M hx with hx | ⟨hge, hx⟩
       ·have hlt := J8 hx
        rw [Array.getElem?_append_left (by omega)] at hv
        exact p3 i x v hx hv
       ·rw [Array.getElem?_append_right (by omega)] at hv
        exact r _ x v hx (by rw [← p1] at hv; simpa using hv)
      ·rw [Array.getElem?_append_right (by simp at hge ⊢; omega)] at hv
       refine p4 _ x v hx ?_
       rw [← hv]; congr 1; simp; omega
     ·simp [execOp, hop, resolve, hcal, hz, Deferred.ofValue, invoke, J9p g1 g2 g3]
   | _ => cases h'
  ·cases hc
 ·cases hc
end
end Go.Am
end
section
namespace Go.Am
section
variable {P : Program} {F : Orc} {s : Sn} {a : Act} {env : List (Nat × AV)} {o : Oper} {new : Nat} {e : Eff}
theorem JdH : ∀ (os : List (Nat × Nat)) (n : Nat) {s : Sn}, Inv s → (∀ j, j < os.length → s.σ[n + j]? = some .dead) →
  ∃ g', Inv ⟨upd (J3m os n) s.σ, g', s.w⟩ ∧ Js s ⟨upd (J3m os n) s.σ, g', s.w⟩ ∧
   (∀ j, j < os.length → (∃ esz, (upd (J3m os n) s.σ)[n + j]? = some (.arr true esz [])) ∧ g'.μ (n + j) = none) ∧
   (∀ b, b < n ∨ n + os.length ≤ b → (upd (J3m os n) s.σ)[b]? = s.σ[b]? ∧ g'.μ b = s.g.μ b)
 | [], n, s, hi, _ => ⟨s.g, hi, .refl s, fun j hj => by simp at hj, fun b _ => ⟨rfl, rfl⟩⟩
 | (off, esz) :: r, n, s, hi, hd => by
  obtain ⟨i1, t1⟩ := JcP hi (hd 0 (by simp)) esz
  obtain ⟨g', i2, t2, h1, h2⟩ := JdH r (n + 1) (s := ⟨s.σ.set n (.arr true esz []), J3B s.g n none, s.w⟩) i1 (fun j hj => by
   show (s.σ.set n _)[n + 1 + j]? = _
   rw [JI (by omega)]
   have := hd (j + 1) (by simp; omega)
   rw [show n + 1 + j = n + (j + 1) by omega]; exact this)
  refine ⟨g', i2, t1.trans t2, fun j hj => ?_, fun b hb => ?_⟩
  ·cases j with
   | zero =>
    obtain ⟨e1, e2⟩ := h2 n (.inl (by omega))
    refine ⟨⟨esz, ?_⟩, ?_⟩
    ·show (upd (J3m r (n + 1)) (s.σ.set n (.arr true esz [])))[n + 0]? = _
     rw [Nat.add_zero]
     exact e1.trans (J09 (hd 0 (by simp)))
    ·rw [Nat.add_zero, e2]; exact if_pos rfl
   | succ j =>
    have := h1 j (by simpa using hj)
    rw [show n + (j + 1) = n + 1 + j by omega]
    exact this
  ·obtain ⟨e1, e2⟩ := h2 b (by simp at hb; omega)
   have hne : n ≠ b := by simp at hb; omega
   exact ⟨e1.trans (JI hne), e2.trans (if_neg (Ne.symm hne))⟩
theorem Jfq {t : TypeId} {os : List (Nat × Nat)} {v : Value} (hv : zeT P t = some v) (h : Jie P t os = true) : ∀ x ∈ os, v.cells[x.1]? = some (.slice none 0 0) := by
 intro x hx
 unfold Jie at h
 rw [hv] at h
 have := List.all_eq_true.1 h x hx
 split at this
 ·assumption
 ·cases this
theorem Jei {cells : Array Value} : ∀ (os : List (Nat × Nat)) (n : Nat) {cs : List AV}, (∀ x ∈ os, cells[x.1]? = some (.slice none 0 0)) →
  (∀ j, j < os.length → (∃ esz, s.σ[n + j]? = some (.arr true esz [])) ∧ s.g.μ (n + j) = none) →
  (∀ (i : Nat) x, cs[i]? = some x → ∃ u, cells[i]? = some u ∧ Jf s x u ∧ u.oneCell' = true) →
  ∀ (i : Nat) x, (J7R os n cs)[i]? = some x → ∃ u, cells[i]? = some u ∧ Jf s x u ∧ u.oneCell' = true
 | [], _, _, _, _, h => h
 | (off, esz) :: r, n, cs, hz, ha, h => by
  refine Jei r (n + 1) (fun x hx => hz x (by simp [hx])) (fun j hj => by
   have := ha (j + 1) (by simpa using hj)
   rw [show n + 1 + j = n + (j + 1) by omega]; exact this) fun i x hx => ?_
  by_cases hi : off = i
  ·subst hi
   have hlt := J8 hx
   rw [List.length_set] at hlt
   rw [List.getElem?_set_self hlt] at hx
   injection hx with hx; subst hx
   obtain ⟨⟨esz', h1⟩, h2⟩ := ha 0 (by simp)
   rw [Nat.add_zero] at h1 h2
   exact ⟨.slice none 0 0, hz (off, esz) (by simp), .slr n 0 0 _ true esz' [] ⟨none, 0, rfl, .inl rfl⟩ h1 (Nat.le_refl _) fun _ => .inl ⟨h2, rfl, rfl, rfl⟩, rfl⟩
  ·rw [List.getElem?_set_ne hi] at hx
   exact h i x hx
theorem JdM : ∀ (os : List (Nat × Nat)) (n : Nat) (cs : List AV), (J7R os n cs).length = cs.length
 | [], _, _ => rfl
 | _ :: r, n, cs => (JdM r (n + 1) _).trans (by simp)
theorem Jmm (hi : Inv s) {zero os} (hdead : ∀ j, j < os.length + 1 → s.σ[new + j]? = some .dead) (h : (opR F (.newboxo zero os) new).run ⟨env, s.σ⟩ = some e) (hc : Jk P (.newboxo zero os) o.op = true) : J0h P o a s e := by
 simp only [opR, RM.run] at h
 injection h with h; subst h
 unfold Jk at hc
 simp only at hc
 split at hc
 ·rename_i t hop
  simp only [Bool.and_eq_true] at hc
  obtain ⟨hz, hn⟩ := hc
  obtain ⟨v, hv, hl, hr⟩ := J3l hz
  obtain ⟨g1, i1, t1, h1, h2⟩ := JdH os new hi fun j hj => hdead j (by omega)
  have hd : (upd (J3m os new) s.σ)[new + os.length]? = some .dead := ((h2 _ (.inr (Nat.le_refl _))).1).trans (hdead _ (by omega))
  let s1 : Sn := ⟨upd (J3m os new) s.σ, g1, s.w⟩
  obtain ⟨i', t'⟩ := JcB (s0 := s1) i1 hd (blk := .box (J7R os new (zero.map .p))) (c := v.cells) (e := t) (fz := (0, 0)) (w' := { s.w with heap := s.w.heap.push (.cells v.cells t) }) rfl rfl rfl
   (fun o _ _ h => by simp at h) (fun _ _ _ h => by cases h) ⟨by simp [JdM, hl], fun i x hx => by
    obtain ⟨u, hu, hru, h1u⟩ := Jei (s := s1) (cells := v.cells) os new (Jfq hv hn) h1 (fun i x hx => by
     rw [List.getElem?_map] at hx
     cases hzi : zero[i]? with
     | none => simp [hzi] at hx
     | some c =>
      simp [hzi] at hx; subst hx
      have hlt := J8 hzi
      have hlt' : i < v.cells.size := by omega
      have := hr (w := s1.w) (C := s1.g.C) i c v.cells[i] hzi (by simp)
      exact ⟨v.cells[i], by simp, .p _ _ this, this.one⟩) i x hx
    exact ⟨u, hu, hru, h1u⟩⟩
  have hupd : upd (J3m os new ++ [(new + os.length, Blk.box (J7R os new (zero.map .p)))]) s.σ = (upd (J3m os new) s.σ).set (new + os.length) (.box (J7R os new (zero.map .p))) := by
   rw [J0I]; rfl
  refine J1h (e := ⟨.ptr (new + os.length) 0, J3m os new ++ [(new + os.length, .box (J7R os new (zero.map .p)))]⟩) (v := .pointer (some ⟨s.w.heap.size, 0, none⟩)) (g' := J3B g1 (new + os.length) (some (s.w.heap.size, 0))) ?_
   (by rw [hupd]; exact i') (by rw [hupd]; exact t1.trans t') (by rw [hupd]; exact .ptr (new + os.length) 0 _ 0 (if_pos rfl) ⟨_, J09 hd⟩)
  simp [execOp, hop, Instr.alloc, J7G hv, newVar, newRow]
 ·cases hc
theorem JnD (hi : Inv s) (he : JA s a.tmps env) (hn : s.σ[new]? = some .dead) {esz x} (h : (opR F (.storen esz x) new).run ⟨env, s.σ⟩ = some e) (hc : Jk P (.storen esz x) o.op = true) : J0h P o a s e := by
 simp only [opR] at h
 obtain ⟨u, h1, h'⟩ := bind_some h
 obtain ⟨e1, h2, h3⟩ := bind_some h'
 clear h h'
 simp only [RM.run] at h3; injection h3 with h3; subst h3
 obtain ⟨i0, t0⟩ := JcP hi hn esz
 unfold Jk at hc
 simp only at hc
 split at hc
 ·rename_i t x' hop
  simp only [Bool.and_eq_true, beq_iff_eq] at hc
  obtain ⟨hs, hx⟩ := hc
  have rx := Jv he h1 hx
  have hex : ∀ {r o' : Nat} {w' : World}, a.eval x' = .pointer (some ⟨r, o', none⟩) → (storeVar t ⟨r, o', none⟩ (.slice none 0 0)).run P s.w = .ok () w' → (execOp a.eval o).run P s.w = .ok .skip w' := by
   intro r o' w' hz hst
   have hcv : a.eval (.const (.slice none 0 0)) = .slice none 0 0 := rfl
   simp [execOp, hop, hz, Instr.storeAt, Instr.sureAddr, hst, hcv]
  unfold J2G at h2
  split at h2
  ·rename_i b off
   simp only [RM.run] at h2
   split at h2
   ·rename_i blk hb
    split at h2
    ·rename_i cs
     split at h2
     ·rename_i l hl
      split at h2
      ·rename_i hsz
       split at h2
       ·rename_i cs' hcs'
        simp only [RM.run] at h2; injection h2 with h2; subst h2
        have hb : s.σ[b]? = some (.box cs) := hb
        have hbn : new ≠ b := fun e => by rw [← e, hn] at hb; cases hb
        let s1 : Sn := ⟨s.σ.set new (.arr true esz []), J3B s.g new none, s.w⟩
        have hb1 : s1.σ[b]? = some (.box cs) := (JI hbn).trans hb
        have ry : Jf s1 (.slr new 0 0) (.slice none 0 0) :=
         .slr new 0 0 _ true esz [] ⟨none, 0, rfl, .inl rfl⟩ (J09 hn) (Nat.le_refl _) fun _ => .inl ⟨if_pos rfl, rfl, rfl, rfl⟩
        generalize hz : a.eval x' = z at rx
        have rx := Jf.mono (s := s1) hi t0 rx
        cases rx with
        | ptr _ _ r o' m hbx =>
         obtain ⟨k1, k2, k3⟩ := J84 hl ry
         obtain ⟨j1, j2, j3, j4⟩ := JcF hcs'
         obtain ⟨r1, o1, c, et, fz, m', hh, hle, hxx, hf⟩ := i0.box b cs hb1
         rw [m] at m'; injection m' with m'; injection m' with m1 m2; subst m1 m2
         have hput := J5C (vs := (Value.slice none 0 0).cells.toList) (o := o' + off) hh (by simp; omega)
         have hlen : (Value.slice none 0 0).cells.toList.length = l.length := by simp [k1]
         obtain ⟨i', t'⟩ := Jc3 (s0 := s1) i0 (blk := .box cs') hb1 hput (fun k h1 h2 => by
           unfold Wr1; rw [hb1]; exact ⟨o', m, by omega, by omega⟩) (.box _ _ j1) (fun cs0 heq mono => by
           injection heq with heq; subst heq
           obtain ⟨c0, e0, fz0, c', p1, p2, p3, p4, p5, p6⟩ := hput.there
           rw [hh] at p1; injection p1 with p1; injection p1 with q1 q2 q3; subst q1 q2 q3
           refine ⟨r, o', c', et, fz, m, p2, by omega, fun i x hxi => ?_, by rw [j1]; exact hf⟩
           by_cases hin : off ≤ i ∧ i < off + l.length
           ·have e1 : cs'[off + (i - off)]? = l[i - off]? := j3 (i - off) (by omega)
            rw [show off + (i - off) = i by omega, hxi] at e1
            have hlt : i - off < (Value.slice none 0 0).cells.size := by omega
            have e2 := p5 (i - off) (Value.slice none 0 0).cells[i - off] (by simp)
            refine ⟨(Value.slice none 0 0).cells[i - off], by rw [← e2]; congr 1; omega, mono (k3 (i - off) x _ e1.symm (by simp)), k2 _ (by simp)⟩
           ·rw [j4 i (by omega)] at hxi
            obtain ⟨v', hv', hr', h1'⟩ := hxx i x hxi
            exact ⟨v', by rw [p6 _ (by simp; omega)]; exact hv', mono hr', h1'⟩)
           (fun _ _ heq => by cases heq)
         refine Jc4 (e := ⟨J1d, (new, .arr true esz []) :: [(b, .box cs')]⟩) (hex hz (J91 (by rw [hs, ← hsz, k1]) hh (by omega) (fun k h1 h2 => hf k (by omega) (by omega)) k2)) rfl i' (t0.trans t')
       ·cases h2
      ·cases h2
     ·cases h2
    ·cases h2
   ·cases h2
  ·rename_i b ext i off
   have hfz : (fz (.slr new 0 0)).run ⟨env, s.σ⟩ = none := by
    simp only [fz, RM.run]
    rw [hn]
    rfl
   simp only [RM.run] at h2
   split at h2
   ·split at h2
    ·split at h2
     ·split at h2
      ·rw [run_bind, hfz] at h2; cases h2
      ·cases h2
     ·cases h2
    ·cases h2
   ·cases h2
  ·cases h2
 ·cases hc
theorem JoK (hi : Inv s) (he : JA s a.tmps env) {zero parts os} (hdead : ∀ j, j < os.length → s.σ[new + j]? = some .dead) (h : (opR F (.buildo zero parts os) new).run ⟨env, s.σ⟩ = some e)
  (hc : Jk P (.buildo zero parts os) o.op = true) : J0h P o a s e := by
 simp only [opR] at h
 obtain ⟨l, h1, h'⟩ := bind_some h
 clear h
 unfold Jk at hc
 simp only at hc
 split at hc
 ·rename_i t ps hop
  simp only [Bool.and_eq_true] at hc
  obtain ⟨⟨hz, hn⟩, ht⟩ := hc
  obtain ⟨z, hz1, hz2, hz3⟩ := J3l hz
  obtain ⟨g1, i1, t1, ha1, ha2⟩ := JdH os new hi hdead
  split at h'
  ·rename_i cs hcs
   split at h'
   ·rename_i r h3
    simp only [RM.run] at h'; injection h' with h'; subst h'
    let s1 : Sn := ⟨upd (J3m os new) s.σ, g1, s.w⟩
    have hzero : ∀ (i : Nat) x, (J7R os new (zero.map AV.p))[i]? = some x → ∃ u, z.cells[i]? = some u ∧ Jf s1 x u ∧ u.oneCell' = true :=
     Jei (s := s1) (cells := z.cells) os new (Jfq hz1 hn) ha1 (by
      intro i x hx
      rw [List.getElem?_map] at hx
      cases hzi : zero[i]? with
      | none => simp [hzi] at hx
      | some c =>
       simp [hzi] at hx; subst hx
       have hlt := J8 hzi
       have hlt' : i < z.cells.size := by omega
       have := hz3 (w := s1.w) (C := s1.g.C) i c z.cells[i] hzi (by simp)
       exact ⟨z.cells[i], by simp, .p _ _ this, this.one⟩)
    have fin : ∀ {place : Nat → Option (Nat × Nat)}, J4g place parts ps.toList = true →
      ∃ cells', Instr.fill place z.cells (ps.toList.map fun x => (x.1, a.eval x.2)) = some cells' ∧ Jf s1 r (.agg cells') := by
     intro place hch
     obtain ⟨k1, k2⟩ := Jb9 he h1 hch
     obtain ⟨cells', f1, f2, f3⟩ := JdW (s := s1) (cells := z.cells) hcs k1 (fun k off size cs i v hk hv => by
      obtain ⟨p1, p2, p3, p4⟩ := k2 k off size cs i v hk hv
      exact ⟨p1, p2, p3, fun j y u hy hu => (p4 j y u hy hu).mono hi t1⟩) (by simp [JdM, hz2]) hzero
     refine ⟨cells', f1, ?_⟩
     have := JeA (s := s1) (vs := cells'.toList) h3 (by simpa using f2) (fun v hv => by
       obtain ⟨i, hi'⟩ := List.getElem?_of_mem hv
       have hi' : cells'[i]? = some v := by simpa using hi'
       have hlt := J8I hi'
       obtain ⟨u, hu, _, h1⟩ := f3 i cs[i] (by rw [List.getElem?_eq_getElem])
       rw [hi'] at hu; injection hu with hu; subst hu; exact h1)
      (fun i y v hy hv => by
       obtain ⟨u, hu, hr, _⟩ := f3 i y hy
       have hv : cells'[i]? = some v := by simpa using hv
       rw [hv] at hu; injection hu with hu; subst hu; exact hr)
     rcases this with ⟨_, hr⟩ | ⟨hf, _⟩
     ·simpa using hr
     ·cases hf
    have hps : (ps.map fun x => (x.1, a.eval x.2)).toList = ps.toList.map fun x => (x.1, a.eval x.2) := by simp
    split at ht
    ·rename_i fs hu
     simp only [Bool.and_eq_true] at ht
     obtain ⟨hall, hch⟩ := ht
     obtain ⟨cells', f1, hr⟩ := fin hch
     have hpl : (fun i => (fs.map fun f => (f.offset, (szT P f.type).getD 0))[i]?) = J8T P fs := by
      funext i
      simp only [J8T, Array.getElem?_map]
      cases hfi : fs[i]? with
      | none => rfl
      | some f =>
       have := Array.all_eq_true_iff_forall_mem.1 hall f (Array.mem_of_getElem? hfi)
       cases hq : szT P f.type <;> simp [hq] at this ⊢
     have hmap : (fs.mapM fun f => do pure (f.offset, ← sizeOf f.type) : Sem (Array (Nat × Nat))).run P s.w = .ok (fs.map fun f => (f.offset, (szT P f.type).getD 0)) s.w := by
      rw [Array.mapM_eq_mapM_toList]
      simp only [Sem.run_map, Jbf (P := P) (fs := fs.toList) (fun f hf => Array.all_eq_true_iff_forall_mem.1 hall f (by simpa using hf)), Result.andThen_ok]
      congr 1
      apply Array.ext'; simp
     have hf : Instr.fill (fun i => (fs.map fun f => (f.offset, (szT P f.type).getD 0))[i]?) z.cells (ps.map fun x => (x.1, a.eval x.2)).toList = some cells' := by
      rw [hpl, hps]; exact f1
     have hb : (Instr.build t (ps.map fun x => (x.1, a.eval x.2))).run P s.w = .ok (.agg cells') s.w := by
      unfold Instr.build
      simp only [Sem.run_bind, J7G hz1, Result.andThen_ok, run_underlying hu, hmap, hf]
      rfl
     refine J1h (e := ⟨r, J3m os new⟩) (v := .agg cells') (g' := g1) ?_ i1 t1 hr
     simp only [execOp, hop, Sem.run_bind, hb, Result.andThen_ok, Sem.run_pure]
    ·cases ht
   ·cases h'
  ·cases h'
 ·cases hc
end
end Go.Am
end
section
namespace Go.Am
theorem JlL {new : Nat} {env : List (Nat × AV)} {σ : List Blk} : ∀ {k new : Nat} {u : Unit}, (J8M new k).run ⟨env, σ⟩ = some u → ∀ j, j < k → σ[new + j]? = some .dead
 | 0, _, _, _, j, hj => by omega
 | k + 1, new, u, h, j, hj => by
  simp only [J8M, RM.run] at h
  split at h
  ·rename_i x hx
   cases x with
   | dead =>
    dsimp only at h
    cases j with
    | zero => exact hx
    | succ j => have := JlL (new := 0) h j (by omega); rw [show new + (j + 1) = new + 1 + j by omega]; exact this
   | box => cases h
   | arr => cases h
  ·cases h
section
variable {P : Program} {F : Orc} {s : Sn} {a : Act} {env : List (Nat × AV)} {o : Oper} {new : Nat} {e : Eff}
theorem JtY (hF : J2P P F) (hi : Inv s) (he : JA s a.tmps env) {ao : AOp} (h : (opD F ao new).run ⟨env, s.σ⟩ = some e) (hc : Jk P ao o.op = true) : J0h P o a s e := by
 unfold opD at h
 obtain ⟨u, hd, h⟩ := bind_some h
 have hdead := JlL (new := 0) hd
 clear hd
 have d1 : J3K ao = 1 → s.σ[new]? = some .dead := fun h1 => hdead 0 (by omega)
 cases ao with
 | mv x => exact JtI hi he h hc
 | mkarr esz x => exact Jqg hi (d1 rfl) h hc
 | pick => exact JrI hi he h hc
 | newbox => exact Jnz hi (d1 rfl) h hc
 | box => exact Jtr hi he (d1 rfl) h hc
 | build => exact Jp1 hi he h hc
 | lits => exact Jrj hi he (fun e => d1 (by simp [J3K, e])) h hc
 | load => exact Jry hi he h hc
 | store => exact Jpr hi he h hc
 | nilchk => exact JnX hi he h hc
 | bin op t x y =>
  cases t with
  | plain => exact JjO hi he h hc
  | bool => exact JkT hi he h hc
  | flat => exact Jl9 hi he h hc
  | nils => exact JkR hi he h hc
  | nilp => exact JkP hi he h hc
  | nilf => exact JkL hi he h hc
 | un => exact JtL hi he h hc
 | conv k x =>
  cases k with
  | toBytes own => exact Jmn hi he (fun e => d1 (by simp [J3K, e])) h hc
  | _ => exact JrN hi he (by simp) h hc
 | mkslice => exact Jn8 hi he (fun e => d1 (by simp [J3K, e])) h hc
 | slice => exact JpN hi he h hc
 | faddr => exact Jp0 hi he h hc
 | field => exact JpG hi he h hc
 | iaddr => exact Jqu hi he h hc
 | aaddr => exact Jq0 hi he h hc
 | sidx => exact Jrk hi he h hc
 | aidx => exact JrD hi he h hc
 | extr => exact Jrn hi he h hc
 | call => exact Jr2 hF hi he hdead h hc
 | callv => exact JpQ hF hi he hdead h hc
 | len => exact JsX hi he h hc
 | alen => exact Jru hi h hc
 | app => exact Jt2 hi he h hc
 | appz => exact JrB hi he h hc
 | appn => exact Jr5 hi he (d1 rfl) h hc
 | appc => exact JrA hi he (d1 rfl) h hc
 | mm => exact JtJ hi he h hc
 | mkfn => exact Jri hi he h hc
 | newboxo => exact Jmm hi hdead h hc
 | buildo => exact JoK hi he hdead h hc
 | storen => exact JnD hi he (d1 rfl) h hc
 | callo => exact Jpl hF hi he hdead h hc
end
def J97 (P : Program) (N : Nat) (ops : Array Oper) (i : J0E) (o : Oper) : Bool :=
 Jk P i.op o.op && i.dst == o.dst && (match i.dst with
  | some d => decide (d < N)
  | none => true) && (match i.g, o.guard with
  | none, none => true
  | some (g, w), some (j, w') => w == w' && (ops[j]?).bind (·.dst) == some g
  | _, _ => false)
def Sim (N : Nat) (E : Sn) (st : St) (a : Act) (w : World) : Prop :=
 a.tmps.size = N ∧ a.defers = [] ∧ ∃ g, Inv ⟨st.sto, g, w⟩ ∧ JA ⟨st.sto, g, w⟩ a.tmps st.env ∧ Js E ⟨st.sto, g, w⟩
theorem JA.put {s : Sn} {tmps : Array Value} {env : List (Nat × AV)} (he : JA s tmps env) {d : Nat} (hd : d < tmps.size) {x : AV} {v : Value} (hv : Jf s x v) :
  JA s (tmps.setIfInBounds d v) ((d, x) :: env) := by
 intro n y hy
 simp only [lk] at hy
 split at hy
 ·rename_i hn
  injection hy with hy; subst hy hn
  exact ⟨v, by simp [hd], hv⟩
 ·rename_i hn
  obtain ⟨u, h1, h2⟩ := he n y hy
  exact ⟨u, by rw [Array.getElem?_setIfInBounds_ne (Ne.symm hn)]; exact h1, h2⟩
theorem Sim.putd {N : Nat} {E : Sn} {st : St} {a : Act} {w w' : World} {g g' : Gh} {e : Eff} {v : Value} {d : Option Nat}
  (h1 : a.tmps.size = N) (h2 : a.defers = []) (hi : Inv ⟨st.sto, g, w⟩) (he : JA ⟨st.sto, g, w⟩ a.tmps st.env) (ht : Js E ⟨st.sto, g, w⟩) (hd : ∀ x, d = some x → x < N)
  (hi' : Inv ⟨upd e.ws st.sto, g', w'⟩) (ht' : Js ⟨st.sto, g, w⟩ ⟨upd e.ws st.sto, g', w'⟩) (hv : Jf ⟨upd e.ws st.sto, g', w'⟩ e.val v) :
  Sim N E (Am.put d e st) (a.put d v) w' := by
 have he' := he.mono hi ht'
 cases d with
 | none => exact ⟨h1, h2, g', hi', he', ht.trans ht'⟩
 | some d => exact ⟨by simp [Act.put, h1], h2, g', hi', he'.put (by rw [h1]; exact hd d rfl) hv, ht.trans ht'⟩
section
variable {P : Program} {F : Orc} {N : Nat} {E : Sn} {st : St} {a : Act} {w : World} {ops : Array Oper} {i : J0E} {o : Oper} {e : Eff} {new k : Nat} {Q : Exit → Act → World → Prop} {K : Act → World → Prop}
theorem Jn4 {s : Sn} : Jf s J1d undef := .tup _ _ rfl fun i x v h => by simp at h
theorem JnY (hF : J2P P F) (hs : Sim N E st a w) (ho : ops[k]? = some o) (hc : J97 P N ops i o = true) (h : (J0C F i new).run st = some e)
  (next : ∀ a' w', Sim N E (Am.put i.dst e st) a' w' → K a' w') : wpOp P ops Q k K a w := by
 obtain ⟨h1, h2, g, hi, he, ht⟩ := hs
 simp only [J97, Bool.and_eq_true, beq_iff_eq] at hc
 obtain ⟨⟨⟨hc, hd⟩, hdn⟩, hg⟩ := hc
 have hd' : ∀ x, i.dst = some x → x < N := by
  intro x hx; rw [hx] at hdn; simpa using hdn
 have run : ∀ {e : Eff}, (opD F i.op new).run st = some e → (∀ a' w', Sim N E (Am.put i.dst e st) a' w' → K a' w') → o.wp P a w K Q := by
  intro e h next
  refine JtY (s := ⟨st.sto, g, w⟩) (env := st.env) hF hi he h hc K Q fun v w' g' hi' ht' hv => next _ _ ?_
  rw [← hd]
  exact Sim.putd h1 h2 hi he ht hd' hi' ht' hv
 have skip : (∀ a' w', Sim N E (Am.put i.dst ⟨J1d, []⟩ st) a' w' → K a' w') → K (a.put o.dst undef) w := by
  intro next
  refine next _ _ ?_
  rw [← hd]
  exact Sim.putd (e := ⟨J1d, []⟩) h1 h2 hi he ht hd' hi (.refl _) Jn4
 unfold wpOp
 rw [ho]
 dsimp only
 unfold J0C at h
 cases hig : i.g with
 | none =>
  rw [hig] at h hg
  cases hog : o.guard with
  | some x => rw [hog] at hg; cases hg
  | none =>
   have hw : Region.wanted o (yielded ops a.tmps) = true := by simp [Region.wanted, hog]
   rw [if_pos hw]
   exact .inl (run h next)
 | some gw =>
  obtain ⟨gs, want⟩ := gw
  rw [hig] at h hg
  cases hog : o.guard with
  | none => rw [hog] at hg; cases hg
  | some x =>
   obtain ⟨j, want'⟩ := x
   rw [hog] at hg
   simp only [Bool.and_eq_true, beq_iff_eq] at hg
   obtain ⟨rfl, hj⟩ := hg
   simp only [RM.run] at h
   split at h
   ·rename_i v hv
    obtain ⟨u, hu, hr⟩ := he _ _ hv
    split at h
    ·rename_i b
     cases hr with
     | p _ _ hr =>
      cases hr with
      | b x =>
       have hy : yielded ops a.tmps j = some b := by simp [yielded, hj, hu]
       by_cases hb : b = want
       ·have hw : Region.wanted o (yielded ops a.tmps) = true := by simp [Region.wanted, hog, hy, hb]
        rw [if_pos hw]
        rw [if_pos hb] at h
        exact .inl (run h next)
       ·have hw : Region.wanted o (yielded ops a.tmps) = false := by simp [Region.wanted, hog, hy, hb]
        rw [if_neg (by rw [hw]; simp)]
        rw [if_neg hb] at h
        simp only [RM.run] at h; injection h with h; subst h
        exact skip next
    ·cases hr with
     | tup _ vs hl _ =>
      have hvs : vs = #[] := by
       have : vs.size = 0 := by simpa using hl.symm
       simpa using this
      subst hvs
      have hy : yielded ops a.tmps j = none := by simp [yielded, hj, hu]
      have hw : Region.wanted o (yielded ops a.tmps) = false := by simp [Region.wanted, hog, hy]
      rw [if_neg (by rw [hw]; simp)]
      simp only [RM.run] at h; injection h with h; subst h
      exact skip next
    ·cases h
   ·cases h
end
theorem JaS {σ : List Blk} {n b : Nat} {x : Blk} (h : (σ ++ List.replicate n Blk.dead)[b]? = some x) (hx : x ≠ .dead) : σ[b]? = some x := by
 rcases Nat.lt_or_ge b σ.length with hlt | hge
 ·rwa [List.getElem?_append_left hlt] at h
 ·rw [List.getElem?_append_right hge, List.getElem?_replicate] at h
  split at h
  ·injection h with h; exact absurd h.symm hx
  ·cases h
theorem Jcm {σ : List Blk} {n b : Nat} {x : Blk} (h : σ[b]? = some x) : (σ ++ List.replicate n Blk.dead)[b]? = some x := by
 rw [List.getElem?_append_left (J8 h)]; exact h
theorem JcY {σ : List Blk} {g : Gh} {w : World} {n b r o : Nat} : Wr1 ⟨σ ++ List.replicate n .dead, g, w⟩ b r o ↔ Wr1 ⟨σ, g, w⟩ b r o := by
 unfold Wr1
 constructor
 ·intro h
  dsimp only at h ⊢
  cases hb : (σ ++ List.replicate n Blk.dead)[b]? with
  | none => rw [hb] at h; exact h.elim
  | some x =>
   cases x with
   | dead => rw [hb] at h; exact h.elim
   | box cs => rw [JaS hb (by simp)]; rw [hb] at h; exact h
   | arr wm esz rows => rw [JaS hb (by simp)]; rw [hb] at h; exact h
 ·intro h
  dsimp only at h ⊢
  cases hb : σ[b]? with
  | none => rw [hb] at h; exact h.elim
  | some x => rw [Jcm hb]; rw [hb] at h; exact h
theorem Jbk {σ : List Blk} {g : Gh} {w : World} {n : Nat} : Js ⟨σ, g, w⟩ ⟨σ ++ List.replicate n .dead, g, w⟩ where
 keep := .refl _ _
 cmono _ _ h := h
 cnew _ _ h := .inl h
 wnew _ _ h := let ⟨b, hb⟩ := h; .inl ⟨b, JcY.1 hb⟩
 len := by simp
 box b cs h := ⟨⟨cs, Jcm h, rfl⟩, rfl⟩
 arr b wm esz rows h := ⟨wm, rows, Jcm h, id, Nat.le_refl _, fun _ => rfl⟩
theorem Jq4 {σ : List Blk} {g : Gh} {w : World} {n : Nat} (hi : Inv ⟨σ, g, w⟩) : Inv ⟨σ ++ List.replicate n .dead, g, w⟩ := by
 have t := Jbk (σ := σ) (g := g) (w := w) (n := n)
 refine ⟨fun b cs h => ?_, fun b wm esz rows h => ?_, fun b1 b2 r o h1 h2 => hi.apart b1 b2 r o (JcY.1 h1) (JcY.1 h2), fun r o hc => ⟨(hi.const r o hc).1, fun b hb => (hi.const r o hc).2 b (JcY.1 hb)⟩⟩
 ·obtain ⟨r, o, c, e, fz, q1, q2, q3, q4, q5⟩ := hi.box b cs (JaS h (by simp))
  exact ⟨r, o, c, e, fz, q1, q2, q3, fun i x hx => let ⟨v, k1, k2, k3⟩ := q4 i x hx; ⟨v, k1, k2.mono hi t, k3⟩, q5⟩
 ·exact hi.arr b wm esz rows (JaS h (by simp))
theorem Sim.room {N : Nat} {E : Sn} {st : St} {a : Act} {w : World} (h : Sim N E st a w) (n : Nat) : Sim N E ⟨st.env, room n st.sto⟩ a w := by
 unfold Am.room
 split
 ·exact h
 ·obtain ⟨h1, h2, g, hi, he, ht⟩ := h
  exact ⟨h1, h2, g, Jq4 hi, he.mono hi Jbk, ht.trans Jbk⟩
theorem Sim.heap {N : Nat} {E : Sn} {st : St} {a : Act} {w w' : World} (h : Sim N E st a w) (hh : w'.heap = w.heap) (ho : w'.os = w.os) (hp : w'.output = w.output) : Sim N E st a w' := by
 obtain ⟨h1, h2, g, hi, he, ht⟩ := h
 obtain ⟨i', t'⟩ := Jc1 hi hh ho hp
 exact ⟨h1, h2, g, i', he.mono hi t', ht.trans t'⟩
theorem Sim.congr {N : Nat} {E : Sn} {st st' : St} {a : Act} {w : World} (h : Sim N E st a w) (he : ∀ m, lk m st'.env = lk m st.env) (hs : st'.sto = st.sto) : Sim N E st' a w := by
 obtain ⟨h1, h2, g, hi, hr, ht⟩ := h
 refine ⟨h1, h2, g, ?_⟩
 rw [hs]
 exact ⟨hi, fun n x hx => hr n x (by rw [← he]; exact hx), ht⟩
end Go.Am
end
section
namespace Go.Am
def J37 (P : Program) (N : Nat) (ops : Array Oper) : List J0E → List Oper → Bool
 | [], [] => true
 | i :: r, o :: q => J97 P N ops i o && J37 P N ops r q
 | _, _ => false
def J8A (x y : J0E) : Bool :=
 (match x.dst with
 | none => true
 | some m => y.dst != some m && !(J5j y).contains m) && (match y.dst with
 | none => true
 | some m => !(J5j x).contains m)
def Jbn (x y : J0E) : Bool := (!JdS x.op || !JjR y.op) && (!JdS y.op || !JjR x.op)
def Jfv : List Nat → List Nat → List Nat
 | [], acc => acc
 | x :: r, acc => match acc.contains x with
  | true => Jfv r acc
  | false => Jfv r (x :: acc)
theorem Jcs {i : Nat} : ∀ {l acc : List Nat}, i ∈ Jfv l acc → i ∈ l ∨ i ∈ acc
 | [], _, h => .inr h
 | x :: r, acc, h => by
  simp only [Jfv] at h
  split at h
  ·exact (Jcs h).imp (List.mem_cons_of_mem _) id
  ·rcases Jcs h with h | h
   ·exact .inl (List.mem_cons_of_mem _ h)
   ·rcases List.mem_cons.1 h with rfl | h
    ·exact .inl List.mem_cons_self
    ·exact .inr h
def JqP (l : List Nat) : List Nat := Jfv l []
theorem JoZ {i : Nat} {l : List Nat} (h : i ∈ JqP l) : i ∈ l := (Jcs h).resolve_right (by simp)
def JnH (acc : List (List Nat)) (o : Oper) : List Nat := JqP <| (o.after.toList.filter fun e => Region.binds .any e).flatMap fun e => e.on :: (acc[e.on]?).getD []
def Jim (acc : List (List Nat)) : List Oper → List (List Nat)
 | [] => acc
 | o :: r => Jim (acc ++ [JnH acc o]) r
def Jg5 (bef : List (List Nat)) (pairs : List (Nat × Nat)) (i j : Nat) (x y : J0E) : Bool :=
 ((bef[j]?).getD []).contains i || (J8A x y && (Jbn x y || pairs.contains (i, j)))
def J9a (bef : List (List Nat)) (pairs : List (Nat × Nat)) (j : Nat) (y : J0E) : Nat → List J0E → Bool
 | _, [] => true
 | i, x :: r => (decide (j ≤ i) || Jg5 bef pairs i j x y) && J9a bef pairs j y (i + 1) r
def JcJ (bef : List (List Nat)) (pairs : List (Nat × Nat)) (all : List J0E) : Nat → List J0E → Bool
 | _, [] => true
 | j, y :: r => J9a bef pairs j y 0 all && JcJ bef pairs all (j + 1) r
def JaW : Nat → List Oper → Bool
 | _, [] => true
 | j, o :: r => (o.after.all fun e => !Region.binds .any e || decide (e.on < j)) && JaW (j + 1) r
def JiC (P : Program) (N : Nat) (draw : Bool) (pairs : List (Nat × Nat)) (ins : List J0E) (ops : Array Oper) : Bool :=
 J37 P N ops ins ops.toList && (!draw || (JaW 0 ops.toList && JcJ (Jim [] ops.toList) pairs ins 0 ins))
section
variable {P : Program} {F : Orc} {N : Nat} {E : Sn} {st st' : St} {a : Act} {w : World} {ops : Array Oper} {Q : Exit → Act → World → Prop}
theorem Jh1 : ∀ {ins : List J0E} {os : List Oper}, J37 P N ops ins os = true → ins.length = os.length ∧ ∀ (k : Nat) i, ins[k]? = some i → ∃ o, os[k]? = some o ∧ J97 P N ops i o = true
 | [], [], _ => ⟨rfl, fun k i h => by simp at h⟩
 | i :: r, o :: q, h => by
  simp only [J37, Bool.and_eq_true] at h
  obtain ⟨h1, h2⟩ := Jh1 h.2
  refine ⟨by simp [h1], fun k x hx => ?_⟩
  cases k with
  | zero => simp at hx; subst hx; exact ⟨o, rfl, h.1⟩
  | succ k => exact h2 k x (by simpa using hx)
 | [], _ :: _, h => by simp [J37] at h
 | _ :: _, [], h => by simp [J37] at h
theorem Jh0 (hF : J2P P F) : ∀ {r : List J0E} {k new : Nat} {st : St} {a : Act} {w : World}, (∀ (j : Nat) i, r[j]? = some i → ∃ o, ops[k + j]? = some o ∧ J97 P N ops i o = true) →
  J1Z F r new st = some st' → Sim N E st a w → (∀ a' w', Sim N E st' a' w' → Q .normal a' w') → wpOps P ops Q (List.range' k r.length) a w
 | [], k, new, st, a, w, _, h, hs, next => by
  simp only [J1Z] at h; injection h with h; subst h
  exact next a w hs
 | i :: r, k, new, st, a, w, hc, h, hs, next => by
  simp only [J1Z] at h
  split at h
  ·rename_i e he
   obtain ⟨o, ho, hco⟩ := hc 0 i rfl
   rw [List.length_cons, List.range'_succ, wpOps_cons]
   refine JnY hF hs ho hco he fun a' w' hs' => ?_
   refine Jh0 hF (fun j i hj => ?_) h hs' next
   obtain ⟨o, ho, hco⟩ := hc (j + 1) i (by simpa using hj)
   exact ⟨o, by rw [← ho]; congr 1; omega, hco⟩
  ·cases h
theorem Joh : ∀ {ins : List J0E} {new0 : Nat} {st : St}, J1Z F ins new0 st = some st' →
  ∃ (new : Nat → Nat) (S : Nat → St) (eff : Nat → Eff), Run F ins new S eff ∧ S 0 = st ∧ S ins.length = st'
 | [], new0, st, h => by
  simp only [J1Z] at h; injection h with h; subst h
  exact ⟨fun _ => 0, fun _ => st, fun _ => ⟨J1d, []⟩, ⟨fun k i h => by simp at h⟩, rfl, rfl⟩
 | i :: r, new0, st, h => by
  simp only [J1Z] at h
  split at h
  ·rename_i e he
   obtain ⟨new, S, eff, hr, h0, hl⟩ := Joh h
   refine ⟨fun | 0 => new0 | k + 1 => new k, fun | 0 => st | k + 1 => S k, fun | 0 => e | k + 1 => eff k, ⟨fun k x hx => ?_⟩, rfl, hl⟩
   cases k with
   | zero => simp at hx; subst hx; exact ⟨he, h0⟩
   | succ k => exact hr.step k x (by simpa using hx)
  ·cases h
theorem Jnr : ∀ {ins : List J0E} {new0 : Nat} {st : St} {l l' : Log}, J39 F ins new0 st l = some (st', l') →
  ∃ (new : Nat → Nat) (S : Nat → St) (eff : Nat → Eff), Run F ins new S eff ∧ S 0 = st ∧ S ins.length = st' ∧
   (∀ k, k < l.length → l'[k]? = l[k]?) ∧ ∀ (k : Nat) i, ins[k]? = some i → l'[l.length + k]? = some (J38 ((J0C F i (new k)).reads (S k)), (eff k).ws.map (·.1))
 | [], new0, st, l, l', h => by
  simp only [J39] at h; injection h with h; injection h with h1 h2; subst h1 h2
  exact ⟨fun _ => 0, fun _ => st, fun _ => ⟨J1d, []⟩, ⟨fun k i h => by simp at h⟩, rfl, rfl, fun _ _ => rfl, fun k i h => by simp at h⟩
 | i :: r, new0, st, l, l', h => by
  simp only [J39] at h
  split at h
  ·rename_i e he
   obtain ⟨new, S, eff, hr, h0, hl, q1, q2⟩ := Jnr h
   refine ⟨fun | 0 => new0 | k + 1 => new k, fun | 0 => st | k + 1 => S k, fun | 0 => e | k + 1 => eff k, ⟨fun k x hx => ?_⟩, rfl, hl, fun k hk => ?_, fun k x hx => ?_⟩
   ·cases k with
    | zero => simp at hx; subst hx; exact ⟨he, h0⟩
    | succ k => exact hr.step k x (by simpa using hx)
   ·rw [q1 k (by simp; omega), List.getElem?_append_left hk]
   ·cases k with
    | zero =>
     simp at hx; subst hx
     rw [Nat.add_zero, q1 l.length (by simp), List.getElem?_append_right (Nat.le_refl _)]
     simp
    | succ k =>
     have := q2 k x (by simpa using hx)
     rw [← this]; congr 1; simp; omega
  ·cases h
theorem J8u {b : Nat} : ∀ {l : List Loc}, Loc.blk b ∈ l → b ∈ J38 l
 | .blk c :: r, h => by
  simp only [J38, List.mem_cons] at *
  rcases h with h | h
  ·left; injection h
  ·exact .inr (J8u h)
 | .slot n :: r, h => by
  simp only [J38]
  refine J8u ?_
  simpa using h
 | [], h => by simp at h
theorem Je8 {a b : List Nat} (h : J4w a b = true) {x : Nat} (hx : x ∈ a) : x ∉ b := by
 simp only [J4w, List.all_eq_true, Bool.not_eq_true'] at h
 have := h x hx
 simpa using this
theorem Jfx {l : Log} : ∀ {ps : List (Nat × Nat)} {i j : Nat}, J8W l ps = true → (i, j) ∈ ps →
  ∃ x y, l[i]? = some x ∧ l[j]? = some y ∧ J4w x.2 y.1 = true ∧ J4w x.2 y.2 = true ∧ J4w x.1 y.2 = true
 | [], i, j, _, h => by simp at h
 | (p, q) :: r, i, j, h, hm => by
  simp only [J8W, Bool.and_eq_true] at h
  obtain ⟨h1, h2⟩ := h
  rcases List.mem_cons.1 hm with e | e
  ·injection e with e1 e2; subst e1 e2
   split at h1
   ·rename_i x y hx hy
    simp only [Bool.and_eq_true] at h1
    exact ⟨x, y, hx, hy, h1.1.1, h1.1.2, h1.2⟩
   ·cases h1
  ·exact Jfx h2 e
def JgK (ops : Array Oper) (D : Nat → Bool) (k : Nat) : Prop := ∀ o, ops[k]? = some o → ∀ e ∈ o.after, Region.binds .any e = true → D e.on = true
def JnS (ops : Array Oper) (D : Nat → Bool) : Prop := ∀ k, D k = true → JgK ops D k
def Jqk (ops : Array Oper) (k i : Nat) : Prop := ∀ D, JnS ops D → JgK ops D k → D i = true
theorem JnM : ∀ {os : List Oper} {acc : List (List Nat)}, (∀ (j : Nat) o, os[j]? = some o → ops[acc.length + j]? = some o) → (∀ (k : Nat) l i, acc[k]? = some l → i ∈ l → Jqk ops k i) →
  ∀ (k : Nat) l i, (Jim acc os)[k]? = some l → i ∈ l → Jqk ops k i
 | [], acc, _, ha => ha
 | o :: r, acc, ho, ha => by
  refine JnM (os := r) (acc := acc ++ [JnH acc o]) (fun j x hx => ?_) fun k l i hk hi => ?_
  ·have := ho (j + 1) x (by simpa using hx)
   rw [← this]; congr 1; simp; omega
  ·rcases J7M hk with hk | ⟨hge, hk⟩
   ·exact ha k l i hk hi
   ·have hk0 : k = acc.length := by
     have := J8 hk; simp at this; omega
    subst hk0
    simp at hk; subst hk
    intro D hD hE
    replace hi := JoZ hi
    simp only [ List.mem_flatMap, List.mem_filter] at hi
    obtain ⟨e, ⟨he1, he2⟩, hi⟩ := hi
    have hon := hE o (by simpa using ho 0 o rfl) e (by simpa using he1) he2
    rcases List.mem_cons.1 hi with rfl | hi
    ·exact hon
    ·cases hac : acc[e.on]? with
     | none => rw [hac] at hi; simp at hi
     | some l =>
      rw [hac] at hi
      exact ha _ l i hac hi D hD (hD _ hon)
theorem Jdh {bef : List (List Nat)} {pairs : List (Nat × Nat)} {j : Nat} {y : J0E} : ∀ {r : List J0E} {i0 : Nat}, J9a bef pairs j y i0 r = true → ∀ (k : Nat) x, r[k]? = some x → i0 + k < j → Jg5 bef pairs (i0 + k) j x y = true
 | [], i0, _, k, x, hx, _ => by simp at hx
 | z :: r, i0, h, k, x, hx, hlt => by
  simp only [J9a, Bool.and_eq_true, Bool.or_eq_true, decide_eq_true_eq] at h
  cases k with
  | zero => simp at hx; subst hx; exact h.1.resolve_left (by omega)
  | succ k =>
   have := Jdh h.2 k x (by simpa using hx) (by omega)
   rw [show i0 + (k + 1) = i0 + 1 + k by omega]; exact this
theorem JeM {bef : List (List Nat)} {pairs : List (Nat × Nat)} {all : List J0E} : ∀ {r : List J0E} {j0 : Nat}, JcJ bef pairs all j0 r = true → ∀ (k : Nat) y, r[k]? = some y → J9a bef pairs (j0 + k) y 0 all = true
 | [], j0, _, k, y, hy => by simp at hy
 | z :: r, j0, h, k, y, hy => by
  simp only [JcJ, Bool.and_eq_true] at h
  cases k with
  | zero => simp at hy; subst hy; exact h.1
  | succ k =>
   have := JeM h.2 k y (by simpa using hy)
   rw [show j0 + (k + 1) = j0 + 1 + k by omega]; exact this
theorem Jdo : ∀ {r : List Oper} {j0 : Nat}, JaW j0 r = true → ∀ (k : Nat) o, r[k]? = some o → ∀ e ∈ o.after, Region.binds .any e = true → e.on < j0 + k
 | [], j0, _, k, o, ho => by simp at ho
 | z :: r, j0, h, k, o, ho => by
  simp only [JaW, Bool.and_eq_true] at h
  cases k with
  | zero =>
   simp at ho; subst ho
   intro e he hb
   have := Array.all_eq_true_iff_forall_mem.1 h.1 e he
   simpa [hb] using this
  | succ k =>
   intro e he hb
   have := Jdo h.2 k o (by simpa using ho) e he hb
   omega
theorem Jp9 {x y : J0E} (h : J8A x y = true) : (∀ m, x.dst = some m → y.dst ≠ some m ∧ m ∉ J5j y) ∧ (∀ m, y.dst = some m → m ∉ J5j x) := by
 simp only [J8A, Bool.and_eq_true] at h
 obtain ⟨h1, h2⟩ := h
 constructor
 ·intro m hm
  rw [hm] at h1
  simpa using h1
 ·intro m hm
  rw [hm] at h2
  simpa using h2
variable {ins : List J0E} {new : Nat → Nat} {S : Nat → St} {eff : Nat → Eff}
theorem Jqt (hr : Run F ins new S eff) {i j : Nat} (hi : i < ins.length) (hj : j < ins.length) (h1 : J8A ins[i] ins[j] = true)
  (h2 : Jbn ins[i] ins[j] = true ∨ (J4w ((eff i).ws.map (·.1)) (J38 ((J0C F ins[j] (new j)).reads (S j))) = true ∧
   J4w ((eff i).ws.map (·.1)) ((eff j).ws.map (·.1)) = true ∧ J4w (J38 ((J0C F ins[i] (new i)).reads (S i))) ((eff j).ws.map (·.1)) = true)) : Jik F ins new S eff i j := by
 obtain ⟨s1, s2⟩ := Jp9 h1
 have gi : ins[i]? = some ins[i] := List.getElem?_eq_getElem hi
 have gj : ins[j]? = some ins[j] := List.getElem?_eq_getElem hj
 obtain ⟨ri, _⟩ := hr.step i _ gi
 obtain ⟨rj, _⟩ := hr.step j _ gj
 refine ⟨fun x y m hx hy hm => ?_, fun x y m hx hy hm hl => ?_, fun y b hy hb => ?_, fun x b hx hb hl => ?_⟩
 ·rw [gi] at hx; injection hx with hx; subst hx
  rw [gj] at hy; injection hy with hy; subst hy
  exact ⟨(s1 m hm).1, fun hl => (s1 m hm).2 (Jlr F _ _ _ _ hl)⟩
 ·rw [gi] at hx; injection hx with hx; subst hx
  rw [gj] at hy; injection hy with hy; subst hy
  exact s2 m hm (Jlr F _ _ _ _ hl)
 ·rw [gj] at hy; injection hy with hy; subst hy
  rcases h2 with h2 | ⟨k1, k2, k3⟩
  ·simp only [Jbn, Bool.and_eq_true, Bool.or_eq_true, Bool.not_eq_true'] at h2
   rcases h2.1 with h | h
   ·rw [Jgn F _ _ h _ _ ri] at hb; simp at hb
   ·refine ⟨?_, JlS F _ _ h _ _ rj b⟩
    rw [Jgn F _ _ (Jo4 h) _ _ rj]; simp
  ·exact ⟨Je8 k2 hb, fun hl => Je8 k1 hb (J8u hl)⟩
 ·rw [gi] at hx; injection hx with hx; subst hx
  rcases h2 with h2 | ⟨k1, k2, k3⟩
  ·simp only [Jbn, Bool.and_eq_true, Bool.or_eq_true, Bool.not_eq_true'] at h2
   rcases h2.2 with h | h
   ·rw [Jgn F _ _ h _ _ rj] at hb; simp at hb
   ·exact JlS F _ _ h _ _ ri b hl
  ·exact Je8 k3 (J8u hl) hb
def Dl (listed : Array Bool) : Nat → Bool := fun j => listed.getD j false
theorem JnE {listed : Array Bool} {i : Nat} (hi : i < listed.size) : Dl (listed.setIfInBounds i true) = fun j => if j = i then true else Dl listed j := by
 funext j
 unfold Dl
 by_cases h : j = i
 ·subst h; simp [hi]
 ·rw [if_neg h, getD_set_ne false (Ne.symm h)]
theorem Jfe {l : Array Bool} {i : Nat} (hi : i < l.size) (h : l.getD i false = false) : (l.setIfInBounds i true).count false + 1 = l.count false := by
 have he : l[i] = false := by simpa [hi] using h
 have hpos : 0 < l.count false := Array.count_pos_iff.2 (by rw [← he]; exact Array.getElem_mem hi)
 rw [Array.setIfInBounds, dif_pos hi, Array.count_set hi, he]
 simp; omega
theorem JeW {l : Array Bool} (h : l.count false = 0) {i : Nat} (hi : i < l.size) : l.getD i false = true := by
 cases hv : l.getD i false with
 | true => rfl
 | false =>
  have := Jfe hi hv
  omega
theorem JqT {l : Array Bool} : ∀ m, m ≤ l.size → (∀ j, j < m → Dl l j = true) ∨ ∃ k, k < m ∧ Dl l k = false ∧ ∀ j, j < k → Dl l j = true
 | 0, _ => .inl fun j hj => by omega
 | m + 1, h => by
  rcases JqT (l := l) m (by omega) with h1 | ⟨k, a, b, c⟩
  ·cases hm : Dl l m with
   | true => left; intro j hj; by_cases e : j = m; (subst e; exact hm); exact h1 j (by omega)
   | false => exact .inr ⟨m, by omega, hm, h1⟩
  ·exact .inr ⟨k, by omega, b, c⟩
theorem Jcf {l : Array Bool} {j : Nat} (hj : j < l.size) : l.getD j true = l.getD j false := by simp [hj]
theorem JsN (hF : J2P P F) (hr : Run F ins new S eff) (hlen : ins.length = ops.size) (hc : ∀ (k : Nat) i, ins[k]? = some i → ∃ o, ops[k]? = some o ∧ J97 P N ops i o = true)
  (hedge : ∀ (k : Nat) o, ops[k]? = some o → ∀ e ∈ o.after, Region.binds .any e = true → e.on < k)
  (hap : ∀ i j, i < j → j < ins.length → Jqk ops j i ∨ Jik F ins new S eff i j)
  (next : ∀ a' w', Sim N E (S ins.length) a' w' → Q .normal a' w') :
  ∀ (fuel : Nat) (listed : Array Bool) (st : St) (a : Act) (w : World), listed.size = ops.size → Agree ins eff (S 0) (Dl listed) st → Sim N E st a w → JnS ops (Dl listed) → listed.count false = fuel →
   wpAny P .any ops Q fuel listed a w := by
 intro fuel
 induction fuel with
 | zero =>
  intro listed st a w hsz hag hs hcl hcnt
  refine ⟨?_, ?_⟩
  ·cases hre : Region.ready .any ops listed with
   | nil => rfl
   | cons j l =>
    exfalso
    have hm : j ∈ Region.ready .any ops listed := by rw [hre]; simp
    obtain ⟨h1, o, ho, _⟩ := mem_ready.1 hm
    have hj : j < ops.size := (Array.getElem?_eq_some_iff.1 ho).1
    rw [Jcf (by omega), JeW hcnt (by omega)] at h1; cases h1
  ·obtain ⟨e1, e2⟩ := JnT hr hag fun j hj => JeW hcnt (by omega)
   exact next a w (hs.congr (fun m => (e1 m).symm) e2.symm)
 | succ fuel ih =>
  intro listed st a w hsz hag hs hcl hcnt
  refine ⟨fun hnil => ?_, fun k hk => ?_⟩
  ·exfalso
   rcases JqT (l := listed) ops.size (by omega) with hall | ⟨k, hk, hkf, hlow⟩
   ·have : listed.count false = 0 := by
     rw [Array.count_eq_zero]
     intro hm
     obtain ⟨i, hi, he⟩ := Array.getElem_of_mem hm
     have := hall i (by omega)
     unfold Dl at this
     simp [hi, he] at this
    omega
   ·have hm : k ∈ Region.ready .any ops listed := by
     rw [mem_ready]
     refine ⟨by rw [Jcf (by omega)]; exact hkf, ops[k], by simp [hk], fun e he hb => ?_⟩
     exact hlow _ (hedge k ops[k] (by simp [hk]) e he hb)
    rw [hnil] at hm; cases hm
  ·obtain ⟨h1, o, ho, hall⟩ := mem_ready.1 hk
   have hklt : k < ops.size := (Array.getElem?_eq_some_iff.1 ho).1
   have hkf : Dl listed k = false := by unfold Dl; rw [← Jcf (by omega)]; exact h1
   have gk : ins[k]? = some (ins[k]'(by omega)) := List.getElem?_eq_getElem _
   obtain ⟨o', ho', hco⟩ := hc k _ gk
   have hedges : JgK ops (Dl listed) k := by
    intro o2 ho2 e he hb
    rw [ho] at ho2; injection ho2 with ho2; subst ho2
    exact hall e he hb
   obtain ⟨r1, r2⟩ := Jqx hr hag gk hkf (fun j hj hDj => by
     rcases hap j k hj (by omega) with hm | hm
     ·have := hm _ hcl hedges
      rw [hDj] at this; cases this
     ·exact hm) (fun j hj hjl hDj => by
     rcases hap k j hj hjl with hm | hm
     ·have := hm _ hcl (hcl j hDj)
      rw [hkf] at this; cases this
     ·exact hm)
   refine JnY hF hs ho' hco r1 fun a' w' hs' => ?_
   refine ih _ _ a' w' (by simp [hsz]) ?_ hs' ?_ ?_
   ·rw [JnE (by omega)]; exact r2
   ·rw [JnE (by omega)]
    intro j hj o2 ho2 e he hb
    dsimp only at hj ⊢
    have hm : Dl listed e.on = true → (if e.on = k then true else Dl listed e.on) = true := by intro h; split <;> simp [h]
    by_cases hjk : j = k
    ·subst hjk; exact hm (hedges o2 ho2 e he hb)
    ·rw [if_neg hjk] at hj; exact hm (hcl j hj o2 ho2 e he hb)
   ·have := Jfe (l := listed) (i := k) (by omega) hkf
    omega
theorem Jtu (hF : J2P P F) (hmix : P.follows .mixedOrders = true) {id : Nat} {draw : Bool} {pairs : List (Nat × Nat)} {ins : List J0E} (h : region F pairs ins st = some st')
  (hc : JiC P N draw pairs ins ops = true) (hs : Sim N E st a w) (next : ∀ a' w', Sim N E st' a' w' → Q .normal a' w') : (Code.region id ops draw).wp P Q a w := by
 simp only [JiC, Bool.and_eq_true, Bool.or_eq_true, Bool.not_eq_true'] at hc
 obtain ⟨hall, hdraw⟩ := hc
 obtain ⟨hlen, hat⟩ := Jh1 hall
 have hlen : ins.length = ops.size := by simpa using hlen
 have hat : ∀ (k : Nat) i, ins[k]? = some i → ∃ o, ops[k]? = some o ∧ J97 P N ops i o = true := fun k i hi => by simpa using hat k i hi
 have hs0 := hs.room (news ins)
 have hrun : ∃ (new : Nat → Nat) (S : Nat → St) (eff : Nat → Eff), Run F ins new S eff ∧ S 0 = ⟨st.env, room (news ins) st.sto⟩ ∧ S ins.length = st' ∧
   ∀ i j, (i, j) ∈ pairs → ∃ x y, ins[i]? = some x ∧ ins[j]? = some y ∧ J4w ((eff i).ws.map (·.1)) (J38 ((J0C F y (new j)).reads (S j))) = true ∧
   J4w ((eff i).ws.map (·.1)) ((eff j).ws.map (·.1)) = true ∧ J4w (J38 ((J0C F x (new i)).reads (S i))) ((eff j).ws.map (·.1)) = true := by
  unfold region at h
  split at h
  ·obtain ⟨new, S, eff, hr, h0, hl⟩ := Joh h
   exact ⟨new, S, eff, hr, h0, hl, fun i j hm => by simp at hm⟩
  ·split at h
   ·rename_i s' l hlog
    split at h
    ·rename_i hp
     injection h with h; subst h
     obtain ⟨new, S, eff, hr, h0, hl, _, q⟩ := Jnr hlog
     refine ⟨new, S, eff, hr, h0, hl, fun i j hm => ?_⟩
     obtain ⟨x, y, hx, hy, d1, d2, d3⟩ := Jfx hp hm
     have il : ∀ (k : Nat) z, l[k]? = some z → k < ins.length := by
      intro k z hk
      have := J8 hk
      have hll : l.length = ins.length := by
       clear q hr h0 hl hp hx hy
       have : ∀ {r : List J0E} {new0 : Nat} {s0 : St} {l0 l1 : Log} {s1 : St}, J39 F r new0 s0 l0 = some (s1, l1) → l1.length = l0.length + r.length := by
        intro r
        induction r with
        | nil => intro new0 s0 l0 l1 s1 h; simp only [J39] at h; injection h with h; injection h with h1 h2; subst h2; simp
        | cons i r ih =>
         intro new0 s0 l0 l1 s1 h
         simp only [J39] at h
         split at h
         ·rw [ih h]; simp; omega
         ·cases h
       simpa using this hlog
      omega
     have hi := il i x hx
     have hj := il j y hy
     have gi : ins[i]? = some ins[i] := List.getElem?_eq_getElem hi
     have gj : ins[j]? = some ins[j] := List.getElem?_eq_getElem hj
     have qi := q i _ gi
     have qj := q j _ gj
     simp only [List.length_nil, Nat.zero_add] at qi qj
     rw [hx] at qi; injection qi with qi; subst qi
     rw [hy] at qj; injection qj with qj; subst qj
     exact ⟨_, _, gi, gj, d1, d2, d3⟩
    ·cases h
   ·cases h
 obtain ⟨new, S, eff, hr, h0, hl, hp⟩ := hrun
 cases draw with
 | false =>
  refine wp_region ?_
  rw [List.range_eq_range', ← hlen]
  have hr' : ∃ new0, J1Z F ins new0 ⟨st.env, room (news ins) st.sto⟩ = some st' := by
   unfold region at h
   split at h
   ·exact ⟨_, h⟩
   ·split at h
    ·rename_i s' l hlog
     split at h
     ·injection h with h; subst h
      have : ∀ {r : List J0E} {new0 : Nat} {s0 : St} {l0 l1 : Log} {s1 : St}, J39 F r new0 s0 l0 = some (s1, l1) → J1Z F r new0 s0 = some s1 := by
       intro r
       induction r with
       | nil => intro new0 s0 l0 l1 s1 h; simp only [J39] at h; injection h with h; injection h with h1 h2; subst h1; rfl
       | cons i r ih =>
        intro new0 s0 l0 l1 s1 h
        simp only [J39] at h
        simp only [J1Z]
        split at h
        ·rename_i e he
         exact ih h
        ·cases h
      exact ⟨_, this hlog⟩
     ·cases h
    ·cases h
  obtain ⟨new0, hr'⟩ := hr'
  exact Jh0 hF (fun j i hj => by simpa using hat j i hj) hr' hs0 next
 | true =>
  obtain ⟨he, hd⟩ := hdraw.resolve_left (by simp)
  refine wp_region_any hmix ?_
  have hs1 : Sim N E (S 0) a { w with drawn := w.drawn + 1 } := by rw [h0]; exact hs0.heap rfl rfl rfl
  refine JsN hF hr hlen hat (fun k o ho => ?_) (fun i j hij hj => ?_) (by rw [hl]; exact next) ops.size _ (S 0) a _ (by simp) ?_ hs1 ?_ ?_
  ·have := Jdo he k o (by simpa using ho)
   simpa using this
  ·have gi : ins[i]? = some (ins[i]'(by omega)) := List.getElem?_eq_getElem _
   have gj : ins[j]? = some ins[j] := List.getElem?_eq_getElem hj
   have h1 := JeM hd j _ gj
   rw [Nat.zero_add] at h1
   have h2 := Jdh h1 i _ gi (by omega)
   rw [Nat.zero_add] at h2
   simp only [Jg5, Bool.or_eq_true, Bool.and_eq_true] at h2
   rcases h2 with h2 | ⟨h2, h3⟩
   ·left
    cases hb : (Jim [] ops.toList)[j]? with
    | none => rw [hb] at h2; simp at h2
    | some l =>
     rw [hb] at h2
     exact JnM (ops := ops) (os := ops.toList) (acc := []) (fun j o ho => by simpa using ho) (fun k l i hk => by simp at hk) j l i hb (by simpa using h2)
   ·right
    refine Jqt hr (by omega) hj h2 ?_
    rcases h3 with h3 | h3
    ·exact .inl h3
    ·obtain ⟨x, y, hx, hy, d⟩ := hp i j (by simpa using h3)
     rw [gi] at hx; injection hx with hx; subst hx
     rw [gj] at hy; injection hy with hy; subst hy
     exact .inr d
  ·have : Dl (Array.replicate ops.size false) = fun _ => false := by
    funext j; unfold Dl; simp [Array.getElem?_replicate]; split <;> rfl
   rw [this]; exact JkN
  ·intro j hj
   unfold Dl at hj
   simp [Array.getElem?_replicate] at hj
   split at hj <;> simp at hj
  ·simp
end
end Go.Am
end
section
namespace Go.Am
def JY (P : Program) (N : Nat) : J07 → Code → Bool
 | .bad, _ => true
 | .skip, c => match c with
  | .skip => true
  | .label _ => true
  | _ => false
 | .reg draw pairs ins, c => match c with
  | .region _ ops d => draw == d && JiC P N draw pairs ins ops
  | _ => false
 | .seq a b, c => match c with
  | .seq x y => JY P N a x && JY P N b y
  | _ => false
 | .cond o a b, c => match c with
  | .cond p x y => J0i o p && JY P N a x && JY P N b y
  | _ => false
 | .block id a, c => match c with
  | .block id' x => id == id' && JY P N a x
  | _ => false
 | .loop _ a, c => match c with
  | .loop x => JY P N a x
  | _ => false
 | .lp _ _ _, _ => false
 | .scope a, c => match c with
  | .scope x => JY P N a x
  | _ => false
 | .exit id, c => match c with
  | .exit id' => id == id'
  | _ => false
 | .ret, c => match c with
  | .ret => true
  | _ => false
 | .keep _ a, c => JY P N a c
 | .tidy _ a, c => JY P N a c
 | .br _ pre o a b rest, c => match c with
  | .seq (.seq p (.cond q x y)) z => JY P N pre p && J0i o q && JY P N a x && JY P N b y && JY P N rest z
  | _ => false
def J6k : AX → Exit
 | .normal => .normal
 | .exit id => .exit id
 | .ret => .ret
def JaM (P : Program) (c : J07) (st : St) (r : Out) : Prop :=
 match c with
 | .lp n _ b => ∃ k, ∀ (N : Nat) (code : Code) (E : Sn) (a : Act) (w : World) (Q : Exit → Act → World → Prop), JY P N b code = true → E.σ.length ≤ n → n ≤ st.sto.length → Sim N E st a w →
   (∀ a' w', Sim N E r.2 a' w' → Q (J6k r.1) a' w') → Code.rounds P code Q k a w
 | c => ∀ (N : Nat) (code : Code) (E : Sn) (a : Act) (w : World) (Q : Exit → Act → World → Prop), JY P N c code = true → Sim N E st a w →
   (∀ a' w', Sim N E r.2 a' w' → Q (J6k r.1) a' w') → code.wp P Q a w
theorem JaM.get {P : Program} {c : J07} {st : St} {r : Out} (h : JaM P c st r) {N : Nat} {code : Code} {E : Sn} {a : Act} {w : World} {Q : Exit → Act → World → Prop} (hc : JY P N c code = true) (hs : Sim N E st a w)
  (next : ∀ a' w', Sim N E r.2 a' w' → Q (J6k r.1) a' w') : code.wp P Q a w := by
 cases c <;> first | exact h N code E a w Q hc hs next | (simp [JY] at hc; done)
theorem Jba {env : List (Nat × AV)} {n : Nat} {x : AV} : ∀ {live : List Nat}, lk n (restr live env) = some x → lk n env = some x
 | [], h => by simp [restr, lk] at h
 | k :: r, h => by
  simp only [restr] at h
  split at h
  ·rename_i v hv
   simp only [lk] at h
   split at h
   ·rename_i e; subst e; rw [hv]; exact h
   ·exact Jba h
  ·exact Jba h
theorem Jm3 {m : Nat} {sto : List Blk} {n : Nat} {y : AV} : ∀ {env env' : List (Nat × AV)}, JbX m sto env = some env' → lk n env' = some y → ∃ x, lk n env = some x ∧ fin m [] sto x = some y
 | [], env', h, hy => by simp [JbX] at h; subst h; simp [lk] at hy
 | (k, x) :: r, env', h, hy => by
  simp only [JbX] at h
  split at h
  ·rename_i z l hz hl
   injection h with h; subst h
   simp only [lk] at hy ⊢
   split at hy
   ·rename_i e; injection hy with hy; subst hy; exact ⟨x, by simp [e], hz⟩
   ·rename_i e; obtain ⟨x', h1, h2⟩ := Jm3 hl hy; exact ⟨x', by simp [e, h1], h2⟩
  ·cases h
section
variable {P : Program} {N : Nat} {E : Sn} {st st' : St} {a : Act} {w : World}
theorem Sim.restr (h : Sim N E st a w) (live : List Nat) : Sim N E ⟨restr live st.env, st.sto⟩ a w := by
 obtain ⟨h1, h2, g, hi, hr, ht⟩ := h
 exact ⟨h1, h2, g, hi, fun n x hx => hr n x (Jba hx), ht⟩
theorem Jbm {n : Nat} {live : List Nat} (h : Sim N E st a w) (hc : clean n live st = some st') (hE : E.σ.length ≤ n) (hn : n ≤ st.sto.length) : Sim N E st' a w ∧ st'.sto.length = n := by
 unfold clean at hc
 split at hc
 ·rename_i e
  injection hc with hc; subst hc
  exact ⟨h.restr live, e⟩
 ·split at hc
  ·rename_i ev l hev hl
   injection hc with hc; subst hc
   obtain ⟨h1, h2, g, hi, hr, ht⟩ := h
   obtain ⟨k1, k2⟩ := J8y hl
   have hlen : l.length = n := by rw [← k1]; simp; omega
   have co : Jnn ⟨st.sto, g, w⟩ n [] l := by
    refine ⟨hi, hn, List.nodup_nil, fun b hb => by simp at hb, by simp [hlen], fun k x hk => ?_⟩
    have hlt := J8 hk
    have hx : (st.sto.take n)[k]? = some (st.sto[k]'(by omega)) := by rw [List.getElem?_take_of_lt (by omega)]; exact List.getElem?_eq_getElem _
    refine ⟨_, ?_, k2 k _ x hx hk⟩
    rw [J5U (by omega)]; exact List.getElem?_eq_getElem _
   refine ⟨⟨h1, h2, (J4R ⟨st.sto, g, w⟩ n [] l).g, Jlz co, fun k y hy => ?_, Jhp co ht hE⟩, hlen⟩
   obtain ⟨x, hx, hf⟩ := Jm3 hev hy
   obtain ⟨v, hv, hrel⟩ := hr k x (Jba hx)
   exact ⟨v, hv, JfP co hrel hf⟩
  ·cases hc
def J4V (P : Program) : List Jc8 → List ResultVar → Bool
 | [], [] => true
 | .tmp t :: r, .tmp t' :: q => t == t' && J4V P r q
 | .cell t agg size :: r, .cell t' ty :: q => t == t' && agT P ty == some agg && szT P ty == some size && J4V P r q
 | _, _ => false
def Jkp (tmps : Array Value) : ResultVar → Sem Value
 | .tmp t => pure (tmps.getD t undef)
 | .cell a t => do loadVar t (← asAddr (tmps.getD a undef))
theorem Jga {s : Sn} {env : List (Nat × AV)} {tmps : Array Value} (hi : Inv s) (he : JA s tmps env) : ∀ {rs : List Jc8} {qs : List ResultVar} {vs : List AV}, J4V P rs qs = true → (J8l rs).run ⟨env, s.σ⟩ = some vs →
  ∃ us : List Value, (qs.mapM (Jkp tmps)).run P s.w = .ok us s.w ∧ vs.length = us.length ∧ ∀ (i : Nat) x v, vs[i]? = some x → us[i]? = some v → Jf s x v
 | [], [], vs, _, h => by
  simp only [J8l, RM.run] at h; injection h with h; subst h
  exact ⟨[], by simp, rfl, fun i x v h => by simp at h⟩
 | .tmp t :: r, .tmp t' :: q, vs, hc, h => by
  simp only [J4V, Bool.and_eq_true, beq_iff_eq] at hc
  obtain ⟨rfl, hc⟩ := hc
  simp only [J8l] at h
  obtain ⟨x, h1, h⟩ := bind_some h
  obtain ⟨l, h2, h⟩ := bind_some h
  simp only [RM.run] at h; injection h with h; subst h
  simp only [RM.run] at h1
  split at h1
  ·rename_i y hy
   injection h1 with h1; subst h1
   obtain ⟨v, hv, hr⟩ := he _ _ hy
   obtain ⟨us, k1, k2, k3⟩ := Jga hi he hc h2
   refine ⟨v :: us, ?_, by simp [k2], fun i x u hx hu => ?_⟩
   ·rw [List.mapM_cons]
    simp only [Jkp, Sem.run_bind, Sem.run_pure, Result.andThen_ok, k1, Array.getD_eq_getD_getElem?, hv, Option.getD_some]
   ·cases i with
    | zero => simp at hx hu; subst hx hu; exact hr
    | succ i => exact k3 i x u (by simpa using hx) (by simpa using hu)
  ·cases h1
 | .cell t agg size :: r, .cell t' ty :: q, vs, hc, h => by
  simp only [J4V, Bool.and_eq_true, beq_iff_eq] at hc
  obtain ⟨⟨⟨rfl, ha⟩, hz⟩, hc⟩ := hc
  simp only [J8l] at h
  obtain ⟨x, h1, h⟩ := bind_some h
  obtain ⟨e, h3, h⟩ := bind_some h
  obtain ⟨l, h2, h⟩ := bind_some h
  simp only [RM.run] at h; injection h with h; subst h
  simp only [RM.run] at h1
  split at h1
  ·rename_i y hy
   injection h1 with h1; subst h1
   obtain ⟨v, hv, hr⟩ := he _ _ hy
   obtain ⟨us, k1, k2, k3⟩ := Jga hi he hc h2
   obtain ⟨rr, o, ws, q1, q2, q3, _, q4⟩ := Jhb hi h3 hr
   obtain ⟨l1, l2⟩ := Jdi (P := P) ha hz q2 q3
   have hload : ∃ u, (loadVar ty ⟨rr, o, none⟩).run P s.w = .ok u s.w ∧ Jf s e.val u := by
    rcases q4 with ⟨rfl, hq⟩ | ⟨rfl, u, hu, hq⟩
    ·exact ⟨_, l1 rfl, hq⟩
    ·exact ⟨u, l2 rfl u hu, hq⟩
   obtain ⟨u, hu, hrel⟩ := hload
   refine ⟨u :: us, ?_, by simp [k2], fun i x z hx hz => ?_⟩
   ·rw [List.mapM_cons]
    subst q1
    simp only [Jkp, Sem.run_bind, Array.getD_eq_getD_getElem?, hv, Option.getD_some]
    simp [asAddr, hu, k1]
   ·cases i with
    | zero => simp at hx hz; subst hx hz; exact hrel
    | succ i => exact k3 i x z (by simpa using hx) (by simpa using hz)
  ·cases h1
 | [], _ :: _, _, hc, _ => by simp [J4V] at hc
 | .tmp _ :: _, [], _, hc, _ => by simp [J4V] at hc
 | .cell _ _ _ :: _, [], _, hc, _ => by simp [J4V] at hc
 | .tmp _ :: _, .cell _ _ :: _, _, hc, _ => by simp [J4V] at hc
 | .cell _ _ _ :: _, .tmp _ :: _, _, hc, _ => by simp [J4V] at hc
theorem J73 {m : Nat} {fresh : Bool} {sto : List Blk} : ∀ {es : List Ent}, ∀ b ∈ J3b m fresh sto es, m ≤ b
 | [], b, h => by simp [J3b] at h
 | .elem _ _ _ :: r, b, h => J73 (es := r) b (by simpa [J3b] using h)
 | .whole c :: r, b, h => by
  simp only [J3b] at h
  split at h
  ·exact J73 (es := r) b h
  ·rename_i hc
   have two : b ∈ c :: J3b m fresh sto r → m ≤ b := by
    intro h
    rcases List.mem_cons.1 h with rfl | h
    ·omega
    ·exact J73 (es := r) b h
   split at h
   ·exact two h
   ·split at h
    ·exact two h
    ·exact J73 (es := r) b h
   ·exact J73 (es := r) b h
theorem JlM {s : Sn} {vs : List AV} {us : List Value} (hl : vs.length = us.length) (hr : ∀ (i : Nat) x v, vs[i]? = some x → us[i]? = some v → Jf s x v) :
  Jf s (one vs) (if h : us.toArray.size = 1 then us.toArray[0] else .tuple us.toArray) := by
 by_cases h : us.toArray.size = 1
 ·rw [dif_pos h]
  cases us with
  | nil => simp at h
  | cons u q =>
   cases vs with
   | nil => simp at hl
   | cons x p =>
    have hq : q = [] := by simpa using h
    subst hq
    have hp : p = [] := by simpa using hl
    subst hp
    exact hr 0 x u rfl rfl
 ·rw [dif_neg h]
  have : one vs = .tup vs := by
   match vs, hl with
   | [], _ => rfl
   | [x], hl => simp at h; simp at hl; omega
   | _ :: _ :: _, _ => rfl
  rw [this]
  exact .tup _ _ (by simpa using hl) fun i x v hx hv => hr i x v hx (by simpa using hv)
theorem Jh9 {af : AFn} {fn : Func} {m : Nat} {r : Res} (hs : Sim N E st a w) (hm : E.σ.length = m) (h : J2p af m st = some r) (hc : J4V P af.res fn.results.toList = true) :
  a.defers = [] ∧ ∃ v, (results fn a.tmps).run P w = .ok v w ∧ ∃ g', Inv ⟨r.2, g', w⟩ ∧ Js E ⟨r.2, g', w⟩ ∧ Jf ⟨r.2, g', w⟩ r.1 v := by
 obtain ⟨h1, h2, g, hi, hr, ht⟩ := hs
 refine ⟨h2, ?_⟩
 unfold J2p at h
 cases hvs : (J8l af.res).run st with
 | none => rw [hvs] at h; cases h
 | some vs =>
  rw [hvs] at h
  dsimp only at h
  obtain ⟨us, k1, k2, k3⟩ := Jga (P := P) (s := ⟨st.sto, g, w⟩) (env := st.env) hi hr hc hvs
  have hrun : (results fn a.tmps).run P w = .ok (if h : us.toArray.size = 1 then us.toArray[0] else .tuple us.toArray) w := by
   have : results fn a.tmps = (do
    let vs ← fn.results.mapM (Jkp a.tmps)
    pure (if h : vs.size = 1 then vs[0] else .tuple vs)) := rfl
   rw [this, Array.mapM_eq_mapM_toList]
   have k1' : (fn.results.toList.mapM (Jkp a.tmps)).run P w = .ok us w := k1
   simp [k1']
  refine ⟨_, hrun, ?_⟩
  split at h
  ·injection h with h; subst h
   exact ⟨g, hi, ht, JlM k2 k3⟩
  ·split at h
   ·rename_i hnd
    have hge0 := J73 (m := m) (fresh := af.fresh) (sto := st.sto) (es := J86 st.sto (JW.entsOfL vs []) (JW.entsOfL vs []))
    generalize J3b m af.fresh st.sto (J86 st.sto (JW.entsOfL vs []) (JW.entsOfL vs [])) = ids at *
    split at h
    ·rename_i ws l q hws hl hq
     split at h
     ·rename_i q' hq'
      injection h with h; subst h
      obtain ⟨a1, a2⟩ := J3X hws
      obtain ⟨b1, b2⟩ := J8y hl
      obtain ⟨c1, c2⟩ := Jfa hq
      obtain ⟨d1, d2⟩ := J8y hq'
      have hle : m ≤ st.sto.length := by rw [← hm]; exact ht.len
      have hlen : l.length = m := by rw [← b1]; simp; omega
      have co : Jnn ⟨st.sto, g, w⟩ m ids (l ++ q') := by
       refine ⟨hi, hle, J8w hnd, hge0, by simp; omega, fun k x hk => ?_⟩
       rcases J7M hk with hk | ⟨hge, hk⟩
       ·have hlt := J8 hk
        have hx : (st.sto.take m)[k]? = some (st.sto[k]'(by omega)) := by rw [List.getElem?_take_of_lt (by omega)]; exact List.getElem?_eq_getElem _
        refine ⟨_, ?_, b2 k _ x hx hk⟩
        rw [J5U (by omega)]; exact List.getElem?_eq_getElem _
       ·have hlt := J8 hk
        have hx : q[k - l.length]? = some (q[k - l.length]'(by omega)) := List.getElem?_eq_getElem _
        refine ⟨_, ?_, d2 _ _ x hx hk⟩
        have hid : ids[k - l.length]? = some (ids[k - l.length]'(by omega)) := List.getElem?_eq_getElem _
        have hg := c2 _ _ _ hid hx
        have hio : J4c m ids k = ids[k - l.length]'(by omega) := by
         unfold J4c
         rw [if_neg (by omega), ← hlen, hid]; rfl
        rw [hio]; exact hg
      refine ⟨_, Jlz co, Jhp co ht (by omega), JlM (by omega) fun i x v hx hv => ?_⟩
      have hlt := J8 hx
      have hx0 : vs[i]? = some (vs[i]'(by omega)) := List.getElem?_eq_getElem _
      exact JfP co (k3 i _ v hx0 hv) (a2 i _ x hx0 hx)
     ·cases h
    ·cases h
   ·cases h
def Ju (P : Program) (f : FuncId) (af : AFn) : Bool :=
 match P.funcs[f]? with
 | none => false
 | some fn => match fn.body with
  | none => false
  | some code => fn.name != "runtime.NumGoroutine" && af.nt == af.np + (fn.ntmps - af.np) && J4V P af.res fn.results.toList && JY P af.nt af.body code
theorem Jg2 : ∀ {args : List AV} {k n : Nat} {x : AV}, lk n (J66 k args) = some x → k ≤ n ∧ args[n - k]? = some x
 | [], k, n, x, h => by simp [J66, lk] at h
 | y :: r, k, n, x, h => by
  simp only [J66, lk] at h
  split at h
  ·rename_i e; subst e; exact ⟨Nat.le_refl _, by simpa using h⟩
  ·rename_i e
   obtain ⟨h1, h2⟩ := Jg2 h
   refine ⟨by omega, ?_⟩
   rw [show n - k = (n - (k + 1)) + 1 by omega]
   simpa using h2
end
section
variable {P : Program} {T : J21}
theorem Jqe {f : FuncId} {af : AFn} {args : List AV} {blks : List Blk} {r : Res} (hc : Ju P f af = true) (hnp : args.length = af.np)
  (h : ∀ (code : Code) (g : Gh) (w : World) (a : Act) (Q : Exit → Act → World → Prop), JY P af.nt af.body code = true → Sim af.nt ⟨blks, g, w⟩ ⟨J66 0 args, blks⟩ a w →
   (∀ e s a' w', (e = .normal ∨ e = .ret) → J2p af blks.length s = some r → Sim af.nt ⟨blks, g, w⟩ s a' w' → Q (J6k e) a' w') → code.wp P Q a w) : J2f P f args blks r := by
 unfold Ju at hc
 split at hc
 ·cases hc
 ·rename_i fn hfn
  split at hc
  ·cases hc
  ·rename_i code hb
   simp only [Bool.and_eq_true, beq_iff_eq, bne_iff_ne, ne_eq] at hc
   obtain ⟨⟨⟨hname, hnt⟩, hres⟩, hcode⟩ := hc
   refine ⟨⟨fn, hfn, by simp [hb], by simpa using hname⟩, fun g w vals hinv hlen hrel => ?_⟩
   refine calls_of_wp hfn hb ?_
   have hs0 : Sim af.nt ⟨blks, g, w⟩ ⟨J66 0 args, blks⟩ { tmps := vals ++ Array.replicate (fn.ntmps - vals.size) undef, defers := [] } w := by
    refine ⟨by simp; omega, rfl, g, hinv, fun n x hx => ?_, .refl _⟩
    obtain ⟨_, hx⟩ := Jg2 hx
    rw [Nat.sub_zero] at hx
    have hlt := J8 hx
    refine ⟨vals[n]'(by omega), ?_, hrel n x _ hx (Array.getElem?_eq_getElem _)⟩
    rw [Array.getElem?_append_left (by omega)]; exact Array.getElem?_eq_getElem _
   have fin : ∀ {s}, J2p af blks.length s = some r → ∀ a' w', Sim af.nt ⟨blks, g, w⟩ s a' w' → a'.defers = [] ∧ ∃ v, (results fn a'.tmps).run P w' = .ok v w' ∧ ∃ v' g', Ending.returned v = .returned v' ∧
     Inv ⟨r.2, g', w'⟩ ∧ Js ⟨blks, g, w⟩ ⟨r.2, g', w'⟩ ∧ Jf ⟨r.2, g', w'⟩ r.1 v' := by
    intro s hfin a' w' hs
    obtain ⟨q1, v, q2, g', q3, q4, q5⟩ := Jh9 hs rfl hfin hres
    exact ⟨q1, v, q2, v, g', rfl, q3, q4, q5⟩
   refine h code g w _ _ hcode hs0 fun e s a' w' he hfin hs => ?_
   rcases he with rfl | rfl
   ·exact fin hfin a' w' hs
   ·exact fin hfin a' w' hs
theorem Jpb {R : J07 → St → Option Out} (ih : ∀ c s r, R c s = some r → JaM P c s r) {f : FuncId} {k : J5l} {args : List AV} {blks : List Blk} {r : Res} (hc : Ju P f k.af = true) (hnp : args.length = k.np)
  (h : J8G R k args blks = some r) : J2f P f args blks r := by
 refine Jqe hc hnp fun code g w a Q hcode hs0 fin => ?_
 simp only [J5l.af] at hcode fin hs0
 cases code <;> simp only [JY, Bool.false_eq_true] at hcode
 rename_i code0 codeb
 simp only [Bool.and_eq_true] at hcode
 obtain ⟨hc0, hcb⟩ := hcode
 unfold J8G at h
 split at h
 ·rename_i s0 hp0
  split at h
  ·rename_i s1 hpre
   refine wp_seq ((ih _ _ _ hp0).get hc0 hs0 fun a0 w0 hs1 => ?_)
   split at hcb
   ·rename_i cp cq cx cy cz
    simp only [Bool.and_eq_true] at hcb
    obtain ⟨⟨⟨⟨hp, ho⟩, hx⟩, hy⟩, hz⟩ := hcb
    simp only [J6k, Exit.then]
    refine wp_seq (wp_seq ((ih _ _ _ hpre).get hp hs1 fun a1 w1 hs1 => ?_))
    have way : ∀ {c : J07} {code : Code}, JY P k.nt c code = true → Jbi k.af blks.length (thn (R c s1) fun s => R k.rest s) = some r →
      code.wp P (Exit.then (cz.wp P Q) Q) a1 w1 := by
     intro c code hc ht
     cases hR : R c s1 with
     | none => rw [hR] at ht; cases ht
     | some o =>
      obtain ⟨e, s2⟩ := o
      rw [hR] at ht
      refine (ih _ _ _ hR).get hc hs1 fun a' w' hs' => ?_
      cases e with
      | normal =>
       simp only [thn] at ht
       cases hR2 : R k.rest s2 with
       | none => rw [hR2] at ht; cases ht
       | some o2 =>
        obtain ⟨e2, s3⟩ := o2
        rw [hR2] at ht
        simp only [J6k, Exit.then]
        refine (ih _ _ _ hR2).get hz hs' fun a' w' hs' => ?_
        cases e2 with
        | normal => exact fin .normal s3 a' w' (.inl rfl) ht hs'
        | ret => exact fin .ret s3 a' w' (.inr rfl) ht hs'
        | exit id => cases ht
      | exit id => cases ht
      | ret => exact fin .ret s2 a' w' (.inr rfl) ht hs'
    have hs1' := hs1
    obtain ⟨_, _, g, hi, hr, _⟩ := hs1'
    simp only [J6k, Exit.then]
    split at h
    ·rename_i b hb
     have hrel := Jv (s := ⟨s1.sto, g, w1⟩) (env := s1.env) hr hb ho
     generalize hv : a1.eval cq = v at hrel
     cases hrel with
     | p _ _ hrel =>
      cases hrel with
      | b =>
       refine wp_cond hv ?_
       cases b with
       | true => exact way hx (by simpa using h)
       | false => exact way hy (by simpa using h)
    ·rename_i hb
     have hrel := Jv (s := ⟨s1.sto, g, w1⟩) (env := s1.env) hr hb ho
     generalize hv : a1.eval cq = v at hrel
     cases hrel with
     | unk t =>
      refine wp_cond hv ?_
      unfold Jes at h
      split at h
      ·rename_i r1 r2 e1 e2
       split at h
       ·rename_i he
        injection h with h; subst h
        cases t with
        | true => exact way hx e1
        | false => rw [← he] at e2; exact way hy e2
       ·cases h
      ·cases h
    ·cases h
   ·cases hcb
  ·cases h
 ·cases h
theorem Jjf {R : J07 → St → Option Out} (ih : ∀ c s r, R c s = some r → JaM P c s r) (hT : ∀ f af, T f = some (.fn af) → Ju P f af = true)
  (hP : ∀ f g, T f = some (.prim g) → ∀ args blks r, g args blks = some r → J2f P f args blks r) (hK : ∀ f k, T f = some (.fork k) → Ju P f k.af = true) : J2P P (J7z T R) := by
 intro f args blks r h
 unfold J7z at h
 cases hTf : T f with
 | none => rw [hTf] at h; cases h
 | some en =>
  rw [hTf] at h
  cases en with
  | prim g => exact hP f g hTf args blks r h
  | fork k =>
   dsimp only at h
   split at h
   ·rename_i hnp; exact Jpb ih (hK f k hTf) hnp h
   ·cases h
  | fn af =>
   dsimp only at h
   split at h
   ·rename_i hnp
    have hc := hT f af hTf
    unfold Ju at hc
    split at hc
    ·cases hc
    ·rename_i fn hfn
     split at hc
     ·cases hc
     ·rename_i code hb
      simp only [Bool.and_eq_true, beq_iff_eq, bne_iff_ne, ne_eq] at hc
      obtain ⟨⟨⟨hname, hnt⟩, hres⟩, hcode⟩ := hc
      refine ⟨⟨fn, hfn, by simp [hb], by simpa using hname⟩, fun g w vals hinv hlen hrel => ?_⟩
      refine calls_of_wp hfn hb ?_
      have hs0 : Sim af.nt ⟨blks, g, w⟩ ⟨J66 0 args, blks⟩ { tmps := vals ++ Array.replicate (fn.ntmps - vals.size) undef, defers := [] } w := by
       refine ⟨by simp; omega, rfl, g, hinv, fun n x hx => ?_, .refl _⟩
       obtain ⟨_, hx⟩ := Jg2 hx
       rw [Nat.sub_zero] at hx
       have hlt := J8 hx
       refine ⟨vals[n]'(by omega), ?_, hrel n x _ hx (Array.getElem?_eq_getElem _)⟩
       rw [Array.getElem?_append_left (by omega)]; exact Array.getElem?_eq_getElem _
      have fin : ∀ {s}, J2p af blks.length s = some r → ∀ a' w', Sim af.nt ⟨blks, g, w⟩ s a' w' → a'.defers = [] ∧ ∃ v, (results fn a'.tmps).run P w' = .ok v w' ∧ ∃ v' g', Ending.returned v = .returned v' ∧
        Inv ⟨r.2, g', w'⟩ ∧ Js ⟨blks, g, w⟩ ⟨r.2, g', w'⟩ ∧ Jf ⟨r.2, g', w'⟩ r.1 v' := by
       intro s hfin a' w' hs
       obtain ⟨q1, v, q2, g', q3, q4, q5⟩ := Jh9 hs rfl hfin hres
       exact ⟨q1, v, q2, v, g', rfl, q3, q4, q5⟩
      split at h
      ·rename_i s hR
       exact (ih _ _ _ hR).get hcode hs0 fun a' w' hs => fin h a' w' hs
      ·rename_i s hR
       exact (ih _ _ _ hR).get hcode hs0 fun a' w' hs => fin h a' w' hs
      ·cases h
   ·cases h
theorem Js9 (hmix : P.follows .mixedOrders = true) (hT : ∀ f af, T f = some (.fn af) → Ju P f af = true)
  (hP : ∀ f g, T f = some (.prim g) → ∀ args blks r, g args blks = some r → J2f P f args blks r) (hK : ∀ f k, T f = some (.fork k) → Ju P f k.af = true) : ∀ c s r, X T c s = some r → JaM P c s r := by
 refine Juc T _ ?_
 intro R ih c s r h
 have hF : J2P P (J7z T R) := Jjf ih hT hP hK
 cases c with
 | skip =>
  simp only [step] at h; injection h with h; subst h
  intro N code E a w Q hc hs next
  cases code <;> first
   | exact wp_skip (next a w hs)
   | exact wp_label (next a w hs)
   | (simp [JY] at hc; done)
 | bad => simp only [step] at h; cases h
 | reg d pairs ins =>
  simp only [step] at h
  split at h
  ·rename_i s' hreg
   injection h with h; subst h
   intro N code E a w Q hc hs next
   cases code <;> simp only [JY, Bool.false_eq_true] at hc
   simp only [Bool.and_eq_true, beq_iff_eq] at hc
   obtain ⟨rfl, hc⟩ := hc
   exact Jtu hF hmix hreg hc hs next
  ·cases h
 | seq x y =>
  simp only [step] at h
  intro N code E a w Q hc hs next
  cases code <;> simp only [JY, Bool.false_eq_true] at hc
  simp only [Bool.and_eq_true] at hc
  refine wp_seq ?_
  split at h
  ·rename_i s' hx
   refine (ih _ _ _ hx).get hc.1 hs fun a' w' hs' => ?_
   exact (ih _ _ _ h).get hc.2 hs' next
  ·rename_i hne
   refine (ih _ _ _ h).get hc.1 hs fun a' w' hs' => ?_
   obtain ⟨e, s'⟩ := r
   cases e with
   | normal => exact absurd h (by simpa using hne s')
   | exit id => exact next a' w' hs'
   | ret => exact next a' w' hs'
 | cond c x y =>
  simp only [step] at h
  intro N code E a w Q hc hs next
  cases code <;> simp only [JY, Bool.false_eq_true] at hc
  simp only [Bool.and_eq_true] at hc
  obtain ⟨⟨hco, hx⟩, hy⟩ := hc
  have hs' := hs
  obtain ⟨_, _, g, hi, hr, _⟩ := hs'
  split at h
  ·rename_i b hb
   have hrel := Jv (s := ⟨s.sto, g, w⟩) (env := s.env) hr hb hco
   generalize hv : a.eval _ = v at hrel
   cases hrel with
   | p _ _ hrel =>
    cases hrel with
    | b =>
     refine wp_cond hv ?_
     cases b with
     | true => exact (ih _ _ _ (by simpa using h)).get hx hs next
     | false => exact (ih _ _ _ (by simpa using h)).get hy hs next
  ·rename_i hb
   have hrel := Jv (s := ⟨s.sto, g, w⟩) (env := s.env) hr hb hco
   generalize hv : a.eval _ = v at hrel
   cases hrel with
   | unk t =>
    refine wp_cond hv ?_
    unfold same at h
    split at h
    ·rename_i r1 r2 e1 e2
     split at h
     ·rename_i he
      injection h with h; subst h
      cases t with
      | true => exact (ih _ _ _ e1).get hx hs next
      | false => rw [he] at next; exact (ih _ _ _ e2).get hy hs next
     ·cases h
    ·cases h
  ·cases h
 | block id x =>
  simp only [step] at h
  intro N code E a w Q hc hs next
  cases code <;> simp only [JY, Bool.false_eq_true] at hc
  simp only [Bool.and_eq_true, beq_iff_eq] at hc
  obtain ⟨rfl, hc⟩ := hc
  refine wp_block ?_
  split at h
  ·rename_i k s' hx
   refine (ih _ _ _ hx).get hc hs fun a' w' hs' => ?_
   simp only [J6k, Exit.inBlock]
   split at h
   ·rename_i e
    injection h with h; subst h
    rw [if_pos e]; exact next a' w' hs'
   ·rename_i e
    injection h with h; subst h
    rw [if_neg e]; exact next a' w' hs'
  ·rename_i hne
   refine (ih _ _ _ h).get hc hs fun a' w' hs' => ?_
   obtain ⟨e, s'⟩ := r
   cases e with
   | normal => exact next a' w' hs'
   | exit id => exact absurd h (by simpa using hne id s')
   | ret => exact next a' w' hs'
 | loop live x =>
  simp only [step] at h
  intro N code E a w Q hc hs next
  cases code <;> simp only [JY, Bool.false_eq_true] at hc
  split at h
  ·rename_i s' hcl
   obtain ⟨k, hk⟩ := ih _ _ _ h
   have hE : E.σ.length ≤ s.sto.length := by obtain ⟨_, _, g, _, _, ht⟩ := hs; exact ht.len
   obtain ⟨hs', hl⟩ := Jbm hs hcl hE (Nat.le_refl _)
   exact wp_loop_rounds k (hk N _ E a w Q hc hE (by omega) hs' next)
  ·cases h
 | lp n live x =>
  simp only [step] at h
  split at h
  ·rename_i s' hx
   split at h
   ·rename_i s'' hcl
    obtain ⟨k, hk⟩ := ih _ _ _ h
    refine ⟨k + 1, fun N code E a w Q hc hE hn hs next => ?_⟩
    rw [rounds_succ]
    obtain ⟨h1, h2, g, hi, hr, ht⟩ := hs
    have hs0 : Sim N ⟨s.sto, g, w⟩ s a w := ⟨h1, h2, g, hi, hr, .refl _⟩
    refine (ih _ _ _ hx).get hc hs0 fun a' w' hs' => ?_
    obtain ⟨q1, q2, g', qi, qr, qt⟩ := hs'
    have hlen : s.sto.length ≤ s'.sto.length := qt.len
    have hsE : Sim N E s' a' w' := ⟨q1, q2, g', qi, qr, ht.trans qt⟩
    obtain ⟨hs2, hl⟩ := Jbm hsE hcl hE (by omega)
    exact hk N code E a' w' Q hc hE (by omega) hs2 next
   ·cases h
  ·rename_i hne
   refine ⟨1, fun N code E a w Q hc hE hn hs next => ?_⟩
   rw [rounds_succ]
   refine (ih _ _ _ h).get hc hs fun a' w' hs' => ?_
   obtain ⟨e, s'⟩ := r
   cases e with
   | normal => exact absurd h (by simpa using hne s')
   | exit id => exact next a' w' hs'
   | ret => exact next a' w' hs'
 | scope x =>
  simp only [step] at h
  intro N code E a w Q hc hs next
  cases code <;> simp only [JY, Bool.false_eq_true] at hc
  refine wp_scope_straight ((ih _ _ _ h).get hc hs fun a' w' hs' => ?_)
  have := next a' w' hs'
  obtain ⟨e, s'⟩ := r
  cases e <;> exact this
 | exit id =>
  simp only [step] at h; injection h with h; subst h
  intro N code E a w Q hc hs next
  cases code <;> simp only [JY, Bool.false_eq_true] at hc
  simp only [beq_iff_eq] at hc; subst hc
  exact wp_exit (next a w hs)
 | ret =>
  simp only [step] at h; injection h with h; subst h
  intro N code E a w Q hc hs next
  cases code <;> simp only [JY, Bool.false_eq_true] at hc
  exact wp_ret (next a w hs)
 | keep live x =>
  simp only [step] at h
  intro N code E a w Q hc hs next
  exact (ih _ _ _ h).get (by simpa only [JY] using hc) (hs.restr live) next
 | tidy live x =>
  simp only [step, J4q] at h
  intro N code E a w Q hc hs next
  split at h
  ·rename_i e s2 he
   split at h
   ·rename_i s3 hcl
    injection h with h; subst h
    obtain ⟨h1, h2, g, hi, hr, ht⟩ := hs
    have hs0 : Sim N ⟨s.sto, g, w⟩ s a w := ⟨h1, h2, g, hi, hr, .refl _⟩
    refine (ih _ _ _ he).get (by simpa only [JY] using hc) hs0 fun a' w' hs' => next a' w' ?_
    obtain ⟨q1, q2, g', qi, qr, qt⟩ := hs'
    exact (Jbm (st := s2) (st' := s3) ⟨q1, q2, g', qi, qr, ht.trans qt⟩ hcl ht.len qt.len).1
   ·cases h
  ·cases h
 | br live pre o x y rest =>
  simp only [step] at h
  intro N code E a w Q hc hs next
  unfold JY at hc
  split at hc
  ·rename_i cp cq cx cy cz
   simp only [Bool.and_eq_true] at hc
   obtain ⟨⟨⟨⟨hp, ho⟩, hx⟩, hy⟩, hz⟩ := hc
   split at h
   ·rename_i s1 hpre
    refine wp_seq (wp_seq ((ih _ _ _ hpre).get hp hs fun a1 w1 hs1 => ?_))
    have way : ∀ {c : J07} {code : Code} {r' : Out}, JY P N c code = true → thn (R c s1) (fun s => R rest s) = some r' →
      ∀ {E : Sn} {a : Act} {w : World} {Q : Exit → Act → World → Prop}, Sim N E s1 a w → (∀ a' w', Sim N E r'.2 a' w' → Q (J6k r'.1) a' w') → code.wp P (Exit.then (cz.wp P Q) Q) a w := by
     intro c code r' hc ht E a w Q hs next
     cases hR : R c s1 with
     | none => rw [hR] at ht; cases ht
     | some o =>
      obtain ⟨e, s2⟩ := o
      rw [hR] at ht
      refine (ih _ _ _ hR).get hc hs fun a' w' hs' => ?_
      cases e with
      | normal => exact (ih _ _ _ ht).get hz hs' next
      | exit id => injection ht with ht; subst ht; exact next a' w' hs'
      | ret => injection ht with ht; subst ht; exact next a' w' hs'
    have cway : ∀ {c : J07} {code : Code}, JY P N c code = true → J4q s1.sto.length live (thn (R c s1) fun s => R rest s) = some r → code.wp P (Exit.then (cz.wp P Q) Q) a1 w1 := by
     intro c code hc ht
     unfold J4q at ht
     split at ht
     ·rename_i e s2 he
      split at ht
      ·rename_i s3 hcl
       injection ht with ht; subst ht
       obtain ⟨h1, h2, g, hi, hr, ht⟩ := hs1
       have hs0 : Sim N ⟨s1.sto, g, w1⟩ s1 a1 w1 := ⟨h1, h2, g, hi, hr, .refl _⟩
       refine way hc he hs0 fun a' w' hs' => next a' w' ?_
       obtain ⟨q1, q2, g', qi, qr, qt⟩ := hs'
       exact (Jbm (st := s2) (st' := s3) ⟨q1, q2, g', qi, qr, ht.trans qt⟩ hcl ht.len qt.len).1
      ·cases ht
     ·cases ht
    have hs1' := hs1
    obtain ⟨_, _, g, hi, hr, _⟩ := hs1'
    simp only [J6k, Exit.then]
    split at h
    ·rename_i b hb
     have hrel := Jv (s := ⟨s1.sto, g, w1⟩) (env := s1.env) hr hb ho
     generalize hv : a1.eval cq = v at hrel
     cases hrel with
     | p _ _ hrel =>
      cases hrel with
      | b =>
       refine wp_cond hv ?_
       cases b with
       | true => exact way hx (by simpa using h) hs1 next
       | false => exact way hy (by simpa using h) hs1 next
    ·rename_i hb
     have hrel := Jv (s := ⟨s1.sto, g, w1⟩) (env := s1.env) hr hb ho
     generalize hv : a1.eval cq = v at hrel
     cases hrel with
     | unk t =>
      refine wp_cond hv ?_
      unfold same at h
      split at h
      ·rename_i r1 r2 e1 e2
       split at h
       ·rename_i he
        injection h with h; subst h
        cases t with
        | true => exact cway hx e1
        | false => rw [← he] at e2; exact cway hy e2
       ·cases h
      ·cases h
    ·cases h
   ·cases h
  ·cases hc
theorem Jmv (hmix : P.follows .mixedOrders = true) (hT : ∀ f af, T f = some (.fn af) → Ju P f af = true)
  (hP : ∀ f g, T f = some (.prim g) → ∀ args blks r, g args blks = some r → J2f P f args blks r) (hK : ∀ f k, T f = some (.fork k) → Ju P f k.af = true) : J2P P (AF T) :=
 Jjf (Js9 hmix hT hP hK) hT hP hK
end
end Go.Am
end
