/-
  The abstract machine: its operations are the model's (bytes of strings, append, == of structs).
-/
import Derived.Test.YteiakclfpfmigaaAmOps9
set_option linter.unusedSimpArgs false
set_option linter.unusedVariables false
namespace Go.Am
section
variable {P : Program} {F : Orc} {s : Sn} {a : Act} {env : List (Nat × AV)} {o : Oper} {new : Nat} {e : Eff}

theorem bytes_rowed (l : List UInt8) (c : Array Value) (hc : ∀ (i : Nat) b, l[i]? = some b → c[i]? = some (.int .u8 b.toNat)) (hl : l.length ≤ c.size) : Rowed s 1 (l.map byteRow) c := by
  refine ⟨fun row hr => ?_, by simpa using hl, fun i j row x hi hj => ?_⟩
  · obtain ⟨b, _, rfl⟩ := List.mem_map.1 hr; rfl
  · rw [List.getElem?_map] at hi
    cases hli : l[i]? with
    | none => simp [hli] at hi
    | some b =>
      simp [hli] at hi; subst hi
      have : j = 0 := by have := lt_of_get hj; simp [byteRow] at this; exact this
      subst this
      simp [byteRow] at hj; subst hj
      exact ⟨_, by rw [Nat.mul_one, Nat.add_zero]; exact hc i b hli, .i _ _⟩

theorem flat_at {α : Type} {esz : Nat} : ∀ {rows : List (List α)}, (∀ row ∈ rows, row.length = esz) → ∀ {i j : Nat} {row : List α} {x : α}, rows[i]? = some row → row[j]? = some x → rows.flatten[i * esz + j]? = some x
  | [], _, i, j, row, x, h, _ => by simp at h
  | r0 :: rs, hl, i, j, row, x, h, hx => by
    have hr0 : r0.length = esz := hl r0 (by simp)
    cases i with
    | zero =>
      simp at h; subst h
      have := lt_of_get hx
      simp only [Nat.zero_mul, Nat.zero_add, List.flatten_cons]
      rw [List.getElem?_append_left (by omega)]; exact hx
    | succ i =>
      simp only [List.flatten_cons]
      rw [List.getElem?_append_right (by rw [Nat.add_mul]; omega)]
      have := flat_at (rows := rs) (fun row hm => hl row (by simp [hm])) (by simpa using h) hx
      rw [← this]; congr 1
      rw [Nat.add_mul]; omega

theorem modify_push {h : Array Obj} {x : Obj} (f : Obj → Obj) : (h.push x).modify h.size f = h.push (f x) := by
  apply Array.ext_getElem?
  intro i
  rw [Array.getElem?_modify, Array.getElem?_push, Array.getElem?_push]
  by_cases hi : i = h.size
  · subst hi; simp
  · rw [if_neg (Ne.symm hi), if_neg hi, if_neg hi]

theorem run_strBytes {el : TypeId} (l : List UInt8) (w : World) : ∃ w' cap c fz, (Conv.stringToBytes el ⟨l.toArray⟩).run P w = .ok (.slice (some ⟨w.heap.size, 0, none⟩) l.length cap) w' ∧
    w'.heap = w.heap.push (.cells c el fz) ∧ w'.os = w.os ∧ w'.output = w.output ∧ Free fz 0 c.size ∧ l.length ≤ cap ∧ c.size = cap ∧ ∀ (i : Nat) b, l[i]? = some b → c[i]? = some (.int .u8 b.toNat) := by
  have hf : (Question.appendCap l.length 0 el).forced = false := rfl
  have hcap : l.length ≤ (Question.appendCap l.length 0 el).cut (w.tape w.drawn (.appendCap l.length 0 el)) := by simp [Question.cut]
  generalize hq : (Question.appendCap l.length 0 el).cut (w.tape w.drawn (.appendCap l.length 0 el)) = cap at hcap
  let c : Array Value := (l.toArray.map fun b => Value.int .u8 b.toNat) ++ Array.replicate (cap - l.length) (.int .u8 0)
  have hc : c.size = cap := by simp [c]; omega
  refine ⟨({ w with drawn := w.drawn + 1, heap := w.heap.push (.cells c el) }).freeze { block := w.heap.size, off := c.size } 1, cap, c, (c.size, c.size + 1), ?_, ?_, ?_, ?_, ?_, hcap, hc, ?_⟩
  · unfold Conv.stringToBytes
    have hs : ByteArray.size ⟨l.toArray⟩ = l.length := bs_size l
    have hsh : World.shape? { w with drawn := w.drawn + 1, heap := w.heap.push (.cells c el) } w.heap.size = some (el, c.size) := by simp [World.shape?]
    have he : (Array.map (fun b => Value.int IntKind.u8 ↑(UInt8.toNat b)) l.toArray ++ Array.replicate (cap - l.length) (Value.int IntKind.u8 0)) = c := rfl
    simp only [Sem.run_bind, run_choose, hs, hf, Bool.false_eq_true, if_false, Result.andThen_ok, hq, newRow, run_newObj, Sem.run_pure, markStringish, run_shape, run_freeze, he, hsh]
  · unfold World.freeze
    simp only [Nat.one_ne_zero, if_false]
    rw [modify_push]
    simp
  · unfold World.freeze; simp
  · unfold World.freeze; simp
  · intro o _ h; simp; omega
  · intro i b hb
    have hlt := lt_of_get hb
    rw [List.getElem?_eq_getElem hlt] at hb
    injection hb with hb
    simp [c, Array.getElem?_append, hlt, hb]

theorem ok_toBytes (hi : Inv s) (he : EnvRel s a.tmps env) {own x} (hn : own = true → s.σ[new]? = some .dead) (h : (opR F (.conv (.toBytes own) x) new).run ⟨env, s.σ⟩ = some e)
    (hc : chkOp P (.conv (.toBytes own) x) o.op = true) : OpOk P o a s e := by
  simp only [opR] at h
  obtain ⟨u, h1, h'⟩ := bind_some h
  clear h
  unfold chkOp at hc
  simp only at hc
  split at hc
  · rename_i src dst y hop
    simp only [Bool.and_eq_true] at hc
    obtain ⟨hx, hs, ht⟩ := hc
    have rx := ev_rel he h1 hx
    split at ht
    · rename_i el hel
      simp only [Bool.and_eq_true, beq_iff_eq] at ht
      have hu' : ∃ l, u = .p (.s l) ∧ (if own = true then RM.ret ⟨.slr new 0 l.length, [(new, .arr true 1 (l.map byteRow))]⟩ else RM.ret ⟨.p (.sl 1 (l.map byteRow)), []⟩ : RM Eff).run ⟨env, s.σ⟩ = some e := by
        cases u with
        | p c => cases c with
          | s l => exact ⟨l, rfl, h'⟩
          | _ => cases h'
        | _ => cases h'
      clear h'
      obtain ⟨l, rfl, h'⟩ := hu'
      · skip
        obtain ⟨w', cap, c, fz, hrun, hh, ho, hp, hf, hcap, hcs, hg⟩ := run_strBytes (P := P) (el := el) l s.w
        have ex := relA_s rx
        have hex : (execOp a.eval o).run P s.w = .ok (.value (.slice (some ⟨s.w.heap.size, 0, none⟩) l.length cap)) w' := by
          simp [execOp, hop, ex, convert, run_underlying (isStr_iff hs), run_underlying (elT_some hel), run_underlying (isU8_iff ht.1), hrun]
        have hrow := bytes_rowed (s := s) l c hg (by omega)
        split at h'
        · rename_i hown
          simp only [RM.run] at h'; injection h' with h'; subst h'
          obtain ⟨g', i', t', r'⟩ := new_rows hi (hn hown) hh ho hp hf hrow (cap := cap) (by simpa using hcap) (by omega)
          simp only [List.length_map] at r'
          exact opOk_val hex i' t' r'
        · simp only [RM.run] at h'; injection h' with h'; subst h'
          obtain ⟨g', i', t', r'⟩ := new_const hi hh ho hp hrow (cap := cap) (by simpa using hcap)
          simp only [List.length_map] at r'
          exact opOk_val (e := ⟨_, []⟩) hex i' t' r'
    · cases ht
  · cases hc

/-- What is appended, as the model sees it. -/
theorem src_of (hi : Inv s) {esz : Nat} {x : AV} {new : List (List PV)} {v : Value} {u : TypeId} (h : (rowsOf esz x).run ⟨env, s.σ⟩ = some new) (hr : RelA s x v)
    (hu : (elT P u).isSome = true ∨ isStr P u = true) :
    ∃ news, Src P esz u v new.length news s.w ∧ (∀ row ∈ new, row.length = esz) ∧
      ∀ (i j : Nat) row y, new[i]? = some row → row[j]? = some y → ∃ q, news[i * esz + j]? = some q ∧ RelP s.w s.g.C y q := by
  have kind : (∃ e', P.underlying u = some (.slice e')) ∨ P.underlying u = some .string := by
    rcases hu with hu | hu
    · obtain ⟨e', he'⟩ := Option.isSome_iff_exists.1 hu
      exact .inl ⟨e', elT_some he'⟩
    · exact .inr (isStr_iff hu)
  rcases rowsOf_rel hi h hr with ⟨l, rfl, rfl, rfl, rfl⟩ | hsl
  · have hlen : (byteCells ⟨l.toArray⟩).length = l.length := by rw [byteCells_length, bs_size]
    have hfc : ∀ w : World, (Builtin.firstCells 1 l.length (.string ⟨l.toArray⟩)).run P w = .ok (byteCells ⟨l.toArray⟩).toArray w := by
      intro w
      have := firstCells_string (P := P) ⟨l.toArray⟩ w
      rwa [bs_size] at this
    refine ⟨byteCells ⟨l.toArray⟩, ⟨kind, fun w => by rw [List.length_map, ← bs_size]; rfl, by rw [List.length_map]; exact hfc _, by rw [List.length_map]; exact hfc _, by rw [hlen]; simp, fun q hq => by
      obtain ⟨_, _, rfl⟩ := List.mem_map.1 hq
      rfl⟩, fun row hr => ?_, ?_⟩
    · obtain ⟨b, _, rfl⟩ := List.mem_map.1 hr; rfl
    · have := (bytes_rowed (s := s) l (byteCells ⟨l.toArray⟩).toArray (fun i b hb => by
        simp [byteCells, hb]) (by simp [byteCells])).2.2
      intro i j row y h1 h2
      obtain ⟨q, hq, hr⟩ := this i j row y h1 h2
      exact ⟨q, by simpa using hq, hr⟩
  · obtain ⟨ad, cap, vs, hv, hcap, hlen, hrel, hmem, hrow⟩ := hsl.cells
    have hone : ∀ q ∈ vs, q.oneCell' = true := by
      intro q hq
      obtain ⟨k, hk⟩ := List.getElem?_of_mem hq
      have hlt := lt_of_get hk
      have : k < new.flatten.length := by rw [flat_len hrow]; omega
      obtain ⟨q', hq', hr⟩ := hrel k _ (List.getElem?_eq_getElem this)
      rw [hk] at hq'; injection hq' with hq'; subst hq'; exact hr.one
    have hget : ∀ (i j : Nat) row y, new[i]? = some row → row[j]? = some y → ∃ q, vs[i * esz + j]? = some q ∧ RelP s.w s.g.C y q := by
      intro i j row y h1 h2
      refine hrel _ _ ?_
      clear hrel hmem hlen hone h hr hv hcap hsl
      induction new generalizing i with
      | nil => simp at h1
      | cons r0 new ih =>
        have hr0 : r0.length = esz := hrow r0 (by simp)
        cases i with
        | zero =>
          simp at h1; subst h1
          have := lt_of_get h2
          simp only [Nat.zero_mul, Nat.zero_add, List.flatten_cons]
          rw [List.getElem?_append_left (by omega)]; exact h2
        | succ i =>
          simp only [List.flatten_cons]
          rw [List.getElem?_append_right (by rw [Nat.add_mul]; omega)]
          have := ih (fun row hm => hrow row (by simp [hm])) i (by simpa using h1)
          rw [← this]; congr 1
          rw [Nat.add_mul]; omega
    subst hv
    rcases hmem with hnil | ⟨r, o', rfl, hm⟩
    · subst hnil
      simp at hlen; subst hlen
      refine ⟨[], ?_, hrow, hget⟩
      cases ad with
      | none => exact ⟨kind, fun _ => rfl, run_firstCells_none s.w esz 0 0 cap, run_firstCells_none s.w.drew esz 0 0 cap, by simp, fun _ h => by cases h⟩
      | some ad => exact ⟨kind, fun _ => rfl, run_firstCells_some s.w esz 0 ad 0 cap [] (by simp) (fun j u h => by simp at h), run_firstCells_some s.w.drew esz 0 ad 0 cap [] (by simp) (fun j u h => by simp at h), by simp, fun _ h => by cases h⟩
    · have hm' : ∀ j q, vs[j]? = some q → s.w.cell? (Addr.add ⟨r, o', none⟩ j) = some q := fun j q hj => by rw [add_addr, cell_at]; exact hm j q hj
      exact ⟨vs, ⟨kind, fun _ => rfl, run_firstCells_some s.w esz _ _ _ cap vs hlen hm', run_firstCells_some s.w.drew esz _ _ _ cap vs hlen (by simpa using hm'), hlen, hone⟩, hrow, hget⟩

theorem setCells_os : ∀ (vs : List Value) (w : World) (r o : Nat), (w.setCells r o vs).os = w.os ∧ (w.setCells r o vs).output = w.output
  | [], _, _, _ => ⟨rfl, rfl⟩
  | v :: vs, w, r, o => by
    obtain ⟨h1, h2⟩ := setCells_os vs (w.setCell ⟨r, o, none⟩ v) r (o + 1)
    exact ⟨h1, h2⟩

theorem upd_one (b : Nat) (x : Blk) (σ : List Blk) : upd [(b, x)] σ = σ.set b x := rfl

theorem app_core (hi : Inv s) {esz bytes : Nat} {zero : List PV} {u v : AV} {c : Call} {x' y' : Operand} {t ut el : TypeId} (hop : o.op = .call c) (hcal : c.callee = .builtin .append)
    (hargs : c.args.toList = [x', y']) (htys : c.argTypes.toList = [t, ut]) (hut : ((elT P ut).isSome || isStr P ut) = true) (hel : elT P t = some el)
    (ht : (szT P el == some esz && byT P el == some bytes && zeOk P zero el && zero.length == esz && decide (0 < esz) && decide (0 < bytes)) = true)
    (rx : RelA s u (a.eval x')) (ry : RelA s v (a.eval y')) (h'' : (appR esz bytes u v).run ⟨env, s.σ⟩ = some e) : OpOk P o a s e := by
  simp only [Bool.and_eq_true, beq_iff_eq, decide_eq_true_eq] at ht
  obtain ⟨⟨⟨⟨⟨hs, hby⟩, hz⟩, hzl⟩, hpos⟩, hbpos⟩ := ht
  obtain ⟨i, hinf, hsz⟩ := info_of hs
  obtain ⟨z, hz1, hz2, hz3⟩ := zeOk_cells hz
  have hbytes := bytes_of hby hinf
  have hzero := zero_of hz1 hinf
  have hm : c.args.map a.eval = #[a.eval x', a.eval y'] := by apply Array.ext'; simp [hargs]
  have hty : c.argTypes = #[t, ut] := by apply Array.ext'; rw [htys]
  have hex : ∀ {q : Value} {w' : World}, (Builtin.append_ #[t, ut] o.type #[a.eval x', a.eval y']).run P s.w = .ok q w' → (execOp a.eval o).run P s.w = .ok (.value q) w' := by
    intro q w' hr
    simp [execOp, hop, resolve, hcal, hm, hty, invoke, builtin, hr]
  unfold appR at h''
  split at h''
  · rename_i b j n
    simp only [RM.run] at h''
    split at h''
    · rename_i blk hb
      split at h''
      · rename_i wm esz' rows
        obtain ⟨new', h3, h4⟩ := bind_some h''
        clear h''
        split at h4
        · rename_i hcond
          obtain ⟨rfl, rfl, rfl, hroom⟩ := hcond
          simp only [RM.run] at h4; injection h4 with h4; subst h4
          have hb : s.σ[b]? = some (.arr wm esz rows) := hb
          have hroom : (2 * (rows.length + new'.length) + 512) * bytes ≤ 281474976710656 := by simpa [roomy] using hroom
          have hneed : rows.length + new'.length ≤ 281474976710656 := by
            have h5 : (2 * (rows.length + new'.length) + 512) * 1 ≤ (2 * (rows.length + new'.length) + 512) * bytes := Nat.mul_le_mul_left _ hbpos
            omega
          obtain ⟨news, hsrc, hnrow, hnget⟩ := src_of (u := ut) hi h3 ry (Bool.or_eq_true_iff.1 hut)
          rw [← hsz] at hsrc
          have hnl := hsrc.newsLen
          rw [hsz] at hnl
          have hslx := SlRel.of_slr hi rx hb (by omega)
          simp only [List.drop_zero] at hslx
          generalize hzz : a.eval x' = zz at rx
          have hfit : ∀ {old : Nat}, old < rows.length + new'.length → Builtin.nextslicecap (rows.length + new'.length) old * i.bytes ≤ 281474976710656 := by
            intro old ho
            have h5 := nextslicecap_le ho
            rw [hbytes]
            have h6 : Builtin.nextslicecap (rows.length + new'.length) old * bytes ≤ (2 * (rows.length + new'.length) + 512) * bytes := Nat.mul_le_mul_right _ (by omega)
            omega
          -- where there is no room
          have grow : ∀ {base : Option Addr} {cap : Nat}, zz = .slice base rows.length cap → cap < rows.length + new'.length →
              OpOk P o a s ⟨.slr b 0 (rows.length + new'.length), [(b, .arr wm esz (rows ++ new'))]⟩ := by
            intro base cap hzv hlt
            rw [hzz] at hslx
            obtain ⟨ad, cap', vs, hv, hcap', hvlen, hvrel, hvmem, hvrow⟩ := hslx.cells
            rw [hzv] at hv
            injection hv with v1 v2 v3; subst v1 v3
            have hold : (Builtin.firstCells i.size rows.length (.slice base rows.length cap)).run P s.w.drew = .ok vs.toArray s.w.drew := by
              rw [hsz]
              rcases hvmem with hnil | ⟨r, o', rfl, hvm⟩
              · subst hnil
                simp at hvlen; subst hvlen
                cases base with
                | none => exact run_firstCells_none s.w.drew esz 0 0 cap
                | some ad => exact run_firstCells_some s.w.drew esz 0 ad 0 cap [] (by simp) (fun j u h => by simp at h)
              · exact run_firstCells_some s.w.drew esz _ _ _ cap vs hvlen (fun j q hj => by
                  have : s.w.drew.cell? (Addr.add ⟨r, o', none⟩ j) = s.w.cell? (Addr.add ⟨r, o', none⟩ j) := by simp
                  rw [this, add_addr, cell_at]; exact hvm j q hj)
            have hrun := run_append_grow_src (P := P) s.w t ut o.type el i z (elT_some hel) hinf hzero base rows.length cap vs hold (a.eval y') new'.length news hsrc hlt (by omega) (hfit hlt)
            have hge : rows.length + new'.length ≤ grownCap s.w (rows.length + new'.length) cap el := by unfold grownCap; simp [Question.cut]
            generalize grownCap s.w (rows.length + new'.length) cap el = nc at hrun hge
            have hne : new' ≠ [] := by rintro rfl; simp at hlt; omega
            have hzs : z.cells.size = esz := by omega
            obtain ⟨i0, t0⟩ := same_heap (w' := s.w.drew) hi rfl rfl rfl
            have hcsz : ((vs ++ news).toArray ++ Builtin.zeroCells z.cells (nc - (rows.length + new'.length))).size = nc * esz := by
              have : nc * esz = (rows.length + new'.length) * esz + (nc - (rows.length + new'.length)) * esz := by rw [← Nat.add_mul]; congr 1; omega
              rw [this, Nat.add_mul]
              simp [size_zeroCells, hvlen, hnl, hzs]
            obtain ⟨g', hμ, i', t'⟩ := grow_new (s0 := ⟨s.σ, s.g, s.w.drew⟩) i0 (w' := s.w.drew.alloc (.cells ((vs ++ news).toArray ++ Builtin.zeroCells z.cells (nc - (rows.length + new'.length))) el)) hb hne hvrow hnrow rfl rfl rfl
              (by rw [hcsz]; exact Nat.mul_le_mul_right _ hge) (fun k m row q hk hq => by
                have hm0 := lt_of_get hq
                rcases get_app hk with hk | ⟨hgek, hk⟩
                · have hk0 := lt_of_get hk
                  rw [hvrow row (mem_of_get hk)] at hm0
                  have hlt' := idx_lt hk0 hm0
                  have hfl := flat_at hvrow hk hq
                  obtain ⟨w, hw, hrel⟩ := hvrel _ q hfl
                  refine ⟨w, ?_, hrel.mono hi t0⟩
                  rw [Array.getElem?_append_left (by simp; omega)]
                  simp
                  rw [List.getElem?_append_left (by omega)]; exact hw
                · rw [hnrow row (mem_of_get hk)] at hm0
                  have hk0 := lt_of_get hk
                  have hlt' := idx_lt hk0 hm0
                  obtain ⟨w, hw, hrel⟩ := hnget _ m row q hk hq
                  have e4 : k * esz + m = rows.length * esz + ((k - rows.length) * esz + m) := by
                    rw [← Nat.add_assoc, ← Nat.add_mul, Nat.add_sub_cancel' hgek]
                  refine ⟨w, ?_, hrel.mono hi t0⟩
                  rw [Array.getElem?_append_left (by simp; omega)]
                  simp
                  rw [List.getElem?_append_right (by omega), ← hw]; congr 1; omega)
            refine opOk_val (e := ⟨.slr b 0 (rows.length + new'.length), [(b, .arr wm esz (rows ++ new'))]⟩) (g' := g') (hex (by rw [hzz, hzv]; exact hrun)) i' (t0.trans t') ?_
            refine .slr b 0 _ _ wm esz (rows ++ new') ⟨_, _, rfl, .inr (by simp)⟩ (get_set_self hb) (by simp) fun _ => .inr ⟨_, nc, _, el, (0, 0), hμ, by simp, hge, push_last rfl, ?_⟩
            rw [Nat.zero_add, hcsz]; exact Nat.le_refl _
          cases rx with
          | slr _ _ _ _ wm' esz' rows' q0 q1 q2 q3 =>
            have q1 : s.σ[b]? = some (.arr wm' esz' rows') := q1
            rw [hb] at q1; injection q1 with q1; injection q1 with a1 a2 a3; subst a1 a2 a3
            rcases q3 (by omega) with ⟨m', _, hn0, hv⟩ | ⟨r, cap, cc, e1, fz, m', hv, hcap, hh, hsz'⟩
            · have hrnil : rows = [] := List.eq_nil_of_length_eq_zero hn0
              subst hrnil
              by_cases hnew : new' = []
              · subst hnew
                simp at hnl; subst hnl
                subst hv
                have hrun : (Builtin.append_ #[t, ut] o.type #[.slice none 0 0, a.eval y']).run P s.w = .ok (.slice none 0 0) s.w := by
                  have hl := hsrc.len s.w
                  have hcl := hsrc.cells
                  rcases hsrc.kind with ⟨e', hk⟩ | hk
                  · simp [Builtin.append_, run_underlying (elT_some hel), run_underlying hk, run_size hs, hl, hsz] ; rw [hsz] at hcl; simp at hcl; simp [hcl]
                  · simp [Builtin.append_, run_underlying (elT_some hel), run_underlying hk, run_size hs, hl, hsz] ; rw [hsz] at hcl; simp at hcl; simp [hcl]
                have hset : s.σ.set b (.arr wm esz []) = s.σ := by
                  apply List.ext_getElem?
                  intro k
                  by_cases hk : k = b
                  · subst hk; rw [get_set_self hb, hb]
                  · rw [get_set_ne (Ne.symm hk)]
                refine opOk_val (e := ⟨.slr b 0 0, [(b, .arr wm esz [])]⟩) (g' := s.g) (hex (by rw [hzz]; exact hrun)) ?_ ?_ ?_
                · rw [upd_one, hset]; exact hi
                · rw [upd_one, hset]; exact .refl s
                · rw [upd_one, hset]
                  exact .slr b 0 0 _ wm esz [] ⟨none, 0, rfl, .inl rfl⟩ hb (Nat.le_refl _) fun _ => .inl ⟨m', rfl, rfl, rfl⟩
              · refine grow (cap := 0) hv ?_
                have := List.length_pos_iff.2 hnew
                simpa using this
            · subst hv
              by_cases hfits : rows.length + new'.length ≤ cap
              · rcases hi.arr b _ _ _ hb with ⟨m'', _⟩ | ⟨r', c', e', fz', m'', hh', hrow, hlen, hxx, hff⟩
                · rw [m'] at m''; cases m''
                · rw [m'] at m''; injection m'' with m''; injection m'' with m'' _; subst m''
                  rw [hh] at hh'; injection hh' with hh'; injection hh' with w1 w2 w3; subst w1 w2 w3
                  have hbnd : (rows.length + new'.length) * esz ≤ cc.size := by
                    have := Nat.mul_le_mul_right esz hfits
                    simp at hsz'; omega
                  have hadd : (rows.length + new'.length) * esz = rows.length * esz + new'.length * esz := Nat.add_mul _ _ _
                  have hput := put_setCells (vs := news) (o := rows.length * esz) hh (by omega)
                  obtain ⟨i', t'⟩ := grow_in hi hb m' hnrow hput hnl hnget
                  have hrun := run_append_room_src (P := P) s.w t ut o.type el i (elT_some hel) hinf r 0 rows.length cap (a.eval y') new'.length news hsrc hfits
                    (fun k hk => by rw [cell_at, cellAt_of hh, hsz]; simp; omega)
                    (fun k hk => by
                      have := hff (0 + rows.length * esz + k) (by omega) (by omega)
                      rw [hsz]
                      simp only [World.frozen?, hh]
                      simpa using this)
                  rw [hsz] at hrun
                  simp only [Nat.zero_add] at hrun
                  obtain ⟨c0, e0, fz0, c'', p1, p2, p3, p4, p5, p6⟩ := hput.there
                  rw [hh] at p1; injection p1 with p1; injection p1 with w1 w2 w3; subst w1 w2 w3
                  refine opOk_val (e := ⟨.slr b 0 (rows.length + new'.length), [(b, .arr wm esz (rows ++ new'))]⟩) (hex (by rw [hzz]; simpa using hrun)) i' t' ?_
                  refine .slr b 0 _ _ wm esz (rows ++ new') ⟨_, _, rfl, .inr (by simp)⟩ (get_set_self hb) (by simp) fun _ => .inr ⟨r, cap, c'', e1, fz, m', by simp, hfits, p2, by rw [p3]; simpa using hsz'⟩
              · exact grow (cap := cap) rfl (by omega)
        · cases h4
      · cases h''
    · cases h''
  · cases h''

theorem ok_app (hi : Inv s) (he : EnvRel s a.tmps env) {esz bytes zero x y} (h : (opR F (.app esz bytes zero x y) new).run ⟨env, s.σ⟩ = some e) (hc : chkOp P (.app esz bytes zero x y) o.op = true) : OpOk P o a s e := by
  simp only [opR] at h
  obtain ⟨u, h1, h'⟩ := bind_some h
  obtain ⟨v, h2, h''⟩ := bind_some h'
  clear h h'
  unfold chkOp at hc
  simp only at hc
  split at hc
  · rename_i c hop
    split at hc
    · rename_i hcal
      split at hc
      · rename_i x' y' t ut hargs htys
        simp only [Bool.and_eq_true] at hc
        obtain ⟨⟨⟨hx, hy⟩, hut⟩, ht⟩ := hc
        split at ht
        · rename_i el hel
          exact app_core hi hop hcal hargs htys hut hel (by simpa only [Bool.and_eq_true] using ht) (ev_rel he h1 hx) (ev_rel he h2 hy) h''
        · cases ht
      · cases hc
    · cases hc
  · cases hc

theorem ok_appn (hi : Inv s) (he : EnvRel s a.tmps env) (hn : s.σ[new]? = some .dead) {esz bytes zero y} (h : (opR F (.appn esz bytes zero y) new).run ⟨env, s.σ⟩ = some e) (hc : chkOp P (.appn esz bytes zero y) o.op = true) : OpOk P o a s e := by
  simp only [opR] at h
  obtain ⟨v, h2, h'⟩ := bind_some h
  obtain ⟨rows, h3, h4⟩ := bind_some h'
  clear h h'
  unfold chkOp at hc
  simp only at hc
  split at hc
  · rename_i c hop
    split at hc
    · rename_i hcal
      split at hc
      · rename_i y' t ut hargs htys
        simp only [Bool.and_eq_true] at hc
        obtain ⟨⟨hy, hut⟩, ht⟩ := hc
        split at ht
        · rename_i el hel
          split at h4
          · rename_i hroom
            simp only [RM.run] at h4; injection h4 with h4; subst h4
            obtain ⟨i1, t1⟩ := nil_new hi hn esz
            have hself : (s.σ.set new (.arr true esz []))[new]? = some (.arr true esz []) := get_set_self hn
            have rx : RelA ⟨s.σ.set new (.arr true esz []), newμ s.g new none, s.w⟩ (.slr new 0 0) (a.eval (.const (.slice none 0 0))) :=
              .slr new 0 0 _ true esz [] ⟨none, 0, rfl, .inl rfl⟩ hself (Nat.le_refl _) fun _ => .inl ⟨if_pos rfl, rfl, rfl, rfl⟩
            have ry := (ev_rel he h2 hy).mono hi t1
            have h3' : (rowsOf esz v).run ⟨env, s.σ.set new (.arr true esz [])⟩ = some rows := by
              cases v with
              | slr b i n =>
                simp only [rowsOf, RM.run] at h3 ⊢
                by_cases hb : b = new
                · subst hb; rw [hn] at h3; cases h3
                · rw [get_set_ne (Ne.symm hb)]
                  cases hq : s.σ[b]? with
                  | none => rw [hq] at h3; cases h3
                  | some B =>
                    rw [hq] at h3
                    cases B with
                    | arr w z rw' =>
                      simp only at h3 ⊢
                      split at h3
                      · rename_i hh; rw [if_pos hh]; exact h3
                      · cases h3
                    | _ => cases h3
              | p c => cases c <;> simp only [rowsOf] at h3 ⊢ <;> first | exact h3 | (split at h3 <;> rename_i hh <;> first | (rw [if_pos hh]; exact h3) | cases h3) | cases h3
              | _ => cases h3
            have happ : (appR esz bytes (.slr new 0 0) v).run ⟨env, s.σ.set new (.arr true esz [])⟩ = some ⟨.slr new 0 rows.length, [(new, .arr true esz rows)]⟩ := by
              simp only [appR, RM.run, hself, run_bind, h3', Option.bind_some, List.length_nil, Nat.zero_add, List.nil_append]
              rw [if_pos ⟨by trivial, by trivial, by trivial, hroom⟩]; rfl
            have ok := app_core (s := ⟨s.σ.set new (.arr true esz []), newμ s.g new none, s.w⟩) i1 hop hcal hargs htys hut hel (by simpa only [Bool.and_eq_true] using ht) rx ry happ
            intro next Q hnext
            refine ok next Q fun v' w' g' hi' ht' hr' => ?_
            have eσ : upd [(new, Blk.arr true esz rows)] (s.σ.set new (.arr true esz [])) = upd [(new, Blk.arr true esz rows)] s.σ := by
              simp only [upd_one, List.set_set]
            simp only at hi' ht' hr'
            rw [eσ] at hi' ht' hr'
            exact hnext v' w' g' hi' (t1.trans ht') hr'
          · cases h4
        · cases ht
      · cases hc
    · cases hc
  · cases hc

end
end Go.Am
