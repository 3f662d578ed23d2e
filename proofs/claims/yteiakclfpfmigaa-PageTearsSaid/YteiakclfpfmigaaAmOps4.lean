/-
  The abstract machine: its operations are the model's (conversions, indexes, slices, loads).
-/
import Derived.Test.YteiakclfpfmigaaAmOps3
set_option linter.unusedSimpArgs false
set_option linter.unusedVariables false
namespace Go.Am
section
variable {P : Program} {F : Orc} {s : Sn} {a : Act} {env : List (Nat × AV)} {o : Oper} {new : Nat} {e : Eff}

theorem SlRel.of_p {s : Sn} {esz rows v} (h : RelA s (.p (.sl esz rows)) v) : SlRel s esz rows v := by
  cases h with | p _ _ h => exact .of_sl h

/-- The rows that a value gives. -/
theorem rowsOf_rel (hi : Inv s) {esz : Nat} {x : AV} {rows : List (List PV)} {v : Value} (h : (rowsOf esz x).run ⟨env, s.σ⟩ = some rows) (hr : RelA s x v) :
    (∃ l, x = .p (.s l) ∧ esz = 1 ∧ rows = l.map byteRow ∧ v = .string ⟨l.toArray⟩) ∨ SlRel s esz rows v := by
  unfold rowsOf at h
  split at h
  · split at h
    · rename_i he; subst he
      simp only [RM.run] at h; injection h with h; subst h
      exact .inr (.of_p hr)
    · cases h
  · split at h
    · rename_i l he
      simp only [RM.run] at h; injection h with h; subst h
      exact .inl ⟨l, rfl, he, rfl, relA_s hr⟩
    · cases h
  · simp only [RM.run] at h
    split at h
    · rename_i blk hb
      split at h
      · split at h
        · rename_i hc
          obtain ⟨rfl, hc⟩ := hc
          simp only [RM.run] at h; injection h with h; subst h
          exact .inr (.of_slr hi hr hb hc)
        · cases h
      · cases h
    · cases h
  · cases h

/-- The cells of rows, one after the other. -/
theorem flat_get {α : Type} {esz : Nat} : ∀ {rows : List (List α)}, (∀ row ∈ rows, row.length = esz) → ∀ {k : Nat} {x : α}, rows.flatten[k]? = some x →
    ∃ i j row, k = i * esz + j ∧ rows[i]? = some row ∧ row[j]? = some x ∧ j < esz
  | [], _, k, x, h => by simp at h
  | r :: rows, hl, k, x, h => by
    simp only [List.flatten_cons] at h
    have hr : r.length = esz := hl r (by simp)
    rcases List.getElem?_append (l₁ := r) (l₂ := rows.flatten) (i := k) ▸ h with h'
    split at h'
    · exact ⟨0, k, r, by simp, rfl, h', by omega⟩
    · obtain ⟨i, j, row, e1, e2, e3, e4⟩ := flat_get (fun row hm => hl row (by simp [hm])) h'
      exact ⟨i + 1, j, row, by rw [Nat.add_mul]; omega, by simpa using e2, e3, e4⟩

theorem flat_len {α : Type} {esz : Nat} : ∀ {rows : List (List α)}, (∀ row ∈ rows, row.length = esz) → rows.flatten.length = rows.length * esz
  | [], _ => by simp
  | r :: rows, hl => by
    have := flat_len (rows := rows) (fun row hm => hl row (by simp [hm]))
    have h1 := hl r (by simp)
    simp [this, h1, Nat.add_mul]; omega

/-- The cells behind a slice, as the model reads them. -/
theorem SlRel.cells {s : Sn} {esz rows v} (h : SlRel s esz rows v) :
    ∃ (a : Option Addr) (cap : Nat) (vs : List Value), v = .slice a rows.length cap ∧ rows.length ≤ cap ∧ vs.length = rows.length * esz ∧
      (∀ (k : Nat) x, rows.flatten[k]? = some x → ∃ u, vs[k]? = some u ∧ RelP s.w s.g.C x u) ∧
      (rows = [] ∨ ∃ r o, a = some ⟨r, o, none⟩ ∧ ∀ (k : Nat) u, vs[k]? = some u → cellAt s.w r (o + k) = some u) ∧ (∀ row ∈ rows, row.length = esz) := by
  obtain ⟨a, cap, h1, h2, h3, h4⟩ := h
  rcases h4 with rfl | ⟨r, o, ha, hx⟩
  · exact ⟨a, cap, [], h1, h2, by simp, fun k x hk => by simp at hk, .inl rfl, h3⟩
  · refine ⟨a, cap, (List.range (rows.length * esz)).map fun k => (cellAt s.w r (o + k)).getD .nilFunc, h1, h2, by simp, fun k x hk => ?_, .inr ⟨r, o, ha, fun k u hk => ?_⟩, h3⟩
    · obtain ⟨i, j, row, e1, e2, e3, _⟩ := flat_get h3 hk
      obtain ⟨u, hu, hr⟩ := hx i j row x e2 e3
      have hlt := lt_of_get hk
      rw [flat_len h3] at hlt
      refine ⟨u, ?_, hr⟩
      rw [List.getElem?_map, List.getElem?_range hlt]
      have : o + k = o + i * esz + j := by omega
      simp [this, hu]
    · have hlt := lt_of_get hk
      simp at hlt
      rw [List.getElem?_map, List.getElem?_range hlt] at hk
      simp at hk
      have : k < rows.flatten.length := by rw [flat_len h3]; exact hlt
      obtain ⟨i, j, row, e1, e2, e3, _⟩ := flat_get h3 (List.getElem?_eq_getElem this)
      obtain ⟨u', hu, _⟩ := hx i j row _ e2 e3
      have e4 : o + k = o + i * esz + j := by omega
      rw [e4, hu] at hk ⊢
      simpa using hk

theorem bytesOf_some : ∀ {rows : List (List PV)} {l : List UInt8}, bytesOf rows = some l → ∃ ns : List Int, rows = ns.map (fun n => [PV.i .u8 n]) ∧ l = ns.map fun n => UInt8.ofNat n.toNat
  | [], l, h => by simp [bytesOf] at h; exact ⟨[], rfl, by simp [h]⟩
  | row :: rows, l, h => by
    unfold bytesOf at h
    split at h
    · simp_all
    · rename_i n r heq
      injection heq with e1 e2; subst e1 e2
      split at h
      · rename_i l' hl'
        injection h with h; subst h
        obtain ⟨ns, h1, h2⟩ := bytesOf_some hl'
        exact ⟨n :: ns, by simp [h1], by simp [h2]⟩
      · cases h
    · cases h

theorem foldl_push (ns : List Int) : ∀ b : ByteArray, (ns.foldl (fun r n => r.push (UInt8.ofNat n.toNat)) b) = ⟨b.data ++ (ns.map fun n => UInt8.ofNat n.toNat).toArray⟩ := by
  induction ns with
  | nil => intro b; simp
  | cons n ns ih =>
    intro b
    simp only [List.foldl_cons, ih]
    apply ByteArray.ext
    apply Array.ext'
    simp [ByteArray.push]

theorem add_addr (r o n : Nat) : Addr.add ⟨r, o, none⟩ n = ⟨r, o + n, none⟩ := by unfold Addr.add; split <;> simp_all

theorem run_loads {w : World} {r o : Nat} (vs : List Value) (h : ∀ (k : Nat) u, vs[k]? = some u → cellAt w r (o + k) = some u) :
    (loadCells ⟨r, o, none⟩ vs.length).run P w = .ok vs.toArray w :=
  run_loadCells_list w _ vs fun j v hj => by rw [add_addr, cell_at]; exact h j v hj

theorem ok_conv (hi : Inv s) (he : EnvRel s a.tmps env) {k x} (hk : ∀ own, k ≠ .toBytes own) (h : (opR F (.conv k x) new).run ⟨env, s.σ⟩ = some e) (hc : chkOp P (.conv k x) o.op = true) : OpOk P o a s e := by
  simp only [opR] at h
  obtain ⟨u, h1, h'⟩ := bind_some h
  clear h
  unfold chkOp at hc
  simp only at hc
  split at hc
  · rename_i src dst y hop
    simp only [Bool.and_eq_true] at hc
    obtain ⟨hx, ht⟩ := hc
    have rx := ev_rel he h1 hx
    generalize hz : a.eval y = z at rx
    split at h'
    · rename_i k' k1 n
      simp only [RM.run] at h'; injection h' with h'; subst h'
      simp only [Bool.and_eq_true] at ht
      obtain ⟨ks, hs⟩ := isInt_iff ht.1
      have hd := isIntK_iff ht.2
      have := relA_i rx; subst this
      exact opOk_pure hi (v := .int k' (k'.wrap n)) (by simp [execOp, hop, hz, convert, run_underlying hs, run_underlying hd, Conv.intToInt]) (relA_i' _ _)
    · rename_i l
      simp only [RM.run] at h'; injection h' with h'; subst h'
      simp only [Bool.and_eq_true] at ht
      have hs := isStr_iff ht.1
      have hd := isStr_iff ht.2
      have := relA_s rx; subst this
      exact opOk_pure hi (v := .string ⟨l.toArray⟩) (by simp [execOp, hop, hz, convert, run_underlying hs, run_underlying hd]) (relA_s' _)
    · simp only [Bool.and_eq_true] at ht
      obtain ⟨ht, hd⟩ := ht
      have hd := isStr_iff hd
      split at ht
      · rename_i el hel
        simp only [Bool.and_eq_true, beq_iff_eq] at ht
        have hs := elT_some hel
        have hu8 := isU8_iff ht.1
        obtain ⟨rows, h4, h5⟩ := bind_some h'
        clear h'
        split at h5
        · rename_i l hl
          simp only [RM.run] at h5; injection h5 with h5; subst h5
          rcases rowsOf_rel hi h4 rx with ⟨l', rfl, _, hrows, hv⟩ | hsl
          · -- a string where a slice is wanted: its rows are bytes, and the conversion is the model's own
            have := relA_s rx; subst this
            have : l = l' := by
              have : ∀ l : List UInt8, bytesOf (l.map byteRow) = some l := by
                intro l
                induction l with
                | nil => rfl
                | cons b l ih => simp [bytesOf, byteRow, ih]
              rw [hrows, this] at hl
              injection hl with hl; exact hl.symm
            subst this
            exact opOk_pure hi (v := .string ⟨l.toArray⟩) (by simp [execOp, hop, hz, convert, run_underlying hs, run_underlying hd]) (relA_s' _)
          · obtain ⟨ad, cap, vs, hv, hcap, hlen, hrel, hmem, hrow⟩ := hsl.cells
            obtain ⟨ns, hr, rfl⟩ := bytesOf_some hl
            have hvs : vs = ns.map (Value.int .u8) := by
              apply List.ext_getElem?
              intro k
              have hfl : rows.flatten = ns.map (PV.i .u8) := by rw [hr]; clear hr hl hrel hlen hrow hmem hv hcap h4 rx; induction ns with
                | nil => rfl
                | cons n ns ih => simp [ih]
              by_cases hk : k < ns.length
              · obtain ⟨u, hu, hp⟩ := hrel k (.i .u8 ns[k]) (by rw [hfl]; simp [hk])
                cases hp
                rw [hu]; simp [hk]
              · have h6 : vs.length = ns.length := by rw [hlen, hr]; simp
                rw [List.getElem?_eq_none (by omega), List.getElem?_eq_none (by simp; omega)]
            have hlen' : rows.length = vs.length := by omega
            subst hv
            have hrun : (Conv.bytesToString (.slice ad rows.length cap)).run P s.w = .ok (.string ⟨(ns.map fun n => UInt8.ofNat n.toNat).toArray⟩) s.w := by
              rcases hmem with hnil | ⟨r, o', rfl, hm⟩
              · have hn0 : ns = [] := by rw [hnil] at hr; simpa using hr.symm
                subst hn0
                cases ad with
                | none => simp [Conv.bytesToString]; rfl
                | some ad =>
                  have := run_bytesToString (P := P) s.w ad rows.length cap [] (by rw [hnil]; simp [loadCells, loadCellsFrom])
                  rw [this]; rfl
              · have := run_bytesToString (P := P) s.w ⟨r, o', none⟩ rows.length cap ns (by rw [hlen', ← hvs]; exact run_loads vs hm)
                rw [this, foldl_push]
                simp
            refine opOk_pure hi (v := .string ⟨(ns.map fun n => UInt8.ofNat n.toNat).toArray⟩) ?_ (relA_s' _)
            simp [execOp, hop, hz, convert, run_underlying hs, run_underlying hd, run_underlying hu8, hrun]
        · cases h5
      · cases ht
    · rename_i own l
      exact absurd rfl (hk own)
    · cases h'
  · cases hc

end
end Go.Am
