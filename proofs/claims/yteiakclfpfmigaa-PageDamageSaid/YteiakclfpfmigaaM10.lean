/-
  Parts of a proof: AmArg.
-/
import Derived.Test.YteiakclfpfmigaaM4
import Derived.Test.YteiakclfpfmigaaM9
set_option linter.unusedSimpArgs false
set_option linter.unusedVariables false

section
namespace Go.Am

section
variable (P : Program) {α β : Type}

/-- What is read at a type is a value with a type, and it is in its range. -/
def Rd (n : Nat) (t : TypeId) (r : α → List PV) (Q : α → Prop) : Prop := ∀ pvs, pvTy P n t pvs → ∃ x, pvs = r x ∧ Q x

def fieldsOf (t : TypeId) : Option (List (TypeId × Nat)) := match P.underlying t with
  | some (.struct fs) => some (fs.toList.map fun f => (f.type, f.offset))
  | _ => none

variable {P}

theorem rd_int {n : Nat} {t : TypeId} {k : IntKind} (ht : P.underlying t = some (.int k)) : Rd P (n + 1) t (r_i k) fun z => k.min ≤ z ∧ z ≤ k.max := by
  intro pvs h
  unfold pvTy at h
  rw [ht] at h
  obtain ⟨z, rfl, hz⟩ := h
  refine ⟨z, rfl, ?_⟩
  simpa [Lit.wf, IntKind.has] using hz

theorem Rd.mono {n : Nat} {t : TypeId} {r : α → List PV} {Q Q' : α → Prop} (h : Rd P n t r Q) (hq : ∀ x, Q x → Q' x) : Rd P n t r Q' := fun pvs hp => by
  obtain ⟨x, e, q⟩ := h pvs hp
  exact ⟨x, e, hq x q⟩

theorem rd_i64 {n : Nat} {t : TypeId} (ht : P.underlying t = some (.int .i64)) : Rd P (n + 1) t (r_i .i64) fun z => -9223372036854775808 ≤ z ∧ z ≤ 9223372036854775807 :=
  (rd_int ht).mono fun z hz => by simpa [IntKind.min, IntKind.max, IntKind.signed, IntKind.bits] using hz
theorem rd_u8 {n : Nat} {t : TypeId} (ht : P.underlying t = some (.int .u8)) : Rd P (n + 1) t (r_i .u8) fun z => 0 ≤ z ∧ z ≤ 255 :=
  (rd_int ht).mono fun z hz => by simpa [IntKind.min, IntKind.max, IntKind.signed, IntKind.bits] using hz
theorem rd_u16 {n : Nat} {t : TypeId} (ht : P.underlying t = some (.int .u16)) : Rd P (n + 1) t (r_i .u16) fun z => 0 ≤ z ∧ z ≤ 65535 :=
  (rd_int ht).mono fun z hz => by simpa [IntKind.min, IntKind.max, IntKind.signed, IntKind.bits] using hz

theorem rd_bool {n : Nat} {t : TypeId} (ht : P.underlying t = some .bool) : Rd P (n + 1) t r_b fun _ => True := by
  intro pvs h
  unfold pvTy at h
  rw [ht] at h
  obtain ⟨z, rfl⟩ := h
  exact ⟨z, rfl, trivial⟩

theorem rd_str {n : Nat} {t : TypeId} (ht : P.underlying t = some .string) : Rd P (n + 1) t r_s fun l => l.length ≤ maxLen := by
  intro pvs h
  unfold pvTy at h
  rw [ht] at h
  obtain ⟨z, rfl, hz⟩ := h
  exact ⟨z, rfl, hz⟩

theorem rd_slice {n : Nat} {t e : TypeId} {r : α → List PV} {Q : α → Prop} {k : Nat} (ht : P.underlying t = some (.slice e)) (hk : P.cellsOf e = k) (he : Rd P n e r Q) :
    Rd P (n + 1) t (r_sl k r) fun l => l.length ≤ maxLen ∧ ∀ x ∈ l, Q x := by
  intro pvs h
  unfold pvTy at h
  rw [ht] at h
  obtain ⟨rows, rfl, hl, hr⟩ := h
  have key : ∀ rows : List (List PV), (∀ row ∈ rows, row.length = P.cellsOf e ∧ pvTy P n e row) → ∃ l : List α, rows = l.map r ∧ ∀ x ∈ l, Q x := by
    intro rows
    induction rows with
    | nil => intro _; exact ⟨[], rfl, by simp⟩
    | cons row rows ih =>
      intro hh
      obtain ⟨l, rfl, hl⟩ := ih (fun r hr => hh r (by simp [hr]))
      obtain ⟨x, rfl, hx⟩ := he row (hh row (by simp)).2
      refine ⟨x :: l, rfl, fun y hy => ?_⟩
      rcases List.mem_cons.1 hy with rfl | hy
      · exact hx
      · exact hl y hy
  obtain ⟨l, rfl, hq⟩ := key rows hr
  exact ⟨l, by rw [hk]; rfl, by simpa using hl, hq⟩

theorem rd_array {n m : Nat} {t e : TypeId} {r : α → List PV} {Q : α → Prop} {k : Nat} (ht : P.underlying t = some (.array m e)) (hk : P.cellsOf e = k) (hm : P.cellsOf t = m * k) (he : Rd P n e r Q) :
    Rd P (n + 1) t (e_ar (n := m) r) fun v => ∀ (i : Nat) (h : i < m), Q v[i] := by
  intro pvs h
  unfold pvTy at h
  rw [ht] at h
  obtain ⟨hl, hr⟩ := h
  rw [hm] at hl
  have key : ∀ (m : Nat) (pvs : List PV), pvs.length = m * k → (∀ i, i < m → pvTy P n e ((pvs.drop (i * k)).take k)) → ∃ l : List α, l.length = m ∧ pvs = (l.map r).flatten ∧ ∀ (i : Nat) (h : i < l.length), Q l[i] := by
    intro m
    induction m with
    | zero =>
      intro pvs h _
      refine ⟨[], rfl, ?_, by simp⟩
      rw [Nat.zero_mul] at h
      simpa using h
    | succ m ih =>
      intro pvs h hh
      rw [Nat.succ_mul] at h
      obtain ⟨l, h1, h2, h3⟩ := ih (pvs.drop k) (by rw [List.length_drop]; omega) (fun i hi => by
        have := hh (i + 1) (by omega)
        rw [List.drop_drop]
        rw [Nat.succ_mul, Nat.add_comm] at this
        exact this)
      obtain ⟨x, e1, hx⟩ := he _ (hh 0 (by omega))
      rw [Nat.zero_mul, List.drop_zero] at e1
      refine ⟨x :: l, by simp [h1], ?_, fun i hi => ?_⟩
      · rw [List.map_cons, List.flatten_cons, ← e1, ← h2, List.take_append_drop]
      · cases i with
        | zero => exact hx
        | succ i => exact h3 i (by simpa using hi)
  obtain ⟨l, h1, h2, h3⟩ := key m pvs hl (fun i hi => by have := hr i hi; rwa [hk] at this)
  refine ⟨⟨l.toArray, by simpa using h1⟩, ?_, fun i hi => ?_⟩
  · rw [h2]; rfl
  · have := h3 i (by omega)
    simpa using this

theorem rd_fields {m n : Nat} {t : TypeId} {fl : List (TypeId × Nat)} {pvs : List PV} (hm : m = n + 1) (ht : fieldsOf P t = some fl) (h : pvTy P m t pvs) :
    pvs.length = P.cellsOf t ∧ ∀ x ∈ fl, pvTy P n x.1 ((pvs.drop x.2).take (P.cellsOf x.1)) := by
  subst hm
  unfold pvTy at h
  unfold fieldsOf at ht
  split at ht
  · rename_i fs hfs
    rw [hfs] at h
    injection ht with ht
    subst ht
    refine ⟨h.1, fun x hx => ?_⟩
    obtain ⟨f, hf, rfl⟩ := List.mem_map.1 hx
    exact h.2 f hf
  · cases ht

theorem cutA {l : List β} (o w : Nat) : l.drop o = (l.drop o).take w ++ l.drop (o + w) := by
  rw [← List.drop_drop, List.take_append_drop]

theorem cutZ {l : List β} {o : Nat} (h : l.length ≤ o) : l.drop o = [] := List.drop_of_length_le h

theorem rd_field {n : Nat} {t : TypeId} {r : α → List PV} {Q : α → Prop} {pvs : List PV} {o w : Nat} (he : Rd P n t r Q) (hw : P.cellsOf t = w) (h : pvTy P n t ((pvs.drop o).take (P.cellsOf t))) :
    ∃ x, (pvs.drop o).take w = r x ∧ Q x := by
  rw [hw] at h
  exact he _ h

/-! ### What is handed over -/

theorem av_int {t : TypeId} {k : IntKind} {z : Int} (ht : P.underlying t = some (.int k)) : avOf P t (r_i k z) = .p (.i k z) := by unfold avOf; rw [ht]; rfl
theorem av_bool {t : TypeId} {z : Bool} (ht : P.underlying t = some .bool) : avOf P t (r_b z) = .p (.b z) := by unfold avOf; rw [ht]; rfl
theorem av_str {t : TypeId} {z : List UInt8} (ht : P.underlying t = some .string) : avOf P t (r_s z) = .p (.s z) := by unfold avOf; rw [ht]; rfl
theorem av_slice {t e : TypeId} {k : Nat} {r : α → List PV} {l : List α} (ht : P.underlying t = some (.slice e)) (hk : P.cellsOf e = k) : avOf P t (r_sl k r l) = .p (.sl k (l.map r)) := by unfold avOf; rw [ht]; rfl
theorem av_agg {t : TypeId} {pvs : List PV} (ht : (fieldsOf P t).isSome = true) : avOf P t pvs = .data pvs := by
  unfold fieldsOf at ht
  unfold avOf
  split at ht
  · rename_i fs hfs; rw [hfs]
  · cases ht

end
end Go.Am
end

