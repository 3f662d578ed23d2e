/-
  Parts of a proof.
-/
import Derived.Test.YtiallbcnaadmoaaM5
import Derived.Test.YtiallbcnaadmoaaM13
set_option linter.unusedSimpArgs false
set_option linter.unusedVariables false
section
namespace Go.Am
section
variable (P : Program) {α β : Type}
def Rd (n : Nat) (t : TypeId) (r : α → List PV) (Q : α → Prop) : Prop := ∀ pvs, J6z P n t pvs → ∃ x, pvs = r x ∧ Q x
def fieldsOf (t : TypeId) : Option (List (TypeId × Nat)) := match P.underlying t with
  | some (.struct fs) => some (fs.toList.map fun f => (f.type, f.offset))
  | _ => none
variable {P}
theorem Jrh {n : Nat} {t : TypeId} {k : IntKind} (ht : P.underlying t = some (.int k)) : Rd P (n + 1) t (r_i k) fun z => k.min ≤ z ∧ z ≤ k.max := by
  intro pvs h
  unfold J6z at h
  rw [ht] at h
  obtain ⟨z, rfl, hz⟩ := h
  refine ⟨z, rfl, ?_⟩
  simpa [Lit.wf, IntKind.has] using hz
theorem Rd.mono {n : Nat} {t : TypeId} {r : α → List PV} {Q Q' : α → Prop} (h : Rd P n t r Q) (hq : ∀ x, Q x → Q' x) : Rd P n t r Q' := fun pvs hp => by
  obtain ⟨x, e, q⟩ := h pvs hp
  exact ⟨x, e, hq x q⟩
theorem rd_i64 {n : Nat} {t : TypeId} (ht : P.underlying t = some (.int .i64)) : Rd P (n + 1) t (r_i .i64) fun z => -9223372036854775808 ≤ z ∧ z ≤ 9223372036854775807 :=
  (Jrh ht).mono fun z hz => by simpa [IntKind.min, IntKind.max, IntKind.signed, IntKind.bits] using hz
theorem Jwy {n : Nat} {t : TypeId} (ht : P.underlying t = some (.int .u8)) : Rd P (n + 1) t (r_i .u8) fun z => 0 ≤ z ∧ z ≤ 255 :=
  (Jrh ht).mono fun z hz => by simpa [IntKind.min, IntKind.max, IntKind.signed, IntKind.bits] using hz
theorem Jla {n : Nat} {t : TypeId} (ht : P.underlying t = some .bool) : Rd P (n + 1) t r_b fun _ => True := by
  intro pvs h
  unfold J6z at h
  rw [ht] at h
  obtain ⟨z, rfl⟩ := h
  exact ⟨z, rfl, trivial⟩
theorem Jvr {n : Nat} {t : TypeId} (ht : P.underlying t = some .string) : Rd P (n + 1) t r_s fun l => l.length ≤ maxLen := by
  intro pvs h
  unfold J6z at h
  rw [ht] at h
  obtain ⟨z, rfl, hz⟩ := h
  exact ⟨z, rfl, hz⟩
theorem Jo6 {n : Nat} {t e : TypeId} {r : α → List PV} {Q : α → Prop} {k : Nat} (ht : P.underlying t = some (.slice e)) (hk : P.cellsOf e = k) (he : Rd P n e r Q) :
    Rd P (n + 1) t (JkR k r) fun l => l.length ≤ maxLen ∧ ∀ x ∈ l, Q x := by
  intro pvs h
  unfold J6z at h
  rw [ht] at h
  obtain ⟨rows, rfl, hl, hr⟩ := h
  have key : ∀ rows : List (List PV), (∀ row ∈ rows, row.length = P.cellsOf e ∧ J6z P n e row) → ∃ l : List α, rows = l.map r ∧ ∀ x ∈ l, Q x := by
    intro rows
    induction rows with
    | nil => intro _; exact ⟨[], rfl, by simp⟩
    | cons row rows ih =>
      intro hh
      obtain ⟨l, rfl, hl⟩ := ih (fun r hr => hh r (by simp [hr]))
      obtain ⟨x, rfl, hx⟩ := he row (hh row (by simp)).2
      refine ⟨x :: l, rfl, fun y hy => ?_⟩
      rcases List.mem_cons.1 hy with rfl | hy
      · exact hx
      · exact hl y hy
  obtain ⟨l, rfl, hq⟩ := key rows hr
  exact ⟨l, by rw [hk]; rfl, by simpa using hl, hq⟩
theorem JrW {n m : Nat} {t e : TypeId} {r : α → List PV} {Q : α → Prop} {k : Nat} (ht : P.underlying t = some (.array m e)) (hk : P.cellsOf e = k) (hm : P.cellsOf t = m * k) (he : Rd P n e r Q) :
    Rd P (n + 1) t (J06 (n := m) r) fun v => ∀ (i : Nat) (h : i < m), Q v[i] := by
  intro pvs h
  unfold J6z at h
  rw [ht] at h
  obtain ⟨hl, hr⟩ := h
  rw [hm] at hl
  have key : ∀ (m : Nat) (pvs : List PV), pvs.length = m * k → (∀ i, i < m → J6z P n e ((pvs.drop (i * k)).take k)) → ∃ l : List α, l.length = m ∧ pvs = (l.map r).flatten ∧ ∀ (i : Nat) (h : i < l.length), Q l[i] := by
    intro m
    induction m with
    | zero =>
      intro pvs h _
      refine ⟨[], rfl, ?_, by simp⟩
      rw [Nat.zero_mul] at h
      simpa using h
    | succ m ih =>
      intro pvs h hh
      rw [Nat.succ_mul] at h
      obtain ⟨l, h1, h2, h3⟩ := ih (pvs.drop k) (by rw [List.length_drop]; omega) (fun i hi => by
        have := hh (i + 1) (by omega)
        rw [List.drop_drop]
        rw [Nat.succ_mul, Nat.add_comm] at this
        exact this)
      obtain ⟨x, e1, hx⟩ := he _ (hh 0 (by omega))
      rw [Nat.zero_mul, List.drop_zero] at e1
      refine ⟨x :: l, by simp [h1], ?_, fun i hi => ?_⟩
      · rw [List.map_cons, List.flatten_cons, ← e1, ← h2, List.take_append_drop]
      · cases i with
        | zero => exact hx
        | succ i => exact h3 i (by simpa using hi)
  obtain ⟨l, h1, h2, h3⟩ := key m pvs hl (fun i hi => by have := hr i hi; rwa [hk] at this)
  refine ⟨⟨l.toArray, by simpa using h1⟩, ?_, fun i hi => ?_⟩
  · rw [h2]; rfl
  · have := h3 i (by omega)
    simpa using this
theorem Jde {m n : Nat} {t : TypeId} {fl : List (TypeId × Nat)} {pvs : List PV} (hm : m = n + 1) (ht : fieldsOf P t = some fl) (h : J6z P m t pvs) :
    pvs.length = P.cellsOf t ∧ ∀ x ∈ fl, J6z P n x.1 ((pvs.drop x.2).take (P.cellsOf x.1)) := by
  subst hm
  unfold J6z at h
  unfold fieldsOf at ht
  split at ht
  · rename_i fs hfs
    rw [hfs] at h
    injection ht with ht
    subst ht
    refine ⟨h.1, fun x hx => ?_⟩
    obtain ⟨f, hf, rfl⟩ := List.mem_map.1 hx
    exact h.2 f hf
  · cases ht
theorem JbT {l : List β} (o w : Nat) : l.drop o = (l.drop o).take w ++ l.drop (o + w) := by
  rw [← List.drop_drop, List.take_append_drop]
theorem JpY {l : List β} {o : Nat} (h : l.length ≤ o) : l.drop o = [] := List.drop_of_length_le h
theorem J5K {n : Nat} {t : TypeId} {r : α → List PV} {Q : α → Prop} {pvs : List PV} {o w : Nat} (he : Rd P n t r Q) (hw : P.cellsOf t = w) (h : J6z P n t ((pvs.drop o).take (P.cellsOf t))) :
    ∃ x, (pvs.drop o).take w = r x ∧ Q x := by
  rw [hw] at h
  exact he _ h
theorem Jr9 {t : TypeId} {k : IntKind} {z : Int} (ht : P.underlying t = some (.int k)) : Jg3 P t (r_i k z) = .p (.i k z) := by unfold Jg3; rw [ht]; rfl
theorem Jsu {t e : TypeId} {k : Nat} {r : α → List PV} {l : List α} (ht : P.underlying t = some (.slice e)) (hk : P.cellsOf e = k) : Jg3 P t (JkR k r l) = .p (.sl k (l.map r)) := by unfold Jg3; rw [ht]; rfl
theorem JrA {t : TypeId} {pvs : List PV} (ht : (fieldsOf P t).isSome = true) : Jg3 P t pvs = .data pvs := by
  unfold fieldsOf at ht
  unfold Jg3
  split at ht
  · rename_i fs hfs; rw [hfs]
  · cases ht
end
end Go.Am
end
