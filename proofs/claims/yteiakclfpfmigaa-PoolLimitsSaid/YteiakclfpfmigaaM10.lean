/-
  Parts of a proof: AmArg.
-/
import Derived.Test.YteiakclfpfmigaaM5
import Derived.Test.YteiakclfpfmigaaM9
set_option linter.unusedSimpArgs false
set_option linter.unusedVariables false
section
namespace Go.Am
section
variable (P : Program) {α β : Type}
def Rd (n : Nat) (t : TypeId) (r : α → List PV) (Q : α → Prop) : Prop := ∀ pvs, J6a P n t pvs → ∃ x, pvs = r x ∧ Q x
def fieldsOf (t : TypeId) : Option (List (TypeId × Nat)) := match P.underlying t with
  | some (.struct fs) => some (fs.toList.map fun f => (f.type, f.offset))
  | _ => none
variable {P}
theorem JkY {n : Nat} {t : TypeId} {k : IntKind} (ht : P.underlying t = some (.int k)) : Rd P (n + 1) t (r_i k) fun z => k.min ≤ z ∧ z ≤ k.max := by
  intro pvs h
  unfold J6a at h
  rw [ht] at h
  obtain ⟨z, rfl, hz⟩ := h
  refine ⟨z, rfl, ?_⟩
  simpa [Lit.wf, IntKind.has] using hz
theorem Rd.mono {n : Nat} {t : TypeId} {r : α → List PV} {Q Q' : α → Prop} (h : Rd P n t r Q) (hq : ∀ x, Q x → Q' x) : Rd P n t r Q' := fun pvs hp => by
  obtain ⟨x, e, q⟩ := h pvs hp
  exact ⟨x, e, hq x q⟩
theorem rd_u8 {n : Nat} {t : TypeId} (ht : P.underlying t = some (.int .u8)) : Rd P (n + 1) t (r_i .u8) fun z => 0 ≤ z ∧ z ≤ 255 :=
  (JkY ht).mono fun z hz => by simpa [IntKind.min, IntKind.max, IntKind.signed, IntKind.bits] using hz
theorem Jgz {t : TypeId} {k : IntKind} {z : Int} (ht : P.underlying t = some (.int k)) : Jg6 P t (r_i k z) = .p (.i k z) := by unfold Jg6; rw [ht]; rfl
end
end Go.Am
end
