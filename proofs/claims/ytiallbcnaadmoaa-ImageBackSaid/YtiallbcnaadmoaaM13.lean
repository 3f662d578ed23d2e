/-
  Parts of a proof.
-/
import Derived.Test.YtiallbcnaadmoaaM5
import Derived.Test.YtiallbcnaadmoaaM12
set_option linter.unusedSimpArgs false
set_option linter.unusedVariables false
section
namespace Go.Am
section
variable (P : Program) {α β : Type}
def Rd (n : Nat) (t : TypeId) (r : α → List PV) (Q : α → Prop) : Prop := ∀ pvs, J9T P n t pvs → ∃ x, pvs = r x ∧ Q x
def fieldsOf (t : TypeId) : Option (List (TypeId × Nat)) := match P.underlying t with
 | some (.struct fs) => some (fs.toList.map fun f => (f.type, f.offset))
 | _ => none
variable {P}
theorem JqE {n : Nat} {t : TypeId} {k : IntKind} (ht : P.underlying t = some (.int k)) : Rd P (n + 1) t (r_i k) fun z => k.min ≤ z ∧ z ≤ k.max := by
 intro pvs h
 unfold J9T at h
 rw [ht] at h
 obtain ⟨z, rfl, hz⟩ := h
 refine ⟨z, rfl, ?_⟩
 simpa [Lit.wf, IntKind.has] using hz
theorem Rd.mono {n : Nat} {t : TypeId} {r : α → List PV} {Q Q' : α → Prop} (h : Rd P n t r Q) (hq : ∀ x, Q x → Q' x) : Rd P n t r Q' := fun pvs hp => by
 obtain ⟨x, e, q⟩ := h pvs hp
 exact ⟨x, e, hq x q⟩
theorem rd_u8 {n : Nat} {t : TypeId} (ht : P.underlying t = some (.int .u8)) : Rd P (n + 1) t (r_i .u8) fun z => 0 ≤ z ∧ z ≤ 255 :=
 (JqE ht).mono fun z hz => by simpa [IntKind.min, IntKind.max, IntKind.signed, IntKind.bits] using hz
theorem rd_u16 {n : Nat} {t : TypeId} (ht : P.underlying t = some (.int .u16)) : Rd P (n + 1) t (r_i .u16) fun z => 0 ≤ z ∧ z ≤ 65535 :=
 (JqE ht).mono fun z hz => by simpa [IntKind.min, IntKind.max, IntKind.signed, IntKind.bits] using hz
theorem Jss {n : Nat} {t e : TypeId} {r : α → List PV} {Q : α → Prop} {k : Nat} (ht : P.underlying t = some (.slice e)) (hk : P.cellsOf e = k) (he : Rd P n e r Q) :
  Rd P (n + 1) t (JjV k r) fun l => l.length ≤ maxLen ∧ ∀ x ∈ l, Q x := by
 intro pvs h
 unfold J9T at h
 rw [ht] at h
 obtain ⟨rows, rfl, hl, hr⟩ := h
 have key : ∀ rows : List (List PV), (∀ row ∈ rows, row.length = P.cellsOf e ∧ J9T P n e row) → ∃ l : List α, rows = l.map r ∧ ∀ x ∈ l, Q x := by
  intro rows
  induction rows with
  | nil => intro _; exact ⟨[], rfl, by simp⟩
  | cons row rows ih =>
   intro hh
   obtain ⟨l, rfl, hl⟩ := ih (fun r hr => hh r (by simp [hr]))
   obtain ⟨x, rfl, hx⟩ := he row (hh row (by simp)).2
   refine ⟨x :: l, rfl, fun y hy => ?_⟩
   rcases List.mem_cons.1 hy with rfl | hy
   ·exact hx
   ·exact hl y hy
 obtain ⟨l, rfl, hq⟩ := key rows hr
 exact ⟨l, by rw [hk]; rfl, by simpa using hl, hq⟩
theorem Jqf {t : TypeId} {k : IntKind} {z : Int} (ht : P.underlying t = some (.int k)) : Jk3 P t (r_i k z) = .p (.i k z) := by unfold Jk3; rw [ht]; rfl
theorem Jsu {t e : TypeId} {k : Nat} {r : α → List PV} {l : List α} (ht : P.underlying t = some (.slice e)) (hk : P.cellsOf e = k) : Jk3 P t (JjV k r l) = .p (.sl k (l.map r)) := by unfold Jk3; rw [ht]; rfl
end
end Go.Am
end
