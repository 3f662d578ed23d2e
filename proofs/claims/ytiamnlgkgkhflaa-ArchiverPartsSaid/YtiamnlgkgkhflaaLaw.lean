/-
  ArchiverParts returns true for every input, and its arguments read afterwards as before. No condition.
-/
import Derived.Test.YtiamnlgkgkhflaaPlain
import Derived.Test.YtiamnlgkgkhflaaChk
import Derived.Test.YtiamnlgkgkhflaaRows
import Derived.Test.YtiamnlgkgkhflaaAmLaw
set_option linter.unusedSimpArgs false
set_option linter.unusedVariables false
namespace Go.Proofs.Ytiamnlgkgkhflaa
open Go.Am Go.ChangeShapes Go.WideShapes Go.ChangeAt Go.RowKit

def noPrims : FuncId → Option (List AV → List Blk → Option Res) := fun _ => none

theorem tab_some {f : FuncId} {e : Entry} (h : tabOf noPrims f = some e) : ∃ af, e = .fn af ∧ lkF f fns = some af := by
  unfold tabOf at h
  split at h
  · rename_i a ha; injection h with h; exact ⟨a, h.symm, ha⟩
  · cases h

theorem soundT : SoundF Try.prog (AF (tabOf noPrims)) := by
  refine sound mixed (fun f af h => ?_) (fun f g h => ?_)
  · obtain ⟨a, e, hl⟩ := tab_some h
    injection e with e; subst e
    exact chk_all f af hl
  · obtain ⟨a, e, _⟩ := tab_some h
    cases e

theorem own : ownKnob Try.prog.godebug = none := by kernel_rfl
theorem laid : laidOutB Try.prog = true := by kernel_rfl
theorem rowed : mapsRowed Try.prog = true := by kernel_rfl
theorem sized : slicesSized Try.prog = true := by kernel_rfl

theorem byte_range {n : Int} (h : (Lit.int .u8 n).wf = true) : 0 ≤ n ∧ n ≤ 255 := by
  simp [Lit.wf, IntKind.has, IntKind.min, IntKind.max, IntKind.signed, IntKind.bits] at h
  omega

/-- A slice of bytes, read. -/
theorem bytes_of {n : Nat} {t e : TypeId} {pvs : List PV} (ht : Try.prog.underlying t = some (.slice e)) (he : Try.prog.underlying e = some (.int .u8)) (hc : Try.prog.cellsOf e = 1) (h : pvTy Try.prog n t pvs) :
    ∃ l : List Int, avOf Try.prog t pvs = .p (.sl 1 (l.map (r_i .u8))) ∧ ∀ x ∈ l, 0 ≤ x ∧ x ≤ 255 := by
  cases n with
  | zero => exact h.elim
  | succ n =>
    unfold pvTy at h
    rw [ht] at h
    obtain ⟨rows, rfl, _, hr⟩ := h
    have key : ∀ rows : List (List PV), (∀ row ∈ rows, row.length = Try.prog.cellsOf e ∧ pvTy Try.prog n e row) → ∃ l : List Int, rows = l.map (r_i .u8) ∧ ∀ x ∈ l, 0 ≤ x ∧ x ≤ 255 := by
      intro rows
      induction rows with
      | nil => intro _; exact ⟨[], rfl, by simp⟩
      | cons row rows ih =>
        intro hh
        obtain ⟨l, rfl, hl⟩ := ih (fun r hr => hh r (by simp [hr]))
        obtain ⟨_, hrow⟩ := hh row (by simp)
        cases n with
        | zero => exact hrow.elim
        | succ n =>
          unfold pvTy at hrow
          rw [he] at hrow
          obtain ⟨z, rfl, hz⟩ := hrow
          refine ⟨z :: l, rfl, fun x hx => ?_⟩
          rcases List.mem_cons.1 hx with rfl | hx
          · exact byte_range hz
          · exact hl x hx
    obtain ⟨l, rfl, hl⟩ := key rows hr
    refine ⟨l, ?_, hl⟩
    unfold avOf
    rw [ht, hc]

theorem byte_of {n : Nat} {t : TypeId} {pvs : List PV} (ht : Try.prog.underlying t = some (.int .u8)) (h : pvTy Try.prog n t pvs) : ∃ x : Int, avOf Try.prog t pvs = .p (.i .u8 x) ∧ 0 ≤ x ∧ x ≤ 255 := by
  cases n with
  | zero => exact h.elim
  | succ n =>
    unfold pvTy at h
    rw [ht] at h
    obtain ⟨z, rfl, hz⟩ := h
    refine ⟨z, ?_, byte_range hz⟩
    unfold avOf
    rw [ht]

set_option maxRecDepth 100000 in
theorem lifted (os : Os) (started : os.Started) (H : Type) (enc : TypeId × Value → H) :
    ReturnsInHanded {} Try.checked os 3 .any (Rows.archiverPartsSpec.pre6 enc Try.prog Try.f3 Rows.archiverPartsRow.domain false) (Rows.archiverPartsSpec.post enc Try.prog Try.f3 false true false false) := by
  refine returnsInHanded_of_change (C := Try.checked) own started (by kernel_rfl) Try.func3
    (ChangeSpec.witness6 (enc := enc) (C := Try.checked) false ⟨#[], #[.slice none 0 0, .int .u8 0], []⟩ 8 (by kernel_rfl) (by kernel_rfl) (by kernel_rfl) (by kernel_rfl)) ?_
  intro W base args ds gs before hval0 hW hcnd _
  have hval : ∀ (j : Nat) t v, Try.f3.params[j]? = some t → args[j]? = some v → Value.okWide Try.prog W .any base t v := hval0
  have hW' := hW
  obtain ⟨p, q, hA0, hV, rfl, hfz, hnd⟩ := hW
  have hA : DataW.TrodAll enc Try.prog W 0 (fun _ => true) true Try.f3.params.toList args.toList ds p := hA0
  rw [Try.params3] at hA hval
  obtain ⟨v0, vs0, d0, ds0, p0, q0, hargs, rfl, rfl, h0, r0⟩ := trodAll_cons hA
  obtain ⟨v1, vs1, d1, ds1, p1, q1, rfl, rfl, rfl, h1, r1⟩ := trodAll_cons r0
  obtain ⟨rfl, rfl, rfl⟩ := trodAll_nil r1
  obtain rfl : args = #[v0, v1] := by cases args; simp_all
  have u0 : Try.prog.underlying 22 = some (.slice 5) := by kernel_rfl
  have u1 : Try.prog.underlying 5 = some (.int .u8) := by kernel_rfl
  have c1 : Try.prog.cellsOf 5 = 1 := by kernel_rfl
  obtain ⟨pv0, y0, z0⟩ := arg_rel laid rowed (n := 3) (by kernel_rfl) (hval 0 22 v0 rfl rfl) h0
  obtain ⟨pv1, y1, z1⟩ := arg_rel laid rowed (n := 3) (by kernel_rfl) (hval 1 5 v1 rfl rfl) h1
  obtain ⟨l, a0, b0⟩ := bytes_of u0 u1 c1 y0
  obtain ⟨x, a1, b1, b2⟩ := byte_of u1 y1
  rw [a0] at z0
  rw [a1] at z1
  have run := e_law25_ArchiverParts noPrims (law_ok l x b0 b1 b2)
  refine (law_calls soundT (f := 3) (args := [.p (.sl 1 (l.map (r_i .u8))), .p (.i .u8 x)]) (vals := #[v0, v1]) (w := W) rfl (fun i a v ha hv => ?_) run).mono fun e W' ⟨he, hg⟩ => ?_
  · match i with
    | 0 => simp at ha hv; subst ha hv; exact z0
    | 1 => simp at ha hv; subst ha hv; exact z1
    | i + 2 => simp at ha
  · subst he
    exact ⟨_, rfl, law_post laid rowed sized (by rw [Try.params3]; decide +kernel) (by kernel_rfl) (tb := 4) (by kernel_rfl) rfl (fun hg => by subst hg; rfl) hW' hg⟩

theorem over : Rows.archiverPartsRow.holds Try.pinned (OpenSpec.ofChange Rows.archiverPartsSpec) :=
  OpenClaim.holds_of_wide 3 Try.f3 rfl rfl rfl rfl rfl rfl rfl ⟨rfl, rfl, rfl, rfl, rfl⟩ rfl rfl rfl rfl rfl (by kernel_rfl) Try.func3 (by kernel_rfl)
    (of_decide_eq_true (by kernel_rfl)) (by unfold Func.isWrapper; first | (rw [if_pos (by decide +kernel)]; kernel_rfl) | (rw [if_neg (by decide +kernel)]; exact ⟨rfl, rfl⟩))
    (fun os started H enc _ => lifted os started H enc)

/-- The statement. -/
theorem archiverParts_proved : Rows.ArchiverPartsSaid := over

end Go.Proofs.Ytiamnlgkgkhflaa
