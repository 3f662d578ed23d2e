/-
  PageTears returns true for every input, and its arguments read afterwards as before. No condition.
-/
import Derived.Test.YteiakclfpfmigaaPlain4
import Derived.Test.YteiakclfpfmigaaChk
import Derived.Test.YteiakclfpfmigaaRows
import Derived.Test.YteiakclfpfmigaaAmLaw
set_option linter.unusedSimpArgs false
set_option linter.unusedVariables false
namespace Go.Proofs.Yteiakclfpfmigaa
open Go.Am Go.ChangeShapes Go.WideShapes Go.ChangeAt Go.RowKit

theorem byte_range {n : Int} (h : (Lit.int .u8 n).wf = true) : 0 ≤ n ∧ n ≤ 255 := by
  simp [Lit.wf, IntKind.has, IntKind.min, IntKind.max, IntKind.signed, IntKind.bits] at h
  omega

/-- A slice of bytes, read. -/
theorem bytes_of {n : Nat} {t e : TypeId} {pvs : List PV} (ht : Try.prog.underlying t = some (.slice e)) (he : Try.prog.underlying e = some (.int .u8)) (hc : Try.prog.cellsOf e = 1) (h : pvTy Try.prog n t pvs) :
    ∃ l : List Int, avOf Try.prog t pvs = .p (.sl 1 (l.map (r_i .u8))) ∧ ∀ x ∈ l, 0 ≤ x ∧ x ≤ 255 := by
  cases n with
  | zero => exact h.elim
  | succ n =>
    unfold pvTy at h
    rw [ht] at h
    obtain ⟨rows, rfl, _, hr⟩ := h
    have key : ∀ rows : List (List PV), (∀ row ∈ rows, row.length = Try.prog.cellsOf e ∧ pvTy Try.prog n e row) → ∃ l : List Int, rows = l.map (r_i .u8) ∧ ∀ x ∈ l, 0 ≤ x ∧ x ≤ 255 := by
      intro rows
      induction rows with
      | nil => intro _; exact ⟨[], rfl, by simp⟩
      | cons row rows ih =>
        intro hh
        obtain ⟨l, rfl, hl⟩ := ih (fun r hr => hh r (by simp [hr]))
        obtain ⟨_, hrow⟩ := hh row (by simp)
        cases n with
        | zero => exact hrow.elim
        | succ n =>
          unfold pvTy at hrow
          rw [he] at hrow
          obtain ⟨z, rfl, hz⟩ := hrow
          refine ⟨z :: l, rfl, fun x hx => ?_⟩
          rcases List.mem_cons.1 hx with rfl | hx
          · exact byte_range hz
          · exact hl x hx
    obtain ⟨l, rfl, hl⟩ := key rows hr
    refine ⟨l, ?_, hl⟩
    unfold avOf
    rw [ht, hc]

theorem u16_of {n : Nat} {t : TypeId} {pvs : List PV} (ht : Try.prog.underlying t = some (.int .u16)) (h : pvTy Try.prog n t pvs) : ∃ x : Int, avOf Try.prog t pvs = .p (.i .u16 x) ∧ 0 ≤ x ∧ x ≤ 65535 := by
  cases n with
  | zero => exact h.elim
  | succ n =>
    unfold pvTy at h
    rw [ht] at h
    obtain ⟨z, rfl, hz⟩ := h
    refine ⟨z, ?_, ?_⟩
    · unfold avOf
      rw [ht]
    · simp [Lit.wf, IntKind.has, IntKind.min, IntKind.max, IntKind.signed, IntKind.bits] at hz
      omega

theorem bool_of {n : Nat} {t : TypeId} {pvs : List PV} (ht : Try.prog.underlying t = some .bool) (h : pvTy Try.prog n t pvs) : ∃ x : Bool, avOf Try.prog t pvs = .p (.b x) := by
  cases n with
  | zero => exact h.elim
  | succ n =>
    unfold pvTy at h
    rw [ht] at h
    obtain ⟨z, rfl⟩ := h
    refine ⟨z, ?_⟩
    unfold avOf
    rw [ht]

set_option maxRecDepth 100000 in
theorem lifted (os : Os) (started : os.Started) (H : Type) (enc : TypeId × Value → H) :
    ReturnsInHanded {} Try.checked os 12 .any (Rows.pageTearsSpec.pre6 enc Try.prog Try.f12 Rows.pageTearsRow.domain false) (Rows.pageTearsSpec.post enc Try.prog Try.f12 false true false false) := by
  refine returnsInHanded_of_change (C := Try.checked) own started (by kernel_rfl) Try.func12
    (ChangeSpec.witness6 (enc := enc) (C := Try.checked) false ⟨#[], #[.slice none 0 0, .int .u16 0, .bool false], []⟩ 8 (by kernel_rfl) (by kernel_rfl) (by kernel_rfl) (by kernel_rfl)) ?_
  intro W base args ds gs before hval0 hW hcnd _
  have hval : ∀ (j : Nat) t v, Try.f12.params[j]? = some t → args[j]? = some v → Value.okWide Try.prog W .any base t v := hval0
  have hW' := hW
  obtain ⟨p, q, hA0, hV, rfl, hfz, hnd⟩ := hW
  have hA : DataW.TrodAll enc Try.prog W 0 (fun _ => true) true Try.f12.params.toList args.toList ds p := hA0
  rw [Try.params12] at hA hval
  obtain ⟨v0, vs0, d0, ds0, p0, q0, hargs, rfl, rfl, h0, r0⟩ := trodAll_cons hA
  obtain ⟨v1, vs1, d1, ds1, p1, q1, rfl, rfl, rfl, h1, r1⟩ := trodAll_cons r0
  obtain ⟨v2, vs2, d2, ds2, p2, q2, rfl, rfl, rfl, h2, r2⟩ := trodAll_cons r1
  obtain ⟨rfl, rfl, rfl⟩ := trodAll_nil r2
  obtain rfl : args = #[v0, v1, v2] := by cases args; simp_all
  have u0 : Try.prog.underlying 22 = some (.slice 5) := by kernel_rfl
  have u1 : Try.prog.underlying 5 = some (.int .u8) := by kernel_rfl
  have u2 : Try.prog.underlying 85 = some (.int .u16) := by kernel_rfl
  have u3 : Try.prog.underlying 4 = some .bool := by kernel_rfl
  have c1 : Try.prog.cellsOf 5 = 1 := by kernel_rfl
  obtain ⟨pv0, y0, z0⟩ := arg_rel laid rowed (n := 3) (by kernel_rfl) (hval 0 22 v0 rfl rfl) h0
  obtain ⟨pv1, y1, z1⟩ := arg_rel laid rowed (n := 3) (by kernel_rfl) (hval 1 85 v1 rfl rfl) h1
  obtain ⟨pv2, y2, z2⟩ := arg_rel laid rowed (n := 3) (by kernel_rfl) (hval 2 4 v2 rfl rfl) h2
  obtain ⟨l, a0, b0⟩ := bytes_of u0 u1 c1 y0
  obtain ⟨x, a1, b1, b2⟩ := u16_of u2 y1
  obtain ⟨b, a2⟩ := bool_of u3 y2
  rw [a0] at z0
  rw [a1] at z1
  rw [a2] at z2
  have run := e_law02_PageTears noPrims (law_ok l x b b0 b1 b2)
  refine (law_calls soundT (f := 12) (args := [.p (.sl 1 (l.map (r_i .u8))), .p (.i .u16 x), .p (.b b)]) (vals := #[v0, v1, v2]) (w := W) rfl (fun i a v ha hv => ?_) run).mono fun e W' ⟨he, hg⟩ => ?_
  · match i with
    | 0 => simp at ha hv; subst ha hv; exact z0
    | 1 => simp at ha hv; subst ha hv; exact z1
    | 2 => simp at ha hv; subst ha hv; exact z2
    | i + 3 => simp at ha
  · subst he
    exact ⟨_, rfl, law_post laid rowed sized (by rw [Try.params12]; decide +kernel) (by kernel_rfl) (tb := 4) (by kernel_rfl) rfl (fun hg => by subst hg; rfl) hW' hg⟩

theorem over : Rows.pageTearsRow.holds Try.pinned (OpenSpec.ofChange Rows.pageTearsSpec) :=
  OpenClaim.holds_of_wide 12 Try.f12 rfl rfl rfl rfl rfl rfl rfl ⟨rfl, rfl, rfl, rfl, rfl⟩ rfl rfl rfl rfl rfl (by kernel_rfl) Try.func12 (by kernel_rfl)
    (of_decide_eq_true (by kernel_rfl)) (by unfold Func.isWrapper; first | (rw [if_pos (by decide +kernel)]; kernel_rfl) | (rw [if_neg (by decide +kernel)]; exact ⟨rfl, rfl⟩))
    (fun os started H enc _ => lifted os started H enc)

/-- The statement. -/
theorem pageTears_proved : Rows.PageTearsSaid := over

end Go.Proofs.Yteiakclfpfmigaa
