/-
  PoolLimits returns true for every input, and its arguments read afterwards as before. No condition.
-/
import Derived.Test.YteiakclfpfmigaaRows
import Derived.Test.YteiakclfpfmigaaM9
import Derived.Test.YteiakclfpfmigaaM15
namespace Go.Proofs.Yteiakclfpfmigaa
open Go.Am Go.ChangeShapes Go.WideShapes Go.ChangeAt Go.RowKit
set_option linter.unusedSimpArgs false
set_option linter.unusedVariables false
set_option maxRecDepth 100000 in
theorem Jl4 (os : Os) (started : os.Started) (H : Type) (enc : TypeId × Value → H) :
    ReturnsInHanded {} Try.checked os 14 .any (Rows.poolLimitsSpec.pre6 enc Try.prog Try.f14 Rows.poolLimitsRow.domain false) (Rows.poolLimitsSpec.post enc Try.prog Try.f14 false true false false) := by
  refine returnsInHanded_of_change (C := Try.checked) own started (by kernel_rfl) Try.func14
    (ChangeSpec.witness6 (enc := enc) (C := Try.checked) false ⟨#[], #[.int .u8 0, .int .u8 0], []⟩ 8 (by kernel_rfl) (by kernel_rfl) (by kernel_rfl) (by kernel_rfl)) ?_
  intro W base args ds gs before hval0 hW hcnd _
  have hval : ∀ (j : Nat) t v, Try.f14.params[j]? = some t → args[j]? = some v → Value.okWide Try.prog W .any base t v := hval0
  have hW' := hW
  obtain ⟨p, q, hA0, hV, rfl, hfz, hnd⟩ := hW
  have hA : DataW.TrodAll enc Try.prog W 0 (fun _ => true) true Try.f14.params.toList args.toList ds p := hA0
  rw [Try.params14] at hA hval
  obtain ⟨v0, vs0, d0, ds0, p0, q0, hargs, rfl, rfl, h0, r0⟩ := trodAll_cons hA
  obtain ⟨v1, vs1, d1, ds1, p1, q1, rfl, rfl, rfl, h1, r1⟩ := trodAll_cons r0
  obtain ⟨rfl, rfl, rfl⟩ := trodAll_nil r1
  obtain rfl : args = #[v0, v1] := by cases args; simp_all
  obtain ⟨pv0, y0, z0⟩ := Jf0 Ji9 Jft (n := 2) (by kernel_rfl) (hval 0 5 v0 rfl rfl) h0
  obtain ⟨x0, rfl, w0⟩ := (rd_u8 u5 : Rd Try.prog 2 5 (r_i .u8) _) _ y0
  rw [(Jgz u5)] at z0
  obtain ⟨pv1, y1, z1⟩ := Jf0 Ji9 Jft (n := 2) (by kernel_rfl) (hval 1 5 v1 rfl rfl) h1
  obtain ⟨x1, rfl, w1⟩ := (rd_u8 u5 : Rd Try.prog 2 5 (r_i .u8) _) _ y1
  rw [(Jgz u5)] at z1
  have run := J8R Jfi (x0 := x0) (x1 := x1) (J8x w0 w1)
  refine (Jgf Jl3 (f := 14) (args := [.p (.i .u8 x0), .p (.i .u8 x1)]) (vals := #[v0, v1]) (w := W) rfl (fun i a v ha hv => ?_) run).mono fun e W' ⟨he, hg⟩ => ?_
  · match i with
    | 0 => simp at ha hv; subst ha hv; exact z0
    | 1 => simp at ha hv; subst ha hv; exact z1
    | i + 2 => simp at ha
  · subst he
    exact ⟨_, rfl, Jhr Ji9 Jft JlJ (by rw [Try.params14]; decide +kernel) (by kernel_rfl) (tb := 4) (by kernel_rfl) rfl (fun hg => by subst hg; rfl) hW' hg⟩
theorem Jm8 : Rows.poolLimitsRow.holds Try.pinned (OpenSpec.ofChange Rows.poolLimitsSpec) :=
  OpenClaim.holds_of_wide 14 Try.f14 rfl rfl rfl rfl rfl rfl rfl ⟨rfl, rfl, rfl, rfl, rfl⟩ rfl rfl rfl rfl rfl (by kernel_rfl) Try.func14 (by kernel_rfl)
    (of_decide_eq_true (by kernel_rfl)) (by unfold Func.isWrapper; first | (rw [if_pos (by decide +kernel)]; kernel_rfl) | (rw [if_neg (by decide +kernel)]; exact ⟨rfl, rfl⟩))
    (fun os started H enc _ => Jl4 os started H enc)
theorem poolLimits_proved : Rows.PoolLimitsSaid := Jm8
end Go.Proofs.Yteiakclfpfmigaa
