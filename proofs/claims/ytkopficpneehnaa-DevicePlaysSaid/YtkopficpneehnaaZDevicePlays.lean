/-
  DevicePlays returns true for every input, and its arguments read afterwards as before. No condition.
-/
import Derived.Test.YtkopficpneehnaaRows
import Derived.Test.YtkopficpneehnaaY5
import Derived.Test.YtkopficpneehnaaY7
namespace Go.Proofs.Ytkopficpneehnaa
open Go.Am Go.ChangeShapes Go.WideShapes Go.ChangeAt Go.RowKit
set_option linter.unusedSimpArgs false
set_option linter.unusedVariables false
set_option maxRecDepth 100000
theorem own : ownKnob Try.prog.godebug = none := by kernel_rfl
theorem Jov : laidOutB Try.prog = true := by kernel_rfl
theorem JlM : mapsRowed Try.prog = true := by kernel_rfl
theorem JsY : J7r Try.prog = true := by kernel_rfl
theorem Jrp (os : Os) (started : os.Started) (H : Type) (enc : TypeId × Value → H) :
  ReturnsInHanded {} Try.checked os 3 .any (Rows.devicePlaysSpec.pre6 enc Try.prog Try.f3 Rows.devicePlaysRow.domain false) (Rows.devicePlaysSpec.post enc Try.prog Try.f3 false true false false) := by
 refine returnsInHanded_of_change (C := Try.checked) own started (by kernel_rfl) Try.func3
  (ChangeSpec.witness6 (enc := enc) (C := Try.checked) false ⟨#[], #[.slice none 0 0], []⟩ 8 (by kernel_rfl) (by kernel_rfl) (by kernel_rfl) (by kernel_rfl)) ?_
 intro W base args ds gs before hval0 hW hcnd _
 have hval : ∀ (j : Nat) t v, Try.f3.params[j]? = some t → args[j]? = some v → Value.okWide Try.prog W .any base t v := hval0
 have hW' := hW
 obtain ⟨p, q, hA0, hV, rfl, hfz, hnd⟩ := hW
 have hA : DataW.TrodAll enc Try.prog W 0 (fun _ => true) true Try.f3.params.toList args.toList ds p := hA0
 rw [Try.params3] at hA hval
 obtain ⟨v0, vs0, d0, ds0, p0, q0, hargs, rfl, rfl, h0, r0⟩ := trodAll_cons hA
 obtain ⟨rfl, rfl, rfl⟩ := trodAll_nil r0
 obtain rfl : args = #[v0] := by cases args; simp_all
 obtain ⟨pv0, y0, z0⟩ := Jq4 Jov JlM (n := 12) (by kernel_rfl) (hval 0 22 v0 rfl rfl) h0
 obtain ⟨x0, rfl, w0⟩ := rdT 12 (.l (.i .u8)) 22 (by kernel_rfl) _ y0
 rw [Jsw (lns []) (agg := false) (by kernel_rfl) (fun _ => by first | rfl | contradiction) x0] at z0
 have run := JrB (JaX) (xs := [JrJ false (.l (.i .u8)) x0]) (x := x0) rfl (JaU w0) rfl
 refine (Jnb Js4 (f := 3) (vals := #[v0]) (w := W) rfl (fun i a v ha hv => ?_) run).mono fun e W' ⟨he, hg⟩ => ?_
 ·match i with
  | 0 => simp at ha hv; subst ha hv; exact z0
  | i + 1 => simp at ha
 ·subst he
  exact ⟨_, rfl, Jp3 Jov JlM JsY (by rw [Try.params3]; decide +kernel) (by kernel_rfl) (tb := 4) (by kernel_rfl) rfl (fun hg => by subst hg; rfl) hW' hg⟩
theorem Jo6 : Try.f3.params.all (Try.prog.readableRec ·) = true := by kernel_rfl
theorem Jr9 : (Rows.devicePlaysRow.inPlace == Try.prog.inPlace 3) = true := by kernel_rfl
theorem JsX : (Rows.devicePlaysRow.unfollowed == Try.prog.unfollowed 3) = true := by kernel_rfl
theorem JsH : (Rows.devicePlaysRow.recurses == Try.prog.recurses 3) = true := by kernel_rfl
theorem Jqq : (Rows.devicePlaysRow.named == Try.prog.varsNamed 3) = true := by kernel_rfl
theorem JrH : (Rows.devicePlaysRow.plainKeys == Try.prog.plainKeys) = true := by kernel_rfl
theorem Joe : joinedFacts Try.prog 3 Try.f3 Rows.devicePlaysSpec Rows.devicePlaysRow = true := by
 unfold joinedFacts
 rw [Jov, JlM, Jo6, Jr9, JsX, JsH, Jqq, JrH]
 kernel_rfl
theorem Jtg : Rows.devicePlaysRow.holds Try.pinned (OpenSpec.ofChange Rows.devicePlaysSpec) :=
 OpenClaim.holds_of_wide 3 Try.f3 rfl rfl rfl rfl rfl rfl rfl ⟨rfl, rfl, rfl, rfl, rfl⟩ rfl rfl rfl rfl rfl (by kernel_rfl) Try.func3 Joe
  (of_decide_eq_true (by kernel_rfl)) (by unfold Func.isWrapper; first | (rw [if_pos (by decide +kernel)]; kernel_rfl) | (rw [if_neg (by decide +kernel)]; exact ⟨rfl, rfl⟩))
  (fun os started H enc _ => Jrp os started H enc)
theorem devicePlays_proved : Rows.DevicePlaysSaid := Jtg
end Go.Proofs.Ytkopficpneehnaa
