/-
  DeviceExact returns true for every input, and its arguments read afterwards as before. No condition.
-/
import Derived.Test.YtkopficpneehnaaRows
import Derived.Test.YtkopficpneehnaaX5
import Derived.Test.YtkopficpneehnaaX6
import Derived.Test.YtkopficpneehnaaX7
namespace Go.Proofs.Ytkopficpneehnaa
open Go.Am Go.ChangeShapes Go.WideShapes Go.ChangeAt Go.RowKit
set_option linter.unusedSimpArgs false
set_option linter.unusedVariables false
set_option maxRecDepth 100000
theorem own : ownKnob Try.prog.godebug = none := by kernel_rfl
theorem JdC : laidOutB Try.prog = true := by kernel_rfl
theorem JaT : mapsRowed Try.prog = true := by kernel_rfl
theorem JtF : J7Y Try.prog = true := by kernel_rfl
theorem JsV (os : Os) (started : os.Started) (H : Type) (enc : TypeId × Value → H) :
  ReturnsInHanded {} Try.checked os 7 .any (Rows.deviceExactSpec.pre6 enc Try.prog Try.f7 Rows.deviceExactRow.domain false) (Rows.deviceExactSpec.post enc Try.prog Try.f7 false true false false) := by
 refine returnsInHanded_of_change (C := Try.checked) own started (by kernel_rfl) Try.func7
  (ChangeSpec.witness6 (enc := enc) (C := Try.checked) false ⟨#[], #[.slice none 0 0, .agg #[.slice none 0 0, .int .i64 0, .slice none 0 0, .bool false, .slice none 0 0], .int .i64 0, .int .i64 0, .agg #[.int .i64 0, .int .i64 0, .int .i64 0, .int .i64 0, .int .i64 0, .int .u8 0]], []⟩ 8 (by kernel_rfl) (by kernel_rfl) (by kernel_rfl) (by kernel_rfl)) ?_
 intro W base args ds gs before hval0 hW hcnd _
 have hval : ∀ (j : Nat) t v, Try.f7.params[j]? = some t → args[j]? = some v → Value.okWide Try.prog W .any base t v := hval0
 have hW' := hW
 obtain ⟨p, q, hA0, hV, rfl, hfz, hnd⟩ := hW
 have hA : DataW.TrodAll enc Try.prog W 0 (fun _ => true) true Try.f7.params.toList args.toList ds p := hA0
 rw [Try.params7] at hA hval
 obtain ⟨v0, vs0, d0, ds0, p0, q0, hargs, rfl, rfl, h0, r0⟩ := trodAll_cons hA
 obtain ⟨v1, vs1, d1, ds1, p1, q1, rfl, rfl, rfl, h1, r1⟩ := trodAll_cons r0
 obtain ⟨v2, vs2, d2, ds2, p2, q2, rfl, rfl, rfl, h2, r2⟩ := trodAll_cons r1
 obtain ⟨v3, vs3, d3, ds3, p3, q3, rfl, rfl, rfl, h3, r3⟩ := trodAll_cons r2
 obtain ⟨v4, vs4, d4, ds4, p4, q4, rfl, rfl, rfl, h4, r4⟩ := trodAll_cons r3
 obtain ⟨rfl, rfl, rfl⟩ := trodAll_nil r4
 obtain rfl : args = #[v0, v1, v2, v3, v4] := by cases args; simp_all
 obtain ⟨pv0, y0, z0⟩ := JaE JdC JaT (n := 12) (by kernel_rfl) (hval 0 22 v0 rfl rfl) h0
 obtain ⟨x0, rfl, w0⟩ := rdT 12 (.l (.i .u8)) 22 (by kernel_rfl) _ y0
 rw [Jc2 (lns []) (agg := false) (by kernel_rfl) (fun _ => by first | rfl | contradiction) x0] at z0
 obtain ⟨pv1, y1, z1⟩ := JaE JdC JaT (n := 12) (by kernel_rfl) (hval 1 30 v1 rfl rfl) h1
 obtain ⟨x1, rfl, w1⟩ := rdT 12 J3 30 (by kernel_rfl) _ y1
 rw [Jc2 (lns []) (agg := true) (by kernel_rfl) (fun _ => by first | rfl | contradiction) x1] at z1
 obtain ⟨pv2, y2, z2⟩ := JaE JdC JaT (n := 12) (by kernel_rfl) (hval 2 3 v2 rfl rfl) h2
 obtain ⟨x2, rfl, w2⟩ := rdT 12 (.i .i64) 3 (by kernel_rfl) _ y2
 rw [Jc2 (lns []) (agg := false) (by kernel_rfl) (fun _ => by first | rfl | contradiction) x2] at z2
 obtain ⟨pv3, y3, z3⟩ := JaE JdC JaT (n := 12) (by kernel_rfl) (hval 3 3 v3 rfl rfl) h3
 obtain ⟨x3, rfl, w3⟩ := rdT 12 (.i .i64) 3 (by kernel_rfl) _ y3
 rw [Jc2 (lns []) (agg := false) (by kernel_rfl) (fun _ => by first | rfl | contradiction) x3] at z3
 obtain ⟨pv4, y4, z4⟩ := JaE JdC JaT (n := 12) (by kernel_rfl) (hval 4 37 v4 rfl rfl) h4
 obtain ⟨x4, rfl, w4⟩ := rdT 12 J4 37 (by kernel_rfl) _ y4
 rw [Jc2 (lns []) (agg := true) (by kernel_rfl) (fun _ => by first | rfl | contradiction) x4] at z4
 have run := JsO (JbA) (xs := [JgE false (.l (.i .u8)) x0, JgE true J3 x1, JgE false (.i .i64) x2, JgE false (.i .i64) x3, JgE true J4 x4]) (x := (x0, x1, x2, x3, x4)) rfl (JbD w0 w1 w2 w3 w4) rfl
 refine (JnK JsL (f := 7) (vals := #[v0, v1, v2, v3, v4]) (w := W) rfl (fun i a v ha hv => ?_) run).mono fun e W' ⟨he, hg⟩ => ?_
 ·match i with
  | 0 => simp at ha hv; subst ha hv; exact z0
  | 1 => simp at ha hv; subst ha hv; exact z1
  | 2 => simp at ha hv; subst ha hv; exact z2
  | 3 => simp at ha hv; subst ha hv; exact z3
  | 4 => simp at ha hv; subst ha hv; exact z4
  | i + 5 => simp at ha
 ·subst he
  exact ⟨_, rfl, JpA JdC JaT JtF (by rw [Try.params7]; decide +kernel) (by kernel_rfl) (tb := 4) (by kernel_rfl) rfl (fun hg => by subst hg; rfl) hW' hg⟩
theorem Jpv : Try.f7.params.all (Try.prog.readableRec ·) = true := by kernel_rfl
theorem JrV : (Rows.deviceExactRow.inPlace == Try.prog.inPlace 7) = true := by kernel_rfl
theorem JtZ : (Rows.deviceExactRow.unfollowed == Try.prog.unfollowed 7) = true := by kernel_rfl
theorem JtW : (Rows.deviceExactRow.recurses == Try.prog.recurses 7) = true := by kernel_rfl
theorem Jr0 : (Rows.deviceExactRow.named == Try.prog.varsNamed 7) = true := by kernel_rfl
theorem JsQ : (Rows.deviceExactRow.plainKeys == Try.prog.plainKeys) = true := by kernel_rfl
theorem JoU : joinedFacts Try.prog 7 Try.f7 Rows.deviceExactSpec Rows.deviceExactRow = true := by
 unfold joinedFacts
 rw [JdC, JaT, Jpv, JrV, JtZ, JtW, Jr0, JsQ]
 kernel_rfl
theorem Jup : Rows.deviceExactRow.holds Try.pinned (OpenSpec.ofChange Rows.deviceExactSpec) :=
 OpenClaim.holds_of_wide 7 Try.f7 rfl rfl rfl rfl rfl rfl rfl ⟨rfl, rfl, rfl, rfl, rfl⟩ rfl rfl rfl rfl rfl (by kernel_rfl) Try.func7 JoU
  (of_decide_eq_true (by kernel_rfl)) (by unfold Func.isWrapper; first | (rw [if_pos (by decide +kernel)]; kernel_rfl) | (rw [if_neg (by decide +kernel)]; exact ⟨rfl, rfl⟩))
  (fun os started H enc _ => JsV os started H enc)
theorem deviceExact_proved : Rows.DeviceExactSaid := Jup
end Go.Proofs.Ytkopficpneehnaa
