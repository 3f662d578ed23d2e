/-
  DeviceOnce returns true for every input, and its arguments read afterwards as before. No condition.
-/
import Derived.Test.YtkopficpneehnaaRows
import Derived.Test.YtkopficpneehnaaM5
import Derived.Test.YtkopficpneehnaaM6
import Derived.Test.YtkopficpneehnaaM7
namespace Go.Proofs.Ytkopficpneehnaa
open Go.Am Go.ChangeShapes Go.WideShapes Go.ChangeAt Go.RowKit
set_option linter.unusedSimpArgs false
set_option linter.unusedVariables false
set_option maxRecDepth 100000
theorem own : ownKnob Try.prog.godebug = none := by kernel_rfl
theorem J3W : laidOutB Try.prog = true := by kernel_rfl
theorem J2g : mapsRowed Try.prog = true := by kernel_rfl
theorem JaB : J3x Try.prog = true := by kernel_rfl
theorem J8d (os : Os) (started : os.Started) (H : Type) (enc : TypeId × Value → H) :
  ReturnsInHanded {} Try.checked os 5 .any (Rows.deviceOnceSpec.pre6 enc Try.prog Try.f5 Rows.deviceOnceRow.domain false) (Rows.deviceOnceSpec.post enc Try.prog Try.f5 false true false false) := by
 refine returnsInHanded_of_change (C := Try.checked) own started (by kernel_rfl) Try.func5
  (ChangeSpec.witness6 (enc := enc) (C := Try.checked) false ⟨#[], #[.slice none 0 0, .int .u8 0, .int .u8 0], []⟩ 8 (by kernel_rfl) (by kernel_rfl) (by kernel_rfl) (by kernel_rfl)) ?_
 intro W base args ds gs before hval0 hW hcnd _
 have hval : ∀ (j : Nat) t v, Try.f5.params[j]? = some t → args[j]? = some v → Value.okWide Try.prog W .any base t v := hval0
 have hW' := hW
 obtain ⟨p, q, hA0, hV, rfl, hfz, hnd⟩ := hW
 have hA : DataW.TrodAll enc Try.prog W 0 (fun _ => true) true Try.f5.params.toList args.toList ds p := hA0
 rw [Try.params5] at hA hval
 obtain ⟨v0, vs0, d0, ds0, p0, q0, hargs, rfl, rfl, h0, r0⟩ := trodAll_cons hA
 obtain ⟨v1, vs1, d1, ds1, p1, q1, rfl, rfl, rfl, h1, r1⟩ := trodAll_cons r0
 obtain ⟨v2, vs2, d2, ds2, p2, q2, rfl, rfl, rfl, h2, r2⟩ := trodAll_cons r1
 obtain ⟨rfl, rfl, rfl⟩ := trodAll_nil r2
 obtain rfl : args = #[v0, v1, v2] := by cases args; simp_all
 obtain ⟨pv0, y0, z0⟩ := J55 J3W J2g (n := 12) (by kernel_rfl) (hval 0 22 v0 rfl rfl) h0
 obtain ⟨x0, rfl, w0⟩ := rdT 12 (.l (.i .u8)) 22 (by kernel_rfl) _ y0
 rw [J6y (lns []) (agg := false) (by kernel_rfl) (fun _ => by first | rfl | contradiction) x0] at z0
 obtain ⟨pv1, y1, z1⟩ := J55 J3W J2g (n := 12) (by kernel_rfl) (hval 1 5 v1 rfl rfl) h1
 obtain ⟨x1, rfl, w1⟩ := rdT 12 (.i .u8) 5 (by kernel_rfl) _ y1
 rw [J6y (lns []) (agg := false) (by kernel_rfl) (fun _ => by first | rfl | contradiction) x1] at z1
 obtain ⟨pv2, y2, z2⟩ := J55 J3W J2g (n := 12) (by kernel_rfl) (hval 2 5 v2 rfl rfl) h2
 obtain ⟨x2, rfl, w2⟩ := rdT 12 (.i .u8) 5 (by kernel_rfl) _ y2
 rw [J6y (lns []) (agg := false) (by kernel_rfl) (fun _ => by first | rfl | contradiction) x2] at z2
 have run := Jfn (Jbc) (xs := [J9b false (.l (.i .u8)) x0, J9b false (.i .u8) x1, J9b false (.i .u8) x2]) (x := (x0, x1, x2)) rfl (Jbo w0 w1 w2) rfl
 refine (J8J JeY (f := 5) (vals := #[v0, v1, v2]) (w := W) rfl (fun i a v ha hv => ?_) run).mono fun e W' ⟨he, hg⟩ => ?_
 ·match i with
  | 0 => simp at ha hv; subst ha hv; exact z0
  | 1 => simp at ha hv; subst ha hv; exact z1
  | 2 => simp at ha hv; subst ha hv; exact z2
  | i + 3 => simp at ha
 ·subst he
  exact ⟨_, rfl, Jan J3W J2g JaB (by rw [Try.params5]; decide +kernel) (by kernel_rfl) (tb := 4) (by kernel_rfl) rfl (fun hg => by subst hg; rfl) hW' hg⟩
theorem J5L : Try.f5.params.all (Try.prog.readableRec ·) = true := by kernel_rfl
theorem J75 : (Rows.deviceOnceRow.inPlace == Try.prog.inPlace 5) = true := by kernel_rfl
theorem Jad : (Rows.deviceOnceRow.unfollowed == Try.prog.unfollowed 5) = true := by kernel_rfl
theorem Jac : (Rows.deviceOnceRow.recurses == Try.prog.recurses 5) = true := by kernel_rfl
theorem J6T : (Rows.deviceOnceRow.named == Try.prog.varsNamed 5) = true := by kernel_rfl
theorem J8o : (Rows.deviceOnceRow.plainKeys == Try.prog.plainKeys) = true := by kernel_rfl
theorem J5O : joinedFacts Try.prog 5 Try.f5 Rows.deviceOnceSpec Rows.deviceOnceRow = true := by
 unfold joinedFacts
 rw [J3W, J2g, J5L, J75, Jad, Jac, J6T, J8o]
 kernel_rfl
theorem JdY : Rows.deviceOnceRow.holds Try.pinned (OpenSpec.ofChange Rows.deviceOnceSpec) :=
 OpenClaim.holds_of_wide 5 Try.f5 rfl rfl rfl rfl rfl rfl rfl ⟨rfl, rfl, rfl, rfl, rfl⟩ rfl rfl rfl rfl rfl (by kernel_rfl) Try.func5 J5O
  (of_decide_eq_true (by kernel_rfl)) (by unfold Func.isWrapper; first | (rw [if_pos (by decide +kernel)]; kernel_rfl) | (rw [if_neg (by decide +kernel)]; exact ⟨rfl, rfl⟩))
  (fun os started H enc _ => J8d os started H enc)
theorem deviceOnce_proved : Rows.DeviceOnceSaid := JdY
end Go.Proofs.Ytkopficpneehnaa
