/-
  DeviceQuiet returns true for every input, and its arguments read afterwards as before. No condition.
-/
import Derived.Test.YtkopficpneehnaaRows
import Derived.Test.YtkopficpneehnaaM5
import Derived.Test.YtkopficpneehnaaM6
import Derived.Test.YtkopficpneehnaaM7
namespace Go.Proofs.Ytkopficpneehnaa
open Go.Am Go.ChangeShapes Go.WideShapes Go.ChangeAt Go.RowKit
set_option linter.unusedSimpArgs false
set_option linter.unusedVariables false
set_option maxRecDepth 100000
theorem own : ownKnob Try.prog.godebug = none := by kernel_rfl
theorem J3W : laidOutB Try.prog = true := by kernel_rfl
theorem J2g : mapsRowed Try.prog = true := by kernel_rfl
theorem JaB : J3x Try.prog = true := by kernel_rfl
theorem J8d (os : Os) (started : os.Started) (H : Type) (enc : TypeId × Value → H) :
  ReturnsInHanded {} Try.checked os 4 .any (Rows.deviceQuietSpec.pre6 enc Try.prog Try.f4 Rows.deviceQuietRow.domain false) (Rows.deviceQuietSpec.post enc Try.prog Try.f4 false true false false) := by
 refine returnsInHanded_of_change (C := Try.checked) own started (by kernel_rfl) Try.func4
  (ChangeSpec.witness6 (enc := enc) (C := Try.checked) false ⟨#[], #[.slice none 0 0], []⟩ 8 (by kernel_rfl) (by kernel_rfl) (by kernel_rfl) (by kernel_rfl)) ?_
 intro W base args ds gs before hval0 hW hcnd _
 have hval : ∀ (j : Nat) t v, Try.f4.params[j]? = some t → args[j]? = some v → Value.okWide Try.prog W .any base t v := hval0
 have hW' := hW
 obtain ⟨p, q, hA0, hV, rfl, hfz, hnd⟩ := hW
 have hA : DataW.TrodAll enc Try.prog W 0 (fun _ => true) true Try.f4.params.toList args.toList ds p := hA0
 rw [Try.params4] at hA hval
 obtain ⟨v0, vs0, d0, ds0, p0, q0, hargs, rfl, rfl, h0, r0⟩ := trodAll_cons hA
 obtain ⟨rfl, rfl, rfl⟩ := trodAll_nil r0
 obtain rfl : args = #[v0] := by cases args; simp_all
 obtain ⟨pv0, y0, z0⟩ := J55 J3W J2g (n := 12) (by kernel_rfl) (hval 0 22 v0 rfl rfl) h0
 obtain ⟨x0, rfl, w0⟩ := rdT 12 (.l (.i .u8)) 22 (by kernel_rfl) _ y0
 rw [J6y (lns []) (agg := false) (by kernel_rfl) (fun _ => by first | rfl | contradiction) x0] at z0
 have run := Jfn (Jb8) (xs := [J9b false (.l (.i .u8)) x0]) (x := x0) rfl (JaX w0) rfl
 refine (J8J JeY (f := 4) (vals := #[v0]) (w := W) rfl (fun i a v ha hv => ?_) run).mono fun e W' ⟨he, hg⟩ => ?_
 ·match i with
  | 0 => simp at ha hv; subst ha hv; exact z0
  | i + 1 => simp at ha
 ·subst he
  exact ⟨_, rfl, Jan J3W J2g JaB (by rw [Try.params4]; decide +kernel) (by kernel_rfl) (tb := 4) (by kernel_rfl) rfl (fun hg => by subst hg; rfl) hW' hg⟩
theorem J5L : Try.f4.params.all (Try.prog.readableRec ·) = true := by kernel_rfl
theorem J75 : (Rows.deviceQuietRow.inPlace == Try.prog.inPlace 4) = true := by kernel_rfl
theorem Jad : (Rows.deviceQuietRow.unfollowed == Try.prog.unfollowed 4) = true := by kernel_rfl
theorem Jac : (Rows.deviceQuietRow.recurses == Try.prog.recurses 4) = true := by kernel_rfl
theorem J6T : (Rows.deviceQuietRow.named == Try.prog.varsNamed 4) = true := by kernel_rfl
theorem J8o : (Rows.deviceQuietRow.plainKeys == Try.prog.plainKeys) = true := by kernel_rfl
theorem J5O : joinedFacts Try.prog 4 Try.f4 Rows.deviceQuietSpec Rows.deviceQuietRow = true := by
 unfold joinedFacts
 rw [J3W, J2g, J5L, J75, Jad, Jac, J6T, J8o]
 kernel_rfl
theorem JdY : Rows.deviceQuietRow.holds Try.pinned (OpenSpec.ofChange Rows.deviceQuietSpec) :=
 OpenClaim.holds_of_wide 4 Try.f4 rfl rfl rfl rfl rfl rfl rfl ⟨rfl, rfl, rfl, rfl, rfl⟩ rfl rfl rfl rfl rfl (by kernel_rfl) Try.func4 J5O
  (of_decide_eq_true (by kernel_rfl)) (by unfold Func.isWrapper; first | (rw [if_pos (by decide +kernel)]; kernel_rfl) | (rw [if_neg (by decide +kernel)]; exact ⟨rfl, rfl⟩))
  (fun os started H enc _ => J8d os started H enc)
theorem deviceQuiet_proved : Rows.DeviceQuietSaid := JdY
end Go.Proofs.Ytkopficpneehnaa
