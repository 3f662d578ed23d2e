/-
  ImagePuts returns true for every input, and its arguments read afterwards as before. No condition.
-/
import Derived.Test.YtiallbcnaadmoaaRows
import Derived.Test.YtiallbcnaadmoaaM12
import Derived.Test.YtiallbcnaadmoaaM17
import Derived.Test.YtiallbcnaadmoaaM18
namespace Go.Proofs.Ytiallbcnaadmoaa
open Go.Am Go.ChangeShapes Go.WideShapes Go.ChangeAt Go.RowKit
set_option linter.unusedSimpArgs false
set_option linter.unusedVariables false
set_option maxRecDepth 100000 in
theorem Jub (os : Os) (started : os.Started) (H : Type) (enc : TypeId × Value → H) :
  ReturnsInHanded {} Try.checked os 11 .any (Rows.imagePutsSpec.pre6 enc Try.prog Try.f11 Rows.imagePutsRow.domain false) (Rows.imagePutsSpec.post enc Try.prog Try.f11 false true false false) := by
 refine returnsInHanded_of_change (C := Try.checked) own started (by kernel_rfl) Try.func11
  (ChangeSpec.witness6 (enc := enc) (C := Try.checked) false ⟨#[], #[.slice none 0 0], []⟩ 8 (by kernel_rfl) (by kernel_rfl) (by kernel_rfl) (by kernel_rfl)) ?_
 intro W base args ds gs before hval0 hW hcnd _
 have hval : ∀ (j : Nat) t v, Try.f11.params[j]? = some t → args[j]? = some v → Value.okWide Try.prog W .any base t v := hval0
 have hW' := hW
 obtain ⟨p, q, hA0, hV, rfl, hfz, hnd⟩ := hW
 have hA : DataW.TrodAll enc Try.prog W 0 (fun _ => true) true Try.f11.params.toList args.toList ds p := hA0
 rw [Try.params11] at hA hval
 obtain ⟨v0, vs0, d0, ds0, p0, q0, hargs, rfl, rfl, h0, r0⟩ := trodAll_cons hA
 obtain ⟨rfl, rfl, rfl⟩ := trodAll_nil r0
 obtain rfl : args = #[v0] := by cases args; simp_all
 obtain ⟨pv0, y0, z0⟩ := JsN JqJ JoU (n := 3) (by kernel_rfl) (hval 0 22 v0 rfl rfl) h0
 obtain ⟨x0, rfl, w0⟩ := (JqU u22 c5 (Jvj u5) : Rd Try.prog 3 22 (Jje 1 (r_i .u8)) _) _ y0
 rw [(JqO u22 c5)] at z0
 have run := JfO encPS (x0 := x0) (Jgc w0)
 refine (Jpw Jui (f := 11) (args := [.p (.sl 1 (List.map (r_i .u8) x0))]) (vals := #[v0]) (w := W) rfl (fun i a v ha hv => ?_) run).mono fun e W' ⟨he, hg⟩ => ?_
 ·match i with
  | 0 => simp at ha hv; subst ha hv; exact z0
  | i + 1 => simp at ha
 ·subst he
  exact ⟨_, rfl, JrU JqJ JoU Jvt (by rw [Try.params11]; decide +kernel) (by kernel_rfl) (tb := 4) (by kernel_rfl) rfl (fun hg => by subst hg; rfl) hW' hg⟩
theorem Jsg : Try.f11.params.all (Try.prog.readableRec ·) = true := by kernel_rfl
theorem JtA : (Rows.imagePutsRow.inPlace == Try.prog.inPlace 11) = true := by kernel_rfl
theorem Jvv : (Rows.imagePutsRow.unfollowed == Try.prog.unfollowed 11) = true := by kernel_rfl
theorem JvD : (Rows.imagePutsRow.recurses == Try.prog.recurses 11) = true := by kernel_rfl
theorem Jtp : (Rows.imagePutsRow.named == Try.prog.varsNamed 11) = true := by kernel_rfl
theorem Juy : (Rows.imagePutsRow.plainKeys == Try.prog.plainKeys) = true := by kernel_rfl
theorem JrM : joinedFacts Try.prog 11 Try.f11 Rows.imagePutsSpec Rows.imagePutsRow = true := by
 unfold joinedFacts
 rw [JqJ, JoU, Jsg, JtA, Jvv, JvD, Jtp, Juy]
 kernel_rfl
theorem JvU : Rows.imagePutsRow.holds Try.pinned (OpenSpec.ofChange Rows.imagePutsSpec) :=
 OpenClaim.holds_of_wide 11 Try.f11 rfl rfl rfl rfl rfl rfl rfl ⟨rfl, rfl, rfl, rfl, rfl⟩ rfl rfl rfl rfl rfl (by kernel_rfl) Try.func11 JrM
  (of_decide_eq_true (by kernel_rfl)) (by unfold Func.isWrapper; first | (rw [if_pos (by decide +kernel)]; kernel_rfl) | (rw [if_neg (by decide +kernel)]; exact ⟨rfl, rfl⟩))
  (fun os started H enc _ => Jub os started H enc)
theorem imagePuts_proved : Rows.ImagePutsSaid := JvU
end Go.Proofs.Ytiallbcnaadmoaa
