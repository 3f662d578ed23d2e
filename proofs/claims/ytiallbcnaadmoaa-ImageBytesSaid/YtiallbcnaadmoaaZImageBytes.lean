/-
  ImageBytes returns true for every input, and its arguments read afterwards as before. No condition.
-/
import Derived.Test.YtiallbcnaadmoaaRows
import Derived.Test.YtiallbcnaadmoaaM12
import Derived.Test.YtiallbcnaadmoaaM13
import Derived.Test.YtiallbcnaadmoaaM18
import Derived.Test.YtiallbcnaadmoaaM19
namespace Go.Proofs.Ytiallbcnaadmoaa
open Go.Am Go.ChangeShapes Go.WideShapes Go.ChangeAt Go.RowKit
set_option linter.unusedSimpArgs false
set_option linter.unusedVariables false
set_option maxRecDepth 100000 in
theorem Jwq (os : Os) (started : os.Started) (H : Type) (enc : TypeId × Value → H) :
  ReturnsInHanded {} Try.checked os 3 .any (Rows.imageBytesSpec.pre6 enc Try.prog Try.f3 Rows.imageBytesRow.domain false) (Rows.imageBytesSpec.post enc Try.prog Try.f3 false true false false) := by
 refine returnsInHanded_of_change (C := Try.checked) own started (by kernel_rfl) Try.func3
  (ChangeSpec.witness6 (enc := enc) (C := Try.checked) false ⟨#[], #[.slice none 0 0, .string ⟨#[]⟩], []⟩ 8 (by kernel_rfl) (by kernel_rfl) (by kernel_rfl) (by kernel_rfl)) ?_
 intro W base args ds gs before hval0 hW hcnd _
 have hval : ∀ (j : Nat) t v, Try.f3.params[j]? = some t → args[j]? = some v → Value.okWide Try.prog W .any base t v := hval0
 have hW' := hW
 obtain ⟨p, q, hA0, hV, rfl, hfz, hnd⟩ := hW
 have hA : DataW.TrodAll enc Try.prog W 0 (fun _ => true) true Try.f3.params.toList args.toList ds p := hA0
 rw [Try.params3] at hA hval
 obtain ⟨v0, vs0, d0, ds0, p0, q0, hargs, rfl, rfl, h0, r0⟩ := trodAll_cons hA
 obtain ⟨v1, vs1, d1, ds1, p1, q1, rfl, rfl, rfl, h1, r1⟩ := trodAll_cons r0
 obtain ⟨rfl, rfl, rfl⟩ := trodAll_nil r1
 obtain rfl : args = #[v0, v1] := by cases args; simp_all
 obtain ⟨pv0, y0, z0⟩ := JpU JqL Jnj (n := 3) (by kernel_rfl) (hval 0 22 v0 rfl rfl) h0
 obtain ⟨x0, rfl, w0⟩ := (JsT u22 c5 (Jxu u5) : Rd Try.prog 3 22 (JkU 1 (r_i .u8)) _) _ y0
 rw [(Jtz u22 c5)] at z0
 obtain ⟨pv1, y1, z1⟩ := JpU JqL Jnj (n := 3) (by kernel_rfl) (hval 1 9 v1 rfl rfl) h1
 obtain ⟨x1, rfl, w1⟩ := (rd_str u9 : Rd Try.prog 3 9 r_s _) _ y1
 rw [(Jx2 u9)] at z1
 have run := Jga encPS (x0 := x0) (x1 := x1) (JgK w0 w1)
 refine (Js3 Jw5 (f := 3) (args := [.p (.sl 1 (List.map (r_i .u8) x0)), .p (.s x1)]) (vals := #[v0, v1]) (w := W) rfl (fun i a v ha hv => ?_) run).mono fun e W' ⟨he, hg⟩ => ?_
 ·match i with
  | 0 => simp at ha hv; subst ha hv; exact z0
  | 1 => simp at ha hv; subst ha hv; exact z1
  | i + 2 => simp at ha
 ·subst he
  exact ⟨_, rfl, Jtp JqL Jnj Jxs (by rw [Try.params3]; decide +kernel) (by kernel_rfl) (tb := 4) (by kernel_rfl) rfl (fun hg => by subst hg; rfl) hW' hg⟩
theorem JtE : Try.f3.params.all (Try.prog.readableRec ·) = true := by kernel_rfl
theorem JvN : (Rows.imageBytesRow.inPlace == Try.prog.inPlace 3) = true := by kernel_rfl
theorem Jxj : (Rows.imageBytesRow.unfollowed == Try.prog.unfollowed 3) = true := by kernel_rfl
theorem Jxh : (Rows.imageBytesRow.recurses == Try.prog.recurses 3) = true := by kernel_rfl
theorem JuL : (Rows.imageBytesRow.named == Try.prog.varsNamed 3) = true := by kernel_rfl
theorem Jwt : (Rows.imageBytesRow.plainKeys == Try.prog.plainKeys) = true := by kernel_rfl
theorem JtC : joinedFacts Try.prog 3 Try.f3 Rows.imageBytesSpec Rows.imageBytesRow = true := by
 unfold joinedFacts
 rw [JqL, Jnj, JtE, JvN, Jxj, Jxh, JuL, Jwt]
 kernel_rfl
theorem JxZ : Rows.imageBytesRow.holds Try.pinned (OpenSpec.ofChange Rows.imageBytesSpec) :=
 OpenClaim.holds_of_wide 3 Try.f3 rfl rfl rfl rfl rfl rfl rfl ⟨rfl, rfl, rfl, rfl, rfl⟩ rfl rfl rfl rfl rfl (by kernel_rfl) Try.func3 JtC
  (of_decide_eq_true (by kernel_rfl)) (by unfold Func.isWrapper; first | (rw [if_pos (by decide +kernel)]; kernel_rfl) | (rw [if_neg (by decide +kernel)]; exact ⟨rfl, rfl⟩))
  (fun os started H enc _ => Jwq os started H enc)
theorem imageBytes_proved : Rows.ImageBytesSaid := JxZ
end Go.Proofs.Ytiallbcnaadmoaa
