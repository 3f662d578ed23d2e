/-
  ImageWholes returns true for every input, and its arguments read afterwards as before. No condition.
-/
import Derived.Test.YtiallbcnaadmoaaRows
import Derived.Test.YtiallbcnaadmoaaM12
import Derived.Test.YtiallbcnaadmoaaM17
import Derived.Test.YtiallbcnaadmoaaM18
namespace Go.Proofs.Ytiallbcnaadmoaa
open Go.Am Go.ChangeShapes Go.WideShapes Go.ChangeAt Go.RowKit
set_option linter.unusedSimpArgs false
set_option linter.unusedVariables false
set_option maxRecDepth 100000 in
theorem JsE (os : Os) (started : os.Started) (H : Type) (enc : TypeId × Value → H) :
  ReturnsInHanded {} Try.checked os 7 .any (Rows.imageWholesSpec.pre6 enc Try.prog Try.f7 Rows.imageWholesRow.domain false) (Rows.imageWholesSpec.post enc Try.prog Try.f7 false true false false) := by
 refine returnsInHanded_of_change (C := Try.checked) own started (by kernel_rfl) Try.func7
  (ChangeSpec.witness6 (enc := enc) (C := Try.checked) false ⟨#[], #[.slice none 0 0, .int .u8 0], []⟩ 8 (by kernel_rfl) (by kernel_rfl) (by kernel_rfl) (by kernel_rfl)) ?_
 intro W base args ds gs before hval0 hW hcnd _
 have hval : ∀ (j : Nat) t v, Try.f7.params[j]? = some t → args[j]? = some v → Value.okWide Try.prog W .any base t v := hval0
 have hW' := hW
 obtain ⟨p, q, hA0, hV, rfl, hfz, hnd⟩ := hW
 have hA : DataW.TrodAll enc Try.prog W 0 (fun _ => true) true Try.f7.params.toList args.toList ds p := hA0
 rw [Try.params7] at hA hval
 obtain ⟨v0, vs0, d0, ds0, p0, q0, hargs, rfl, rfl, h0, r0⟩ := trodAll_cons hA
 obtain ⟨v1, vs1, d1, ds1, p1, q1, rfl, rfl, rfl, h1, r1⟩ := trodAll_cons r0
 obtain ⟨rfl, rfl, rfl⟩ := trodAll_nil r1
 obtain rfl : args = #[v0, v1] := by cases args; simp_all
 obtain ⟨pv0, y0, z0⟩ := JlS Jn0 JjC (n := 3) (by kernel_rfl) (hval 0 22 v0 rfl rfl) h0
 obtain ⟨x0, rfl, w0⟩ := (JpW u22 c5 (rd_u8 u5) : Rd Try.prog 3 22 (JhA 1 (r_i .u8)) _) _ y0
 rw [(JpH u22 c5)] at z0
 obtain ⟨pv1, y1, z1⟩ := JlS Jn0 JjC (n := 3) (by kernel_rfl) (hval 1 5 v1 rfl rfl) h1
 obtain ⟨x1, rfl, w1⟩ := (rd_u8 u5 : Rd Try.prog 3 5 (r_i .u8) _) _ y1
 rw [(JsB u5)] at z1
 have run := JcY encPS (x0 := x0) (x1 := x1) (Jd8 w0 w1)
 refine (JnT Jsd (f := 7) (args := [.p (.sl 1 (List.map (r_i .u8) x0)), .p (.i .u8 x1)]) (vals := #[v0, v1]) (w := W) rfl (fun i a v ha hv => ?_) run).mono fun e W' ⟨he, hg⟩ => ?_
 ·match i with
  | 0 => simp at ha hv; subst ha hv; exact z0
  | 1 => simp at ha hv; subst ha hv; exact z1
  | i + 2 => simp at ha
 ·subst he
  exact ⟨_, rfl, Jpo Jn0 JjC Jtu (by rw [Try.params7]; decide +kernel) (by kernel_rfl) (tb := 4) (by kernel_rfl) rfl (fun hg => by subst hg; rfl) hW' hg⟩
theorem JoO : Try.f7.params.all (Try.prog.readableRec ·) = true := by kernel_rfl
theorem JrC : (Rows.imageWholesRow.inPlace == Try.prog.inPlace 7) = true := by kernel_rfl
theorem Jtq : (Rows.imageWholesRow.unfollowed == Try.prog.unfollowed 7) = true := by kernel_rfl
theorem Jtz : (Rows.imageWholesRow.recurses == Try.prog.recurses 7) = true := by kernel_rfl
theorem Jrn : (Rows.imageWholesRow.named == Try.prog.varsNamed 7) = true := by kernel_rfl
theorem Jt4 : (Rows.imageWholesRow.plainKeys == Try.prog.plainKeys) = true := by kernel_rfl
theorem Jp5 : joinedFacts Try.prog 7 Try.f7 Rows.imageWholesSpec Rows.imageWholesRow = true := by
 unfold joinedFacts
 rw [Jn0, JjC, JoO, JrC, Jtq, Jtz, Jrn, Jt4]
 kernel_rfl
theorem JtX : Rows.imageWholesRow.holds Try.pinned (OpenSpec.ofChange Rows.imageWholesSpec) :=
 OpenClaim.holds_of_wide 7 Try.f7 rfl rfl rfl rfl rfl rfl rfl ⟨rfl, rfl, rfl, rfl, rfl⟩ rfl rfl rfl rfl rfl (by kernel_rfl) Try.func7 Jp5
  (of_decide_eq_true (by kernel_rfl)) (by unfold Func.isWrapper; first | (rw [if_pos (by decide +kernel)]; kernel_rfl) | (rw [if_neg (by decide +kernel)]; exact ⟨rfl, rfl⟩))
  (fun os started H enc _ => JsE os started H enc)
theorem imageWholes_proved : Rows.ImageWholesSaid := JtX
end Go.Proofs.Ytiallbcnaadmoaa
