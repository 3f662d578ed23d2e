/-
  ImageExact returns true for every input, and its arguments read afterwards as before. No condition.
-/
import Derived.Test.YtiallbcnaadmoaaRows
import Derived.Test.YtiallbcnaadmoaaM12
import Derived.Test.YtiallbcnaadmoaaM17
import Derived.Test.YtiallbcnaadmoaaM18
namespace Go.Proofs.Ytiallbcnaadmoaa
open Go.Am Go.ChangeShapes Go.WideShapes Go.ChangeAt Go.RowKit
set_option linter.unusedSimpArgs false
set_option linter.unusedVariables false
set_option maxRecDepth 100000 in
theorem JwM (os : Os) (started : os.Started) (H : Type) (enc : TypeId × Value → H) :
  ReturnsInHanded {} Try.checked os 15 .any (Rows.imageExactSpec.pre6 enc Try.prog Try.f15 Rows.imageExactRow.domain false) (Rows.imageExactSpec.post enc Try.prog Try.f15 false true false false) := by
 refine returnsInHanded_of_change (C := Try.checked) own started (by kernel_rfl) Try.func15
  (ChangeSpec.witness6 (enc := enc) (C := Try.checked) false ⟨#[], #[.slice none 0 0, .int .i64 0, .string ⟨#[]⟩], []⟩ 8 (by kernel_rfl) (by kernel_rfl) (by kernel_rfl) (by kernel_rfl)) ?_
 intro W base args ds gs before hval0 hW hcnd _
 have hval : ∀ (j : Nat) t v, Try.f15.params[j]? = some t → args[j]? = some v → Value.okWide Try.prog W .any base t v := hval0
 have hW' := hW
 obtain ⟨p, q, hA0, hV, rfl, hfz, hnd⟩ := hW
 have hA : DataW.TrodAll enc Try.prog W 0 (fun _ => true) true Try.f15.params.toList args.toList ds p := hA0
 rw [Try.params15] at hA hval
 obtain ⟨v0, vs0, d0, ds0, p0, q0, hargs, rfl, rfl, h0, r0⟩ := trodAll_cons hA
 obtain ⟨v1, vs1, d1, ds1, p1, q1, rfl, rfl, rfl, h1, r1⟩ := trodAll_cons r0
 obtain ⟨v2, vs2, d2, ds2, p2, q2, rfl, rfl, rfl, h2, r2⟩ := trodAll_cons r1
 obtain ⟨rfl, rfl, rfl⟩ := trodAll_nil r2
 obtain rfl : args = #[v0, v1, v2] := by cases args; simp_all
 obtain ⟨pv0, y0, z0⟩ := Jl8 JnG Jkq (n := 3) (by kernel_rfl) (hval 0 22 v0 rfl rfl) h0
 obtain ⟨x0, rfl, w0⟩ := (JsN u22 c5 (Jxq u5) : Rd Try.prog 3 22 (Jl9 1 (r_i .u8)) _) _ y0
 rw [(Jts u22 c5)] at z0
 obtain ⟨pv1, y1, z1⟩ := Jl8 JnG Jkq (n := 3) (by kernel_rfl) (hval 1 3 v1 rfl rfl) h1
 obtain ⟨x1, rfl, w1⟩ := (rd_i64 u3 : Rd Try.prog 3 3 (r_i .i64) _) _ y1
 rw [(JwA u3)] at z1
 obtain ⟨pv2, y2, z2⟩ := Jl8 JnG Jkq (n := 3) (by kernel_rfl) (hval 2 9 v2 rfl rfl) h2
 obtain ⟨x2, rfl, w2⟩ := (rd_str u9 : Rd Try.prog 3 9 r_s _) _ y2
 rw [(JwB u9)] at z2
 have run := Jge encPS (x0 := x0) (x1 := x1) (x2 := x2) (Jgb w0 w1 w2)
 refine (Jsq Jwh (f := 15) (args := [.p (.sl 1 (List.map (r_i .u8) x0)), .p (.i .i64 x1), .p (.s x2)]) (vals := #[v0, v1, v2]) (w := W) rfl (fun i a v ha hv => ?_) run).mono fun e W' ⟨he, hg⟩ => ?_
 ·match i with
  | 0 => simp at ha hv; subst ha hv; exact z0
  | 1 => simp at ha hv; subst ha hv; exact z1
  | 2 => simp at ha hv; subst ha hv; exact z2
  | i + 3 => simp at ha
 ·subst he
  exact ⟨_, rfl, JsP JnG Jkq Jxk (by rw [Try.params15]; decide +kernel) (by kernel_rfl) (tb := 4) (by kernel_rfl) rfl (fun hg => by subst hg; rfl) hW' hg⟩
theorem Jth : Try.f15.params.all (Try.prog.readableRec ·) = true := by kernel_rfl
theorem JuQ : (Rows.imageExactRow.inPlace == Try.prog.inPlace 15) = true := by kernel_rfl
theorem JxI : (Rows.imageExactRow.unfollowed == Try.prog.unfollowed 15) = true := by kernel_rfl
theorem JxG : (Rows.imageExactRow.recurses == Try.prog.recurses 15) = true := by kernel_rfl
theorem JuD : (Rows.imageExactRow.named == Try.prog.varsNamed 15) = true := by kernel_rfl
theorem Jwp : (Rows.imageExactRow.plainKeys == Try.prog.plainKeys) = true := by kernel_rfl
theorem Jt5 : joinedFacts Try.prog 15 Try.f15 Rows.imageExactSpec Rows.imageExactRow = true := by
 unfold joinedFacts
 rw [JnG, Jkq, Jth, JuQ, JxI, JxG, JuD, Jwp]
 kernel_rfl
theorem Jy2 : Rows.imageExactRow.holds Try.pinned (OpenSpec.ofChange Rows.imageExactSpec) :=
 OpenClaim.holds_of_wide 15 Try.f15 rfl rfl rfl rfl rfl rfl rfl ⟨rfl, rfl, rfl, rfl, rfl⟩ rfl rfl rfl rfl rfl (by kernel_rfl) Try.func15 Jt5
  (of_decide_eq_true (by kernel_rfl)) (by unfold Func.isWrapper; first | (rw [if_pos (by decide +kernel)]; kernel_rfl) | (rw [if_neg (by decide +kernel)]; exact ⟨rfl, rfl⟩))
  (fun os started H enc _ => JwM os started H enc)
theorem imageExact_proved : Rows.ImageExactSaid := Jy2
end Go.Proofs.Ytiallbcnaadmoaa
