/-
  ImageBack returns true for every input, and its arguments read afterwards as before. No condition.
-/
import Derived.Test.YtiallbcnaadmoaaRows
import Derived.Test.YtiallbcnaadmoaaM12
import Derived.Test.YtiallbcnaadmoaaM17
import Derived.Test.YtiallbcnaadmoaaM18
namespace Go.Proofs.Ytiallbcnaadmoaa
open Go.Am Go.ChangeShapes Go.WideShapes Go.ChangeAt Go.RowKit
set_option linter.unusedSimpArgs false
set_option linter.unusedVariables false
set_option maxRecDepth 100000 in
theorem JvN (os : Os) (started : os.Started) (H : Type) (enc : TypeId × Value → H) :
  ReturnsInHanded {} Try.checked os 6 .any (Rows.imageBackSpec.pre6 enc Try.prog Try.f6 Rows.imageBackRow.domain false) (Rows.imageBackSpec.post enc Try.prog Try.f6 false true false false) := by
 refine returnsInHanded_of_change (C := Try.checked) own started (by kernel_rfl) Try.func6
  (ChangeSpec.witness6 (enc := enc) (C := Try.checked) false ⟨#[], #[.slice none 0 0, .int .u16 0, .int .u8 0], []⟩ 8 (by kernel_rfl) (by kernel_rfl) (by kernel_rfl) (by kernel_rfl)) ?_
 intro W base args ds gs before hval0 hW hcnd _
 have hval : ∀ (j : Nat) t v, Try.f6.params[j]? = some t → args[j]? = some v → Value.okWide Try.prog W .any base t v := hval0
 have hW' := hW
 obtain ⟨p, q, hA0, hV, rfl, hfz, hnd⟩ := hW
 have hA : DataW.TrodAll enc Try.prog W 0 (fun _ => true) true Try.f6.params.toList args.toList ds p := hA0
 rw [Try.params6] at hA hval
 obtain ⟨v0, vs0, d0, ds0, p0, q0, hargs, rfl, rfl, h0, r0⟩ := trodAll_cons hA
 obtain ⟨v1, vs1, d1, ds1, p1, q1, rfl, rfl, rfl, h1, r1⟩ := trodAll_cons r0
 obtain ⟨v2, vs2, d2, ds2, p2, q2, rfl, rfl, rfl, h2, r2⟩ := trodAll_cons r1
 obtain ⟨rfl, rfl, rfl⟩ := trodAll_nil r2
 obtain rfl : args = #[v0, v1, v2] := by cases args; simp_all
 obtain ⟨pv0, y0, z0⟩ := JjG Jmw Jiq (n := 3) (by kernel_rfl) (hval 0 22 v0 rfl rfl) h0
 obtain ⟨x0, rfl, w0⟩ := (Jss u22 c5 (rd_u8 u5) : Rd Try.prog 3 22 (JjV 1 (r_i .u8)) _) _ y0
 rw [(Jsu u22 c5)] at z0
 obtain ⟨pv1, y1, z1⟩ := JjG Jmw Jiq (n := 3) (by kernel_rfl) (hval 1 69 v1 rfl rfl) h1
 obtain ⟨x1, rfl, w1⟩ := (rd_u16 u69 : Rd Try.prog 3 69 (r_i .u16) _) _ y1
 rw [(Jqf u69)] at z1
 obtain ⟨pv2, y2, z2⟩ := JjG Jmw Jiq (n := 3) (by kernel_rfl) (hval 2 5 v2 rfl rfl) h2
 obtain ⟨x2, rfl, w2⟩ := (rd_u8 u5 : Rd Try.prog 3 5 (r_i .u8) _) _ y2
 rw [(Jqf u5)] at z2
 have run := JgJ encPS (x0 := x0) (x1 := x1) (x2 := x2) (JgG w0 w1 w2)
 refine (JqQ Jv3 (f := 6) (args := [.p (.sl 1 (List.map (r_i .u8) x0)), .p (.i .u16 x1), .p (.i .u8 x2)]) (vals := #[v0, v1, v2]) (w := W) rfl (fun i a v ha hv => ?_) run).mono fun e W' ⟨he, hg⟩ => ?_
 ·match i with
  | 0 => simp at ha hv; subst ha hv; exact z0
  | 1 => simp at ha hv; subst ha hv; exact z1
  | 2 => simp at ha hv; subst ha hv; exact z2
  | i + 3 => simp at ha
 ·subst he
  exact ⟨_, rfl, JrN Jmw Jiq Jwd (by rw [Try.params6]; decide +kernel) (by kernel_rfl) (tb := 4) (by kernel_rfl) rfl (fun hg => by subst hg; rfl) hW' hg⟩
theorem JsX : Try.f6.params.all (Try.prog.readableRec ·) = true := by kernel_rfl
theorem JuC : (Rows.imageBackRow.inPlace == Try.prog.inPlace 6) = true := by kernel_rfl
theorem Jwm : (Rows.imageBackRow.unfollowed == Try.prog.unfollowed 6) = true := by kernel_rfl
theorem Jwf : (Rows.imageBackRow.recurses == Try.prog.recurses 6) = true := by kernel_rfl
theorem Ju1 : (Rows.imageBackRow.named == Try.prog.varsNamed 6) = true := by kernel_rfl
theorem JvP : (Rows.imageBackRow.plainKeys == Try.prog.plainKeys) = true := by kernel_rfl
theorem Jsp : joinedFacts Try.prog 6 Try.f6 Rows.imageBackSpec Rows.imageBackRow = true := by
 unfold joinedFacts
 rw [Jmw, Jiq, JsX, JuC, Jwm, Jwf, Ju1, JvP]
 kernel_rfl
theorem JwC : Rows.imageBackRow.holds Try.pinned (OpenSpec.ofChange Rows.imageBackSpec) :=
 OpenClaim.holds_of_wide 6 Try.f6 rfl rfl rfl rfl rfl rfl rfl ⟨rfl, rfl, rfl, rfl, rfl⟩ rfl rfl rfl rfl rfl (by kernel_rfl) Try.func6 Jsp
  (of_decide_eq_true (by kernel_rfl)) (by unfold Func.isWrapper; first | (rw [if_pos (by decide +kernel)]; kernel_rfl) | (rw [if_neg (by decide +kernel)]; exact ⟨rfl, rfl⟩))
  (fun os started H enc _ => JvN os started H enc)
theorem imageBack_proved : Rows.ImageBackSaid := JwC
end Go.Proofs.Ytiallbcnaadmoaa
