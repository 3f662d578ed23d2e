/-
  PageindexJudges returns true for every input, and its arguments read afterwards as before. No condition.
-/
import Derived.Test.YtiallbcnaadmoaaRows
import Derived.Test.YtiallbcnaadmoaaM10
import Derived.Test.YtiallbcnaadmoaaM14
namespace Go.Proofs.Ytiallbcnaadmoaa
open Go.Am Go.ChangeShapes Go.WideShapes Go.ChangeAt Go.RowKit
set_option linter.unusedSimpArgs false
set_option linter.unusedVariables false
set_option maxRecDepth 100000 in
theorem JwP (os : Os) (started : os.Started) (H : Type) (enc : TypeId × Value → H) :
    ReturnsInHanded {} Try.checked os 4 .any (Rows.pageindexJudgesSpec.pre6 enc Try.prog Try.f4 Rows.pageindexJudgesRow.domain false) (Rows.pageindexJudgesSpec.post enc Try.prog Try.f4 false true false false) := by
  refine returnsInHanded_of_change (C := Try.checked) own started (by kernel_rfl) Try.func4
    (ChangeSpec.witness6 (enc := enc) (C := Try.checked) false ⟨#[], #[.slice none 0 0, .agg #[.slice none 0 0], .int .i64 0, .int .i64 0, .string ⟨#[]⟩], []⟩ 8 (by kernel_rfl) (by kernel_rfl) (by kernel_rfl) (by kernel_rfl)) ?_
  intro W base args ds gs before hval0 hW hcnd _
  have hval : ∀ (j : Nat) t v, Try.f4.params[j]? = some t → args[j]? = some v → Value.okWide Try.prog W .any base t v := hval0
  have hW' := hW
  obtain ⟨p, q, hA0, hV, rfl, hfz, hnd⟩ := hW
  have hA : DataW.TrodAll enc Try.prog W 0 (fun _ => true) true Try.f4.params.toList args.toList ds p := hA0
  rw [Try.params4] at hA hval
  obtain ⟨v0, vs0, d0, ds0, p0, q0, hargs, rfl, rfl, h0, r0⟩ := trodAll_cons hA
  obtain ⟨v1, vs1, d1, ds1, p1, q1, rfl, rfl, rfl, h1, r1⟩ := trodAll_cons r0
  obtain ⟨v2, vs2, d2, ds2, p2, q2, rfl, rfl, rfl, h2, r2⟩ := trodAll_cons r1
  obtain ⟨v3, vs3, d3, ds3, p3, q3, rfl, rfl, rfl, h3, r3⟩ := trodAll_cons r2
  obtain ⟨v4, vs4, d4, ds4, p4, q4, rfl, rfl, rfl, h4, r4⟩ := trodAll_cons r3
  obtain ⟨rfl, rfl, rfl⟩ := trodAll_nil r4
  obtain rfl : args = #[v0, v1, v2, v3, v4] := by cases args; simp_all
  obtain ⟨pv0, y0, z0⟩ := Jen JiF JeX (n := 5) (by kernel_rfl) (hval 0 22 v0 rfl rfl) h0
  obtain ⟨x0, rfl, w0⟩ := (JnC u22 c5 (JwU u5) : Rd Try.prog 5 22 (JlC 1 (r_i .u8)) _) _ y0
  rw [(JsV u22 c5)] at z0
  obtain ⟨pv1, y1, z1⟩ := Jen JiF JeX (n := 5) (by kernel_rfl) (hval 1 43 v1 rfl rfl) h1
  obtain ⟨x1, rfl, w1⟩ := (Jo7 (n := 1) : Rd Try.prog 5 43 Jj _) _ y1
  rw [(JvS (by kernel_rfl))] at z1
  obtain ⟨pv2, y2, z2⟩ := Jen JiF JeX (n := 5) (by kernel_rfl) (hval 2 3 v2 rfl rfl) h2
  obtain ⟨x2, rfl, w2⟩ := (rd_i64 u3 : Rd Try.prog 5 3 (r_i .i64) _) _ y2
  rw [(JrP u3)] at z2
  obtain ⟨pv3, y3, z3⟩ := Jen JiF JeX (n := 5) (by kernel_rfl) (hval 3 3 v3 rfl rfl) h3
  obtain ⟨x3, rfl, w3⟩ := (rd_i64 u3 : Rd Try.prog 5 3 (r_i .i64) _) _ y3
  rw [(JrP u3)] at z3
  obtain ⟨pv4, y4, z4⟩ := Jen JiF JeX (n := 5) (by kernel_rfl) (hval 4 9 v4 rfl rfl) h4
  obtain ⟨x4, rfl, w4⟩ := (rd_str u9 : Rd Try.prog 5 9 r_s _) _ y4
  rw [(Jwj u9)] at z4
  have run := Jdi JpZ (x0 := x0) (x1 := x1) (x2 := x2) (x3 := x3) (x4 := x4) (Jdl w0 w1 w2 w3 w4)
  refine (JrC JwK (f := 4) (args := [.p (.sl 1 (List.map (r_i .u8) x0)), .data (Jj x1), .p (.i .i64 x2), .p (.i .i64 x3), .p (.s x4)]) (vals := #[v0, v1, v2, v3, v4]) (w := W) rfl (fun i a v ha hv => ?_) run).mono fun e W' ⟨he, hg⟩ => ?_
  · match i with
    | 0 => simp at ha hv; subst ha hv; exact z0
    | 1 => simp at ha hv; subst ha hv; exact z1
    | 2 => simp at ha hv; subst ha hv; exact z2
    | 3 => simp at ha hv; subst ha hv; exact z3
    | 4 => simp at ha hv; subst ha hv; exact z4
    | i + 5 => simp at ha
  · subst he
    exact ⟨_, rfl, Jss JiF JeX JwV (by rw [Try.params4]; decide +kernel) (by kernel_rfl) (tb := 4) (by kernel_rfl) rfl (fun hg => by subst hg; rfl) hW' hg⟩
theorem JsL : Try.f4.params.all (Try.prog.readableRec ·) = true := by kernel_rfl
theorem Juk : (Rows.pageindexJudgesRow.inPlace == Try.prog.inPlace 4) = true := by kernel_rfl
theorem Jxi : (Rows.pageindexJudgesRow.unfollowed == Try.prog.unfollowed 4) = true := by kernel_rfl
theorem JwW : (Rows.pageindexJudgesRow.recurses == Try.prog.recurses 4) = true := by kernel_rfl
theorem JuV : (Rows.pageindexJudgesRow.named == Try.prog.varsNamed 4) = true := by kernel_rfl
theorem JwL : (Rows.pageindexJudgesRow.plainKeys == Try.prog.plainKeys) = true := by kernel_rfl
theorem JtL : joinedFacts Try.prog 4 Try.f4 Rows.pageindexJudgesSpec Rows.pageindexJudgesRow = true := by
  unfold joinedFacts
  rw [JiF, JeX, JsL, Juk, Jxi, JwW, JuV, JwL]
  kernel_rfl
theorem JxA : Rows.pageindexJudgesRow.holds Try.pinned (OpenSpec.ofChange Rows.pageindexJudgesSpec) :=
  OpenClaim.holds_of_wide 4 Try.f4 rfl rfl rfl rfl rfl rfl rfl ⟨rfl, rfl, rfl, rfl, rfl⟩ rfl rfl rfl rfl rfl (by kernel_rfl) Try.func4 JtL
    (of_decide_eq_true (by kernel_rfl)) (by unfold Func.isWrapper; first | (rw [if_pos (by decide +kernel)]; kernel_rfl) | (rw [if_neg (by decide +kernel)]; exact ⟨rfl, rfl⟩))
    (fun os started H enc _ => JwP os started H enc)
theorem pageindexJudges_proved : Rows.PageindexJudgesSaid := JxA
end Go.Proofs.Ytiallbcnaadmoaa
