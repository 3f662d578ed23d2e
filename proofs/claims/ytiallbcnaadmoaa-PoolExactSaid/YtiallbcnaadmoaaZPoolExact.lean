/-
  PoolExact returns true for every input, and its arguments read afterwards as before. No condition.
-/
import Derived.Test.YtiallbcnaadmoaaRows
import Derived.Test.YtiallbcnaadmoaaM13
import Derived.Test.YtiallbcnaadmoaaM19
namespace Go.Proofs.Ytiallbcnaadmoaa
open Go.Am Go.ChangeShapes Go.WideShapes Go.ChangeAt Go.RowKit
set_option linter.unusedSimpArgs false
set_option linter.unusedVariables false
set_option maxRecDepth 100000 in
theorem Jw1 (os : Os) (started : os.Started) (H : Type) (enc : TypeId × Value → H) :
    ReturnsInHanded {} Try.checked os 17 .any (Rows.poolExactSpec.pre6 enc Try.prog Try.f17 Rows.poolExactRow.domain false) (Rows.poolExactSpec.post enc Try.prog Try.f17 false true false false) := by
  refine returnsInHanded_of_change (C := Try.checked) own started (by kernel_rfl) Try.func17
    (ChangeSpec.witness6 (enc := enc) (C := Try.checked) false ⟨#[], #[.slice none 0 0, .agg #[.int .i64 0, .slice none 0 0, .int .i64 0], .agg #[.int .i64 0, .int .i64 0, .bool false, .string ⟨#[]⟩, .bool false, .string ⟨#[]⟩, .bool false, .string ⟨#[]⟩, .bool false, .string ⟨#[]⟩, .bool false, .string ⟨#[]⟩, .bool false, .string ⟨#[]⟩, .bool false, .string ⟨#[]⟩, .bool false, .string ⟨#[]⟩, .bool false, .string ⟨#[]⟩, .bool false, .string ⟨#[]⟩, .bool false, .string ⟨#[]⟩, .bool false, .string ⟨#[]⟩, .bool false, .string ⟨#[]⟩, .bool false, .string ⟨#[]⟩, .bool false, .string ⟨#[]⟩, .bool false, .string ⟨#[]⟩], .int .i64 0, .int .i64 0], []⟩ 8 (by kernel_rfl) (by kernel_rfl) (by kernel_rfl) (by kernel_rfl)) ?_
  intro W base args ds gs before hval0 hW hcnd _
  have hval : ∀ (j : Nat) t v, Try.f17.params[j]? = some t → args[j]? = some v → Value.okWide Try.prog W .any base t v := hval0
  have hW' := hW
  obtain ⟨p, q, hA0, hV, rfl, hfz, hnd⟩ := hW
  have hA : DataW.TrodAll enc Try.prog W 0 (fun _ => true) true Try.f17.params.toList args.toList ds p := hA0
  rw [Try.params17] at hA hval
  obtain ⟨v0, vs0, d0, ds0, p0, q0, hargs, rfl, rfl, h0, r0⟩ := trodAll_cons hA
  obtain ⟨v1, vs1, d1, ds1, p1, q1, rfl, rfl, rfl, h1, r1⟩ := trodAll_cons r0
  obtain ⟨v2, vs2, d2, ds2, p2, q2, rfl, rfl, rfl, h2, r2⟩ := trodAll_cons r1
  obtain ⟨v3, vs3, d3, ds3, p3, q3, rfl, rfl, rfl, h3, r3⟩ := trodAll_cons r2
  obtain ⟨v4, vs4, d4, ds4, p4, q4, rfl, rfl, rfl, h4, r4⟩ := trodAll_cons r3
  obtain ⟨rfl, rfl, rfl⟩ := trodAll_nil r4
  obtain rfl : args = #[v0, v1, v2, v3, v4] := by cases args; simp_all
  obtain ⟨pv0, y0, z0⟩ := Jeh Jis JeP (n := 8) (by kernel_rfl) (hval 0 22 v0 rfl rfl) h0
  obtain ⟨x0, rfl, w0⟩ := (Jo6 u22 c5 (Jwy u5) : Rd Try.prog 8 22 (JkR 1 (r_i .u8)) _) _ y0
  rw [(Jsu u22 c5)] at z0
  obtain ⟨pv1, y1, z1⟩ := Jeh Jis JeP (n := 8) (by kernel_rfl) (hval 1 109 v1 rfl rfl) h1
  obtain ⟨x1, rfl, w1⟩ := (Jpa (n := 1) : Rd Try.prog 8 109 J3 _) _ y1
  rw [(JrA (by kernel_rfl))] at z1
  obtain ⟨pv2, y2, z2⟩ := Jeh Jis JeP (n := 8) (by kernel_rfl) (hval 2 49 v2 rfl rfl) h2
  obtain ⟨x2, rfl, w2⟩ := (Jih (n := 4) : Rd Try.prog 8 49 J9 _) _ y2
  rw [(JrA (by kernel_rfl))] at z2
  obtain ⟨pv3, y3, z3⟩ := Jeh Jis JeP (n := 8) (by kernel_rfl) (hval 3 3 v3 rfl rfl) h3
  obtain ⟨x3, rfl, w3⟩ := (rd_i64 u3 : Rd Try.prog 8 3 (r_i .i64) _) _ y3
  rw [(Jr9 u3)] at z3
  obtain ⟨pv4, y4, z4⟩ := Jeh Jis JeP (n := 8) (by kernel_rfl) (hval 4 3 v4 rfl rfl) h4
  obtain ⟨x4, rfl, w4⟩ := (rd_i64 u3 : Rd Try.prog 8 3 (r_i .i64) _) _ y4
  rw [(Jr9 u3)] at z4
  have run := JhL Jpn (x0 := x0) (x1 := x1) (x2 := x2) (x3 := x3) (x4 := x4) (Jhe w0 w1 w2 w3 w4)
  refine (JrQ Jw2 (f := 17) (args := [.p (.sl 1 (List.map (r_i .u8) x0)), .data (J3 x1), .data (J9 x2), .p (.i .i64 x3), .p (.i .i64 x4)]) (vals := #[v0, v1, v2, v3, v4]) (w := W) rfl (fun i a v ha hv => ?_) run).mono fun e W' ⟨he, hg⟩ => ?_
  · match i with
    | 0 => simp at ha hv; subst ha hv; exact z0
    | 1 => simp at ha hv; subst ha hv; exact z1
    | 2 => simp at ha hv; subst ha hv; exact z2
    | 3 => simp at ha hv; subst ha hv; exact z3
    | 4 => simp at ha hv; subst ha hv; exact z4
    | i + 5 => simp at ha
  · subst he
    exact ⟨_, rfl, JsG Jis JeP Jwt (by rw [Try.params17]; decide +kernel) (by kernel_rfl) (tb := 4) (by kernel_rfl) rfl (fun hg => by subst hg; rfl) hW' hg⟩
theorem Jtm : Try.f17.params.all (Try.prog.readableRec ·) = true := by kernel_rfl
theorem Jvc : (Rows.poolExactRow.inPlace == Try.prog.inPlace 17) = true := by kernel_rfl
theorem JwO : (Rows.poolExactRow.unfollowed == Try.prog.unfollowed 17) = true := by kernel_rfl
theorem JwK : (Rows.poolExactRow.recurses == Try.prog.recurses 17) = true := by kernel_rfl
theorem Ju7 : (Rows.poolExactRow.named == Try.prog.varsNamed 17) = true := by kernel_rfl
theorem Jvo : (Rows.poolExactRow.plainKeys == Try.prog.plainKeys) = true := by kernel_rfl
theorem Jsc : joinedFacts Try.prog 17 Try.f17 Rows.poolExactSpec Rows.poolExactRow = true := by
  unfold joinedFacts
  rw [Jis, JeP, Jtm, Jvc, JwO, JwK, Ju7, Jvo]
  kernel_rfl
theorem Jxi : Rows.poolExactRow.holds Try.pinned (OpenSpec.ofChange Rows.poolExactSpec) :=
  OpenClaim.holds_of_wide 17 Try.f17 rfl rfl rfl rfl rfl rfl rfl ⟨rfl, rfl, rfl, rfl, rfl⟩ rfl rfl rfl rfl rfl (by kernel_rfl) Try.func17 Jsc
    (of_decide_eq_true (by kernel_rfl)) (by unfold Func.isWrapper; first | (rw [if_pos (by decide +kernel)]; kernel_rfl) | (rw [if_neg (by decide +kernel)]; exact ⟨rfl, rfl⟩))
    (fun os started H enc _ => Jw1 os started H enc)
theorem poolExact_proved : Rows.PoolExactSaid := Jxi
end Go.Proofs.Ytiallbcnaadmoaa
