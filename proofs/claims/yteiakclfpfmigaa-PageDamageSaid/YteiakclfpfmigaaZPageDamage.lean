/-
  PageDamage returns true for every input, and its arguments read afterwards as before. No condition.
-/
import Derived.Test.YteiakclfpfmigaaRows
import Derived.Test.YteiakclfpfmigaaM9
import Derived.Test.YteiakclfpfmigaaM13

namespace Go.Proofs.Yteiakclfpfmigaa
open Go.Am Go.ChangeShapes Go.WideShapes Go.ChangeAt Go.RowKit
set_option linter.unusedSimpArgs false
set_option linter.unusedVariables false

set_option maxRecDepth 100000 in
theorem lifted (os : Os) (started : os.Started) (H : Type) (enc : TypeId × Value → H) :
    ReturnsInHanded {} Try.checked os 9 .any (Rows.pageDamageSpec.pre6 enc Try.prog Try.f9 Rows.pageDamageRow.domain false) (Rows.pageDamageSpec.post enc Try.prog Try.f9 false true false false) := by
  refine returnsInHanded_of_change (C := Try.checked) own started (by kernel_rfl) Try.func9
    (ChangeSpec.witness6 (enc := enc) (C := Try.checked) false ⟨#[], #[.slice none 0 0, .int .u8 0, .int .u8 0], []⟩ 8 (by kernel_rfl) (by kernel_rfl) (by kernel_rfl) (by kernel_rfl)) ?_
  intro W base args ds gs before hval0 hW hcnd _
  have hval : ∀ (j : Nat) t v, Try.f9.params[j]? = some t → args[j]? = some v → Value.okWide Try.prog W .any base t v := hval0
  have hW' := hW
  obtain ⟨p, q, hA0, hV, rfl, hfz, hnd⟩ := hW
  have hA : DataW.TrodAll enc Try.prog W 0 (fun _ => true) true Try.f9.params.toList args.toList ds p := hA0
  rw [Try.params9] at hA hval
  obtain ⟨v0, vs0, d0, ds0, p0, q0, hargs, rfl, rfl, h0, r0⟩ := trodAll_cons hA
  obtain ⟨v1, vs1, d1, ds1, p1, q1, rfl, rfl, rfl, h1, r1⟩ := trodAll_cons r0
  obtain ⟨v2, vs2, d2, ds2, p2, q2, rfl, rfl, rfl, h2, r2⟩ := trodAll_cons r1
  obtain ⟨rfl, rfl, rfl⟩ := trodAll_nil r2
  obtain rfl : args = #[v0, v1, v2] := by cases args; simp_all
  obtain ⟨pv0, y0, z0⟩ := arg_rel laid rowed (n := 3) (by kernel_rfl) (hval 0 22 v0 rfl rfl) h0
  obtain ⟨x0, rfl, w0⟩ := (rd_slice u22 c5 (rd_u8 u5) : Rd Try.prog 3 22 (r_sl 1 (r_i .u8)) _) _ y0
  rw [(av_slice u22 c5)] at z0
  obtain ⟨pv1, y1, z1⟩ := arg_rel laid rowed (n := 3) (by kernel_rfl) (hval 1 5 v1 rfl rfl) h1
  obtain ⟨x1, rfl, w1⟩ := (rd_u8 u5 : Rd Try.prog 3 5 (r_i .u8) _) _ y1
  rw [(av_int u5)] at z1
  obtain ⟨pv2, y2, z2⟩ := arg_rel laid rowed (n := 3) (by kernel_rfl) (hval 2 5 v2 rfl rfl) h2
  obtain ⟨x2, rfl, w2⟩ := (rd_u8 u5 : Rd Try.prog 3 5 (r_i .u8) _) _ y2
  rw [(av_int u5)] at z2
  have run := e_law02_PageDamage noPrims (x0 := x0) (x1 := x1) (x2 := x2) (L_law02_PageDamage w0 w1 w2)
  refine (law_calls soundT (f := 9) (args := [.p (.sl 1 (List.map (r_i .u8) x0)), .p (.i .u8 x1), .p (.i .u8 x2)]) (vals := #[v0, v1, v2]) (w := W) rfl (fun i a v ha hv => ?_) run).mono fun e W' ⟨he, hg⟩ => ?_
  · match i with
    | 0 => simp at ha hv; subst ha hv; exact z0
    | 1 => simp at ha hv; subst ha hv; exact z1
    | 2 => simp at ha hv; subst ha hv; exact z2
    | i + 3 => simp at ha
  · subst he
    exact ⟨_, rfl, law_post laid rowed sized (by rw [Try.params9]; decide +kernel) (by kernel_rfl) (tb := 4) (by kernel_rfl) rfl (fun hg => by subst hg; rfl) hW' hg⟩

theorem over : Rows.pageDamageRow.holds Try.pinned (OpenSpec.ofChange Rows.pageDamageSpec) :=
  OpenClaim.holds_of_wide 9 Try.f9 rfl rfl rfl rfl rfl rfl rfl ⟨rfl, rfl, rfl, rfl, rfl⟩ rfl rfl rfl rfl rfl (by kernel_rfl) Try.func9 (by kernel_rfl)
    (of_decide_eq_true (by kernel_rfl)) (by unfold Func.isWrapper; first | (rw [if_pos (by decide +kernel)]; kernel_rfl) | (rw [if_neg (by decide +kernel)]; exact ⟨rfl, rfl⟩))
    (fun os started H enc _ => lifted os started H enc)

/-- The statement. -/
theorem pageDamage_proved : Rows.PageDamageSaid := over

end Go.Proofs.Yteiakclfpfmigaa
