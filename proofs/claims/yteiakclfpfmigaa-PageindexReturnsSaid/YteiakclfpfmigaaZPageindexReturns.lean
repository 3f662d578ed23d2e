/-
  PageindexReturns returns true for every input, and its arguments read afterwards as before. No condition.
-/
import Derived.Test.YteiakclfpfmigaaRows
import Derived.Test.YteiakclfpfmigaaM9
import Derived.Test.YteiakclfpfmigaaM13
namespace Go.Proofs.Yteiakclfpfmigaa
open Go.Am Go.ChangeShapes Go.WideShapes Go.ChangeAt Go.RowKit
set_option linter.unusedSimpArgs false
set_option linter.unusedVariables false
set_option maxRecDepth 100000 in
theorem JmP (os : Os) (started : os.Started) (H : Type) (enc : TypeId × Value → H) :
    ReturnsInHanded {} Try.checked os 5 .any (Rows.pageindexReturnsSpec.pre6 enc Try.prog Try.f5 Rows.pageindexReturnsRow.domain false) (Rows.pageindexReturnsSpec.post enc Try.prog Try.f5 false true false false) := by
  refine returnsInHanded_of_change (C := Try.checked) own started (by kernel_rfl) Try.func5
    (ChangeSpec.witness6 (enc := enc) (C := Try.checked) false ⟨#[], #[.slice none 0 0, .bool false], []⟩ 8 (by kernel_rfl) (by kernel_rfl) (by kernel_rfl) (by kernel_rfl)) ?_
  intro W base args ds gs before hval0 hW hcnd _
  have hval : ∀ (j : Nat) t v, Try.f5.params[j]? = some t → args[j]? = some v → Value.okWide Try.prog W .any base t v := hval0
  have hW' := hW
  obtain ⟨p, q, hA0, hV, rfl, hfz, hnd⟩ := hW
  have hA : DataW.TrodAll enc Try.prog W 0 (fun _ => true) true Try.f5.params.toList args.toList ds p := hA0
  rw [Try.params5] at hA hval
  obtain ⟨v0, vs0, d0, ds0, p0, q0, hargs, rfl, rfl, h0, r0⟩ := trodAll_cons hA
  obtain ⟨v1, vs1, d1, ds1, p1, q1, rfl, rfl, rfl, h1, r1⟩ := trodAll_cons r0
  obtain ⟨rfl, rfl, rfl⟩ := trodAll_nil r1
  obtain rfl : args = #[v0, v1] := by cases args; simp_all
  obtain ⟨pv0, y0, z0⟩ := JgX JjK JhC (n := 3) (by kernel_rfl) (hval 0 22 v0 rfl rfl) h0
  obtain ⟨x0, rfl, w0⟩ := (Jjn u22 c5 (Jni u5) : Rd Try.prog 3 22 (JdY 1 (r_i .u8)) _) _ y0
  rw [(Jjk u22 c5)] at z0
  obtain ⟨pv1, y1, z1⟩ := JgX JjK JhC (n := 3) (by kernel_rfl) (hval 1 4 v1 rfl rfl) h1
  obtain ⟨x1, rfl, w1⟩ := (rd_bool u4 : Rd Try.prog 3 4 r_b _) _ y1
  rw [(Jlq u4)] at z1
  have run := J81 JgK (x0 := x0) (x1 := x1) (J8l w0 w1)
  refine (Ji5 Jmd (f := 5) (args := [.p (.sl 1 (List.map (r_i .u8) x0)), .p (.b x1)]) (vals := #[v0, v1]) (w := W) rfl (fun i a v ha hv => ?_) run).mono fun e W' ⟨he, hg⟩ => ?_
  · match i with
    | 0 => simp at ha hv; subst ha hv; exact z0
    | 1 => simp at ha hv; subst ha hv; exact z1
    | i + 2 => simp at ha
  · subst he
    exact ⟨_, rfl, Jj3 JjK JhC Jn2 (by rw [Try.params5]; decide +kernel) (by kernel_rfl) (tb := 4) (by kernel_rfl) rfl (fun hg => by subst hg; rfl) hW' hg⟩
theorem JnI : Rows.pageindexReturnsRow.holds Try.pinned (OpenSpec.ofChange Rows.pageindexReturnsSpec) :=
  OpenClaim.holds_of_wide 5 Try.f5 rfl rfl rfl rfl rfl rfl rfl ⟨rfl, rfl, rfl, rfl, rfl⟩ rfl rfl rfl rfl rfl (by kernel_rfl) Try.func5 (by kernel_rfl)
    (of_decide_eq_true (by kernel_rfl)) (by unfold Func.isWrapper; first | (rw [if_pos (by decide +kernel)]; kernel_rfl) | (rw [if_neg (by decide +kernel)]; exact ⟨rfl, rfl⟩))
    (fun os started H enc _ => JmP os started H enc)
theorem pageindexReturns_proved : Rows.PageindexReturnsSaid := JnI
end Go.Proofs.Yteiakclfpfmigaa
