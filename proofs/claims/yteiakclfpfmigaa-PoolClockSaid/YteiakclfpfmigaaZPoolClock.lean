/-
  PoolClock returns true for every input, and its arguments read afterwards as before. No condition.
-/
import Derived.Test.YteiakclfpfmigaaRows
import Derived.Test.YteiakclfpfmigaaM9
import Derived.Test.YteiakclfpfmigaaM15
namespace Go.Proofs.Yteiakclfpfmigaa
open Go.Am Go.ChangeShapes Go.WideShapes Go.ChangeAt Go.RowKit
set_option linter.unusedSimpArgs false
set_option linter.unusedVariables false
set_option maxRecDepth 100000 in
theorem JlE (os : Os) (started : os.Started) (H : Type) (enc : TypeId × Value → H) :
    ReturnsInHanded {} Try.checked os 13 .any (Rows.poolClockSpec.pre6 enc Try.prog Try.f13 Rows.poolClockRow.domain false) (Rows.poolClockSpec.post enc Try.prog Try.f13 false true false false) := by
  refine returnsInHanded_of_change (C := Try.checked) own started (by kernel_rfl) Try.func13
    (ChangeSpec.witness6 (enc := enc) (C := Try.checked) false ⟨#[], #[.int .u8 0, .slice none 0 0], []⟩ 8 (by kernel_rfl) (by kernel_rfl) (by kernel_rfl) (by kernel_rfl)) ?_
  intro W base args ds gs before hval0 hW hcnd _
  have hval : ∀ (j : Nat) t v, Try.f13.params[j]? = some t → args[j]? = some v → Value.okWide Try.prog W .any base t v := hval0
  have hW' := hW
  obtain ⟨p, q, hA0, hV, rfl, hfz, hnd⟩ := hW
  have hA : DataW.TrodAll enc Try.prog W 0 (fun _ => true) true Try.f13.params.toList args.toList ds p := hA0
  rw [Try.params13] at hA hval
  obtain ⟨v0, vs0, d0, ds0, p0, q0, hargs, rfl, rfl, h0, r0⟩ := trodAll_cons hA
  obtain ⟨v1, vs1, d1, ds1, p1, q1, rfl, rfl, rfl, h1, r1⟩ := trodAll_cons r0
  obtain ⟨rfl, rfl, rfl⟩ := trodAll_nil r1
  obtain rfl : args = #[v0, v1] := by cases args; simp_all
  obtain ⟨pv0, y0, z0⟩ := JfL Jjd Jga (n := 3) (by kernel_rfl) (hval 0 5 v0 rfl rfl) h0
  obtain ⟨x0, rfl, w0⟩ := (rd_u8 u5 : Rd Try.prog 3 5 (r_i .u8) _) _ y0
  rw [(Jly u5)] at z0
  obtain ⟨pv1, y1, z1⟩ := JfL Jjd Jga (n := 3) (by kernel_rfl) (hval 1 22 v1 rfl rfl) h1
  obtain ⟨x1, rfl, w1⟩ := (Jix u22 c5 (rd_u8 u5) : Rd Try.prog 3 22 (Jcq 1 (r_i .u8)) _) _ y1
  rw [(Jj4 u22 c5)] at z1
  have run := Ja1 JfJ (x0 := x0) (x1 := x1) (Ja9 w0 w1)
  refine (JgY Jlm (f := 13) (args := [.p (.i .u8 x0), .p (.sl 1 (List.map (r_i .u8) x1))]) (vals := #[v0, v1]) (w := W) rfl (fun i a v ha hv => ?_) run).mono fun e W' ⟨he, hg⟩ => ?_
  · match i with
    | 0 => simp at ha hv; subst ha hv; exact z0
    | 1 => simp at ha hv; subst ha hv; exact z1
    | i + 2 => simp at ha
  · subst he
    exact ⟨_, rfl, Jis Jjd Jga Jmh (by rw [Try.params13]; decide +kernel) (by kernel_rfl) (tb := 4) (by kernel_rfl) rfl (fun hg => by subst hg; rfl) hW' hg⟩
theorem JmT : Rows.poolClockRow.holds Try.pinned (OpenSpec.ofChange Rows.poolClockSpec) :=
  OpenClaim.holds_of_wide 13 Try.f13 rfl rfl rfl rfl rfl rfl rfl ⟨rfl, rfl, rfl, rfl, rfl⟩ rfl rfl rfl rfl rfl (by kernel_rfl) Try.func13 (by kernel_rfl)
    (of_decide_eq_true (by kernel_rfl)) (by unfold Func.isWrapper; first | (rw [if_pos (by decide +kernel)]; kernel_rfl) | (rw [if_neg (by decide +kernel)]; exact ⟨rfl, rfl⟩))
    (fun os started H enc _ => JlE os started H enc)
theorem poolClock_proved : Rows.PoolClockSaid := JmT
end Go.Proofs.Yteiakclfpfmigaa
