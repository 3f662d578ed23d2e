/-
  PoolDirty returns true for every input, and its arguments read afterwards as before. No condition.
-/
import Derived.Test.YtiallbcnaadmoaaRows
import Derived.Test.YtiallbcnaadmoaaM11
import Derived.Test.YtiallbcnaadmoaaM17
namespace Go.Proofs.Ytiallbcnaadmoaa
open Go.Am Go.ChangeShapes Go.WideShapes Go.ChangeAt Go.RowKit
set_option linter.unusedSimpArgs false
set_option linter.unusedVariables false
set_option maxRecDepth 100000 in
theorem Jp0 (os : Os) (started : os.Started) (H : Type) (enc : TypeId × Value → H) :
    ReturnsInHanded {} Try.checked os 16 .any (Rows.poolDirtySpec.pre6 enc Try.prog Try.f16 Rows.poolDirtyRow.domain false) (Rows.poolDirtySpec.post enc Try.prog Try.f16 false true false false) := by
  refine returnsInHanded_of_change (C := Try.checked) own started (by kernel_rfl) Try.func16
    (ChangeSpec.witness6 (enc := enc) (C := Try.checked) false ⟨#[], #[.slice none 0 0], []⟩ 8 (by kernel_rfl) (by kernel_rfl) (by kernel_rfl) (by kernel_rfl)) ?_
  intro W base args ds gs before hval0 hW hcnd _
  have hval : ∀ (j : Nat) t v, Try.f16.params[j]? = some t → args[j]? = some v → Value.okWide Try.prog W .any base t v := hval0
  have hW' := hW
  obtain ⟨p, q, hA0, hV, rfl, hfz, hnd⟩ := hW
  have hA : DataW.TrodAll enc Try.prog W 0 (fun _ => true) true Try.f16.params.toList args.toList ds p := hA0
  rw [Try.params16] at hA hval
  obtain ⟨v0, vs0, d0, ds0, p0, q0, hargs, rfl, rfl, h0, r0⟩ := trodAll_cons hA
  obtain ⟨rfl, rfl, rfl⟩ := trodAll_nil r0
  obtain rfl : args = #[v0] := by cases args; simp_all
  obtain ⟨pv0, y0, z0⟩ := JnL Jm3 JiW (n := 3) (by kernel_rfl) (hval 0 22 v0 rfl rfl) h0
  obtain ⟨x0, rfl, w0⟩ := (Jl9 u22 c5 (JpB u5) : Rd Try.prog 3 22 (Jek 1 (r_i .u8)) _) _ y0
  rw [(Jl4 u22 c5)] at z0
  have run := Jc5 Jiy (x0 := x0) (Jcr w0)
  refine (JjG Jo2 (f := 16) (args := [.p (.sl 1 (List.map (r_i .u8) x0))]) (vals := #[v0]) (w := W) rfl (fun i a v ha hv => ?_) run).mono fun e W' ⟨he, hg⟩ => ?_
  · match i with
    | 0 => simp at ha hv; subst ha hv; exact z0
    | i + 1 => simp at ha
  · subst he
    exact ⟨_, rfl, Jla Jm3 JiW Jpo (by rw [Try.params16]; decide +kernel) (by kernel_rfl) (tb := 4) (by kernel_rfl) rfl (fun hg => by subst hg; rfl) hW' hg⟩
theorem JlC : Try.f16.params.all (Try.prog.readableRec ·) = true := by kernel_rfl
theorem Jnk : (Rows.poolDirtyRow.inPlace == Try.prog.inPlace 16) = true := by kernel_rfl
theorem Jpj : (Rows.poolDirtyRow.unfollowed == Try.prog.unfollowed 16) = true := by kernel_rfl
theorem Jpt : (Rows.poolDirtyRow.recurses == Try.prog.recurses 16) = true := by kernel_rfl
theorem JmW : (Rows.poolDirtyRow.named == Try.prog.varsNamed 16) = true := by kernel_rfl
theorem JoH : (Rows.poolDirtyRow.plainKeys == Try.prog.plainKeys) = true := by kernel_rfl
theorem Jmh : joinedFacts Try.prog 16 Try.f16 Rows.poolDirtySpec Rows.poolDirtyRow = true := by
  unfold joinedFacts
  rw [Jm3, JiW, JlC, Jnk, Jpj, Jpt, JmW, JoH]
  kernel_rfl
theorem JpV : Rows.poolDirtyRow.holds Try.pinned (OpenSpec.ofChange Rows.poolDirtySpec) :=
  OpenClaim.holds_of_wide 16 Try.f16 rfl rfl rfl rfl rfl rfl rfl ⟨rfl, rfl, rfl, rfl, rfl⟩ rfl rfl rfl rfl rfl (by kernel_rfl) Try.func16 Jmh
    (of_decide_eq_true (by kernel_rfl)) (by unfold Func.isWrapper; first | (rw [if_pos (by decide +kernel)]; kernel_rfl) | (rw [if_neg (by decide +kernel)]; exact ⟨rfl, rfl⟩))
    (fun os started H enc _ => Jp0 os started H enc)
theorem poolDirty_proved : Rows.PoolDirtySaid := JpV
end Go.Proofs.Ytiallbcnaadmoaa
