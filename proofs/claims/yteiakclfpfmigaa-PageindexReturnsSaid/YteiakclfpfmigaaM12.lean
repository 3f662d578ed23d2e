/-
  Parts of a proof: YteiakclfpfmigaaKChk.
-/
import Derived.Test.YteiakclfpfmigaaChecked
import Derived.Test.YteiakclfpfmigaaM7
import Derived.Test.YteiakclfpfmigaaM9
import Derived.Test.YteiakclfpfmigaaM11
set_option linter.unusedSimpArgs false
set_option linter.unusedVariables false
section
namespace Go.Proofs.Yteiakclfpfmigaa
open Go.Am
set_option maxRecDepth 20000
theorem mixed : Try.prog.follows .mixedOrders = true := by kernel_rfl
theorem J5K : J0s Try.prog J5Q J59 = true := by kernel_rfl
theorem J12 : J0s Try.prog Jp J2L = true := by kernel_rfl
theorem J4X : J0s Try.prog J3V J1X = true := by kernel_rfl
theorem J2g : J0s Try.prog J3n J3o = true := by kernel_rfl
theorem J3J : J0s Try.prog J5f J5j = true := by kernel_rfl
theorem J2N : J0s Try.prog J2b J2P = true := by kernel_rfl
theorem J23 : J0s Try.prog J0A J22 = true := by kernel_rfl
theorem J08 : J0s Try.prog JN J27 = true := by kernel_rfl
theorem J1r : J0s Try.prog J4A J2j = true := by kernel_rfl
theorem J3L : J0s Try.prog J2w J3K = true := by kernel_rfl
theorem J5e : J0s Try.prog J3s J4b = true := by kernel_rfl
theorem J3Z : J0s Try.prog Jv J3a = true := by kernel_rfl
theorem J5D : J0s Try.prog J05 J4T = true := by kernel_rfl
theorem J36 : J0s Try.prog J0Y J32 = true := by kernel_rfl
theorem J1y : J0s Try.prog J0W J39 = true := by kernel_rfl
theorem J3M : J0s Try.prog J3N J3O = true := by kernel_rfl
theorem J1t : J0s Try.prog J1Y J2B = true := by kernel_rfl
theorem J43 : J0s Try.prog J4a J1k = true := by kernel_rfl
theorem J0N : J0s Try.prog J0q JL = true := by kernel_rfl
theorem J0y : J0s Try.prog J0g J0f = true := by kernel_rfl
theorem J1N : J0s Try.prog J1i J2O = true := by kernel_rfl
theorem J2t : J0s Try.prog JS J1Q = true := by kernel_rfl
theorem J0F : J0s Try.prog J2s J0G = true := by kernel_rfl
theorem J0U : J0s Try.prog J0j J3T = true := by kernel_rfl
theorem J2a : J0s Try.prog J03 J1w = true := by kernel_rfl
theorem J1V : J0s Try.prog J0T J1Z = true := by kernel_rfl
theorem JP : J0s Try.prog J1A J26 = true := by kernel_rfl
theorem J1T : J0s Try.prog J2y J0I = true := by kernel_rfl
theorem JF : J0s Try.prog J46 J07 = true := by kernel_rfl
theorem J2Y : J0s Try.prog J0M J2i = true := by kernel_rfl
theorem J0x : J0s Try.prog J0X J35 = true := by kernel_rfl
theorem J13 : J0s Try.prog J4d J49 = true := by kernel_rfl
theorem JI : J0s Try.prog J2J J0V = true := by kernel_rfl
theorem J6O : J0s Try.prog J0m J1a.af = true := by kernel_rfl
theorem key {α : Type} (Q : FuncId → α → Prop) : ∀ l : List (FuncId × α), (∀ x ∈ l, Q x.1 x.2) → ∀ f a, lkF f l = some a → Q f a := by
    intro l
    induction l with
    | nil => intro _ f a h; cases h
    | cons x r ih =>
      intro hx f a h
      obtain ⟨g, b⟩ := x
      simp only [lkF] at h
      split at h
      · rename_i e; injection h with h; subst h e; exact hx (f, b) (by simp)
      · exact ih (fun y hy => hx y (by simp [hy])) f a h
theorem JkD : ∀ f a, lkF f fns = some a → J0s Try.prog f a = true := by
  refine key _ fns ?_
  unfold fns
  simp only [List.forall_mem_cons]
  exact ⟨J5K, J12, J4X, J2g, J3J, J2N, J23, J08, J1r, J3L, J5e, J3Z, J5D, J36, J1y, J3M, J1t, J43, J0N, J0y, J1N, J2t, J0F, J0U, J2a, J1V, JP, J1T, JF, J2Y, J0x, J13, JI, by simp⟩
theorem Jir : ∀ f k, lkF f Jf8 = some k → J0s Try.prog f k.af = true := by
  refine key _ Jf8 ?_
  unfold Jf8
  simp only [List.forall_mem_cons]
  exact ⟨J6O, by simp⟩
theorem JkL : ∀ f g, lkF f Jf3 = some g → ∀ args blks r, g args blks = some r → J6t Try.prog f args blks r := by
  refine key _ Jf3 ?_
  unfold Jf3
  simp only [List.forall_mem_cons]
  exact ⟨JfH, by simp⟩
def JgK : FuncId → Option (List AV → List Blk → Option Res) := fun _ => none
set_option maxRecDepth 20000 in
theorem Jmd : J3U Try.prog (AF (J3 JgK)) := by
  refine Jn3 mixed (fun f af h => ?_) (fun f g h => ?_) (fun f k h => ?_)
  · rcases Ja0 h with ⟨x, h1, h2⟩ | ⟨x, h1, h2⟩ | ⟨x, h1, h2⟩ | ⟨x, h1, h2⟩
    · rw [J5s.fn.inj h2]; exact JkD f _ h1
    · exact J5s.noConfusion h2
    · exact J5s.noConfusion h2
    · exact J5s.noConfusion h2
  · rcases Ja0 h with ⟨x, h1, h2⟩ | ⟨x, h1, h2⟩ | ⟨x, h1, h2⟩ | ⟨x, h1, h2⟩
    · exact J5s.noConfusion h2
    · exact J5s.noConfusion h2
    · rw [J5s.prim.inj h2]; exact JkL f _ h1
    · exact nomatch h1
  · rcases Ja0 h with ⟨x, h1, h2⟩ | ⟨x, h1, h2⟩ | ⟨x, h1, h2⟩ | ⟨x, h1, h2⟩
    · exact J5s.noConfusion h2
    · rw [J5s.fork.inj h2]; exact Jir f _ h1
    · exact J5s.noConfusion h2
    · exact J5s.noConfusion h2
theorem own : ownKnob Try.prog.godebug = none := by kernel_rfl
theorem JjK : laidOutB Try.prog = true := by kernel_rfl
theorem JhC : mapsRowed Try.prog = true := by kernel_rfl
theorem Jn2 : J79 Try.prog = true := by kernel_rfl
end Go.Proofs.Yteiakclfpfmigaa
end
