/-
  Parts of a proof: YtiallbcnaadmoaaKChk.
-/
import Derived.Test.YtiallbcnaadmoaaChecked
import Derived.Test.YtiallbcnaadmoaaM9
import Derived.Test.YtiallbcnaadmoaaM11
import Derived.Test.YtiallbcnaadmoaaM13
import Derived.Test.YtiallbcnaadmoaaM14
import Derived.Test.YtiallbcnaadmoaaM15
set_option linter.unusedSimpArgs false
set_option linter.unusedVariables false
section
namespace Go.Proofs.Ytiallbcnaadmoaa
open Go.Am
set_option maxRecDepth 20000
theorem mixed : Try.prog.follows .mixedOrders = true := by kernel_rfl
theorem J6p : J01 Try.prog J6f J58 = true := by kernel_rfl
theorem J0N : J01 Try.prog J05 J2E = true := by kernel_rfl
theorem J3q : J01 Try.prog J2x J2y = true := by kernel_rfl
theorem J4l : J01 Try.prog J54 J6z = true := by kernel_rfl
theorem J69 : J01 Try.prog J3V J1H = true := by kernel_rfl
theorem J4N : J01 Try.prog J0C J3K = true := by kernel_rfl
theorem J0l : J01 Try.prog JY Jq = true := by kernel_rfl
theorem J6T : J01 Try.prog J22 J5s = true := by kernel_rfl
theorem J0L : J01 Try.prog JZ J0h = true := by kernel_rfl
theorem J1g : J01 Try.prog J3f J3d = true := by kernel_rfl
theorem J4R : J01 Try.prog J4K J4X = true := by kernel_rfl
theorem J34 : J01 Try.prog J2c JF = true := by kernel_rfl
theorem J7m : J01 Try.prog J5N J93 = true := by kernel_rfl
theorem J1u : J01 Try.prog J2z J2C = true := by kernel_rfl
theorem J6B : J01 Try.prog J89 J87 = true := by kernel_rfl
theorem J6I : J01 Try.prog J8a J88 = true := by kernel_rfl
theorem J4C : J01 Try.prog J6R J6N = true := by kernel_rfl
theorem J2a : J01 Try.prog J3h J40 = true := by kernel_rfl
theorem J1V : J01 Try.prog J0E J1v = true := by kernel_rfl
theorem J6K : J01 Try.prog J4A J23 = true := by kernel_rfl
theorem J2b : J01 Try.prog J19 J1z = true := by kernel_rfl
theorem J6F : J01 Try.prog J6H J8b = true := by kernel_rfl
theorem J5k : J01 Try.prog J4f J1m = true := by kernel_rfl
theorem J3U : J01 Try.prog J4M J4Y = true := by kernel_rfl
theorem J24 : J01 Try.prog J3m J1l = true := by kernel_rfl
theorem J3k : J01 Try.prog J3Z J46 = true := by kernel_rfl
theorem J0T : J01 Try.prog J1n J1E = true := by kernel_rfl
theorem J4D : J01 Try.prog J5z J5u = true := by kernel_rfl
theorem J29 : J01 Try.prog J43 J1o = true := by kernel_rfl
theorem J7i : J01 Try.prog J5P J92 = true := by kernel_rfl
theorem J1L : J01 Try.prog J4n J6i = true := by kernel_rfl
theorem J0F : J01 Try.prog J3Y J3l = true := by kernel_rfl
theorem J0y : J01 Try.prog J4U J3N = true := by kernel_rfl
theorem J3S : J01 Try.prog J50 J1C = true := by kernel_rfl
theorem J1t : J01 Try.prog J5A J3H = true := by kernel_rfl
theorem J5d : J01 Try.prog J6q J6w = true := by kernel_rfl
theorem J00 : J01 Try.prog J4d J4a = true := by kernel_rfl
theorem J0G : J01 Try.prog J4I J0q = true := by kernel_rfl
theorem J6G : J01 Try.prog Jz J0H.af = true := by kernel_rfl
theorem key {α : Type} (Q : FuncId → α → Prop) : ∀ l : List (FuncId × α), (∀ x ∈ l, Q x.1 x.2) → ∀ f a, lkF f l = some a → Q f a := by
    intro l
    induction l with
    | nil => intro _ f a h; cases h
    | cons x r ih =>
      intro hx f a h
      obtain ⟨g, b⟩ := x
      simp only [lkF] at h
      split at h
      · rename_i e; injection h with h; subst h e; exact hx (f, b) (by simp)
      · exact ih (fun y hy => hx y (by simp [hy])) f a h
theorem Jn0 : ∀ f a, lkF f fns = some a → J01 Try.prog f a = true := by
  refine key _ fns ?_
  unfold fns
  simp only [List.forall_mem_cons]
  exact ⟨J6p, J0N, J3q, J4l, J69, J4N, J0l, J6T, J0L, J1g, J4R, J34, J7m, J1u, J6B, J6I, J4C, J2a, J1V, J6K, J2b, J6F, J5k, J3U, J24, J3k, J0T, J4D, J29, J7i, J1L, J0F, J0y, J3S, J1t, J5d, J00, J0G, by simp⟩
theorem JkF : ∀ f k, lkF f Jgh = some k → J01 Try.prog f k.af = true := by
  refine key _ Jgh ?_
  unfold Jgh
  simp only [List.forall_mem_cons]
  exact ⟨J6G, by simp⟩
theorem JmA : ∀ f g, lkF f Jgj = some g → ∀ args blks r, g args blks = some r → J4h Try.prog f args blks r := by
  refine key _ Jgj ?_
  unfold Jgj
  simp only [List.forall_mem_cons]
  exact ⟨JgD, Jcl, J5C, J5X, by simp⟩
def Jiy : FuncId → Option (List AV → List Blk → Option Res) := fun _ => none
set_option maxRecDepth 20000 in
theorem Jo2 : J3R Try.prog (AF (J5 Jiy)) := by
  refine Jpp mixed (fun f af h => ?_) (fun f g h => ?_) (fun f k h => ?_)
  · rcases Ja8 h with ⟨x, h1, h2⟩ | ⟨x, h1, h2⟩ | ⟨x, h1, h2⟩ | ⟨x, h1, h2⟩
    · rw [J5S.fn.inj h2]; exact Jn0 f _ h1
    · exact J5S.noConfusion h2
    · exact J5S.noConfusion h2
    · exact J5S.noConfusion h2
  · rcases Ja8 h with ⟨x, h1, h2⟩ | ⟨x, h1, h2⟩ | ⟨x, h1, h2⟩ | ⟨x, h1, h2⟩
    · exact J5S.noConfusion h2
    · exact J5S.noConfusion h2
    · rw [J5S.prim.inj h2]; exact JmA f _ h1
    · exact nomatch h1
  · rcases Ja8 h with ⟨x, h1, h2⟩ | ⟨x, h1, h2⟩ | ⟨x, h1, h2⟩ | ⟨x, h1, h2⟩
    · exact J5S.noConfusion h2
    · rw [J5S.fork.inj h2]; exact JkF f _ h1
    · exact J5S.noConfusion h2
    · exact J5S.noConfusion h2
theorem own : ownKnob Try.prog.godebug = none := by kernel_rfl
theorem Jm3 : laidOutB Try.prog = true := by kernel_rfl
theorem JiW : mapsRowed Try.prog = true := by kernel_rfl
theorem Jpo : J7M Try.prog = true := by kernel_rfl
end Go.Proofs.Ytiallbcnaadmoaa
end
