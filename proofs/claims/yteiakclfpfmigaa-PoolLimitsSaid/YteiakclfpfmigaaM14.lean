/-
  Parts of a proof: YteiakclfpfmigaaKChk.
-/
import Derived.Test.YteiakclfpfmigaaChecked
import Derived.Test.YteiakclfpfmigaaM7
import Derived.Test.YteiakclfpfmigaaM9
import Derived.Test.YteiakclfpfmigaaM13
set_option linter.unusedSimpArgs false
set_option linter.unusedVariables false
section
namespace Go.Proofs.Yteiakclfpfmigaa
open Go.Am
set_option maxRecDepth 20000
theorem mixed : Try.prog.follows .mixedOrders = true := by kernel_rfl
theorem J3k : J0F Try.prog J3Z J4U = true := by kernel_rfl
theorem J4v : J0F Try.prog J31 J1b = true := by kernel_rfl
theorem J3Q : J0F Try.prog J3R J3D = true := by kernel_rfl
theorem J3J : J0F Try.prog J0o J2R = true := by kernel_rfl
theorem J0a : J0F Try.prog JQ Jm = true := by kernel_rfl
theorem J52 : J0F Try.prog J2g J4b = true := by kernel_rfl
theorem J0s : J0F Try.prog JR J08 = true := by kernel_rfl
theorem J2h : J0F Try.prog J1C JA = true := by kernel_rfl
theorem J1w : J0F Try.prog J2y J36 = true := by kernel_rfl
theorem J1q : J0F Try.prog J0p J11 = true := by kernel_rfl
theorem J59 : J0F Try.prog J3y J1v = true := by kernel_rfl
theorem J1y : J0F Try.prog J3d J0X = true := by kernel_rfl
theorem J2T : J0F Try.prog J3K J3I = true := by kernel_rfl
theorem J0A : J0F Try.prog J1s J1c = true := by kernel_rfl
theorem J1i : J0F Try.prog J1Q J4I = true := by kernel_rfl
theorem J1A : J0F Try.prog J3b J0W = true := by kernel_rfl
theorem J10 : J0F Try.prog J3z J2M = true := by kernel_rfl
theorem J3w : J0F Try.prog J3x J4e = true := by kernel_rfl
theorem JT : J0F Try.prog J3c J39 = true := by kernel_rfl
theorem J41 : J0F Try.prog J4G J4T = true := by kernel_rfl
theorem J1a : J0F Try.prog J3r J0j = true := by kernel_rfl
theorem J50 : J0F Try.prog JG J0q.af = true := by kernel_rfl
theorem key {α : Type} (Q : FuncId → α → Prop) : ∀ l : List (FuncId × α), (∀ x ∈ l, Q x.1 x.2) → ∀ f a, lkF f l = some a → Q f a := by
    intro l
    induction l with
    | nil => intro _ f a h; cases h
    | cons x r ih =>
      intro hx f a h
      obtain ⟨g, b⟩ := x
      simp only [lkF] at h
      split at h
      · rename_i e; injection h with h; subst h e; exact hx (f, b) (by simp)
      · exact ih (fun y hy => hx y (by simp [hy])) f a h
theorem Jj1 : ∀ f a, lkF f fns = some a → J0F Try.prog f a = true := by
  refine key _ fns ?_
  unfold fns
  simp only [List.forall_mem_cons]
  exact ⟨J3k, J4v, J3Q, J3J, J0a, J52, J0s, J2h, J1w, J1q, J59, J1y, J2T, J0A, J1i, J1A, J10, J3w, JT, J41, J1a, by simp⟩
theorem JgC : ∀ f k, lkF f Jd1 = some k → J0F Try.prog f k.af = true := by
  refine key _ Jd1 ?_
  unfold Jd1
  simp only [List.forall_mem_cons]
  exact ⟨J50, by simp⟩
theorem Jjc : ∀ f g, lkF f Jd0 = some g → ∀ args blks r, g args blks = some r → J47 Try.prog f args blks r := by
  refine key _ Jd0 ?_
  unfold Jd0
  simp only [List.forall_mem_cons]
  exact ⟨JdT, J9G, J4y, by simp⟩
def Jfi : FuncId → Option (List AV → List Blk → Option Res) := fun _ => none
set_option maxRecDepth 20000 in
theorem Jl3 : J2Y Try.prog (AF (J5 Jfi)) := by
  refine JlQ mixed (fun f af h => ?_) (fun f g h => ?_) (fun f k h => ?_)
  · rcases J7W h with ⟨x, h1, h2⟩ | ⟨x, h1, h2⟩ | ⟨x, h1, h2⟩ | ⟨x, h1, h2⟩
    · rw [J4n.fn.inj h2]; exact Jj1 f _ h1
    · exact J4n.noConfusion h2
    · exact J4n.noConfusion h2
    · exact J4n.noConfusion h2
  · rcases J7W h with ⟨x, h1, h2⟩ | ⟨x, h1, h2⟩ | ⟨x, h1, h2⟩ | ⟨x, h1, h2⟩
    · exact J4n.noConfusion h2
    · exact J4n.noConfusion h2
    · rw [J4n.prim.inj h2]; exact Jjc f _ h1
    · exact nomatch h1
  · rcases J7W h with ⟨x, h1, h2⟩ | ⟨x, h1, h2⟩ | ⟨x, h1, h2⟩ | ⟨x, h1, h2⟩
    · exact J4n.noConfusion h2
    · rw [J4n.fork.inj h2]; exact JgC f _ h1
    · exact J4n.noConfusion h2
    · exact J4n.noConfusion h2
theorem own : ownKnob Try.prog.godebug = none := by kernel_rfl
theorem Ji9 : laidOutB Try.prog = true := by kernel_rfl
theorem Jft : mapsRowed Try.prog = true := by kernel_rfl
theorem JlJ : J5W Try.prog = true := by kernel_rfl
end Go.Proofs.Yteiakclfpfmigaa
end
