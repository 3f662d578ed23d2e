/-
  Parts of a proof: YtiallbcnaadmoaaKChk.
-/
import Derived.Test.YtiallbcnaadmoaaChecked
import Derived.Test.YtiallbcnaadmoaaM7
import Derived.Test.YtiallbcnaadmoaaM10
import Derived.Test.YtiallbcnaadmoaaM12
set_option linter.unusedSimpArgs false
set_option linter.unusedVariables false
section
namespace Go.Proofs.Ytiallbcnaadmoaa
open Go.Am
set_option maxRecDepth 20000
theorem mixed : Try.prog.follows .mixedOrders = true := by kernel_rfl
theorem J9Q : J00 Try.prog J9Y J8H = true := by kernel_rfl
theorem J1L : J00 Try.prog Jc J4U = true := by kernel_rfl
theorem J3D : J00 Try.prog J5Q J5O = true := by kernel_rfl
theorem J3A : J00 Try.prog J4P J15 = true := by kernel_rfl
theorem J2B : J00 Try.prog J24 J5s = true := by kernel_rfl
theorem J6r : J00 Try.prog J4u J3P = true := by kernel_rfl
theorem J2n : J00 Try.prog J8X J3V = true := by kernel_rfl
theorem J6w : J00 Try.prog J8U J99 = true := by kernel_rfl
theorem J3s : J00 Try.prog J4M J4T = true := by kernel_rfl
theorem J8L : J00 Try.prog J43 J74 = true := by kernel_rfl
theorem Jae : J00 Try.prog J7Q J1w = true := by kernel_rfl
theorem J4N : J00 Try.prog J3w J4Q = true := by kernel_rfl
theorem J9w : J00 Try.prog J8j J3b = true := by kernel_rfl
theorem J2m : J00 Try.prog J5K J5N = true := by kernel_rfl
theorem J2p : J00 Try.prog J6v J3R = true := by kernel_rfl
theorem Jag : J00 Try.prog J8W J98 = true := by kernel_rfl
theorem J3n : J00 Try.prog J21 J3o = true := by kernel_rfl
theorem J8g : J00 Try.prog J6O J8b = true := by kernel_rfl
theorem Jb0 : J00 Try.prog J9T J9X = true := by kernel_rfl
theorem J8Z : J00 Try.prog J6q J8V = true := by kernel_rfl
theorem J5D : J00 Try.prog J4d J0g = true := by kernel_rfl
theorem J6J : J00 Try.prog J4f J6H = true := by kernel_rfl
theorem J8P : J00 Try.prog J60 J7l = true := by kernel_rfl
theorem J2R : J00 Try.prog J4I J4H = true := by kernel_rfl
theorem J8T : J00 Try.prog J40 J77 = true := by kernel_rfl
theorem Jac : J00 Try.prog J90 J3Q = true := by kernel_rfl
theorem J6P : J00 Try.prog JD J5l = true := by kernel_rfl
theorem J9v : J00 Try.prog J0s J8k = true := by kernel_rfl
theorem J5u : J00 Try.prog J1F J5o = true := by kernel_rfl
theorem J2z : J00 Try.prog J1E J5k = true := by kernel_rfl
theorem J6B : J00 Try.prog J6E J6A = true := by kernel_rfl
theorem J2s : J00 Try.prog J37 J4m = true := by kernel_rfl
theorem J1i : J00 Try.prog J3N J3O = true := by kernel_rfl
theorem J7h : J00 Try.prog J71 J2f = true := by kernel_rfl
theorem J3u : J00 Try.prog J4J J16 = true := by kernel_rfl
theorem J2L : J00 Try.prog J7T J93 = true := by kernel_rfl
theorem J8N : J00 Try.prog J69 J73 = true := by kernel_rfl
theorem J9G : J00 Try.prog J8a J8f = true := by kernel_rfl
theorem J55 : J00 Try.prog J7i J2E = true := by kernel_rfl
theorem J3Z : J00 Try.prog J7s J7n = true := by kernel_rfl
theorem J3J : J00 Try.prog J1h J2U = true := by kernel_rfl
theorem Jao : J00 Try.prog J6t J3S = true := by kernel_rfl
theorem J8J : J00 Try.prog J7b J2D = true := by kernel_rfl
theorem J0w : J00 Try.prog J01 J3i = true := by kernel_rfl
theorem J1A : J00 Try.prog J0I J6K = true := by kernel_rfl
theorem J3X : J00 Try.prog J7d J2H = true := by kernel_rfl
theorem J3Y : J00 Try.prog J7c J7r = true := by kernel_rfl
theorem J1n : J00 Try.prog J0Q JX = true := by kernel_rfl
theorem J14 : J00 Try.prog J0D J0E = true := by kernel_rfl
theorem J2S : J00 Try.prog J3z J4V = true := by kernel_rfl
theorem JU : J00 Try.prog J7e J0u = true := by kernel_rfl
theorem J0J : J00 Try.prog J70 J75 = true := by kernel_rfl
theorem J5y : J00 Try.prog J5g J1B = true := by kernel_rfl
theorem J5e : J00 Try.prog J1j J3M = true := by kernel_rfl
theorem J5G : J00 Try.prog J4i J4j = true := by kernel_rfl
theorem J13 : J00 Try.prog J47 J5n = true := by kernel_rfl
theorem J1e : J00 Try.prog J5M J5P = true := by kernel_rfl
theorem J1Q : J00 Try.prog J6C J1U = true := by kernel_rfl
theorem J1T : J00 Try.prog J7k J79 = true := by kernel_rfl
theorem J04 : J00 Try.prog J4L J4S = true := by kernel_rfl
theorem J0O : J00 Try.prog J5p J5x = true := by kernel_rfl
theorem J0l : J00 Try.prog J76 J72 = true := by kernel_rfl
theorem J0h : J00 Try.prog J5a JH = true := by kernel_rfl
theorem Jb1 : J00 Try.prog J1f J1X.af = true := by kernel_rfl
theorem key {α : Type} (Q : FuncId → α → Prop) : ∀ l : List (FuncId × α), (∀ x ∈ l, Q x.1 x.2) → ∀ f a, lkF f l = some a → Q f a := by
    intro l
    induction l with
    | nil => intro _ f a h; cases h
    | cons x r ih =>
      intro hx f a h
      obtain ⟨g, b⟩ := x
      simp only [lkF] at h
      split at h
      · rename_i e; injection h with h; subst h e; exact hx (f, b) (by simp)
      · exact ih (fun y hy => hx y (by simp [hy])) f a h
theorem JuH : ∀ f a, lkF f fns = some a → J00 Try.prog f a = true := by
  refine key _ fns ?_
  unfold fns
  simp only [List.forall_mem_cons]
  exact ⟨J9Q, J1L, J3D, J3A, J2B, J6r, J2n, J6w, J3s, J8L, Jae, J4N, J9w, J2m, J2p, Jag, J3n, J8g, Jb0, J8Z, J5D, J6J, J8P, J2R, J8T, Jac, J6P, J9v, J5u, J2z, J6B, J2s, J1i, J7h, J3u, J2L, J8N, J9G, J55, J3Z, J3J, Jao, J8J, J0w, J1A, J3X, J3Y, J1n, J14, J2S, JU, J0J, J5y, J5e, J5G, J13, J1e, J1Q, J1T, J04, J0O, J0l, J0h, by simp⟩
theorem Js6 : ∀ f k, lkF f Jno = some k → J00 Try.prog f k.af = true := by
  refine key _ Jno ?_
  unfold Jno
  simp only [List.forall_mem_cons]
  exact ⟨Jb1, by simp⟩
theorem Jum : ∀ f g, lkF f Jnm = some g → ∀ args blks r, g args blks = some r → Jan Try.prog f args blks r := by
  refine key _ Jnm ?_
  unfold Jnm
  simp only [List.forall_mem_cons]
  exact ⟨JnJ, Jhs, by simp⟩
def JpZ : FuncId → Option (List AV → List Blk → Option Res) := fun _ => none
set_option maxRecDepth 20000 in
theorem JwK : J6M Try.prog (AF (J1 JpZ)) := by
  refine Jx4 mixed (fun f af h => ?_) (fun f g h => ?_) (fun f k h => ?_)
  · rcases Jfi h with ⟨x, h1, h2⟩ | ⟨x, h1, h2⟩ | ⟨x, h1, h2⟩ | ⟨x, h1, h2⟩
    · rw [J9q.fn.inj h2]; exact JuH f _ h1
    · exact J9q.noConfusion h2
    · exact J9q.noConfusion h2
    · exact J9q.noConfusion h2
  · rcases Jfi h with ⟨x, h1, h2⟩ | ⟨x, h1, h2⟩ | ⟨x, h1, h2⟩ | ⟨x, h1, h2⟩
    · exact J9q.noConfusion h2
    · exact J9q.noConfusion h2
    · rw [J9q.prim.inj h2]; exact Jum f _ h1
    · exact nomatch h1
  · rcases Jfi h with ⟨x, h1, h2⟩ | ⟨x, h1, h2⟩ | ⟨x, h1, h2⟩ | ⟨x, h1, h2⟩
    · exact J9q.noConfusion h2
    · rw [J9q.fork.inj h2]; exact Js6 f _ h1
    · exact J9q.noConfusion h2
    · exact J9q.noConfusion h2
theorem own : ownKnob Try.prog.godebug = none := by kernel_rfl
theorem JiF : laidOutB Try.prog = true := by kernel_rfl
theorem JeX : mapsRowed Try.prog = true := by kernel_rfl
theorem JwV : JbI Try.prog = true := by kernel_rfl
end Go.Proofs.Ytiallbcnaadmoaa
end
