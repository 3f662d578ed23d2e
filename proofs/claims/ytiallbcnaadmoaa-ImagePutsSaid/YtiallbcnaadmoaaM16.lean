/-
  Parts of a proof.
-/
import Derived.Test.YtiallbcnaadmoaaChecked
import Derived.Test.YtiallbcnaadmoaaM9
import Derived.Test.YtiallbcnaadmoaaM12
import Derived.Test.YtiallbcnaadmoaaM14
import Derived.Test.YtiallbcnaadmoaaM15
set_option linter.unusedSimpArgs false
set_option linter.unusedVariables false
section
namespace Go.Proofs.Ytiallbcnaadmoaa
open Go.Am
set_option maxRecDepth 20000
theorem mixed : Try.prog.follows .mixedOrders = true := by kernel_rfl
theorem J8r : J04 Try.prog J8w J7n = true := by kernel_rfl
theorem J1s : J04 Try.prog Jh J4b = true := by kernel_rfl
theorem J4S : J04 Try.prog J3F J0W = true := by kernel_rfl
theorem J2Y : J04 Try.prog J4a J0N = true := by kernel_rfl
theorem J5x : J04 Try.prog J3P J3h = true := by kernel_rfl
theorem J25 : J04 Try.prog J7J J3l = true := by kernel_rfl
theorem J2X : J04 Try.prog J4c J48 = true := by kernel_rfl
theorem J7A : J04 Try.prog J3y J5X = true := by kernel_rfl
theorem J8U : J04 Try.prog J6G J1d = true := by kernel_rfl
theorem J8i : J04 Try.prog J74 J2C = true := by kernel_rfl
theorem J0F : J04 Try.prog J0H JK = true := by kernel_rfl
theorem J22 : J04 Try.prog J51 J53 = true := by kernel_rfl
theorem J23 : J04 Try.prog J5y J3k = true := by kernel_rfl
theorem J8V : J04 Try.prog J7S J7E = true := by kernel_rfl
theorem J72 : J04 Try.prog J5K J73 = true := by kernel_rfl
theorem Ja0 : J04 Try.prog J8B J8A = true := by kernel_rfl
theorem J4U : J04 Try.prog J3D J00 = true := by kernel_rfl
theorem J5G : J04 Try.prog J0i J4J = true := by kernel_rfl
theorem J2s : J04 Try.prog J4d J4f = true := by kernel_rfl
theorem J7D : J04 Try.prog J3s J67 = true := by kernel_rfl
theorem J93 : J04 Try.prog J7T J3j = true := by kernel_rfl
theorem J30 : J04 Try.prog J1r J0O = true := by kernel_rfl
theorem J7w : J04 Try.prog J5l J6i = true := by kernel_rfl
theorem J8m : J04 Try.prog J6U J6W = true := by kernel_rfl
theorem J4R : J04 Try.prog J78 J6Z = true := by kernel_rfl
theorem J3t : J04 Try.prog J6g J6f = true := by kernel_rfl
theorem J3b : J04 Try.prog J10 J2t = true := by kernel_rfl
theorem J8W : J04 Try.prog J4O J3i = true := by kernel_rfl
theorem J0b : J04 Try.prog JX Jp = true := by kernel_rfl
theorem J7v : J04 Try.prog J5h J6k = true := by kernel_rfl
theorem J7x : J04 Try.prog J6j J2j = true := by kernel_rfl
theorem J3r : J04 Try.prog J6c J2l = true := by kernel_rfl
theorem J66 : J04 Try.prog J9f J6a = true := by kernel_rfl
theorem J3u : J04 Try.prog J6b J62 = true := by kernel_rfl
theorem J0n : J04 Try.prog J68 J6e = true := by kernel_rfl
theorem J4C : J04 Try.prog J2Q J1f = true := by kernel_rfl
theorem J47 : J04 Try.prog J5L J71 = true := by kernel_rfl
theorem J0Z : J04 Try.prog J3Q J55 = true := by kernel_rfl
theorem J1z : J04 Try.prog J5B J1x = true := by kernel_rfl
theorem J1i : J04 Try.prog J3w J2k = true := by kernel_rfl
theorem J0t : J04 Try.prog J3z J4E = true := by kernel_rfl
theorem J1J : J04 Try.prog J4N J6E = true := by kernel_rfl
theorem J1X : J04 Try.prog J4Q J6Y = true := by kernel_rfl
theorem J1U : J04 Try.prog J5T J2g = true := by kernel_rfl
theorem J2q : J04 Try.prog J6F J24 = true := by kernel_rfl
theorem J3o : J04 Try.prog J61 J64 = true := by kernel_rfl
theorem J8n : J04 Try.prog J6V J2i = true := by kernel_rfl
theorem JH : J04 Try.prog J6O J15 = true := by kernel_rfl
theorem J9v : J04 Try.prog J0E J1m.af = true := by kernel_rfl
theorem key {α : Type} (Q : FuncId → α → Prop) : ∀ l : List (FuncId × α), (∀ x ∈ l, Q x.1 x.2) → ∀ f a, lkF f l = some a → Q f a := by
  intro l
  induction l with
  | nil => intro _ f a h; cases h
  | cons x r ih =>
   intro hx f a h
   obtain ⟨g, b⟩ := x
   simp only [lkF] at h
   split at h
   ·rename_i e; injection h with h; subst h e; exact hx (f, b) (by simp)
   ·exact ih (fun y hy => hx y (by simp [hy])) f a h
theorem JnU : ∀ f a, lkF f fns = some a → J04 Try.prog f a = true := by
 refine key _ fns ?_
 unfold fns
 simp only [List.forall_mem_cons]
 exact ⟨J8r, J1s, J4S, J2Y, J5x, J25, J2X, J7A, J8U, J8i, J0F, J22, J23, J8V, J72, Ja0, J4U, J5G, J2s, J7D, J93, J30, J7w, J8m, J4R, J3t, J3b, J8W, J0b, J7v, J7x, J3r, J66, J3u, J0n, J4C, J47, J0Z, J1z, J1i, J0t, J1J, J1X, J1U, J2q, J3o, J8n, JH, by simp⟩
theorem Jk4 : ∀ f k, lkF f Ji6 = some k → J04 Try.prog f k.af = true := by
 refine key _ Ji6 ?_
 unfold Ji6
 simp only [List.forall_mem_cons]
 exact ⟨J9v, by simp⟩
theorem Joa : ∀ f g, lkF f Ji8 = some g → ∀ args blks r, g args blks = some r → J70 Try.prog f args blks r := by
 refine key _ Ji8 ?_
 unfold Ji8
 simp only [List.forall_mem_cons]
 exact ⟨Jmr, Jge, J8M, by simp⟩
def noPrims : FuncId → Option (List AV → List Blk → Option Res) := fun _ => none
set_option maxRecDepth 20000 in
theorem soundT : J5q Try.prog (AF (J2 noPrims)) := by
 refine Jsl mixed (fun f af h => ?_) (fun f g h => ?_) (fun f k h => ?_)
 ·rcases J8v h with ⟨x, h1, h2⟩ | ⟨x, h1, h2⟩ | ⟨x, h1, h2⟩ | ⟨x, h1, h2⟩
  ·rw [J33.fn.inj h2]; exact JnU f _ h1
  ·exact J33.noConfusion h2
  ·exact J33.noConfusion h2
  ·exact J33.noConfusion h2
 ·rcases J8v h with ⟨x, h1, h2⟩ | ⟨x, h1, h2⟩ | ⟨x, h1, h2⟩ | ⟨x, h1, h2⟩
  ·exact J33.noConfusion h2
  ·exact J33.noConfusion h2
  ·rw [J33.prim.inj h2]; exact Joa f _ h1
  ·exact nomatch h1
 ·rcases J8v h with ⟨x, h1, h2⟩ | ⟨x, h1, h2⟩ | ⟨x, h1, h2⟩ | ⟨x, h1, h2⟩
  ·exact J33.noConfusion h2
  ·rw [J33.fork.inj h2]; exact Jk4 f _ h1
  ·exact J33.noConfusion h2
  ·exact J33.noConfusion h2
theorem own : ownKnob Try.prog.godebug = none := by kernel_rfl
theorem JqJ : laidOutB Try.prog = true := by kernel_rfl
theorem JoU : mapsRowed Try.prog = true := by kernel_rfl
theorem Jvt : JaE Try.prog = true := by kernel_rfl
end Go.Proofs.Ytiallbcnaadmoaa
end
