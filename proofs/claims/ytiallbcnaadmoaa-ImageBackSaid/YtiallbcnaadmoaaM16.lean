/-
  Parts of a proof.
-/
import Derived.Test.YtiallbcnaadmoaaChecked
import Derived.Test.YtiallbcnaadmoaaM9
import Derived.Test.YtiallbcnaadmoaaM12
import Derived.Test.YtiallbcnaadmoaaM14
import Derived.Test.YtiallbcnaadmoaaM15
set_option linter.unusedSimpArgs false
set_option linter.unusedVariables false
section
namespace Go.Proofs.Ytiallbcnaadmoaa
open Go.Am
set_option maxRecDepth 20000
theorem mixed : Try.prog.follows .mixedOrders = true := by kernel_rfl
theorem J8B : JK Try.prog J8F J7s = true := by kernel_rfl
theorem J1l : JK Try.prog Ji J44 = true := by kernel_rfl
theorem J4Z : JK Try.prog J3K J0L = true := by kernel_rfl
theorem J2Y : JK Try.prog J45 J0E = true := by kernel_rfl
theorem J5C : JK Try.prog J3O J3k = true := by kernel_rfl
theorem J1R : JK Try.prog J2H J3e = true := by kernel_rfl
theorem J2X : JK Try.prog J4d J48 = true := by kernel_rfl
theorem J7M : JK Try.prog J3r J6c = true := by kernel_rfl
theorem J8Z : JK Try.prog J5A J0X = true := by kernel_rfl
theorem J8y : JK Try.prog J79 J2F = true := by kernel_rfl
theorem J0D : JK Try.prog J0w JC = true := by kernel_rfl
theorem J1S : JK Try.prog J57 J53 = true := by kernel_rfl
theorem J0C : JK Try.prog J0A J0u = true := by kernel_rfl
theorem J1U : JK Try.prog J3h J3i = true := by kernel_rfl
theorem J97 : JK Try.prog J7Z J7S = true := by kernel_rfl
theorem J76 : JK Try.prog J5R J7d = true := by kernel_rfl
theorem Jaf : JK Try.prog J8O J8K = true := by kernel_rfl
theorem J51 : JK Try.prog J3L JR = true := by kernel_rfl
theorem J9F : JK Try.prog J9x JbN = true := by kernel_rfl
theorem J2k : JK Try.prog J46 J47 = true := by kernel_rfl
theorem J7I : JK Try.prog J3p J6r = true := by kernel_rfl
theorem J93 : JK Try.prog J80 J3g = true := by kernel_rfl
theorem J2V : JK Try.prog J4e J0F = true := by kernel_rfl
theorem J7F : JK Try.prog J5k J68 = true := by kernel_rfl
theorem J8s : JK Try.prog J7k J7g = true := by kernel_rfl
theorem J4W : JK Try.prog J5V J7n = true := by kernel_rfl
theorem J4w : JK Try.prog J37 J3b = true := by kernel_rfl
theorem Jam : JK Try.prog J8c JcX = true := by kernel_rfl
theorem JaH : JK Try.prog J5M Jdz = true := by kernel_rfl
theorem J3n : JK Try.prog J6m J6o = true := by kernel_rfl
theorem J38 : JK Try.prog J0Q J2s = true := by kernel_rfl
theorem J8Y : JK Try.prog J3P J3j = true := by kernel_rfl
theorem J1j : JK Try.prog J1h J2L = true := by kernel_rfl
theorem Jbb : JK Try.prog Jb4 JeH = true := by kernel_rfl
theorem J7L : JK Try.prog J6d J2c = true := by kernel_rfl
theorem J3s : JK Try.prog J6n J2a = true := by kernel_rfl
theorem J6i : JK Try.prog J99 J6p = true := by kernel_rfl
theorem J07 : JK Try.prog J3V J58 = true := by kernel_rfl
theorem J3o : JK Try.prog J6f J69 = true := by kernel_rfl
theorem J0b : JK Try.prog J6l J6g = true := by kernel_rfl
theorem J4Q : JK Try.prog J4S J10 = true := by kernel_rfl
theorem J3T : JK Try.prog J5T J7c = true := by kernel_rfl
theorem J0O : JK Try.prog J34 J56 = true := by kernel_rfl
theorem J1s : JK Try.prog J5H J1p = true := by kernel_rfl
theorem J16 : JK Try.prog J4q J27 = true := by kernel_rfl
theorem J61 : JK Try.prog J3t J4N = true := by kernel_rfl
theorem J0g : JK Try.prog J2B J4P = true := by kernel_rfl
theorem J13 : JK Try.prog J3G J1M = true := by kernel_rfl
theorem Jd1 : JK Try.prog Jh0 Jh6 = true := by kernel_rfl
theorem J1J : JK Try.prog J5g J29 = true := by kernel_rfl
theorem J2h : JK Try.prog J6U J1T = true := by kernel_rfl
theorem J3l : JK Try.prog J6a J6w = true := by kernel_rfl
theorem J8p : JK Try.prog J7i J28 = true := by kernel_rfl
theorem Jay : JK Try.prog JdI Jdu = true := by kernel_rfl
theorem JN : JK Try.prog J6Y J4f = true := by kernel_rfl
theorem J9y : JK Try.prog J3A J5O.af = true := by kernel_rfl
theorem key {α : Type} (Q : FuncId → α → Prop) : ∀ l : List (FuncId × α), (∀ x ∈ l, Q x.1 x.2) → ∀ f a, lkF f l = some a → Q f a := by
  intro l
  induction l with
  | nil => intro _ f a h; cases h
  | cons x r ih =>
   intro hx f a h
   obtain ⟨g, b⟩ := x
   simp only [lkF] at h
   split at h
   ·rename_i e; injection h with h; subst h e; exact hx (f, b) (by simp)
   ·exact ih (fun y hy => hx y (by simp [hy])) f a h
theorem JoR : ∀ f a, lkF f fns = some a → JK Try.prog f a = true := by
 refine key _ fns ?_
 unfold fns
 simp only [List.forall_mem_cons]
 exact ⟨J8B, J1l, J4Z, J2Y, J5C, J1R, J2X, J7M, J8Z, J8y, J0D, J1S, J0C, J1U, J97, J76, Jaf, J51, J9F, J2k, J7I, J93, J2V, J7F, J8s, J4W, J4w, Jam, JaH, J3n, J38, J8Y, J1j, Jbb, J7L, J3s, J6i, J07, J3o, J0b, J4Q, J3T, J0O, J1s, J16, J61, J0g, J13, Jd1, J1J, J2h, J3l, J8p, Jay, JN, by simp⟩
theorem Jkl : ∀ f k, lkF f Jiw = some k → JK Try.prog f k.af = true := by
 refine key _ Jiw ?_
 unfold Jiw
 simp only [List.forall_mem_cons]
 exact ⟨J9y, by simp⟩
theorem JoC : ∀ f g, lkF f Jjv = some g → ∀ args blks r, g args blks = some r → J74 Try.prog f args blks r := by
 refine key _ Jjv ?_
 unfold Jjv
 simp only [List.forall_mem_cons]
 exact ⟨JnB, JgB, J8S, by simp⟩
def noPrims : FuncId → Option (List AV → List Blk → Option Res) := fun _ => none
set_option maxRecDepth 20000 in
theorem soundT : J5r Try.prog (AF (J2 noPrims)) := by
 refine Jtf mixed (fun f af h => ?_) (fun f g h => ?_) (fun f k h => ?_)
 ·rcases J8C h with ⟨x, h1, h2⟩ | ⟨x, h1, h2⟩ | ⟨x, h1, h2⟩ | ⟨x, h1, h2⟩
  ·rw [J32.fn.inj h2]; exact JoR f _ h1
  ·exact J32.noConfusion h2
  ·exact J32.noConfusion h2
  ·exact J32.noConfusion h2
 ·rcases J8C h with ⟨x, h1, h2⟩ | ⟨x, h1, h2⟩ | ⟨x, h1, h2⟩ | ⟨x, h1, h2⟩
  ·exact J32.noConfusion h2
  ·exact J32.noConfusion h2
  ·rw [J32.prim.inj h2]; exact JoC f _ h1
  ·exact nomatch h1
 ·rcases J8C h with ⟨x, h1, h2⟩ | ⟨x, h1, h2⟩ | ⟨x, h1, h2⟩ | ⟨x, h1, h2⟩
  ·exact J32.noConfusion h2
  ·rw [J32.fork.inj h2]; exact Jkl f _ h1
  ·exact J32.noConfusion h2
  ·exact J32.noConfusion h2
theorem own : ownKnob Try.prog.godebug = none := by kernel_rfl
theorem Jmw : laidOutB Try.prog = true := by kernel_rfl
theorem Jiq : mapsRowed Try.prog = true := by kernel_rfl
theorem Jwd : JaP Try.prog = true := by kernel_rfl
end Go.Proofs.Ytiallbcnaadmoaa
end
