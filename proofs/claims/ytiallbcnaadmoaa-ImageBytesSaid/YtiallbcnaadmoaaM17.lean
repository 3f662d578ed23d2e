/-
  Parts of a proof.
-/
import Derived.Test.YtiallbcnaadmoaaChecked
import Derived.Test.YtiallbcnaadmoaaM9
import Derived.Test.YtiallbcnaadmoaaM13
import Derived.Test.YtiallbcnaadmoaaM15
import Derived.Test.YtiallbcnaadmoaaM16
set_option linter.unusedSimpArgs false
set_option linter.unusedVariables false
section
namespace Go.Proofs.Ytiallbcnaadmoaa
open Go.Am
set_option maxRecDepth 20000
theorem mixed : Try.prog.follows .mixedOrders = true := by kernel_rfl
theorem J9l : JK Try.prog J9s J8g = true := by kernel_rfl
theorem J3I : JK Try.prog J7N J2X = true := by kernel_rfl
theorem J1q : JK Try.prog Jb J4D = true := by kernel_rfl
theorem J5r : JK Try.prog J40 J0K = true := by kernel_rfl
theorem J3j : JK Try.prog J4F J0D = true := by kernel_rfl
theorem J2g : JK Try.prog J2Z J58 = true := by kernel_rfl
theorem J65 : JK Try.prog J14 J3G = true := by kernel_rfl
theorem J23 : JK Try.prog J31 J3B = true := by kernel_rfl
theorem J3k : JK Try.prog J4w J4y = true := by kernel_rfl
theorem J8j : JK Try.prog J3L J74 = true := by kernel_rfl
theorem J9G : JK Try.prog J5p J10 = true := by kernel_rfl
theorem J9c : JK Try.prog J7M J2Y = true := by kernel_rfl
theorem J22 : JK Try.prog J5x J5A = true := by kernel_rfl
theorem J0y : JK Try.prog J0w J0B = true := by kernel_rfl
theorem J26 : JK Try.prog J3D J3H = true := by kernel_rfl
theorem J9H : JK Try.prog J8z J8F = true := by kernel_rfl
theorem J7T : JK Try.prog J6q J7V = true := by kernel_rfl
theorem JaK : JK Try.prog J9x J9t = true := by kernel_rfl
theorem J5q : JK Try.prog J47 JS = true := by kernel_rfl
theorem Jaa : JK Try.prog Jag Jd7 = true := by kernel_rfl
theorem J2C : JK Try.prog J4C J4x = true := by kernel_rfl
theorem J8o : JK Try.prog J3M J6Y = true := by kernel_rfl
theorem J9J : JK Try.prog J8y J3F = true := by kernel_rfl
theorem J0P : JK Try.prog J1O J3r = true := by kernel_rfl
theorem J3e : JK Try.prog J4A J0C = true := by kernel_rfl
theorem J8p : JK Try.prog J5Q J6X = true := by kernel_rfl
theorem J96 : JK Try.prog J7O J7z = true := by kernel_rfl
theorem J71 : JK Try.prog J4J J6N = true := by kernel_rfl
theorem J4X : JK Try.prog J3t J3w = true := by kernel_rfl
theorem J0c : JK Try.prog J4g J5D = true := by kernel_rfl
theorem J7H : JK Try.prog J2B J6g = true := by kernel_rfl
theorem J3N : JK Try.prog J6J J6F = true := by kernel_rfl
theorem J3u : JK Try.prog J0Q J2K = true := by kernel_rfl
theorem J9E : JK Try.prog J4c J3z = true := by kernel_rfl
theorem J1n : JK Try.prog J1m J35 = true := by kernel_rfl
theorem JbI : JK Try.prog JbV JfF = true := by kernel_rfl
theorem J8n : JK Try.prog J6V J2t = true := by kernel_rfl
theorem J1I : JK Try.prog J7p J8J = true := by kernel_rfl
theorem J3Q : JK Try.prog J6L J2p = true := by kernel_rfl
theorem J6R : JK Try.prog J9P J70 = true := by kernel_rfl
theorem J0b : JK Try.prog J4o J5w = true := by kernel_rfl
theorem J3R : JK Try.prog J6I J73 = true := by kernel_rfl
theorem J0g : JK Try.prog J72 J6P = true := by kernel_rfl
theorem J5f : JK Try.prog J5l J16 = true := by kernel_rfl
theorem J4f : JK Try.prog J6t J7F = true := by kernel_rfl
theorem J0N : JK Try.prog J3o J5C = true := by kernel_rfl
theorem J1r : JK Try.prog J68 J1s = true := by kernel_rfl
theorem J1c : JK Try.prog J4K J2m = true := by kernel_rfl
theorem J6w : JK Try.prog J3Z J5b = true := by kernel_rfl
theorem J0k : JK Try.prog J30 J5c = true := by kernel_rfl
theorem J18 : JK Try.prog J6a J1U = true := by kernel_rfl
theorem JdV : JK Try.prog Ji7 JhU = true := by kernel_rfl
theorem J1S : JK Try.prog J4N J2s = true := by kernel_rfl
theorem J2A : JK Try.prog J7o J25 = true := by kernel_rfl
theorem J3P : JK Try.prog J6U J6S = true := by kernel_rfl
theorem J93 : JK Try.prog J7R J2o = true := by kernel_rfl
theorem J5d : JK Try.prog J5j J20 = true := by kernel_rfl
theorem J19 : JK Try.prog J6i J1X = true := by kernel_rfl
theorem J1B : JK Try.prog J79 JU = true := by kernel_rfl
theorem Ja4 : JK Try.prog J3T J6z.af = true := by kernel_rfl
theorem key {α : Type} (Q : FuncId → α → Prop) : ∀ l : List (FuncId × α), (∀ x ∈ l, Q x.1 x.2) → ∀ f a, lkF f l = some a → Q f a := by
  intro l
  induction l with
  | nil => intro _ f a h; cases h
  | cons x r ih =>
   intro hx f a h
   obtain ⟨g, b⟩ := x
   simp only [lkF] at h
   split at h
   ·rename_i e; injection h with h; subst h e; exact hx (f, b) (by simp)
   ·exact ih (fun y hy => hx y (by simp [hy])) f a h
theorem JpX : ∀ f a, lkF f fns = some a → JK Try.prog f a = true := by
 refine key _ fns ?_
 unfold fns
 simp only [List.forall_mem_cons]
 exact ⟨J9l, J3I, J1q, J5r, J3j, J2g, J65, J23, J3k, J8j, J9G, J9c, J22, J0y, J26, J9H, J7T, JaK, J5q, Jaa, J2C, J8o, J9J, J0P, J3e, J8p, J96, J71, J4X, J0c, J7H, J3N, J3u, J9E, J1n, JbI, J8n, J1I, J3Q, J6R, J0b, J3R, J0g, J5f, J4f, J0N, J1r, J1c, J6w, J0k, J18, JdV, J1S, J2A, J3P, J93, J5d, J19, J1B, by simp⟩
theorem JlN : ∀ f k, lkF f Jkh = some k → JK Try.prog f k.af = true := by
 refine key _ Jkh ?_
 unfold Jkh
 simp only [List.forall_mem_cons]
 exact ⟨Ja4, by simp⟩
theorem JpP : ∀ f g, lkF f Jk8 = some g → ∀ args blks r, g args blks = some r → J7G Try.prog f args blks r := by
 refine key _ Jk8 ?_
 unfold Jk8
 simp only [List.forall_mem_cons]
 exact ⟨JnJ, JhK, J9D, by simp⟩
def noPrims : FuncId → Option (List AV → List Blk → Option Res) := fun _ => none
set_option maxRecDepth 20000 in
theorem soundT : J5T Try.prog (AF (J1 noPrims)) := by
 refine Jun mixed (fun f af h => ?_) (fun f g h => ?_) (fun f k h => ?_)
 ·rcases J9g h with ⟨x, h1, h2⟩ | ⟨x, h1, h2⟩ | ⟨x, h1, h2⟩ | ⟨x, h1, h2⟩
  ·rw [J3l.fn.inj h2]; exact JpX f _ h1
  ·exact J3l.noConfusion h2
  ·exact J3l.noConfusion h2
  ·exact J3l.noConfusion h2
 ·rcases J9g h with ⟨x, h1, h2⟩ | ⟨x, h1, h2⟩ | ⟨x, h1, h2⟩ | ⟨x, h1, h2⟩
  ·exact J3l.noConfusion h2
  ·exact J3l.noConfusion h2
  ·rw [J3l.prim.inj h2]; exact JpP f _ h1
  ·exact nomatch h1
 ·rcases J9g h with ⟨x, h1, h2⟩ | ⟨x, h1, h2⟩ | ⟨x, h1, h2⟩ | ⟨x, h1, h2⟩
  ·exact J3l.noConfusion h2
  ·rw [J3l.fork.inj h2]; exact JlN f _ h1
  ·exact J3l.noConfusion h2
  ·exact J3l.noConfusion h2
theorem own : ownKnob Try.prog.godebug = none := by kernel_rfl
theorem JqL : laidOutB Try.prog = true := by kernel_rfl
theorem Jnj : mapsRowed Try.prog = true := by kernel_rfl
theorem Jxs : Jbv Try.prog = true := by kernel_rfl
end Go.Proofs.Ytiallbcnaadmoaa
end
