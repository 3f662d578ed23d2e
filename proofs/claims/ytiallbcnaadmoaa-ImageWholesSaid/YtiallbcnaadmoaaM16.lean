/-
  Parts of a proof.
-/
import Derived.Test.YtiallbcnaadmoaaChecked
import Derived.Test.YtiallbcnaadmoaaM9
import Derived.Test.YtiallbcnaadmoaaM12
import Derived.Test.YtiallbcnaadmoaaM14
import Derived.Test.YtiallbcnaadmoaaM15
set_option linter.unusedSimpArgs false
set_option linter.unusedVariables false
section
namespace Go.Proofs.Ytiallbcnaadmoaa
open Go.Am
set_option maxRecDepth 20000
theorem mixed : Try.prog.follows .mixedOrders = true := by kernel_rfl
theorem J7u : JZ Try.prog J7g J6o = true := by kernel_rfl
theorem J16 : JZ Try.prog Jm J3m = true := by kernel_rfl
theorem J2n : JZ Try.prog J3p J0y = true := by kernel_rfl
theorem J4B : JZ Try.prog J35 J2F = true := by kernel_rfl
theorem J1G : JZ Try.prog J6E J2G = true := by kernel_rfl
theorem J2l : JZ Try.prog J3r J3v = true := by kernel_rfl
theorem J6t : JZ Try.prog J2T J5m = true := by kernel_rfl
theorem J7H : JZ Try.prog J5F J0S = true := by kernel_rfl
theorem J74 : JZ Try.prog J5S J29 = true := by kernel_rfl
theorem J1E : JZ Try.prog J44 J48 = true := by kernel_rfl
theorem Jb4 : JZ Try.prog J7F JeJ = true := by kernel_rfl
theorem Jbd : JZ Try.prog Jb1 JeK = true := by kernel_rfl
theorem J65 : JZ Try.prog J4J J60 = true := by kernel_rfl
theorem J8K : JZ Try.prog J7f J7m = true := by kernel_rfl
theorem J3Z : JZ Try.prog J2X JS = true := by kernel_rfl
theorem J4I : JZ Try.prog J0b J3N = true := by kernel_rfl
theorem J1V : JZ Try.prog J3o J3u = true := by kernel_rfl
theorem J6u : JZ Try.prog J2O J5g = true := by kernel_rfl
theorem J7G : JZ Try.prog J6B J2C = true := by kernel_rfl
theorem J2i : JZ Try.prog J3n J0v = true := by kernel_rfl
theorem J9i : JZ Try.prog J9r JcP = true := by kernel_rfl
theorem J78 : JZ Try.prog J68 J5U = true := by kernel_rfl
theorem J2Q : JZ Try.prog J56 J5k = true := by kernel_rfl
theorem J2x : JZ Try.prog J0J J1W = true := by kernel_rfl
theorem J7A : JZ Try.prog J3U J2H = true := by kernel_rfl
theorem J03 : JZ Try.prog JP Jl = true := by kernel_rfl
theorem J6s : JZ Try.prog J4f J5j = true := by kernel_rfl
theorem J6v : JZ Try.prog J53 J1Q = true := by kernel_rfl
theorem J2L : JZ Try.prog J55 J1S = true := by kernel_rfl
theorem J5e : JZ Try.prog J7N J5h = true := by kernel_rfl
theorem J2I : JZ Try.prog J59 J51 = true := by kernel_rfl
theorem J0g : JZ Try.prog J5l J54 = true := by kernel_rfl
theorem J3L : JZ Try.prog J3M J0Y = true := by kernel_rfl
theorem J0G : JZ Try.prog J3l J45 = true := by kernel_rfl
theorem J95 : JZ Try.prog J91 Jbt = true := by kernel_rfl
theorem J11 : JZ Try.prog J2P J1N = true := by kernel_rfl
theorem J83 : JZ Try.prog J6j Jam = true := by kernel_rfl
theorem J1k : JZ Try.prog J6G J5E = true := by kernel_rfl
theorem J1y : JZ Try.prog J64 J5P = true := by kernel_rfl
theorem J4k : JZ Try.prog J4a J5c = true := by kernel_rfl
theorem J9C : JZ Try.prog J7P Jcz = true := by kernel_rfl
theorem J9k : JZ Try.prog JcB Jcn = true := by kernel_rfl
theorem Jbf : JZ Try.prog JeU JeG = true := by kernel_rfl
theorem J2S : JZ Try.prog J5b J4Y = true := by kernel_rfl
theorem J1Z : JZ Try.prog J4R JJ = true := by kernel_rfl
theorem J7X : JZ Try.prog J0s J12.af = true := by kernel_rfl
theorem key {α : Type} (Q : FuncId → α → Prop) : ∀ l : List (FuncId × α), (∀ x ∈ l, Q x.1 x.2) → ∀ f a, lkF f l = some a → Q f a := by
  intro l
  induction l with
  | nil => intro _ f a h; cases h
  | cons x r ih =>
   intro hx f a h
   obtain ⟨g, b⟩ := x
   simp only [lkF] at h
   split at h
   ·rename_i e; injection h with h; subst h e; exact hx (f, b) (by simp)
   ·exact ih (fun y hy => hx y (by simp [hy])) f a h
theorem Jmo : ∀ f a, lkF f fns = some a → JZ Try.prog f a = true := by
 refine key _ fns ?_
 unfold fns
 simp only [List.forall_mem_cons]
 exact ⟨J7u, J16, J2n, J4B, J1G, J2l, J6t, J7H, J74, J1E, Jb4, Jbd, J65, J8K, J3Z, J4I, J1V, J6u, J7G, J2i, J9i, J78, J2Q, J2x, J7A, J03, J6s, J6v, J2L, J5e, J2I, J0g, J3L, J0G, J95, J11, J83, J1k, J1y, J4k, J9C, J9k, Jbf, J2S, J1Z, by simp⟩
theorem Jik : ∀ f k, lkF f Jgf = some k → JZ Try.prog f k.af = true := by
 refine key _ Jgf ?_
 unfold Jgf
 simp only [List.forall_mem_cons]
 exact ⟨J7X, by simp⟩
theorem Jml : ∀ f g, lkF f JgE = some g → ∀ args blks r, g args blks = some r → J5Q Try.prog f args blks r := by
 refine key _ JgE ?_
 unfold JgE
 simp only [List.forall_mem_cons]
 exact ⟨Jkv, Jex, J7x, by simp⟩
def noPrims : FuncId → Option (List AV → List Blk → Option Res) := fun _ => none
set_option maxRecDepth 20000 in
theorem soundT : J4u Try.prog (AF (J1 noPrims)) := by
 refine Jqq mixed (fun f af h => ?_) (fun f g h => ?_) (fun f k h => ?_)
 ·rcases J7j h with ⟨x, h1, h2⟩ | ⟨x, h1, h2⟩ | ⟨x, h1, h2⟩ | ⟨x, h1, h2⟩
  ·rw [J2s.fn.inj h2]; exact Jmo f _ h1
  ·exact J2s.noConfusion h2
  ·exact J2s.noConfusion h2
  ·exact J2s.noConfusion h2
 ·rcases J7j h with ⟨x, h1, h2⟩ | ⟨x, h1, h2⟩ | ⟨x, h1, h2⟩ | ⟨x, h1, h2⟩
  ·exact J2s.noConfusion h2
  ·exact J2s.noConfusion h2
  ·rw [J2s.prim.inj h2]; exact Jml f _ h1
  ·exact nomatch h1
 ·rcases J7j h with ⟨x, h1, h2⟩ | ⟨x, h1, h2⟩ | ⟨x, h1, h2⟩ | ⟨x, h1, h2⟩
  ·exact J2s.noConfusion h2
  ·rw [J2s.fork.inj h2]; exact Jik f _ h1
  ·exact J2s.noConfusion h2
  ·exact J2s.noConfusion h2
theorem own : ownKnob Try.prog.godebug = none := by kernel_rfl
theorem Jn0 : laidOutB Try.prog = true := by kernel_rfl
theorem JjC : mapsRowed Try.prog = true := by kernel_rfl
theorem Jtu : J96 Try.prog = true := by kernel_rfl
end Go.Proofs.Ytiallbcnaadmoaa
end
