/-
  Parts of a proof: YtiallbcnaadmoaaKChk.
-/
import Derived.Test.YtiallbcnaadmoaaChecked
import Derived.Test.YtiallbcnaadmoaaM7
import Derived.Test.YtiallbcnaadmoaaM10
import Derived.Test.YtiallbcnaadmoaaM12
set_option linter.unusedSimpArgs false
set_option linter.unusedVariables false
section
namespace Go.Proofs.Ytiallbcnaadmoaa
open Go.Am
set_option maxRecDepth 20000
theorem mixed : Try.prog.follows .mixedOrders = true := by kernel_rfl
theorem J7G : JY Try.prog J6u J6r = true := by kernel_rfl
theorem J1r : JY Try.prog Jk J3H = true := by kernel_rfl
theorem J2M : JY Try.prog J3x J4q = true := by kernel_rfl
theorem J2E : JY Try.prog J3G J0U = true := by kernel_rfl
theorem J8r : JY Try.prog J57 Jbk = true := by kernel_rfl
theorem Jc2 : JY Try.prog J5R Jg8 = true := by kernel_rfl
theorem J20 : JY Try.prog J6O J30 = true := by kernel_rfl
theorem Jca : JY Try.prog Jch Jg6 = true := by kernel_rfl
theorem J2C : JY Try.prog J3D J3J = true := by kernel_rfl
theorem J9V : JY Try.prog J6D JdR = true := by kernel_rfl
theorem JbU : JY Try.prog J9H Jgp = true := by kernel_rfl
theorem J3E : JY Try.prog J2I J3L = true := by kernel_rfl
theorem J7m : JY Try.prog J6g J2p = true := by kernel_rfl
theorem J9b : JY Try.prog J97 JbO = true := by kernel_rfl
theorem Jc3 : JY Try.prog J86 Jgb = true := by kernel_rfl
theorem Jc7 : JY Try.prog Jc0 Jgc = true := by kernel_rfl
theorem J2v : JY Try.prog J1y J2y = true := by kernel_rfl
theorem J6b : JY Try.prog J5b J6d = true := by kernel_rfl
theorem J8S : JY Try.prog J7v J7F = true := by kernel_rfl
theorem Jcd : JY Try.prog J80 Jgr = true := by kernel_rfl
theorem J4l : JY Try.prog J3d J0a = true := by kernel_rfl
theorem J4W : JY Try.prog J3j J4U = true := by kernel_rfl
theorem J6F : JY Try.prog J4v J5x = true := by kernel_rfl
theorem J7N : JY Try.prog J7M Jao = true := by kernel_rfl
theorem J6G : JY Try.prog J36 J5m = true := by kernel_rfl
theorem J7Z : JY Try.prog J6I J2X = true := by kernel_rfl
theorem J5e : JY Try.prog JC J44 = true := by kernel_rfl
theorem J7t : JY Try.prog J0j J69 = true := by kernel_rfl
theorem J48 : JY Try.prog J1m J4c = true := by kernel_rfl
theorem J27 : JY Try.prog J1k J45 = true := by kernel_rfl
theorem J51 : JY Try.prog J4V J52 = true := by kernel_rfl
theorem J23 : JY Try.prog J2r J3b = true := by kernel_rfl
theorem J6V : JY Try.prog J6S J9e = true := by kernel_rfl
theorem Jaf : JY Try.prog J9Y JdJ = true := by kernel_rfl
theorem J2D : JY Try.prog J1O J0V = true := by kernel_rfl
theorem JbW : JY Try.prog Jc5 Jgn = true := by kernel_rfl
theorem Ja7 : JY Try.prog J8i JdT = true := by kernel_rfl
theorem J7l : JY Try.prog J4j J66 = true := by kernel_rfl
theorem Jag : JY Try.prog Ja2 JdI = true := by kernel_rfl
theorem J35 : JY Try.prog J5y J5q = true := by kernel_rfl
theorem J2R : JY Try.prog J1b J2f = true := by kernel_rfl
theorem J7Y : JY Try.prog J4Q J2Z = true := by kernel_rfl
theorem Jai : JY Try.prog J9S JdK = true := by kernel_rfl
theorem J0m : JY Try.prog JZ J2x = true := by kernel_rfl
theorem J1j : JY Try.prog J0y J4X = true := by kernel_rfl
theorem J33 : JY Try.prog J3R J29 = true := by kernel_rfl
theorem Ja9 : JY Try.prog Ja5 JdY = true := by kernel_rfl
theorem J1d : JY Try.prog J0I JT = true := by kernel_rfl
theorem J0T : JY Try.prog J0u J0v = true := by kernel_rfl
theorem J2e : JY Try.prog J2B J3M = true := by kernel_rfl
theorem JN : JY Try.prog J5o J0l = true := by kernel_rfl
theorem J0C : JY Try.prog J5l J5j = true := by kernel_rfl
theorem J9w : JY Try.prog J7C JcO = true := by kernel_rfl
theorem J41 : JY Try.prog J1a J2Q = true := by kernel_rfl
theorem J4m : JY Try.prog J3g J3f = true := by kernel_rfl
theorem J0S : JY Try.prog J2o J4a = true := by kernel_rfl
theorem J18 : JY Try.prog J4s J4r = true := by kernel_rfl
theorem J9t : JY Try.prog J9m Jcy = true := by kernel_rfl
theorem J1w : JY Try.prog J4D J5w = true := by kernel_rfl
theorem J03 : JY Try.prog J0G J3F = true := by kernel_rfl
theorem J8n : JY Try.prog J8o Jbc = true := by kernel_rfl
theorem Jt : JY Try.prog J4f J2d = true := by kernel_rfl
theorem Jaa : JY Try.prog Ja0 JdL = true := by kernel_rfl
theorem J5h : JY Try.prog J7J J7K = true := by kernel_rfl
theorem J8V : JY Try.prog J19 J1B.af = true := by kernel_rfl
theorem key {α : Type} (Q : FuncId → α → Prop) : ∀ l : List (FuncId × α), (∀ x ∈ l, Q x.1 x.2) → ∀ f a, lkF f l = some a → Q f a := by
    intro l
    induction l with
    | nil => intro _ f a h; cases h
    | cons x r ih =>
      intro hx f a h
      obtain ⟨g, b⟩ := x
      simp only [lkF] at h
      split at h
      · rename_i e; injection h with h; subst h e; exact hx (f, b) (by simp)
      · exact ih (fun y hy => hx y (by simp [hy])) f a h
theorem Jro : ∀ f a, lkF f fns = some a → JY Try.prog f a = true := by
  refine key _ fns ?_
  unfold fns
  simp only [List.forall_mem_cons]
  exact ⟨J7G, J1r, J2M, J2E, J8r, Jc2, J20, Jca, J2C, J9V, JbU, J3E, J7m, J9b, Jc3, Jc7, J2v, J6b, J8S, Jcd, J4l, J4W, J6F, J7N, J6G, J7Z, J5e, J7t, J48, J27, J51, J23, J6V, Jaf, J2D, JbW, Ja7, J7l, Jag, J35, J2R, J7Y, Jai, J0m, J1j, J33, Ja9, J1d, J0T, J2e, JN, J0C, J9w, J41, J4m, J0S, J18, J9t, J1w, J03, J8n, Jt, Jaa, J5h, by simp⟩
theorem Jof : ∀ f k, lkF f JkI = some k → JY Try.prog f k.af = true := by
  refine key _ JkI ?_
  unfold JkI
  simp only [List.forall_mem_cons]
  exact ⟨J8V, by simp⟩
theorem Jr4 : ∀ f g, lkF f JkL = some g → ∀ args blks r, g args blks = some r → J84 Try.prog f args blks r := by
  refine key _ JkL ?_
  unfold JkL
  simp only [List.forall_mem_cons]
  exact ⟨Jl4, JfS, by simp⟩
def Jnc : FuncId → Option (List AV → List Blk → Option Res) := fun _ => none
set_option maxRecDepth 20000 in
theorem Jt2 : J5d Try.prog (AF (J1 Jnc)) := by
  refine JtY mixed (fun f af h => ?_) (fun f g h => ?_) (fun f k h => ?_)
  · rcases JdF h with ⟨x, h1, h2⟩ | ⟨x, h1, h2⟩ | ⟨x, h1, h2⟩ | ⟨x, h1, h2⟩
    · rw [J75.fn.inj h2]; exact Jro f _ h1
    · exact J75.noConfusion h2
    · exact J75.noConfusion h2
    · exact J75.noConfusion h2
  · rcases JdF h with ⟨x, h1, h2⟩ | ⟨x, h1, h2⟩ | ⟨x, h1, h2⟩ | ⟨x, h1, h2⟩
    · exact J75.noConfusion h2
    · exact J75.noConfusion h2
    · rw [J75.prim.inj h2]; exact Jr4 f _ h1
    · exact nomatch h1
  · rcases JdF h with ⟨x, h1, h2⟩ | ⟨x, h1, h2⟩ | ⟨x, h1, h2⟩ | ⟨x, h1, h2⟩
    · exact J75.noConfusion h2
    · rw [J75.fork.inj h2]; exact Jof f _ h1
    · exact J75.noConfusion h2
    · exact J75.noConfusion h2
theorem own : ownKnob Try.prog.godebug = none := by kernel_rfl
theorem JkT : laidOutB Try.prog = true := by kernel_rfl
theorem Jib : mapsRowed Try.prog = true := by kernel_rfl
theorem JtL : J9C Try.prog = true := by kernel_rfl
end Go.Proofs.Ytiallbcnaadmoaa
end
