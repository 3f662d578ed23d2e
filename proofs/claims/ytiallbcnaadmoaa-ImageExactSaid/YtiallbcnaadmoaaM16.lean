/-
  Parts of a proof.
-/
import Derived.Test.YtiallbcnaadmoaaChecked
import Derived.Test.YtiallbcnaadmoaaM9
import Derived.Test.YtiallbcnaadmoaaM12
import Derived.Test.YtiallbcnaadmoaaM14
import Derived.Test.YtiallbcnaadmoaaM15
set_option linter.unusedSimpArgs false
set_option linter.unusedVariables false
section
namespace Go.Proofs.Ytiallbcnaadmoaa
open Go.Am
set_option maxRecDepth 20000
theorem mixed : Try.prog.follows .mixedOrders = true := by kernel_rfl
theorem J9J : JU Try.prog J9I J8p = true := by kernel_rfl
theorem J3H : JU Try.prog J5u J2V = true := by kernel_rfl
theorem J1x : JU Try.prog Jc J4L = true := by kernel_rfl
theorem J5w : JU Try.prog J4f J10 = true := by kernel_rfl
theorem J3p : JU Try.prog J4P J0R = true := by kernel_rfl
theorem J2k : JU Try.prog J2X J5b = true := by kernel_rfl
theorem J6f : JU Try.prog J4h J3K = true := by kernel_rfl
theorem J2b : JU Try.prog J8Q J3I = true := by kernel_rfl
theorem J3q : JU Try.prog J4M J4J = true := by kernel_rfl
theorem J8t : JU Try.prog J3P J6I = true := by kernel_rfl
theorem Ja2 : JU Try.prog J7v J1e = true := by kernel_rfl
theorem J9m : JU Try.prog J88 J30 = true := by kernel_rfl
theorem J0M : JU Try.prog J0L JN = true := by kernel_rfl
theorem J2d : JU Try.prog J5D J5G = true := by kernel_rfl
theorem J2a : JU Try.prog J6g J3L = true := by kernel_rfl
theorem Ja7 : JU Try.prog J8U J8I = true := by kernel_rfl
theorem J82 : JU Try.prog J6r J81 = true := by kernel_rfl
theorem Jb6 : JU Try.prog J9G J9M = true := by kernel_rfl
theorem J5B : JU Try.prog J49 J05 = true := by kernel_rfl
theorem J6A : JU Try.prog J0o J5f = true := by kernel_rfl
theorem J2C : JU Try.prog J4K J4H = true := by kernel_rfl
theorem J8D : JU Try.prog J3U J6U = true := by kernel_rfl
theorem Ja4 : JU Try.prog J8K J3G = true := by kernel_rfl
theorem J17 : JU Try.prog J3z J3D = true := by kernel_rfl
theorem J3k : JU Try.prog J4O J0Q = true := by kernel_rfl
theorem J8B : JU Try.prog J5L J6M = true := by kernel_rfl
theorem J9a : JU Try.prog J7U J7K = true := by kernel_rfl
theorem J5t : JU Try.prog J4y J80 = true := by kernel_rfl
theorem J3Q : JU Try.prog J7a J6J = true := by kernel_rfl
theorem J3A : JU Try.prog J15 J2D = true := by kernel_rfl
theorem Ja5 : JU Try.prog J5q J3J = true := by kernel_rfl
theorem J0h : JU Try.prog J01 Jr = true := by kernel_rfl
theorem J8x : JU Try.prog J5S J6Z = true := by kernel_rfl
theorem J8q : JU Try.prog J79 J2p = true := by kernel_rfl
theorem J1Q : JU Try.prog J7z J8L = true := by kernel_rfl
theorem J3X : JU Try.prog J75 J2r = true := by kernel_rfl
theorem J6N : JU Try.prog Jad J76 = true := by kernel_rfl
theorem J3T : JU Try.prog J74 J77 = true := by kernel_rfl
theorem J0t : JU Try.prog J6L J6H = true := by kernel_rfl
theorem J5c : JU Try.prog J5h J1h = true := by kernel_rfl
theorem J4E : JU Try.prog J4k J7Q = true := by kernel_rfl
theorem J12 : JU Try.prog J3r J5C = true := by kernel_rfl
theorem J1A : JU Try.prog J6k J1B = true := by kernel_rfl
theorem J1m : JU Try.prog J22 J2n = true := by kernel_rfl
theorem J0x : JU Try.prog J31 J58 = true := by kernel_rfl
theorem J1P : JU Try.prog J8J J7t = true := by kernel_rfl
theorem J24 : JU Try.prog J6t J7I = true := by kernel_rfl
theorem J5N : JU Try.prog J5P J6W = true := by kernel_rfl
theorem J1X : JU Try.prog J2t J2u = true := by kernel_rfl
theorem J5I : JU Try.prog J5W J6O = true := by kernel_rfl
theorem J2A : JU Try.prog J6h J27 = true := by kernel_rfl
theorem J9h : JU Try.prog J6y J2R = true := by kernel_rfl
theorem J4t : JU Try.prog J7Z J7J = true := by kernel_rfl
theorem J4j : JU Try.prog J84 J7Y = true := by kernel_rfl
theorem J3W : JU Try.prog J6G J6T = true := by kernel_rfl
theorem J9q : JU Try.prog J7L J2s = true := by kernel_rfl
theorem J1M : JU Try.prog J7q JT = true := by kernel_rfl
theorem Jat : JU Try.prog J0O J1r.af = true := by kernel_rfl
theorem key {α : Type} (Q : FuncId → α → Prop) : ∀ l : List (FuncId × α), (∀ x ∈ l, Q x.1 x.2) → ∀ f a, lkF f l = some a → Q f a := by
  intro l
  induction l with
  | nil => intro _ f a h; cases h
  | cons x r ih =>
   intro hx f a h
   obtain ⟨g, b⟩ := x
   simp only [lkF] at h
   split at h
   ·rename_i e; injection h with h; subst h e; exact hx (f, b) (by simp)
   ·exact ih (fun y hy => hx y (by simp [hy])) f a h
theorem Jqh : ∀ f a, lkF f fns = some a → JU Try.prog f a = true := by
 refine key _ fns ?_
 unfold fns
 simp only [List.forall_mem_cons]
 exact ⟨J9J, J3H, J1x, J5w, J3p, J2k, J6f, J2b, J3q, J8t, Ja2, J9m, J0M, J2d, J2a, Ja7, J82, Jb6, J5B, J6A, J2C, J8D, Ja4, J17, J3k, J8B, J9a, J5t, J3Q, J3A, Ja5, J0h, J8x, J8q, J1Q, J3X, J6N, J3T, J0t, J5c, J4E, J12, J1A, J1m, J0x, J1P, J24, J5N, J1X, J5I, J2A, J9h, J4t, J4j, J3W, J9q, J1M, by simp⟩
theorem Jlx : ∀ f k, lkF f Jk2 = some k → JU Try.prog f k.af = true := by
 refine key _ Jk2 ?_
 unfold Jk2
 simp only [List.forall_mem_cons]
 exact ⟨Jat, by simp⟩
theorem Jqf : ∀ f g, lkF f Jks = some g → ∀ args blks r, g args blks = some r → J7O Try.prog f args blks r := by
 refine key _ Jks ?_
 unfold Jks
 simp only [List.forall_mem_cons]
 exact ⟨JoR, Jhm, J9O, by simp⟩
def noPrims : FuncId → Option (List AV → List Blk → Option Res) := fun _ => none
set_option maxRecDepth 20000 in
theorem soundT : J64 Try.prog (AF (J2 noPrims)) := by
 refine Jut mixed (fun f af h => ?_) (fun f g h => ?_) (fun f k h => ?_)
 ·rcases J9w h with ⟨x, h1, h2⟩ | ⟨x, h1, h2⟩ | ⟨x, h1, h2⟩ | ⟨x, h1, h2⟩
  ·rw [J3s.fn.inj h2]; exact Jqh f _ h1
  ·exact J3s.noConfusion h2
  ·exact J3s.noConfusion h2
  ·exact J3s.noConfusion h2
 ·rcases J9w h with ⟨x, h1, h2⟩ | ⟨x, h1, h2⟩ | ⟨x, h1, h2⟩ | ⟨x, h1, h2⟩
  ·exact J3s.noConfusion h2
  ·exact J3s.noConfusion h2
  ·rw [J3s.prim.inj h2]; exact Jqf f _ h1
  ·exact nomatch h1
 ·rcases J9w h with ⟨x, h1, h2⟩ | ⟨x, h1, h2⟩ | ⟨x, h1, h2⟩ | ⟨x, h1, h2⟩
  ·exact J3s.noConfusion h2
  ·rw [J3s.fork.inj h2]; exact Jlx f _ h1
  ·exact J3s.noConfusion h2
  ·exact J3s.noConfusion h2
theorem own : ownKnob Try.prog.godebug = none := by kernel_rfl
theorem JnG : laidOutB Try.prog = true := by kernel_rfl
theorem Jkq : mapsRowed Try.prog = true := by kernel_rfl
theorem Jxk : JbK Try.prog = true := by kernel_rfl
end Go.Proofs.Ytiallbcnaadmoaa
end
