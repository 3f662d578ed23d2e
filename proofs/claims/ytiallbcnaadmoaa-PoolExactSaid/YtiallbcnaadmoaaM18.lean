/-
  Parts of a proof.
-/
import Derived.Test.YtiallbcnaadmoaaChecked
import Derived.Test.YtiallbcnaadmoaaM9
import Derived.Test.YtiallbcnaadmoaaM13
import Derived.Test.YtiallbcnaadmoaaM15
import Derived.Test.YtiallbcnaadmoaaM16
import Derived.Test.YtiallbcnaadmoaaM17
set_option linter.unusedSimpArgs false
set_option linter.unusedVariables false
section
namespace Go.Proofs.Ytiallbcnaadmoaa
open Go.Am
set_option maxRecDepth 20000
theorem mixed : Try.prog.follows .mixedOrders = true := by kernel_rfl
theorem J9m : JR Try.prog J9D J8e = true := by kernel_rfl
theorem J1u : JR Try.prog Jd J4I = true := by kernel_rfl
theorem J3z : JR Try.prog J2F J0V = true := by kernel_rfl
theorem J6T : JR Try.prog J82 J9H = true := by kernel_rfl
theorem J4F : JR Try.prog J3y J1d = true := by kernel_rfl
theorem J3S : JR Try.prog J2b J2Z = true := by kernel_rfl
theorem J67 : JR Try.prog J7f J8w = true := by kernel_rfl
theorem J2i : JR Try.prog J1q J58 = true := by kernel_rfl
theorem J3v : JR Try.prog J2E J4D = true := by kernel_rfl
theorem J92 : JR Try.prog J6p J39 = true := by kernel_rfl
theorem J7D : JR Try.prog J13 J6d = true := by kernel_rfl
theorem J0I : JR Try.prog J0l JF = true := by kernel_rfl
theorem Ja0 : JR Try.prog J3R J8y = true := by kernel_rfl
theorem J1i : JR Try.prog J0o J0G = true := by kernel_rfl
theorem J2c : JR Try.prog J4q J5x = true := by kernel_rfl
theorem J9g : JR Try.prog J38 J37 = true := by kernel_rfl
theorem Ja5 : JR Try.prog J5m J8s = true := by kernel_rfl
theorem J7x : JR Try.prog J7P J7A = true := by kernel_rfl
theorem J5v : JR Try.prog J45 J01 = true := by kernel_rfl
theorem JaK : JR Try.prog J8R Jdt = true := by kernel_rfl
theorem J2C : JR Try.prog J4E J4J = true := by kernel_rfl
theorem J9P : JR Try.prog Jc0 Jc3 = true := by kernel_rfl
theorem J9N : JR Try.prog Jc1 Jc9 = true := by kernel_rfl
theorem J7i : JR Try.prog J9Y J9W = true := by kernel_rfl
theorem J3u : JR Try.prog J1v J0U = true := by kernel_rfl
theorem J0i : JR Try.prog J1g J3j = true := by kernel_rfl
theorem J3U : JR Try.prog J5N J6O = true := by kernel_rfl
theorem J3H : JR Try.prog J18 J2J = true := by kernel_rfl
theorem J9Z : JR Try.prog J7l J3O = true := by kernel_rfl
theorem J42 : JR Try.prog J1s J2X = true := by kernel_rfl
theorem J9M : JR Try.prog J9Q Jca = true := by kernel_rfl
theorem J8j : JR Try.prog J5A J2q = true := by kernel_rfl
theorem J6g : JR Try.prog J7V J7O = true := by kernel_rfl
theorem J3W : JR Try.prog J5F J2n = true := by kernel_rfl
theorem J5I : JR Try.prog J6L J6E = true := by kernel_rfl
theorem J1h : JR Try.prog J7e J8A = true := by kernel_rfl
theorem J1I : JR Try.prog J1J J34 = true := by kernel_rfl
theorem J1m : JR Try.prog J1n J0S = true := by kernel_rfl
theorem J5G : JR Try.prog J5M J23 = true := by kernel_rfl
theorem J7n : JR Try.prog J5k J8v = true := by kernel_rfl
theorem J6l : JR Try.prog J4r J7w = true := by kernel_rfl
theorem J88 : JR Try.prog J83 J9G = true := by kernel_rfl
theorem J7k : JR Try.prog J7j J8x = true := by kernel_rfl
theorem J26 : JR Try.prog J7W J5p = true := by kernel_rfl
theorem J0F : JR Try.prog J4O J5H = true := by kernel_rfl
theorem J3V : JR Try.prog J5J J2p = true := by kernel_rfl
theorem J3f : JR Try.prog J50 J2a = true := by kernel_rfl
theorem J3T : JR Try.prog J5B J6Q = true := by kernel_rfl
theorem JaG : JR Try.prog J8S Jd2 = true := by kernel_rfl
theorem J3g : JR Try.prog J6Z J9q = true := by kernel_rfl
theorem J1b : JR Try.prog J6A J5C = true := by kernel_rfl
theorem J11 : JR Try.prog J7K J6m = true := by kernel_rfl
theorem J6o : JR Try.prog J6k J36 = true := by kernel_rfl
theorem J2z : JR Try.prog J8r J63 = true := by kernel_rfl
theorem J86 : JR Try.prog J9A J9j = true := by kernel_rfl
theorem J7h : JR Try.prog J65 J8u = true := by kernel_rfl
theorem J2t : JR Try.prog J66 J8q = true := by kernel_rfl
theorem J0N : JR Try.prog J56 J51 = true := by kernel_rfl
theorem J0q : JR Try.prog J6J J6M = true := by kernel_rfl
theorem J5S : JR Try.prog J4A J0T = true := by kernel_rfl
theorem J21 : JR Try.prog J7r JD = true := by kernel_rfl
theorem J9K : JR Try.prog JT J1e.af = true := by kernel_rfl
theorem key {α : Type} (Q : FuncId → α → Prop) : ∀ l : List (FuncId × α), (∀ x ∈ l, Q x.1 x.2) → ∀ f a, lkF f l = some a → Q f a := by
    intro l
    induction l with
    | nil => intro _ f a h; cases h
    | cons x r ih =>
      intro hx f a h
      obtain ⟨g, b⟩ := x
      simp only [lkF] at h
      split at h
      · rename_i e; injection h with h; subst h e; exact hx (f, b) (by simp)
      · exact ih (fun y hy => hx y (by simp [hy])) f a h
theorem JuG : ∀ f a, lkF f fns = some a → JR Try.prog f a = true := by
  refine key _ fns ?_
  unfold fns
  simp only [List.forall_mem_cons]
  exact ⟨J9m, J1u, J3z, J6T, J4F, J3S, J67, J2i, J3v, J92, J7D, J0I, Ja0, J1i, J2c, J9g, Ja5, J7x, J5v, JaK, J2C, J9P, J9N, J7i, J3u, J0i, J3U, J3H, J9Z, J42, J9M, J8j, J6g, J3W, J5I, J1h, J1I, J1m, J5G, J7n, J6l, J88, J7k, J26, J0F, J3V, J3f, J3T, JaG, J3g, J1b, J11, J6o, J2z, J86, J7h, J2t, J0N, J0q, J5S, J21, by simp⟩
theorem JrI : ∀ f k, lkF f JmQ = some k → JR Try.prog f k.af = true := by
  refine key _ JmQ ?_
  unfold JmQ
  simp only [List.forall_mem_cons]
  exact ⟨J9K, by simp⟩
theorem Ju1 : ∀ f g, lkF f JmN = some g → ∀ args blks r, g args blks = some r → J6W Try.prog f args blks r := by
  refine key _ JmN ?_
  unfold JmN
  simp only [List.forall_mem_cons]
  exact ⟨Jo0, JhK, J8M, J98, by simp⟩
def Jpn : FuncId → Option (List AV → List Blk → Option Res) := fun _ => none
set_option maxRecDepth 20000 in
theorem Jw2 : J6h Try.prog (AF (J6 Jpn)) := by
  refine JwJ mixed (fun f af h => ?_) (fun f g h => ?_) (fun f k h => ?_)
  · rcases JeE h with ⟨x, h1, h2⟩ | ⟨x, h1, h2⟩ | ⟨x, h1, h2⟩ | ⟨x, h1, h2⟩
    · rw [J8U.fn.inj h2]; exact JuG f _ h1
    · exact J8U.noConfusion h2
    · exact J8U.noConfusion h2
    · exact J8U.noConfusion h2
  · rcases JeE h with ⟨x, h1, h2⟩ | ⟨x, h1, h2⟩ | ⟨x, h1, h2⟩ | ⟨x, h1, h2⟩
    · exact J8U.noConfusion h2
    · exact J8U.noConfusion h2
    · rw [J8U.prim.inj h2]; exact Ju1 f _ h1
    · exact nomatch h1
  · rcases JeE h with ⟨x, h1, h2⟩ | ⟨x, h1, h2⟩ | ⟨x, h1, h2⟩ | ⟨x, h1, h2⟩
    · exact J8U.noConfusion h2
    · rw [J8U.fork.inj h2]; exact JrI f _ h1
    · exact J8U.noConfusion h2
    · exact J8U.noConfusion h2
theorem own : ownKnob Try.prog.godebug = none := by kernel_rfl
theorem Jis : laidOutB Try.prog = true := by kernel_rfl
theorem JeP : mapsRowed Try.prog = true := by kernel_rfl
theorem Jwt : Jby Try.prog = true := by kernel_rfl
end Go.Proofs.Ytiallbcnaadmoaa
end
