/-
  Parts of a proof: YteiakclfpfmigaaKChk.
-/
import Derived.Test.YteiakclfpfmigaaChecked
import Derived.Test.YteiakclfpfmigaaM7
import Derived.Test.YteiakclfpfmigaaM11
import Derived.Test.YteiakclfpfmigaaM13
set_option linter.unusedSimpArgs false
set_option linter.unusedVariables false
section
namespace Go.Proofs.Yteiakclfpfmigaa
open Go.Am
set_option maxRecDepth 20000
theorem mixed : Try.prog.follows .mixedOrders = true := by kernel_rfl
theorem J8T : J02 Try.prog J8W J7V = true := by kernel_rfl
theorem J1D : J02 Try.prog J9 J4U = true := by kernel_rfl
theorem J7F : J02 Try.prog J4J J3f = true := by kernel_rfl
theorem J1f : J02 Try.prog J3S J3U = true := by kernel_rfl
theorem J3N : J02 Try.prog J4G J5F = true := by kernel_rfl
theorem J69 : J02 Try.prog J6c J8c = true := by kernel_rfl
theorem J2u : J02 Try.prog J1S J5e = true := by kernel_rfl
theorem J3C : J02 Try.prog J2V J0Z = true := by kernel_rfl
theorem J4V : J02 Try.prog J3D J4K = true := by kernel_rfl
theorem J9f : J02 Try.prog J7n J8b = true := by kernel_rfl
theorem J3v : J02 Try.prog J14 J3x = true := by kernel_rfl
theorem J8i : J02 Try.prog J4x J89 = true := by kernel_rfl
theorem J6a : J02 Try.prog J5r J40 = true := by kernel_rfl
theorem J0u : J02 Try.prog JW J3m = true := by kernel_rfl
theorem J2g : J02 Try.prog J7o J42 = true := by kernel_rfl
theorem J2i : J02 Try.prog J5u J3Y = true := by kernel_rfl
theorem J3I : J02 Try.prog J2P J4S = true := by kernel_rfl
theorem J6o : J02 Try.prog J4g J6l = true := by kernel_rfl
theorem J83 : J02 Try.prog J5S J6X = true := by kernel_rfl
theorem J6q : J02 Try.prog J4s J6j = true := by kernel_rfl
theorem J2Q : J02 Try.prog J3H J4M = true := by kernel_rfl
theorem J6w : J02 Try.prog JH J5m = true := by kernel_rfl
theorem J8K : J02 Try.prog J0m J7z = true := by kernel_rfl
theorem J5c : J02 Try.prog J1B J5b = true := by kernel_rfl
theorem J2v : J02 Try.prog J1x J57 = true := by kernel_rfl
theorem J1t : J02 Try.prog J6J J71 = true := by kernel_rfl
theorem J6i : J02 Try.prog J6k J6g = true := by kernel_rfl
theorem J2j : J02 Try.prog J3a J4n = true := by kernel_rfl
theorem J70 : J02 Try.prog J6T J1Z = true := by kernel_rfl
theorem J2J : J02 Try.prog J7l J87 = true := by kernel_rfl
theorem J1i : J02 Try.prog J0L JS = true := by kernel_rfl
theorem J0X : J02 Try.prog J0z J0y = true := by kernel_rfl
theorem J2U : J02 Try.prog J1j J4L = true := by kernel_rfl
theorem J4Y : J02 Try.prog J2A J2x = true := by kernel_rfl
theorem J4l : J02 Try.prog J05 J31 = true := by kernel_rfl
theorem J16 : J02 Try.prog J4j J17 = true := by kernel_rfl
theorem J27 : J02 Try.prog J6h J28 = true := by kernel_rfl
theorem J56 : J02 Try.prog J3W J3O = true := by kernel_rfl
theorem J6Z : J02 Try.prog J6K J2z = true := by kernel_rfl
theorem J1s : J02 Try.prog J0C J6n = true := by kernel_rfl
theorem J36 : J02 Try.prog J3c J1J = true := by kernel_rfl
theorem J3A : J02 Try.prog J0l J2m = true := by kernel_rfl
theorem J38 : J02 Try.prog J1r J3h = true := by kernel_rfl
theorem JZ : J02 Try.prog J3w J3r = true := by kernel_rfl
theorem J0c : J02 Try.prog J5n J5j = true := by kernel_rfl
theorem J33 : J02 Try.prog J4p J15 = true := by kernel_rfl
theorem J5k : J02 Try.prog J6p J25 = true := by kernel_rfl
theorem JO : J02 Try.prog J6N J0q = true := by kernel_rfl
theorem J0P : J02 Try.prog J6W J6S = true := by kernel_rfl
theorem J55 : J02 Try.prog J1e J3Q = true := by kernel_rfl
theorem J0U : J02 Try.prog J3i J5d = true := by kernel_rfl
theorem J24 : J02 Try.prog J7K J7H = true := by kernel_rfl
theorem J1F : J02 Try.prog J6H J6P = true := by kernel_rfl
theorem J0i : J02 Try.prog J5q JC = true := by kernel_rfl
theorem Ja1 : J02 Try.prog J0I J1H.af = true := by kernel_rfl
theorem key {α : Type} (Q : FuncId → α → Prop) : ∀ l : List (FuncId × α), (∀ x ∈ l, Q x.1 x.2) → ∀ f a, lkF f l = some a → Q f a := by
    intro l
    induction l with
    | nil => intro _ f a h; cases h
    | cons x r ih =>
      intro hx f a h
      obtain ⟨g, b⟩ := x
      simp only [lkF] at h
      split at h
      · rename_i e; injection h with h; subst h e; exact hx (f, b) (by simp)
      · exact ih (fun y hy => hx y (by simp [hy])) f a h
theorem Jsf : ∀ f a, lkF f fns = some a → J02 Try.prog f a = true := by
  refine key _ fns ?_
  unfold fns
  simp only [List.forall_mem_cons]
  exact ⟨J8T, J1D, J7F, J1f, J3N, J69, J2u, J3C, J4V, J9f, J3v, J8i, J6a, J0u, J2g, J2i, J3I, J6o, J83, J6q, J2Q, J6w, J8K, J5c, J2v, J1t, J6i, J2j, J70, J2J, J1i, J0X, J2U, J4Y, J4l, J16, J27, J56, J6Z, J1s, J36, J3A, J38, JZ, J0c, J33, J5k, JO, J0P, J55, J0U, J24, J1F, J0i, by simp⟩
theorem Jof : ∀ f k, lkF f JkX = some k → J02 Try.prog f k.af = true := by
  refine key _ JkX ?_
  unfold JkX
  simp only [List.forall_mem_cons]
  exact ⟨Ja1, by simp⟩
theorem Jr8 : ∀ f g, lkF f Jl2 = some g → ∀ args blks r, g args blks = some r → Ja3 Try.prog f args blks r := by
  refine key _ Jl2 ?_
  unfold Jl2
  simp only [List.forall_mem_cons]
  exact ⟨Jlz, by simp⟩
def Jnn : FuncId → Option (List AV → List Blk → Option Res) := fun _ => none
set_option maxRecDepth 20000 in
theorem JsC : J6E Try.prog (AF (J2 Jnn)) := by
  refine JtK mixed (fun f af h => ?_) (fun f g h => ?_) (fun f k h => ?_)
  · rcases Jej h with ⟨x, h1, h2⟩ | ⟨x, h1, h2⟩ | ⟨x, h1, h2⟩ | ⟨x, h1, h2⟩
    · rw [J8u.fn.inj h2]; exact Jsf f _ h1
    · exact J8u.noConfusion h2
    · exact J8u.noConfusion h2
    · exact J8u.noConfusion h2
  · rcases Jej h with ⟨x, h1, h2⟩ | ⟨x, h1, h2⟩ | ⟨x, h1, h2⟩ | ⟨x, h1, h2⟩
    · exact J8u.noConfusion h2
    · exact J8u.noConfusion h2
    · rw [J8u.prim.inj h2]; exact Jr8 f _ h1
    · exact nomatch h1
  · rcases Jej h with ⟨x, h1, h2⟩ | ⟨x, h1, h2⟩ | ⟨x, h1, h2⟩ | ⟨x, h1, h2⟩
    · exact J8u.noConfusion h2
    · rw [J8u.fork.inj h2]; exact Jof f _ h1
    · exact J8u.noConfusion h2
    · exact J8u.noConfusion h2
theorem own : ownKnob Try.prog.godebug = none := by kernel_rfl
theorem JfS : laidOutB Try.prog = true := by kernel_rfl
theorem Jcz : mapsRowed Try.prog = true := by kernel_rfl
theorem JtC : Jav Try.prog = true := by kernel_rfl
end Go.Proofs.Yteiakclfpfmigaa
end
