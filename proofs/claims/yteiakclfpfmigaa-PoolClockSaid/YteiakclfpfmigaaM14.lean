/-
  Parts of a proof: YteiakclfpfmigaaKChk.
-/
import Derived.Test.YteiakclfpfmigaaChecked
import Derived.Test.YteiakclfpfmigaaM7
import Derived.Test.YteiakclfpfmigaaM9
import Derived.Test.YteiakclfpfmigaaM13
set_option linter.unusedSimpArgs false
set_option linter.unusedVariables false
section
namespace Go.Proofs.Yteiakclfpfmigaa
open Go.Am
set_option maxRecDepth 20000
theorem mixed : Try.prog.follows .mixedOrders = true := by kernel_rfl
theorem J3D : J0E Try.prog J4e J50 = true := by kernel_rfl
theorem J1I : J0E Try.prog J42 J1i = true := by kernel_rfl
theorem J4N : J0E Try.prog J3c J1k = true := by kernel_rfl
theorem J41 : J0E Try.prog J44 J3P = true := by kernel_rfl
theorem J3T : J0E Try.prog J0q J31 = true := by kernel_rfl
theorem J0e : J0E Try.prog JV Jn = true := by kernel_rfl
theorem J5f : J0E Try.prog J30 J4t = true := by kernel_rfl
theorem J0x : J0E Try.prog JW J0b = true := by kernel_rfl
theorem J1T : J0E Try.prog J1g J1d = true := by kernel_rfl
theorem J2w : J0E Try.prog J1R JB = true := by kernel_rfl
theorem J1J : J0E Try.prog J2K J3g = true := by kernel_rfl
theorem J1B : J0E Try.prog J0u J19 = true := by kernel_rfl
theorem J5c : J0E Try.prog J3F J1G = true := by kernel_rfl
theorem J1K : J0E Try.prog J3f J0Z = true := by kernel_rfl
theorem J36 : J0E Try.prog J3M J3R = true := by kernel_rfl
theorem J0H : J0E Try.prog J2E J1l = true := by kernel_rfl
theorem J1t : J0E Try.prog J3B J4U = true := by kernel_rfl
theorem J1O : J0E Try.prog J1N J10 = true := by kernel_rfl
theorem J3H : J0E Try.prog J4r J4p = true := by kernel_rfl
theorem JX : J0E Try.prog J3m J3k = true := by kernel_rfl
theorem J47 : J0E Try.prog J4X J4R = true := by kernel_rfl
theorem J0O : J0E Try.prog J3L Jl = true := by kernel_rfl
theorem J59 : J0E Try.prog JI J0v.af = true := by kernel_rfl
theorem key {α : Type} (Q : FuncId → α → Prop) : ∀ l : List (FuncId × α), (∀ x ∈ l, Q x.1 x.2) → ∀ f a, lkF f l = some a → Q f a := by
    intro l
    induction l with
    | nil => intro _ f a h; cases h
    | cons x r ih =>
      intro hx f a h
      obtain ⟨g, b⟩ := x
      simp only [lkF] at h
      split at h
      · rename_i e; injection h with h; subst h e; exact hx (f, b) (by simp)
      · exact ih (fun y hy => hx y (by simp [hy])) f a h
theorem Jk4 : ∀ f a, lkF f fns = some a → J0E Try.prog f a = true := by
  refine key _ fns ?_
  unfold fns
  simp only [List.forall_mem_cons]
  exact ⟨J3D, J1I, J4N, J41, J3T, J0e, J5f, J0x, J1T, J2w, J1J, J1B, J5c, J1K, J36, J0H, J1t, J1O, J3H, JX, J47, J0O, by simp⟩
theorem JhH : ∀ f k, lkF f Jdu = some k → J0E Try.prog f k.af = true := by
  refine key _ Jdu ?_
  unfold Jdu
  simp only [List.forall_mem_cons]
  exact ⟨J59, by simp⟩
theorem Jkl : ∀ f g, lkF f Jdx = some g → ∀ args blks r, g args blks = some r → J5e Try.prog f args blks r := by
  refine key _ Jdx ?_
  unfold Jdx
  simp only [List.forall_mem_cons]
  exact ⟨Jey, Ja8, by simp⟩
def JfJ : FuncId → Option (List AV → List Blk → Option Res) := fun _ => none
set_option maxRecDepth 20000 in
theorem Jlm : J3b Try.prog (AF (J2 JfJ)) := by
  refine Jmu mixed (fun f af h => ?_) (fun f g h => ?_) (fun f k h => ?_)
  · rcases J8n h with ⟨x, h1, h2⟩ | ⟨x, h1, h2⟩ | ⟨x, h1, h2⟩ | ⟨x, h1, h2⟩
    · rw [J4F.fn.inj h2]; exact Jk4 f _ h1
    · exact J4F.noConfusion h2
    · exact J4F.noConfusion h2
    · exact J4F.noConfusion h2
  · rcases J8n h with ⟨x, h1, h2⟩ | ⟨x, h1, h2⟩ | ⟨x, h1, h2⟩ | ⟨x, h1, h2⟩
    · exact J4F.noConfusion h2
    · exact J4F.noConfusion h2
    · rw [J4F.prim.inj h2]; exact Jkl f _ h1
    · exact nomatch h1
  · rcases J8n h with ⟨x, h1, h2⟩ | ⟨x, h1, h2⟩ | ⟨x, h1, h2⟩ | ⟨x, h1, h2⟩
    · exact J4F.noConfusion h2
    · rw [J4F.fork.inj h2]; exact JhH f _ h1
    · exact J4F.noConfusion h2
    · exact J4F.noConfusion h2
theorem own : ownKnob Try.prog.godebug = none := by kernel_rfl
theorem Jjd : laidOutB Try.prog = true := by kernel_rfl
theorem Jga : mapsRowed Try.prog = true := by kernel_rfl
theorem Jmh : J6j Try.prog = true := by kernel_rfl
end Go.Proofs.Yteiakclfpfmigaa
end
