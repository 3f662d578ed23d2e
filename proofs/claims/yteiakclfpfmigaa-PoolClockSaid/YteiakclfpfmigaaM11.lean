/-
  Parts of a proof: AmMut.
-/
import Derived.Laws.IdiomCopy
import Derived.Lib.SliceRun
import Derived.Test.YteiakclfpfmigaaM3
import Derived.Test.YteiakclfpfmigaaM7
set_option linter.unusedSimpArgs false
set_option linter.unusedVariables false
section
set_option linter.unusedSimpArgs false
set_option linter.unusedVariables false
namespace Go.Am
variable {P : Program}
structure J9F (r : Nat) (c c' : Array Value) (w w' : World) : Prop where
  os : w'.os = w.os
  out : w'.output = w.output
  size : w'.heap.size = w.heap.size
  at_ : ∃ et fz, w.heap[r]? = some (.cells c et fz) ∧ w'.heap[r]? = some (.cells c' et fz)
  csize : c'.size = c.size
  rest : ∀ k, k ≠ r → w'.heap[k]? = w.heap[k]?
theorem J9F.trans {r : Nat} {c c1 c2 : Array Value} {w w1 w2 : World} (h : J9F r c c1 w w1) (h' : J9F r c1 c2 w1 w2) : J9F r c c2 w w2 := by
  obtain ⟨et, fz, a, b⟩ := h.at_
  obtain ⟨et', fz', a', b'⟩ := h'.at_
  rw [b] at a'
  injection a' with a'
  injection a' with e1 e2 e3
  subst e2 e3
  exact ⟨h'.os.trans h.os, h'.out.trans h.out, h'.size.trans h.size, ⟨et, fz, a, b'⟩, h'.csize.trans h.csize, fun k hk => (h'.rest k hk).trans (h.rest k hk)⟩
end Go.Am
end
