/-
  The abstract code is that of the program.
-/
import Derived.Test.YtiamnlgkgkhflaaFns
import Derived.Test.YtiamnlgkgkhflaaChecked
set_option linter.unusedSimpArgs false
set_option linter.unusedVariables false
namespace Go.Proofs.Ytiamnlgkgkhflaa
open Go.Am

theorem c_draw_New : chkFn Try.prog i_draw_New f_draw_New = true := by kernel_rfl
theorem c_slices_Clone_int_int : chkFn Try.prog i_slices_Clone_int_int f_slices_Clone_int_int = true := by kernel_rfl
theorem c_archiver_Valid : chkFn Try.prog i_archiver_Valid f_archiver_Valid = true := by kernel_rfl
theorem c_draw_Codes_Next : chkFn Try.prog i_draw_Codes_Next f_draw_Codes_Next = true := by kernel_rfl
theorem c_archiver_part : chkFn Try.prog i_archiver_part f_archiver_part = true := by kernel_rfl
theorem c_slices_isNaN_int : chkFn Try.prog i_slices_isNaN_int f_slices_isNaN_int = true := by kernel_rfl
theorem c_cmp_isNaN_int : chkFn Try.prog i_cmp_isNaN_int f_cmp_isNaN_int = true := by kernel_rfl
theorem c_archiver_New : chkFn Try.prog i_archiver_New f_archiver_New = true := by kernel_rfl
theorem c_make_Bounds : chkFn Try.prog i_make_Bounds f_make_Bounds = true := by kernel_rfl
theorem c_cmp_Less_int : chkFn Try.prog i_cmp_Less_int f_cmp_Less_int = true := by kernel_rfl
theorem c_slices_BinarySearch_int_int : chkFn Try.prog i_slices_BinarySearch_int_int f_slices_BinarySearch_int_int = true := by kernel_rfl
theorem c_archiver_Part : chkFn Try.prog i_archiver_Part f_archiver_Part = true := by kernel_rfl
theorem c_law25_awake : chkFn Try.prog i_law25_awake f_law25_awake = true := by kernel_rfl
theorem c_law25_ArchiverParts : chkFn Try.prog i_law25_ArchiverParts f_law25_ArchiverParts = true := by kernel_rfl

theorem chk_all : ∀ f a, lkF f fns = some a → chkFn Try.prog f a = true := by
  have key : ∀ l : List (FuncId × AFn), (∀ x ∈ l, chkFn Try.prog x.1 x.2 = true) → ∀ f a, lkF f l = some a → chkFn Try.prog f a = true := by
    intro l
    induction l with
    | nil => intro _ f a h; cases h
    | cons x r ih =>
      intro hx f a h
      obtain ⟨g, b⟩ := x
      simp only [lkF] at h
      split at h
      · rename_i e; injection h with h; subst h e; exact hx (f, b) (by simp)
      · exact ih (fun y hy => hx y (by simp [hy])) f a h
  refine key fns ?_
  unfold fns
  simp only [List.forall_mem_cons]
  exact ⟨c_draw_New, c_slices_Clone_int_int, c_archiver_Valid, c_draw_Codes_Next, c_archiver_part, c_slices_isNaN_int, c_cmp_isNaN_int, c_archiver_New, c_make_Bounds, c_cmp_Less_int, c_slices_BinarySearch_int_int, c_archiver_Part, c_law25_awake, c_law25_ArchiverParts, by simp⟩

theorem mixed : Try.prog.follows .mixedOrders = true := by kernel_rfl

end Go.Proofs.Ytiamnlgkgkhflaa
