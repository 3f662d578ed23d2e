/-
  The abstract code is that of the program.
-/
import Derived.Test.YteiakclfpfmigaaFns
import Derived.Test.YteiakclfpfmigaaChecked
import Derived.Test.YteiakclfpfmigaaAmLaw
import Derived.Test.YteiakclfpfmigaaPrm
set_option linter.unusedSimpArgs false
set_option linter.unusedVariables false
namespace Go.Proofs.Yteiakclfpfmigaa
open Go.Am

theorem mixed : Try.prog.follows .mixedOrders = true := by kernel_rfl
theorem c_draw_New : chkFn Try.prog i_draw_New f_draw_New = true := by kernel_rfl
theorem c_draw_Codes_Next : chkFn Try.prog i_draw_Codes_Next f_draw_Codes_Next = true := by kernel_rfl
theorem c_page_New : chkFn Try.prog i_page_New f_page_New = true := by kernel_rfl
theorem c_draw_Codes_Data : chkFn Try.prog i_draw_Codes_Data f_draw_Codes_Data = true := by kernel_rfl
theorem c_codec_Get : chkFn Try.prog i_codec_Get f_codec_Get = true := by kernel_rfl
theorem c_draw_Codes_Cell : chkFn Try.prog i_draw_Codes_Cell f_draw_Codes_Cell = true := by kernel_rfl
theorem c_page_cells : chkFn Try.prog i_page_cells f_page_cells = true := by kernel_rfl
theorem c_page_number : chkFn Try.prog i_page_number f_page_number = true := by kernel_rfl
theorem c_page_read : chkFn Try.prog i_page_read f_page_read = true := by kernel_rfl
theorem c_page_named : chkFn Try.prog i_page_named f_page_named = true := by kernel_rfl
theorem c_codec_remainders : chkFn Try.prog i_codec_remainders f_codec_remainders = true := by kernel_rfl
theorem c_draw_Codes_Page : chkFn Try.prog i_draw_Codes_Page f_draw_Codes_Page = true := by kernel_rfl
theorem c_page_Blank : chkFn Try.prog i_page_Blank f_page_Blank = true := by kernel_rfl
theorem c_page_placed : chkFn Try.prog i_page_placed f_page_placed = true := by kernel_rfl
theorem c_page_builder_cell : chkFn Try.prog i_page_builder_cell f_page_builder_cell = true := by kernel_rfl
theorem c_codec_Sum : chkFn Try.prog i_codec_Sum f_codec_Sum = true := by kernel_rfl
theorem c_page_Encode : chkFn Try.prog i_page_Encode f_page_Encode = true := by kernel_rfl
theorem c_page_Decode : chkFn Try.prog i_page_Decode f_page_Decode = true := by kernel_rfl
theorem c_page_Identify : chkFn Try.prog i_page_Identify f_page_Identify = true := by kernel_rfl
theorem c_law02_awake : chkFn Try.prog i_law02_awake f_law02_awake = true := by kernel_rfl
theorem c_law02_PageTears : chkFn Try.prog i_law02_PageTears f_law02_PageTears = true := by kernel_rfl

theorem key {α : Type} (Q : FuncId → α → Prop) : ∀ l : List (FuncId × α), (∀ x ∈ l, Q x.1 x.2) → ∀ f a, lkF f l = some a → Q f a := by
    intro l
    induction l with
    | nil => intro _ f a h; cases h
    | cons x r ih =>
      intro hx f a h
      obtain ⟨g, b⟩ := x
      simp only [lkF] at h
      split at h
      · rename_i e; injection h with h; subst h e; exact hx (f, b) (by simp)
      · exact ih (fun y hy => hx y (by simp [hy])) f a h

theorem chk_all : ∀ f a, lkF f fns = some a → chkFn Try.prog f a = true := by
  refine key _ fns ?_
  unfold fns
  simp only [List.forall_mem_cons]
  exact ⟨c_draw_New, c_draw_Codes_Next, c_page_New, c_draw_Codes_Data, c_codec_Get, c_draw_Codes_Cell, c_page_cells, c_page_number, c_page_read, c_page_named, c_codec_remainders, c_draw_Codes_Page, c_page_Blank, c_page_placed, c_page_builder_cell, c_codec_Sum, c_page_Encode, c_page_Decode, c_page_Identify, c_law02_awake, c_law02_PageTears, by simp⟩

theorem chk_forks : ∀ f k, lkF f forks = some k → chkFn Try.prog f k.af = true := fun f k h => by cases h

theorem prm_all : ∀ f g, lkF f plist = some g → ∀ args blks r, g args blks = some r → CallOk Try.prog f args blks r := by
  refine key _ plist ?_
  unfold plist
  simp only [List.forall_mem_cons]
  exact ⟨ok_codec_Put, ok_strings_Repeat, by simp⟩

def noPrims : FuncId → Option (List AV → List Blk → Option Res) := fun _ => none

set_option maxRecDepth 20000 in
theorem soundT : SoundF Try.prog (AF (tabOf noPrims)) := by
  refine sound mixed (fun f af h => ?_) (fun f g h => ?_) (fun f k h => ?_)
  · rcases tab4_cases h with ⟨x, h1, h2⟩ | ⟨x, h1, h2⟩ | ⟨x, h1, h2⟩ | ⟨x, h1, h2⟩
    · rw [Entry.fn.inj h2]; exact chk_all f _ h1
    · exact Entry.noConfusion h2
    · exact Entry.noConfusion h2
    · exact Entry.noConfusion h2
  · rcases tab4_cases h with ⟨x, h1, h2⟩ | ⟨x, h1, h2⟩ | ⟨x, h1, h2⟩ | ⟨x, h1, h2⟩
    · exact Entry.noConfusion h2
    · exact Entry.noConfusion h2
    · rw [Entry.prim.inj h2]; exact prm_all f _ h1
    · exact nomatch h1
  · rcases tab4_cases h with ⟨x, h1, h2⟩ | ⟨x, h1, h2⟩ | ⟨x, h1, h2⟩ | ⟨x, h1, h2⟩
    · exact Entry.noConfusion h2
    · rw [Entry.fork.inj h2]; exact chk_forks f _ h1
    · exact Entry.noConfusion h2
    · exact Entry.noConfusion h2

theorem own : ownKnob Try.prog.godebug = none := by kernel_rfl
theorem laid : laidOutB Try.prog = true := by kernel_rfl
theorem rowed : mapsRowed Try.prog = true := by kernel_rfl
theorem sized : slicesSized Try.prog = true := by kernel_rfl

end Go.Proofs.Yteiakclfpfmigaa
