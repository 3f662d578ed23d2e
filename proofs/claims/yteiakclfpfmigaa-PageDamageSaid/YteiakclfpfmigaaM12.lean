/-
  Parts of a proof: YteiakclfpfmigaaChk.
-/
import Derived.Test.YteiakclfpfmigaaChecked
import Derived.Test.YteiakclfpfmigaaM6
import Derived.Test.YteiakclfpfmigaaM9
import Derived.Test.YteiakclfpfmigaaM11
set_option linter.unusedSimpArgs false
set_option linter.unusedVariables false

section
namespace Go.Proofs.Yteiakclfpfmigaa
open Go.Am

set_option maxRecDepth 20000

theorem mixed : Try.prog.follows .mixedOrders = true := by kernel_rfl
theorem c_draw_New : chkFn Try.prog i_draw_New f_draw_New = true := by kernel_rfl
theorem c_draw_Codes_Next : chkFn Try.prog i_draw_Codes_Next f_draw_Codes_Next = true := by kernel_rfl
theorem c_draw_Codes_Spoilt : chkFn Try.prog i_draw_Codes_Spoilt f_draw_Codes_Spoilt = true := by kernel_rfl
theorem c_page_New : chkFn Try.prog i_page_New f_page_New = true := by kernel_rfl
theorem c_ref02_New : chkFn Try.prog i_ref02_New f_ref02_New = true := by kernel_rfl
theorem c_draw_Codes_Bytes : chkFn Try.prog i_draw_Codes_Bytes f_draw_Codes_Bytes = true := by kernel_rfl
theorem c_draw_Codes_Int : chkFn Try.prog i_draw_Codes_Int f_draw_Codes_Int = true := by kernel_rfl
theorem c_draw_Codes_Data : chkFn Try.prog i_draw_Codes_Data f_draw_Codes_Data = true := by kernel_rfl
theorem c_ref01_Put : chkFn Try.prog i_ref01_Put f_ref01_Put = true := by kernel_rfl
theorem c_codec_Get : chkFn Try.prog i_codec_Get f_codec_Get = true := by kernel_rfl
theorem c_ref01_Get : chkFn Try.prog i_ref01_Get f_ref01_Get = true := by kernel_rfl
theorem c_draw_Codes_Cell : chkFn Try.prog i_draw_Codes_Cell f_draw_Codes_Cell = true := by kernel_rfl
theorem c_page_cells : chkFn Try.prog i_page_cells f_page_cells = true := by kernel_rfl
theorem c_ref02_numbers : chkFn Try.prog i_ref02_numbers f_ref02_numbers = true := by kernel_rfl
theorem c_ref02_zeros : chkFn Try.prog i_ref02_zeros f_ref02_zeros = true := by kernel_rfl
theorem c_ref01_Sum : chkFn Try.prog i_ref01_Sum f_ref01_Sum = true := by kernel_rfl
theorem c_ref02_Seal : chkFn Try.prog i_ref02_Seal f_ref02_Seal = true := by kernel_rfl
theorem c_page_number : chkFn Try.prog i_page_number f_page_number = true := by kernel_rfl
theorem c_page_read : chkFn Try.prog i_page_read f_page_read = true := by kernel_rfl
theorem c_page_named : chkFn Try.prog i_page_named f_page_named = true := by kernel_rfl
theorem c_codec_remainders : chkFn Try.prog i_codec_remainders f_codec_remainders = true := by kernel_rfl
theorem c_ref02_ValidCell : chkFn Try.prog i_ref02_ValidCell f_ref02_ValidCell = true := by kernel_rfl
theorem c_draw_Codes_Page : chkFn Try.prog i_draw_Codes_Page f_draw_Codes_Page = true := by kernel_rfl
theorem c_draw_Codes_OddPage : chkFn Try.prog i_draw_Codes_OddPage f_draw_Codes_OddPage = true := by kernel_rfl
theorem c_page_Blank : chkFn Try.prog i_page_Blank f_page_Blank = true := by kernel_rfl
theorem c_ref02_Blank : chkFn Try.prog i_ref02_Blank f_ref02_Blank = true := by kernel_rfl
theorem c_law02_sealed : chkFn Try.prog i_law02_sealed f_law02_sealed = true := by kernel_rfl
theorem c_page_placed : chkFn Try.prog i_page_placed f_page_placed = true := by kernel_rfl
theorem c_page_builder_cell : chkFn Try.prog i_page_builder_cell f_page_builder_cell = true := by kernel_rfl
theorem c_codec_Sum : chkFn Try.prog i_codec_Sum f_codec_Sum = true := by kernel_rfl
theorem c_ref02_cells : chkFn Try.prog i_ref02_cells f_ref02_cells = true := by kernel_rfl
theorem c_ref02_Check : chkFn Try.prog i_ref02_Check f_ref02_Check = true := by kernel_rfl
theorem c_page_Encode : chkFn Try.prog i_page_Encode f_page_Encode = true := by kernel_rfl
theorem c_ref02_Valid : chkFn Try.prog i_ref02_Valid f_ref02_Valid = true := by kernel_rfl
theorem c_ref02_Encode : chkFn Try.prog i_ref02_Encode f_ref02_Encode = true := by kernel_rfl
theorem c_page_Valid : chkFn Try.prog i_page_Valid f_page_Valid = true := by kernel_rfl
theorem c_page_Decode : chkFn Try.prog i_page_Decode f_page_Decode = true := by kernel_rfl
theorem c_ref02_Decode : chkFn Try.prog i_ref02_Decode f_ref02_Decode = true := by kernel_rfl
theorem c_page_Identify : chkFn Try.prog i_page_Identify f_page_Identify = true := by kernel_rfl
theorem c_ref02_Identify : chkFn Try.prog i_ref02_Identify f_ref02_Identify = true := by kernel_rfl
theorem c_law02_awake : chkFn Try.prog i_law02_awake f_law02_awake = true := by kernel_rfl
theorem c_law02_PageInjective : chkFn Try.prog i_law02_PageInjective f_law02_PageInjective = true := by kernel_rfl
theorem c_law02_PageEncodes : chkFn Try.prog i_law02_PageEncodes f_law02_PageEncodes = true := by kernel_rfl
theorem c_law02_PageForms : chkFn Try.prog i_law02_PageForms f_law02_PageForms = true := by kernel_rfl
theorem c_law02_PageDamage : chkFn Try.prog i_law02_PageDamage f_law02_PageDamage = true := by kernel_rfl
theorem c_law02_PageDecodes : chkFn Try.prog i_law02_PageDecodes f_law02_PageDecodes = true := by kernel_rfl
theorem c_law02_PageReturns : chkFn Try.prog i_law02_PageReturns f_law02_PageReturns = true := by kernel_rfl
theorem c_law02_PageTears : chkFn Try.prog i_law02_PageTears f_law02_PageTears = true := by kernel_rfl

theorem key {α : Type} (Q : FuncId → α → Prop) : ∀ l : List (FuncId × α), (∀ x ∈ l, Q x.1 x.2) → ∀ f a, lkF f l = some a → Q f a := by
    intro l
    induction l with
    | nil => intro _ f a h; cases h
    | cons x r ih =>
      intro hx f a h
      obtain ⟨g, b⟩ := x
      simp only [lkF] at h
      split at h
      · rename_i e; injection h with h; subst h e; exact hx (f, b) (by simp)
      · exact ih (fun y hy => hx y (by simp [hy])) f a h

theorem chk_all : ∀ f a, lkF f fns = some a → chkFn Try.prog f a = true := by
  refine key _ fns ?_
  unfold fns
  simp only [List.forall_mem_cons]
  exact ⟨c_draw_New, c_draw_Codes_Next, c_draw_Codes_Spoilt, c_page_New, c_ref02_New, c_draw_Codes_Bytes, c_draw_Codes_Int, c_draw_Codes_Data, c_ref01_Put, c_codec_Get, c_ref01_Get, c_draw_Codes_Cell, c_page_cells, c_ref02_numbers, c_ref02_zeros, c_ref01_Sum, c_ref02_Seal, c_page_number, c_page_read, c_page_named, c_codec_remainders, c_ref02_ValidCell, c_draw_Codes_Page, c_draw_Codes_OddPage, c_page_Blank, c_ref02_Blank, c_law02_sealed, c_page_placed, c_page_builder_cell, c_codec_Sum, c_ref02_cells, c_ref02_Check, c_page_Encode, c_ref02_Valid, c_ref02_Encode, c_page_Valid, c_page_Decode, c_ref02_Decode, c_page_Identify, c_ref02_Identify, c_law02_awake, c_law02_PageInjective, c_law02_PageEncodes, c_law02_PageForms, c_law02_PageDamage, c_law02_PageDecodes, c_law02_PageReturns, c_law02_PageTears, by simp⟩

theorem chk_forks : ∀ f k, lkF f forks = some k → chkFn Try.prog f k.af = true := fun f k h => by cases h

theorem prm_all : ∀ f g, lkF f plist = some g → ∀ args blks r, g args blks = some r → CallOk Try.prog f args blks r := by
  refine key _ plist ?_
  unfold plist
  simp only [List.forall_mem_cons]
  exact ⟨ok_codec_Put, ok_strings_Repeat, by simp⟩

def noPrims : FuncId → Option (List AV → List Blk → Option Res) := fun _ => none

set_option maxRecDepth 20000 in
theorem soundT : SoundF Try.prog (AF (tabOf noPrims)) := by
  refine sound mixed (fun f af h => ?_) (fun f g h => ?_) (fun f k h => ?_)
  · rcases tab4_cases h with ⟨x, h1, h2⟩ | ⟨x, h1, h2⟩ | ⟨x, h1, h2⟩ | ⟨x, h1, h2⟩
    · rw [Entry.fn.inj h2]; exact chk_all f _ h1
    · exact Entry.noConfusion h2
    · exact Entry.noConfusion h2
    · exact Entry.noConfusion h2
  · rcases tab4_cases h with ⟨x, h1, h2⟩ | ⟨x, h1, h2⟩ | ⟨x, h1, h2⟩ | ⟨x, h1, h2⟩
    · exact Entry.noConfusion h2
    · exact Entry.noConfusion h2
    · rw [Entry.prim.inj h2]; exact prm_all f _ h1
    · exact nomatch h1
  · rcases tab4_cases h with ⟨x, h1, h2⟩ | ⟨x, h1, h2⟩ | ⟨x, h1, h2⟩ | ⟨x, h1, h2⟩
    · exact Entry.noConfusion h2
    · rw [Entry.fork.inj h2]; exact chk_forks f _ h1
    · exact Entry.noConfusion h2
    · exact Entry.noConfusion h2

theorem own : ownKnob Try.prog.godebug = none := by kernel_rfl
theorem laid : laidOutB Try.prog = true := by kernel_rfl
theorem rowed : mapsRowed Try.prog = true := by kernel_rfl
theorem sized : slicesSized Try.prog = true := by kernel_rfl

end Go.Proofs.Yteiakclfpfmigaa
end

