/-
  Parts of a proof: YteiakclfpfmigaaArg.
-/
import Derived.Test.YteiakclfpfmigaaM10
import Derived.Test.YteiakclfpfmigaaM12
set_option linter.unusedSimpArgs false
set_option linter.unusedVariables false

section
namespace Go.Proofs.Yteiakclfpfmigaa
open Go.Am
set_option maxRecDepth 100000
set_option linter.unusedSimpArgs false
set_option linter.unusedVariables false

theorem c5 : Try.prog.cellsOf 5 = 1 := by kernel_rfl
theorem u5 : Try.prog.underlying 5 = some (.int .u8) := by kernel_rfl
theorem c22 : Try.prog.cellsOf 22 = 1 := by kernel_rfl
theorem u22 : Try.prog.underlying 22 = some (.slice 5) := by kernel_rfl
theorem c3 : Try.prog.cellsOf 3 = 1 := by kernel_rfl
theorem u3 : Try.prog.underlying 3 = some (.int .i64) := by kernel_rfl
theorem c4 : Try.prog.cellsOf 4 = 1 := by kernel_rfl
theorem u4 : Try.prog.underlying 4 = some (.bool) := by kernel_rfl
theorem c9 : Try.prog.cellsOf 9 = 1 := by kernel_rfl
theorem u9 : Try.prog.underlying 9 = some (.string) := by kernel_rfl
theorem c41 : Try.prog.cellsOf 41 = 2 := by kernel_rfl
theorem u41 : fieldsOf Try.prog 41 = some [(4, 0), (9, 1)] := by kernel_rfl
def Q_api_Cell (x : T_api_Cell) : Prop := (True) ∧ (List.length x.Data ≤ maxLen)
theorem rd_api_Cell {n : Nat} : Rd Try.prog (n + 2) 41 e_api_Cell Q_api_Cell := by
  intro pvs h
  obtain ⟨hl, hf⟩ := rd_fields (n := n + 1) rfl u41 h
  rw [c41] at hl
  obtain ⟨x0, e0, q0⟩ := rd_field (o := 0) (n := n + 1) (rd_bool u4) c4 (hf (4, 0) (by simp))
  have c0_ : pvs.drop 0 = (pvs.drop 0).take 1 ++ pvs.drop 1 := cutA 0 1
  obtain ⟨x1, e1, q1⟩ := rd_field (o := 1) (n := n + 1) (rd_str u9) c9 (hf (9, 1) (by simp))
  have c1_ : pvs.drop 1 = (pvs.drop 1).take 1 ++ pvs.drop 2 := cutA 1 1
  have cz : pvs.drop 2 = [] := cutZ (by omega)
  have e : pvs = pvs.drop 0 := rfl
  refine ⟨⟨x0, x1⟩, ?_, q0, q1⟩
  rw [e, c0_, e0, c1_, e1, cz, List.append_nil]
  first | rfl | simp only [e_api_Cell, cat, List.append_assoc]

theorem c67 : Try.prog.cellsOf 67 = 32 := by kernel_rfl
theorem u67 : Try.prog.underlying 67 = some (.array 16 41) := by kernel_rfl
theorem c69 : Try.prog.cellsOf 69 = 34 := by kernel_rfl
theorem u69 : fieldsOf Try.prog 69 = some [(3, 0), (3, 1), (67, 2)] := by kernel_rfl
def Q_api_Page (x : T_api_Page) : Prop := (-9223372036854775808 ≤ x.ID ∧ x.ID ≤ 9223372036854775807) ∧ (-9223372036854775808 ≤ x.LSN ∧ x.LSN ≤ 9223372036854775807) ∧ (∀ (i : Nat) (h : i < 16), Q_api_Cell (x.Cells[i]))
theorem rd_api_Page {n : Nat} : Rd Try.prog (n + 4) 69 e_api_Page Q_api_Page := by
  intro pvs h
  obtain ⟨hl, hf⟩ := rd_fields (n := n + 3) rfl u69 h
  rw [c69] at hl
  obtain ⟨x0, e0, q0⟩ := rd_field (o := 0) (n := n + 3) (rd_i64 u3) c3 (hf (3, 0) (by simp))
  have c0_ : pvs.drop 0 = (pvs.drop 0).take 1 ++ pvs.drop 1 := cutA 0 1
  obtain ⟨x1, e1, q1⟩ := rd_field (o := 1) (n := n + 3) (rd_i64 u3) c3 (hf (3, 1) (by simp))
  have c1_ : pvs.drop 1 = (pvs.drop 1).take 1 ++ pvs.drop 2 := cutA 1 1
  obtain ⟨x2, e2, q2⟩ := rd_field (o := 2) (n := n + 3) (rd_array u67 c41 c67 rd_api_Cell) c67 (hf (67, 2) (by simp))
  have c2_ : pvs.drop 2 = (pvs.drop 2).take 32 ++ pvs.drop 34 := cutA 2 32
  have cz : pvs.drop 34 = [] := cutZ (by omega)
  have e : pvs = pvs.drop 0 := rfl
  refine ⟨⟨x0, x1, x2⟩, ?_, q0, q1, q2⟩
  rw [e, c0_, e0, c1_, e1, c2_, e2, cz, List.append_nil]
  first | rfl | simp only [e_api_Page, cat, List.append_assoc]


end Go.Proofs.Yteiakclfpfmigaa
end

