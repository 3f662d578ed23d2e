/-
  Parts of a proof: YtiallbcnaadmoaaArg.
-/
import Derived.Test.YtiallbcnaadmoaaM11
import Derived.Test.YtiallbcnaadmoaaM13
set_option linter.unusedSimpArgs false
set_option linter.unusedVariables false
section
namespace Go.Proofs.Ytiallbcnaadmoaa
open Go.Am
set_option maxRecDepth 100000
set_option linter.unusedSimpArgs false
set_option linter.unusedVariables false
theorem c5 : Try.prog.cellsOf 5 = 1 := by kernel_rfl
theorem u5 : Try.prog.underlying 5 = some (.int .u8) := by kernel_rfl
theorem u22 : Try.prog.underlying 22 = some (.slice 5) := by kernel_rfl
theorem c3 : Try.prog.cellsOf 3 = 1 := by kernel_rfl
theorem u3 : Try.prog.underlying 3 = some (.int .i64) := by kernel_rfl
theorem JvW : Try.prog.cellsOf 155 = 3 := by kernel_rfl
theorem JxD : fieldsOf Try.prog 155 = some [(3, 0), (3, 1), (3, 2)] := by kernel_rfl
def Jmg (x : T_api_Row) : Prop := (-9223372036854775808 ≤ x.LSN ∧ x.LSN ≤ 9223372036854775807) ∧ (-9223372036854775808 ≤ x.Image ∧ x.Image ≤ 9223372036854775807) ∧ (-9223372036854775808 ≤ x.ImageLSN ∧ x.ImageLSN ≤ 9223372036854775807)
theorem JqZ {n : Nat} : Rd Try.prog (n + 2) 155 Je Jmg := by
  intro pvs h
  obtain ⟨hl, hf⟩ := Jm6 (n := n + 1) rfl JxD h
  rw [JvW] at hl
  obtain ⟨x0, e0, q0⟩ := Jfu (o := 0) (n := n + 1) (rd_i64 u3) c3 (hf (3, 0) (by simp))
  have c0_ : pvs.drop 0 = (pvs.drop 0).take 1 ++ pvs.drop 1 := JqQ 0 1
  obtain ⟨x1, e1, q1⟩ := Jfu (o := 1) (n := n + 1) (rd_i64 u3) c3 (hf (3, 1) (by simp))
  have c1_ : pvs.drop 1 = (pvs.drop 1).take 1 ++ pvs.drop 2 := JqQ 1 1
  obtain ⟨x2, e2, q2⟩ := Jfu (o := 2) (n := n + 1) (rd_i64 u3) c3 (hf (3, 2) (by simp))
  have c2_ : pvs.drop 2 = (pvs.drop 2).take 1 ++ pvs.drop 3 := JqQ 2 1
  have cz : pvs.drop 3 = [] := Jwl (by omega)
  have e : pvs = pvs.drop 0 := rfl
  refine ⟨⟨x0, x1, x2⟩, ?_, q0, q1, q2⟩
  rw [e, c0_, e0, c1_, e1, c2_, e2, cz, List.append_nil]
  first | rfl | simp only [Je, cat, List.append_assoc]
theorem c41 : Try.prog.cellsOf 41 = 1 := by kernel_rfl
theorem u41 : Try.prog.underlying 41 = some (.slice 155) := by kernel_rfl
theorem c43 : Try.prog.cellsOf 43 = 1 := by kernel_rfl
theorem u43 : fieldsOf Try.prog 43 = some [(41, 0)] := by kernel_rfl
def JpF (x : T_api_Index) : Prop := (List.length x.Rows ≤ maxLen ∧ ∀ y ∈ x.Rows, Jmg y)
theorem Jo7 {n : Nat} : Rd Try.prog (n + 4) 43 Jj JpF := by
  intro pvs h
  obtain ⟨hl, hf⟩ := Jm6 (n := n + 3) rfl u43 h
  rw [c43] at hl
  obtain ⟨x0, e0, q0⟩ := Jfu (o := 0) (n := n + 3) (JnC u41 JvW JqZ) c41 (hf (41, 0) (by simp))
  have c0_ : pvs.drop 0 = (pvs.drop 0).take 1 ++ pvs.drop 1 := JqQ 0 1
  have cz : pvs.drop 1 = [] := Jwl (by omega)
  have e : pvs = pvs.drop 0 := rfl
  refine ⟨⟨x0⟩, ?_, q0⟩
  rw [e, c0_, e0, cz, List.append_nil]
  first | rfl | simp only [Jj, cat, List.append_assoc]
theorem u9 : Try.prog.underlying 9 = some (.string) := by kernel_rfl
end Go.Proofs.Ytiallbcnaadmoaa
end
