/-
  Parts of a proof.
-/
import Derived.Test.YtiallbcnaadmoaaM14
import Derived.Test.YtiallbcnaadmoaaM18
set_option linter.unusedSimpArgs false
set_option linter.unusedVariables false
section
namespace Go.Proofs.Ytiallbcnaadmoaa
open Go.Am
set_option maxRecDepth 100000
set_option linter.unusedSimpArgs false
set_option linter.unusedVariables false
theorem c5 : Try.prog.cellsOf 5 = 1 := by kernel_rfl
theorem u5 : Try.prog.underlying 5 = some (.int .u8) := by kernel_rfl
theorem u22 : Try.prog.underlying 22 = some (.slice 5) := by kernel_rfl
theorem c3 : Try.prog.cellsOf 3 = 1 := by kernel_rfl
theorem u3 : Try.prog.underlying 3 = some (.int .i64) := by kernel_rfl
theorem c4 : Try.prog.cellsOf 4 = 1 := by kernel_rfl
theorem u4 : Try.prog.underlying 4 = some (.bool) := by kernel_rfl
theorem c9 : Try.prog.cellsOf 9 = 1 := by kernel_rfl
theorem u9 : Try.prog.underlying 9 = some (.string) := by kernel_rfl
theorem c46 : Try.prog.cellsOf 46 = 2 := by kernel_rfl
theorem u46 : fieldsOf Try.prog 46 = some [(4, 0), (9, 1)] := by kernel_rfl
def Jjt (x : Jk) : Prop := (True) ∧ (List.length x.Data ≤ maxLen)
theorem Jp5 {n : Nat} : Rd Try.prog (n + 2) 46 Jm Jjt := by
  intro pvs h
  obtain ⟨hl, hf⟩ := Jde (n := n + 1) rfl u46 h
  rw [c46] at hl
  obtain ⟨x0, e0, q0⟩ := J5K (o := 0) (n := n + 1) (Jla u4) c4 (hf (4, 0) (by simp))
  have c0_ : pvs.drop 0 = (pvs.drop 0).take 1 ++ pvs.drop 1 := JbT 0 1
  obtain ⟨x1, e1, q1⟩ := J5K (o := 1) (n := n + 1) (Jvr u9) c9 (hf (9, 1) (by simp))
  have c1_ : pvs.drop 1 = (pvs.drop 1).take 1 ++ pvs.drop 2 := JbT 1 1
  have cz : pvs.drop 2 = [] := JpY (by omega)
  have e : pvs = pvs.drop 0 := rfl
  refine ⟨⟨x0, x1⟩, ?_, q0, q1⟩
  rw [e, c0_, e0, c1_, e1, cz, List.append_nil]
  first | rfl | simp only [Jm, cat, List.append_assoc]
theorem c47 : Try.prog.cellsOf 47 = 32 := by kernel_rfl
theorem u47 : Try.prog.underlying 47 = some (.array 16 46) := by kernel_rfl
theorem c49 : Try.prog.cellsOf 49 = 34 := by kernel_rfl
theorem u49 : fieldsOf Try.prog 49 = some [(3, 0), (3, 1), (47, 2)] := by kernel_rfl
def Jjq (x : T_api_Page) : Prop := (-9223372036854775808 ≤ x.ID ∧ x.ID ≤ 9223372036854775807) ∧ (-9223372036854775808 ≤ x.LSN ∧ x.LSN ≤ 9223372036854775807) ∧ (∀ (i : Nat) (h : i < 16), Jjt (x.Cells[i]))
theorem Jih {n : Nat} : Rd Try.prog (n + 4) 49 J9 Jjq := by
  intro pvs h
  obtain ⟨hl, hf⟩ := Jde (n := n + 3) rfl u49 h
  rw [c49] at hl
  obtain ⟨x0, e0, q0⟩ := J5K (o := 0) (n := n + 3) (rd_i64 u3) c3 (hf (3, 0) (by simp))
  have c0_ : pvs.drop 0 = (pvs.drop 0).take 1 ++ pvs.drop 1 := JbT 0 1
  obtain ⟨x1, e1, q1⟩ := J5K (o := 1) (n := n + 3) (rd_i64 u3) c3 (hf (3, 1) (by simp))
  have c1_ : pvs.drop 1 = (pvs.drop 1).take 1 ++ pvs.drop 2 := JbT 1 1
  obtain ⟨x2, e2, q2⟩ := J5K (o := 2) (n := n + 3) (JrW u47 c46 c47 Jp5) c47 (hf (47, 2) (by simp))
  have c2_ : pvs.drop 2 = (pvs.drop 2).take 32 ++ pvs.drop 34 := JbT 2 32
  have cz : pvs.drop 34 = [] := JpY (by omega)
  have e : pvs = pvs.drop 0 := rfl
  refine ⟨⟨x0, x1, x2⟩, ?_, q0, q1, q2⟩
  rw [e, c0_, e0, c1_, e1, c2_, e2, cz, List.append_nil]
  first | rfl | simp only [J9, cat, List.append_assoc]
theorem Jw6 : Try.prog.cellsOf 201 = 37 := by kernel_rfl
theorem Jxd : fieldsOf Try.prog 201 = some [(49, 0), (4, 34), (3, 35), (4, 36)] := by kernel_rfl
def JhU (x : T_api_Frame) : Prop := (Jjq x.Page) ∧ (True) ∧ (-9223372036854775808 ≤ x.Rec ∧ x.Rec ≤ 9223372036854775807) ∧ (True)
theorem JmX {n : Nat} : Rd Try.prog (n + 5) 201 J7 JhU := by
  intro pvs h
  obtain ⟨hl, hf⟩ := Jde (n := n + 4) rfl Jxd h
  rw [Jw6] at hl
  obtain ⟨x0, e0, q0⟩ := J5K (o := 0) (n := n + 4) (Jih (n := n + 0)) c49 (hf (49, 0) (by simp))
  have c0_ : pvs.drop 0 = (pvs.drop 0).take 34 ++ pvs.drop 34 := JbT 0 34
  obtain ⟨x1, e1, q1⟩ := J5K (o := 34) (n := n + 4) (Jla u4) c4 (hf (4, 34) (by simp))
  have c1_ : pvs.drop 34 = (pvs.drop 34).take 1 ++ pvs.drop 35 := JbT 34 1
  obtain ⟨x2, e2, q2⟩ := J5K (o := 35) (n := n + 4) (rd_i64 u3) c3 (hf (3, 35) (by simp))
  have c2_ : pvs.drop 35 = (pvs.drop 35).take 1 ++ pvs.drop 36 := JbT 35 1
  obtain ⟨x3, e3, q3⟩ := J5K (o := 36) (n := n + 4) (Jla u4) c4 (hf (4, 36) (by simp))
  have c3_ : pvs.drop 36 = (pvs.drop 36).take 1 ++ pvs.drop 37 := JbT 36 1
  have cz : pvs.drop 37 = [] := JpY (by omega)
  have e : pvs = pvs.drop 0 := rfl
  refine ⟨⟨x0, x1, x2, x3⟩, ?_, q0, q1, q2, q3⟩
  rw [e, c0_, e0, c1_, e1, c2_, e2, c3_, e3, cz, List.append_nil]
  first | rfl | simp only [J7, cat, List.append_assoc]
theorem Jxe : Try.prog.cellsOf 107 = 1 := by kernel_rfl
theorem Jxo : Try.prog.underlying 107 = some (.slice 201) := by kernel_rfl
theorem Jxn : Try.prog.cellsOf 109 = 3 := by kernel_rfl
theorem Jxq : fieldsOf Try.prog 109 = some [(3, 0), (107, 1), (3, 2)] := by kernel_rfl
def JqD (x : T_api_Pool) : Prop := (-9223372036854775808 ≤ x.Size ∧ x.Size ≤ 9223372036854775807) ∧ (List.length x.Frames ≤ maxLen ∧ ∀ y ∈ x.Frames, JhU y) ∧ (-9223372036854775808 ≤ x.Hand ∧ x.Hand ≤ 9223372036854775807)
theorem Jpa {n : Nat} : Rd Try.prog (n + 7) 109 J3 JqD := by
  intro pvs h
  obtain ⟨hl, hf⟩ := Jde (n := n + 6) rfl Jxq h
  rw [Jxn] at hl
  obtain ⟨x0, e0, q0⟩ := J5K (o := 0) (n := n + 6) (rd_i64 u3) c3 (hf (3, 0) (by simp))
  have c0_ : pvs.drop 0 = (pvs.drop 0).take 1 ++ pvs.drop 1 := JbT 0 1
  obtain ⟨x1, e1, q1⟩ := J5K (o := 1) (n := n + 6) (Jo6 Jxo Jw6 JmX) Jxe (hf (107, 1) (by simp))
  have c1_ : pvs.drop 1 = (pvs.drop 1).take 1 ++ pvs.drop 2 := JbT 1 1
  obtain ⟨x2, e2, q2⟩ := J5K (o := 2) (n := n + 6) (rd_i64 u3) c3 (hf (3, 2) (by simp))
  have c2_ : pvs.drop 2 = (pvs.drop 2).take 1 ++ pvs.drop 3 := JbT 2 1
  have cz : pvs.drop 3 = [] := JpY (by omega)
  have e : pvs = pvs.drop 0 := rfl
  refine ⟨⟨x0, x1, x2⟩, ?_, q0, q1, q2⟩
  rw [e, c0_, e0, c1_, e1, c2_, e2, cz, List.append_nil]
  first | rfl | simp only [J3, cat, List.append_assoc]
end Go.Proofs.Ytiallbcnaadmoaa
end
