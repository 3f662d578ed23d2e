/-
  Parts of a proof: YteiakclfpfmigaaArg.
-/
import Derived.Test.YteiakclfpfmigaaM12
import Derived.Test.YteiakclfpfmigaaM14
set_option linter.unusedSimpArgs false
set_option linter.unusedVariables false
section
namespace Go.Proofs.Yteiakclfpfmigaa
open Go.Am
set_option maxRecDepth 100000
set_option linter.unusedSimpArgs false
set_option linter.unusedVariables false
theorem c5 : Try.prog.cellsOf 5 = 1 := by kernel_rfl
theorem u5 : Try.prog.underlying 5 = some (.int .u8) := by kernel_rfl
theorem u22 : Try.prog.underlying 22 = some (.slice 5) := by kernel_rfl
theorem c4 : Try.prog.cellsOf 4 = 1 := by kernel_rfl
theorem u4 : Try.prog.underlying 4 = some (.bool) := by kernel_rfl
theorem c3 : Try.prog.cellsOf 3 = 1 := by kernel_rfl
theorem u3 : Try.prog.underlying 3 = some (.int .i64) := by kernel_rfl
theorem JsJ : Try.prog.cellsOf 114 = 3 := by kernel_rfl
theorem Jub : fieldsOf Try.prog 114 = some [(3, 0), (3, 1), (3, 2)] := by kernel_rfl
def Jkb (x : T_api_Row) : Prop := (-9223372036854775808 ≤ x.LSN ∧ x.LSN ≤ 9223372036854775807) ∧ (-9223372036854775808 ≤ x.Image ∧ x.Image ≤ 9223372036854775807) ∧ (-9223372036854775808 ≤ x.ImageLSN ∧ x.ImageLSN ≤ 9223372036854775807)
theorem Jo7 {n : Nat} : Rd Try.prog (n + 2) 114 J7 Jkb := by
  intro pvs h
  obtain ⟨hl, hf⟩ := JaC (n := n + 1) rfl Jub h
  rw [JsJ] at hl
  obtain ⟨x0, e0, q0⟩ := J2Z (o := 0) (n := n + 1) (rd_i64 u3) c3 (hf (3, 0) (by simp))
  have c0_ : pvs.drop 0 = (pvs.drop 0).take 1 ++ pvs.drop 1 := J8p 0 1
  obtain ⟨x1, e1, q1⟩ := J2Z (o := 1) (n := n + 1) (rd_i64 u3) c3 (hf (3, 1) (by simp))
  have c1_ : pvs.drop 1 = (pvs.drop 1).take 1 ++ pvs.drop 2 := J8p 1 1
  obtain ⟨x2, e2, q2⟩ := J2Z (o := 2) (n := n + 1) (rd_i64 u3) c3 (hf (3, 2) (by simp))
  have c2_ : pvs.drop 2 = (pvs.drop 2).take 1 ++ pvs.drop 3 := J8p 2 1
  have cz : pvs.drop 3 = [] := JlH (by omega)
  have e : pvs = pvs.drop 0 := rfl
  refine ⟨⟨x0, x1, x2⟩, ?_, q0, q1, q2⟩
  rw [e, c0_, e0, c1_, e1, c2_, e2, cz, List.append_nil]
  first | rfl | simp only [J7, cat, List.append_assoc]
theorem c37 : Try.prog.cellsOf 37 = 1 := by kernel_rfl
theorem u37 : Try.prog.underlying 37 = some (.slice 114) := by kernel_rfl
theorem c39 : Try.prog.cellsOf 39 = 1 := by kernel_rfl
theorem u39 : fieldsOf Try.prog 39 = some [(37, 0)] := by kernel_rfl
def Jml (x : T_api_Index) : Prop := (List.length x.Rows ≤ maxLen ∧ ∀ y ∈ x.Rows, Jkb y)
theorem JlF {n : Nat} : Rd Try.prog (n + 4) 39 J5 Jml := by
  intro pvs h
  obtain ⟨hl, hf⟩ := JaC (n := n + 3) rfl u39 h
  rw [c39] at hl
  obtain ⟨x0, e0, q0⟩ := J2Z (o := 0) (n := n + 3) (Jlh u37 JsJ Jo7) c37 (hf (37, 0) (by simp))
  have c0_ : pvs.drop 0 = (pvs.drop 0).take 1 ++ pvs.drop 1 := J8p 0 1
  have cz : pvs.drop 1 = [] := JlH (by omega)
  have e : pvs = pvs.drop 0 := rfl
  refine ⟨⟨x0⟩, ?_, q0⟩
  rw [e, c0_, e0, cz, List.append_nil]
  first | rfl | simp only [J5, cat, List.append_assoc]
theorem c9 : Try.prog.cellsOf 9 = 1 := by kernel_rfl
theorem u9 : Try.prog.underlying 9 = some (.string) := by kernel_rfl
theorem c41 : Try.prog.cellsOf 41 = 2 := by kernel_rfl
theorem u41 : fieldsOf Try.prog 41 = some [(4, 0), (9, 1)] := by kernel_rfl
def JdF (x : Jm) : Prop := (True) ∧ (List.length x.Data ≤ maxLen)
theorem Jh0 {n : Nat} : Rd Try.prog (n + 2) 41 Jr JdF := by
  intro pvs h
  obtain ⟨hl, hf⟩ := JaC (n := n + 1) rfl u41 h
  rw [c41] at hl
  obtain ⟨x0, e0, q0⟩ := J2Z (o := 0) (n := n + 1) (Jrv u4) c4 (hf (4, 0) (by simp))
  have c0_ : pvs.drop 0 = (pvs.drop 0).take 1 ++ pvs.drop 1 := J8p 0 1
  obtain ⟨x1, e1, q1⟩ := J2Z (o := 1) (n := n + 1) (rd_str u9) c9 (hf (9, 1) (by simp))
  have c1_ : pvs.drop 1 = (pvs.drop 1).take 1 ++ pvs.drop 2 := J8p 1 1
  have cz : pvs.drop 2 = [] := JlH (by omega)
  have e : pvs = pvs.drop 0 := rfl
  refine ⟨⟨x0, x1⟩, ?_, q0, q1⟩
  rw [e, c0_, e0, c1_, e1, cz, List.append_nil]
  first | rfl | simp only [Jr, cat, List.append_assoc]
theorem c43 : Try.prog.cellsOf 43 = 6 := by kernel_rfl
theorem u43 : fieldsOf Try.prog 43 = some [(3, 0), (3, 1), (41, 2), (41, 4)] := by kernel_rfl
def JfI (x : Jk) : Prop := (-9223372036854775808 ≤ x.Page ∧ x.Page ≤ 9223372036854775807) ∧ (-9223372036854775808 ≤ x.Slot ∧ x.Slot ≤ 9223372036854775807) ∧ (JdF x.Before) ∧ (JdF x.After)
theorem Jkv {n : Nat} : Rd Try.prog (n + 3) 43 Jf JfI := by
  intro pvs h
  obtain ⟨hl, hf⟩ := JaC (n := n + 2) rfl u43 h
  rw [c43] at hl
  obtain ⟨x0, e0, q0⟩ := J2Z (o := 0) (n := n + 2) (rd_i64 u3) c3 (hf (3, 0) (by simp))
  have c0_ : pvs.drop 0 = (pvs.drop 0).take 1 ++ pvs.drop 1 := J8p 0 1
  obtain ⟨x1, e1, q1⟩ := J2Z (o := 1) (n := n + 2) (rd_i64 u3) c3 (hf (3, 1) (by simp))
  have c1_ : pvs.drop 1 = (pvs.drop 1).take 1 ++ pvs.drop 2 := J8p 1 1
  obtain ⟨x2, e2, q2⟩ := J2Z (o := 2) (n := n + 2) (Jh0 (n := n + 0)) c41 (hf (41, 2) (by simp))
  have c2_ : pvs.drop 2 = (pvs.drop 2).take 2 ++ pvs.drop 4 := J8p 2 2
  obtain ⟨x3, e3, q3⟩ := J2Z (o := 4) (n := n + 2) (Jh0 (n := n + 0)) c41 (hf (41, 4) (by simp))
  have c3_ : pvs.drop 4 = (pvs.drop 4).take 2 ++ pvs.drop 6 := J8p 4 2
  have cz : pvs.drop 6 = [] := JlH (by omega)
  have e : pvs = pvs.drop 0 := rfl
  refine ⟨⟨x0, x1, x2, x3⟩, ?_, q0, q1, q2, q3⟩
  rw [e, c0_, e0, c1_, e1, c2_, e2, c3_, e3, cz, List.append_nil]
  first | rfl | simp only [Jf, cat, List.append_assoc]
theorem c45 : Try.prog.cellsOf 45 = 13 := by kernel_rfl
theorem u45 : fieldsOf Try.prog 45 = some [(3, 0), (3, 1), (3, 2), (3, 3), (3, 4), (3, 5), (43, 6), (9, 12)] := by kernel_rfl
def Jmj (x : J3) : Prop := (-9223372036854775808 ≤ x.LSN ∧ x.LSN ≤ 9223372036854775807) ∧ (-9223372036854775808 ≤ x.Kind ∧ x.Kind ≤ 9223372036854775807) ∧ (-9223372036854775808 ≤ x.Tx ∧ x.Tx ≤ 9223372036854775807) ∧ (-9223372036854775808 ≤ x.PrevTx ∧ x.PrevTx ≤ 9223372036854775807) ∧ (-9223372036854775808 ≤ x.PrevPage ∧ x.PrevPage ≤ 9223372036854775807) ∧ (-9223372036854775808 ≤ x.Ref ∧ x.Ref ≤ 9223372036854775807) ∧ (JfI x.Change) ∧ (List.length x.Blob ≤ maxLen)
theorem Jlr {n : Nat} : Rd Try.prog (n + 4) 45 J4 Jmj := by
  intro pvs h
  obtain ⟨hl, hf⟩ := JaC (n := n + 3) rfl u45 h
  rw [c45] at hl
  obtain ⟨x0, e0, q0⟩ := J2Z (o := 0) (n := n + 3) (rd_i64 u3) c3 (hf (3, 0) (by simp))
  have c0_ : pvs.drop 0 = (pvs.drop 0).take 1 ++ pvs.drop 1 := J8p 0 1
  obtain ⟨x1, e1, q1⟩ := J2Z (o := 1) (n := n + 3) (rd_i64 u3) c3 (hf (3, 1) (by simp))
  have c1_ : pvs.drop 1 = (pvs.drop 1).take 1 ++ pvs.drop 2 := J8p 1 1
  obtain ⟨x2, e2, q2⟩ := J2Z (o := 2) (n := n + 3) (rd_i64 u3) c3 (hf (3, 2) (by simp))
  have c2_ : pvs.drop 2 = (pvs.drop 2).take 1 ++ pvs.drop 3 := J8p 2 1
  obtain ⟨x3, e3, q3⟩ := J2Z (o := 3) (n := n + 3) (rd_i64 u3) c3 (hf (3, 3) (by simp))
  have c3_ : pvs.drop 3 = (pvs.drop 3).take 1 ++ pvs.drop 4 := J8p 3 1
  obtain ⟨x4, e4, q4⟩ := J2Z (o := 4) (n := n + 3) (rd_i64 u3) c3 (hf (3, 4) (by simp))
  have c4_ : pvs.drop 4 = (pvs.drop 4).take 1 ++ pvs.drop 5 := J8p 4 1
  obtain ⟨x5, e5, q5⟩ := J2Z (o := 5) (n := n + 3) (rd_i64 u3) c3 (hf (3, 5) (by simp))
  have c5_ : pvs.drop 5 = (pvs.drop 5).take 1 ++ pvs.drop 6 := J8p 5 1
  obtain ⟨x6, e6, q6⟩ := J2Z (o := 6) (n := n + 3) (Jkv (n := n + 0)) c43 (hf (43, 6) (by simp))
  have c6_ : pvs.drop 6 = (pvs.drop 6).take 6 ++ pvs.drop 12 := J8p 6 6
  obtain ⟨x7, e7, q7⟩ := J2Z (o := 12) (n := n + 3) (rd_str u9) c9 (hf (9, 12) (by simp))
  have c7_ : pvs.drop 12 = (pvs.drop 12).take 1 ++ pvs.drop 13 := J8p 12 1
  have cz : pvs.drop 13 = [] := JlH (by omega)
  have e : pvs = pvs.drop 0 := rfl
  refine ⟨⟨x0, x1, x2, x3, x4, x5, x6, x7⟩, ?_, q0, q1, q2, q3, q4, q5, q6, q7⟩
  rw [e, c0_, e0, c1_, e1, c2_, e2, c3_, e3, c4_, e4, c5_, e5, c6_, e6, c7_, e7, cz, List.append_nil]
  first | rfl | simp only [J4, cat, List.append_assoc]
end Go.Proofs.Yteiakclfpfmigaa
end
