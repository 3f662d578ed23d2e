/-
  Parts of a proof.
-/
import Derived.Shelf.Strings.Repeat
import Derived.Shelf.Strings.Builder1
import Derived.Shelf.Lays
import Derived.Test.YtkopficpneehnaaProg
import Derived.Lib.Agree
import Derived.KernelRfl
import Derived.WalkKit
import Derived.BigCall
import Derived.Laws.IdiomCopy
import Derived.Lib.SliceRun
import Derived.Shelf.RegionOpenPlain
import Derived.Laws.NewBlocks
import Derived.Shelf.Spec.SlicesInsert
import Derived.Lib.Builder
import Derived.WalkSpells
import Derived.Tactics
import Derived.Tactics2
import Derived.Test.YtkopficpneehnaaChecked
import Derived.Shelf.Slices.Clone
import Derived.Shelf.SlicesE.DeleteFunc
import Derived.Laws.OwnMore
import Derived.Deep.AppendLies
import Derived.Handy
import Derived.Shelf.Slices.SearchI
import Derived.Shelf.Slices.Empties
import Derived.Shelf.Spec.SlicesInsertGrow
import Derived.Lib.ConvBytes
import Derived.Laws.BytesArg
import Derived.RegionTactic
import Derived.Deep.RegionHeld3
import Derived.Deep.RegionWith
import Derived.Test.YtkopficpneehnaaX1
import Derived.Test.YtkopficpneehnaaX3
import Derived.Test.YtkopficpneehnaaX4
import Derived.Test.YtkopficpneehnaaX5
set_option linter.unusedSimpArgs false
set_option linter.unusedVariables false
section
namespace Go.Am
set_option maxRecDepth 20000
set_option maxHeartbeats 4000000
theorem Jd2 (p : PS) : EOk (AF (tabO p)) (sigE J11 J3c J2B) := JV (l := []) (Jdc p) trivial rfl Jde
theorem JeF (p : PS) : EOk (AF (tabO p)) (sigE J2q J42 J2n) := JV (l := []) (JeK p) trivial rfl Jfj
theorem J7P (p : PS) : EOk (AF (tabO p)) (sigE J0l J1P J0d) := JV (l := []) (JfL p) trivial rfl Jg9
theorem J8q (p : PS) : EOk (AF (tabO p)) (sigE J0J J1U J0K) := JV (l := [sigE J2q J42 J2n, sigE J0l J1P J0d]) (Jd8 p) ⟨JeF p, ⟨J7P p, trivial⟩⟩ rfl Jd9
theorem J5L (p : PS) : EOk (AF (tabO p)) (sigE JT J0k J04) := JV (l := [sigE J11 J3c J2B]) (J6T p) ⟨Jd2 p, trivial⟩ rfl J5J
theorem J54 (p : PS) : EOk (AF (tabO p)) (sigE JN J0a JH) := JV (l := [sigE JT J0k J04]) (J5P p) ⟨J5L p, trivial⟩ rfl J58
theorem Jd3 (p : PS) : EOk (AF (tabO p)) (sigE J0X J3a J2A) := JV (l := [sigE J0J J1U J0K]) (Jd6 p) ⟨J8q p, trivial⟩ rfl Jdg
theorem J4B (p : PS) : EOk (AF (tabO p)) (sigE JE J02 JK) := JV (l := [sigE J0X J3a J2A]) (J52 p) ⟨Jd3 p, trivial⟩ rfl J4C
theorem J4d (p : PS) : EOk (AF (tabO p)) (sigE JC JS Jx) := JV (l := [sigE JE J02 JK]) (J4D p) ⟨J4B p, trivial⟩ rfl J4i
theorem J5Q (p : PS) : EOk (AF (tabO p)) (sigE J05 J17 JQ) := JV (l := [sigE J0l J1P J0d, sigE JN J0a JH, sigE JC JS Jx]) (Jg7 p) ⟨J7P p, ⟨J54 p, ⟨J4d p, trivial⟩⟩⟩ rfl JgJ
theorem J3d (p : PS) : EOk (AF (tabO p)) (sigE Jq J0q JO) := JpM (J6a p)
theorem J9Q (p : PS) : EOk (AF (tabO p)) (sigE J1b J2r J0Q) := JV (l := [sigE J05 J17 JQ, sigE J0J J1U J0K, sigE Jq J0q JO]) (Jf8 p) ⟨J5Q p, ⟨J8q p, ⟨J3d p, trivial⟩⟩⟩ rfl Jf0
theorem J7A (p : PS) : EOk (AF (tabO p)) (sigE J0u J2E J1A) := Jrv (J7B p)
theorem Jep (p : PS) : EOk (AF (tabO p)) (sigE J2L J6U J3z) := Jsn (JdQ p)
theorem Jab (p : PS) : EOk (AF (tabO p)) (sigE J1o J2J J1n) := JV (l := [sigE J2L J6U J3z, sigE J0u J2E J1A]) (JgC p) ⟨Jep p, ⟨J7A p, trivial⟩⟩ rfl JgI
theorem Jcq (p : PS) : EOk (AF (tabO p)) (sigE J25 J3D J24) := JV (l := [sigE J1o J2J J1n]) (Jki p) ⟨Jab p, trivial⟩ rfl Jkq
theorem J7o (p : PS) : EOk (AF (tabO p)) (sigE J1a J2x J0n) := JV (l := [sigE J05 J17 JQ, sigE J0l J1P J0d]) (Jet p) ⟨J5Q p, ⟨J7P p, trivial⟩⟩ rfl JfH
theorem Ja8 (p : PS) : EOk (AF (tabO p)) (sigE J0T J22 J1m) := JV (l := []) (J9Y p) trivial rfl Ja5
theorem J8C (p : PS) : EOk (AF (tabO p)) (sigE J0w J1y J0v) := JV (l := [sigE J0T J22 J1m]) (J8J p) ⟨Ja8 p, trivial⟩ rfl J8H
theorem Jbp (p : PS) : EOk (AF (tabO p)) (sigE J1H J2Y J1i) := JV (l := [sigE J1a J2x J0n, sigE J0w J1y J0v]) (JhT p) ⟨J7o p, ⟨J8C p, trivial⟩⟩ rfl JhS
noncomputable def J0Z : PS := fun f => if f = J1p then some (JdG J3 J0b) else none
theorem Jg3 : tabO J0Z J1p = some (.prim (JdG J3 J0b)) := rfl
theorem Jac : EOk (AF (tabO J0Z)) (sigE J1p J4p J0b) := Jsp Jg3
theorem J0t (p : PS) : EOk (AF (tabO p)) (sigE i_draw_Codes_Next g_draw_Codes_Next S_draw_Codes_Next) := Jke (l := []) (J6c p) trivial rfl J68 100
theorem J88 (p : PS) : EOk (AF (tabO p)) (sigE J0x J1F J08) := JV (l := [sigE i_draw_Codes_Next g_draw_Codes_Next S_draw_Codes_Next]) (Jcv p) ⟨J0t p, trivial⟩ rfl Jcc
theorem J4M (p : PS) : EOk (AF (tabO p)) (sigE Jo J0e S_draw_Codes_Int) := JV (l := [sigE i_draw_Codes_Next g_draw_Codes_Next S_draw_Codes_Next]) (J6I p) ⟨J0t p, trivial⟩ rfl J6S
theorem J3W (p : PS) : EOk (AF (tabO p)) (sigE Jy JX S_draw_Codes_Fault) := JV (l := [sigE i_draw_Codes_Next g_draw_Codes_Next S_draw_Codes_Next, sigE Jo J0e S_draw_Codes_Int]) (J5s p) ⟨J0t p, ⟨J4M p, trivial⟩⟩ rfl J5g
theorem Jn3 (p : PS) : EOk (AF (tabO p)) (sigE J4K J7e J4N) := JV (l := []) (Jmz p) trivial rfl Jnc
theorem Jhz : EOk (AF (tabO J0Z)) (sigE J30 J4T J35) := JV (l := [sigE J25 J3D J24, sigE J1b J2r J0Q, sigE J1p J4p J0b, sigE J1H J2Y J1i]) (Ji0 J0Z) ⟨Jcq J0Z, ⟨J9Q J0Z, ⟨Jac, ⟨Jbp J0Z, trivial⟩⟩⟩⟩ rfl JhV
theorem J5k (p : PS) : EOk (AF (tabO p)) (sigE JR J0G S_ref04_Copy) := JV (l := []) (J94 p) trivial rfl J8Z
theorem Jbv (p : PS) : EOk (AF (tabO p)) (sigE J1G J33 J1I) := JV (l := []) (JhJ p) trivial rfl JhL
theorem J6w (p : PS) : EOk (AF (tabO p)) (sigE J0f J1k J01) := JV (l := [sigE J1G J33 J1I]) (JhK p) ⟨Jbv p, trivial⟩ rfl Jhy
theorem Jak (p : PS) : EOk (AF (tabO p)) (sigE J1q J2M J18) := JV (l := [sigE J0f J1k J01, sigE J1G J33 J1I, sigE JR J0G S_ref04_Copy]) (Jgk p) ⟨J6w p, ⟨Jbv p, ⟨J5k p, trivial⟩⟩⟩ rfl JfX
theorem JaD (p : PS) : EOk (AF (tabO p)) (sigE J1s J2K J1r) := JV (l := []) (Jgb p) trivial rfl Jg8
theorem Jdm (p : PS) : EOk (AF (tabO p)) (sigE J2k J49 J2j) := JV (l := [sigE J1s J2K J1r]) (Jl5 p) ⟨JaD p, trivial⟩ rfl Jl2
theorem JkV (p : PS) : EOk (AF (tabO p)) (sigE J4j J6m J4e) := JV (l := []) (JkC p) trivial rfl JkY
theorem J7K (p : PS) : EOk (AF (tabO p)) (sigE J0y J1K J0z) := JV (l := [sigE J0f J1k J01]) (JgG p) ⟨J6w p, trivial⟩ rfl JfJ
theorem Jkl (p : PS) : EOk (AF (tabO p)) (sigE J3s J5E J2R) := JV (l := [sigE J0y J1K J0z, sigE J4j J6m J4e]) (Jk7 p) ⟨J7K p, ⟨JkV p, trivial⟩⟩ rfl JiH
theorem JeE (p : PS) : EOk (AF (tabO p)) (sigE J2m J43 J2o) := JV (l := []) (Jfo p) trivial rfl JeH
theorem Jbs (p : PS) : EOk (AF (tabO p)) (sigE J13 J2Z J0N) := JV (l := [sigE J2m J43 J2o]) (JhC p) ⟨JeE p, trivial⟩ rfl JhW
theorem Jko (p : PS) : EOk (AF (tabO p)) (sigE J3u J5v J20) := JV (l := []) (JiV p) trivial rfl JiY
theorem Jbt (p : PS) : EOk (AF (tabO p)) (sigE J1J J32 J0F) := JV (l := [sigE J0y J1K J0z, sigE JR J0G S_ref04_Copy, sigE J13 J2Z J0N, sigE J3u J5v J20]) (JhG p) ⟨J7K p, ⟨J5k p, ⟨Jbs p, ⟨Jko p, trivial⟩⟩⟩⟩ rfl JhX
theorem Jeh (p : PS) : EOk (AF (tabO p)) (sigE J2b J3C J0S) := JV (l := [sigE J05 J17 JQ, sigE J1o J2J J1n, sigE Jq J0q JO]) (Jej p) ⟨J5Q p, ⟨Jab p, ⟨J3d p, trivial⟩⟩⟩ rfl Jel
theorem Jir (p : PS) : EOk (AF (tabO p)) (sigE J4r J9f J4s) := Jro (Jjp p)
theorem JhN (p : PS) : EOk (AF (tabO p)) (sigE J36 J4Z J2C) := JV (l := [sigE J1a J2x J0n, sigE J4r J9f J4s]) (Jhv p) ⟨J7o p, ⟨Jir p, trivial⟩⟩ rfl JhI
theorem J6g (p : PS) : EOk (AF (tabO p)) (sigE JP J0r S_draw_Codes_Data) := JV (l := [sigE i_draw_Codes_Next g_draw_Codes_Next S_draw_Codes_Next]) (J67 p) ⟨J0t p, trivial⟩ rfl J6f
theorem JbG (p : PS) : EOk (AF (tabO p)) (sigE J1v J2H J1u) := JV (l := [sigE i_draw_Codes_Next g_draw_Codes_Next S_draw_Codes_Next, sigE J2k J49 J2j, sigE Jy JX S_draw_Codes_Fault, sigE J1q J2M J18, sigE J0x J1F J08, sigE J1J J32 J0F]) (Jbz p) ⟨J0t p, ⟨Jdm p, ⟨J3W p, ⟨Jak p, ⟨J88 p, ⟨Jbt p, trivial⟩⟩⟩⟩⟩⟩ rfl Jbx
theorem e_law04_odd (p : PS) : EOk (AF (tabO p)) (sigE i_law04_odd g_law04_odd S_law04_odd) := JrT (Ja9 p)
theorem JhE (p : PS) : EOk (AF (tabO p)) (sigE J2D J4Y J27) := JV (l := []) (Jht p) trivial rfl Ji1
theorem JeC (p : PS) : EOk (AF (tabO p)) (sigE J2l J3T J1W) := JV (l := [sigE J0f J1k J01, sigE J1s J2K J1r]) (Jfb p) ⟨J6w p, ⟨JaD p, trivial⟩⟩ rfl Jfu
theorem Jkd (p : PS) : EOk (AF (tabO p)) (sigE J1C J5i J0s) := JV (l := []) (Jjl p) trivial rfl JiO
theorem JjN (p : PS) : EOk (AF (tabO p)) (sigE J3y J5B J2T) := JV (l := [sigE J0y J1K J0z, sigE JR J0G S_ref04_Copy, sigE J13 J2Z J0N]) (JjM p) ⟨J7K p, ⟨J5k p, ⟨Jbs p, trivial⟩⟩⟩ rfl JiD
theorem JbA : EOk (AF (tabO J0Z)) (sigE J3J J56 J3I) := JV (l := [sigE J30 J4T J35, sigE J2D J4Y J27, sigE J4K J7e J4N, sigE J1v J2H J1u, sigE J25 J3D J24, sigE J2k J49 J2j, sigE J1C J5i J0s, sigE i_law04_odd g_law04_odd S_law04_odd, sigE i_draw_Codes_Next g_draw_Codes_Next S_draw_Codes_Next, sigE J0x J1F J08, sigE JP J0r S_draw_Codes_Data, sigE J1p J4p J0b, sigE J1J J32 J0F, sigE J05 J17 JQ, sigE J0f J1k J01, sigE Jy JX S_draw_Codes_Fault, sigE J1b J2r J0Q, sigE J1q J2M J18, sigE J36 J4Z J2C, sigE J3y J5B J2T, sigE J2b J3C J0S, sigE J2l J3T J1W, sigE J1H J2Y J1i, sigE J3s J5E J2R]) (JbE J0Z) ⟨Jhz, ⟨JhE J0Z, ⟨Jn3 J0Z, ⟨JbG J0Z, ⟨Jcq J0Z, ⟨Jdm J0Z, ⟨Jkd J0Z, ⟨e_law04_odd J0Z, ⟨J0t J0Z, ⟨J88 J0Z, ⟨J6g J0Z, ⟨Jac, ⟨Jbt J0Z, ⟨J5Q J0Z, ⟨J6w J0Z, ⟨J3W J0Z, ⟨J9Q J0Z, ⟨Jak J0Z, ⟨JhN J0Z, ⟨JjN J0Z, ⟨Jeh J0Z, ⟨JeC J0Z, ⟨Jbp J0Z, ⟨Jkl J0Z, trivial⟩⟩⟩⟩⟩⟩⟩⟩⟩⟩⟩⟩⟩⟩⟩⟩⟩⟩⟩⟩⟩⟩⟩⟩ rfl JbF
end Go.Am
end
section
namespace Go.Proofs
open Go.Shelf Go.RowKit
def Try.ρA : Ren where
 f := fun
  | 105 => 58
  | 212 => 70
  | 99 => 71
  | 165 => 72
  | 166 => 73
  | 170 => 74
  | 169 => 75
  | 263 => 81
  | 264 => 82
  | 206 => 83
  | 240 => 84
  | 241 => 85
  | 276 => 88
  | 277 => 89
  | n => n
 t := fun
  | 9 => 9
  | 3 => 3
  | 4 => 4
  | 20 => 20
  | 0 => 0
  | 46 => 99
  | 109 => 100
  | 5 => 5
  | 72 => 105
  | 76 => 109
  | 51 => 115
  | 146 => 116
  | 53 => 118
  | 148 => 119
  | 70 => 103
  | 37 => 22
  | 75 => 108
  | 127 => 121
  | 164 => 122
  | 80 => 40
  | n => n
 g := fun n => n
theorem Try.laysRep : Lays.n105 Try.prog Try.ρA where
 mixed := by kernel_rfl
 f99 := by kernel_rfl
 f105 := by kernel_rfl
 f165 := by kernel_rfl
 f166 := by kernel_rfl
 f169 := by kernel_rfl
 f170 := by kernel_rfl
 f206 := by kernel_rfl
 f212 := by kernel_rfl
 f240 := by kernel_rfl
 f241 := by kernel_rfl
 f263 := by kernel_rfl
 f264 := by kernel_rfl
 f276 := by kernel_rfl
 f277 := by kernel_rfl
 t0 := Try.underlying0
 a0 := Try.isAgg0
 z0 := Try.sizeOf0
 v0 := Try.zeroValue0
 t3 := Try.underlying3
 a3 := Try.isAgg3
 z3 := Try.sizeOf3
 v3 := Try.zeroValue3
 t4 := Try.underlying4
 a4 := Try.isAgg4
 z4 := Try.sizeOf4
 v4 := Try.zeroValue4
 t5 := Try.underlying5
 a5 := Try.isAgg5
 z5 := Try.sizeOf5
 v5 := Try.zeroValue5
 t9 := Try.underlying9
 a9 := Try.isAgg9
 z9 := Try.sizeOf9
 v9 := Try.zeroValue9
 t20 := Try.underlying20
 a20 := Try.isAgg20
 z20 := Try.sizeOf20
 v20 := Try.zeroValue20
 t37 := Try.underlying22
 a37 := Try.isAgg22
 z37 := Try.sizeOf22
 v37 := Try.zeroValue22
 t46 := Try.underlying99
 a46 := Try.isAgg99
 z46 := Try.sizeOf99
 v46 := Try.zeroValue99
 t51 := Try.underlying115
 a51 := Try.isAgg115
 z51 := Try.sizeOf115
 v51 := Try.zeroValue115
 t53 := Try.underlying118
 a53 := Try.isAgg118
 z53 := Try.sizeOf118
 v53 := Try.zeroValue118
 t70 := Try.underlying103
 a70 := Try.isAgg103
 z70 := Try.sizeOf103
 v70 := Try.zeroValue103
 t72 := Try.underlying105
 a72 := Try.isAgg105
 z72 := Try.sizeOf105
 v72 := Try.zeroValue105
 t75 := Try.underlying108
 a75 := Try.isAgg108
 z75 := Try.sizeOf108
 v75 := Try.zeroValue108
 t76 := Try.underlying109
 a76 := Try.isAgg109
 z76 := Try.sizeOf109
 v76 := Try.zeroValue109
 t109 := Try.underlying100
 a109 := Try.isAgg100
 z109 := Try.sizeOf100
 v109 := Try.zeroValue100
 t127 := Try.underlying121
 a127 := Try.isAgg121
 z127 := Try.sizeOf121
 v127 := Try.zeroValue121
 t146 := Try.underlying116
 a146 := Try.isAgg116
 z146 := Try.sizeOf116
 v146 := Try.zeroValue116
 t148 := Try.underlying119
 a148 := Try.isAgg119
 z148 := Try.sizeOf119
 v148 := Try.zeroValue119
 t164 := Try.underlying122
 a164 := Try.isAgg122
 z164 := Try.sizeOf122
 v164 := Try.zeroValue122
theorem Try.extraRep : Builder.Extra Try.prog Try.ρA where
 sizeBuilder := by kernel_rfl
 liesBuilder := by kernel_rfl
 t5 := Try.laysRep.t5
 a5 := Try.laysRep.a5
 z5 := Try.laysRep.z5
 v5 := Try.laysRep.v5
 infoByte := by kernel_rfl
 cellsByte := by kernel_rfl
 sizeByte := by kernel_rfl
 neB5 := by decide
theorem J7a (l : List UInt8) : ∀ c, Lib.repeatL l c = (List.replicate c l).flatten
 | 0 => rfl
 | c + 1 => by rw [Lib.repeatL, J7a l c, List.replicate_succ, List.flatten_cons]
theorem JqD (l : List UInt8) : (⟨l.toArray⟩ : ByteArray).data.toList = l := rfl
theorem Jda (args : List Am.AV) (blks : List Am.Blk) (r : Am.Res) (h : Am.Jj0 args blks = some r) : Am.J2f Try.prog 58 args blks r := by
 unfold Am.Jj0 at h
 split at h
 ·rename_i bl l n
  obtain ⟨x, hx, rfl⟩ := Option.map_eq_some_iff.1 h
  unfold Am.JiL at hx
  split at hx
  ·rename_i hc
   obtain ⟨h0, h1, h2⟩ := hc
   injection hx with hx
   subst hx
   refine Am.Jsj (xs := [.s l, .i .i64 n]) (vs := [.string ⟨l.toArray⟩, .int .i64 n]) (v := .string ⟨((List.replicate n.toNat l).flatten).toArray⟩) ⟨_, Try.func58, by decide, by decide⟩ rfl rfl fun w => ?_
   have h3 := Any.strings_Repeat Try.laysRep Try.extraRep ⟨l.toArray⟩ n.toNat w (by omega) (by rw [Lib.size_eq]; exact h2)
   rw [JqD, J7a, show ((n.toNat : Nat) : Int) = n by omega] at h3
   exact h3
  ·cases hx
 ·cases h
end Go.Proofs
end
section
set_option linter.unusedSimpArgs false
set_option linter.unusedVariables false
namespace Go.Am
variable {P : Program}
theorem Jky (w : World) (t e ty : TypeId) (z : Value) (ht : P.underlying t = some (.slice e)) (hv : ∀ w, (zeroValue e).run P w = .ok z w) (b o n c : Nat) (hn : 0 < n)
  (hc : ∀ j, j < n * z.cells.size → (w.cell? ⟨b, o + j, none⟩).isSome = true) (hf : ∀ j, j < n * z.cells.size → w.frozen? ⟨b, o + j, none⟩ = false) (h1 : ∀ v ∈ (Builtin.zeroCells z.cells n).toList, v.oneCell' = true) :
  (Builtin.clear_ #[t] ty #[.slice (some ⟨b, o, none⟩) n c]).run P w = .ok (.tuple #[]) (w.setCells b o (Builtin.zeroCells z.cells n).toList) := by
 have hl : (Builtin.zeroCells z.cells n).toList.length = n * z.cells.size := by rw [Array.length_toList, size_zeroCells]
 have hst := run_storeCells_cells (P := P) b o (Builtin.zeroCells z.cells n).toList 0 w (by rw [hl]; simpa using hc) (by rw [hl]; simpa using hf) h1
 simp only [Nat.add_zero] at hst
 obtain ⟨m, rfl⟩ : ∃ m, n = m + 1 := ⟨n - 1, by omega⟩
 simp [Builtin.clear_, run_underlying ht, hv, hst]
structure J8U (r : Nat) (c c' : Array Value) (w w' : World) : Prop where
 os : w'.os = w.os
 out : w'.output = w.output
 size : w'.heap.size = w.heap.size
 at_ : ∃ et fz, w.heap[r]? = some (.cells c et fz) ∧ w'.heap[r]? = some (.cells c' et fz)
 csize : c'.size = c.size
 rest : ∀ k, k ≠ r → w'.heap[k]? = w.heap[k]?
theorem J8U.trans {r : Nat} {c c1 c2 : Array Value} {w w1 w2 : World} (h : J8U r c c1 w w1) (h' : J8U r c1 c2 w1 w2) : J8U r c c2 w w2 := by
 obtain ⟨et, fz, a, b⟩ := h.at_
 obtain ⟨et', fz', a', b'⟩ := h'.at_
 rw [b] at a'
 injection a' with a'
 injection a' with e1 e2 e3
 subst e2 e3
 exact ⟨h'.os.trans h.os, h'.out.trans h.out, h'.size.trans h.size, ⟨et, fz, a, b'⟩, h'.csize.trans h.csize, fun k hk => (h'.rest k hk).trans (h.rest k hk)⟩
end Go.Am
end
section
set_option linter.unusedSimpArgs false
set_option linter.unusedVariables false
namespace Go.Am
theorem JeU {P : Program} (w : World) (dT sT ty elem : TypeId) (sz b o dLen dCap : Nat) (a : Addr) (sLen sCap m : Nat) (cs : List Value)
  (hu : P.underlying dT = some (.slice elem)) (hs : (P.info? elem).map (·.size) = some sz) (hm : m = Nat.min sLen dLen) (hn : cs.length = m * sz)
  (hsrc : ∀ (j : Nat) v, cs[j]? = some v → w.cell? (a.add j) = some v) (hc : ∀ j, j < cs.length → (w.cell? ⟨b, o + j, none⟩).isSome = true) (hf : ∀ j, j < cs.length → w.frozen? ⟨b, o + j, none⟩ = false) (h1 : ∀ v ∈ cs, v.oneCell' = true) :
  (Builtin.copy_ #[dT, sT] ty #[.slice (some ⟨b, o, none⟩) dLen dCap, .slice (some a) sLen sCap]).run P w = .ok (goInt m) (w.setCells b o cs) := by
 have hl := run_loadCells_list (P := P) w a cs hsrc
 have hst := run_storeCells_cells (P := P) b o cs 0 w (by simpa using hc) (by simpa using hf) h1
 cases hq : P.info? elem with
 | none => simp [hq] at hs
 | some i =>
  have hi : i.size = sz := by simpa [hq] using hs
  have hst' : (storeCells ⟨b, o, none⟩ cs).run P w = .ok () (w.setCells b o cs) := by simpa using hst
  simp [Builtin.copy_, run_underlying hu, Builtin.lenOf, Builtin.firstCells, sizeOf, typeInfo, hq, hi, ← hm, ← hn, hl, hst, hst']
theorem J8U.push {c0 c' : Array Value} {e : TypeId} {fz : Nat × Nat} {w W0 w' : World} (h0 : W0.heap = w.heap.push (.cells c0 e fz)) (h : J8U w.heap.size c0 c' W0 w') : w'.heap = w.heap.push (.cells c' e fz) := by
 obtain ⟨et, fz', a, b⟩ := h.at_
 rw [h0] at a
 simp only [Array.getElem?_push_size, Option.some.injEq, Obj.cells.injEq, true_and] at a
 obtain ⟨rfl, rfl⟩ := a
 apply Array.ext_getElem?
 intro k
 by_cases hk : k = w.heap.size
 ·subst hk; rw [b]; simp
 ·rw [h.rest k hk, h0, Array.getElem?_push, Array.getElem?_push, if_neg hk, if_neg hk]
end Go.Am
end
section
namespace Go.Proofs
open Go.Shelf Go.RowKit Go.Lib
set_option linter.unusedSimpArgs false
set_option linter.unusedVariables false
theorem Try.rep57_size : (Try.prog.info? 9).map (·.size) = some 1 := by kernel_rfl
theorem Try.rep57_bytes : (Try.prog.info? 9).map (·.bytes) = some 16 := by kernel_rfl
theorem Try.rep57_zero : (Try.prog.info? 9).map (·.zero) = some (some (.string ⟨#[]⟩)) := by kernel_rfl
theorem Jaf {B b : Nat} {w : World} (hb : B ≤ b) : ∀ (vs : List Value) (o : Nat) (W : World), Below B w W → Below B w (W.setCells b o vs)
 | [], _, _, h => h
 | v :: vs, o, W, h => Jaf hb vs (o + 1) _ (Below.setCell h (p := ⟨b, o, none⟩) hb v)
structure J7C (B n k : Nat) (v : Value) (w W : World) : Prop where
 below : Below B w W
 sp : ∀ j, j < n → (W.cell? ⟨B, j, none⟩).isSome = true
 fz : ∀ j, j < n → W.frozen? ⟨B, j, none⟩ = false
 at_ : ∀ j, j < k → W.cell? ⟨B, j, none⟩ = some v
theorem J7C.drew {B n k : Nat} {v : Value} {w W : World} (h : J7C B n k v w W) : J7C B n k v w W.drew := ⟨h.below.drew, h.sp, h.fz, h.at_⟩
theorem J7C.step {B n k m : Nat} {v : Value} {w W : World} (h : J7C B n k v w W) (hm : k + m ≤ n) : J7C B n (k + m) v w (W.setCells B k (List.replicate m v)) := by
 have hs : ∀ j, j < (List.replicate m v).length → (W.cell? ⟨B, k + j, none⟩).isSome = true := fun j hj => h.sp _ (by rw [List.length_replicate] at hj; omega)
 refine ⟨Jaf (Nat.le_refl _) _ _ _ h.below, fun j hj => isSome_setCells B _ _ _ hs j (h.sp j hj), fun j hj => ?_, fun j hj => ?_⟩
 ·rw [World.frozen?_setCells]; exact h.fz j hj
 ·by_cases hk : j < k
  ·rw [World.cell?_setCells_out B _ _ _ _ (fun _ _ => .inl hk)]
   exact h.at_ j hk
  ·have := World.cell?_setCells_in B _ k W hs (j - k) (by rw [List.length_replicate]; omega)
   rw [show k + (j - k) = j by omega] at this
   rw [this]
   simp
theorem J7C.copy {B n k m : Nat} {v : Value} {w W : World} (h : J7C B n k v w W) (hm : m = Nat.min k (n - k)) (hk : k ≤ n) (h1 : v.oneCell' = true) (ty : TypeId) (dc sc : Nat) :
  (Builtin.copy_ #[26, 26] ty #[.slice (some ⟨B, k, none⟩) (n - k) dc, .slice (some ⟨B, 0, none⟩) k sc]).run Try.prog W = .ok (goInt (m : Int)) (W.setCells B k (List.replicate m v)) := by
 have hmk : m ≤ k ∧ k + m ≤ n := by
  subst hm
  simp only [Nat.min_def]
  split <;> omega
 refine Am.JeU W 26 26 ty 9 1 B k (n - k) dc ⟨B, 0, none⟩ k sc m (List.replicate m v) Try.underlying26 Try.rep57_size hm (by simp) (fun j u hj => ?_) (fun j hj => ?_) (fun j hj => ?_) (fun u hu => ?_)
 ·rw [List.getElem?_replicate] at hj
  split at hj
  ·injection hj with hj
   subst hj
   rw [Addr.add_lit, Nat.zero_add]
   exact h.at_ j (by omega)
  ·cases hj
 ·rw [List.length_replicate] at hj; exact h.sp _ (by omega)
 ·rw [List.length_replicate] at hj; exact h.fz _ (by omega)
 ·rw [List.eq_of_mem_replicate hu]; exact h1
set_option maxHeartbeats 4000000 in
set_option maxRecDepth 100000 in
theorem Try.rep57 (b o xc n : Nat) (v : Value) (w : World) (h1n : 1 ≤ n) (hn : n ≤ 1000) (hx : w.cell? ⟨b, o, none⟩ = some v) (h1 : v.oneCell' = true) :
  Calls Try.prog 57 #[.slice (some ⟨b, o, none⟩) 1 xc, .int .i64 n] w fun e w' => e = .returned (.slice (some ⟨w.heap.size, 0, none⟩) n n) ∧ Below w.heap.size w w' ∧ ∀ j, j < n → w'.cell? ⟨w.heap.size, j, none⟩ = some v := by
 have hMul := Any.bits_Mul { Try.laysRep with } 1 n (by omega) (by omega) w
 rw [Nat.one_mul, Nat.div_eq_of_lt (by omega), Nat.mod_eq_of_lt (by omega)] at hMul
 have hn0 : ¬ ((n : Int) < 0) := by omega
 have hw1 : IntKind.u64.wrap (n : Int) = (n : Int) := by rw [IntKind.wrap_u64]; omega
 have hw2 : IntKind.i64.wrap (n : Int) = (n : Int) := by rw [IntKind.wrap_i64]; omega
 have hbig : ¬ ((9223372036854775807 : Int) < (n : Int)) := by omega
 obtain ⟨i0, hi0, hs0⟩ := Option.map_eq_some_iff.1 Try.rep57_size
 have hb0 : i0.bytes = 16 := by have := Try.rep57_bytes; rw [hi0] at this; simpa using this
 have hz0 : i0.zero = some (.string ⟨#[]⟩) := by have := Try.rep57_zero; rw [hi0] at this; simpa using this
 have hmk : ∀ w, (Instr.makeSlice 26 (.int .i64 (n : Int)) (.int .i64 (n : Int))).run Try.prog w = .ok (.slice (some ⟨w.heap.size, 0, none⟩) n n) (w.alloc (.cells (madeCells (Value.string ⟨#[]⟩).cells (n * 1)) 9)) := fun w => by
  have := run_make (P := Try.prog) w 26 9 i0 _ Try.underlying26 hi0 hz0 .i64 .i64 n n (by omega) (Int.le_refl _) (by rw [hb0]; omega) (by omega)
  rw [hs0] at this
  simpa only [Int.toNat_natCast] using this
 obtain ⟨B, hB⟩ : ∃ B, B = w.heap.size := ⟨_, rfl⟩
 obtain ⟨A, hA⟩ : ∃ A, A = w.alloc (.cells (madeCells #[Value.string ⟨#[]⟩] n) 9) := ⟨_, rfl⟩
 have hbw : b < w.heap.size := block_lt_of_cell hx
 have hxA : A.cell? ⟨b, o, none⟩ = some v := by rw [hA, (Below.alloc (Below.refl w.heap.size w) (Nat.le_refl _) _).cell hbw]; exact hx
 have hinv : J7C B n 0 v w A := by
  refine ⟨?_, fun j hj => ?_, fun j hj => ?_, fun j hj => absurd hj (by omega)⟩
  ·rw [hA, hB]; exact Below.alloc (Below.refl w.heap.size w) (Nat.le_refl _) _
  ·have hh : A.heap[B]? = some (.cells (madeCells #[Value.string ⟨#[]⟩] n) 9) := by rw [hA, hB]; exact Array.getElem?_push_size
   have hz : j < (madeCells #[Value.string ⟨#[]⟩] n).size := by rw [size_madeCells]; exact hj
   rw [cell_of_heap hh, Array.getElem?_eq_getElem hz]
   rfl
  ·rw [hA, hB]; exact World.frozen?_alloc_new _ _ _ _
 have hcp1 : ∀ ty, (Builtin.copy_ #[26, 26] ty #[.slice (some ⟨w.heap.size, 0, none⟩) n n, .slice (some ⟨b, o, none⟩) 1 xc]).run Try.prog (w.alloc (.cells (madeCells #[Value.string ⟨#[]⟩] n) 9)) = .ok (goInt 1) (A.setCells B 0 [v]) := fun ty => by
  rw [← hA, ← hB]
  refine Am.JeU A 26 26 ty 9 1 B 0 n n ⟨b, o, none⟩ 1 xc 1 [v] Try.underlying26 Try.rep57_size (by simp only [Nat.min_def]; split <;> omega) rfl (fun j u hj => ?_) (fun j hj => ?_) (fun j hj => ?_) (fun u hu => ?_)
  ·cases j with
   | zero => simp at hj; subst hj; rw [Addr.add_lit]; exact hxA
   | succ j => simp at hj
  ·simp at hj; subst hj; exact hinv.sp 0 (by omega)
  ·simp at hj; subst hj; exact hinv.fz 0 (by omega)
  ·simp at hu; subst hu; exact h1
 have hinv1 : J7C B n 1 v w (A.setCells B 0 [v]) := hinv.step (m := 1) (by omega)
 have HI : Hid (J7C B n 1 v w (A.setCells B 0 [v])) := hinv1
 have HH1 : Hid (v.oneCell' = true) := h1
 have HB : Hid (B = w.heap.size) := hB
 clear hinv hinv1 hxA hA hB
 have mixed : Try.prog.follows .mixedOrders = true := by kernel_rfl
 go_enter Try.func57, Try.ntmps57
 go_wp2_with (first | (go_at_call 70; refine hMul.mono ?_; rintro e w' ⟨rfl, hw⟩; rw [hw]) | simp only [hmk] | simp only [hcp1])
 go_loopw [8] (fun i wr => ∃ k : Nat, 1 ≤ k ∧ k ≤ n ∧ i = .int .i64 k ∧ J7C B n k v w wr) (fun i _ => n - (RowKit.intOf i).toNat)
 case atStart => exact ⟨1, Nat.le_refl _, h1n, rfl, HI.out⟩
 case round =>
  obtain ⟨k, hk1, hkn, rfl, hr⟩ := hrel
  have HR : Hid (J7C B n k v w wr) := hr
  clear hr
  by_cases hlt : k < n
  ·have hlt2 : (k : Int) < (n : Int) := by omega
   have hk0 : (0 : Int) ≤ (k : Int) := by omega
   have hkn2 : ¬ ((n : Int) < (k : Int)) := by omega
   have hkn3 : (k : Int) ≤ (n : Int) := by omega
   obtain ⟨m, hm⟩ : ∃ m, m = Nat.min k (n - k) := ⟨_, rfl⟩
   have hcp2 : ∀ ty dc sc, (Builtin.copy_ #[26, 26] ty #[.slice (some ⟨w.heap.size, k, none⟩) (n - k) dc, .slice (some ⟨w.heap.size, 0, none⟩) k sc]).run Try.prog wr.drew = .ok (goInt (m : Int)) (wr.drew.setCells B k (List.replicate m v)) := fun ty dc sc => by
    rw [← HB.out]
    exact HR.out.drew.copy hm (by omega) HH1.out ty dc sc
   have hne : ¬ (n = k) := by omega
   have hm1 : 1 ≤ m := by subst hm; simp only [Nat.min_def]; split <;> omega
   have hm2 : k + m ≤ n := by subst hm; simp only [Nat.min_def]; split <;> omega
   clear hm
   go_wp2
   go_region_law_o (refine step_copy_runI rfl _ _ 26 26 rfl _ _ (by simp [Act.eval, Act.put]) (by simp [Act.eval, Act.put]) (hcp2 _ _ _) ?_)
   simp [Act.put, Act.eval]
   have hwr : IntKind.i64.wrap ((k : Int) + (m : Int)) = ((k + m : Nat) : Int) := by rw [IntKind.wrap_i64]; omega
   go_wp2
   refine ⟨⟨k + m, by omega, hm2, congrArg (Value.int .i64) hwr, HR.out.drew.step hm2⟩, ?_⟩
   rw [hwr]
   simp only [RowKit.intOf]
   omega
  ·have hkn2 : k = n := by omega
   subst hkn2
   go_wp2
   go_ret
   exact ⟨rfl, by rw [← HB.out]; exact HR.out.below, fun j hj => by rw [← HB.out]; exact HR.out.at_ j hj⟩
theorem J7x : ∀ args blks r, Am.JdP args blks = some r → Am.J2f Try.prog 57 args blks r :=
 Am.Jsz ⟨Try.f57, Try.func57, by kernel_rfl, by kernel_rfl⟩ fun b o xc n v w h1 h2 h3 h4 => Try.rep57 b o xc n v w h1 h2 h3 h4
end Go.Proofs
end
section
namespace Go.Proofs
open Go.Shelf Go.RowKit
set_option linter.unusedSimpArgs false
set_option linter.unusedVariables false
structure JaU (g : Nat) (lb : Array Value) (b : Nat) (p : List Value → Bool) (J : List (List Value) → World → Prop) (Free : Nat → World → Prop) : Prop where
 enters : ∀ args w, (callFunc g args).run Try.prog w = .ok (.enter g args) w
 call : ∀ done (a0 a1 a2 a3 a4 a5 : Int) W, done.length ≤ 1000000 → J done W → Calls Try.prog g (#[.agg #[.int .i64 a0, .int .i64 a1, .int .i64 a2, .int .i64 a3, .int .i64 a4, .int .u8 a5]] ++ lb) W fun e W' => e = .returned (.bool (p [.int .i64 a0, .int .i64 a1, .int .i64 a2, .int .i64 a3, .int .i64 a4, .int .u8 a5])) ∧ J (done ++ [[.int .i64 a0, .int .i64 a1, .int .i64 a2, .int .i64 a3, .int .i64 a4, .int .u8 a5]]) W' ∧ ∀ q, Free q W → W'.heap[q]? = W.heap[q]?
 alloc : ∀ done W o, J done W → J done (W.alloc o)
 put : ∀ done W o v, J done W → J done (W.setCell ⟨b, o, none⟩ v)
 free_b : ∀ done W, J done W → Free b W
 free_new : ∀ done W o, J done W → Free W.heap.size (W.alloc o)
def IsF (r : List Value) : Prop := ∃ a0 a1 a2 a3 a4 a5 : Int, r = [.int .i64 a0, .int .i64 a1, .int .i64 a2, .int .i64 a3, .int .i64 a4, .int .u8 a5]
def J2F (W : World) (b : Nat) (rows : List (List Value)) : Prop := ∀ (i : Nat) r, rows[i]? = some r → ∀ (j : Nat) v, r[j]? = some v → W.cell? ⟨b, i * 6 + j, none⟩ = some v
theorem J2F.same {W W' : World} {b : Nat} {rows : List (List Value)} (h : J2F W b rows) (e : W'.heap[b]? = W.heap[b]?) : J2F W' b rows := by
 intro i r hr j v hv
 have := h i r hr j v hv
 unfold World.cell? at this ⊢
 rw [e]
 exact this
set_option maxHeartbeats 4000000 in
set_option maxRecDepth 100000 in
theorem Try.idxf60 (g : Nat) (lb : Array Value) (b cap : Nat) (p : List Value → Bool) (J : List (List Value) → World → Prop) (Free : Nat → World → Prop) (hA : JaU g lb b p J Free) (rows : List (List Value)) (h6 : ∀ r ∈ rows, IsF r)
  (hlen : rows.length ≤ 1000000) (W : World) (hr : J2F W b rows) (hJ : J [] W) :
  Calls Try.prog 60 #[.slice (some ⟨b, 0, none⟩) rows.length cap, .func (.func g) #[] lb] W fun e W' => W'.heap[b]? = W.heap[b]? ∧
   ((e = .returned (.int .i64 (-1)) ∧ (∀ r ∈ rows, p r = false) ∧ J rows W') ∨
    ∃ k : Nat, e = .returned (.int .i64 k) ∧ k < rows.length ∧ (∀ r ∈ rows.take k, p r = false) ∧ (∀ r, rows[k]? = some r → p r = true) ∧ J (rows.take (k + 1)) W') := by
 have eg := hA.enters
 have HA : Hid (JaU g lb b p J Free) := hA
 have HR : Hid (J2F W b rows) := hr
 have HJ : Hid (J [] W) := hJ
 have H6 : Hid (∀ r ∈ rows, IsF r) := h6
 clear hA hr hJ h6
 go_enter Try.func60, Try.ntmps60
 go_wp2
 go_loopw [8] (fun i wr => ∃ k : Nat, k ≤ rows.length ∧ i = .int .i64 k ∧ J (rows.take k) wr ∧ (∀ r ∈ rows.take k, p r = false) ∧ wr.heap[b]? = W.heap[b]?) (fun i _ => rows.length - (intOf i).toNat)
 case atStart => exact ⟨0, Nat.zero_le _, rfl, HJ.out, by simp, rfl⟩
 case round =>
  obtain ⟨k, hk, rfl, hJk, hpk, hwk⟩ := hrel
  have HJ2 : Hid (J (rows.take k) wr) := hJk
  have HP : Hid (∀ r ∈ rows.take k, p r = false) := hpk
  have HW : Hid (wr.heap[b]? = W.heap[b]?) := hwk
  clear hJk hpk hwk
  by_cases hlt : k < rows.length
  ·have hlt2 : (k : Int) < (rows.length : Int) := by omega
   have hk0 : (0 : Int) ≤ (k : Int) := by omega
   obtain ⟨a0, a1, a2, a3, a4, a5, he⟩ := (H6.out rows[k] (List.getElem_mem hlt))
   have hrow : rows[k]? = some [.int .i64 a0, .int .i64 a1, .int .i64 a2, .int .i64 a3, .int .i64 a4, .int .u8 a5] := by rw [List.getElem?_eq_getElem hlt, he]
   have hRw := HR.out.same HW.out
   have d0 : wr.cell? ⟨b, k * 6, none⟩ = some (.int .i64 a0) := hRw k _ hrow 0 _ rfl
   have d1 : wr.cell? ⟨b, k * 6 + 1, none⟩ = some (.int .i64 a1) := hRw k _ hrow 1 _ rfl
   have d2 : wr.cell? ⟨b, k * 6 + 2, none⟩ = some (.int .i64 a2) := hRw k _ hrow 2 _ rfl
   have d3 : wr.cell? ⟨b, k * 6 + 3, none⟩ = some (.int .i64 a3) := hRw k _ hrow 3 _ rfl
   have d4 : wr.cell? ⟨b, k * 6 + 4, none⟩ = some (.int .i64 a4) := hRw k _ hrow 4 _ rfl
   have d5 : wr.cell? ⟨b, k * 6 + 5, none⟩ = some (.int .u8 a5) := hRw k _ hrow 5 _ rfl
   have hcall := HA.out.call (rows.take k) a0 a1 a2 a3 a4 a5 wr (Nat.le_trans (List.length_take_le _ _) (by omega)) HJ2.out
   have htk : rows.take k ++ [[.int .i64 a0, .int .i64 a1, .int .i64 a2, .int .i64 a3, .int .i64 a4, .int .u8 a5]] = rows.take (k + 1) := by
    rw [List.take_add_one, hrow]; rfl
   rw [htk] at hcall
   have HROW : Hid (rows[k]? = some [.int .i64 a0, .int .i64 a1, .int .i64 a2, .int .i64 a3, .int .i64 a4, .int .u8 a5]) := hrow
   have HT : Hid (rows.take k ++ [[.int .i64 a0, .int .i64 a1, .int .i64 a2, .int .i64 a3, .int .i64 a4, .int .u8 a5]] = rows.take (k + 1)) := htk
   clear hRw hrow he htk
   cases hq : p [.int .i64 a0, .int .i64 a1, .int .i64 a2, .int .i64 a3, .int .i64 a4, .int .u8 a5] with
   | false =>
    rw [hq] at hcall
    go_wp2_with (go_at_fn g; refine hcall.mono ?_; rintro e w' ⟨rfl, hJn, hfn⟩; have hwn : w'.heap[b]? = wr.heap[b]? := hfn b (HA.out.free_b _ _ HJ2.out); clear hfn)
    refine ⟨⟨k + 1, hlt, rfl, hJn, ?_, hwn.trans HW.out⟩, ?_⟩
    ·intro r hr
     rw [← HT.out] at hr
     rcases List.mem_append.1 hr with hr | hr
     ·exact HP.out r hr
     ·rw [List.mem_singleton.1 hr]; exact hq
    ·simp only [intOf]; omega
   | true =>
    rw [hq] at hcall
    go_wp2_with (go_at_fn g; refine hcall.mono ?_; rintro e w' ⟨rfl, hJn, hfn⟩; have hwn : w'.heap[b]? = wr.heap[b]? := hfn b (HA.out.free_b _ _ HJ2.out); clear hfn)
    go_ret
    exact ⟨hwn.trans HW.out, .inr ⟨k, rfl, hlt, HP.out, fun r hr => by rw [HROW.out] at hr; injection hr with hr; rw [← hr]; exact hq, hJn⟩⟩
  ·have hk2 : k = rows.length := by omega
   subst hk2
   go_wp2
   go_ret
   refine ⟨HW.out, .inl ⟨rfl, ?_, ?_⟩⟩
   ·have := HP.out; rwa [List.take_length] at this
   ·have := HJ2.out; rwa [List.take_length] at this
theorem IsF.len {r : List Value} (h : IsF r) : r.length = 6 := by obtain ⟨a0, a1, a2, a3, a4, a5, rfl⟩ := h; rfl
theorem J2F.put {W : World} {b i : Nat} {cur : List (List Value)} {r : List Value} (h : J2F W b cur) (h6 : ∀ r ∈ cur, IsF r) (hi : i < cur.length) (hr : IsF r) : J2F (W.setCells b (i * 6) r) b (cur.set i r) := by
 have hl := hr.len
 have hs : ∀ j, j < r.length → (W.cell? ⟨b, i * 6 + j, none⟩).isSome = true := fun j hj => by
  have hc := List.getElem?_eq_getElem hi
  have hcl := (h6 _ (List.getElem_mem hi)).len
  rw [h i _ hc j _ (List.getElem?_eq_getElem (by omega))]
  rfl
 intro q r' hq j v hv
 by_cases e : q = i
 ·subst e
  rw [List.getElem?_set_self hi] at hq
  injection hq with hq
  subst hq
  have hj : j < r.length := by
   rcases Nat.lt_or_ge j r.length with h | h
   ·exact h
   ·rw [List.getElem?_eq_none h] at hv; cases hv
  rw [World.cell?_setCells_in b r (q * 6) W hs j hj]
  rw [List.getElem?_eq_getElem hj] at hv
  exact hv
 ·rw [List.getElem?_set_ne (fun h => e h.symm)] at hq
  have hql : q < cur.length := by
   rcases Nat.lt_or_ge q cur.length with h | h
   ·exact h
   ·rw [List.getElem?_eq_none h] at hq; cases hq
  have h6' : r'.length = 6 := by
   rw [List.getElem?_eq_getElem hql] at hq
   injection hq with hq
   rw [← hq]
   exact (h6 _ (List.getElem_mem hql)).len
  have hj : j < 6 := by
   rcases Nat.lt_or_ge j 6 with h | h
   ·exact h
   ·rw [List.getElem?_eq_none (by omega)] at hv; cases hv
  rw [World.cell?_setCells_out b r (i * 6) W _ (fun _ _ => by show q * 6 + j < i * 6 ∨ i * 6 + r.length ≤ q * 6 + j; omega)]
  exact h q r' hq j v hv
theorem JaU.puts {g : Nat} {lb : Array Value} {b : Nat} {p : List Value → Bool} {J : List (List Value) → World → Prop} {Free : Nat → World → Prop} (h : JaU g lb b p J Free) {done : List (List Value)} : ∀ (vs : List Value) (o : Nat) (W : World), J done W → J done (W.setCells b o vs)
 | [], _, _, hj => hj
 | v :: vs, o, W, hj => h.puts vs (o + 1) _ (h.put done W o v hj)
theorem JcX {wr w2 : World} {c : Array Value} {t : TypeId} (h : w2.heap[wr.heap.size]? = (wr.alloc (.cells c t)).heap[wr.heap.size]?) (q : Nat) : w2.cell? ⟨wr.heap.size, q, none⟩ = c[q]? :=
 Lib.cell_of_heap (h.trans Array.getElem?_push_size) q
theorem JqK {n : Nat} (v : Value) (h : v ∈ (Builtin.zeroCells (Value.agg #[.int .i64 0, .int .i64 0, .int .i64 0, .int .i64 0, .int .i64 0, .int .u8 0]).cells n).toList) : v.oneCell' = true := by
 unfold Builtin.zeroCells at h
 rw [Array.mem_toList_iff, Array.mem_map] at h
 obtain ⟨k, _, rfl⟩ := h
 show (#[Value.int .i64 0, .int .i64 0, .int .i64 0, .int .i64 0, .int .i64 0, .int .u8 0][k % 6]!).oneCell' = true
 have hk : k % 6 < 6 := Nat.mod_lt _ (by decide)
 generalize k % 6 = m at hk
 match m, hk with
 | 0, _ => rfl
 | 1, _ => rfl
 | 2, _ => rfl
 | 3, _ => rfl
 | 4, _ => rfl
 | 5, _ => rfl
structure J6p (p : List Value → Bool) (rows cur : List (List Value)) (i j : Nat) : Prop where
 len : cur.length = rows.length
 rest : ∀ q, j ≤ q → cur[q]? = rows[q]?
 kept : cur.take i = (rows.take j).filter fun r => !p r
 lt : i < j
 le : j ≤ rows.length
theorem J6p.skip {p : List Value → Bool} {rows cur : List (List Value)} {i j : Nat} {r : List Value} (h : J6p p rows cur i j) (hr : rows[j]? = some r) (hp : p r = true) : J6p p rows cur i (j + 1) := by
 have hj : j < rows.length := by
  rcases Nat.lt_or_ge j rows.length with h | h
  ·exact h
  ·rw [List.getElem?_eq_none h] at hr; cases hr
 refine ⟨h.len, fun q hq => h.rest q (by omega), ?_, by have := h.lt; omega, hj⟩
 rw [h.kept, List.take_add_one, hr, List.filter_append]
 simp [hp]
theorem J6p.keep {p : List Value → Bool} {rows cur : List (List Value)} {i j : Nat} {r : List Value} (h : J6p p rows cur i j) (hr : rows[j]? = some r) (hp : p r = false) : J6p p rows (cur.set i r) (i + 1) (j + 1) := by
 have hj : j < rows.length := by
  rcases Nat.lt_or_ge j rows.length with h | h
  ·exact h
  ·rw [List.getElem?_eq_none h] at hr; cases hr
 have hi := h.lt
 have hlen := h.len
 refine ⟨by rw [List.length_set]; exact h.len, fun q hq => ?_, ?_, by omega, hj⟩
 ·rw [List.getElem?_set_ne (by omega)]
  exact h.rest q (by omega)
 ·rw [List.take_add_one, List.getElem?_set_self (by omega), List.take_set_of_le (Nat.le_refl _), h.kept, List.take_add_one, hr, List.filter_append]
  simp [hp]
def J7X (p : List Value → Bool) (rows : List (List Value)) (k : Nat) : Prop := k < rows.length ∧ (∀ r ∈ rows.take k, p r = false) ∧ ∀ r, rows[k]? = some r → p r = true
theorem Jj3 (p : List Value → Bool) : ∀ rows : List (List Value), (∀ r ∈ rows, p r = false) ∨ ∃ k, J7X p rows k
 | [] => .inl fun r h => by cases h
 | x :: l => by
  cases hx : p x with
  | true => exact .inr ⟨0, by simp, by simp, fun r h => by simp at h; subst h; exact hx⟩
  | false =>
   rcases Jj3 p l with h | ⟨k, h1, h2, h3⟩
   ·left
    intro r hr
    rcases List.mem_cons.1 hr with rfl | hr
    ·exact hx
    ·exact h r hr
   ·right
    refine ⟨k + 1, by simpa using h1, fun r hr => ?_, fun r hr => h3 r (by simpa using hr)⟩
    rw [List.take_succ_cons] at hr
    rcases List.mem_cons.1 hr with rfl | hr
    ·exact hx
    ·exact h2 r hr
theorem JmJ {p : List Value → Bool} {rows : List (List Value)} {k m : Nat} (h : J7X p rows k) (h' : J7X p rows m) : k = m := by
 have key : ∀ {k m : Nat}, J7X p rows k → J7X p rows m → ¬ k < m := by
  intro k m h h' hlt
  have hk := List.getElem?_eq_getElem h.1
  have h1 := h.2.2 _ hk
  have hkl := h.1
  have h2 := h'.2.1 (rows[k]'hkl) (by
   rw [List.mem_take_iff_getElem]
   exact ⟨k, by have := h.1; omega, rfl⟩)
  rw [h1] at h2
  cases h2
 have h1 := key h h'
 have h2 := key h' h
 omega
theorem J6p.start {p : List Value → Bool} {rows : List (List Value)} {k : Nat} (h : J7X p rows k) : J6p p rows rows k (k + 1) := by
 refine ⟨rfl, fun _ _ => rfl, ?_, by omega, h.1⟩
 have hk := List.getElem?_eq_getElem h.1
 rw [List.take_add_one, hk, List.filter_append]
 have e1 : (rows.take k).filter (fun r => !p r) = rows.take k := List.filter_eq_self.2 fun r hr => by rw [h.2.1 r hr]; rfl
 rw [e1]
 simp [h.2.2 _ hk]
set_option maxHeartbeats 8000000 in
set_option maxRecDepth 100000 in
theorem Try.delf42 (g : Nat) (lb : Array Value) (b cap : Nat) (p : List Value → Bool) (J : List (List Value) → World → Prop) (Free : Nat → World → Prop) (hA : JaU g lb b p J Free) (rows : List (List Value)) (h6 : ∀ r ∈ rows, IsF r)
  (hlen : rows.length ≤ 1000000) (hcap : rows.length ≤ cap) (W : World) (hr : J2F W b rows) (hfz : ∀ o, W.frozen? ⟨b, o, none⟩ = false) (hJ : J [] W) :
  Calls Try.prog 42 #[.slice (some ⟨b, 0, none⟩) rows.length cap, .func (.func g) #[] lb] W fun e W' =>
   e = .returned (.slice (some ⟨b, 0, none⟩) (rows.filter fun r => !p r).length cap) ∧ J rows W' ∧ J2F W' b (rows.filter fun r => !p r) := by
 have eg := hA.enters
 have e201 : ∀ args w, (callFunc 60 args).run Try.prog w = .ok (.enter 60 args) w := enters_of Try.func60 (by kernel_rfl) rfl
 have HA : Hid (JaU g lb b p J Free) := hA
 have HF : Hid (∀ o, W.frozen? ⟨b, o, none⟩ = false) := hfz
 have HR : Hid (J2F W b rows) := hr
 have H6 : Hid (∀ r ∈ rows, IsF r) := h6
 have hI := Try.idxf60 g lb b cap p J Free hA rows h6 hlen W hr hJ
 clear hA hr hJ h6 hfz
 rcases Jj3 p rows with hall | ⟨k, hk⟩
 ·have hI1 := hI.mono (R' := fun e W' => e = .returned (.int .i64 (-1)) ∧ J rows W' ∧ W'.heap[b]? = W.heap[b]?) (by
   rintro e W' ⟨h0, ⟨h1, h2, h3⟩ | ⟨m, h1, h2, h3, h4, h5⟩⟩
   ·exact ⟨h1, h3, h0⟩
   ·have := h4 _ (List.getElem?_eq_getElem h2)
    rw [hall _ (List.getElem_mem h2)] at this
    cases this)
  clear hI
  have hfil : rows.filter (fun r => !p r) = rows := List.filter_eq_self.2 fun r hr => by rw [hall r hr]; rfl
  rw [hfil]
  go_enter Try.func42, Try.ntmps42
  go_wp2_with (go_at_fn 60; refine hI1.mono ?_; rintro e w1 ⟨rfl, hJ1, hw1⟩)
  go_ret
  exact ⟨rfl, hJ1, HR.out.same hw1⟩
 ·have hI1 := hI.mono (R' := fun e W' => e = .returned (.int .i64 k) ∧ J (rows.take (k + 1)) W' ∧ W'.heap[b]? = W.heap[b]?) (by
   rintro e W' ⟨h0, ⟨h1, h2, h3⟩ | ⟨m, h1, h2, h3, h4, h5⟩⟩
   ·have := hk.2.2 _ (List.getElem?_eq_getElem hk.1)
    rw [h2 _ (List.getElem_mem hk.1)] at this
    cases this
   ·obtain rfl := JmJ hk ⟨h2, h3, h4⟩
    exact ⟨h1, h5, h0⟩)
  clear hI
  have HK : Hid (J7X p rows k) := hk
  have hk1 := hk.1
  have hk2 : ¬ ((k : Int) = -1) := by omega
  clear hk
  go_enter Try.func42, Try.ntmps42
  go_wp2_with (go_at_fn 60; refine hI1.mono ?_; rintro e w1 ⟨rfl, hJ1, hw1⟩)
  have HJ1 : Hid (J (rows.take (k + 1)) w1) := hJ1
  have HW1 : Hid (w1.heap[b]? = W.heap[b]?) := hw1
  clear hJ1 hw1 hI1
  go_loopw [5, 6] (fun s5 s6 wr => ∃ (i j : Nat) (cur : List (List Value)), s5 = .int .i64 i ∧ s6 = .int .i64 j ∧ J6p p rows cur i j ∧ J (rows.take j) wr ∧ J2F wr b cur ∧ (∀ r ∈ cur, IsF r) ∧ ∀ o, wr.frozen? ⟨b, o, none⟩ = false)
   (fun _ s6 _ => rows.length - (intOf s6).toNat)
  case atStart =>
   exact ⟨k, k + 1, rows, rfl, rfl, .start HK.out, HJ1.out, HR.out.same HW1.out, H6.out, fun o => by rw [World.frozen?_of_block HW1.out]; exact HF.out o⟩
  case round =>
   obtain ⟨i, j, cur, rfl, rfl, hs, hJr, hRr, h6r, hFr⟩ := hrel
   have H62 : Hid (∀ r ∈ cur, IsF r) := h6r
   have HS : Hid (J6p p rows cur i j) := hs
   have HJ2 : Hid (J (rows.take j) wr) := hJr
   have HR2 : Hid (J2F wr b cur) := hRr
   have HF2 : Hid (∀ o, wr.frozen? ⟨b, o, none⟩ = false) := hFr
   have hij := hs.lt
   have hjl := hs.le
   have hcl := hs.len
   clear hs hJr hRr hFr h6r
   by_cases hlt : j < rows.length
   ·have hlt2 : (j : Int) < (rows.length : Int) := by omega
    have hj0 : (0 : Int) ≤ (j : Int) := by omega
    have hi0 : (0 : Int) ≤ (i : Int) := by omega
    have hil : (i : Int) < (rows.length : Int) := by omega
    obtain ⟨a0, a1, a2, a3, a4, a5, he⟩ := (H6.out rows[j] (List.getElem_mem hlt))
    have hrow : rows[j]? = some [.int .i64 a0, .int .i64 a1, .int .i64 a2, .int .i64 a3, .int .i64 a4, .int .u8 a5] := by rw [List.getElem?_eq_getElem hlt, he]
    have hcur : cur[j]? = some [.int .i64 a0, .int .i64 a1, .int .i64 a2, .int .i64 a3, .int .i64 a4, .int .u8 a5] := by rw [HS.out.rest j (Nat.le_refl _)]; exact hrow
    have d0 : wr.cell? ⟨b, j * 6, none⟩ = some (.int .i64 a0) := HR2.out j _ hcur 0 _ rfl
    have d1 : wr.cell? ⟨b, j * 6 + 1, none⟩ = some (.int .i64 a1) := HR2.out j _ hcur 1 _ rfl
    have d2 : wr.cell? ⟨b, j * 6 + 2, none⟩ = some (.int .i64 a2) := HR2.out j _ hcur 2 _ rfl
    have d3 : wr.cell? ⟨b, j * 6 + 3, none⟩ = some (.int .i64 a3) := HR2.out j _ hcur 3 _ rfl
    have d4 : wr.cell? ⟨b, j * 6 + 4, none⟩ = some (.int .i64 a4) := HR2.out j _ hcur 4 _ rfl
    have d5 : wr.cell? ⟨b, j * 6 + 5, none⟩ = some (.int .u8 a5) := HR2.out j _ hcur 5 _ rfl
    have HROW : Hid (rows[j]? = some [.int .i64 a0, .int .i64 a1, .int .i64 a2, .int .i64 a3, .int .i64 a4, .int .u8 a5]) := hrow
    clear hrow hcur he
    have hbox := HA.out.alloc _ _ (.cells #[.int .i64 a0, .int .i64 a1, .int .i64 a2, .int .i64 a3, .int .i64 a4, .int .u8 a5] 37) HJ2.out
    have hcall := HA.out.call (rows.take j) a0 a1 a2 a3 a4 a5 (wr.alloc (.cells #[.int .i64 a0, .int .i64 a1, .int .i64 a2, .int .i64 a3, .int .i64 a4, .int .u8 a5] 37)) (Nat.le_trans (List.length_take_le _ _) (by omega)) hbox
    have htk : rows.take j ++ [[.int .i64 a0, .int .i64 a1, .int .i64 a2, .int .i64 a3, .int .i64 a4, .int .u8 a5]] = rows.take (j + 1) := by
     rw [List.take_add_one, HROW.out]; rfl
    rw [htk] at hcall
    have HB : Hid (J (rows.take j) (wr.alloc (.cells #[.int .i64 a0, .int .i64 a1, .int .i64 a2, .int .i64 a3, .int .i64 a4, .int .u8 a5] 37))) := hbox
    have HFN := HA.out.free_new _ _ (.cells #[.int .i64 a0, .int .i64 a1, .int .i64 a2, .int .i64 a3, .int .i64 a4, .int .u8 a5] 37) HJ2.out
    have HFN2 : Hid (Free wr.heap.size (wr.alloc (.cells #[.int .i64 a0, .int .i64 a1, .int .i64 a2, .int .i64 a3, .int .i64 a4, .int .u8 a5] 37))) := HFN
    clear hbox htk HFN
    have hib : i < cur.length := by omega
    have hbl : b < wr.heap.size := (by
     have h := HR2.out i _ (List.getElem?_eq_getElem hib) 0 _ (List.getElem?_eq_getElem (by rw [(H62.out _ (List.getElem_mem hib)).len]; omega))
     exact block_lt_of_cell h)
    have HBL : Hid (b < wr.heap.size) := hbl
    clear hbl
    obtain ⟨o0, o1, o2, o3, o4, o5, ho⟩ := H62.out _ (List.getElem_mem hib)
    have HO : Hid (cur[i]? = some [.int .i64 o0, .int .i64 o1, .int .i64 o2, .int .i64 o3, .int .i64 o4, .int .u8 o5]) := (by rw [← ho]; exact List.getElem?_eq_getElem hib)
    clear ho
    cases hq : p [.int .i64 a0, .int .i64 a1, .int .i64 a2, .int .i64 a3, .int .i64 a4, .int .u8 a5] with
    | false =>
     rw [hq] at hcall
     go_wp2_with (go_at_fn g; refine hcall.mono ?_; rintro e w2 ⟨rfl, hJn, hfn⟩; have hx := hfn _ HFN2.out; have x0 : w2.cell? ⟨wr.heap.size, 0, none⟩ = some (.int .i64 a0) := JcX hx 0; have x1 : w2.cell? ⟨wr.heap.size, 1, none⟩ = some (.int .i64 a1) := JcX hx 1; have x2 : w2.cell? ⟨wr.heap.size, 2, none⟩ = some (.int .i64 a2) := JcX hx 2; have x3 : w2.cell? ⟨wr.heap.size, 3, none⟩ = some (.int .i64 a3) := JcX hx 3; have x4 : w2.cell? ⟨wr.heap.size, 4, none⟩ = some (.int .i64 a4) := JcX hx 4; have x5 : w2.cell? ⟨wr.heap.size, 5, none⟩ = some (.int .u8 a5) := JcX hx 5; have hb2 : w2.heap[b]? = wr.heap[b]? := (hfn b (HA.out.free_b _ _ HB.out)).trans (Below.heap_alloc wr _ b HBL.out); have hR3 := HR2.out.same hb2; have y0 : w2.cell? ⟨b, i * 6, none⟩ = some (.int .i64 o0) := hR3 i _ HO.out 0 _ rfl; have z0 : w2.frozen? ⟨b, i * 6, none⟩ = false := (by rw [World.frozen?_of_block hb2]; exact HF2.out _); have y1 : w2.cell? ⟨b, i * 6 + 1, none⟩ = some (.int .i64 o1) := hR3 i _ HO.out 1 _ rfl; have z1 : w2.frozen? ⟨b, i * 6 + 1, none⟩ = false := (by rw [World.frozen?_of_block hb2]; exact HF2.out _); have y2 : w2.cell? ⟨b, i * 6 + 2, none⟩ = some (.int .i64 o2) := hR3 i _ HO.out 2 _ rfl; have z2 : w2.frozen? ⟨b, i * 6 + 2, none⟩ = false := (by rw [World.frozen?_of_block hb2]; exact HF2.out _); have y3 : w2.cell? ⟨b, i * 6 + 3, none⟩ = some (.int .i64 o3) := hR3 i _ HO.out 3 _ rfl; have z3 : w2.frozen? ⟨b, i * 6 + 3, none⟩ = false := (by rw [World.frozen?_of_block hb2]; exact HF2.out _); have y4 : w2.cell? ⟨b, i * 6 + 4, none⟩ = some (.int .i64 o4) := hR3 i _ HO.out 4 _ rfl; have z4 : w2.frozen? ⟨b, i * 6 + 4, none⟩ = false := (by rw [World.frozen?_of_block hb2]; exact HF2.out _); have y5 : w2.cell? ⟨b, i * 6 + 5, none⟩ = some (.int .u8 o5) := hR3 i _ HO.out 5 _ rfl; have z5 : w2.frozen? ⟨b, i * 6 + 5, none⟩ = false := (by rw [World.frozen?_of_block hb2]; exact HF2.out _); have HR3 : Hid (J2F w2 b cur) := hR3; have HB2 : Hid (w2.heap[b]? = wr.heap[b]?) := hb2; clear hR3 hb2 hx hfn)
     refine ⟨⟨_, _, _, _, _, _, _, _, _, _, _, _, _, _, _, _, _, _, _, _, _, _, _, ⟨i + 1, j + 1, cur.set i [.int .i64 a0, .int .i64 a1, .int .i64 a2, .int .i64 a3, .int .i64 a4, .int .u8 a5], rfl, rfl, HS.out.keep HROW.out hq, HA.out.puts [.int .i64 a0, .int .i64 a1, .int .i64 a2, .int .i64 a3, .int .i64 a4, .int .u8 a5] (i * 6) w2 hJn, HR3.out.put H62.out hib ⟨_, _, _, _, _, _, rfl⟩, ?_, ?_⟩, rfl⟩, ?_⟩
     ·intro r hr
      rcases List.mem_or_eq_of_mem_set hr with hr | rfl
      ·exact H62.out r hr
      ·exact ⟨_, _, _, _, _, _, rfl⟩
     ·intro o
      simp only [World.frozen?_setCell]
      rw [World.frozen?_of_block HB2.out]
      exact HF2.out o
     ·show rows.length - ((j : Int) + 1).toNat < rows.length - ((j : Int)).toNat
      omega
    | true =>
     rw [hq] at hcall
     go_wp2_with (go_at_fn g; refine hcall.mono ?_; rintro e w2 ⟨rfl, hJn, hfn⟩)
     have hb2 : w2.heap[b]? = wr.heap[b]? := (hfn b (HA.out.free_b _ _ HB.out)).trans (Below.heap_alloc wr _ b HBL.out)
     refine ⟨⟨_, _, _, _, _, _, _, _, _, _, _, _, _, _, _, _, _, _, _, _, _, _, _, ⟨i, j + 1, cur, rfl, rfl, HS.out.skip HROW.out hq, hJn, HR2.out.same hb2, H62.out, fun o => ?_⟩, rfl⟩, ?_⟩
     ·rw [World.frozen?_of_block hb2]; exact HF2.out o
     ·show rows.length - ((j : Int) + 1).toNat < rows.length - ((j : Int)).toNat
      omega
   ·have hj : j = rows.length := by omega
    subst hj
    have hnl : ¬ ((rows.length : Int) < (rows.length : Int)) := by omega
    have hil : i < rows.length := hij
    have hi0 : (0 : Int) ≤ (i : Int) := by omega
    have hi1 : (i : Int) ≤ (rows.length : Int) := by omega
    have hi2 : (i : Int) ≤ (cap : Int) := by omega
    have hne : ¬ (cap = i) := by omega
    have hsome : ∀ q, q < (rows.length - i) * 6 → (wr.cell? ⟨b, i * 6 + q, none⟩).isSome = true := fun q hq => by
     have hd : i + q / 6 < cur.length := by omega
     have hrl := (H62.out _ (List.getElem_mem hd)).len
     have := HR2.out (i + q / 6) _ (List.getElem?_eq_getElem hd) (q % 6) _ (List.getElem?_eq_getElem (by omega))
     rw [show (i + q / 6) * 6 + q % 6 = i * 6 + q by omega] at this
     rw [this]
     rfl
    have hcl2 : ∀ ty, (Builtin.clear_ #[28] ty #[.slice (some ⟨b, i * 6, none⟩) (rows.length - i) (cap - i)]).run Try.prog wr = .ok (.tuple #[]) (wr.setCells b (i * 6) (Builtin.zeroCells (Value.agg #[.int .i64 0, .int .i64 0, .int .i64 0, .int .i64 0, .int .i64 0, .int .u8 0]).cells (rows.length - i)).toList) := fun ty =>
     Am.Jky wr 28 37 ty (.agg #[.int .i64 0, .int .i64 0, .int .i64 0, .int .i64 0, .int .i64 0, .int .u8 0]) Try.underlying28 Try.zeroValue37 b (i * 6) (rows.length - i) (cap - i) (by omega)
      (fun q hq => hsome q hq) (fun q hq => HF2.out _) (fun v hv => JqK v hv)
    go_wp2_with (simp only [hcl2])
    go_ret
    have hfil : rows.filter (fun r => !p r) = cur.take i := by
     have := HS.out.kept
     rw [List.take_length] at this
     exact this.symm
    have hl : (cur.take i).length = i := by rw [List.length_take]; omega
    refine ⟨by rw [hfil, hl]; rfl, HA.out.puts _ _ _ ?_, ?_⟩
    ·have := HJ2.out
     rwa [List.take_length] at this
    ·rw [hfil]
     intro q r hq jj v hv
     rw [List.getElem?_take] at hq
     split at hq
     ·rename_i hqi
      have h6' : r.length = 6 := (H62.out r (List.mem_of_getElem? hq)).len
      have hjj : jj < 6 := by
       rcases Nat.lt_or_ge jj 6 with h | h
       ·exact h
       ·rw [List.getElem?_eq_none (by omega)] at hv; cases hv
      rw [World.cell?_setCells_out b _ (i * 6) wr _ (fun _ _ => .inl (by show q * 6 + jj < i * 6; omega))]
      exact HR2.out q r hq jj v hv
     ·cases hq
end Go.Proofs
end
section
namespace Go.Proofs
open Go.Shelf Go.RowKit Go.Lib
def Try.cloIR : Ren where
 f := fun
  | 15 => 63
  | n => n
 t := fun
  | 22 => 27
  | n => n
 g := fun n => n
theorem Try.cloI : Lays2.n15 Try.prog Try.cloIR where
 mixed := by kernel_rfl
 f15 := by kernel_rfl
 t3 := Try.underlying3
 a3 := Try.isAgg3
 z3 := Try.sizeOf3
 v3 := Try.zeroValue3
 t4 := Try.underlying4
 a4 := Try.isAgg4
 z4 := Try.sizeOf4
 v4 := Try.zeroValue4
 t22 := Try.underlying27
 a22 := Try.isAgg27
 z22 := Try.sizeOf27
 v22 := Try.zeroValue27
 i3 := by kernel_rfl
def Try.cloSR : Ren where
 f := fun
  | 16 => 61
  | n => n
 t := fun
  | 24 => 26
  | n => n
 g := fun n => n
theorem Try.cloS : Lays2.n16 Try.prog Try.cloSR where
 mixed := by kernel_rfl
 f16 := by kernel_rfl
 t4 := Try.underlying4
 a4 := Try.isAgg4
 z4 := Try.sizeOf4
 v4 := Try.zeroValue4
 t9 := Try.underlying9
 a9 := Try.isAgg9
 z9 := Try.sizeOf9
 v9 := Try.zeroValue9
 t24 := Try.underlying26
 a24 := Try.isAgg26
 z24 := Try.sizeOf26
 v24 := Try.zeroValue26
 i9 := by kernel_rfl
def Try.delIR : Ren where
 f := fun
  | 6 => 76
  | 10 => 62
  | n => n
 t := fun
  | 22 => 27
  | 23 => 3
  | 25 => 93
  | n => n
 g := fun n => n
theorem Try.delI : SlLaysH.n10 Try.prog Try.delIR where
 mixed := by kernel_rfl
 f6 := ⟨"slices.IndexFunc[[]int,int]", by decide, by kernel_rfl⟩
 f10 := ⟨"slices.DeleteFunc[[]int,int]", by decide, by kernel_rfl⟩
 t0 := Try.underlying0
 a0 := Try.isAgg0
 z0 := Try.sizeOf0
 v0 := Try.zeroValue0
 t3 := Try.underlying3
 a3 := Try.isAgg3
 z3 := Try.sizeOf3
 v3 := Try.zeroValue3
 t4 := Try.underlying4
 a4 := Try.isAgg4
 z4 := Try.sizeOf4
 v4 := Try.zeroValue4
 t22 := Try.underlying27
 a22 := Try.isAgg27
 z22 := Try.sizeOf27
 v22 := Try.zeroValue27
 a23 := Try.isAgg3
 z23 := Try.sizeOf3
 t25 := Try.underlying93
 a25 := Try.isAgg93
 z25 := Try.sizeOf93
 v25 := Try.zeroValue93
end Go.Proofs
end
section
namespace Go.Proofs
open Go.Shelf Go.RowKit Go.Lib
set_option linter.unusedSimpArgs false
set_option linter.unusedVariables false
def Has (W : World) (b : Nat) (l : List Value) : Prop := ∃ c t, W.heap[b]? = some (.cells c t (0, 0)) ∧ ∀ (j : Nat) v, l[j]? = some v → c[j]? = some v
theorem Has.cell {W : World} {b : Nat} {l : List Value} (h : Has W b l) {j : Nat} {v : Value} (hv : l[j]? = some v) : W.cell? ⟨b, j, none⟩ = some v := by
 obtain ⟨c, t, hb, hc⟩ := h
 rw [cell_of_heap hb]
 exact hc j v hv
theorem Has.frozen {W : World} {b : Nat} {l : List Value} (h : Has W b l) (j : Nat) : W.frozen? ⟨b, j, none⟩ = false := by
 obtain ⟨c, t, hb, hc⟩ := h
 unfold World.frozen?
 rw [hb]
 simp
theorem Has.lt {W : World} {b : Nat} {l : List Value} (h : Has W b l) : b < W.heap.size := by
 obtain ⟨c, t, hb, hc⟩ := h
 exact (Array.getElem?_eq_some_iff.1 hb).1
theorem Has.of_block {W W' : World} {b : Nat} {l : List Value} (h : Has W b l) (e : W'.heap[b]? = W.heap[b]?) : Has W' b l := by
 obtain ⟨c, t, hb, hc⟩ := h
 exact ⟨c, t, e.trans hb, hc⟩
theorem Has.below {W W' : World} {b : Nat} {l : List Value} (h : Has W b l) (e : Below W.heap.size W W') : Has W' b l := h.of_block (e.block b h.lt)
theorem JaH (w : World) (l : List Value) (t : TypeId) : Has (w.alloc (.cells l.toArray t)) w.heap.size l :=
 ⟨l.toArray, t, Array.getElem?_push_size, fun j v h => by simpa using h⟩
theorem J4b (w : World) (c : Array Value) (t : TypeId) : Has (w.alloc (.cells c t)) w.heap.size c.toList :=
 ⟨c, t, Array.getElem?_push_size, fun j v h => by simpa using h⟩
theorem Has.alloc {W : World} {b : Nat} {l : List Value} (h : Has W b l) (o : Obj) : Has (W.alloc o) b l :=
 h.of_block (Below.heap_alloc W o b h.lt)
theorem Has.other {W : World} {b : Nat} {l : List Value} (h : Has W b l) {a : Addr} (ha : b ≠ a.block) (v : Value) : Has (W.setCell a v) b l :=
 h.of_block (Below.heap_setCell W a v b ha)
theorem Has.set {W : World} {b i : Nat} {l : List Value} (h : Has W b l) (v : Value) : Has (W.setCell ⟨b, i, none⟩ v) b (l.set i v) := by
 obtain ⟨c, t, hb, hc⟩ := h
 have hlt := (Array.getElem?_eq_some_iff.1 hb).1
 refine ⟨c.setIfInBounds i v, t, ?_, fun j u hu => ?_⟩
 ·rw [Go.Sort.setCell_eq]
  unfold Go.Sort.mapBlock
  show (W.heap.modify b _)[b]? = _
  rw [Array.getElem?_modify, if_pos rfl, hb]
  rfl
 ·rw [List.getElem?_set] at hu
  rw [Array.getElem?_setIfInBounds]
  by_cases e : i = j
  ·subst e
   rw [if_pos rfl] at hu
   split at hu
   ·injection hu with hu; subst hu
    rename_i hl
    have := hc i _ (List.getElem?_eq_getElem hl)
    have hs := (Array.getElem?_eq_some_iff.1 this).1
    simp [hs]
   ·cases hu
  ·rw [if_neg e] at hu ⊢
   exact hc j u hu
theorem Has.size {W : World} {b : Nat} {l : List Value} (h : Has W b l) {a : Addr} (v : Value) : (W.setCell a v).heap.size = W.heap.size := by
 unfold World.setCell; simp
def J51 (W : World) (v : Value) (l : List Value) : Prop :=
 ∃ a c, v = .slice a l.length c ∧ l.length ≤ c ∧ (l = [] ∨ ∃ b o, a = some ⟨b, o, none⟩ ∧ b < W.heap.size ∧ ∀ (j : Nat) u, l[j]? = some u → W.cell? ⟨b, o + j, none⟩ = some u)
theorem J51.below {W W' : World} {v : Value} {l : List Value} (h : J51 W v l) (e : Below W.heap.size W W') : J51 W' v l := by
 obtain ⟨a, c, h1, h2, h3⟩ := h
 refine ⟨a, c, h1, h2, h3.imp id fun ⟨b, o, e1, e2, e3⟩ => ⟨b, o, e1, Nat.lt_of_lt_of_le e2 e.size, fun j u hj => by rw [e.cell e2]; exact e3 j u hj⟩⟩
def J2c (W : World) (g n : Nat) : Prop := ∃ c t, W.heap[g]? = some (.cells c t (0, 0)) ∧ n ≤ c.size
theorem J2c.of_block {W W' : World} {g n : Nat} (h : J2c W g n) (e : W'.heap[g]? = W.heap[g]?) : J2c W' g n := by
 obtain ⟨c, t, hb, hc⟩ := h
 exact ⟨c, t, e.trans hb, hc⟩
theorem J2c.some {W : World} {g n : Nat} (h : J2c W g n) {j : Nat} (hj : j < n) : (W.cell? ⟨g, j, none⟩).isSome = true := by
 obtain ⟨c, t, hb, hc⟩ := h
 rw [cell_of_heap hb]
 show (c[j]?).isSome = true
 rw [Array.getElem?_eq_getElem (by omega)]
 rfl
theorem J2c.frozen {W : World} {g n : Nat} (h : J2c W g n) (j : Nat) : W.frozen? ⟨g, j, none⟩ = false := by
 obtain ⟨c, t, hb, hc⟩ := h
 unfold World.frozen?
 rw [hb]
 simp
theorem J2c.set {W : World} {b n : Nat} (h : J2c W b n) (a : Addr) (v : Value) : J2c (W.setCell a v) b n := by
 by_cases e : b = a.block
 ·obtain ⟨c, t, hb, hc⟩ := h
  refine ⟨if a.spot.isSome = true then c else c.setIfInBounds a.off v, t, ?_, by split <;> simpa using hc⟩
  unfold World.setCell
  rw [← e]
  show (W.heap.modify b _)[b]? = _
  rw [Array.getElem?_modify, if_pos rfl, hb]
  rfl
 ·exact h.of_block (Below.heap_setCell W a v b e)
def Own (B : Nat) (W : World) (v : Value) (l : List Value) : Prop :=
 (l = [] ∧ v = .slice none 0 0) ∨ ∃ g c, v = .slice (some ⟨g, 0, none⟩) l.length c ∧ l.length ≤ c ∧ B ≤ g ∧ Has W g l ∧ J2c W g c ∧ c ≤ 9223372036854775807
theorem Own.of_row {B : Nat} {W : World} {e : TypeId} {v : Value} {n : Nat} {xs : List Value} (h : W.ownsRow B e 1 v n xs) : Own B W v xs := by
 obtain ⟨hl, h⟩ := h
 rcases h with ⟨rfl, rfl⟩ | ⟨g, cap, cur, rfl, hg, hb, hn, hm, hs, ht⟩
 ·exact .inl ⟨by simpa using hl, rfl⟩
 ·rw [Nat.mul_one] at hl hs
  refine .inr ⟨g, cap, by rw [hl], by omega, hg, ⟨cur, e, hb, fun j u hj => ?_⟩, ⟨cur, e, hb, by omega⟩, hm⟩
  rw [← ht, List.getElem?_take] at hj
  split at hj
  ·simpa using hj
  ·cases hj
theorem Own.other {B : Nat} {W : World} {v : Value} {l : List Value} (h : Own B W v l) {a : Addr} (ha : a.block < B) (u : Value) : Own B (W.setCell a u) v l := by
 rcases h with h | ⟨g, c, hv, hc, hg, hH, hr, hm⟩
 ·exact .inl h
 ·exact .inr ⟨g, c, hv, hc, hg, hH.other (by omega) u, hr.set a u, hm⟩
theorem Own.mono {B B' : Nat} {W : World} {v : Value} {l : List Value} (h : Own B W v l) (hB : B' ≤ B) : Own B' W v l := by
 rcases h with h | ⟨g, c, hv, hc, hg, hH⟩
 ·exact .inl h
 ·exact .inr ⟨g, c, hv, hc, by omega, hH⟩
theorem Own.size {B : Nat} {W : World} {v : Value} {l : List Value} (h : Own B W v l) : ∃ a c, v = .slice a l.length c := by
 rcases h with ⟨rfl, rfl⟩ | ⟨g, c, rfl, _⟩
 ·exact ⟨none, 0, rfl⟩
 ·exact ⟨_, c, rfl⟩
theorem Own.below {B : Nat} {W W' : World} {v : Value} {l : List Value} (h : Own B W v l) (hb : Below W.heap.size W W') : Own B W' v l := by
 rcases h with h | ⟨g, c, hv, hc, hg, hH, hr, hm⟩
 ·exact .inl h
 ·exact .inr ⟨g, c, hv, hc, hg, hH.below hb, hr.of_block (hb.block _ hH.lt), hm⟩
theorem Try.clone_ints (v : Value) (us : List Int) (w : World) (h : J51 w v (us.map (Value.int .i64))) (hb : us.length ≤ 1000000) :
  Calls Try.prog 63 #[v] w fun e w' => ∃ v', e = .returned v' ∧ Own w.heap.size w' v' (us.map (Value.int .i64)) ∧ Below w.heap.size w w' := by
 obtain ⟨a, c, rfl, hc, hl⟩ := h
 rw [List.length_map] at hc ⊢
 rcases hl with hl | ⟨b, o, rfl, hb2, hl⟩
 ·have h0 : us = [] := by simpa using hl
  subst h0
  cases a with
  | none => exact (Any.slices_Clone_int_nil Try.cloI 0 c w).mono fun e w' ⟨h1, h2⟩ => ⟨_, h1, .inl ⟨rfl, rfl⟩, h2 ▸ Below.refl _ _⟩
  | some a => exact (Any.slices_Clone_int_zero Try.cloI a c w).mono fun e w' ⟨v', h1, h2, _, h4⟩ => ⟨v', h1, Own.of_row h2, h4⟩
 ·refine (Any.slices_Clone_int Try.cloI b o us.length c us w (Nat.le_refl _) (by omega) (fun j hj => ?_)).mono fun e w' ⟨v', h1, h2, _, h4⟩ => ⟨v', h1, ?_, h4⟩
  ·have := hl j (.int .i64 us[j]) (by simp [hj])
   rw [this, List.getD_eq_getElem?_getD, List.getElem?_eq_getElem hj]; rfl
  ·have := Own.of_row h2
   rwa [List.take_length] at this
theorem Try.clone_strs (v : Value) (zs : List ByteArray) (w : World) (h : J51 w v (zs.map Value.string)) (hb : zs.length ≤ 1000000) :
  Calls Try.prog 61 #[v] w fun e w' => ∃ v', e = .returned v' ∧ Own w.heap.size w' v' (zs.map Value.string) ∧ Below w.heap.size w w' := by
 obtain ⟨a, c, rfl, hc, hl⟩ := h
 rw [List.length_map] at hc ⊢
 rcases hl with hl | ⟨b, o, rfl, hb2, hl⟩
 ·have h0 : zs = [] := by simpa using hl
  subst h0
  cases a with
  | none => exact (Any.slices_Clone_string_nil Try.cloS 0 c w).mono fun e w' ⟨h1, h2⟩ => ⟨_, h1, .inl ⟨rfl, rfl⟩, h2 ▸ Below.refl _ _⟩
  | some a => exact (Any.slices_Clone_string_zero Try.cloS a c w).mono fun e w' ⟨v', h1, h2, _, h4⟩ => ⟨v', h1, Own.of_row h2, h4⟩
 ·refine (Any.slices_Clone_string Try.cloS b o zs.length c zs w (Nat.le_refl _) (by omega) (fun j hj => ?_)).mono fun e w' ⟨v', h1, h2, _, h4⟩ => ⟨v', h1, ?_, h4⟩
  ·have := hl j (.string zs[j]) (by simp [hj])
   rw [this, List.getD_eq_getElem?_getD, List.getElem?_eq_getElem hj]; rfl
  ·have := Own.of_row h2
   rwa [List.take_length] at this
end Go.Proofs
end
section
namespace Go.Proofs
open Go.Shelf Go.RowKit Go.Lib
set_option linter.unusedSimpArgs false
set_option linter.unusedVariables false
set_option maxRecDepth 100000 in
theorem Try.eq64 (x p : Int) (bp : Nat) (W : World) (h : W.cell? ⟨bp, 0, none⟩ = some (.int .i64 p)) :
  Calls Try.prog 64 #[.int .i64 x, .pointer (some ⟨bp, 0, none⟩)] W fun e w' => e = .returned (.bool (x == p)) ∧ ∃ q, w' = W.drewN q := by
 have mixed : Try.prog.follows .mixedOrders = true := by kernel_rfl
 go_enter Try.func64, Try.ntmps64
 go_wp2
 go_ret
 refine ⟨?_, 0, rfl⟩
 simp [BEq.beq]
theorem JbH (enc : Int → Value) (w : World) (blk off : Nat) (d : Array Int) (k : Nat) (h : k ≠ blk) : (Go.Sort.putRow enc w blk off d).heap[k]? = w.heap[k]? := by
 show (w.heap.modify blk _)[k]? = _
 rw [Array.getElem?_modify, if_neg (fun e => h e.symm)]
theorem Try.enters64 (args : Array Value) (w : World) : (callFunc 64 args).run Try.prog w = .ok (.enter 64 args) w := by
 first
  | exact enters_of Try.func64 (by decide) rfl args w
  | exact Enters.callFunc (enters_of Try.func64 (by decide) rfl) args w
theorem Try.del_empty (a : Option Addr) (c : Nat) (fv : Value) (w : World) : Calls Try.prog 62 #[.slice a 0 c, fv] w fun e w' => e = .returned (.slice a 0 c) ∧ w' = w := by
 have mixed : Try.prog.follows .mixedOrders = true := by kernel_rfl
 have hI := AnyE.slices_IndexFunc_empty (P := Try.prog) { Try.delI with } a c fv w
 go_enter Try.func62, Try.ntmps62
 go_wp2_with (go_at_call 76; refine hI.mono ?_)
 rintro e W1 ⟨rfl, rfl⟩
 go_wp2
 go_ret
 exact ⟨rfl, rfl⟩
theorem Jfr (enc : Int → Value) (w : World) (blk off n : Nat) (d : Array Int) (os : Array Obj) (k : Nat) (h : k ≠ blk) (hk : k < w.heap.size) : (sortWorld enc w blk off n d os).heap[k]? = w.heap[k]? := by
 have hsz : (Go.Sort.putRow enc (Go.Sort.ahead w n) blk off d).heap.size = w.heap.size := by
  show (w.heap.modify blk _).size = _
  simp
 show ((Go.Sort.putRow enc (Go.Sort.ahead w n) blk off d).heap ++ os)[k]? = _
 rw [Array.getElem?_append_left (by omega), JbH enc _ _ _ _ _ h]
 rfl
theorem Jmk (enc : Int → Value) (w : World) (g n : Nat) (l : List Value) (d : List Int) (h : Has w g l) (hn : d.length ≤ l.length) : Has (Go.Sort.putRow enc (Go.Sort.ahead w n) g 0 d.toArray) g (d.map enc) := by
 obtain ⟨c, t, hb, hc⟩ := h
 refine ⟨Go.Sort.putCells enc 0 d.toArray c, t, ?_, fun j v hj => ?_⟩
 ·show (w.heap.modify g _)[g]? = _
  rw [Array.getElem?_modify, if_pos rfl, hb]
  rfl
 ·rw [List.getElem?_map] at hj
  obtain ⟨x, hx, rfl⟩ := Option.map_eq_some_iff.1 hj
  have hj' := (List.getElem?_eq_some_iff.1 hx).1
  have hcs : j < c.size := (Array.getElem?_eq_some_iff.1 (hc j _ (List.getElem?_eq_getElem (by omega)))).1
  unfold Go.Sort.putCells
  rw [Array.getElem?_mapIdx, Array.getElem?_eq_getElem hcs]
  simp only [Option.map_some, Nat.zero_le, Nat.zero_add, true_and, List.size_toArray, hj', if_true, Nat.sub_zero]
  rw [getElem!_pos d.toArray j (by simpa using hj')]
  simp only [List.getElem_toArray]
  rw [List.getElem?_eq_getElem hj'] at hx
  injection hx with hx
  rw [hx]
theorem Jkz (enc : Int → Value) (w : World) (g q : Nat) (d : Array Int) (n : Nat) (h : J2c w g n) : J2c (Go.Sort.putRow enc (Go.Sort.ahead w q) g 0 d) g n := by
 obtain ⟨c, t, hb, hc⟩ := h
 refine ⟨Go.Sort.putCells enc 0 d c, t, ?_, by unfold Go.Sort.putCells; simpa using hc⟩
 show (w.heap.modify g _)[g]? = _
 rw [Array.getElem?_modify, if_pos rfl, hb]
 rfl
theorem JiE (enc : Int → Value) (B : Nat) (w : World) (g n : Nat) (d : Array Int) (h : B ≤ g) : Below B w (Go.Sort.putRow enc (Go.Sort.ahead w n) g 0 d) :=
 ⟨rfl, rfl, rfl, by show _ ≤ (w.heap.modify g _).size; simp, fun k hk => JbH enc (Go.Sort.ahead w n) g 0 d k (by omega)⟩
set_option maxRecDepth 100000 in
theorem Try.del_ints (B bp : Nat) (P : Int) (v : Value) (us : List Int) (w : World) (h : Own B w v (us.map (Value.int .i64))) (hbp : Has w bp [.int .i64 P]) (hne : bp < B) (hb : us.length ≤ 1000000) :
  Calls Try.prog 62 #[v, .func (.func 64) #[] #[.pointer (some ⟨bp, 0, none⟩)]] w fun e w' => ∃ v', e = .returned v' ∧ Own B w' v' ((us.filter fun x => !(x == P)).map (Value.int .i64)) ∧ Below B w w' := by
 rcases h with ⟨h0, rfl⟩ | ⟨g, c, rfl, hc, hg, hH, hr, hm⟩
 ·have h0 : us = [] := by simpa using h0
  subst h0
  exact (Try.del_empty none 0 _ w).mono fun e w' ⟨h1, h2⟩ => ⟨_, h1, .inl ⟨rfl, rfl⟩, h2 ▸ Below.refl _ _⟩
 ·rw [List.length_map] at hc ⊢
  have cellP : ∀ W : World, W.heap[bp]? = w.heap[bp]? → W.cell? ⟨bp, 0, none⟩ = some (.int .i64 P) := fun W e => (hbp.of_block e).cell rfl
  have hHolds : Go.Sort.Holds (Value.int .i64) w g 0 us.toArray := fun j hj => by
   have hj' : j < us.length := by simpa using hj
   rw [Nat.zero_add]
   refine ⟨?_, hH.frozen j⟩
   have := hH.cell (j := j) (v := .int .i64 us[j]) (by simp [hj'])
   rw [this, getElem!_pos us.toArray j (by simpa using hj')]
   simp
  have hgl := hH.lt
  have hfl : (us.filter fun x => !(x == P)).length ≤ us.length := List.length_filter_le _ _
  refine (AnyE.slices_DeleteFunc Try.delI (Value.int .i64) (fun x => rfl) (fun x => x == P) 64 #[.pointer (some ⟨bp, 0, none⟩)] Try.enters64 0 Try.zeroValue3 g 0 c us.toArray w ?_ ?_ hHolds (by simp; omega) (by simpa using hc)).mono ?_
  ·intro W x hW
   exact Try.eq64 x P bp W (cellP W (hW.block bp hbp.lt))
  ·intro n os dk x hdk
   exact Try.eq64 x P bp _ (cellP _ (Jfr _ _ _ _ _ _ _ _ (by omega) hbp.lt))
  ·rintro e w' ⟨rfl, q, rfl⟩
   refine ⟨_, rfl, .inr ⟨g, c, ?_, by rw [List.length_map]; omega, hg, ?_, Jkz _ _ _ _ _ _ hr, hm⟩, JiE _ _ _ _ _ _ hg⟩
   ·rw [List.length_map]
   ·have := Jmk (Value.int .i64) w g q _ ((us.filter fun x => !(x == P)) ++ List.replicate (us.toArray.size - (us.filter fun x => !(x == P)).length) 0) hH (by simp; omega)
    obtain ⟨c', t, hb', hc'⟩ := this
    refine ⟨c', t, hb', fun j v hj => hc' j v ?_⟩
    rw [List.map_append, List.getElem?_append_left (List.getElem?_eq_some_iff.1 hj).1]
    exact hj
end Go.Proofs
end
section
namespace Go.Proofs
open Go.Shelf Go.RowKit Go.Lib
set_option linter.unusedSimpArgs false
set_option linter.unusedVariables false
theorem Je (w : World) (o : Obj) : (w.alloc o).heap.size = w.heap.size + 1 := by
 show (w.heap.push o).size = _
 simp
theorem Jal (w : World) (A B C : Obj) : Below w.heap.size w (((w.alloc A).alloc B).alloc C) :=
 (((Below.refl _ w).alloc (Nat.le_refl _) A).alloc (by rw [Je]; omega) B).alloc (by rw [Je, Je]; omega) C
set_option maxHeartbeats 4000000 in
set_option maxRecDepth 100000 in
theorem Try.set45 (p : Nat) (vp vu vf : Value) (zs : List ByteArray) (us : List Int) (wr : Int) (dead : Bool) (s : ByteArray) (w : World)
  (hp : p < zs.length) (hz : zs.length ≤ 1000000) (hu : us.length ≤ 1000000) (hP : J51 w vp (zs.map Value.string)) (hU : J51 w vu (us.map (Value.int .i64))) (hF : ∃ a n c, vf = .slice a n c) :
  Calls Try.prog 45 #[.agg #[vp, .int .i64 wr, vu, .bool dead, vf], .int .i64 p, .string s] w fun e w' =>
   ∃ vp' vu', e = .returned (.agg #[vp', .int .i64 wr, vu', .bool dead, vf]) ∧ Own w.heap.size w' vp' ((zs.set p s).map Value.string) ∧ Own w.heap.size w' vu' ((us.filter fun x => !(x == (p : Int))).map (Value.int .i64)) ∧ Below w.heap.size w w' := by
 have mixed : Try.prog.follows .mixedOrders = true := by kernel_rfl
 obtain ⟨fa, fn, fc, rfl⟩ := hF
 obtain ⟨pa, pc, rfl, -⟩ := id hP
 obtain ⟨ua, uc, rfl, -⟩ := id hU
 simp only [List.length_map] at hP hU
 go_enter Try.func45, Try.ntmps45
 go_wp2_with (go_at_call 61; refine (Try.clone_strs _ zs _ (hP.below (Jal _ _ _ _)) hz).mono ?_)
 rintro e W1 ⟨v1, rfl, ho1, hb1⟩
 have z3 : (((w.alloc (.cells #[.slice pa zs.length pc, .int .i64 wr, .slice ua us.length uc, .bool dead, .slice fa fn fc] 30)).alloc (.cells #[.int .i64 p] 3)).alloc (.cells #[.slice none 0 0, .int .i64 0, .slice none 0 0, .bool false, .slice none 0 0] 30)).heap.size = w.heap.size + 3 := by
  rw [Je, Je, Je]
 have hW : Below w.heap.size w W1 := (Jal _ _ _ _).trans (hb1.mono (by rw [z3]; omega))
 have H0 : Has W1 w.heap.size [.slice pa zs.length pc, .int .i64 wr, .slice ua us.length uc, .bool dead, .slice fa fn fc] := (((J4b w _ 30).alloc _).alloc _).below hb1
 have H1 : Has W1 (w.heap.size + 1) [.int .i64 p] := by
  have := ((J4b (w.alloc (.cells #[.slice pa zs.length pc, .int .i64 wr, .slice ua us.length uc, .bool dead, .slice fa fn fc] 30)) #[.int .i64 (p : Int)] 3).alloc _).below hb1
  rwa [Je] at this
 have H2 : Has W1 (w.heap.size + 2) [.slice none 0 0, .int .i64 0, .slice none 0 0, .bool false, .slice none 0 0] := by
  have := (J4b ((w.alloc (.cells #[.slice pa zs.length pc, .int .i64 wr, .slice ua us.length uc, .bool dead, .slice fa fn fc] 30)).alloc (.cells #[.int .i64 (p : Int)] 3)) #[.slice none 0 0, .int .i64 0, .slice none 0 0, .bool false, .slice none 0 0] 30).below hb1
  rwa [Je, Je] at this
 rw [z3] at ho1
 have hU1 := hU
 clear z3 hb1 hP
 obtain ⟨h0, -⟩ | ⟨g, c1, rfl, hc1, hg1, hG, hR, hm1⟩ := ho1
 ·have : zs = [] := by simpa using h0
  rw [this] at hp; exact absurd hp (by simp)
 simp only [List.length_map] at hc1 ⊢
 have c0 : W1.cell? ⟨w.heap.size, 0, none⟩ = some (.slice pa zs.length pc) := H0.cell rfl
 have f0 := H0.frozen 0
 have K0 := H0.set (i := 0) (.slice (some ⟨g, 0, none⟩) zs.length c1)
 have K1 := H1.other (a := ⟨w.heap.size, 0, none⟩) (by show w.heap.size + 1 ≠ w.heap.size; omega) (.slice (some ⟨g, 0, none⟩) zs.length c1)
 have K2 := H2.other (a := ⟨w.heap.size, 0, none⟩) (by show w.heap.size + 2 ≠ w.heap.size; omega) (.slice (some ⟨g, 0, none⟩) zs.length c1)
 have KG := hG.other (a := ⟨w.heap.size, 0, none⟩) (by show g ≠ w.heap.size; omega) (.slice (some ⟨g, 0, none⟩) zs.length c1)
 have k1 := K1.cell (j := 0) rfl
 have kp : (W1.setCell ⟨w.heap.size, 0, none⟩ (.slice (some ⟨g, 0, none⟩) zs.length c1)).cell? ⟨g, p, none⟩ = some (.string zs[p]) := KG.cell (by simp [hp])
 have kf := KG.frozen p
 have J0 := K0.other (a := ⟨g, p, none⟩) (by show w.heap.size ≠ g; omega) (.string s)
 have J1 := K1.other (a := ⟨g, p, none⟩) (by show w.heap.size + 1 ≠ g; omega) (.string s)
 have J2 := K2.other (a := ⟨g, p, none⟩) (by show w.heap.size + 2 ≠ g; omega) (.string s)
 have JG := KG.set (i := p) (.string s)
 have hV : Below w.heap.size w ((W1.setCell ⟨w.heap.size, 0, none⟩ (.slice (some ⟨g, 0, none⟩) zs.length c1)).setCell ⟨g, p, none⟩ (.string s)) :=
  (hW.setCell (p := ⟨w.heap.size, 0, none⟩) (Nat.le_refl _) _).setCell (p := ⟨g, p, none⟩) (by show w.heap.size ≤ g; omega) _
 have j0 := J0.cell (j := 2) rfl
 have hU3 := hU1.below hV
 go_wp2_with (go_at_call 63; refine (Try.clone_ints _ us _ hU3 hu).mono ?_)
 rintro e W4 ⟨v4, rfl, ho4, hb4⟩
 have I0 := J0.below hb4
 have I1 := J1.below hb4
 have I2 := J2.below hb4
 have IG := JG.below hb4
 have hX := hV.trans (hb4.mono hV.size)
 have hdel := Try.del_ints _ (w.heap.size + 1) p v4 us W4 ho4 I1 J1.lt hu
 have sG := JG.lt
 have s0 := J0.lt
 have s2 := J2.lt
 obtain ⟨a4, c4, hv4⟩ := ho4.size
 rw [List.length_map] at hv4
 subst hv4
 go_wp2_with (go_at_call 62; refine hdel.mono ?_)
 rintro e W5 ⟨v5, rfl, ho5, hb5⟩
 have L0 := I0.of_block (hb5.block _ s0)
 have L2 := I2.of_block (hb5.block _ s2)
 have LG := IG.of_block (hb5.block _ sG)
 have hY := hX.trans (hb5.mono hV.size)
 obtain ⟨a5, c5, hv5⟩ := ho5.size
 rw [List.length_map] at hv5
 subst hv5
 generalize ((W1.setCell ⟨w.heap.size, 0, none⟩ (.slice (some ⟨g, 0, none⟩) zs.length c1)).setCell ⟨g, p, none⟩ (.string s)).heap.size = M at *
 have l0 := L0.cell (j := 2) rfl
 have lf := L0.frozen 2
 have M0 := L0.set (i := 2) (.slice a5 (us.filter fun x => !(x == (p : Int))).length c5)
 have M2 := L2.other (a := ⟨w.heap.size, 2, none⟩) (by show w.heap.size + 2 ≠ w.heap.size; omega) (.slice a5 (us.filter fun x => !(x == (p : Int))).length c5)
 have m0 := M0.cell (j := 0) rfl
 have m1 := M0.cell (j := 1) rfl
 have m2 := M0.cell (j := 2) rfl
 have m3 := M0.cell (j := 3) rfl
 have m4 := M0.cell (j := 4) rfl
 have n0 := M2.cell (j := 0) rfl
 have n1 := M2.cell (j := 1) rfl
 have n2 := M2.cell (j := 2) rfl
 have n3 := M2.cell (j := 3) rfl
 have n4 := M2.cell (j := 4) rfl
 have o0 := M2.frozen 0
 have o1 := M2.frozen 1
 have o2 := M2.frozen 2
 have o3 := M2.frozen 3
 have o4 := M2.frozen 4
 go_wp2
 have R2 := ((((M2.set (i := 0) (.slice (some ⟨g, 0, none⟩) zs.length c1)).set (i := 1) (.int .i64 wr)).set (i := 2) (.slice a5 (us.filter fun x => !(x == (p : Int))).length c5)).set (i := 3) (.bool dead)).set (i := 4) (.slice fa fn fc)
 have RG := (((((LG.other (a := ⟨w.heap.size, 2, none⟩) (by show g ≠ w.heap.size; omega) (.slice a5 (us.filter fun x => !(x == (p : Int))).length c5)).other (a := ⟨w.heap.size + 2, 0, none⟩) (by show g ≠ w.heap.size + 2; omega) (.slice (some ⟨g, 0, none⟩) zs.length c1)).other (a := ⟨w.heap.size + 2, 1, none⟩) (by show g ≠ w.heap.size + 2; omega) (.int .i64 wr)).other (a := ⟨w.heap.size + 2, 2, none⟩) (by show g ≠ w.heap.size + 2; omega) (.slice a5 (us.filter fun x => !(x == (p : Int))).length c5)).other (a := ⟨w.heap.size + 2, 3, none⟩) (by show g ≠ w.heap.size + 2; omega) (.bool dead)).other (a := ⟨w.heap.size + 2, 4, none⟩) (by show g ≠ w.heap.size + 2; omega) (.slice fa fn fc)
 have hYf := (((((hY.setCell (p := ⟨w.heap.size, 2, none⟩) (Nat.le_refl _) (.slice a5 (us.filter fun x => !(x == (p : Int))).length c5)).setCell (p := ⟨w.heap.size + 2, 0, none⟩) (Nat.le_add_right _ _) (.slice (some ⟨g, 0, none⟩) zs.length c1)).setCell (p := ⟨w.heap.size + 2, 1, none⟩) (Nat.le_add_right _ _) (.int .i64 wr)).setCell (p := ⟨w.heap.size + 2, 2, none⟩) (Nat.le_add_right _ _) (.slice a5 (us.filter fun x => !(x == (p : Int))).length c5)).setCell (p := ⟨w.heap.size + 2, 3, none⟩) (Nat.le_add_right _ _) (.bool dead)).setCell (p := ⟨w.heap.size + 2, 4, none⟩) (Nat.le_add_right _ _) (.slice fa fn fc)
 have ho6 := (((((ho5.other (a := ⟨w.heap.size, 2, none⟩) s0 (.slice a5 (us.filter fun x => !(x == (p : Int))).length c5)).other (a := ⟨w.heap.size + 2, 0, none⟩) s2 (.slice (some ⟨g, 0, none⟩) zs.length c1)).other (a := ⟨w.heap.size + 2, 1, none⟩) s2 (.int .i64 wr)).other (a := ⟨w.heap.size + 2, 2, none⟩) s2 (.slice a5 (us.filter fun x => !(x == (p : Int))).length c5)).other (a := ⟨w.heap.size + 2, 3, none⟩) s2 (.bool dead)).other (a := ⟨w.heap.size + 2, 4, none⟩) s2 (.slice fa fn fc)
 have r0 := R2.cell (j := 0) rfl
 have r1 := R2.cell (j := 1) rfl
 have r2 := R2.cell (j := 2) rfl
 have r3 := R2.cell (j := 3) rfl
 have r4 := R2.cell (j := 4) rfl
 generalize hWf : ((((((W5.setCell ⟨w.heap.size, 2, none⟩ (.slice a5 (us.filter fun x => !(x == (p : Int))).length c5)).setCell ⟨w.heap.size + 2, 0, none⟩ (.slice (some ⟨g, 0, none⟩) zs.length c1)).setCell ⟨w.heap.size + 2, 1, none⟩ (.int .i64 wr)).setCell ⟨w.heap.size + 2, 2, none⟩ (.slice a5 (us.filter fun x => !(x == (p : Int))).length c5)).setCell ⟨w.heap.size + 2, 3, none⟩ (.bool dead)).setCell ⟨w.heap.size + 2, 4, none⟩ (.slice fa fn fc)) = Wf at r0 r1 r2 r3 r4 RG hYf ho6 ⊢
 refine bodyPost_ret (v := .agg #[.slice (some ⟨g, 0, none⟩) zs.length c1, .int .i64 wr, .slice a5 (us.filter fun x => !(x == (p : Int))).length c5, .bool dead, .slice fa fn fc]) ?_ rfl ?_
 ·simp [results, Try.results45, go_sem, r0, r1, r2, r3, r4]
 refine ⟨_, _, rfl, .inr ⟨g, c1, by simp, by simpa using hc1, by omega, ?_, ?_, hm1⟩, ho6.mono (by omega), hYf⟩
 ·rw [List.map_set]
  exact RG
 ·rw [← hWf]
  exact ((((((((hR.set _ _).set _ _).of_block (hb4.block _ sG)).of_block (hb5.block _ sG)).set _ _).set _ _).set _ _).set _ _).set _ _ |>.set _ _
end Go.Proofs
end
section
namespace Go.Proofs
open Go.Shelf Go.RowKit Go.Lib
def Try.insIR : Ren where
 f := fun
  | 21 => 66
  | 27 => 79
  | 28 => 80
  | 35 => 87
  | 39 => 90
  | n => n
 t := fun
  | 22 => 27
  | n => n
 g := fun n => n
theorem Try.insI : Lays2.n21 Try.prog Try.insIR where
 mixed := by kernel_rfl
 f21 := by kernel_rfl
 f27 := by kernel_rfl
 f28 := by kernel_rfl
 f35 := by kernel_rfl
 f39 := by kernel_rfl
 t0 := Try.underlying0
 a0 := Try.isAgg0
 z0 := Try.sizeOf0
 v0 := Try.zeroValue0
 t3 := Try.underlying3
 a3 := Try.isAgg3
 z3 := Try.sizeOf3
 v3 := Try.zeroValue3
 t4 := Try.underlying4
 a4 := Try.isAgg4
 z4 := Try.sizeOf4
 v4 := Try.zeroValue4
 t22 := Try.underlying27
 a22 := Try.isAgg27
 z22 := Try.sizeOf27
 v22 := Try.zeroValue27
 i3 := by kernel_rfl
def Try.binIR : Ren where
 f := fun
  | 25 => 65
  | 31 => 77
  | 32 => 78
  | 37 => 86
  | n => n
 t := fun
  | 22 => 27
  | 40 => 99
  | n => n
 g := fun n => n
theorem Try.binI : Lays2.n25 Try.prog Try.binIR where
 mixed := by kernel_rfl
 f25 := by kernel_rfl
 f31 := by kernel_rfl
 f32 := by kernel_rfl
 f37 := by kernel_rfl
 t0 := Try.underlying0
 a0 := Try.isAgg0
 z0 := Try.sizeOf0
 v0 := Try.zeroValue0
 t3 := Try.underlying3
 a3 := Try.isAgg3
 z3 := Try.sizeOf3
 v3 := Try.zeroValue3
 t4 := Try.underlying4
 a4 := Try.isAgg4
 z4 := Try.sizeOf4
 v4 := Try.zeroValue4
 t22 := Try.underlying27
 a22 := Try.isAgg27
 z22 := Try.sizeOf27
 v22 := Try.zeroValue27
 t40 := Try.underlying99
 a40 := Try.isAgg99
 z40 := Try.sizeOf99
 v40 := Try.zeroValue99
end Go.Proofs
end
section
namespace Go.Proofs
open Go.Shelf Go.RowKit Go.Lib
set_option linter.unusedSimpArgs false
set_option linter.unusedVariables false
def New (B : Nat) (W : World) (v : Value) (l : List Value) : Prop :=
 (l = [] ∧ ∃ a c, v = .slice a 0 c) ∨ ∃ g c, v = .slice (some ⟨g, 0, none⟩) l.length c ∧ l.length ≤ c ∧ B ≤ g ∧ Has W g l
theorem Own.new {B : Nat} {W : World} {v : Value} {l : List Value} (h : Own B W v l) : New B W v l := by
 rcases h with ⟨h, rfl⟩ | ⟨g, c, h1, h2, h3, h4, _⟩
 ·exact .inl ⟨h, none, 0, rfl⟩
 ·exact .inr ⟨g, c, h1, h2, h3, h4⟩
theorem New.other {B : Nat} {W : World} {v : Value} {l : List Value} (h : New B W v l) {a : Addr} (ha : a.block < B) (u : Value) : New B (W.setCell a u) v l := by
 rcases h with h | ⟨g, c, hv, hc, hg, hH⟩
 ·exact .inl h
 ·exact .inr ⟨g, c, hv, hc, hg, hH.other (by omega) u⟩
theorem New.mono {B B' : Nat} {W : World} {v : Value} {l : List Value} (h : New B W v l) (hB : B' ≤ B) : New B' W v l := by
 rcases h with h | ⟨g, c, hv, hc, hg, hH⟩
 ·exact .inl h
 ·exact .inr ⟨g, c, hv, hc, by omega, hH⟩
theorem New.size {B : Nat} {W : World} {v : Value} {l : List Value} (h : New B W v l) : ∃ a c, v = .slice a l.length c := by
 rcases h with ⟨rfl, a, c, rfl⟩ | ⟨g, c, rfl, _⟩
 ·exact ⟨a, c, rfl⟩
 ·exact ⟨_, c, rfl⟩
theorem New.below {B : Nat} {W W' : World} {v : Value} {l : List Value} (h : New B W v l) (hb : Below W.heap.size W W') : New B W' v l := by
 rcases h with h | ⟨g, c, hv, hc, hg, hH⟩
 ·exact .inl h
 ·exact .inr ⟨g, c, hv, hc, hg, hH.below hb⟩
theorem Has.of_room {W : World} {g n : Nat} {l : List Value} (h : J2c W g n) (hc : ∀ (j : Nat) v, l[j]? = some v → W.cell? ⟨g, j, none⟩ = some v) : Has W g l := by
 obtain ⟨c, t, hb, _⟩ := h
 refine ⟨c, t, hb, fun j v hj => ?_⟩
 have := hc j v hj
 rwa [cell_of_heap hb] at this
theorem J2c.setCells {g n : Nat} (b : Nat) : ∀ (vs : List Value) (o : Nat) {W : World}, J2c W g n → J2c (W.setCells b o vs) g n
 | [], _, _, h => h
 | v :: r, o, W, h => J2c.setCells b r (o + 1) (h.set ⟨b, o, none⟩ v)
theorem Below.setCells {B : Nat} {a : World} (b : Nat) (hb : B ≤ b) : ∀ (vs : List Value) (o : Nat) {W : World}, Below B a W → Below B a (W.setCells b o vs)
 | [], _, _, h => h
 | v :: r, o, _, h => Below.setCells b hb r (o + 1) (h.setCell hb v)
theorem Has.sub {W : World} {b : Nat} {l l' : List Value} (h : Has W b l) (hs : ∀ (j : Nat) v, l'[j]? = some v → l[j]? = some v) : Has W b l' := by
 obtain ⟨c, t, hb, hc⟩ := h
 exact ⟨c, t, hb, fun j v hj => hc j v (hs j v hj)⟩
theorem Jq8 (w : World) (c : Array Value) (t : TypeId) {n : Nat} (h : n ≤ c.size) : J2c (w.alloc (.cells c t)) w.heap.size n :=
 ⟨c, t, Array.getElem?_push_size, h⟩
theorem J2c.drew {W : World} {g n : Nat} (h : J2c W g n) : J2c W.drew g n := h
theorem JgL {g n i : Nat} {cs : List Value} {x : Value} {W : World} (hr : J2c W g n) (hn : cs.length + 1 ≤ n) (hi : i ≤ cs.length)
  (h0 : ∀ (j : Nat) v, j < i → cs[j]? = some v → W.cell? ⟨g, j, none⟩ = some v) {W' : World} (hr' : J2c W' g n)
  (h1 : ∀ (j : Nat), j < i → W'.cell? ⟨g, j, none⟩ = W.cell? ⟨g, j, none⟩) (h2 : W'.cell? ⟨g, i, none⟩ = some x) (h3 : ∀ (j : Nat) v, cs[i + j]? = some v → W'.cell? ⟨g, i + 1 + j, none⟩ = some v) : Has W' g (cs.take i ++ x :: cs.drop i) := by
 refine Has.of_room hr' fun j v hj => ?_
 have hl : (cs.take i).length = i := by rw [List.length_take]; omega
 by_cases h : j < i
 ·rw [List.getElem?_append_left (by omega), List.getElem?_take, if_pos h] at hj
  rw [h1 j h]
  exact h0 j v h hj
 ·rw [List.getElem?_append_right (by omega), hl] at hj
  obtain ⟨k, rfl⟩ : ∃ k, j = i + k := ⟨j - i, by omega⟩
  rw [Nat.add_sub_cancel_left] at hj
  cases k with
  | zero => injection hj with hj; subst hj; exact h2
  | succ k =>
   rw [List.getElem?_cons_succ, List.getElem?_drop] at hj
   rw [show i + (k + 1) = i + 1 + k by omega]
   exact h3 k v hj
set_option maxRecDepth 100000 in
theorem Try.ins_int (B : Nat) (v : Value) (us : List Int) (i : Nat) (n : Int) (vb : Nat) (w : World) (h : Own B w v (us.map (Value.int .i64))) (hi : i ≤ us.length) (hlen : us.length ≤ 1000000)
  (hv : w.cell? ⟨vb, 0, none⟩ = some (.int .i64 n)) (hvs : w.heap[vb]? = some (.cells #[.int .i64 n] 3)) (hne : ∀ a k c, v = .slice (some a) k c → a.block ≠ vb) (hB : B ≤ w.heap.size) :
  Calls Try.prog 66 #[v, .int .i64 i, .slice (some ⟨vb, 0, none⟩) 1 1] w fun e w' => ∃ v', e = .returned v' ∧ New B w' v' ((us.take i ++ n :: us.drop i).map (Value.int .i64)) ∧ Below B w w' := by
 have hmap : (us.take i ++ n :: us.drop i).map (Value.int .i64) = (us.map (Value.int .i64)).take i ++ .int .i64 n :: (us.map (Value.int .i64)).drop i := by
  rw [List.map_append, List.map_cons, List.map_take, List.map_drop]
 have hlm : (us.map (Value.int .i64)).length = us.length := List.length_map _
 have hone : ∀ v ∈ us.map (Value.int .i64), v.oneCell' = true := fun v hv => by obtain ⟨x, _, rfl⟩ := List.mem_map.1 hv; rfl
 have hone1 : ∀ v ∈ [Value.int .i64 n], v.oneCell' = true := fun v hv => by rw [List.mem_singleton.1 hv]; rfl
 have hvv : ∀ (j : Nat) u, [Value.int .i64 n][j]? = some u → w.cell? ⟨vb, 0 + j, none⟩ = some u := fun j u hj => by
  cases j with
  | zero => injection hj with hj; subst hj; exact hv
  | succ j => simp at hj
 have hlr : (us.take i ++ n :: us.drop i).length = us.length + 1 := by simp; omega
 rw [hmap]
 have hlt : ((us.map (Value.int .i64)).take i ++ .int .i64 n :: (us.map (Value.int .i64)).drop i).length = us.length + 1 := by rw [← hmap, List.length_map, hlr]
 generalize hcs : us.map (Value.int .i64) = cs at *
 rcases h with ⟨h0, rfl⟩ | ⟨g, c, rfl, hc, hg, hH, hr, hm⟩
 ·subst h0
  have h00 : us.length = 0 := by simpa using hlm.symm
  have hi0 : i = 0 := by omega
  subst hi0
  refine (Any2.slices_Insert_int_end_grow Try.insI none 0 0 vb 0 1 1 [] [.int .i64 n] w (by omega) (by omega) (by omega) (by omega) rfl rfl (fun _ => rfl) (fun a h => by cases h) hvv hone1).mono ?_
  rintro e w' ⟨rfl, rfl⟩
  have hcap := grownCap_ge w (0 + 1) 0 3
  refine ⟨_, rfl, .inr ⟨w.heap.size, _, rfl, hcap, hB, ?_⟩, ((Below.refl B w).drew.alloc hB _)⟩
  refine (J4b w.drew _ _).sub fun j u hj => ?_
  have h1 : j < 1 := by
   have := (List.getElem?_eq_some_iff.1 hj).1
   simpa using this
  have h2 : j = 0 := by omega
  subst h2
  simpa using hj
 ·rw [hlm] at hc ⊢
  have hgb : g ≠ vb := hne _ _ _ rfl
  have hgl := hH.lt
  by_cases hroom : us.length + 1 ≤ c
  ·rcases Nat.lt_or_ge i us.length with hiu | hiu
   ·obtain ⟨cc, tt, hbb, hcc⟩ := id hr
    have hsb : w.shape? g = some (tt, cc.size) := by unfold World.shape?; rw [hbb]
    have hsa : w.shape? vb = some (3, 1) := by unfold World.shape?; rw [hvs]; rfl
    have hfz : ∀ o, w.frozen? ⟨vb, o, none⟩ = false := fun o => by unfold World.frozen?; rw [hvs]; simp
    refine (Any2.slices_Insert_int_shift Try.insI g 0 us.length c i vb 0 1 1 cs [.int .i64 n] w hiu (by omega) hroom hm (fun e => hgb e.symm) hlm rfl (fun j u hj => by rw [Nat.zero_add]; exact hH.cell hj)
     (fun j hj => by rw [Nat.zero_add]; exact hr.some (by omega)) (fun j hj => hr.frozen _) hvv hone hone1 3 tt 1 cc.size hsa hsb (by omega) (hfz 0) (hfz 1)).mono ?_
    rintro e w' ⟨rfl, rfl⟩
    refine ⟨_, rfl, .inr ⟨g, c, by rw [hlt], by rw [hlt]; exact hroom, hg, ?_⟩, (Below.setCells g hg _ _ (Below.refl B w).drew).setCell hg _⟩
    rw [Nat.zero_add, Nat.zero_add]
    have hr1 : J2c (w.drew.setCells g (i + 1) (cs.drop i)) g c := J2c.setCells g _ _ hr.drew
    refine JgL hr (by omega) (by omega) (fun j u _ hj => hH.cell hj) (J2c.setCells g _ _ hr1) (fun j hj => ?_) ?_ (fun j u hj => ?_)
    ·rw [World.cell?_setCells_out g _ _ _ _ (fun _ _ => .inl hj), World.cell?_setCells_out g _ _ _ _ (fun _ _ => .inl (by show j < i + 1; omega))]
     rfl
    ·exact World.cell?_setCells_in g [.int .i64 n] i _ (fun j hj => hr1.some (by simp at hj; omega)) 0 (by simp)
    ·have hjl : j < (cs.drop i).length := by
      have := (List.getElem?_eq_some_iff.1 hj).1
      rw [List.length_drop]; omega
     rw [World.cell?_setCells_out g _ _ _ _ (fun _ _ => .inr (by show i + [Value.int .i64 n].length ≤ i + 1 + j; simp)),
      World.cell?_setCells_in g (cs.drop i) (i + 1) w.drew (fun j hj => hr.drew.some (by rw [List.length_drop] at hj; omega)) j hjl, List.getElem_drop, ← hj]
     rw [List.getElem?_eq_getElem]
   ·have hie : i = us.length := by omega
    subst hie
    refine (Any2.slices_Insert_int_end_room Try.insI g 0 us.length c vb 0 1 1 [.int .i64 n] w (by omega) hroom hm rfl (fun j hj => by rw [Nat.zero_add]; exact hr.some (by omega)) (fun j hj => hr.frozen _) hvv hone1).mono ?_
    rintro e w' ⟨rfl, rfl⟩
    refine ⟨_, rfl, .inr ⟨g, c, by rw [hlt], by rw [hlt]; exact hroom, hg, ?_⟩, (Below.refl B w).setCell hg _⟩
    rw [Nat.zero_add]
    refine JgL hr (by omega) (by omega) (fun j u _ hj => hH.cell hj) (hr.setCells g _ _) (fun j hj => World.cell?_setCells_out g _ _ _ _ (fun _ _ => .inl hj)) ?_ (fun j u hj => ?_)
    ·exact World.cell?_setCells_in g [.int .i64 n] us.length w (fun j hj => hr.some (by simp at hj; omega)) 0 (by simp)
    ·rw [List.getElem?_eq_none (by omega)] at hj; cases hj
  ·rcases Nat.lt_or_ge i us.length with hiu | hiu
   ·refine (Any2.slices_Insert_int_grow Try.insI g 0 us.length c i vb 0 1 1 cs [.int .i64 n] w hiu (by omega) hc (by omega) (by omega) hlm rfl (fun j u hj => by rw [Nat.zero_add]; exact hH.cell hj) hvv hone hone1).mono ?_
    rintro e w' ⟨rfl, rfl⟩
    have hcap := grownCap_ge w (us.length + 1) c (Try.insIR.t 3)
    generalize grownCap w (us.length + 1) c (Try.insIR.t 3) = G at hcap ⊢
    have hz : ∀ k, (Builtin.zeroCells (Value.int .i64 0).cells k).size = k := fun k => by simp [size_zeroCells, Value.cells]
    generalize hA : (cs.take i).toArray ++ Builtin.zeroCells (Value.int .i64 0).cells (us.length + 1 - i) ++ Builtin.zeroCells (Value.int .i64 0).cells (G - (us.length + 1)) = A
    have hAs : G ≤ A.size := by
     rw [← hA, Array.size_append, Array.size_append, hz, hz]
     simp
     omega
    have hr0 : J2c (w.alloc (.cells A (Try.insIR.t 3))) w.heap.size G := Jq8 w A _ hAs
    have hA0 : ∀ (j : Nat) u, j < i → cs[j]? = some u → (w.alloc (.cells A (Try.insIR.t 3))).cell? ⟨w.heap.size, j, none⟩ = some u := fun j u hj hu => by
     refine (J4b w A _).cell ?_
     rw [← hA]
     have : j < (cs.take i).length := by rw [List.length_take]; omega
     simp only [Array.toList_append, List.append_assoc]
     rw [List.getElem?_append_left (by simpa using this)]
     simp [hj, hu]
    generalize hW0 : w.alloc (.cells A (Try.insIR.t 3)) = W0 at *
    have hb0 : Below B w W0 := hW0 ▸ (Below.refl B w).alloc hB _
    refine ⟨_, rfl, .inr ⟨w.heap.size, G, by rw [hlt], by rw [hlt]; exact hcap, hB, ?_⟩, Below.setCells _ hB _ _ (Below.setCells _ hB _ _ hb0.drew).drew⟩
    have hr1 : J2c (W0.drew.setCells w.heap.size i [.int .i64 n]) w.heap.size G := J2c.setCells _ _ _ hr0.drew
    refine JgL hr0 (by omega) (by omega) hA0 (J2c.setCells _ _ _ hr1.drew) (fun j hj => ?_) ?_ (fun j u hj => ?_)
    ·rw [World.cell?_setCells_out _ _ _ _ _ (fun _ _ => .inl (by show j < i + 1; omega))]
     exact (World.cell?_setCells_out _ _ _ _ _ (fun _ _ => .inl hj)).trans rfl
    ·rw [World.cell?_setCells_out _ _ _ _ _ (fun _ _ => .inl (by show i < i + 1; omega))]
     exact World.cell?_setCells_in _ [.int .i64 n] i _ (fun j hj => hr0.drew.some (by simp at hj; omega)) 0 (by simp)
    ·have hjl : j < (cs.drop i).length := by
      have := (List.getElem?_eq_some_iff.1 hj).1
      rw [List.length_drop]; omega
     rw [World.cell?_setCells_in _ (cs.drop i) (i + 1) _ (fun j hj => hr1.drew.some (by rw [List.length_drop] at hj; omega)) j hjl, List.getElem_drop, ← hj]
     rw [List.getElem?_eq_getElem]
   ·have hie : i = us.length := by omega
    subst hie
    refine (Any2.slices_Insert_int_end_grow Try.insI (some ⟨g, 0, none⟩) us.length c vb 0 1 1 cs [.int .i64 n] w (by omega) hc (by omega) (by omega) hlm rfl (fun h => by cases h)
     (fun a ha j u hj => by injection ha with ha; subst ha; exact (congrArg _ (Addr.add_lit g 0 j)).trans (by rw [Nat.zero_add]; exact hH.cell hj)) hvv hone1).mono ?_
    rintro e w' ⟨rfl, rfl⟩
    have hcap := grownCap_ge w (us.length + 1) c (Try.insIR.t 3)
    refine ⟨_, rfl, .inr ⟨w.heap.size, _, by rw [hlt], by rw [hlt]; exact hcap, hB, ?_⟩, ((Below.refl B w).drew.alloc hB _)⟩
    refine (J4b w.drew _ _).sub fun j u hj => ?_
    rw [List.take_of_length_le (by omega), List.drop_of_length_le (by omega)] at hj
    rw [Array.toList_append, List.getElem?_append_left (by have := (List.getElem?_eq_some_iff.1 hj).1; simpa using this)]
    simpa using hj
end Go.Proofs
end
section
namespace Go.Proofs
open Go.Shelf Go.RowKit Go.Lib
set_option linter.unusedSimpArgs false
set_option linter.unusedVariables false
def J1Y (W : World) (b : Nat) (v0 v1 v2 v3 v4 : Value) : World :=
 ((((W.setCell ⟨b, 0, none⟩ v0).setCell ⟨b, 1, none⟩ v1).setCell ⟨b, 2, none⟩ v2).setCell ⟨b, 3, none⟩ v3).setCell ⟨b, 4, none⟩ v4
theorem J3A {W : World} {b : Nat} {z0 z1 z2 z3 z4 : Value} (h : Has W b [z0, z1, z2, z3, z4]) (v0 v1 v2 v3 v4 : Value) : Has (J1Y W b v0 v1 v2 v3 v4) b [v0, v1, v2, v3, v4] :=
 ((((h.set (i := 0) v0).set (i := 1) v1).set (i := 2) v2).set (i := 3) v3).set (i := 4) v4
theorem J4L {B : Nat} {a W : World} {b : Nat} (h : Below B a W) (hb : B ≤ b) (v0 v1 v2 v3 v4 : Value) : Below B a (J1Y W b v0 v1 v2 v3 v4) :=
 ((((h.setCell (p := ⟨b, 0, none⟩) hb v0).setCell (p := ⟨b, 1, none⟩) hb v1).setCell (p := ⟨b, 2, none⟩) hb v2).setCell (p := ⟨b, 3, none⟩) hb v3).setCell (p := ⟨b, 4, none⟩) hb v4
theorem Jqs {B : Nat} {W : World} {b : Nat} {v : Value} {l : List Value} (h : New B W v l) (hb : b < B) (v0 v1 v2 v3 v4 : Value) : New B (J1Y W b v0 v1 v2 v3 v4) v l :=
 ((((h.other (a := ⟨b, 0, none⟩) hb v0).other (a := ⟨b, 1, none⟩) hb v1).other (a := ⟨b, 2, none⟩) hb v2).other (a := ⟨b, 3, none⟩) hb v3).other (a := ⟨b, 4, none⟩) hb v4
theorem Jbb {W : World} {b c : Nat} {l : List Value} (h : Has W c l) (hb : c ≠ b) (v0 v1 v2 v3 v4 : Value) : Has (J1Y W b v0 v1 v2 v3 v4) c l :=
 ((((h.other (a := ⟨b, 0, none⟩) hb v0).other (a := ⟨b, 1, none⟩) hb v1).other (a := ⟨b, 2, none⟩) hb v2).other (a := ⟨b, 3, none⟩) hb v3).other (a := ⟨b, 4, none⟩) hb v4
abbrev J1c (vp : Value) (wr : Int) (vu : Value) (dead : Bool) (vf : Value) : Value := .agg #[vp, .int .i64 wr, vu, .bool dead, vf]
abbrev Jje (k t p g b m : Int) : Value := .agg #[.int .i64 k, .int .i64 t, .int .i64 p, .int .i64 g, .int .i64 b, .int .u8 m]
theorem J8B (w : World) (A F Z : List Value) (a f z : TypeId) : Has (((w.alloc (.cells A.toArray a)).alloc (.cells F.toArray f)).alloc (.cells Z.toArray z)) w.heap.size A ∧
  Has (((w.alloc (.cells A.toArray a)).alloc (.cells F.toArray f)).alloc (.cells Z.toArray z)) (w.heap.size + 1) F ∧ Has (((w.alloc (.cells A.toArray a)).alloc (.cells F.toArray f)).alloc (.cells Z.toArray z)) (w.heap.size + 2) Z := by
 refine ⟨((JaH w A a).alloc _).alloc _, ?_, ?_⟩
 ·have := (JaH (w.alloc (.cells A.toArray a)) F f).alloc (.cells Z.toArray z)
  rwa [Je] at this
 ·have := JaH ((w.alloc (.cells A.toArray a)).alloc (.cells F.toArray f)) Z z
  rwa [Je, Je] at this
set_option maxHeartbeats 4000000 in
set_option maxRecDepth 100000 in
theorem Try.harm_none (pa ua fa : Option Addr) (pn pc un uc fn fc : Nat) (wr k t p g b : Int) (dead : Bool) (m : Int) (w : World) (h4 : k ≠ 4) (h5 : k ≠ 5) (h6 : k ≠ 6) :
  Calls Try.prog 46 #[J1c (.slice pa pn pc) wr (.slice ua un uc) dead (.slice fa fn fc), Jje k t p g b m] w fun e w' =>
   e = .returned (J1c (.slice pa pn pc) wr (.slice ua un uc) dead (.slice fa fn fc)) ∧ Below w.heap.size w w' := by
 have mixed : Try.prog.follows .mixedOrders = true := by kernel_rfl
 go_enter Try.func46, Try.ntmps46
 go_wp2
 obtain ⟨-, -, R⟩ := J8B w [.slice pa pn pc, .int .i64 wr, .slice ua un uc, .bool dead, .slice fa fn fc] [.int .i64 k, .int .i64 t, .int .i64 p, .int .i64 g, .int .i64 b, .int .u8 m] [.slice pa pn pc, .int .i64 wr, .slice ua un uc, .bool dead, .slice fa fn fc] 30 37 30
 have r0 := R.cell (j := 0) rfl
 have r1 := R.cell (j := 1) rfl
 have r2 := R.cell (j := 2) rfl
 have r3 := R.cell (j := 3) rfl
 have r4 := R.cell (j := 4) rfl
 have hb := Jal w (.cells #[.slice pa pn pc, .int .i64 wr, .slice ua un uc, .bool dead, .slice fa fn fc] 30) (.cells #[.int .i64 k, .int .i64 t, .int .i64 p, .int .i64 g, .int .i64 b, .int .u8 m] 37) (.cells #[.slice pa pn pc, .int .i64 wr, .slice ua un uc, .bool dead, .slice fa fn fc] 30)
 generalize ((w.alloc (.cells #[.slice pa pn pc, .int .i64 wr, .slice ua un uc, .bool dead, .slice fa fn fc] 30)).alloc (.cells #[.int .i64 k, .int .i64 t, .int .i64 p, .int .i64 g, .int .i64 b, .int .u8 m] 37)).alloc (.cells #[.slice pa pn pc, .int .i64 wr, .slice ua un uc, .bool dead, .slice fa fn fc] 30) = Wf at r0 r1 r2 r3 r4 hb ⊢
 refine bodyPost_ret (v := J1c (.slice pa pn pc) wr (.slice ua un uc) dead (.slice fa fn fc)) ?_ rfl ⟨rfl, hb⟩
 simp [results, Try.results46, go_sem, r0, r1, r2, r3, r4]
set_option maxHeartbeats 4000000 in
set_option maxRecDepth 100000 in
theorem Try.harm_dead (pa ua fa : Option Addr) (pn pc un uc fn fc : Nat) (wr t p g b : Int) (dead : Bool) (m : Int) (w : World) :
  Calls Try.prog 46 #[J1c (.slice pa pn pc) wr (.slice ua un uc) dead (.slice fa fn fc), Jje 6 t p g b m] w fun e w' =>
   e = .returned (J1c (.slice pa pn pc) wr (.slice ua un uc) true (.slice fa fn fc)) ∧ Below w.heap.size w w' := by
 have mixed : Try.prog.follows .mixedOrders = true := by kernel_rfl
 go_enter Try.func46, Try.ntmps46
 go_wp2
 obtain ⟨-, -, R⟩ := J8B w [.slice pa pn pc, .int .i64 wr, .slice ua un uc, .bool true, .slice fa fn fc] [.int .i64 6, .int .i64 t, .int .i64 p, .int .i64 g, .int .i64 b, .int .u8 m] [.slice pa pn pc, .int .i64 wr, .slice ua un uc, .bool true, .slice fa fn fc] 30 37 30
 have r0 := R.cell (j := 0) rfl
 have r1 := R.cell (j := 1) rfl
 have r2 := R.cell (j := 2) rfl
 have r3 := R.cell (j := 3) rfl
 have r4 := R.cell (j := 4) rfl
 have hb := Jal w (.cells #[.slice pa pn pc, .int .i64 wr, .slice ua un uc, .bool true, .slice fa fn fc] 30) (.cells #[.int .i64 6, .int .i64 t, .int .i64 p, .int .i64 g, .int .i64 b, .int .u8 m] 37) (.cells #[.slice pa pn pc, .int .i64 wr, .slice ua un uc, .bool true, .slice fa fn fc] 30)
 generalize ((w.alloc (.cells #[.slice pa pn pc, .int .i64 wr, .slice ua un uc, .bool true, .slice fa fn fc] 30)).alloc (.cells #[.int .i64 6, .int .i64 t, .int .i64 p, .int .i64 g, .int .i64 b, .int .u8 m] 37)).alloc (.cells #[.slice pa pn pc, .int .i64 wr, .slice ua un uc, .bool true, .slice fa fn fc] 30) = Wf at r0 r1 r2 r3 r4 hb ⊢
 refine bodyPost_ret (v := J1c (.slice pa pn pc) wr (.slice ua un uc) true (.slice fa fn fc)) ?_ rfl ⟨rfl, hb⟩
 simp [results, Try.results46, go_sem, r0, r1, r2, r3, r4]
set_option maxHeartbeats 4000000 in
set_option maxRecDepth 100000 in
theorem Try.harm_rot (vu vf : Value) (p b : Nat) (vp : Value) (zs : List ByteArray) (wr t g : Int) (dead : Bool) (m : UInt8) (w : World) (hp : p < zs.length) (hb : b < (zs.getD p ByteArray.empty).size) (hz : zs.length ≤ 1000000)
  (hP : J51 w vp (zs.map Value.string)) (hU : ∃ a n c, vu = .slice a n c) (hF : ∃ a n c, vf = .slice a n c) :
  Calls Try.prog 46 #[J1c vp wr vu dead vf, Jje 4 t p g b m.toNat] w fun e w' => ∃ vp', e = .returned (J1c vp' wr vu dead vf) ∧
   New w.heap.size w' vp' ((zs.set p (strOfNums (((zs.getD p ByteArray.empty).data.toList.map fun x => (x.toNat : Int)).set b (bits BinOp.xor IntKind.u8 ((zs.getD p ByteArray.empty).data.toList.getD b 0).toNat m.toNat)))).map Value.string) ∧ Below w.heap.size w w' := by
 have mixed : Try.prog.follows .mixedOrders = true := by kernel_rfl
 obtain ⟨fa, fn, fc, rfl⟩ := hF
 obtain ⟨ua, un, uc, rfl⟩ := hU
 obtain ⟨pa, pc, rfl, hpc, hl⟩ := id hP
 simp only [List.length_map] at hP hpc
 obtain hl | ⟨B, o, rfl, hB, hcc⟩ := hl
 ·have : zs = [] := by simpa using hl
  rw [this] at hp; exact absurd hp (by simp)
 have c0 : w.cell? ⟨B, o + p, none⟩ = some (.string (zs.getD p ByteArray.empty)) := hcc p _ (by simp [hp])
 have b3 := Jal w (.cells #[.slice (some ⟨B, o, none⟩) zs.length pc, .int .i64 wr, .slice ua un uc, .bool dead, .slice fa fn fc] 30) (.cells #[.int .i64 4, .int .i64 t, .int .i64 p, .int .i64 g, .int .i64 b, .int .u8 m.toNat] 37) (.cells #[.slice none 0 0, .int .i64 0, .slice none 0 0, .bool false, .slice none 0 0] 30)
 have c1 := (b3.cell hB (p := ⟨B, o + p, none⟩)).trans c0
 obtain ⟨H0, H1, H2⟩ := J8B w [.slice (some ⟨B, o, none⟩) zs.length pc, .int .i64 wr, .slice ua un uc, .bool dead, .slice fa fn fc] [.int .i64 4, .int .i64 t, .int .i64 p, .int .i64 g, .int .i64 b, .int .u8 m.toNat] [.slice none 0 0, .int .i64 0, .slice none 0 0, .bool false, .slice none 0 0] 30 37 30
 have z3 : (((w.alloc (.cells #[.slice (some ⟨B, o, none⟩) zs.length pc, .int .i64 wr, .slice ua un uc, .bool dead, .slice fa fn fc] 30)).alloc (.cells #[.int .i64 4, .int .i64 t, .int .i64 p, .int .i64 g, .int .i64 b, .int .u8 m.toNat] 37)).alloc (.cells #[.slice none 0 0, .int .i64 0, .slice none 0 0, .bool false, .slice none 0 0] 30)).heap.size = w.heap.size + 3 := by rw [Je, Je, Je]
 go_enter Try.func46, Try.ntmps46
 go_wp2
 generalize hW3 : ((w.alloc (.cells #[.slice (some ⟨B, o, none⟩) zs.length pc, .int .i64 wr, .slice ua un uc, .bool dead, .slice fa fn fc] 30)).alloc (.cells #[.int .i64 4, .int .i64 t, .int .i64 p, .int .i64 g, .int .i64 b, .int .u8 m.toNat] 37)).alloc (.cells #[.slice none 0 0, .int .i64 0, .slice none 0 0, .bool false, .slice none 0 0] 30) = W3 at b3 c1 H0 H1 H2 z3 ⊢
 rw [Lib.run_convert_string_bytes W3 9 22 5 zs[p] Try.underlying9 Try.underlying22 Try.underlying5]
 have b4 : Below W3.heap.size W3 (Lib.bytesWorld W3 5 zs[p]) := ⟨rfl, rfl, rfl, by rw [Lib.bytesWorld_size]; omega, fun k hk => Lib.bytesWorld_at_old W3 5 zs[p] k hk⟩
 have hbz : b < zs[p].size := by simpa [hp] using hb
 have hR := Lib.bytesWorld_at_new W3 5 zs[p]
 have hc : ∀ j, j < zs[p].size → _ := fun j hj => Lib.bytesWorld_cell W3 5 zs[p] j hj
 have hf : (Lib.bytesWorld W3 5 zs[p]).frozen? ⟨W3.heap.size, b, none⟩ = false := by
  unfold World.frozen?
  rw [hR]
  have : zs[p].size ≤ (Lib.bytesCells W3 5 zs[p]).size := by
   unfold Lib.bytesCells
   rw [Array.size_append, Array.size_map]
   exact Nat.le_add_right _ _
  simp
  omega
 have hS4 := Lib.bytesWorld_size W3 5 zs[p]
 generalize Lib.bytesWorld W3 5 zs[p] = W4 at b4 hR hc hf hS4 ⊢
 clear hR
 generalize grownCap W3 zs[p].size 0 5 = G at ⊢
 have hn3 : W3.heap.size = w.heap.size + 3 := z3
 rw [z3] at hc hf hS4 ⊢
 have b44 : Below w.heap.size w W4 := b3.trans (b4.mono (by omega))
 have G0 := H0.below b4
 have G1 := H1.below b4
 have G2 := H2.below b4
 clear H0 H1 H2 c1 c0 hcc b3
 have f2 := G1.cell (j := 2) rfl
 have f4 := G1.cell (j := 4) rfl
 have f5 := G1.cell (j := 5) rfl
 have cb := hc b hbz
 have a0 := G0.cell (j := 0) rfl
 go_wp2
 go_region
 generalize hx : bits BinOp.xor IntKind.u8 zs[p].data[b].toNat m.toNat = X
 have hxs : ∀ i, i < zs[p].size → (W4.setCell ⟨w.heap.size + 3, b, none⟩ (.int .u8 X)).drew.cell? ⟨w.heap.size + 3, 0 + i, none⟩ = some (.int .u8 (((zs[p].data.toList.map fun x => (x.toNat : Int)).set b X).getD i 0)) := by
  intro i hi
  rw [Nat.zero_add]
  show (W4.setCell ⟨w.heap.size + 3, b, none⟩ (.int .u8 X)).cell? _ = _
  by_cases e : b = i
  ·subst e
   rw [World.cell?_setCell_same W4 _ _ (hc b hi), List.getD_eq_getElem?_getD, List.getElem?_set_self (by simpa using hi)]
   rfl
  ·rw [World.cell?_setCell_other W4 _ _ _ (fun h => e (by injection h)), hc i hi, List.getD_eq_getElem?_getD, List.getD_eq_getElem?_getD, List.getElem?_set_ne e, List.getElem?_map]
   rw [List.getElem?_eq_getElem (by simpa using hi)]
   rfl
 have b5 : Below (w.heap.size + 3) W4 (W4.setCell ⟨w.heap.size + 3, b, none⟩ (.int .u8 X)).drew := ((Below.refl (w.heap.size + 3) W4).setCell (p := ⟨w.heap.size + 3, b, none⟩) (Nat.le_refl _) _).drew
 have hS5 : (W4.setCell ⟨w.heap.size + 3, b, none⟩ (.int .u8 X)).drew.heap.size = w.heap.size + 4 := by
  show (W4.setCell _ _).heap.size = _
  unfold World.setCell
  simp [hS4]
 generalize (W4.setCell ⟨w.heap.size + 3, b, none⟩ (.int .u8 X)).drew = W5 at hxs b5 hS5 ⊢
 clear hc hf cb f2 f4 f5 a0
 have I0 := G0.of_block (b5.block _ (by omega))
 have I1 := G1.of_block (b5.block _ (by omega))
 have I2 := G2.of_block (b5.block _ (by omega))
 have b55 : Below w.heap.size w W5 := b44.trans (b5.mono (by omega))
 have a0 := I0.cell (j := 0) rfl
 have hP5 := hP.below b55
 go_wp2_with (go_at_call 61; refine (Try.clone_strs _ zs _ hP5 hz).mono ?_)
 rintro e W6 ⟨v1, rfl, ho1, hb1⟩
 rw [hS5] at ho1
 obtain ⟨h0, -⟩ | ⟨gp, c1, rfl, hc1, hg1, hG, hR, hm1⟩ := ho1
 ·have : zs = [] := by simpa using h0
  rw [this] at hp; exact absurd hp (by simp)
 simp only [List.length_map] at hc1 ⊢
 have J0 := I0.below hb1
 have J1 := I1.below hb1
 have J2 := I2.below hb1
 have hxs6 : ∀ i, i < zs[p].size → W6.cell? ⟨w.heap.size + 3, 0 + i, none⟩ = some (.int .u8 (((zs[p].data.toList.map fun x => (x.toNat : Int)).set b X).getD i 0)) := fun i hi => (hb1.cell (by show w.heap.size + 3 < W5.heap.size; omega)).trans (hxs i hi)
 have b66 : Below w.heap.size w W6 := b55.trans (hb1.mono b55.size)
 have c0 := J0.cell (j := 0) rfl
 have d0 := J0.frozen 0
 have K0 := J0.set (i := 0) (.slice (some ⟨gp, 0, none⟩) zs.length c1)
 have K1 := J1.other (a := ⟨w.heap.size, 0, none⟩) (by show w.heap.size + 1 ≠ w.heap.size; omega) (.slice (some ⟨gp, 0, none⟩) zs.length c1)
 have K2 := J2.other (a := ⟨w.heap.size, 0, none⟩) (by show w.heap.size + 2 ≠ w.heap.size; omega) (.slice (some ⟨gp, 0, none⟩) zs.length c1)
 have KG := hG.other (a := ⟨w.heap.size, 0, none⟩) (by show gp ≠ w.heap.size; omega) (.slice (some ⟨gp, 0, none⟩) zs.length c1)
 have kp2 := K1.cell (j := 2) rfl
 go_wp2
 have hxs7 : ∀ i, i < zs[p].size → (W6.setCell ⟨w.heap.size, 0, none⟩ (.slice (some ⟨gp, 0, none⟩) zs.length c1)).cell? ⟨w.heap.size + 3, 0 + i, none⟩ = some (.int .u8 (((zs[p].data.toList.map fun x => (x.toNat : Int)).set b X).getD i 0)) := fun i hi =>
  (World.cell?_of_block (w := W6) (a := ⟨w.heap.size + 3, 0 + i, none⟩) (Below.heap_setCell W6 ⟨w.heap.size, 0, none⟩ _ (w.heap.size + 3) (by show w.heap.size + 3 ≠ w.heap.size; omega))).trans (hxs6 i hi)
 have b77 : Below w.heap.size w (W6.setCell ⟨w.heap.size, 0, none⟩ (.slice (some ⟨gp, 0, none⟩) zs.length c1)) := b66.setCell (p := ⟨w.heap.size, 0, none⟩) (Nat.le_refl _) _
 generalize W6.setCell ⟨w.heap.size, 0, none⟩ (.slice (some ⟨gp, 0, none⟩) zs.length c1) = W7 at K0 K1 K2 KG kp2 hxs7 b77 ⊢
 have hll : ((zs[p].data.toList.map fun x => (x.toNat : Int)).set b X).length = zs[p].size := by simp
 rw [run_convert_bytes_arg W7 22 5 Try.underlying22 Try.underlying5 (w.heap.size + 3) 0 zs[p].size G _ hll hxs7 9 Try.underlying9]
 clear hxs hxs6 hxs7 c0 d0 J0 J1 J2 hG hR I0 I1 I2 hb1 b5 b4 hP5
 have a1 := K0.cell (j := 0) rfl
 have cp : W7.cell? ⟨gp, p, none⟩ = some (.string zs[p]) := KG.cell (by simp [hp])
 have cf := KG.frozen p
 generalize hst : strOfNums ((zs[p].data.toList.map fun x => (x.toNat : Int)).set b X) = st
 have L0 := K0.other (a := ⟨gp, p, none⟩) (by show w.heap.size ≠ gp; omega) (.string st)
 have L2 := K2.other (a := ⟨gp, p, none⟩) (by show w.heap.size + 2 ≠ gp; omega) (.string st)
 have LG := KG.set (i := p) (.string st)
 have b8 := b77.setCell (p := ⟨gp, p, none⟩) (by show w.heap.size ≤ gp; omega) (.string st)
 have m0 := L0.cell (j := 0) rfl
 have m1 := L0.cell (j := 1) rfl
 have m2 := L0.cell (j := 2) rfl
 have m3 := L0.cell (j := 3) rfl
 have m4 := L0.cell (j := 4) rfl
 have n0 := L2.cell (j := 0) rfl
 have n1 := L2.cell (j := 1) rfl
 have n2 := L2.cell (j := 2) rfl
 have n3 := L2.cell (j := 3) rfl
 have n4 := L2.cell (j := 4) rfl
 have o0 := L2.frozen 0
 have o1 := L2.frozen 1
 have o2 := L2.frozen 2
 have o3 := L2.frozen 3
 have o4 := L2.frozen 4
 go_wp2
 have R := J3A L2 (.slice (some ⟨gp, 0, none⟩) zs.length c1) (.int .i64 wr) (.slice ua un uc) (.bool dead) (.slice fa fn fc)
 have RG := Jbb (b := w.heap.size + 2) LG (by omega) (.slice (some ⟨gp, 0, none⟩) zs.length c1) (.int .i64 wr) (.slice ua un uc) (.bool dead) (.slice fa fn fc)
 have b9 := J4L b8 (Nat.le_add_right w.heap.size 2) (.slice (some ⟨gp, 0, none⟩) zs.length c1) (.int .i64 wr) (.slice ua un uc) (.bool dead) (.slice fa fn fc)
 have r0 := R.cell (j := 0) rfl
 have r1 := R.cell (j := 1) rfl
 have r2 := R.cell (j := 2) rfl
 have r3 := R.cell (j := 3) rfl
 have r4 := R.cell (j := 4) rfl
 clear R
 simp only [J1Y] at r0 r1 r2 r3 r4 b9 RG
 generalize ((((((W7.setCell ⟨gp, p, none⟩ (.string st)).setCell ⟨w.heap.size + 2, 0, none⟩ (.slice (some ⟨gp, 0, none⟩) zs.length c1)).setCell ⟨w.heap.size + 2, 1, none⟩ (.int .i64 wr)).setCell ⟨w.heap.size + 2, 2, none⟩ (.slice ua un uc)).setCell ⟨w.heap.size + 2, 3, none⟩ (.bool dead)).setCell ⟨w.heap.size + 2, 4, none⟩ (.slice fa fn fc)) = Wf at r0 r1 r2 r3 r4 b9 RG ⊢
 refine bodyPost_ret (v := J1c (.slice (some ⟨gp, 0, none⟩) zs.length c1) wr (.slice ua un uc) dead (.slice fa fn fc)) ?_ rfl ⟨_, rfl, .inr ⟨gp, c1, by simp, by simpa using hc1, by omega, ?_⟩, b9⟩
 ·simp [results, Try.results46, go_sem, r0, r1, r2, r3, r4]
 ·have e1 : zs.getD p ByteArray.empty = zs[p] := by simp [hp]
  have e2 : zs[p].data.toList.getD b 0 = zs[p].data[b] := by
   rw [List.getD_eq_getElem?_getD, List.getElem?_eq_getElem (by simpa using hbz)]
   rfl
  rw [List.map_set, e1, e2, hx, hst]
  exact RG
end Go.Proofs
end
section
namespace Go.Proofs
open Go.Shelf Go.RowKit Go.Lib
set_option linter.unusedSimpArgs false
set_option linter.unusedVariables false
set_option maxHeartbeats 2000000 in
set_option maxRecDepth 100000 in
theorem Try.clone_faults (b off n c : Nat) (cs : List Value) (w : World) (hn : cs.length = n * 6) (hone : ∀ u ∈ cs, u.oneCell' = true) (hbig : n ≤ 1000000) (hcs : ∀ (j : Nat) u, cs[j]? = some u → w.cell? ⟨b, off + j, none⟩ = some u) :
  Calls Try.prog 38 #[.slice (some ⟨b, off, none⟩) n c] w fun e w' => ∃ v', e = .returned v' ∧ w'.ownsRow w.heap.size 37 6 v' n cs ∧ Below w.heap.size w w' := by
 have mixed : Try.prog.follows .mixedOrders = true := by kernel_rfl
 have hinfo : (Try.prog.info? 37).map (fun i => (i.zero, i.size, i.bytes)) = some (some (Value.agg #[.int .i64 0, .int .i64 0, .int .i64 0, .int .i64 0, .int .i64 0, .int .u8 0]), 6, 48) := by kernel_rfl
 obtain ⟨i0, hi, hz0, hz1, hz2⟩ := info_parts hinfo
 have q22 : ∀ (w : World) (a : Option Addr) (n c n' c' : Nat), (binOp .eql 28 (.slice a n c) (.slice none n' c')).run Try.prog w = .ok (.bool a.isNone) w := fun w a n c n' c' => Lib.run_eql_slice_nil w _ _ a n c n' c' Try.underlying28
 have A : Aside (∀ (j : Nat) u, cs[j]? = some u → w.cell? ⟨b, off + j, none⟩ = some u) := hcs
 clear hcs
 go_enter Try.func38, Try.ntmps38
 go_wp2_with (at_builtin; refine wpList_append_own _ rfl _ _ 28 rfl w.heap.size 37 i0 (.agg #[.int .i64 0, .int .i64 0, .int .i64 0, .int .i64 0, .int .i64 0, .int .u8 0]) 6 48 Try.underlying28 hi hz0 hz1 hz2 rfl (by decide) _ _ _ rfl (World.ownsRow_made w #[] 0 (Nat.le_refl _) (Nat.zero_le _) rfl) ⟨b, off, none⟩ n c cs rfl ?qc1 ?qc2 ?qc3 ?qc4 ?qc5 ?qc6 ?_)
 case qc1 => omega
 case qc2 =>
  intro j u hj
  rw [Addr.add_lit]
  exact Lib.cell?_alloc_some _ (A.out j u hj)
 case qc3 => exact hone
 case qc4 => unfold maxLen; omega
 case qc5 => omega
 case qc6 => simp
 intro v' w1 hown hgrow hnil
 go_wp2
 go_ret
 refine ⟨v', rfl, by simpa using hown, ?_⟩
 exact ((Below.refl _ w).alloc (Nat.le_refl _) _).grown hgrow (by simp) (by intro k hk; simp [Value.ownBlock] at hk; omega)
set_option maxHeartbeats 1000000 in
theorem Try.clone_faults_nil (n c : Nat) (w : World) : Calls Try.prog 38 #[.slice none n c] w fun e w' => e = .returned (.slice none 0 0) ∧ w' = w := by
 have mixed : Try.prog.follows .mixedOrders = true := by kernel_rfl
 have q22 : ∀ (w : World) (a : Option Addr) (n c n' c' : Nat), (binOp .eql 28 (.slice a n c) (.slice none n' c')).run Try.prog w = .ok (.bool a.isNone) w := fun w a n c n' c' => Lib.run_eql_slice_nil w _ _ a n c n' c' Try.underlying28
 go_enter Try.func38, Try.ntmps38
 go_wp2
 go_ret
 exact ⟨rfl, rfl⟩
end Go.Proofs
end
section
namespace Go.Proofs
open Go.Shelf Go.RowKit Go.Lib
set_option linter.unusedSimpArgs false
set_option linter.unusedVariables false
def atW (P : Int) (r : List Value) : Bool := match r with
 | [_, .int _ n, _, _, _, _] => n == P
 | _ => false
structure Now (W0 : World) (F dB nB b : Nat) (P : Int) (done : List (List Value)) (W : World) : Prop where
 size : F ≤ W.heap.size
 keep : ∀ k, k < F → k ≠ nB → k ≠ b → W.heap[k]? = W0.heap[k]?
 os : W.os = W0.os
 output : W.output = W0.output
 wr : W.cell? ⟨dB, 1, none⟩ = some (.int .i64 P)
 now : ∃ v, Has W nB [v] ∧ W.ownsRow F 37 6 v (done.filter (atW P)).length (done.filter (atW P)).flatten
def Jlu (nB q : Nat) (W : World) : Prop := q < W.heap.size ∧ q ≠ nB ∧ ∀ v, W.cell? ⟨nB, 0, none⟩ = some v → v.ownBlock ≠ some q
theorem Try.enters43 (args : Array Value) (w : World) : (callFunc 43 args).run Try.prog w = .ok (.enter 43 args) w := by
 first
  | exact enters_of Try.func43 (by decide) rfl args w
  | exact Enters.callFunc (enters_of Try.func43 (by decide) rfl) args w
set_option maxHeartbeats 4000000 in
set_option maxRecDepth 100000 in
theorem Try.wr43 (dB nB : Nat) (P a0 a1 a2 a3 a4 a5 : Int) (v : Value) (F n : Nat) (xs : List Value) (W : World) (hd : W.cell? ⟨dB, 1, none⟩ = some (.int .i64 P)) (hn : Has W nB [v]) (ho : W.ownsRow F 37 6 v n xs) (hF : F ≤ W.heap.size) (hnF : nB < F) (hdF : dB < F) (hdn : dB ≠ nB) (hbig : n ≤ 1000000) :
  Calls Try.prog 43 #[.agg #[.int .i64 a0, .int .i64 a1, .int .i64 a2, .int .i64 a3, .int .i64 a4, .int .u8 a5], .pointer (some ⟨dB, 0, none⟩), .pointer (some ⟨nB, 0, none⟩)] W fun e W' => e = .returned (.bool (a1 == P)) ∧
   W.heap.size ≤ W'.heap.size ∧ (∀ k, k < W.heap.size → k ≠ nB → v.ownBlock ≠ some k → W'.heap[k]? = W.heap[k]?) ∧ W'.os = W.os ∧ W'.output = W.output ∧
   ∃ v', Has W' nB [v'] ∧ W'.ownsRow F 37 6 v' (n + (if a1 == P then 1 else 0)) (xs ++ if a1 == P then [.int .i64 a0, .int .i64 a1, .int .i64 a2, .int .i64 a3, .int .i64 a4, .int .u8 a5] else []) := by
 have mixed : Try.prog.follows .mixedOrders = true := by kernel_rfl
 have hinfo : (Try.prog.info? 37).map (fun i => (i.zero, i.size, i.bytes)) = some (some (Value.agg #[.int .i64 0, .int .i64 0, .int .i64 0, .int .i64 0, .int .i64 0, .int .u8 0]), 6, 48) := by kernel_rfl
 obtain ⟨i0, hi, hz0, hz1, hz2⟩ := info_parts hinfo
 have hdl : dB < W.heap.size := block_lt_of_cell hd
 have hnl : nB < W.heap.size := hn.lt
 have n0 : W.cell? ⟨nB, 0, none⟩ = some v := hn.cell rfl
 go_enter Try.func43, Try.ntmps43
 by_cases he : a1 = P
 ·subst he
  have ho2 := (ho.alloc (.cells #[.int .i64 a0, .int .i64 a1, .int .i64 a2, .int .i64 a3, .int .i64 a4, .int .u8 a5] 37)).alloc (.cells #[.int .i64 a0, .int .i64 a1, .int .i64 a2, .int .i64 a3, .int .i64 a4, .int .u8 a5] 37)
  have hnews : ∀ (j : Nat) u, [Value.int .i64 a0, .int .i64 a1, .int .i64 a2, .int .i64 a3, .int .i64 a4, .int .u8 a5][j]? = some u → ((W.alloc (.cells #[.int .i64 a0, .int .i64 a1, .int .i64 a2, .int .i64 a3, .int .i64 a4, .int .u8 a5] 37)).alloc (.cells #[.int .i64 a0, .int .i64 a1, .int .i64 a2, .int .i64 a3, .int .i64 a4, .int .u8 a5] 37)).cell? ((⟨W.heap.size + 1, 0, none⟩ : Addr).add j) = some u := by
   intro j u hj
   rw [Addr.add_lit, Nat.zero_add]
   have := J4b (W.alloc (.cells #[.int .i64 a0, .int .i64 a1, .int .i64 a2, .int .i64 a3, .int .i64 a4, .int .u8 a5] 37)) #[.int .i64 a0, .int .i64 a1, .int .i64 a2, .int .i64 a3, .int .i64 a4, .int .u8 a5] 37
   rw [Je] at this
   exact this.cell hj
  have hn2 : Has ((W.alloc (.cells #[.int .i64 a0, .int .i64 a1, .int .i64 a2, .int .i64 a3, .int .i64 a4, .int .u8 a5] 37)).alloc (.cells #[.int .i64 a0, .int .i64 a1, .int .i64 a2, .int .i64 a3, .int .i64 a4, .int .u8 a5] 37)) nB [v] := (hn.alloc _).alloc _
  have hs2 : ((W.alloc (.cells #[.int .i64 a0, .int .i64 a1, .int .i64 a2, .int .i64 a3, .int .i64 a4, .int .u8 a5] 37)).alloc (.cells #[.int .i64 a0, .int .i64 a1, .int .i64 a2, .int .i64 a3, .int .i64 a4, .int .u8 a5] 37)).heap.size = W.heap.size + 2 := by rw [Je, Je]
  have hd2 : ((W.alloc (.cells #[.int .i64 a0, .int .i64 a1, .int .i64 a2, .int .i64 a3, .int .i64 a4, .int .u8 a5] 37)).alloc (.cells #[.int .i64 a0, .int .i64 a1, .int .i64 a2, .int .i64 a3, .int .i64 a4, .int .u8 a5] 37)).cell? ⟨dB, 1, none⟩ = some (.int .i64 a1) := by
   rw [World.cell?_of_block (w := W) (a := ⟨dB, 1, none⟩) ((Below.heap_alloc _ _ _ (by rw [Je]; show dB < _; omega)).trans (Below.heap_alloc _ _ _ hdl))]
   exact hd
  have hk2 : ∀ k, k < W.heap.size → ((W.alloc (.cells #[.int .i64 a0, .int .i64 a1, .int .i64 a2, .int .i64 a3, .int .i64 a4, .int .u8 a5] 37)).alloc (.cells #[.int .i64 a0, .int .i64 a1, .int .i64 a2, .int .i64 a3, .int .i64 a4, .int .u8 a5] 37)).heap[k]? = W.heap[k]? := fun k hk => (Below.heap_alloc _ _ _ (by rw [Je]; omega)).trans (Below.heap_alloc _ _ _ hk)
  have ho9 : ((W.alloc (.cells #[.int .i64 a0, .int .i64 a1, .int .i64 a2, .int .i64 a3, .int .i64 a4, .int .u8 a5] 37)).alloc (.cells #[.int .i64 a0, .int .i64 a1, .int .i64 a2, .int .i64 a3, .int .i64 a4, .int .u8 a5] 37)).os = W.os := rfl
  have hu9 : ((W.alloc (.cells #[.int .i64 a0, .int .i64 a1, .int .i64 a2, .int .i64 a3, .int .i64 a4, .int .u8 a5] 37)).alloc (.cells #[.int .i64 a0, .int .i64 a1, .int .i64 a2, .int .i64 a3, .int .i64 a4, .int .u8 a5] 37)).output = W.output := rfl
  go_wp2_with (at_builtin; refine wpList_append_own _ rfl _ _ 28 rfl F 37 i0 (.agg #[.int .i64 0, .int .i64 0, .int .i64 0, .int .i64 0, .int .i64 0, .int .u8 0]) 6 48 Try.underlying28 hi hz0 hz1 hz2 rfl (by decide) v n xs rfl ho2 ⟨W.heap.size + 1, 0, none⟩ 1 1 [.int .i64 a0, .int .i64 a1, .int .i64 a2, .int .i64 a3, .int .i64 a4, .int .u8 a5] rfl rfl hnews ?qc3 ?qc4 ?qc5 ?qc6 ?_)
  case qc3 => intro u hu; simp at hu; rcases hu with rfl | rfl | rfl | rfl | rfl | rfl <;> rfl
  case qc4 => unfold maxLen; omega
  case qc5 => omega
  case qc6 => rw [hs2]; omega
  intro v' w1 hown hgrow hnil
  obtain ⟨a', k', c', rfl⟩ : ∃ a k c, v' = .slice a k c := by
   rcases hown.2 with ⟨h, _⟩ | ⟨g, c, cur, h, _⟩
   ·exact ⟨_, _, _, h⟩
   ·exact ⟨_, _, _, h⟩
  have hv : ∀ k, v.ownBlock = some k → F ≤ k ∧ k < W.heap.size := fun k hk => ho.lt k hk
  have hvb : ∀ k, some k ≠ v.ownBlock ∨ F ≤ k ∧ k < W.heap.size := fun k => by
   by_cases e : v.ownBlock = some k
   ·exact .inr (hv k e)
   ·exact .inl (fun h => e h.symm)
  have hn1 : Has w1 nB [v] := hn2.of_block (hgrow.block nB (by omega) ((hvb nB).resolve_right (fun h => by omega)))
  have e1 : w1.heap[dB]? = ((W.alloc (.cells #[.int .i64 a0, .int .i64 a1, .int .i64 a2, .int .i64 a3, .int .i64 a4, .int .u8 a5] 37)).alloc (.cells #[.int .i64 a0, .int .i64 a1, .int .i64 a2, .int .i64 a3, .int .i64 a4, .int .u8 a5] 37)).heap[dB]? := hgrow.block dB (by omega) ((hvb dB).resolve_right (fun h => by omega))
  have hd1 : w1.cell? ⟨dB, 1, none⟩ = some (.int .i64 a1) := (World.cell?_of_block (a := ⟨dB, 1, none⟩) e1).trans hd2
  have hf1 : w1.cell? ⟨W.heap.size, 1, none⟩ = some (.int .i64 a1) := by
   have e2 : w1.heap[W.heap.size]? = ((W.alloc (.cells #[.int .i64 a0, .int .i64 a1, .int .i64 a2, .int .i64 a3, .int .i64 a4, .int .u8 a5] 37)).alloc (.cells #[.int .i64 a0, .int .i64 a1, .int .i64 a2, .int .i64 a3, .int .i64 a4, .int .u8 a5] 37)).heap[W.heap.size]? := hgrow.block W.heap.size (by omega) ((hvb _).resolve_right (fun h => by omega))
   exact (World.cell?_of_block (a := ⟨W.heap.size, 1, none⟩) e2).trans (((J4b W #[.int .i64 a0, .int .i64 a1, .int .i64 a2, .int .i64 a3, .int .i64 a4, .int .u8 a5] 37).alloc _).cell (j := 1) rfl)
  have hn3 := hn1.set (i := 0) (.slice a' k' c')
  have hk1 : ∀ k, k < W.heap.size → k ≠ nB → v.ownBlock ≠ some k → (w1.setCell ⟨nB, 0, none⟩ (.slice a' k' c')).heap[k]? = W.heap[k]? := fun k hk h1 h2 =>
   ((Below.heap_setCell w1 ⟨nB, 0, none⟩ _ k h1).trans (hgrow.block k (by omega) (fun h => h2 h.symm))).trans (hk2 k hk)
  have hz1 : W.heap.size ≤ (w1.setCell ⟨nB, 0, none⟩ (.slice a' k' c')).heap.size := by
   have := hgrow.size
   rw [hs2] at this
   simp [World.setCell]
   omega
  have hgr : w1.grownBy (w1.setCell ⟨nB, 0, none⟩ (.slice a' k' c')) (some nB) := ⟨rfl, rfl, rfl, by simp [World.setCell], fun k hk h => Below.heap_setCell w1 ⟨nB, 0, none⟩ _ k (fun e => h (by rw [e]))⟩
  have hown3 := hown.kept hgr (by
   cases hb : (Value.slice a' k' c').ownBlock with
   | none => exact .inl rfl
   | some q => exact .inr (fun e => by have := (hown.lt q hb).1; injection e with e; omega))
  have ho3 : (w1.setCell ⟨nB, 0, none⟩ (.slice a' k' c')).os = W.os := hgrow.os
  have hu3 : (w1.setCell ⟨nB, 0, none⟩ (.slice a' k' c')).output = W.output := hgrow.output
  have q0 := hn1.cell (j := 0) rfl
  have q1 := hn1.frozen 0
  have hd3 : (w1.setCell ⟨nB, 0, none⟩ (.slice a' k' c')).cell? ⟨dB, 1, none⟩ = some (.int .i64 a1) := (World.cell?_of_block (w := w1) (a := ⟨dB, 1, none⟩) (Below.heap_setCell w1 ⟨nB, 0, none⟩ _ dB hdn)).trans hd1
  have hf3 : (w1.setCell ⟨nB, 0, none⟩ (.slice a' k' c')).cell? ⟨W.heap.size, 1, none⟩ = some (.int .i64 a1) := (World.cell?_of_block (w := w1) (a := ⟨W.heap.size, 1, none⟩) (Below.heap_setCell w1 ⟨nB, 0, none⟩ _ W.heap.size (by show W.heap.size ≠ nB; omega))).trans hf1
  clear hgrow hgr hn1 hn2 hnews ho2 hd1 hf1 e1 hnil hown hd2 hk2 ho9 hu9 hvb
  go_wp2
  ·go_ret
   refine ⟨by simp, hz1, hk1, ho3, hu3, _, hn3, by simpa using hown3⟩
  ·rename_i h
   exact absurd (by simp) h
 ·go_wp2
  go_ret
  have hef : (a1 == P) = false := by simpa using he
  refine ⟨rfl, by rw [Je]; omega, fun k hk _ _ => Below.heap_alloc _ _ _ hk, rfl, rfl, v, hn.alloc _, ?_⟩
  have := ho.alloc (.cells #[.int .i64 a0, .int .i64 a1, .int .i64 a2, .int .i64 a3, .int .i64 a4, .int .u8 a5] 37)
  simpa [hef] using this
theorem Now.own_ne {W0 W : World} {F dB nB b : Nat} {P : Int} {done : List (List Value)} (h : Now W0 F dB nB b P done W) {v : Value} (hv : W.cell? ⟨nB, 0, none⟩ = some v) {k : Nat} (hk : v.ownBlock = some k) : F ≤ k ∧ k < W.heap.size := by
 obtain ⟨v', hn, ho⟩ := h.now
 have := hn.cell (j := 0) rfl
 rw [hv] at this
 injection this with this
 subst this
 exact ho.lt k hk
theorem Try.asked_now (W0 : World) (F dB nB b : Nat) (P : Int) (hnF : nB < F) (hdF : dB < F) (hbF : b < F) (hdn : dB ≠ nB) (hbn : b ≠ nB) (hbd : dB ≠ b) :
  JaU 43 #[.pointer (some ⟨dB, 0, none⟩), .pointer (some ⟨nB, 0, none⟩)] b (atW P) (Now W0 F dB nB b P) (Jlu nB) where
 enters := Try.enters43
 call := by
  intro done a0 a1 a2 a3 a4 a5 W hl hJ
  obtain ⟨v, hn, ho⟩ := id hJ.now
  have hlen : (done.filter (atW P)).length ≤ 1000000 := Nat.le_trans (List.length_filter_le _ _) hl
  refine (Try.wr43 dB nB P a0 a1 a2 a3 a4 a5 v F _ _ W hJ.wr hn ho hJ.size hnF hdF hdn hlen).mono ?_
  rintro e W' ⟨rfl, hs, hk, hos, hout, v', hn', ho'⟩
  have hno : ∀ k, k < F → v.ownBlock ≠ some k := fun k hk h => by have := (ho.lt k h).1; omega
  refine ⟨rfl, ⟨Nat.le_trans hJ.size hs, fun k h1 h2 h3 => (hk k (Nat.lt_of_lt_of_le h1 hJ.size) h2 (hno k h1)).trans (hJ.keep k h1 h2 h3), hos.trans hJ.os, hout.trans hJ.output, ?_, v', hn', ?_⟩, fun q hq => hk q hq.1 hq.2.1 (hq.2.2 v (hn.cell rfl))⟩
  ·exact (World.cell?_of_block (w := W) (a := ⟨dB, 1, none⟩) (hk dB (Nat.lt_of_lt_of_le hdF hJ.size) hdn (hno dB hdF))).trans hJ.wr
  ·by_cases h : (a1 == P) = true
   ·have h1 : atW P [.int .i64 a0, .int .i64 a1, .int .i64 a2, .int .i64 a3, .int .i64 a4, .int .u8 a5] = true := h
    rw [if_pos h, if_pos h] at ho'
    rw [List.filter_append, List.filter_cons_of_pos h1, List.filter_nil, List.flatten_append, List.length_append]
    simpa using ho'
   ·have h1 : ¬ atW P [.int .i64 a0, .int .i64 a1, .int .i64 a2, .int .i64 a3, .int .i64 a4, .int .u8 a5] = true := h
    rw [if_neg h, if_neg h] at ho'
    rw [List.filter_append, List.filter_cons_of_neg h1, List.filter_nil, List.append_nil]
    simpa using ho'
 alloc := by
  intro done W o h
  obtain ⟨v, hn, ho⟩ := id h.now
  exact ⟨by rw [Je]; exact Nat.le_succ_of_le h.size, fun k h1 h2 h3 => (Below.heap_alloc _ _ _ (Nat.lt_of_lt_of_le h1 h.size)).trans (h.keep k h1 h2 h3), h.os, h.output,
   (World.cell?_of_block (w := W) (a := ⟨dB, 1, none⟩) (Below.heap_alloc _ _ _ (Nat.lt_of_lt_of_le hdF h.size))).trans h.wr, v, hn.alloc _, ho.alloc _⟩
 put := by
  intro done W o u h
  obtain ⟨v, hn, ho⟩ := id h.now
  have hgr : W.grownBy (W.setCell ⟨b, o, none⟩ u) (some b) := ⟨rfl, rfl, rfl, by simp [World.setCell], fun k hk h => Below.heap_setCell W ⟨b, o, none⟩ _ k (fun e => h (by rw [e]))⟩
  refine ⟨by simpa [World.setCell] using h.size, fun k h1 h2 h3 => (Below.heap_setCell W ⟨b, o, none⟩ u k h3).trans (h.keep k h1 h2 h3), h.os, h.output,
   (World.cell?_of_block (w := W) (a := ⟨dB, 1, none⟩) (Below.heap_setCell W ⟨b, o, none⟩ u dB hbd)).trans h.wr, v, hn.other (a := ⟨b, o, none⟩) (fun e => hbn e.symm) u, ho.kept hgr ?_⟩
  cases hb : v.ownBlock with
  | none => exact .inl rfl
  | some q => exact .inr (fun e => by have := (ho.lt q hb).1; injection e with e; omega)
 free_b := by
  intro done W h
  exact ⟨Nat.lt_of_lt_of_le hbF h.size, hbn, fun v hv hb => by have := (h.own_ne hv hb).1; omega⟩
 free_new := by
  intro done W o h
  refine ⟨by rw [Je]; exact Nat.lt_succ_self _, fun e => by have := h.size; omega, fun v hv hb => ?_⟩
  obtain ⟨v', hn, ho⟩ := h.now
  have h1 := (hn.alloc o).cell (j := 0) rfl
  rw [hv] at h1
  injection h1 with h1
  subst h1
  exact Nat.lt_irrefl _ (ho.lt _ hb).2
end Go.Proofs
end
section
namespace Go.Proofs
open Go.Shelf Go.RowKit Go.Lib
open Go.Am (FT)
set_option linter.unusedSimpArgs false
set_option linter.unusedVariables false
abbrev J1j (f : FT) : List Value := [.int .i64 f.1, .int .i64 f.2.1, .int .i64 f.2.2.1, .int .i64 f.2.2.2.1, .int .i64 f.2.2.2.2.1, .int .u8 f.2.2.2.2.2]
def J6d : List FT → Value
 | [] => .iface 89 (.agg #[])
 | f :: l => if f.1 = 1 then .iface 70 (.agg #[]) else if f.1 = 2 then .iface 72 (.agg #[.int .i64 f.2.2.2.1]) else if f.1 = 3 then .iface 75 (.agg #[.int .i64 f.2.2.2.2.1]) else J6d l
set_option maxHeartbeats 4000000 in
set_option maxRecDepth 100000 in
theorem Try.eff44 (b c : Nat) (fs : List FT) (W : World) (hlen : fs.length ≤ 1000000) (hr : J2F W b (fs.map J1j)) :
  Calls Try.prog 44 #[.slice (some ⟨b, 0, none⟩) fs.length c] W fun e W' => e = .returned (J6d fs) ∧ Below W.heap.size W W' := by
 have mixed : Try.prog.follows .mixedOrders = true := by kernel_rfl
 have HR : Hid (J2F W b (fs.map J1j)) := hr
 clear hr
 go_enter Try.func44, Try.ntmps44
 go_wp2
 go_loopw [7] (fun i wr => ∃ k : Nat, k ≤ fs.length ∧ i = .int .i64 k ∧ J6d (fs.drop k) = J6d fs ∧ Below W.heap.size W wr) (fun i _ => fs.length - (intOf i).toNat)
 case atStart => exact ⟨0, Nat.zero_le _, rfl, rfl, Below.refl _ _⟩
 case round =>
  obtain ⟨k, hk, rfl, hek, hbk⟩ := hrel
  have HE : Hid (J6d (fs.drop k) = J6d fs) := hek
  have HB : Hid (Below W.heap.size W wr) := hbk
  clear hek hbk
  by_cases hlt : k < fs.length
  ·have hlt2 : (k : Int) < (fs.length : Int) := by omega
   have hk0 : (0 : Int) ≤ (k : Int) := by omega
   have hrow : (fs.map J1j)[k]? = some (J1j fs[k]) := by simp [hlt]
   have hd := List.drop_eq_getElem_cons hlt
   have hE2 := HE.out
   rw [hd] at hE2
   generalize fs[k] = f at hrow hE2
   obtain ⟨a0, a1, a2, a3, a4, a5⟩ := f
   have hb : b < W.heap.size := block_lt_of_cell (HR.out k _ hrow 0 _ rfl)
   have cell : ∀ j v, (J1j (a0, a1, a2, a3, a4, a5))[j]? = some v → wr.cell? ⟨b, k * 6 + j, none⟩ = some v := fun j v hj => (HB.out.cell (p := ⟨b, k * 6 + j, none⟩) hb).trans (HR.out k _ hrow j v hj)
   have d0 : wr.cell? ⟨b, k * 6, none⟩ = some (.int .i64 a0) := cell 0 _ rfl
   have d1 : wr.cell? ⟨b, k * 6 + 1, none⟩ = some (.int .i64 a1) := cell 1 _ rfl
   have d2 : wr.cell? ⟨b, k * 6 + 2, none⟩ = some (.int .i64 a2) := cell 2 _ rfl
   have d3 : wr.cell? ⟨b, k * 6 + 3, none⟩ = some (.int .i64 a3) := cell 3 _ rfl
   have d4 : wr.cell? ⟨b, k * 6 + 4, none⟩ = some (.int .i64 a4) := cell 4 _ rfl
   have d5 : wr.cell? ⟨b, k * 6 + 5, none⟩ = some (.int .u8 a5) := cell 5 _ rfl
   have HE3 : Hid (J6d ((a0, a1, a2, a3, a4, a5) :: fs.drop (k + 1)) = J6d fs) := hE2
   clear cell hrow hd hE2
   by_cases h1 : a0 = 1
   ·subst h1
    go_wp2
    go_ret
    exact ⟨by rw [← HE3.out]; rfl, HB.out.alloc HB.out.size _⟩
   ·by_cases h2 : a0 = 2
    ·subst h2
     go_wp2
     go_ret
     exact ⟨by rw [← HE3.out]; rfl, HB.out.alloc HB.out.size _⟩
    ·by_cases h3 : a0 = 3
     ·subst h3
      go_wp2
      go_ret
      exact ⟨by rw [← HE3.out]; rfl, HB.out.alloc HB.out.size _⟩
     ·go_wp2
      refine ⟨⟨k + 1, hlt, rfl, ?_, HB.out.alloc HB.out.size _⟩, ?_⟩
      ·rw [← HE3.out]
       simp [J6d, h1, h2, h3]
      ·simp only [intOf]; omega
  ·have hk2 : k = fs.length := by omega
   subst hk2
   go_wp2
   go_ret
   refine ⟨?_, HB.out⟩
   have := HE.out
   rw [List.drop_length] at this
   rw [← this]
   rfl
end Go.Proofs
end
section
namespace Go.Proofs
open Go.Shelf Go.RowKit Go.Lib
set_option linter.unusedSimpArgs false
set_option linter.unusedVariables false
theorem JmM {w W W6 : World} (h : Below w.heap.size w W) (k : Below W.heap.size W W6) : Below w.heap.size w W6 := h.trans (k.mono h.size)
theorem Try.bin_int (v : Value) (us : List Int) (x : Int) (w : World) (h : J51 w v (us.map (Value.int .i64))) (hlen : us.length ≤ 1000000) (hs : us.Pairwise (· ≤ ·)) :
  Calls Try.prog 65 #[v, .int .i64 x] w fun e w' => e = .returned (.tuple #[.int .i64 (us.countP (· < x) : Nat), .bool (us.contains x)]) ∧ ∃ q, w' = w.drewN q := by
 obtain ⟨a, c, rfl, hc, hl⟩ := h
 rw [List.length_map] at hc ⊢
 rcases hl with hl | ⟨b, o, rfl, hb, hcc⟩
 ·have h0 : us = [] := by simpa using hl
  subst h0
  exact (Any.slices_BinarySearch_int_empty Try.binI a c x w).mono fun e w' ⟨h1, h2⟩ => ⟨h1, 0, h2⟩
 ·have := Any.slices_BinarySearch_int Try.binI b o us.length c us x w (Nat.le_refl _) (by omega) (fun j hj => by
   rw [hcc j (.int .i64 us[j]) (by simp [hj]), List.getD_eq_getElem?_getD, List.getElem?_eq_getElem hj]; rfl) (by rw [List.take_length]; exact hs)
  rw [List.take_length] at this
  exact this
theorem Try.ins_1 {B B0 : Nat} {W6 : World} {v6 : Value} {us : List Int} (ho : Own B W6 v6 (us.map (Value.int .i64))) (h0 : B0 ≤ B) (hB : B ≤ W6.heap.size) (i : Nat) (n : Int) (hi : i ≤ us.length) (hlen : us.length ≤ 1000000) :
  Calls Try.prog 66 #[v6, .int .i64 i, .slice (some ⟨W6.heap.size, 0, none⟩) 1 1] (W6.alloc (.cells #[.int .i64 n] 3)) fun e w' => ∃ v', e = .returned v' ∧ New B0 w' v' ((us.take i ++ n :: us.drop i).map (Value.int .i64)) ∧ Below B0 (W6.alloc (.cells #[.int .i64 n] 3)) w' := by
 have hb : Below W6.heap.size W6 (W6.alloc (.cells #[.int .i64 n] 3)) := (Below.refl _ _).alloc (Nat.le_refl _) _
 have hx : (W6.alloc (.cells #[.int .i64 n] 3)).heap[W6.heap.size]? = some (.cells #[.int .i64 n] 3) := Array.getElem?_push_size
 refine (Try.ins_int B v6 us i n W6.heap.size _ (ho.below hb) hi hlen (by rw [cell_of_heap hx]; rfl) hx ?_ (by rw [Je]; omega)).mono fun e w' ⟨v', h1, h2, h3⟩ => ⟨v', h1, h2.mono h0, h3.mono h0⟩
 intro a k c hv
 rcases ho with ⟨_, rfl⟩ | ⟨g, c', rfl, _, _, hH, _⟩
 ·cases hv
 ·injection hv with hv; injection hv with hv; rw [← hv]; exact Nat.ne_of_lt hH.lt
theorem Try.ins_2 {B B0 : Nat} {W6 : World} {v6 : Value} {us : List Int} {n : Int} (ho : Own B W6 v6 (us.map (Value.int .i64))) (vb : Nat) (hvb : vb < B) (h0 : B0 ≤ vb) (hB : B ≤ W6.heap.size) (hx : W6.heap[vb]? = some (.cells #[.int .i64 n] 3))
  (i : Nat) (hi : i ≤ us.length) (hlen : us.length ≤ 1000000) :
  Calls Try.prog 66 #[v6, .int .i64 i, .slice (some ⟨vb, 0, none⟩) 1 1] W6 fun e w' => ∃ v', e = .returned v' ∧ New B0 w' v' ((us.take i ++ n :: us.drop i).map (Value.int .i64)) ∧ Below B0 W6 w' := by
 refine (Try.ins_int _ v6 us i n vb _ ho hi hlen (by rw [cell_of_heap hx]; rfl) hx ?_ hB).mono fun e w' ⟨v', h1, h2, h3⟩ => ⟨v', h1, h2.mono (by omega), h3.mono (by omega)⟩
 intro a k c hv
 rcases ho with ⟨_, rfl⟩ | ⟨g, c', rfl, _, hg, hH, _⟩
 ·cases hv
 ·injection hv with hv; injection hv with hv; rw [← hv]; show g ≠ _; omega
set_option maxHeartbeats 1000000 in
set_option maxRecDepth 100000 in
theorem Try.harm_unr (vp vf vu : Value) (us : List Int) (wr t p g b : Int) (dead : Bool) (m : Int) (w : World) (hu : us.length ≤ 1000000) (hs : us.Pairwise (· ≤ ·))
    (hU : J51 w vu (us.map (Value.int .i64))) (hP : ∃ a n c, vp = .slice a n c) (hF : ∃ a n c, vf = .slice a n c) :
    Calls Try.prog 46 #[J1c vp wr vu dead vf, Jje 5 t p g b m] w fun e w' => ∃ vu', e = .returned (J1c vp wr vu' dead vf) ∧
      (us.contains p = true ∧ vu' = vu ∨ us.contains p = false ∧ New w.heap.size w' vu' ((us.take (us.countP (· < p)) ++ p :: us.drop (us.countP (· < p))).map (Value.int .i64))) ∧ Below w.heap.size w w' := by
  have mixed : Try.prog.follows .mixedOrders = true := by kernel_rfl
  obtain ⟨fa, fn, fc, rfl⟩ := hF
  obtain ⟨pa, pn, pc, rfl⟩ := hP
  obtain ⟨ua, uc, rfl, -⟩ := id hU
  simp only [List.length_map] at hU
  have b3 := Jal w (.cells #[.slice pa pn pc, .int .i64 wr, .slice ua us.length uc, .bool dead, .slice fa fn fc] 30) (.cells #[.int .i64 5, .int .i64 t, .int .i64 p, .int .i64 g, .int .i64 b, .int .u8 m] 37) (.cells #[.slice none 0 0, .int .i64 0, .slice none 0 0, .bool false, .slice none 0 0] 30)
  obtain ⟨H0, H1, H2⟩ := J8B w [.slice pa pn pc, .int .i64 wr, .slice ua us.length uc, .bool dead, .slice fa fn fc] [.int .i64 5, .int .i64 t, .int .i64 p, .int .i64 g, .int .i64 b, .int .u8 m] [.slice none 0 0, .int .i64 0, .slice none 0 0, .bool false, .slice none 0 0] 30 37 30
  have z3 : (((w.alloc (.cells #[.slice pa pn pc, .int .i64 wr, .slice ua us.length uc, .bool dead, .slice fa fn fc] 30)).alloc (.cells #[.int .i64 5, .int .i64 t, .int .i64 p, .int .i64 g, .int .i64 b, .int .u8 m] 37)).alloc (.cells #[.slice none 0 0, .int .i64 0, .slice none 0 0, .bool false, .slice none 0 0] 30)).heap.size = w.heap.size + 3 := by rw [Je, Je, Je]
  have hU3 := hU.below b3
  go_enter Try.func46, Try.ntmps46
  go_wp2_with (go_at_call 65; refine (Try.bin_int _ us p _ hU3 hu hs).mono ?_)
  rintro e W4 ⟨rfl, q, rfl⟩
  have G0 := H0.of_block (W' := (((w.alloc (.cells #[.slice pa pn pc, .int .i64 wr, .slice ua us.length uc, .bool dead, .slice fa fn fc] 30)).alloc (.cells #[.int .i64 5, .int .i64 t, .int .i64 p, .int .i64 g, .int .i64 b, .int .u8 m] 37)).alloc (.cells #[.slice none 0 0, .int .i64 0, .slice none 0 0, .bool false, .slice none 0 0] 30)).drewN q) rfl
  have G1 := H1.of_block (W' := (((w.alloc (.cells #[.slice pa pn pc, .int .i64 wr, .slice ua us.length uc, .bool dead, .slice fa fn fc] 30)).alloc (.cells #[.int .i64 5, .int .i64 t, .int .i64 p, .int .i64 g, .int .i64 b, .int .u8 m] 37)).alloc (.cells #[.slice none 0 0, .int .i64 0, .slice none 0 0, .bool false, .slice none 0 0] 30)).drewN q) rfl
  have G2 := H2.of_block (W' := (((w.alloc (.cells #[.slice pa pn pc, .int .i64 wr, .slice ua us.length uc, .bool dead, .slice fa fn fc] 30)).alloc (.cells #[.int .i64 5, .int .i64 t, .int .i64 p, .int .i64 g, .int .i64 b, .int .u8 m] 37)).alloc (.cells #[.slice none 0 0, .int .i64 0, .slice none 0 0, .bool false, .slice none 0 0] 30)).drewN q) rfl
  have b4 : Below w.heap.size w ((((w.alloc (.cells #[.slice pa pn pc, .int .i64 wr, .slice ua us.length uc, .bool dead, .slice fa fn fc] 30)).alloc (.cells #[.int .i64 5, .int .i64 t, .int .i64 p, .int .i64 g, .int .i64 b, .int .u8 m] 37)).alloc (.cells #[.slice none 0 0, .int .i64 0, .slice none 0 0, .bool false, .slice none 0 0] 30)).drewN q) := ⟨b3.os, b3.tape, b3.output, b3.size, b3.block⟩
  have z4 : ((((w.alloc (.cells #[.slice pa pn pc, .int .i64 wr, .slice ua us.length uc, .bool dead, .slice fa fn fc] 30)).alloc (.cells #[.int .i64 5, .int .i64 t, .int .i64 p, .int .i64 g, .int .i64 b, .int .u8 m] 37)).alloc (.cells #[.slice none 0 0, .int .i64 0, .slice none 0 0, .bool false, .slice none 0 0] 30)).drewN q).heap.size = w.heap.size + 3 := z3
  clear H0 H1 H2 b3 z3 hU3
  generalize (((w.alloc (.cells #[.slice pa pn pc, .int .i64 wr, .slice ua us.length uc, .bool dead, .slice fa fn fc] 30)).alloc (.cells #[.int .i64 5, .int .i64 t, .int .i64 p, .int .i64 g, .int .i64 b, .int .u8 m] 37)).alloc (.cells #[.slice none 0 0, .int .i64 0, .slice none 0 0, .bool false, .slice none 0 0] 30)).drewN q = W4 at G0 G1 G2 b4 z4 ⊢
  have hU4 := hU.below b4
  clear hU
  by_cases hin : us.contains p = true
  · rw [hin]
    have m0 := G0.cell (j := 0) rfl
    have m1 := G0.cell (j := 1) rfl
    have m2 := G0.cell (j := 2) rfl
    have m3 := G0.cell (j := 3) rfl
    have m4 := G0.cell (j := 4) rfl
    have n0 := G2.cell (j := 0) rfl
    have n1 := G2.cell (j := 1) rfl
    have n2 := G2.cell (j := 2) rfl
    have n3 := G2.cell (j := 3) rfl
    have n4 := G2.cell (j := 4) rfl
    have o0 := G2.frozen 0
    have o1 := G2.frozen 1
    have o2 := G2.frozen 2
    have o3 := G2.frozen 3
    have o4 := G2.frozen 4
    go_wp2
    have R := J3A G2 (.slice pa pn pc) (.int .i64 wr) (.slice ua us.length uc) (.bool dead) (.slice fa fn fc)
    have b9 := J4L b4 (Nat.le_add_right w.heap.size 2) (.slice pa pn pc) (.int .i64 wr) (.slice ua us.length uc) (.bool dead) (.slice fa fn fc)
    have r0 := R.cell (j := 0) rfl
    have r1 := R.cell (j := 1) rfl
    have r2 := R.cell (j := 2) rfl
    have r3 := R.cell (j := 3) rfl
    have r4 := R.cell (j := 4) rfl
    clear R
    simp only [J1Y] at r0 r1 r2 r3 r4 b9
    generalize (((((W4.setCell ⟨w.heap.size + 2, 0, none⟩ (.slice pa pn pc)).setCell ⟨w.heap.size + 2, 1, none⟩ (.int .i64 wr)).setCell ⟨w.heap.size + 2, 2, none⟩ (.slice ua us.length uc)).setCell ⟨w.heap.size + 2, 3, none⟩ (.bool dead)).setCell ⟨w.heap.size + 2, 4, none⟩ (.slice fa fn fc)) = Wf at r0 r1 r2 r3 r4 b9 ⊢
    refine bodyPost_ret (v := J1c (.slice pa pn pc) wr (.slice ua us.length uc) dead (.slice fa fn fc)) ?_ rfl ⟨_, rfl, .inl ⟨hin, by simp⟩, b9⟩
    simp [results, Try.results46, go_sem, r0, r1, r2, r3, r4]
  · have hinf : us.contains p = false := by simpa using hin
    rw [hinf]
    have hci : us.countP (· < p) ≤ us.length := List.countP_le_length
    generalize hcg : us.countP (fun x => decide (x < p)) = ci at hci ⊢
    have bd : Below w.heap.size w W4.drew := b4.drew
    have bx : Below w.heap.size w (W4.drew.alloc (.cells #[.int .i64 p] 3)) := bd.alloc bd.size _
    have g0 := G0.of_block (W' := W4.drew) rfl
    have g1 := G1.of_block (W' := W4.drew) rfl
    have g2 := G2.of_block (W' := W4.drew) rfl
    have x0 := g0.alloc (.cells #[.int .i64 p] 3)
    have x1 := g1.alloc (.cells #[.int .i64 p] 3)
    have x2 := g2.alloc (.cells #[.int .i64 p] 3)
    have c0 := G0.cell (j := 2) rfl
    have c1 := G1.cell (j := 2) rfl
    have d0 := g0.cell (j := 2) rfl
    have d1 := g1.cell (j := 2) rfl
    have e0 := x0.cell (j := 2) rfl
    have e1 := x1.cell (j := 2) rfl
    have zd : w.heap.size + 3 ≤ W4.drew.heap.size := Nat.le_of_eq z4.symm
    have zx : w.heap.size + 3 ≤ (W4.drew.alloc (.cells #[.int .i64 p] 3)).heap.size := by rw [Je]; omega
    have hUd : J51 W4.drew (.slice ua us.length uc) (us.map (Value.int .i64)) := hU4
    have hUx : J51 (W4.drew.alloc (.cells #[.int .i64 p] 3)) (.slice ua us.length uc) (us.map (Value.int .i64)) := hUd.below ((Below.refl _ _).alloc (Nat.le_refl _) _)
    have hzz : w.heap.size + 3 < (W4.alloc (.cells #[.int .i64 p] 3)).drew.heap.size := by
      show _ < (W4.alloc _).heap.size
      rw [Je]; omega
    have hxx : (W4.alloc (.cells #[.int .i64 p] 3)).drew.heap[w.heap.size + 3]? = some (.cells #[.int .i64 p] 3) := by
      rw [← z4]; exact Array.getElem?_push_size
    go_wp2
    go_region_with (first
      | (go_at_call 63; refine (Try.clone_ints _ us _ (by assumption) hu).mono ?_; rintro e W6 ⟨v6, rfl, ho6, hb6⟩
         have ho7 : Own (w.heap.size + 3) W6 v6 (us.map (Value.int .i64)) := ho6.mono (by assumption)
         have b6 : Below w.heap.size w W6 := JmM (by assumption) hb6
         have y0 : Has W6 w.heap.size [.slice pa pn pc, .int .i64 wr, .slice ua us.length uc, .bool dead, .slice fa fn fc] := Has.below (by assumption) hb6
         have y2 : Has W6 (w.heap.size + 2) [.slice none 0 0, .int .i64 0, .slice none 0 0, .bool false, .slice none 0 0] := Has.below (by assumption) hb6
         have y1 : Has W6 (w.heap.size + 1) [.int .i64 5, .int .i64 t, .int .i64 p, .int .i64 g, .int .i64 b, .int .u8 m] := Has.below (by assumption) hb6
         have u1 : W6.cell? ⟨w.heap.size + 1, 2, none⟩ = some (.int .i64 p) := y1.cell (j := 2) rfl)
      | (go_at_call 66; first
          | (have hh : Own (W4.alloc (.cells #[.int .i64 p] 3)).drew.heap.size W6 v6 (us.map (Value.int .i64)) := (by with_reducible exact ho6)
             refine (Try.ins_2 (B := (W4.alloc (.cells #[.int .i64 p] 3)).drew.heap.size) (W6 := W6) (v6 := v6) (B0 := w.heap.size + 3) (n := p) hh (w.heap.size + 3) hzz (Nat.le_refl _) hb6.size ((hb6.block _ hzz).trans hxx) ci hci hu).mono ?_
             rintro e W7 ⟨v7, rfl, ho8, hb8⟩
             have q0 : Has W7 w.heap.size [.slice pa pn pc, .int .i64 wr, .slice ua us.length uc, .bool dead, .slice fa fn fc] := y0.of_block (hb8.block _ (by omega))
             have q2 : Has W7 (w.heap.size + 2) [.slice none 0 0, .int .i64 0, .slice none 0 0, .bool false, .slice none 0 0] := y2.of_block (hb8.block _ (by omega))
             have b8 : Below w.heap.size w W7 := b6.trans (hb8.mono (by omega)))
          | (have hh : Own W4.drew.heap.size W6 v6 (us.map (Value.int .i64)) := (by with_reducible exact ho6)
             refine (Try.ins_1 (B := W4.drew.heap.size) (W6 := W6) (v6 := v6) (B0 := w.heap.size + 3) hh zd hb6.size ci p hci hu).mono ?_
             rintro e W7 ⟨v7, rfl, ho8, hb8⟩
             have q0 : Has W7 w.heap.size [.slice pa pn pc, .int .i64 wr, .slice ua us.length uc, .bool dead, .slice fa fn fc] := (y0.alloc _).of_block (hb8.block _ (by omega))
             have q2 : Has W7 (w.heap.size + 2) [.slice none 0 0, .int .i64 0, .slice none 0 0, .bool false, .slice none 0 0] := (y2.alloc _).of_block (hb8.block _ (by omega))
             have b8 : Below w.heap.size w W7 := (b6.alloc b6.size _).trans (hb8.mono (by omega)))
         obtain ⟨a7, c7, hv7⟩ := ho8.size
         generalize (List.map (Value.int .i64) (us.take ci ++ p :: us.drop ci)).length = n7 at hv7
         subst hv7
         have s0 := q0.cell (j := 2) rfl
         have s1 := q0.frozen 2))
    all_goals
      have M0 := q0.set (i := 2) (.slice a7 n7 c7)
      have M2 := q2.other (a := ⟨w.heap.size, 2, none⟩) (by show w.heap.size + 2 ≠ w.heap.size; omega) (.slice a7 n7 c7)
      have M7 := ho8.other (a := ⟨w.heap.size, 2, none⟩) (by show w.heap.size < w.heap.size + 3; omega) (.slice a7 n7 c7)
      have N8 := b8.setCell (p := ⟨w.heap.size, 2, none⟩) (Nat.le_refl _) (.slice a7 n7 c7)
      clear hUd hUx hU4 bd bx g0 g1 g2 x0 x1 x2 c0 c1 d0 d1 e0 e1 zd zx hzz hxx G0 G1 G2 z4 b4 s0 s1 ho8 q0 q2 b8 hb8 hh y0 y1 y2 u1 b6 ho7 ho6 hb6
      generalize W7.setCell ⟨w.heap.size, 2, none⟩ (.slice a7 n7 c7) = W8 at M0 M2 M7 N8 ⊢
      have m0 := M0.cell (j := 0) rfl
      have m1 := M0.cell (j := 1) rfl
      have m2 := M0.cell (j := 2) rfl
      have m3 := M0.cell (j := 3) rfl
      have m4 := M0.cell (j := 4) rfl
      have n0 := M2.cell (j := 0) rfl
      have n1 := M2.cell (j := 1) rfl
      have n2 := M2.cell (j := 2) rfl
      have n3 := M2.cell (j := 3) rfl
      have n4 := M2.cell (j := 4) rfl
      have o0 := M2.frozen 0
      have o1 := M2.frozen 1
      have o2 := M2.frozen 2
      have o3 := M2.frozen 3
      have o4 := M2.frozen 4
      go_wp2
      have R := J3A M2 (.slice pa pn pc) (.int .i64 wr) (.slice a7 n7 c7) (.bool dead) (.slice fa fn fc)
      have b9 := J4L N8 (Nat.le_add_right w.heap.size 2) (.slice pa pn pc) (.int .i64 wr) (.slice a7 n7 c7) (.bool dead) (.slice fa fn fc)
      have R7 := Jqs (b := w.heap.size + 2) M7 (by omega) (.slice pa pn pc) (.int .i64 wr) (.slice a7 n7 c7) (.bool dead) (.slice fa fn fc)
      have r0 := R.cell (j := 0) rfl
      have r1 := R.cell (j := 1) rfl
      have r2 := R.cell (j := 2) rfl
      have r3 := R.cell (j := 3) rfl
      have r4 := R.cell (j := 4) rfl
      clear R
      simp only [J1Y] at r0 r1 r2 r3 r4 b9 R7
      generalize (((((W8.setCell ⟨w.heap.size + 2, 0, none⟩ (.slice pa pn pc)).setCell ⟨w.heap.size + 2, 1, none⟩ (.int .i64 wr)).setCell ⟨w.heap.size + 2, 2, none⟩ (.slice a7 n7 c7)).setCell ⟨w.heap.size + 2, 3, none⟩ (.bool dead)).setCell ⟨w.heap.size + 2, 4, none⟩ (.slice fa fn fc)) = Wf at r0 r1 r2 r3 r4 b9 R7 ⊢
      refine bodyPost_ret (v := J1c (.slice pa pn pc) wr (.slice a7 n7 c7) dead (.slice fa fn fc)) ?_ rfl ⟨_, rfl, .inr ⟨by simpa using hin, by rw [hcg]; exact New.mono (B' := w.heap.size) R7 (Nat.le_add_right _ 3)⟩, b9⟩
      simp [results, Try.results46, go_sem, r0, r1, r2, r3, r4]
end Go.Proofs
end
section
namespace Go.Proofs
open Go.Shelf Go.RowKit Go.Lib
set_option linter.unusedSimpArgs false
set_option linter.unusedVariables false
theorem Has.up {W W' : World} {b B : Nat} {l : List Value} (h : Has W b l) (e : Go.Am.Up B W W') (hb : b < B) : Has W' b l := h.of_block (e.block b hb)
theorem J51.up {W W' : World} {v : Value} {l : List Value} (h : J51 W v l) (e : Go.Am.Up W.heap.size W W') : J51 W' v l := by
 obtain ⟨a, c, h1, h2, h3⟩ := h
 refine ⟨a, c, h1, h2, h3.imp id fun ⟨b, o, e1, e2, e3⟩ => ⟨b, o, e1, Nat.lt_of_lt_of_le e2 e.size, fun j u hj => ?_⟩⟩
 rw [World.cell?_of_block (w := W) (a := ⟨b, o + j, none⟩) (e.block b e2)]
 exact e3 j u hj
theorem J83 (w : World) (A Z : List Value) (a z : TypeId) : Has ((w.alloc (.cells A.toArray a)).alloc (.cells Z.toArray z)) w.heap.size A ∧ Has ((w.alloc (.cells A.toArray a)).alloc (.cells Z.toArray z)) (w.heap.size + 1) Z := by
 refine ⟨(JaH w A a).alloc _, ?_⟩
 have := JaH (w.alloc (.cells A.toArray a)) Z z
 rwa [Je] at this
abbrev JdK : Value := J1c (.slice none 0 0) 0 (.slice none 0 0) false (.slice none 0 0)
set_option maxHeartbeats 4000000 in
set_option maxRecDepth 100000 in
theorem Try.write_err (pa ua fa : Option Addr) (pn pc un uc fn fc : Nat) (wr p er : Int) (dead : Bool) (s : ByteArray) (w : World) (he : er ≠ 0)
  (hus : ∀ W, Go.Am.Up w.heap.size w W → Calls Try.prog 41 #[J1c (.slice pa pn pc) wr (.slice ua un uc) dead (.slice fa fn fc), .int .i64 p] W fun e W' => e = .returned (.int .i64 er) ∧ Go.Am.Up W.heap.size W W') :
  Calls Try.prog 19 #[J1c (.slice pa pn pc) wr (.slice ua un uc) dead (.slice fa fn fc), .int .i64 p, .string s] w fun e w' =>
   e = .returned (.tuple #[JdK, .int .i64 er]) ∧ Go.Am.Up w.heap.size w w' := by
 have mixed : Try.prog.follows .mixedOrders = true := by kernel_rfl
 obtain ⟨H0, H1⟩ := J83 w [.slice pa pn pc, .int .i64 wr, .slice ua un uc, .bool dead, .slice fa fn fc] [.slice none 0 0, .int .i64 0, .slice none 0 0, .bool false, .slice none 0 0] 30 30
 have hsz : ((w.alloc (.cells #[.slice pa pn pc, .int .i64 wr, .slice ua un uc, .bool dead, .slice fa fn fc] 30)).alloc (.cells #[.slice none 0 0, .int .i64 0, .slice none 0 0, .bool false, .slice none 0 0] 30)).heap.size = w.heap.size + 2 := by rw [Je, Je]
 have hb0 : Go.Am.Up w.heap.size w ((w.alloc (.cells #[.slice pa pn pc, .int .i64 wr, .slice ua un uc, .bool dead, .slice fa fn fc] 30)).alloc (.cells #[.slice none 0 0, .int .i64 0, .slice none 0 0, .bool false, .slice none 0 0] 30)) :=
  ((Go.Am.Up.refl _ w).alloc (Nat.le_refl _) _).alloc (by rw [Je]; omega) _
 go_enter Try.func19, Try.ntmps19
 go_wp2_with (go_at_call 41; refine (hus _ hb0).mono ?_)
 rintro e W1 ⟨rfl, hu1⟩
 have hz1 := hu1.size
 rw [hsz] at hz1
 have G1 := H1.up hu1 (by rw [hsz]; omega)
 have hb1 := hb0.trans (hu1.mono (by rw [hsz]; omega))
 have G0 := H0.up hu1 (by rw [hsz]; omega)
 clear H0 H1 hb0 hu1 hsz
 have d1 := G0.cell (j := 1) rfl
 have n0 := G1.cell (j := 0) rfl
 have n1 := G1.cell (j := 1) rfl
 have n2 := G1.cell (j := 2) rfl
 have n3 := G1.cell (j := 3) rfl
 have n4 := G1.cell (j := 4) rfl
 have o0 := G1.frozen 0
 have o1 := G1.frozen 1
 have o2 := G1.frozen 2
 have o3 := G1.frozen 3
 have o4 := G1.frozen 4
 go_wp2
 have R := J3A G1 (.slice none 0 0) (.int .i64 0) (.slice none 0 0) (.bool false) (.slice none 0 0)
 have b9 : Go.Am.Up w.heap.size w (J1Y W1 (w.heap.size + 1) (.slice none 0 0) (.int .i64 0) (.slice none 0 0) (.bool false) (.slice none 0 0)) := hb1.trans (Go.Am.Up.of_below (J4L (Below.refl w.heap.size W1) (Nat.le_add_right w.heap.size 1) _ _ _ _ _))
 have r0 := R.cell (j := 0) rfl
 have r1 := R.cell (j := 1) rfl
 have r2 := R.cell (j := 2) rfl
 have r3 := R.cell (j := 3) rfl
 have r4 := R.cell (j := 4) rfl
 clear R
 simp only [J1Y] at r0 r1 r2 r3 r4 b9
 generalize (((((W1.setCell ⟨w.heap.size + 1, 0, none⟩ (.slice none 0 0)).setCell ⟨w.heap.size + 1, 1, none⟩ (.int .i64 0)).setCell ⟨w.heap.size + 1, 2, none⟩ (.slice none 0 0)).setCell ⟨w.heap.size + 1, 3, none⟩ (.bool false)).setCell ⟨w.heap.size + 1, 4, none⟩ (.slice none 0 0)) = Wf at r0 r1 r2 r3 r4 b9 ⊢
 refine bodyPost_ret (v := .tuple #[JdK, .int .i64 er]) ?_ rfl ⟨rfl, b9⟩
 simp [results, Try.results19, go_sem, r0, r1, r2, r3, r4]
set_option maxHeartbeats 4000000 in
set_option maxRecDepth 100000 in
theorem Try.write_size (pa ua fa : Option Addr) (pn pc un uc fn fc : Nat) (wr p : Int) (dead : Bool) (s : ByteArray) (w : World) (hs : s.size ≠ 256)
  (hus : ∀ W, Go.Am.Up w.heap.size w W → Calls Try.prog 41 #[J1c (.slice pa pn pc) wr (.slice ua un uc) dead (.slice fa fn fc), .int .i64 p] W fun e W' => e = .returned (.int .i64 0) ∧ Go.Am.Up W.heap.size W W') :
  Calls Try.prog 19 #[J1c (.slice pa pn pc) wr (.slice ua un uc) dead (.slice fa fn fc), .int .i64 p, .string s] w fun e w' =>
   e = .returned (.tuple #[JdK, .int .i64 2]) ∧ Go.Am.Up w.heap.size w w' := by
 have mixed : Try.prog.follows .mixedOrders = true := by kernel_rfl
 obtain ⟨H0, H1⟩ := J83 w [.slice pa pn pc, .int .i64 wr, .slice ua un uc, .bool dead, .slice fa fn fc] [.slice none 0 0, .int .i64 0, .slice none 0 0, .bool false, .slice none 0 0] 30 30
 have hsz : ((w.alloc (.cells #[.slice pa pn pc, .int .i64 wr, .slice ua un uc, .bool dead, .slice fa fn fc] 30)).alloc (.cells #[.slice none 0 0, .int .i64 0, .slice none 0 0, .bool false, .slice none 0 0] 30)).heap.size = w.heap.size + 2 := by rw [Je, Je]
 have hb0 : Go.Am.Up w.heap.size w ((w.alloc (.cells #[.slice pa pn pc, .int .i64 wr, .slice ua un uc, .bool dead, .slice fa fn fc] 30)).alloc (.cells #[.slice none 0 0, .int .i64 0, .slice none 0 0, .bool false, .slice none 0 0] 30)) :=
  ((Go.Am.Up.refl _ w).alloc (Nat.le_refl _) _).alloc (by rw [Je]; omega) _
 go_enter Try.func19, Try.ntmps19
 go_wp2_with (go_at_call 41; refine (hus _ hb0).mono ?_)
 rintro e W1 ⟨rfl, hu1⟩
 have hz1 := hu1.size
 rw [hsz] at hz1
 have G1 := H1.up hu1 (by rw [hsz]; omega)
 have hb1 := hb0.trans (hu1.mono (by rw [hsz]; omega))
 have G0 := H0.up hu1 (by rw [hsz]; omega)
 clear H0 H1 hb0 hu1 hsz
 have d1 := G0.cell (j := 1) rfl
 have n0 := G1.cell (j := 0) rfl
 have n1 := G1.cell (j := 1) rfl
 have n2 := G1.cell (j := 2) rfl
 have n3 := G1.cell (j := 3) rfl
 have n4 := G1.cell (j := 4) rfl
 have o0 := G1.frozen 0
 have o1 := G1.frozen 1
 have o2 := G1.frozen 2
 have o3 := G1.frozen 3
 have o4 := G1.frozen 4
 go_wp2
 have R := J3A G1 (.slice none 0 0) (.int .i64 0) (.slice none 0 0) (.bool false) (.slice none 0 0)
 have b9 : Go.Am.Up w.heap.size w (J1Y W1 (w.heap.size + 1) (.slice none 0 0) (.int .i64 0) (.slice none 0 0) (.bool false) (.slice none 0 0)) := hb1.trans (Go.Am.Up.of_below (J4L (Below.refl w.heap.size W1) (Nat.le_add_right w.heap.size 1) _ _ _ _ _))
 have r0 := R.cell (j := 0) rfl
 have r1 := R.cell (j := 1) rfl
 have r2 := R.cell (j := 2) rfl
 have r3 := R.cell (j := 3) rfl
 have r4 := R.cell (j := 4) rfl
 clear R
 simp only [J1Y] at r0 r1 r2 r3 r4 b9
 generalize (((((W1.setCell ⟨w.heap.size + 1, 0, none⟩ (.slice none 0 0)).setCell ⟨w.heap.size + 1, 1, none⟩ (.int .i64 0)).setCell ⟨w.heap.size + 1, 2, none⟩ (.slice none 0 0)).setCell ⟨w.heap.size + 1, 3, none⟩ (.bool false)).setCell ⟨w.heap.size + 1, 4, none⟩ (.slice none 0 0)) = Wf at r0 r1 r2 r3 r4 b9 ⊢
 refine bodyPost_ret (v := .tuple #[JdK, .int .i64 2]) ?_ rfl ⟨rfl, b9⟩
 simp [results, Try.results19, go_sem, r0, r1, r2, r3, r4]
set_option maxHeartbeats 600000 in
set_option maxRecDepth 100000 in
theorem Try.write_limit (pa ua fa : Option Addr) (pn pc un uc fn fc : Nat) (p : Int) (dead : Bool) (s : ByteArray) (w : World) (hs : s.size = 256)
  (hus : ∀ W, Go.Am.Up w.heap.size w W → Calls Try.prog 41 #[J1c (.slice pa pn pc) 1099511627776 (.slice ua un uc) dead (.slice fa fn fc), .int .i64 p] W fun e W' => e = .returned (.int .i64 0) ∧ Go.Am.Up W.heap.size W W') :
  Calls Try.prog 19 #[J1c (.slice pa pn pc) 1099511627776 (.slice ua un uc) dead (.slice fa fn fc), .int .i64 p, .string s] w fun e w' =>
   e = .returned (.tuple #[JdK, .int .i64 21]) ∧ Go.Am.Up w.heap.size w w' := by
 have mixed : Try.prog.follows .mixedOrders = true := by kernel_rfl
 obtain ⟨H0, H1⟩ := J83 w [.slice pa pn pc, .int .i64 1099511627776, .slice ua un uc, .bool dead, .slice fa fn fc] [.slice none 0 0, .int .i64 0, .slice none 0 0, .bool false, .slice none 0 0] 30 30
 have hsz : ((w.alloc (.cells #[.slice pa pn pc, .int .i64 1099511627776, .slice ua un uc, .bool dead, .slice fa fn fc] 30)).alloc (.cells #[.slice none 0 0, .int .i64 0, .slice none 0 0, .bool false, .slice none 0 0] 30)).heap.size = w.heap.size + 2 := by rw [Je, Je]
 have hb0 : Go.Am.Up w.heap.size w ((w.alloc (.cells #[.slice pa pn pc, .int .i64 1099511627776, .slice ua un uc, .bool dead, .slice fa fn fc] 30)).alloc (.cells #[.slice none 0 0, .int .i64 0, .slice none 0 0, .bool false, .slice none 0 0] 30)) :=
  ((Go.Am.Up.refl _ w).alloc (Nat.le_refl _) _).alloc (by rw [Je]; omega) _
 go_enter Try.func19, Try.ntmps19
 go_wp2_with (go_at_call 41; refine (hus _ hb0).mono ?_)
 rintro e W1 ⟨rfl, hu1⟩
 have hz1 := hu1.size
 rw [hsz] at hz1
 have G1 := H1.up hu1 (by rw [hsz]; omega)
 have hb1 := hb0.trans (hu1.mono (by rw [hsz]; omega))
 have G0 := H0.up hu1 (by rw [hsz]; omega)
 clear H0 H1 hb0 hu1 hsz
 have d1 := G0.cell (j := 1) rfl
 have n0 := G1.cell (j := 0) rfl
 have n1 := G1.cell (j := 1) rfl
 have n2 := G1.cell (j := 2) rfl
 have n3 := G1.cell (j := 3) rfl
 have n4 := G1.cell (j := 4) rfl
 have o0 := G1.frozen 0
 have o1 := G1.frozen 1
 have o2 := G1.frozen 2
 have o3 := G1.frozen 3
 have o4 := G1.frozen 4
 go_wp2
 have R := J3A G1 (.slice none 0 0) (.int .i64 0) (.slice none 0 0) (.bool false) (.slice none 0 0)
 have b9 : Go.Am.Up w.heap.size w (J1Y W1 (w.heap.size + 1) (.slice none 0 0) (.int .i64 0) (.slice none 0 0) (.bool false) (.slice none 0 0)) := hb1.trans (Go.Am.Up.of_below (J4L (Below.refl w.heap.size W1) (Nat.le_add_right w.heap.size 1) _ _ _ _ _))
 have r0 := R.cell (j := 0) rfl
 have r1 := R.cell (j := 1) rfl
 have r2 := R.cell (j := 2) rfl
 have r3 := R.cell (j := 3) rfl
 have r4 := R.cell (j := 4) rfl
 clear R
 simp only [J1Y] at r0 r1 r2 r3 r4 b9
 generalize (((((W1.setCell ⟨w.heap.size + 1, 0, none⟩ (.slice none 0 0)).setCell ⟨w.heap.size + 1, 1, none⟩ (.int .i64 0)).setCell ⟨w.heap.size + 1, 2, none⟩ (.slice none 0 0)).setCell ⟨w.heap.size + 1, 3, none⟩ (.bool false)).setCell ⟨w.heap.size + 1, 4, none⟩ (.slice none 0 0)) = Wf at r0 r1 r2 r3 r4 b9 ⊢
 refine bodyPost_ret (v := .tuple #[JdK, .int .i64 21]) ?_ rfl ⟨rfl, b9⟩
 simp [results, Try.results19, go_sem, r0, r1, r2, r3, r4]
end Go.Proofs
end
section
namespace Go.Proofs
open Go.Shelf Go.RowKit Go.Lib
open Go.Am (FT)
set_option linter.unusedSimpArgs false
set_option linter.unusedVariables false
set_option maxHeartbeats 400000 in
set_option maxRecDepth 100000 in
theorem Try.eff_nil (a : Option Addr) (c : Nat) (W : World) : Calls Try.prog 44 #[.slice a 0 c] W fun e W' => e = .returned (J6d []) ∧ Below W.heap.size W W' := by
 have mixed : Try.prog.follows .mixedOrders = true := by kernel_rfl
 go_enter Try.func44, Try.ntmps44
 go_wp2
 refine wp_loop_rounds 1 ?_
 rw [rounds_succ]
 go_wp2
 go_ret
 exact ⟨rfl, Below.refl _ _⟩
set_option maxHeartbeats 400000 in
set_option maxRecDepth 100000 in
theorem Try.idxf_nil (a : Option Addr) (c : Nat) (fv : Value) (W : World) : Calls Try.prog 60 #[.slice a 0 c, fv] W fun e W' => e = .returned (.int .i64 (-1)) ∧ W' = W := by
 have mixed : Try.prog.follows .mixedOrders = true := by kernel_rfl
 go_enter Try.func60, Try.ntmps60
 go_wp2
 refine wp_loop_rounds 1 ?_
 rw [rounds_succ]
 go_wp2
 go_ret
 exact ⟨rfl, rfl⟩
set_option maxHeartbeats 400000 in
set_option maxRecDepth 100000 in
theorem Try.delf_nil (a : Option Addr) (c : Nat) (fv : Value) (W : World) : Calls Try.prog 42 #[.slice a 0 c, fv] W fun e W' => e = .returned (.slice a 0 c) ∧ W' = W := by
 have mixed : Try.prog.follows .mixedOrders = true := by kernel_rfl
 go_enter Try.func42, Try.ntmps42
 go_wp2_with (go_at_call 60; refine (Try.idxf_nil a c fv _).mono ?_)
 rintro e W1 ⟨rfl, rfl⟩
 go_wp2
 go_ret
 exact ⟨rfl, rfl⟩
theorem Job (fs : List FT) : (fs.map J1j).flatten.length = fs.length * 6 := by
 induction fs with
 | nil => rfl
 | cons f l ih => rw [List.map_cons, List.flatten_cons, List.length_append, ih, List.length_cons]; simp; omega
theorem J7J : ∀ (fs : List FT) (i j : Nat) (f : FT) (v : Value), fs[i]? = some f → (J1j f)[j]? = some v → (fs.map J1j).flatten[i * 6 + j]? = some v
 | [], i, j, f, v, h, _ => by simp at h
 | g :: l, 0, j, f, v, h, hv => by
  injection h with h; subst h
  rw [List.map_cons, List.flatten_cons, List.getElem?_append_left (by have := (List.getElem?_eq_some_iff.1 hv).1; omega), Nat.zero_mul, Nat.zero_add]
  exact hv
 | g :: l, i + 1, j, f, v, h, hv => by
  rw [List.map_cons, List.flatten_cons, List.getElem?_append_right (by simp; omega)]
  rw [show (i + 1) * 6 + j - (J1j g).length = i * 6 + j by simp; omega]
  exact J7J l i j f v h hv
def Jnl (W : World) (v : Value) (fs : List FT) : Prop :=
 ∃ a c, v = .slice a fs.length c ∧ fs.length ≤ c ∧ (fs = [] ∨ ∃ b o, a = some ⟨b, o, none⟩ ∧ b < W.heap.size ∧ ∀ (j : Nat) u, (fs.map J1j).flatten[j]? = some u → W.cell? ⟨b, o + j, none⟩ = some u)
theorem Jp5 (fs : List FT) : ∀ u ∈ (fs.map J1j).flatten, u.oneCell' = true := by
 intro u hu
 obtain ⟨r, hr, hu⟩ := List.mem_flatten.1 hu
 obtain ⟨f, _, rfl⟩ := List.mem_map.1 hr
 simp only [J1j, List.mem_cons, List.not_mem_nil, or_false] at hu
 rcases hu with rfl | rfl | rfl | rfl | rfl | rfl <;> rfl
theorem Ja6 {F : Nat} {W : World} {v : Value} {fs : List FT} (h : W.ownsRow F 37 6 v fs.length (fs.map J1j).flatten) :
  (fs = [] ∧ v = .slice none 0 0) ∨ ∃ g c, v = .slice (some ⟨g, 0, none⟩) fs.length c ∧ fs.length ≤ c ∧ F ≤ g ∧ g < W.heap.size ∧ J2F W g (fs.map J1j) ∧ ∀ o, W.frozen? ⟨g, o, none⟩ = false := by
 rcases id h.2 with ⟨rfl, hn⟩ | ⟨g, cap, cur, rfl, hg, hb, hn, hm, hs, ht⟩
 ·exact .inl ⟨List.length_eq_zero_iff.1 hn, rfl⟩
 ·refine .inr ⟨g, cap, rfl, hn, hg, (Array.getElem?_eq_some_iff.1 hb).1, fun i r hr j u hj => ?_, fun o => by unfold World.frozen?; rw [hb]; simp⟩
  rw [List.getElem?_map] at hr
  obtain ⟨f, hf, rfl⟩ := Option.map_eq_some_iff.1 hr
  have := h.cells (g := g) rfl _ _ (J7J fs i j f u hf hj)
  rwa [Addr.add_lit, Nat.zero_add] at this
set_option maxHeartbeats 2000000 in
set_option maxRecDepth 100000 in
theorem Try.clone_faults_zero (ad : Addr) (c : Nat) (w : World) :
  Calls Try.prog 38 #[.slice (some ad) 0 c] w fun e w' => ∃ v', e = .returned v' ∧ w'.ownsRow w.heap.size 37 6 v' 0 [] ∧ Below w.heap.size w w' := by
 have mixed : Try.prog.follows .mixedOrders = true := by kernel_rfl
 have hinfo : (Try.prog.info? 37).map (fun i => (i.zero, i.size, i.bytes)) = some (some (Value.agg #[.int .i64 0, .int .i64 0, .int .i64 0, .int .i64 0, .int .i64 0, .int .u8 0]), 6, 48) := by kernel_rfl
 obtain ⟨i0, hi, hz0, hz1, hz2⟩ := info_parts hinfo
 have q22 : ∀ (w : World) (a : Option Addr) (n c n' c' : Nat), (binOp .eql 28 (.slice a n c) (.slice none n' c')).run Try.prog w = .ok (.bool a.isNone) w := fun w a n c n' c' => Lib.run_eql_slice_nil w _ _ a n c n' c' Try.underlying28
 go_enter Try.func38, Try.ntmps38
 go_wp2_with (at_builtin; refine wpList_append_own _ rfl _ _ 28 rfl w.heap.size 37 i0 (.agg #[.int .i64 0, .int .i64 0, .int .i64 0, .int .i64 0, .int .i64 0, .int .u8 0]) 6 48 Try.underlying28 hi hz0 hz1 hz2 rfl (by decide) _ _ _ rfl (World.ownsRow_made w #[] 0 (Nat.le_refl _) (Nat.zero_le _) rfl) ad 0 c [] rfl ?qc1 ?qc2 ?qc3 ?qc4 ?qc5 ?qc6 ?_)
 case qc1 => rfl
 case qc2 => intro j u hj; simp at hj
 case qc3 => intro u hu; simp at hu
 case qc4 => unfold maxLen; omega
 case qc5 => omega
 case qc6 => simp
 intro v' w1 hown hgrow hnil
 go_wp2
 go_ret
 refine ⟨v', rfl, by simpa using hown, ?_⟩
 exact ((Below.refl _ w).alloc (Nat.le_refl _) _).grown hgrow (by simp) (by intro k hk; simp [Value.ownBlock] at hk; omega)
theorem Try.clone_F (v : Value) (fs : List FT) (w : World) (h : Jnl w v fs) (hb : fs.length ≤ 1000000) :
  Calls Try.prog 38 #[v] w fun e w' => ∃ v', e = .returned v' ∧ w'.ownsRow w.heap.size 37 6 v' fs.length (fs.map J1j).flatten ∧ Below w.heap.size w w' := by
 obtain ⟨a, c, rfl, hc, hl⟩ := h
 rcases hl with rfl | ⟨b, o, rfl, hb2, hl⟩
 ·cases a with
  | none => exact (Try.clone_faults_nil 0 c w).mono fun e w' ⟨h1, h2⟩ => ⟨_, h1, by rw [h2]; exact World.ownsRow_nil w _ _ _, h2 ▸ Below.refl _ _⟩
  | some a => exact Try.clone_faults_zero a c w
 ·exact Try.clone_faults b o fs.length c _ w (Job fs) (Jp5 fs) hb hl
end Go.Proofs
end
section
namespace Go.Proofs
open Go.Shelf Go.RowKit Go.Lib
open Go.Am (FT)
set_option linter.unusedSimpArgs false
set_option linter.unusedVariables false
def JsP (B : Nat) (W : World) (v : Value) (fs : List FT) : Prop :=
 (fs = [] ∧ v = .slice none 0 0) ∨ ∃ g c, v = .slice (some ⟨g, 0, none⟩) fs.length c ∧ fs.length ≤ c ∧ B ≤ g ∧ g < W.heap.size ∧ J2F W g (fs.map J1j)
theorem Jpn (P : Int) (fs : List FT) : (fs.map J1j).filter (atW P) = (fs.filter fun f => f.2.1 == P).map J1j := by
 rw [List.filter_map]; rfl
theorem Jhi (P : Int) (fs : List FT) : (fs.map J1j).filter (fun r => !atW P r) = (fs.filter fun f => !(f.2.1 == P)).map J1j := by
 rw [List.filter_map]; rfl
theorem Jqc (fs : List FT) : ∀ r ∈ fs.map J1j, IsF r := by
 intro r hr
 obtain ⟨f, _, rfl⟩ := List.mem_map.1 hr
 exact ⟨_, _, _, _, _, _, rfl⟩
theorem Try.del_F (B dB nB : Nat) (P : Int) (v : Value) (fs : List FT) (W : World) (h : W.ownsRow B 37 6 v fs.length (fs.map J1j).flatten) (hd : W.cell? ⟨dB, 1, none⟩ = some (.int .i64 P)) (hn : Has W nB [.slice none 0 0]) (hdB : dB < B) (hnB : nB < B) (hdn : dB ≠ nB) (hb : fs.length ≤ 1000000) :
  Calls Try.prog 42 #[v, .func (.func 43) #[] #[.pointer (some ⟨dB, 0, none⟩), .pointer (some ⟨nB, 0, none⟩)]] W fun e W' => ∃ v2 vn, e = .returned v2 ∧ JsP B W' v2 (fs.filter fun f => !(f.2.1 == P)) ∧ Has W' nB [vn] ∧
   W'.ownsRow W.heap.size 37 6 vn (fs.filter fun f => f.2.1 == P).length ((fs.filter fun f => f.2.1 == P).map J1j).flatten ∧
   W.heap.size ≤ W'.heap.size ∧ (∀ k, k < B → k ≠ nB → W'.heap[k]? = W.heap[k]?) ∧ W'.os = W.os ∧ W'.output = W.output := by
 have hdl : dB < W.heap.size := block_lt_of_cell hd
 have hnl : nB < W.heap.size := hn.lt
 rcases Ja6 h with ⟨rfl, rfl⟩ | ⟨g, c, rfl, hc, hg, hgl, hR, hfz⟩
 ·refine (Try.delf_nil none 0 _ W).mono ?_
  rintro e W' ⟨rfl, rfl⟩
  exact ⟨_, _, rfl, .inl ⟨rfl, rfl⟩, hn, World.ownsRow_nil _ _ _ _, Nat.le_refl _, fun _ _ _ => rfl, rfl, rfl⟩
 ·have hJ : Now W W.heap.size dB nB g P [] W := ⟨Nat.le_refl _, fun _ _ _ _ => rfl, rfl, rfl, hd, _, hn, World.ownsRow_nil _ _ _ _⟩
  have := Try.delf42 43 #[.pointer (some ⟨dB, 0, none⟩), .pointer (some ⟨nB, 0, none⟩)] g c (atW P) (Now W W.heap.size dB nB g P) (Jlu nB) (Try.asked_now W W.heap.size dB nB g P hnl hdl hgl hdn (by omega) (by omega)) (fs.map J1j) (Jqc fs)
   (by rw [List.length_map]; exact hb) (by rw [List.length_map]; exact hc) W hR hfz hJ
  rw [List.length_map] at this
  refine this.mono ?_
  rintro e W' ⟨rfl, hN, hR'⟩
  obtain ⟨vn, hn', ho'⟩ := hN.now
  rw [Jhi] at hR'
  rw [Jpn] at ho'
  rw [List.length_map] at ho'
  rw [Jhi, List.length_map]
  have hle : (fs.filter fun f => !(f.2.1 == P)).length ≤ fs.length := List.length_filter_le _ _
  exact ⟨_, vn, rfl, .inr ⟨g, c, rfl, by omega, hg, Nat.lt_of_lt_of_le hgl hN.size, hR'⟩, hn', ho', hN.size, fun k h1 h2 => hN.keep k (by omega) h2 (by omega), hN.os, hN.output⟩
end Go.Proofs
end
section
namespace Go.Proofs
open Go.Shelf Go.RowKit Go.Lib Go.Am
set_option linter.unusedSimpArgs false
set_option linter.unusedVariables false
theorem Jlx {α : Type} {w : World} {C : Nat → Nat → Prop} {rows : List α} {p : α → PV} {val : α → Value} {v : Value} (hrel : ∀ a u, Jl w C (p a) u → u = val a) (h : Jl w C (.sl 1 (rows.map fun a => [p a])) v) : J51 w v (rows.map val) := by
 generalize hR : (rows.map fun a => [p a]) = R at h
 cases h with
 | sl0 _ a c =>
  have : rows = [] := by simpa using hR
  subst this
  exact ⟨a, c, rfl, Nat.zero_le _, .inl rfl⟩
 | sl _ _ r o cap vals h1 h2 h3 h4 =>
  subst hR
  rw [List.length_map] at h1
  refine ⟨_, cap, by rw [List.length_map, List.length_map], by rw [List.length_map]; exact h1, ?_⟩
  by_cases h0 : rows = []
  ·exact .inl (by rw [h0]; rfl)
  ·have cell : ∀ (i : Nat) a, rows[i]? = some a → w.cell? ⟨r, o + i, none⟩ = some (val a) := by
    intro i a hi
    have hrow : (rows.map fun a => [p a])[i]? = some [p a] := by rw [List.getElem?_map, hi]; rfl
    have e3 := (h3 i 0 _ _ hrow rfl).2
    rw [← hrel a _ (h4 i 0 _ _ hrow rfl), J2z]
    simpa using e3
   obtain ⟨x, l, rfl⟩ := List.exists_cons_of_ne_nil h0
   refine .inr ⟨r, o, rfl, block_lt_of_cell (cell 0 x rfl), fun j u hj => ?_⟩
   rw [List.getElem?_map] at hj
   obtain ⟨a, ha, rfl⟩ := Option.map_eq_some_iff.1 hj
   exact cell j a ha
theorem JlK {α : Type} {B : Nat} {W : World} {C : Nat → Nat → Prop} {rows : List α} {p : α → PV} {val : α → Value} {v : Value} (hC : ∀ r o, B ≤ r → C r o) (hrel : ∀ a, Jl W C (p a) (val a)) (h : New B W v (rows.map val)) : Jl W C (.sl 1 (rows.map fun a => [p a])) v := by
 rcases h with ⟨h0, a, c, rfl⟩ | ⟨g, c, rfl, hc, hg, hH⟩
 ·have : rows = [] := by simpa using h0
  subst this
  exact .sl0 1 a c
 ·rw [List.length_map] at hc ⊢
  have key : ∀ (i j : Nat) row x, (rows.map fun a => [p a])[i]? = some row → row[j]? = some x → j = 0 ∧ ∃ a, rows[i]? = some a ∧ x = p a := by
   intro i j row x hi hj
   rw [List.getElem?_map] at hi
   obtain ⟨a, ha, rfl⟩ := Option.map_eq_some_iff.1 hi
   cases j with
   | zero => injection hj with hj; exact ⟨rfl, a, ha, hj.symm⟩
   | succ j => simp at hj
  have := Jl.sl (w := W) (C := C) 1 (rows.map fun a => [p a]) g 0 c (fun i j => ((rows.map val)[i]?).getD .nilFunc) (by rw [List.length_map]; exact hc)
   (fun row hr => by obtain ⟨a, _, rfl⟩ := List.mem_map.1 hr; rfl)
   (fun i j row x hi hj => by
    obtain ⟨rfl, a, ha, rfl⟩ := key i j row x hi hj
    have hv : (rows.map val)[i]? = some (val a) := by rw [List.getElem?_map, ha]; rfl
    refine ⟨hC _ _ hg, ?_⟩
    rw [hv, ← J2z]
    simpa using hH.cell hv)
   (fun i j row x hi hj => by
    obtain ⟨rfl, a, ha, rfl⟩ := key i j row x hi hj
    have hv : (rows.map val)[i]? = some (val a) := by rw [List.getElem?_map, ha]; rfl
    rw [hv]
    exact hrel a)
  rwa [List.length_map] at this
abbrev J69 (f : FT) : List PV := [.i .i64 f.1, .i .i64 f.2.1, .i .i64 f.2.2.1, .i .i64 f.2.2.2.1, .i .i64 f.2.2.2.2.1, .i .u8 f.2.2.2.2.2]
theorem Jen {w : World} {C : Nat → Nat → Prop} {k : IntKind} {n : Int} {u : Value} (h : Jl w C (.i k n) u) : u = .int k n := by cases h; rfl
theorem Juh {w : World} {C : Nat → Nat → Prop} {l : List UInt8} {u : Value} (h : Jl w C (.s l) u) : u = .string ⟨l.toArray⟩ := by cases h; rfl
theorem Jrt {w : World} {C : Nat → Nat → Prop} (f : FT) (j : Nat) (x : PV) (u : Value) (hx : (J69 f)[j]? = some x) (h : Jl w C x u) : (J1j f)[j]? = some u := by
 match j with
 | 0 => injection hx with hx; subst hx; rw [Jen h]; rfl
 | 1 => injection hx with hx; subst hx; rw [Jen h]; rfl
 | 2 => injection hx with hx; subst hx; rw [Jen h]; rfl
 | 3 => injection hx with hx; subst hx; rw [Jen h]; rfl
 | 4 => injection hx with hx; subst hx; rw [Jen h]; rfl
 | 5 => injection hx with hx; subst hx; rw [Jen h]; rfl
 | j + 6 => simp at hx
theorem Jq3 {w : World} {C : Nat → Nat → Prop} (f : FT) (j : Nat) (x : PV) (hx : (J69 f)[j]? = some x) : ∃ u, (J1j f)[j]? = some u ∧ Jl w C x u := by
 match j with
 | 0 => injection hx with hx; subst hx; exact ⟨_, rfl, .i _ _⟩
 | 1 => injection hx with hx; subst hx; exact ⟨_, rfl, .i _ _⟩
 | 2 => injection hx with hx; subst hx; exact ⟨_, rfl, .i _ _⟩
 | 3 => injection hx with hx; subst hx; exact ⟨_, rfl, .i _ _⟩
 | 4 => injection hx with hx; subst hx; exact ⟨_, rfl, .i _ _⟩
 | 5 => injection hx with hx; subst hx; exact ⟨_, rfl, .i _ _⟩
 | j + 6 => simp at hx
theorem JjZ {B : Nat} {W : World} {C : Nat → Nat → Prop} {fs : List FT} {v : Value} (hC : ∀ r o, B ≤ r → C r o) (h : JsP B W v fs) : Jl W C (.sl 6 (fs.map J69)) v := by
 rcases h with ⟨rfl, rfl⟩ | ⟨g, c, rfl, hc, hg, hl, hR⟩
 ·exact .sl0 6 none 0
 ·have key : ∀ (i j : Nat) row x, (fs.map J69)[i]? = some row → row[j]? = some x → ∃ f u, fs[i]? = some f ∧ (J1j f)[j]? = some u ∧ Jl W C x u := by
   intro i j row x hi hj
   rw [List.getElem?_map] at hi
   obtain ⟨f, hf, rfl⟩ := Option.map_eq_some_iff.1 hi
   obtain ⟨u, hu, hr⟩ := Jq3 f j x hj
   exact ⟨f, u, hf, hu, hr⟩
  have val : ∀ (i j : Nat) f u, fs[i]? = some f → (J1j f)[j]? = some u → (((fs.map J1j)[i]?).bind fun r => r[j]?).getD .nilFunc = u := fun i j f u hf hu => by rw [List.getElem?_map, hf]; simp only [Option.map_some, Option.bind_some, hu, Option.getD_some]
  have := Jl.sl (w := W) (C := C) 6 (fs.map J69) g 0 c (fun i j => (((fs.map J1j)[i]?).bind fun r => r[j]?).getD .nilFunc) (by rw [List.length_map]; exact hc)
   (fun row hr => by obtain ⟨a, _, rfl⟩ := List.mem_map.1 hr; rfl)
   (fun i j row x hi hj => by
    obtain ⟨f, u, hf, hu, _⟩ := key i j row x hi hj
    refine ⟨hC _ _ hg, ?_⟩
    rw [val i j f u hf hu, ← J2z, Nat.zero_add]
    exact hR i _ (by rw [List.getElem?_map, hf]; rfl) j u hu)
   (fun i j row x hi hj => by
    obtain ⟨f, u, hf, hu, hr⟩ := key i j row x hi hj
    rw [val i j f u hf hu]
    exact hr)
  rwa [List.length_map] at this
end Go.Proofs
end
section
namespace Go.Proofs
open Go.Shelf Go.RowKit Go.Lib Go.Am
set_option linter.unusedSimpArgs false
set_option linter.unusedVariables false
theorem JgQ : ∀ (fs : List FT) (j : Nat) (u : Value), (fs.map J1j).flatten[j]? = some u → ∃ i k f, j = i * 6 + k ∧ fs[i]? = some f ∧ (J1j f)[k]? = some u
 | [], j, u, h => by simp at h
 | f :: l, j, u, h => by
  rw [List.map_cons, List.flatten_cons] at h
  by_cases hj : j < (J1j f).length
  ·rw [List.getElem?_append_left hj] at h
   exact ⟨0, j, f, by omega, rfl, h⟩
  ·rw [List.getElem?_append_right (by omega)] at h
   obtain ⟨i, k, f', e1, e2, e3⟩ := JgQ l _ u h
   exact ⟨i + 1, k, f', by simp at e1 hj; omega, e2, e3⟩
theorem J6O {w : World} {C : Nat → Nat → Prop} {fs : List FT} {v : Value} (h : Jl w C (.sl 6 (fs.map J69)) v) : Jnl w v fs := by
 generalize hR : fs.map J69 = R at h
 cases h with
 | sl0 _ a c =>
  have : fs = [] := by simpa using hR
  subst this
  exact ⟨a, c, rfl, Nat.zero_le _, .inl rfl⟩
 | sl _ _ r o cap vals h1 h2 h3 h4 =>
  subst hR
  rw [List.length_map] at h1
  refine ⟨_, cap, by rw [List.length_map], h1, ?_⟩
  by_cases h0 : fs = []
  ·exact .inl h0
  ·have cell : ∀ (i k : Nat) f u, fs[i]? = some f → (J1j f)[k]? = some u → w.cell? ⟨r, o + (i * 6 + k), none⟩ = some u := by
    intro i k f u hi hk
    have hrow : (fs.map J69)[i]? = some (J69 f) := by rw [List.getElem?_map, hi]; rfl
    have hk6 : k < (J69 f).length := (List.getElem?_eq_some_iff.1 hk).1
    have hx := List.getElem?_eq_getElem hk6
    have e3 := (h3 i k _ _ hrow hx).2
    have e4 := Jrt f k _ _ hx (h4 i k _ _ hrow hx)
    rw [hk] at e4
    injection e4 with e4
    rw [e4, J2z, ← Nat.add_assoc]
    exact e3
   obtain ⟨x, l, rfl⟩ := List.exists_cons_of_ne_nil h0
   refine .inr ⟨r, o, rfl, block_lt_of_cell (cell 0 0 x _ rfl rfl), fun j u hj => ?_⟩
   obtain ⟨i, k, f, rfl, hf, hu⟩ := JgQ _ _ _ hj
   exact cell i k f u hf hu
abbrev JsD (l : List UInt8) : Value := .string ⟨l.toArray⟩
structure J1M (w : World) (C : Nat → Nat → Prop) (x : DT) (v : Value) : Prop where
 ex : ∃ vp vu vf, v = J1c vp x.2.1 vu x.2.2.2.1 vf ∧ Jl w C (.sl 1 (x.1.map fun l => [.s l])) vp ∧ Jl w C (.sl 1 (x.2.2.1.map fun n => [.i .i64 n])) vu ∧ Jl w C (.sl 6 (x.2.2.2.2.map J69)) vf
theorem J1M.up {w w' : World} {C C' : Nat → Nat → Prop} {x : DT} {v : Value} (h : J1M w C x v) (hu : Up w.heap.size w w') (hC : ∀ r o, C r o → r < w.heap.size → C' r o) : J1M w' C' x v := by
 obtain ⟨vp, vu, vf, e, h1, h2, h3⟩ := h.ex
 exact ⟨vp, vu, vf, e, h1.up hu hC, h2.up hu hC, h3.up hu hC⟩
theorem Jer {w : World} {C : Nat → Nat → Prop} {zs : List (List UInt8)} {v : Value} (h : Jl w C (.sl 1 (zs.map fun l => [.s l])) v) : J51 w v ((zs.map fun l => (⟨l.toArray⟩ : ByteArray)).map Value.string) := by
 have := Jlx (val := JsD) (fun a u h => Juh h) h
 rwa [List.map_map]
theorem Jjq {w : World} {C : Nat → Nat → Prop} {us : List Int} {v : Value} (h : Jl w C (.sl 1 (us.map fun n => [.i .i64 n])) v) : J51 w v (us.map (Value.int .i64)) := Jlx (fun a u h => Jen h) h
theorem JqV {B : Nat} {w : World} {C : Nat → Nat → Prop} {zs : List (List UInt8)} {v : Value} (hC : ∀ r o, B ≤ r → C r o) (h : New B w v ((zs.map fun l => (⟨l.toArray⟩ : ByteArray)).map Value.string)) : Jl w C (.sl 1 (zs.map fun l => [.s l])) v := by
 rw [List.map_map] at h
 exact JlK (val := JsD) hC (fun a => .s a) h
theorem JqQ {B : Nat} {w : World} {C : Nat → Nat → Prop} {us : List Int} {v : Value} (hC : ∀ r o, B ≤ r → C r o) (h : New B w v (us.map (Value.int .i64))) : Jl w C (.sl 1 (us.map fun n => [.i .i64 n])) v := JlK hC (fun a => .i .i64 a) h
theorem J29 {w : World} {C : Nat → Nat → Prop} {zs : List (List UInt8)} {v : Value} (h : Jl w C (.sl 1 (zs.map fun l => [.s l])) v) : ∃ a n c, v = .slice a n c := by
 obtain ⟨a, c, h, _⟩ := Jer h; exact ⟨a, _, c, h⟩
theorem J28 {w : World} {C : Nat → Nat → Prop} {us : List Int} {v : Value} (h : Jl w C (.sl 1 (us.map fun n => [.i .i64 n])) v) : ∃ a n c, v = .slice a n c := by
 obtain ⟨a, c, h, _⟩ := Jjq h; exact ⟨a, _, c, h⟩
theorem J1L {w : World} {C : Nat → Nat → Prop} {fs : List FT} {v : Value} (h : Jl w C (.sl 6 (fs.map J69)) v) : ∃ a n c, v = .slice a n c := by
 obtain ⟨a, c, h, _⟩ := J6O h; exact ⟨a, _, c, h⟩
theorem Try.set_D (C : Nat → Nat → Prop) (x : DT) (p : Nat) (s : List UInt8) (v : Value) (w : World) (h : J1M w C x v) (hp : p < x.1.length) (hz : x.1.length ≤ 1000000) (hu : x.2.2.1.length ≤ 1000000) :
  Calls Try.prog 45 #[v, .int .i64 p, .string ⟨s.toArray⟩] w fun e w' => ∃ v', e = .returned v' ∧ Up w.heap.size w w' ∧ J1M w' (fun r o => C r o ∨ w.heap.size ≤ r) (J4z x p s) v' := by
 obtain ⟨vp, vu, vf, rfl, h1, h2, h3⟩ := h.ex
 refine (Try.set45 p vp vu vf (x.1.map fun l => ⟨l.toArray⟩) x.2.2.1 x.2.1 x.2.2.2.1 ⟨s.toArray⟩ w (by rw [List.length_map]; exact hp) (by rw [List.length_map]; exact hz) hu (Jer h1) (Jjq h2) (J1L h3)).mono ?_
 rintro e w' ⟨vp', vu', rfl, ho1, ho2, hb⟩
 have hset : (x.1.map fun l => (⟨l.toArray⟩ : ByteArray)).set p ⟨s.toArray⟩ = (x.1.set p s).map fun l => (⟨l.toArray⟩ : ByteArray) := by rw [List.map_set]
 rw [hset] at ho1
 exact ⟨_, rfl, .of_below hb, ⟨vp', vu', vf, rfl, JqV (fun r o h => .inr h) ho1.new, JqQ (fun r o h => .inr h) ho2.new, h3.up (.of_below hb) (fun r o h _ => .inl h)⟩⟩
end Go.Proofs
end
section
namespace Go.Proofs
open Go.Shelf Go.RowKit Go.Lib Go.Am
set_option linter.unusedSimpArgs false
set_option linter.unusedVariables false
theorem JtU (ns : List Int) : strOfNums ns = ⟨(ns.map fun n => UInt8.ofNat n.toNat).toArray⟩ := by
 unfold strOfNums
 first | rfl | simp
theorem Try.harm_D (C : Nat → Nat → Prop) (x : DT) (f : FT) (v : Value) (w : World) (h : J1M w C x v) (hk : HOk x f) :
  Calls Try.prog 46 #[v, Jje f.1 f.2.1 f.2.2.1 f.2.2.2.1 f.2.2.2.2.1 f.2.2.2.2.2] w fun e w' => ∃ v', e = .returned v' ∧ Up w.heap.size w w' ∧ J1M w' (fun r o => C r o ∨ w.heap.size ≤ r) (J19 x f) v' := by
 obtain ⟨k, t, p, g, b, m⟩ := f
 obtain ⟨vp, vu, vf, rfl, h1, h2, h3⟩ := h.ex
 obtain ⟨pa, pn, pc, hvp⟩ := J29 h1
 obtain ⟨ua, un, uc, hvu⟩ := J28 h2
 obtain ⟨fa, fn, fc, hvf⟩ := J1L h3
 have keep : ∀ (w' : World) (b : Bool), Below w.heap.size w w' → J1M w' (fun r o => C r o ∨ w.heap.size ≤ r) (x.1, x.2.1, x.2.2.1, b, x.2.2.2.2) (J1c vp x.2.1 vu b vf) := fun w' b hb =>
  ⟨vp, vu, vf, rfl, h1.up (.of_below hb) (fun r o h _ => .inl h), h2.up (.of_below hb) (fun r o h _ => .inl h), h3.up (.of_below hb) (fun r o h _ => .inl h)⟩
 by_cases k4 : k = 4
 ·subst k4
  obtain ⟨hp0, hp1⟩ := hk.page rfl
  obtain ⟨hb0, hb1⟩ := hk.byte rfl
  obtain ⟨hm0, hm1⟩ := hk.mask rfl
  simp only at hp0 hp1 hb0 hb1 hm0 hm1
  have ep : ((p.toNat : Nat) : Int) = p := by omega
  have eb : ((b.toNat : Nat) : Int) = b := by omega
  have em : (((UInt8.ofNat m.toNat).toNat : Nat) : Int) = m := by
   have : (UInt8.ofNat m.toNat).toNat = m.toNat % 256 := by simp
   rw [this]; omega
  have hg : (x.1.map fun l => (⟨l.toArray⟩ : ByteArray)).getD p.toNat ByteArray.empty = ⟨(x.1.getD p.toNat []).toArray⟩ := by
   rw [List.getD_eq_getElem?_getD, List.getD_eq_getElem?_getD, List.getElem?_map, List.getElem?_eq_getElem hp1]
   rfl
  have := Try.harm_rot vu vf p.toNat b.toNat vp (x.1.map fun l => ⟨l.toArray⟩) x.2.1 t g x.2.2.2.1 (UInt8.ofNat m.toNat) w (by rw [List.length_map]; exact hp1) (by rw [hg]; simpa [ByteArray.size] using hb1) (by rw [List.length_map]; exact hk.len) (Jer h1) (J28 h2) (J1L h3)
  rw [ep, eb, em, hg, JtU] at this
  refine this.mono ?_
  rintro e w' ⟨vp', rfl, hn, hb⟩
  refine ⟨_, rfl, .of_below hb, ⟨vp', vu, vf, rfl, ?_, h2.up (.of_below hb) (fun r o h _ => .inl h), h3.up (.of_below hb) (fun r o h _ => .inl h)⟩⟩
  refine JqV (fun r o h => .inr h) ?_
  have e1 : (J19 x (4, t, p, g, b, m)).1 = x.1.set p.toNat (JjW (x.1.getD p.toNat []) b.toNat m) := rfl
  rw [e1, List.map_set]
  exact hn
 ·by_cases k5 : k = 5
  ·subst k5
   have := Try.harm_unr vp vf vu x.2.2.1 x.2.1 t p g b x.2.2.2.1 m w hk.ulen (hk.sorted rfl) (Jjq h2) (J29 h1) (J1L h3)
   refine this.mono ?_
   rintro e w' ⟨vu', rfl, hor, hb⟩
   refine ⟨_, rfl, .of_below hb, ?_⟩
   rcases hor with ⟨hc, rfl⟩ | ⟨hc, hn⟩
   ·have e1 : J19 x (5, t, p, g, b, m) = x := by unfold J19; rw [if_neg (show ¬ (5 : Int) = 4 by decide), if_pos rfl, if_pos hc]
    rw [e1]
    exact keep w' _ hb
   ·have e1 : J19 x (5, t, p, g, b, m) = (x.1, x.2.1, x.2.2.1.take (x.2.2.1.countP (· < p)) ++ p :: x.2.2.1.drop (x.2.2.1.countP (· < p)), x.2.2.2) := by unfold J19; rw [if_neg (show ¬ (5 : Int) = 4 by decide), if_pos rfl, if_neg (by rw [hc]; decide)]
    rw [e1]
    exact ⟨vp, vu', vf, rfl, h1.up (.of_below hb) (fun r o h _ => .inl h), JqQ (fun r o h => .inr h) hn, h3.up (.of_below hb) (fun r o h _ => .inl h)⟩
  ·subst hvp; subst hvu; subst hvf
   by_cases k6 : k = 6
   ·subst k6
    refine (Try.harm_dead pa ua fa pn pc un uc fn fc x.2.1 t p g b x.2.2.2.1 m w).mono ?_
    rintro e w' ⟨rfl, hb⟩
    exact ⟨_, rfl, .of_below hb, keep w' true hb⟩
   ·refine (Try.harm_none pa ua fa pn pc un uc fn fc x.2.1 k t p g b x.2.2.2.1 m w k4 k5 k6).mono ?_
    rintro e w' ⟨rfl, hb⟩
    have e1 : J19 x (k, t, p, g, b, m) = x := by simp [J19, k4, k5, k6]
    refine ⟨_, rfl, .of_below hb, ?_⟩
    rw [e1]
    exact keep w' _ hb
end Go.Proofs
end
section
namespace Go.Proofs
open Go.Shelf Go.RowKit Go.Lib
theorem Try.ta70_70 (v : Value) (W : World) : (Instr.typeAssert (.iface 70 v) 20 70 true).run Try.prog W = .ok (.tuple #[v, .bool true]) W := by
 have := run_underlying Try.underlying70
 simp [Instr.typeAssert, this]
theorem Try.ta72_70 (v : Value) (W : World) : (Instr.typeAssert (.iface 72 v) 20 70 true).run Try.prog W = .ok (.tuple #[.agg #[], .bool false]) W := by
 have := run_underlying Try.underlying70
 simp [Instr.typeAssert, this, Try.zeroValue70]
theorem Try.ta72_72 (v : Value) (W : World) : (Instr.typeAssert (.iface 72 v) 20 72 true).run Try.prog W = .ok (.tuple #[v, .bool true]) W := by
 have := run_underlying Try.underlying72
 simp [Instr.typeAssert, this]
theorem Try.ta75_70 (v : Value) (W : World) : (Instr.typeAssert (.iface 75 v) 20 70 true).run Try.prog W = .ok (.tuple #[.agg #[], .bool false]) W := by
 have := run_underlying Try.underlying70
 simp [Instr.typeAssert, this, Try.zeroValue70]
theorem Try.ta75_72 (v : Value) (W : World) : (Instr.typeAssert (.iface 75 v) 20 72 true).run Try.prog W = .ok (.tuple #[.agg #[.int .i64 0], .bool false]) W := by
 have := run_underlying Try.underlying72
 simp [Instr.typeAssert, this, Try.zeroValue72]
theorem Try.ta75_75 (v : Value) (W : World) : (Instr.typeAssert (.iface 75 v) 20 75 true).run Try.prog W = .ok (.tuple #[v, .bool true]) W := by
 have := run_underlying Try.underlying75
 simp [Instr.typeAssert, this]
theorem Try.ta89_70 (v : Value) (W : World) : (Instr.typeAssert (.iface 89 v) 20 70 true).run Try.prog W = .ok (.tuple #[.agg #[], .bool false]) W := by
 have := run_underlying Try.underlying70
 simp [Instr.typeAssert, this, Try.zeroValue70]
theorem Try.ta89_72 (v : Value) (W : World) : (Instr.typeAssert (.iface 89 v) 20 72 true).run Try.prog W = .ok (.tuple #[.agg #[.int .i64 0], .bool false]) W := by
 have := run_underlying Try.underlying72
 simp [Instr.typeAssert, this, Try.zeroValue72]
theorem Try.ta89_75 (v : Value) (W : World) : (Instr.typeAssert (.iface 89 v) 20 75 true).run Try.prog W = .ok (.tuple #[.agg #[.int .i64 0], .bool false]) W := by
 have := run_underlying Try.underlying75
 simp [Instr.typeAssert, this, Try.zeroValue75]
end Go.Proofs
end
section
namespace Go.Proofs
open Go.Shelf Go.RowKit Go.Lib Go.Am
set_option linter.unusedSimpArgs false
set_option linter.unusedVariables false
theorem Jh7 : ∀ l : List FT, (J6d l = .iface 70 (.agg #[]) ∧ J1T l = (1, 0)) ∨ (∃ t, J6d l = .iface 72 (.agg #[.int .i64 t]) ∧ J1T l = (2, t)) ∨ (∃ b, J6d l = .iface 75 (.agg #[.int .i64 b]) ∧ J1T l = (3, b)) ∨ (J6d l = .iface 89 (.agg #[]) ∧ J1T l = (0, 0))
 | [] => .inr (.inr (.inr ⟨rfl, rfl⟩))
 | f :: l => by
  unfold J6d J1T
  split
  ·exact .inl ⟨rfl, rfl⟩
  ·split
   ·exact .inr (.inl ⟨_, rfl, rfl⟩)
   ·split
    ·exact .inr (.inr (.inl ⟨_, rfl, rfl⟩))
    ·exact Jh7 l
theorem J1M.keeps {w w' : World} {C C' : Nat → Nat → Prop} {x : DT} {v : Value} (h : J1M w C x v) (hs : ∀ r o u, C r o → cellAt w r o = some u → C' r o ∧ cellAt w' r o = some u) : J1M w' C' x v := by
 obtain ⟨vp, vu, vf, e, h1, h2, h3⟩ := h.ex
 exact ⟨vp, vu, vf, e, h1.keeps hs, h2.keeps hs, h3.keeps hs⟩
abbrev Cw (C : Nat → Nat → Prop) (D nB : Nat) (r o : Nat) : Prop := (C r o ∧ r < D) ∨ (D + 2 ≤ r ∧ r ≠ nB)
structure St (w W : World) (C : Nat → Nat → Prop) (nB : Nat) (x : DT) (now : List FT) (vn : Value) : Prop where
 dev : ∃ vp vu vf, Has W w.heap.size [vp, .int .i64 x.2.1, vu, .bool x.2.2.2.1, vf] ∧ J1M W (Cw C w.heap.size nB) x (J1c vp x.2.1 vu x.2.2.2.1 vf)
 res : Has W (w.heap.size + 1) [.slice none 0 0, .int .i64 0, .slice none 0 0, .bool false, .slice none 0 0]
 nw : Has W nB [vn]
 rel : Jl W (Cw C w.heap.size nB) (.sl 6 (now.map J69)) vn
 up : Up w.heap.size w W
 low : w.heap.size + 2 ≤ nB
theorem St.devS {w W : World} {C : Nat → Nat → Prop} {nB : Nat} {x : DT} {now : List FT} {vn : Value} (h : St w W C nB x now vn) :
  ∃ pa ua fa pn pc un uc fn fc, Has W w.heap.size [.slice pa pn pc, .int .i64 x.2.1, .slice ua un uc, .bool x.2.2.2.1, .slice fa fn fc] ∧ J1M W (Cw C w.heap.size nB) x (J1c (.slice pa pn pc) x.2.1 (.slice ua un uc) x.2.2.2.1 (.slice fa fn fc)) := by
 obtain ⟨vp, vu, vf, h1, h2⟩ := h.dev
 obtain ⟨vp2, vu2, vf2, he, r1, r2, r3⟩ := id h2.ex
 simp only [J1c, Value.agg.injEq, Array.mk.injEq, List.cons.injEq] at he
 obtain ⟨rfl, -, rfl, -, rfl, -⟩ := he
 obtain ⟨pa, pn, pc, rfl⟩ := J29 r1
 obtain ⟨ua, un, uc, rfl⟩ := J28 r2
 obtain ⟨fa, fn, fc, rfl⟩ := J1L r3
 exact ⟨_, _, _, _, _, _, _, _, _, h1, h2⟩
theorem St.lt {w W : World} {C : Nat → Nat → Prop} {nB : Nat} {x : DT} {now : List FT} {vn : Value} (h : St w W C nB x now vn) : nB < W.heap.size := h.nw.lt
theorem St.grow {w W W' : World} {C : Nat → Nat → Prop} {nB : Nat} {x : DT} {now : List FT} {vn : Value} (h : St w W C nB x now vn) (hu : Up W.heap.size W W') : St w W' C nB x now vn := by
 obtain ⟨vp, vu, vf, h1, h2⟩ := h.dev
 have hl := h.lt
 have hw := h.low
 exact ⟨⟨vp, vu, vf, h1.up hu (by omega), h2.up hu (fun _ _ h _ => h)⟩, h.res.up hu (by omega), h.nw.up hu hl, h.rel.up hu (fun _ _ h _ => h), h.up.trans (hu.mono h.up.size), hw⟩
theorem St.alloc {w W : World} {C : Nat → Nat → Prop} {nB : Nat} {x : DT} {now : List FT} {vn : Value} (h : St w W C nB x now vn) (o : Obj) : St w (W.alloc o) C nB x now vn :=
 h.grow ((Up.refl _ W).alloc (Nat.le_refl _) o)
theorem J5K {W : World} {b i r o : Nat} {v u : Value} (hne : r ≠ b) (h : cellAt W r o = some u) : cellAt (W.setCell ⟨b, i, none⟩ v) r o = some u := by
 unfold cellAt at h ⊢
 rw [Below.heap_setCell W ⟨b, i, none⟩ v r hne]
 exact h
theorem JkO {W : World} {b r o : Nat} {v0 v1 v2 v3 v4 u : Value} (hne : r ≠ b) (h : cellAt W r o = some u) : cellAt (J1Y W b v0 v1 v2 v3 v4) r o = some u := by
 unfold J1Y
 exact J5K hne (J5K hne (J5K hne (J5K hne (J5K hne h))))
theorem J8R {C : Nat → Nat → Prop} {D nB b : Nat} (hb : b = D ∨ b = D + 1) {W : World} {v0 v1 v2 v3 v4 : Value} (r o : Nat) (u : Value) (hC : Cw C D nB r o) (h : cellAt W r o = some u) :
  Cw C D nB r o ∧ cellAt (J1Y W b v0 v1 v2 v3 v4) r o = some u :=
 ⟨hC, JkO (by rcases hC with ⟨_, h⟩ | ⟨h, _⟩ <;> omega) h⟩
theorem JaG {B : Nat} {a W : World} {b : Nat} (h : Up B a W) (hb : B ≤ b) (v0 v1 v2 v3 v4 : Value) : Up B a (J1Y W b v0 v1 v2 v3 v4) :=
 h.trans (Up.of_below (J4L (Below.refl B W) hb _ _ _ _ _))
theorem St.put {w W : World} {C : Nat → Nat → Prop} {nB : Nat} {x y : DT} {now : List FT} {vn : Value} (h : St w W C nB x now vn) {vp vu vf : Value} (hy : J1M W (Cw C w.heap.size nB) y (J1c vp y.2.1 vu y.2.2.2.1 vf)) :
  St w (J1Y W w.heap.size vp (.int .i64 y.2.1) vu (.bool y.2.2.2.1) vf) C nB y now vn := by
 obtain ⟨_, _, _, h1, _⟩ := h.dev
 have hw := h.low
 exact ⟨⟨vp, vu, vf, J3A h1 _ _ _ _ _, hy.keeps (J8R (.inl rfl))⟩, Jbb h.res (by omega) _ _ _ _ _, Jbb h.nw (by omega) _ _ _ _ _, h.rel.keeps (J8R (.inl rfl)), JaG h.up (Nat.le_refl _) _ _ _ _ _, hw⟩
theorem Jqz (s z : List UInt8) (m k : Nat) (hk : (⟨z.toArray⟩ : ByteArray).size = k) : (⟨(s.take m ++ z.drop m).toArray⟩ : ByteArray) = (⟨s.toArray⟩ : ByteArray).extract 0 m ++ (⟨z.toArray⟩ : ByteArray).extract m k := by
 have hz : z.length = k := by simpa [ByteArray.size] using hk
 apply ByteArray.ext
 subst hz
 simp only [ByteArray.data_append, ByteArray.data_extract]
 apply Array.toList_inj.1
 simp [List.take_of_length_le]
theorem Try.set_Db (C : Nat → Nat → Prop) (x : DT) (p : Nat) (s : List UInt8) {sb : ByteArray} (hs : (⟨s.toArray⟩ : ByteArray) = sb) (v : Value) (w : World) (h : J1M w C x v) (hp : p < x.1.length) (hz : x.1.length ≤ 1000000) (hu : x.2.2.1.length ≤ 1000000) :
  Calls Try.prog 45 #[v, .int .i64 p, .string sb] w fun e w' => ∃ v', e = .returned v' ∧ Up w.heap.size w w' ∧ J1M w' (fun r o => C r o ∨ w.heap.size ≤ r) (J4z x p s) v' := hs ▸ Try.set_D C x p s v w h hp hz hu
end Go.Proofs
end
