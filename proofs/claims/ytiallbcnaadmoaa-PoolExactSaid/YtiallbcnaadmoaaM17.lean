/-
  Parts of a proof.
-/
import Derived.Shelf.SlSortCmp.WholeK
import Derived.Shelf.SlLaysF0
import Derived.Test.YtiallbcnaadmoaaProg
import Derived.WalkKit
import Derived.KernelRfl
import Derived.Test.YtiallbcnaadmoaaM8
import Derived.Test.YtiallbcnaadmoaaM9
set_option linter.unusedSimpArgs false
set_option linter.unusedVariables false
section
namespace Go.Proofs
open Go.Shelf Go.RowKit Go.Lib Go.Sort
def Try.ρS : Ren where
  f := fun
    | 6 => 165
    | 14 => 213
    | 15 => 214
    | 20 => 235
    | 21 => 236
    | 22 => 237
    | 23 => 238
    | 24 => 239
    | 25 => 240
    | 26 => 241
    | 27 => 242
    | 28 => 243
    | 29 => 244
    | 46 => 250
    | 47 => 251
    | 48 => 252
    | 49 => 253
    | 50 => 254
    | 57 => 256
    | n => n
  t := fun
    | 0 => 0
    | 3 => 3
    | 4 => 4
    | 5 => 5
    | 9 => 9
    | 22 => 114
    | 24 => 117
    | 25 => 206
    | 39 => 213
    | 45 => 263
    | 46 => 264
    | 50 => 173
    | 53 => 159
    | 55 => 211
    | 66 => 273
    | 70 => 277
    | 76 => 280
    | 77 => 281
    | n => n
  g := fun n => n
set_option maxRecDepth 100000 in
theorem Try.laysSort : SlLaysF0.n6 Try.prog Try.ρS where
  mixed := by kernel_rfl
  f6 := ⟨"slices.SortFunc[[]pagemend/api.Dirty,pagemend/api.Dirty]", by decide, by kernel_rfl⟩
  f14 := ⟨"slices.pdqsortCmpFunc[pagemend/api.Dirty]", by decide, by kernel_rfl⟩
  f15 := by kernel_rfl
  f20 := ⟨"slices.insertionSortCmpFunc[pagemend/api.Dirty]", by decide, by kernel_rfl⟩
  f21 := ⟨"slices.heapSortCmpFunc[pagemend/api.Dirty]", by decide, by kernel_rfl⟩
  f22 := ⟨"slices.breakPatternsCmpFunc[pagemend/api.Dirty]", by decide, by kernel_rfl⟩
  f23 := ⟨"slices.choosePivotCmpFunc[pagemend/api.Dirty]", by decide, by kernel_rfl⟩
  f24 := ⟨"slices.reverseRangeCmpFunc[pagemend/api.Dirty]", by decide, by kernel_rfl⟩
  f25 := ⟨"slices.partialInsertionSortCmpFunc[pagemend/api.Dirty]", by decide, by kernel_rfl⟩
  f26 := ⟨"slices.partitionEqualCmpFunc[pagemend/api.Dirty]", by decide, by kernel_rfl⟩
  f27 := ⟨"slices.partitionCmpFunc[pagemend/api.Dirty]", by decide, by kernel_rfl⟩
  f28 := by kernel_rfl
  f29 := by kernel_rfl
  f46 := ⟨"slices.siftDownCmpFunc[pagemend/api.Dirty]", by decide, by kernel_rfl⟩
  f47 := by kernel_rfl
  f48 := by kernel_rfl
  f49 := ⟨"slices.medianAdjacentCmpFunc[pagemend/api.Dirty]", by decide, by kernel_rfl⟩
  f50 := ⟨"slices.medianCmpFunc[pagemend/api.Dirty]", by decide, by kernel_rfl⟩
  f57 := ⟨"slices.order2CmpFunc[pagemend/api.Dirty]", by decide, by kernel_rfl⟩
  t0 := Try.underlying0
  a0 := Try.isAgg0
  z0 := Try.sizeOf0
  v0 := Try.zeroValue0
  t3 := Try.underlying3
  a3 := Try.isAgg3
  z3 := Try.sizeOf3
  v3 := Try.zeroValue3
  t4 := Try.underlying4
  a4 := Try.isAgg4
  z4 := Try.sizeOf4
  v4 := Try.zeroValue4
  t5 := Try.underlying5
  a5 := Try.isAgg5
  z5 := Try.sizeOf5
  v5 := Try.zeroValue5
  t9 := Try.underlying9
  a9 := Try.isAgg9
  z9 := Try.sizeOf9
  v9 := Try.zeroValue9
  t22 := Try.underlying114
  a22 := Try.isAgg114
  z22 := Try.sizeOf114
  v22 := Try.zeroValue114
  t25 := Try.underlying206
  a25 := Try.isAgg206
  z25 := Try.sizeOf206
  v25 := Try.zeroValue206
  t39 := Try.underlying213
  a39 := Try.isAgg213
  z39 := Try.sizeOf213
  v39 := Try.zeroValue213
  t45 := Try.underlying263
  a45 := Try.isAgg263
  z45 := Try.sizeOf263
  v45 := Try.zeroValue263
  t46 := Try.underlying264
  a46 := Try.isAgg264
  z46 := Try.sizeOf264
  v46 := Try.zeroValue264
  t50 := Try.underlying173
  a50 := Try.isAgg173
  z50 := Try.sizeOf173
  v50 := Try.zeroValue173
  t53 := Try.underlying159
  a53 := Try.isAgg159
  z53 := Try.sizeOf159
  v53 := Try.zeroValue159
  t55 := Try.underlying211
  a55 := Try.isAgg211
  z55 := Try.sizeOf211
  v55 := Try.zeroValue211
  t66 := Try.underlying273
  a66 := Try.isAgg273
  z66 := Try.sizeOf273
  v66 := Try.zeroValue273
  t70 := Try.underlying277
  a70 := Try.isAgg277
  z70 := Try.sizeOf277
  v70 := Try.zeroValue277
  t76 := Try.underlying280
  a76 := Try.isAgg280
  z76 := Try.sizeOf280
  v76 := Try.zeroValue280
  t77 := Try.underlying281
  a77 := Try.isAgg281
  z77 := Try.sizeOf281
  v77 := Try.zeroValue281
def Try.encS (x : Am.T_api_Dirty) : List Value := [.int .i64 x.Page, .int .i64 x.Rec, .int .i64 x.Last]
set_option maxHeartbeats 1000000 in
theorem Try.nan (x : Int) (W : World) : Calls Try.prog 215 #[.int .i64 x] W fun e w' => e = .returned (.bool false) ∧ w' = W := by
  go_enter Try.func215, Try.ntmps215
  go_wp2
  all_goals (go_ret; exact ⟨by simp, rfl⟩)
set_option maxHeartbeats 2000000 in
theorem Try.cmpInt (x y : Int) (W : World) : Calls Try.prog 167 #[.int .i64 x, .int .i64 y] W fun e w' => e = .returned (.int .i64 (Lib.compareInt x y)) ∧ w' = W := by
  go_enter Try.func167, Try.ntmps167
  go_wp2_with (go_at_call 215; refine (Try.nan _ _).mono ?_; rintro e w' ⟨rfl, rfl⟩)
  all_goals (go_ret; refine ⟨?_, rfl⟩; unfold Lib.compareInt; simp_all; try (rw [if_neg (by omega), if_neg (by omega)]))
set_option maxHeartbeats 1000000 in
theorem Try.closS (x y : Am.T_api_Dirty) (W : World) : Calls Try.prog 166 #[.agg #[.int .i64 x.Page, .int .i64 x.Rec, .int .i64 x.Last], .agg #[.int .i64 y.Page, .int .i64 y.Rec, .int .i64 y.Last]] W fun e w' => e = .returned (.int .i64 (Lib.compareInt x.Page y.Page)) ∧ ∃ q os', w' = grow (W.drewN q) os' := by
  have hcon := fun W' => Try.cmpInt x.Page y.Page W'
  generalize Lib.compareInt x.Page y.Page = r at hcon ⊢
  go_enter Try.func166, Try.ntmps166
  go_wp2_with (go_at_call 167; refine (hcon _).mono ?_; rintro e w' ⟨rfl, rfl⟩)
  go_ret
  exact ⟨rfl, 0, _, by rw [alloc_eq_grow, alloc_eq_grow, grow_grow]; rfl⟩
theorem Try.ltS : ltOf (fun x y : Am.T_api_Dirty => Lib.compareInt x.Page y.Page) = fun x y => decide (x.Page < y.Page) := by
  funext x y
  unfold ltOf Lib.compareInt
  by_cases h1 : x.Page < y.Page
  · simp [h1]
  · by_cases h2 : y.Page < x.Page <;> simp [h1, h2]
theorem Try.swoS : SWO (ltOf fun x y : Am.T_api_Dirty => Lib.compareInt x.Page y.Page) where
  irrefl x := by rw [Try.ltS]; simp
  trans x y z h1 h2 := by rw [Try.ltS] at *; simp at *; omega
  ntrans x y z h1 h2 := by rw [Try.ltS] at *; simp at *; omega
set_option maxHeartbeats 2000000 in
theorem Try.ins0 (a : Option Addr) (cap : Nat) (fv : Value) (w : World) : Calls Try.prog 235 #[.slice a 0 cap, .int .i64 0, .int .i64 0, fv] w fun e w' => e = .returned (.tuple #[]) ∧ w' = w := by
  go_enter Try.func235, Try.ntmps235
  go_wp2
  refine wp_loop_rounds 1 ?_
  rw [rounds_succ]
  go_wp2
  go_end0
  exact ⟨rfl, rfl⟩
set_option maxHeartbeats 2000000 in
theorem Try.pdq0 (a : Option Addr) (cap : Nat) (lim : Int) (fv : Value) (w : World) : Calls Try.prog 213 #[.slice a 0 cap, .int .i64 0, .int .i64 0, .int .i64 lim, fv] w fun e w' => e = .returned (.tuple #[]) ∧ w' = w := by
  go_enter Try.func213, Try.ntmps213
  go_wp2
  refine wp_loop_rounds 1 ?_
  rw [rounds_succ]
  go_wp2_with (go_at_call 235; refine (Try.ins0 _ _ _ _).mono ?_; rintro e w' ⟨rfl, rfl⟩)
  (try simp only [Exit.inBlock, Exit.then]); refine bodyPost_ret (results_none rfl _ _ _) rfl ?_
  exact ⟨rfl, rfl⟩
set_option maxHeartbeats 2000000 in
theorem Try.sort0 (a : Option Addr) (cap : Nat) (fv : Value) (w : World) : Calls Try.prog 165 #[.slice a 0 cap, fv] w fun e w' => e = .returned (.tuple #[]) ∧ w' = w := by
  have hl := Any.bits_Len (SlLaysF0.n15.bits (P := Try.prog) (ρ := Try.ρS) { Try.laysSort with }) 0 w (by omega) (by omega)
  change Calls Try.prog 214 _ _ _ at hl
  go_enter Try.func165, Try.ntmps165
  go_wp2_with (first | (go_at_call 214; refine hl.mono ?_; rintro e w' ⟨rfl, rfl⟩) | (go_at_call 213; refine (Try.pdq0 _ _ _ _ _).mono ?_; rintro e w' ⟨rfl, rfl⟩))
  go_end0
  exact ⟨rfl, rfl⟩
theorem J8M (args : List Am.AV) (blks : List Am.Blk) (r : Am.Res) (h : Am.JeO 3 166 Am.J8n Am.Je (fun x => x.Page) args blks = some r) : Am.J6W Try.prog 165 args blks r := by
  have eg : ∀ args w, (callFunc 166 args).run Try.prog w = .ok (.enter 166 args) w := enters_of Try.func166 (by kernel_rfl) rfl
  refine Am.Juw (enc := Try.encS) ⟨_, Try.func165, by decide, by decide⟩ (by decide) (fun row x h => ?_) (fun x => rfl) (fun x => rfl)
    (fun a cap w => Try.sort0 a cap _ w)
    (fun blk cap d w hH hb hs => ?_) args blks r h
  · unfold Am.J8n at h
    split at h
    · injection h with h; subst h; rfl
    · cases h
  · have := AnyQ.slices_SortFunc Try.laysSort 3 Try.isAgg117 Try.sizeOf117 Try.encS (fun _ => rfl) (fun x v hv => by simp [Try.encS] at hv; rcases hv with rfl | rfl | rfl <;> rfl) (fun x y => Lib.compareInt x.Page y.Page) Try.swoS 166 #[] blk 0 cap d w eg (fun _ _ _ _ x y => Try.closS x y _) hH hb hs
    rw [Try.ltS] at this
    exact this
end Go.Proofs
end
