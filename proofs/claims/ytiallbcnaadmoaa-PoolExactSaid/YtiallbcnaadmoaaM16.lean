/-
  Parts of a proof.
-/
import Derived.Test.YtiallbcnaadmoaaChecked
import Derived.Shelf.RegionOpenPlain
import Derived.WalkKit
import Derived.Deep.RegionLaw
import Derived.KernelRfl
import Derived.Test.YtiallbcnaadmoaaM7
import Derived.Test.YtiallbcnaadmoaaM9
set_option linter.unusedSimpArgs false
set_option linter.unusedVariables false
section
namespace Go.Proofs
open Go.Shelf Go.RowKit
set_option maxHeartbeats 4000000 in
set_option maxRecDepth 100000 in
theorem Try.del_none (a : Option Addr) (n cap i : Nat) (hi : i ≤ n) (hc : n ≤ cap) (w : World) :
    Calls Try.prog 168 #[.slice a n cap, .int .i64 i, .int .i64 i] w fun e w' => e = .returned (.slice a n cap) ∧ w' = w := by
  go_enter Try.func168, Try.ntmps168
  go_wp2
  all_goals (go_ret; exact ⟨rfl, rfl⟩)
set_option maxHeartbeats 4000000 in
set_option maxRecDepth 100000 in
theorem Try.del_some (r n cap i j : Nat) (hij : i < j) (hj : j ≤ n) (hcap : n ≤ cap) (w : World) (news : List Value) (hn : news.length = (n - j) * 37) (h1 : ∀ u ∈ news, u.oneCell' = true)
    (hget : ∀ t u, news[t]? = some u → w.cell? ⟨r, j * 37 + t, none⟩ = some u) (hall : ∀ t, t < n * 37 → (w.cell? ⟨r, t, none⟩).isSome = true ∧ w.frozen? ⟨r, t, none⟩ = false)
    (W1 : World) (hW1 : W1 = w.drew.setCells r (i * 37) news) (hall1 : ∀ t, t < n * 37 → (W1.cell? ⟨r, t, none⟩).isSome = true ∧ W1.frozen? ⟨r, t, none⟩ = false) (zc : Array Value) (hZ : ∀ w, (zeroValue 201).run Try.prog w = .ok (.agg zc) w) (hZ37 : zc.size = 37)
    (hZ1 : ∀ v ∈ (Builtin.zeroCells zc (j - i)).toList, v.oneCell' = true) :
    Calls Try.prog 168 #[.slice (some ⟨r, 0, none⟩) n cap, .int .i64 i, .int .i64 j] w fun e w' => e = .returned (.slice (some ⟨r, 0, none⟩) (n - (j - i)) cap) ∧ w' = W1.setCells r ((i + (n - j)) * 37) (Builtin.zeroCells zc (j - i)).toList := by
  obtain ⟨A, hA, hsrc⟩ : ∃ A : Addr, (if cap = j then some (⟨r, 0, none⟩ : Addr) else some ⟨r, j * 37, none⟩) = some A ∧ Hid (∀ t u, news[t]? = some u → w.drew.cell? (A.add t) = some u) := by
    by_cases h : cap = j
    · refine ⟨⟨r, 0, none⟩, by simp [h], fun t u hu => ?_⟩
      have h0 : news.length = 0 := by rw [hn, show n - j = 0 by omega, Nat.zero_mul]
      rw [List.length_eq_zero_iff.1 h0] at hu
      simp at hu
    · refine ⟨⟨r, j * 37, none⟩, by simp [h], fun t u hu => ?_⟩
      rw [Addr.add_lit]
      exact hget t u hu
  have s1 : Hid (news.length = (n - j) * 37) := hn
  have s2 : Hid (∀ u ∈ news, u.oneCell' = true) := h1
  have s3 : Hid (∀ t, t < news.length → (w.drew.cell? ⟨r, 0 + i * 37 + t, none⟩).isSome = true ∧ w.drew.frozen? ⟨r, 0 + i * 37 + t, none⟩ = false) := by
    intro t ht
    rw [hn] at ht
    have := hall (i * 37 + t) (by omega)
    rw [Nat.zero_add]
    exact this
  have hcl : ∀ ty, (Builtin.clear_ #[107] ty #[.slice (some ⟨r, (i + (n - j)) * 37, none⟩) (n - (i + (n - j))) (cap - (i + (n - j)))]).run Try.prog W1 = .ok (.tuple #[]) (W1.setCells r ((i + (n - j)) * 37) (Builtin.zeroCells zc (n - (i + (n - j)))).toList) := by
    intro ty
    have e : n - (i + (n - j)) = j - i := by omega
    rw [e]
    exact Am.Jow W1 107 201 ty (.agg zc) Try.underlying107 hZ r ((i + (n - j)) * 37) (j - i) _ (by omega) (fun t ht => (hall1 _ (by have ht : t < (j - i) * zc.size := ht; rw [hZ37] at ht; omega)).1) (fun t ht => (hall1 _ (by have ht : t < (j - i) * zc.size := ht; rw [hZ37] at ht; omega)).2) hZ1
  have hW : Hid (W1 = w.drew.setCells r (0 + i * 37) news) := by rw [Nat.zero_add]; exact hW1
  have hsz : (Try.prog.info? 201).map (·.size) = some 37 := by kernel_rfl
  obtain ⟨i0, hi0, hz0⟩ := Option.map_eq_some_iff.1 hsz
  have mixed : Try.prog.follows .mixedOrders = true := by kernel_rfl
  have hic : i ≤ cap := by omega
  have hjc : j ≤ cap := by omega
  clear hW1 hall hall1 hget hn h1
  go_enter Try.func168, Try.ntmps168
  go_wp2_with fail
  go_region_law_o (refine step_append_room rfl (.tmp 22) (.tmp 25) 107 rfl 201 i0 37 Try.underlying107 hi0 hz0 r 0 i cap (by simp [Act.eval, Act.put]) A (n - j) (cap - j) news (by simp [Act.eval, Act.put]) s1.out hsrc.out s2.out (by omega) s3.out ?_; rw [← hW.out])
  go_wp2
  go_ret
  refine ⟨by rw [show n - (j - i) = i + (n - j) by omega]; rfl, ?_⟩
  rw [show n - (i + (n - j)) = j - i by omega]
open Go.Am in
theorem J98 (args : List Am.AV) (blks : List Am.Blk) (r : Am.Res) (h : Am.JiE 37 (J7 (⟨(⟨0, 0, (Vector.replicate 16 (⟨false, []⟩ : Jk))⟩ : T_api_Page), false, 0, false⟩ : T_api_Frame)) args blks = some r) : Am.J6W Try.prog 168 args blks r :=
  Am.Jvw (esz := 37) (zc := #[.int .i64 0, .int .i64 0, .bool false, .string ⟨#[]⟩, .bool false, .string ⟨#[]⟩, .bool false, .string ⟨#[]⟩, .bool false, .string ⟨#[]⟩, .bool false, .string ⟨#[]⟩, .bool false, .string ⟨#[]⟩, .bool false, .string ⟨#[]⟩, .bool false, .string ⟨#[]⟩, .bool false, .string ⟨#[]⟩, .bool false, .string ⟨#[]⟩, .bool false, .string ⟨#[]⟩, .bool false, .string ⟨#[]⟩, .bool false, .string ⟨#[]⟩, .bool false, .string ⟨#[]⟩, .bool false, .string ⟨#[]⟩, .bool false, .string ⟨#[]⟩, .bool false, .int .i64 0, .bool false])
    ⟨_, Try.func168, by decide, by decide⟩ (by omega) rfl rfl
    (fun a n cap i hi hc w => Try.del_none a n cap i hi hc w)
    (fun r n cap i j hij hj hcap w news hn h1 hget hall W1 hW1 hall1 hz1 => Try.del_some r n cap i j hij hj hcap w news hn h1 hget hall W1 hW1 hall1 _ Try.zeroValue201 rfl hz1) args blks r h
end Go.Proofs
end
