/-
  Parts of a proof.
-/
import Derived.Test.YtiallbcnaadmoaaChecked
import Derived.Shelf.RegionOpenPlain
import Derived.Shelf.Spec.SlicesInsert
import Derived.Lib.AppendZerosOnto
import Derived.Lib.JoinLaws
import Derived.Laws.NewBlocks
import Derived.Lib.Overlaps
import Derived.WalkKit
import Derived.KernelRfl
import Derived.Test.YtiallbcnaadmoaaM8
set_option linter.unusedSimpArgs false
set_option linter.unusedVariables false
section
namespace Go.Proofs
open Go.Shelf Go.RowKit Go.Lib
theorem Try.ins139_size : (Try.prog.info? 74).map (·.size) = some 3 := by kernel_rfl
theorem Try.ins139_bytes : (Try.prog.info? 74).map (·.bytes) = some 32 := by kernel_rfl
theorem Try.ins139_zero : (Try.prog.info? 74).map (·.zero) = some (some (.agg #[.int .i64 0, .int .i64 0, .string ⟨#[]⟩])) := by kernel_rfl
theorem Try.ins139_over (a b : Addr) (la ca lb cb : Nat) (w : World) (hne : a.block ≠ b.block) (tA tB : TypeId) (kA kB : Nat) (hsa : w.shape? a.block = some (tA, kA)) (hsb : w.shape? b.block = some (tB, kB)) (hkB : kB ≠ 0)
  (hfa : w.frozen? a = false) (hfe : w.frozen? { block := a.block, off := kA } = false) : (callFunc 197 #[.slice (some a) la ca, .slice (some b) lb cb]).run Try.prog w = .ok (.value (.bool false)) w := by
 rw [run_callFunc_extern Try.func197 (by kernel_rfl) (by kernel_rfl) (by kernel_rfl) (e := Extern.SlicesOverlaps.overlaps #[26, 26] #[4]) (by kernel_rfl),
  Lib.run_overlaps_apart w 26 4 74 Try.underlying26 3 Try.sizeOf74 a b la ca lb cb hne tA tB kA kB hsa hsb hkB hfa hfe]
 rfl
set_option maxHeartbeats 4000000 in
set_option maxRecDepth 100000 in
theorem Try.ins139_shift (b n c i vb vc : Nat) (cs vs : List Value) (w : World) (tA tB : TypeId) (kA kB : Nat) (hi : i < n) (hroom : n + 1 ≤ c) (hbig : (n + 1) * 32 ≤ 140737488355328) (hvb : vb ≠ b)
  (hcl : cs.length = n * 3) (hvl : vs.length = 3)
  (hcs : ∀ (j : Nat) v, cs[j]? = some v → w.cell? ⟨b, j, none⟩ = some v) (hsp : ∀ j, j < (n + 1) * 3 → (w.cell? ⟨b, j, none⟩).isSome = true) (hfz : ∀ j, j < (n + 1) * 3 → w.frozen? ⟨b, j, none⟩ = false)
  (hvs : ∀ (j : Nat) v, vs[j]? = some v → w.cell? ⟨vb, j, none⟩ = some v) (h1c : ∀ v ∈ cs, v.oneCell' = true) (h1v : ∀ v ∈ vs, v.oneCell' = true)
  (hsa : w.shape? vb = some (tA, kA)) (hsb : w.shape? b = some (tB, kB)) (hkB : kB ≠ 0) (hfa : w.frozen? ⟨vb, 0, none⟩ = false) (hfe : w.frozen? ⟨vb, kA, none⟩ = false) :
  Calls Try.prog 139 #[.slice (some ⟨b, 0, none⟩) n c, .int .i64 i, .slice (some ⟨vb, 0, none⟩) 1 vc] w fun e w' =>
   e = .returned (.slice (some ⟨b, 0, none⟩) (n + 1) c) ∧ w' = (w.drew.setCells b ((i + 1) * 3) (cs.drop (i * 3))).setCells b (i * 3) vs := by
 have hz2 : ¬ ((i : Int) = (n : Int)) := by omega
 have hsz := Try.ins139_size
 have hov : ∀ lb cb, (callFunc 197 #[.slice (some ⟨vb, 0, none⟩) 1 vc, .slice (some ⟨b, (i + 1) * 3, none⟩) lb cb]).run Try.prog w = .ok (.value (.bool false)) w := fun lb cb =>
  Try.ins139_over _ _ _ _ _ _ w hvb tA tB kA kB hsa hsb hkB hfa hfe
 have hdl : (cs.drop (i * 3)).length = (n - i) * 3 := by rw [List.length_drop, hcl]; omega
 have mixed : Try.prog.follows .mixedOrders = true := by kernel_rfl
 have hw1 : IntKind.i64.wrap ((i : Int) + 1) = (i : Int) + 1 := by rw [IntKind.wrap_i64]; omega
 have hb1 : (0 : Int) ≤ (i : Int) + 1 := by omega
 have hin : i ≤ n := by omega
 have htn : ((i : Int) + 1).toNat = i + 1 := by omega
 have hb2 : ¬ (c = i + 1) := by omega
 have hb3 : (i : Int) ≤ (n : Int) + 1 := by omega
 have hb4 : ¬ (c = i) := by omega
 have hcp1 : ∀ ty dc sc, (Builtin.copy_ #[26, 26] ty #[.slice (some ⟨b, (i + 1) * 3, none⟩) (n - i) dc, .slice (some ⟨b, i * 3, none⟩) (n + 1 - i) sc]).run Try.prog w.drew = .ok (goInt ((n - i : Nat) : Int)) (w.drew.setCells b ((i + 1) * 3) (cs.drop (i * 3))) := fun ty dc sc =>
  Am.Jbw w.drew _ _ ty 74 3 b ((i + 1) * 3) (n - i) dc ⟨b, i * 3, none⟩ (n + 1 - i) sc (n - i) (cs.drop (i * 3)) Try.underlying26 hsz (by simp only [Nat.min_def]; split <;> omega) hdl
   (fun j v hj => by rw [Addr.add_lit]; exact hcs (i * 3 + j) v (by rwa [List.getElem?_drop] at hj))
   (fun j hj => hsp _ (by omega)) (fun j hj => hfz _ (by omega)) (fun v hv => h1c v (List.mem_of_mem_drop hv))
 obtain ⟨W1, hW1⟩ : ∃ W1, W1 = w.drew.setCells b ((i + 1) * 3) (cs.drop (i * 3)) := ⟨_, rfl⟩
 have hsp1 : ∀ k, k < (n + 1) * 3 → (W1.cell? ⟨b, k, none⟩).isSome = true := fun k hk => by
  rw [hW1]
  exact isSome_setCells b (cs.drop (i * 3)) ((i + 1) * 3) w.drew (fun j hj => hsp _ (by omega)) k (hsp k hk)
 have hcp2 : ∀ (W : World), (∀ x, W.cell? x = W1.cell? x) → (∀ x, W.frozen? x = W1.frozen? x) → ∀ ty dc, (Builtin.copy_ #[26, 26] ty #[.slice (some ⟨b, i * 3, none⟩) (n + 1 - i) dc, .slice (some ⟨vb, 0, none⟩) 1 vc]).run Try.prog W = .ok (goInt 1) (W.setCells b (i * 3) vs) := fun W hWc hWf ty dc =>
  Am.Jbw W _ _ ty 74 3 b (i * 3) (n + 1 - i) dc ⟨vb, 0, none⟩ 1 vc 1 vs Try.underlying26 hsz (by simp only [Nat.min_def]; split <;> omega) (by rw [hvl])
   (fun j v hj => by
    rw [Addr.add_lit, hWc, hW1, World.cell?_setCells_out b _ _ _ _ (fun h _ => absurd h hvb), Nat.zero_add]
    exact hvs j v hj)
   (fun j hj => by rw [hWc]; exact hsp1 _ (by omega)) (fun j hj => by rw [hWf, hW1, World.frozen?_setCells]; exact hfz _ (by omega)) h1v
 rw [← hW1] at hcp1
 go_enter Try.func139, Try.ntmps139
 go_wp2_with (simp only [hov])
 go_region_law_o (refine step_copy_runI rfl _ _ 26 26 rfl _ _ (by simp [Act.eval, Act.put]) (by simp [Act.eval, Act.put]) (hcp1 _ _ _) ?_)
 go_wp2_with (at_builtin; refine wpList_copy_runI _ rfl _ _ 26 26 rfl _ _ rfl rfl (hcp2 _ (fun _ => rfl) (fun _ => rfl) _ _) ?_)
 go_ret
 first | exact ⟨rfl, rfl⟩ | exact ⟨rfl, by rw [hW1]⟩
set_option maxHeartbeats 4000000 in
set_option maxRecDepth 100000 in
theorem Try.ins139_room (b n c vb vc : Nat) (vs : List Value) (w : World) (hroom : n + 1 ≤ c) (hbig : (n + 1) * 32 ≤ 140737488355328) (hvl : vs.length = 3)
  (hsp : ∀ j, j < (n + 1) * 3 → (w.cell? ⟨b, j, none⟩).isSome = true) (hfz : ∀ j, j < (n + 1) * 3 → w.frozen? ⟨b, j, none⟩ = false)
  (hvs : ∀ (j : Nat) v, vs[j]? = some v → w.cell? ⟨vb, j, none⟩ = some v) (h1v : ∀ v ∈ vs, v.oneCell' = true) :
  Calls Try.prog 139 #[.slice (some ⟨b, 0, none⟩) n c, .int .i64 n, .slice (some ⟨vb, 0, none⟩) 1 vc] w fun e w' =>
   e = .returned (.slice (some ⟨b, 0, none⟩) (n + 1) c) ∧ w' = w.setCells b (n * 3) vs := by
 have mixed : Try.prog.follows .mixedOrders = true := by kernel_rfl
 obtain ⟨i0, hi0, hs0⟩ := Option.map_eq_some_iff.1 Try.ins139_size
 have hsrc : Src Try.prog i0.size 26 (.slice (some ⟨vb, 0, none⟩) 1 vc) 1 vs w := Src.ofSlice w Try.underlying26 ⟨vb, 0, none⟩ 1 vc vs (by omega) (fun j u hj => by rw [Addr.add_lit, Nat.zero_add]; exact hvs j u hj) h1v
 go_enter Try.func139, Try.ntmps139
 go_wp2_with (at_builtin; refine wpList_append_room_src _ rfl _ _ 26 26 rfl 74 i0 Try.underlying26 hi0 b 0 n c rfl _ rfl 1 vs hsrc hroom (by rw [hs0]; intro j hj; rw [Nat.zero_add]; exact hsp _ (by omega)) (by rw [hs0]; intro j hj; rw [Nat.zero_add]; exact hfz _ (by omega)) ?_)
 go_ret
 first | exact ⟨rfl, rfl⟩ | exact ⟨rfl, by rw [hs0, Nat.zero_add]⟩
set_option maxHeartbeats 4000000 in
set_option maxRecDepth 100000 in
theorem Try.ins139_grow (base : Option Addr) (n vb vc : Nat) (cs vs : List Value) (w : World) (hbig : (n + 1) * 32 ≤ 140737488355328)
  (hcl : cs.length = n * 3) (hvl : vs.length = 3) (hnil : base = none → n = 0)
  (hcs : ∀ a, base = some a → ∀ (j : Nat) v, cs[j]? = some v → w.cell? (a.add j) = some v)
  (hvs : ∀ (j : Nat) v, vs[j]? = some v → w.cell? ⟨vb, j, none⟩ = some v) (h1v : ∀ v ∈ vs, v.oneCell' = true) :
  Calls Try.prog 139 #[.slice base n n, .int .i64 n, .slice (some ⟨vb, 0, none⟩) 1 vc] w fun e w' => ∃ (G : Nat) (zs : Array Value) (t : TypeId), n + 1 ≤ G ∧ zs.size = (G - (n + 1)) * 3 ∧
   e = .returned (.slice (some ⟨w.heap.size, 0, none⟩) (n + 1) G) ∧ w' = w.drew.alloc (.cells ((cs ++ vs).toArray ++ zs) t) := by
 have mixed : Try.prog.follows .mixedOrders = true := by kernel_rfl
 obtain ⟨i0, hi0, hs0⟩ := Option.map_eq_some_iff.1 Try.ins139_size
 have hb0 : i0.bytes = 32 := by have := Try.ins139_bytes; rw [hi0] at this; simpa using this
 have hz0 : i0.zero = some (.agg #[.int .i64 0, .int .i64 0, .string ⟨#[]⟩]) := by have := Try.ins139_zero; rw [hi0] at this; simpa using this
 have hroom : n < n + 1 := by omega
 have hsrc : Src Try.prog i0.size 26 (.slice (some ⟨vb, 0, none⟩) 1 vc) 1 vs w := Src.ofSlice w Try.underlying26 ⟨vb, 0, none⟩ 1 vc vs (by omega) (fun j u hj => by rw [Addr.add_lit, Nat.zero_add]; exact hvs j u hj) h1v
 have hold : (Builtin.firstCells i0.size n (.slice base n n)).run Try.prog w.drew = .ok cs.toArray w.drew := by
  rw [hs0]
  cases base with
  | none =>
   have h0 := hnil rfl
   subst h0
   rw [List.length_eq_zero_iff.1 (by omega : cs.length = 0)]
   exact run_firstCells_none w.drew 3 0 0 0
  | some a => exact run_firstCells_some w.drew 3 n a n n cs hcl (fun j v hj => hcs a rfl j v hj)
 have hrun : ∀ ty, (Builtin.append_ #[26, 26] ty #[.slice base n n, .slice (some ⟨vb, 0, none⟩) 1 vc]).run Try.prog w = _ := fun ty =>
  run_append_grow_src w 26 26 ty 74 i0 _ Try.underlying26 hi0 hz0 base n n cs hold _ 1 vs hsrc hroom (by omega) (by rw [hb0]; exact growslice_fits hroom hbig)
 have hfin : ∀ G, G = grownCap w (n + 1) n 74 → ∃ (G' : Nat) (zs : Array Value) (t : TypeId), n + 1 ≤ G' ∧ zs.size = (G' - (n + 1)) * 3 ∧
   Ending.returned (.slice (some ⟨w.heap.size, 0, none⟩) (n + 1) G) = .returned (.slice (some ⟨w.heap.size, 0, none⟩) (n + 1) G') ∧
   w.drew.alloc (.cells ((cs ++ vs).toArray ++ Builtin.zeroCells (Value.agg #[.int .i64 0, .int .i64 0, .string ⟨#[]⟩]).cells (G - (n + 1))) 74) = w.drew.alloc (.cells ((cs ++ vs).toArray ++ zs) t) := fun G hG =>
  ⟨G, _, _, by rw [hG]; exact grownCap_ge w _ _ _, by rw [size_zeroCells]; rfl, rfl, rfl⟩
 go_enter Try.func139, Try.ntmps139
 cases base with
 | none =>
  have h0 := hnil rfl
  subst h0
  go_wp2_with (at_builtin; refine Lib.wpList_append_run _ rfl _ _ _ _ rfl _ _ rfl rfl _ _ (hrun _) ?_)
  go_ret
  exact ⟨grownCap w 1 0 74, grownCap_ge w 1 _ _, _, by rw [size_zeroCells]; rfl, rfl, _, rfl⟩
 | some a =>
  obtain ⟨ab, ao, asp⟩ := a
  go_wp2_with (at_builtin; refine Lib.wpList_append_run _ rfl _ _ _ _ rfl _ _ rfl rfl _ _ (hrun _) ?_)
  all_goals (go_ret; exact hfin _ rfl)
set_option maxHeartbeats 4000000 in
set_option maxRecDepth 100000 in
theorem Try.ins139_move (b n i vb vc : Nat) (cs vs : List Value) (w : World) (hi : i < n) (hbig : (n + 1) * 32 ≤ 140737488355328) (hvb : vb ≠ b)
  (hcl : cs.length = n * 3) (hvl : vs.length = 3)
  (hcs : ∀ (j : Nat) v, cs[j]? = some v → w.cell? ⟨b, j, none⟩ = some v) (hvs : ∀ (j : Nat) v, vs[j]? = some v → w.cell? ⟨vb, j, none⟩ = some v) (h1c : ∀ v ∈ cs, v.oneCell' = true) (h1v : ∀ v ∈ vs, v.oneCell' = true) :
  Calls Try.prog 139 #[.slice (some ⟨b, 0, none⟩) n n, .int .i64 i, .slice (some ⟨vb, 0, none⟩) 1 vc] w fun e w' => ∃ (G : Nat) (row : Array Value) (t : TypeId), n + 1 ≤ G ∧ G * 3 = row.size ∧ (∀ j, j < i * 3 → row[j]? = cs[j]?) ∧
   e = .returned (.slice (some ⟨w.heap.size, 0, none⟩) (n + 1) G) ∧ w' = (((w.alloc (.cells row t)).drew.setCells w.heap.size (i * 3) vs).drew).setCells w.heap.size ((i + 1) * 3) (cs.drop (i * 3)) := by
 have mixed : Try.prog.follows .mixedOrders = true := by kernel_rfl
 obtain ⟨i0, hi0, hs0⟩ := Option.map_eq_some_iff.1 Try.ins139_size
 have hb0 : i0.bytes = 32 := by have := Try.ins139_bytes; rw [hi0] at this; simpa using this
 have hz0 : i0.zero = some (.agg #[.int .i64 0, .int .i64 0, .string ⟨#[]⟩]) := by have := Try.ins139_zero; rw [hi0] at this; simpa using this
 have hsz := Try.ins139_size
 have hroom : n < n + 1 := by omega
 have hz2 : ¬ ((i : Int) = (n : Int)) := by omega
 have hz3 : (n : Int) < (n : Int) + 1 := by omega
 have hbw : b < w.heap.size := block_lt_of_cell (hcs 0 _ (List.getElem?_eq_getElem (by omega)))
 have hvw : vb < w.heap.size := block_lt_of_cell (hvs 0 _ (List.getElem?_eq_getElem (by omega)))
 have hkk : (n : Int) + 1 - (i : Int) = ((n + 1 - i : Nat) : Int) := by omega
 have hik : i + (n + 1 - i) = n + 1 := by omega
 have hold : (Builtin.firstCells i0.size i (.slice (some ⟨b, 0, none⟩) i n)).run Try.prog w.drew = .ok (cs.take (i * 3)).toArray w.drew := by
  rw [hs0]
  exact run_firstCells_some w.drew 3 i ⟨b, 0, none⟩ i n (cs.take (i * 3)) (by rw [List.length_take]; omega) (fun j v hj => by
   rw [Addr.add_lit, Nat.zero_add]
   rw [List.getElem?_take] at hj
   split at hj
   ·exact hcs j v hj
   ·cases hj)
 have hrz : ∀ ty, (Builtin.append_ #[26, 3] ty #[.slice (some ⟨b, 0, none⟩) i n, .int .i64 ((n : Int) + 1 - (i : Int))]).run Try.prog w =
   .ok (.slice (some ⟨w.heap.size, 0, none⟩) (n + 1) (grownCap w (n + 1) n 74)) (w.drew.alloc (.cells ((cs.take (i * 3)).toArray ++ Builtin.zeroCells (Value.agg #[.int .i64 0, .int .i64 0, .string ⟨#[]⟩]).cells (n + 1 - i) ++ Builtin.zeroCells (Value.agg #[.int .i64 0, .int .i64 0, .string ⟨#[]⟩]).cells (grownCap w (n + 1) n 74 - (n + 1))) 74)) := fun ty => by
  have h := Lib.run_append_grow_zeros w 26 3 ty 74 i0 _ .i64 .i64 Try.underlying26 Try.underlying3 hi0 hz0 (some ⟨b, 0, none⟩) i n (cs.take (i * 3)) hold (n + 1 - i) (by omega) (by omega) (by omega) (by omega) (by rw [hb0]; omega) (by rw [hb0, hik]; exact growslice_fits hroom hbig)
  rw [hik] at h
  rw [hkk]
  exact h
 obtain ⟨G, hG⟩ : ∃ G, G = grownCap w (n + 1) n 74 := ⟨_, rfl⟩
 obtain ⟨ROW, hROW⟩ : ∃ ROW : Array Value, ROW = (cs.take (i * 3)).toArray ++ Builtin.zeroCells (Value.agg #[.int .i64 0, .int .i64 0, .string ⟨#[]⟩]).cells (n + 1 - i) ++ Builtin.zeroCells (Value.agg #[.int .i64 0, .int .i64 0, .string ⟨#[]⟩]).cells (G - (n + 1)) := ⟨_, rfl⟩
 rw [← hG] at hrz
 rw [← hROW] at hrz
 have hGn : n + 1 ≤ G := by rw [hG]; exact grownCap_ge w _ _ _
 have hzl : ∀ k, (Builtin.zeroCells (Value.agg #[.int .i64 0, .int .i64 0, .string ⟨#[]⟩]).cells k).size = k * 3 := fun k => by rw [size_zeroCells]; rfl
 have hRs : ROW.size = G * 3 := by
  rw [hROW]
  simp only [Array.size_append, List.size_toArray, List.length_take, hzl]
  omega
 have hRg : ∀ j, j < i * 3 → ROW[j]? = cs[j]? := fun j hj => by
  rw [hROW, Array.getElem?_append_left (by simp only [Array.size_append, List.size_toArray, List.length_take, hzl]; omega), Array.getElem?_append_left (by simp only [List.size_toArray, List.length_take]; omega), List.getElem?_toArray, List.getElem?_take, if_pos hj]
 have hRl : (n + 1) * 3 ≤ ROW.size := by rw [hRs]; exact Nat.mul_le_mul_right _ hGn
 obtain ⟨W1, hW1⟩ : ∃ W1, W1 = w.drew.alloc (.cells ROW 74) := ⟨_, rfl⟩
 rw [← hW1] at hrz
 have hN : ∀ j, j < (n + 1) * 3 → (W1.cell? ⟨w.heap.size, j, none⟩).isSome = true := fun j hj => by
  rw [hW1, World.cell?_alloc_at (w := w.drew) ROW _ w.heap.size j rfl, Array.getElem?_eq_getElem (by omega)]; rfl
 have hNf : ∀ j, W1.frozen? ⟨w.heap.size, j, none⟩ = false := fun j => by rw [hW1]; exact World.frozen?_alloc_at (w := w.drew) ROW _ w.heap.size j rfl
 have hOb : ∀ j v, w.cell? ⟨b, j, none⟩ = some v → W1.cell? ⟨b, j, none⟩ = some v := fun j v h => by rw [hW1, World.cell?_alloc_past (w := w.drew) _ b j hbw]; exact h
 have hOv : ∀ j v, w.cell? ⟨vb, j, none⟩ = some v → W1.cell? ⟨vb, j, none⟩ = some v := fun j v h => by rw [hW1, World.cell?_alloc_past (w := w.drew) _ vb j hvw]; exact h
 have hcpA : ∀ (W : World), (∀ x, W.cell? x = W1.cell? x) → (∀ x, W.frozen? x = W1.frozen? x) → ∀ ty dc, (Builtin.copy_ #[26, 26] ty #[.slice (some ⟨w.heap.size, i * 3, none⟩) (n + 1 - i) dc, .slice (some ⟨vb, 0, none⟩) 1 vc]).run Try.prog W = .ok (goInt 1) (W.setCells w.heap.size (i * 3) vs) := fun W hWc hWf ty dc =>
  Am.Jbw W _ _ ty 74 3 w.heap.size (i * 3) (n + 1 - i) dc ⟨vb, 0, none⟩ 1 vc 1 vs Try.underlying26 hsz (by simp only [Nat.min_def]; split <;> omega) (by rw [hvl])
   (fun j v hj => by rw [Addr.add_lit, hWc, Nat.zero_add]; exact hOv _ v (hvs j v hj))
   (fun j hj => by rw [hWc]; exact hN _ (by omega)) (fun j hj => by rw [hWf]; exact hNf _) h1v
 have hG63 : G ≤ 9223372036854775807 := by
  have := grownCap_le_maxLen w (n + 1) n 74 (by unfold maxLen; omega)
  rw [← hG] at this
  unfold maxLen at this
  omega
 have hGi : ¬ (G = i) := by omega
 have hGim : ¬ (G = i + 1) := by omega
 have hci : ¬ (n = i) := by omega
 have hbN : b ≠ w.heap.size := by omega
 have hdl : (cs.drop (i * 3)).length = (n - i) * 3 := by rw [List.length_drop, hcl]; omega
 have hcpB : ∀ (W : World), (∀ x, W.cell? x = (W1.setCells w.heap.size (i * 3) vs).cell? x) → (∀ x, W.frozen? x = (W1.setCells w.heap.size (i * 3) vs).frozen? x) → ∀ ty dc sc, (Builtin.copy_ #[26, 26] ty #[.slice (some ⟨w.heap.size, (i + 1) * 3, none⟩) (n - i) dc, .slice (some ⟨b, i * 3, none⟩) (n - i) sc]).run Try.prog W = .ok (goInt ((n - i : Nat) : Int)) (W.setCells w.heap.size ((i + 1) * 3) (cs.drop (i * 3))) := fun W hWc hWf ty dc sc =>
  Am.Jbw W _ _ ty 74 3 w.heap.size ((i + 1) * 3) (n - i) dc ⟨b, i * 3, none⟩ (n - i) sc (n - i) (cs.drop (i * 3)) Try.underlying26 hsz (by simp only [Nat.min_def]; split <;> omega) hdl
   (fun j v hj => by
    rw [Addr.add_lit, hWc, World.cell?_setCells_out _ _ _ _ _ (fun h _ => absurd h hbN)]
    exact hOb _ v (hcs (i * 3 + j) v (by rwa [List.getElem?_drop] at hj)))
   (fun j hj => by rw [hWc]; exact isSome_setCells _ _ _ _ (fun t ht => hN _ (by omega)) _ (hN _ (by omega)))
   (fun j hj => by rw [hWf, World.frozen?_setCells]; exact hNf _) (fun v hv => h1c v (List.mem_of_mem_drop hv))
 subst hW1
 have hE1 : ∀ x, ((w.alloc (.cells ROW 74)).drew).cell? x = (w.drew.alloc (.cells ROW 74)).cell? x := fun x => rfl
 have hE2 : ∀ x, ((w.alloc (.cells ROW 74)).drew).frozen? x = (w.drew.alloc (.cells ROW 74)).frozen? x := fun x => rfl
 have hF1 : ∀ x, (((w.alloc (.cells ROW 74)).drew.setCells w.heap.size (i * 3) vs).drew).cell? x = ((w.drew.alloc (.cells ROW 74)).setCells w.heap.size (i * 3) vs).cell? x := fun x => rfl
 have hF2 : ∀ x, (((w.alloc (.cells ROW 74)).drew.setCells w.heap.size (i * 3) vs).drew).frozen? x = ((w.drew.alloc (.cells ROW 74)).setCells w.heap.size (i * 3) vs).frozen? x := fun x => rfl
 have hw1 : IntKind.i64.wrap ((i : Int) + 1) = (i : Int) + 1 := by rw [IntKind.wrap_i64]; omega
 have hb1 : (0 : Int) ≤ (i : Int) + 1 := by omega
 have hin : i ≤ n := by omega
 have htn : ((i : Int) + 1).toNat = i + 1 := by omega
 have hb3 : (i : Int) ≤ (n : Int) := by omega
 have hfin : ∃ (G' : Nat) (row : Array Value) (t : TypeId), n + 1 ≤ G' ∧ G' * 3 = row.size ∧ (∀ j, j < i * 3 → row[j]? = cs[j]?) ∧
   Ending.returned (.slice (some ⟨w.heap.size, 0, none⟩) (n + 1) G) = .returned (.slice (some ⟨w.heap.size, 0, none⟩) (n + 1) G') ∧
   (((w.alloc (.cells ROW 74)).drew.setCells w.heap.size (i * 3) vs).drew).setCells w.heap.size ((i + 1) * 3) (cs.drop (i * 3)) = (((w.alloc (.cells row t)).drew.setCells w.heap.size (i * 3) vs).drew).setCells w.heap.size ((i + 1) * 3) (cs.drop (i * 3)) :=
  ⟨G, ROW, _, hGn, hRs.symm, hRg, rfl, rfl⟩
 clear hkk hik hold hROW hG hRl hRs hRg hzl
 go_enter Try.func139, Try.ntmps139
 go_wp2_with (first
  | (at_builtin; refine Lib.wpList_append_run _ rfl _ _ _ _ rfl _ _ rfl rfl _ _ (hrz _) ?_)
  | (at_builtin; refine wpList_copy_runI _ rfl _ _ 26 26 rfl _ _ rfl rfl (hcpA _ hE1 hE2 _ _) ?_)
  | (at_builtin; refine wpList_copy_runI _ rfl _ _ 26 26 rfl _ _ rfl rfl (hcpB _ (fun _ => rfl) (fun _ => rfl) _ _ _) ?_))
 go_region_law_o (refine step_copy_runI rfl _ _ 26 26 rfl (.slice (some ⟨w.heap.size, (i + 1) * 3, none⟩) (n - i) (G - (i + 1))) (.slice (some ⟨b, i * 3, none⟩) (n - i) (n - i)) (by simp [Act.eval, Act.put]) (by simp [Act.eval, Act.put]) (hcpB _ hF1 hF2 3 (G - (i + 1)) (n - i)) ?_)
 go_wp2
 go_ret
 exact hfin
theorem Try.ins139_walk : Am.JoF Try.prog 139 3 32 where
 fn := ⟨_, Try.func139, by decide, by decide⟩
 pos := by decide
 shift := fun r n cap i vb vc cs vs w tA tB kA kB h1 h2 h3 h4 h5 h6 h7 h8 h9 h10 h11 h12 h13 h14 h15 h16 h17 => Try.ins139_shift r n cap i vb vc cs vs w tA tB kA kB h1 h2 h3 h4 h5 h6 h7 h8 h9 h10 h11 h12 h13 h14 h15 h16 h17
 room := fun r n cap vb vc vs w h1 h2 h3 h4 h5 h6 h7 => Try.ins139_room r n cap vb vc vs w h1 h2 h3 h4 h5 h6 h7
 grow := fun base n vb vc cs vs w h1 h2 h3 h4 h5 h6 h7 => Try.ins139_grow base n vb vc cs vs w h1 h2 h3 h4 h5 h6 h7
 move := fun r n i vb vc cs vs w h1 h2 h3 h4 h5 h6 h7 h8 h9 => Try.ins139_move r n i vb vc cs vs w h1 h2 h3 h4 h5 h6 h7 h8 h9
theorem J8S (args : List Am.AV) (blks : List Am.Blk) (r : Am.Res) (h : Am.JpZ 3 32 args blks = some r) : Am.J74 Try.prog 139 args blks r :=
 Am.JqJ Try.ins139_walk args blks r h (by decide)
end Go.Proofs
end
