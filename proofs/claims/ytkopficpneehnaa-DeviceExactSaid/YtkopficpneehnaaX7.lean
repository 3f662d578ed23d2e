/-
  Parts of a proof.
-/
import Derived.StillTailTactics
import Derived.Test.YtkopficpneehnaaChecked
import Derived.Test.YtkopficpneehnaaX4
import Derived.Test.YtkopficpneehnaaX5
import Derived.Test.YtkopficpneehnaaX6
set_option linter.unusedSimpArgs false
set_option linter.unusedVariables false
section
namespace Go.Proofs
open Go.Shelf Go.RowKit Go.Lib Go.Am
set_option linter.unusedSimpArgs false
set_option linter.unusedVariables false
set_option maxHeartbeats 1000000 in
set_option maxRecDepth 100000 in
theorem Try.write_main (C : Nat → Nat → Prop) (x y : DT) (p : Int) (s : List UInt8) (v : Value) (w : World) (h : J1M w C x v) (hs : s.length = 256) (hw0 : 0 ≤ x.2.1) (hw1 : x.2.1 < 1099511627776) (hfl : x.2.2.2.2.length ≤ 1000000) (hy : JbT x p s = some y)
  (hus : ∀ W, Up w.heap.size w W → Calls Try.prog 41 #[v, .int .i64 p] W fun e W' => e = .returned (.int .i64 0) ∧ Up W.heap.size W W') :
  Calls Try.prog 19 #[v, .int .i64 p, .string ⟨s.toArray⟩] w fun e w' => ∃ v', e = .returned (.tuple #[v', .int .i64 0]) ∧ Up w.heap.size w w' ∧ J1M w' (fun r o => C r o ∨ w.heap.size ≤ r) y v' := by
 have mixed : Try.prog.follows .mixedOrders = true := by kernel_rfl
 obtain ⟨vp, vu, vf, rfl, h1, h2, h3⟩ := h.ex
 obtain ⟨pages, ws, unr, dead, fs⟩ := x
 dsimp only at hw0 hw1 hfl h1 h2 h3 hus ⊢
 have hF := J6O h3
 obtain ⟨pa, pn, pc, rfl⟩ := J29 h1
 obtain ⟨ua, un, uc, rfl⟩ := J28 h2
 obtain ⟨fa, fc, rfl, -⟩ := id hF
 have hsb : (⟨s.toArray⟩ : ByteArray).size = 256 := by simpa [ByteArray.size] using hs
 generalize hsg : (⟨s.toArray⟩ : ByteArray) = sb at hsb ⊢
 obtain ⟨H0, H1⟩ := J83 w [.slice pa pn pc, .int .i64 ws, .slice ua un uc, .bool dead, .slice fa fs.length fc] [.slice none 0 0, .int .i64 0, .slice none 0 0, .bool false, .slice none 0 0] 30 30
 have hsz : ((w.alloc (.cells #[.slice pa pn pc, .int .i64 ws, .slice ua un uc, .bool dead, .slice fa fs.length fc] 30)).alloc (.cells #[.slice none 0 0, .int .i64 0, .slice none 0 0, .bool false, .slice none 0 0] 30)).heap.size = w.heap.size + 2 := by rw [Je, Je]
 have hb0 : Up w.heap.size w ((w.alloc (.cells #[.slice pa pn pc, .int .i64 ws, .slice ua un uc, .bool dead, .slice fa fs.length fc] 30)).alloc (.cells #[.slice none 0 0, .int .i64 0, .slice none 0 0, .bool false, .slice none 0 0] 30)) :=
  ((Up.refl _ w).alloc (Nat.le_refl _) _).alloc (by rw [Je]; omega) _
 have hwr : Go.RowKit.wrap64 (ws + 1) = ws + 1 := by unfold Go.RowKit.wrap64; omega
 have hne : ¬ ws = 1099511627776 := by omega
 go_enter Try.func19, Try.ntmps19
 go_wp2_with (go_at_call 41; refine (hus _ hb0).mono ?_)
 rintro e W1 rfl hu1
 try rw [← hsz] at hu1
 have hz1 := hu1.size
 rw [hsz] at hz1
 have G0 := H0.up hu1 (by rw [hsz]; omega)
 have G1 := H1.up hu1 (by rw [hsz]; omega)
 have hb1 := hb0.trans (hu1.mono (by rw [hsz]; omega))
 clear H0 H1 hb0 hu1 hsz hus
 have d1 := G0.cell (j := 1) rfl
 have f1 := G0.frozen 1
 have K0 := G0.set (i := 1) (.int .i64 (ws + 1))
 have K1 := G1.other (a := ⟨w.heap.size, 1, none⟩) (by show w.heap.size + 1 ≠ w.heap.size; omega) (.int .i64 (ws + 1))
 have kb : Up w.heap.size w (W1.setCell ⟨w.heap.size, 1, none⟩ (.int .i64 (ws + 1))) := hb1.setCell (p := ⟨w.heap.size, 1, none⟩) (Nat.le_refl _) _
 have ks : (W1.setCell ⟨w.heap.size, 1, none⟩ (.int .i64 (ws + 1))).heap.size = W1.heap.size := by simp [World.setCell]
 have L0 := K0.alloc (.cells #[.slice none 0 0] 28)
 have L1 := K1.alloc (.cells #[.slice none 0 0] 28)
 have L2 := J4b (W1.setCell ⟨w.heap.size, 1, none⟩ (.int .i64 (ws + 1))) #[.slice none 0 0] 28
 have d4 := L0.cell (j := 4) rfl
 have lb := kb.alloc kb.size (.cells #[.slice none 0 0] 28)
 have hF1 : Jnl ((W1.setCell ⟨w.heap.size, 1, none⟩ (.int .i64 (ws + 1))).alloc (.cells #[.slice none 0 0] 28)) (.slice fa fs.length fc) fs := by
  obtain ⟨a, c, e1, e2, e3⟩ := hF
  refine ⟨a, c, e1, e2, e3.imp id fun ⟨b, o, h1, h2, h3⟩ => ⟨b, o, h1, Nat.lt_of_lt_of_le h2 lb.size, fun j u hj => ?_⟩⟩
  rw [World.cell?_of_block (w := w) (a := ⟨b, o + j, none⟩) (lb.block b h2)]
  exact h3 j u hj
 go_wp2_with (go_at_call 38; refine (Try.clone_F _ fs _ hF1 hfl).mono ?_)
 rintro e W3 ⟨v3, rfl, ho3, hb3⟩
 have hs3 : ((W1.setCell ⟨w.heap.size, 1, none⟩ (.int .i64 (ws + 1))).alloc (.cells #[.slice none 0 0] 28)).heap.size = W1.heap.size + 1 := by rw [Je, ks]
 rw [ks] at L2
 have M0 := L0.below hb3
 have M1 := L1.below hb3
 have M2 := L2.below hb3
 have mb : Up w.heap.size w W3 := lb.trans ((Up.of_below hb3).mono lb.size)
 have h3s := hb3.size
 rw [hs3] at ho3 h3s
 have hdel := Try.del_F (W1.heap.size + 1) w.heap.size W1.heap.size (ws + 1) v3 fs W3 ho3 (M0.cell (j := 1) rfl) M2 (by omega) (by omega) (by omega) hfl
 clear hF1 hb3 L0 L1 L2 K0 K1 G0 G1 lb kb hb1 d1 f1 d4 hs3 ks
 go_wp2_with (go_at_call 42; refine hdel.mono ?_)
 rintro e W4 ⟨v2, vn, rfl, hv2, hvn, hown, hs4, hk4, hos4, hou4⟩
 have N0 := M0.of_block (hk4 _ (by omega) (by omega))
 have N1 := M1.of_block (hk4 _ (by omega) (by omega))
 have nb : Up w.heap.size w W4 := mb.trans ⟨hs4, fun k hk => hk4 k (by omega) (by omega), hos4, hou4⟩
 obtain ⟨a2, n2, c2, hsh⟩ : ∃ a n c, v2 = .slice a n c := by
  rcases hv2 with ⟨_, h⟩ | ⟨g, c, h, _⟩
  ·exact ⟨_, _, _, h⟩
  ·exact ⟨_, _, _, h⟩
 subst hsh
 have q4 := N0.cell (j := 4) rfl
 have q4f := N0.frozen 4
 have P0 := N0.set (i := 4) (.slice a2 n2 c2)
 have P1 := N1.other (a := ⟨w.heap.size, 4, none⟩) (by show w.heap.size + 1 ≠ w.heap.size; omega) (.slice a2 n2 c2)
 have P2 := hvn.other (a := ⟨w.heap.size, 4, none⟩) (by show W1.heap.size ≠ w.heap.size; omega) (.slice a2 n2 c2)
 have p2 := P2.cell (j := 0) rfl
 have hgr : W4.grownBy (W4.setCell ⟨w.heap.size, 4, none⟩ (.slice a2 n2 c2)) (some w.heap.size) := ⟨rfl, rfl, rfl, by simp [World.setCell], fun k hk h => Below.heap_setCell W4 ⟨w.heap.size, 4, none⟩ _ k (fun e => h (by rw [e]))⟩
 have ho := hown.kept hgr (by
  cases hb : vn.ownBlock with
  | none => exact .inl rfl
  | some q => exact .inr (fun e => by have := (hown.lt q hb).1; injection e with e; omega))
 have hnf : Jl (W4.setCell ⟨w.heap.size, 4, none⟩ (.slice a2 n2 c2)) (Cw C w.heap.size W1.heap.size) (.sl 6 ((fs.filter fun f => f.2.1 == ws + 1).map J69)) vn := by
  rcases Ja6 ho with ⟨h0, rfl⟩ | ⟨g, c, rfl, hc, hg, hgl, hR, _⟩
  ·rw [h0]; exact .sl0 6 none 0
  ·exact JjZ (B := W3.heap.size) (fun r o hr => .inr ⟨by omega, by omega⟩) (.inr ⟨g, c, rfl, hc, hg, hgl, hR⟩)
 have heff : Calls Try.prog 44 #[vn] (W4.setCell ⟨w.heap.size, 4, none⟩ (.slice a2 n2 c2)) fun e W' => e = .returned (J6d (fs.filter fun f => f.2.1 == ws + 1)) ∧ Below (W4.setCell ⟨w.heap.size, 4, none⟩ (.slice a2 n2 c2)).heap.size (W4.setCell ⟨w.heap.size, 4, none⟩ (.slice a2 n2 c2)) W' := by
  rcases Ja6 ho with ⟨h0, rfl⟩ | ⟨g, c, rfl, hc, hg, hgl, hR, _⟩
  ·rw [h0]; exact Try.eff_nil none 0 _
  ·exact Try.eff44 g c _ _ (Nat.le_trans (List.length_filter_le _ _) hfl) hR
 have hkf : Jl W4 (Cw C w.heap.size W1.heap.size) (.sl 6 ((fs.filter fun f => !(f.2.1 == ws + 1)).map J69)) (.slice a2 n2 c2) := JjZ (B := W1.heap.size + 1) (fun r o hr => .inr ⟨by omega, by omega⟩) hv2
 have hcs : ∀ r o u, Cw C w.heap.size W1.heap.size r o → cellAt W4 r o = some u → Cw C w.heap.size W1.heap.size r o ∧ cellAt (W4.setCell ⟨w.heap.size, 4, none⟩ (.slice a2 n2 c2)) r o = some u := fun r o u hC h => ⟨hC, J5K (by rcases hC with ⟨_, h⟩ | ⟨h, _⟩ <;> omega) h⟩
 have S5 : St w (W4.setCell ⟨w.heap.size, 4, none⟩ (.slice a2 n2 c2)) C W1.heap.size (J79 (pages, ws, unr, dead, fs)) (J7s (pages, ws, unr, dead, fs)) vn :=
  ⟨⟨_, _, _, P0, ⟨_, _, _, rfl, (h1.up nb (fun r o h hl => .inl ⟨h, hl⟩)).keeps hcs, (h2.up nb (fun r o h hl => .inl ⟨h, hl⟩)).keeps hcs, hkf.keeps hcs⟩⟩, P1, P2, hnf, nb.setCell (p := ⟨w.heap.size, 4, none⟩) (Nat.le_refl _) _, by omega⟩
 have e5 : J7s (pages, ws, unr, dead, fs) = fs.filter fun f => f.2.1 == ws + 1 := rfl
 rw [← e5] at heff
 clear e5
 obtain ⟨an, cn, hsn, -⟩ := J6O S5.rel
 have hln : (J7s (pages, ws, unr, dead, fs)).length ≤ 1000000 := Nat.le_trans (List.length_filter_le _ _) hfl
 subst hsn
 clear hnf ho hown hgr hkf hcs hF h3 h1 h2 h P1 P2 N1 M1 M2 M0 hdel hv2 mb hvn
 go_wp2_with (go_at_call 44; refine heff.mono ?_)
 rintro e W5 ⟨rfl, hb5⟩
 replace S5 := S5.grow (Up.of_below hb5)
 clear heff P0 p2 q4 q4f N0 hb5 nb hk4 hos4 hou4 hs4 ho3
 unfold JbT at hy
 obtain ⟨x6, hx6, hy0⟩ := Option.bind_eq_some_iff.1 hy
 have hx5 : (J79 (pages, ws, unr, dead, fs)).1 = pages := rfl
 generalize J79 (pages, ws, unr, dead, fs) = x5 at *
 generalize J7s (pages, ws, unr, dead, fs) = now at *
 generalize W1.heap.size = nB at *
 rcases Jh7 now with ⟨h, hK⟩ | ⟨t, h, hK⟩ | ⟨b, h, hK⟩ | ⟨h, hK⟩
 ·rw [h]
  have S6 := S5.alloc (.cells #[] 70)
  have hx : x6 = x5 := by
   rw [hK] at hx6
   have : some x5 = some x6 := hx6
   injection this with this; exact this.symm
  subst hx
  have q2 := S6.nw.cell (j := 0) rfl
  have ta := Try.ta70_70 (.agg #[])
  go_wp2
  clear q2 ta
  generalize (W5.alloc (.cells #[] 70)) = W6 at S6 ⊢
  have HY : Hid (now.foldlM J1l x6 = some y) := hy0
  clear h hK hy hx6 S5 hx5 hy0
  go_loopw [82] (fun i wd => ∃ (k : Nat) (x' : DT), k ≤ now.length ∧ i = .int .i64 k ∧ St w wd C nB x' now (.slice an now.length cn) ∧ (now.take k).foldlM J1l x6 = some x') (fun i _ => now.length - (intOf i).toNat)
  case atStart => exact ⟨0, x6, Nat.zero_le _, rfl, S6, rfl⟩
  case round =>
   obtain ⟨k, x', hk, rfl, hS, hfold⟩ := hrel
   have HF : Hid ((now.take k).foldlM J1l x6 = some x') := hfold
   clear hfold
   by_cases hlt : k < now.length
   ·have hlt2 : (k : Int) < (now.length : Int) := by omega
    have hk0 : (0 : Int) ≤ (k : Int) := by omega
    have hrow : now[k]? = some now[k] := List.getElem?_eq_getElem hlt
    have hta : now.take (k + 1) = now.take k ++ [now[k]] := by simp [hlt]
    have htl : now = now.take (k + 1) ++ now.drop (k + 1) := (List.take_append_drop _ _).symm
    have hyy := HY.out
    rw [htl, List.foldlM_append] at hyy
    obtain ⟨x9, hx9, -⟩ := Option.bind_eq_some_iff.1 hyy
    have hx8 := hx9
    rw [hta, List.foldlM_append] at hx8
    rw [show List.foldlM J1l x6 (now.take k) = some x' from HF.out] at hx8
    have hx7 : J1l x' now[k] = some x9 := by simpa using hx8
    obtain ⟨hok, hx9e⟩ := J8P hx7
    subst hx9e
    have HX : Hid ((now.take (k + 1)).foldlM J1l x6 = some (J19 x' now[k])) := hx9
    clear hx8 hx9 hx7 hyy hta htl
    obtain ⟨a', c', e', -, hfl'⟩ := J6O hS.rel
    have hne' : ¬ now = [] := by intro h0; rw [h0] at hlt; exact absurd hlt (Nat.not_lt_zero _)
    obtain ⟨b, o, rfl, hbl, hcell⟩ := hfl'.resolve_left hne'
    injection e' with e' _ e2'
    subst e2'
    subst e'
    have HOK : Hid (HOk x' now[k]) := hok
    generalize now[k] = f at *
    obtain ⟨g0, g1, g2, g3, g4, g5⟩ := f
    have cell : ∀ j v, (J1j (g0, g1, g2, g3, g4, g5))[j]? = some v → wr.cell? ⟨b, o + (k * 6 + j), none⟩ = some v := fun j v hj => hcell _ _ (J7J now k j _ v hrow hj)
    have b0 : wr.cell? ⟨b, o + k * 6, none⟩ = some (.int .i64 g0) := cell 0 _ rfl
    have b1 : wr.cell? ⟨b, o + k * 6 + 1, none⟩ = some (.int .i64 g1) := cell 1 _ rfl
    have b2 : wr.cell? ⟨b, o + k * 6 + 2, none⟩ = some (.int .i64 g2) := cell 2 _ rfl
    have b3 : wr.cell? ⟨b, o + k * 6 + 3, none⟩ = some (.int .i64 g3) := cell 3 _ rfl
    have b4 : wr.cell? ⟨b, o + k * 6 + 4, none⟩ = some (.int .i64 g4) := cell 4 _ rfl
    have b5 : wr.cell? ⟨b, o + k * 6 + 5, none⟩ = some (.int .u8 g5) := cell 5 _ rfl
    replace hS := hS.alloc (.cells #[.int .i64 g0, .int .i64 g1, .int .i64 g2, .int .i64 g3, .int .i64 g4, .int .u8 g5] 37)
    obtain ⟨pa', ua', fa', pn', pc', un', uc', fn', fc', HD, hdv⟩ := hS.devS
    have HS : Hid (St w (wr.alloc (.cells #[.int .i64 g0, .int .i64 g1, .int .i64 g2, .int .i64 g3, .int .i64 g4, .int .u8 g5] 37)) C nB x' now (.slice (some ⟨b, o, none⟩) now.length cn)) := hS
    have HV : Hid (J1M (wr.alloc (.cells #[.int .i64 g0, .int .i64 g1, .int .i64 g2, .int .i64 g3, .int .i64 g4, .int .u8 g5] 37)) (Cw C w.heap.size nB) x' (J1c (.slice pa' pn' pc') x'.2.1 (.slice ua' un' uc') x'.2.2.2.1 (.slice fa' fn' fc'))) := hdv
    have d0 := HD.cell (j := 0) rfl
    have d1 := HD.cell (j := 1) rfl
    have d2 := HD.cell (j := 2) rfl
    have d3 := HD.cell (j := 3) rfl
    have d4 := HD.cell (j := 4) rfl
    clear cell hcell hok hS hfl' hrow HD hdv
    go_wp2_with (go_at_call 46; refine (Try.harm_D (Cw C w.heap.size nB) x' (g0, g1, g2, g3, g4, g5) _ _ HV.out HOK.out).mono ?_)
    clear d0 d1 d2 d3 d4 b0 b1 b2 b3 b4 b5
    rintro e W7 v7 rfl hup7 hdv7
    have hdv8 := hdv7.keeps (C' := Cw C w.heap.size nB) (w' := W7) (fun r o u hC h => ⟨by rcases hC with hC | hC; exact hC; exact .inr ⟨by have := HS.out.lt; have := HS.out.low; rw [Je] at *; omega, by have := HS.out.lt; rw [Je] at *; omega⟩, h⟩)
    have hS7 := HS.out.grow (W' := W7) (by rw [Je]; exact hup7)
    clear hup7 hdv7
    obtain ⟨vp9, vu9, vf9, rfl, r1, r2, r3⟩ := id hdv8.ex
    obtain ⟨pa9, pn9, pc9, rfl⟩ := J29 r1
    obtain ⟨ua9, un9, uc9, rfl⟩ := J28 r2
    obtain ⟨fa9, fn9, fc9, rfl⟩ := J1L r3
    clear r1 r2 r3
    have hS9 := hS7.put hdv8
    obtain ⟨_, _, _, _, _, _, _, _, _, HD9, -⟩ := hS7.devS
    have d0 := HD9.cell (j := 0) rfl
    have d1 := HD9.cell (j := 1) rfl
    have d2 := HD9.cell (j := 2) rfl
    have d3 := HD9.cell (j := 3) rfl
    have d4 := HD9.cell (j := 4) rfl
    have o0 := HD9.frozen 0
    have o1 := HD9.frozen 1
    have o2 := HD9.frozen 2
    have o3 := HD9.frozen 3
    have o4 := HD9.frozen 4
    have HS9 : Hid (St w (J1Y W7 w.heap.size (.slice pa9 pn9 pc9) (.int .i64 (J19 x' (g0, g1, g2, g3, g4, g5)).2.1) (.slice ua9 un9 uc9) (.bool (J19 x' (g0, g1, g2, g3, g4, g5)).2.2.2.1) (.slice fa9 fn9 fc9)) C nB (J19 x' (g0, g1, g2, g3, g4, g5)) now (.slice (some ⟨b, o, none⟩) now.length cn)) := hS9
    clear hS7 HD9 hS9 hdv8
    generalize J19 x' (g0, g1, g2, g3, g4, g5) = x9 at *
    go_wp2
    go_roundw
    case rel => exact ⟨k + 1, x9, hlt, by go_num, HS9.out, HX.out⟩
    case measure => simp [intOf]; omega
   ·have hk2 : k = now.length := by omega
    subst hk2
    have hxy : x' = y := by
     have h1 := HF.out
     rw [List.take_length, HY.out] at h1
     injection h1 with h1
     exact h1.symm
    subst hxy
    obtain ⟨pa', ua', fa', pn', pc', un', uc', fn', fc', HD, hdv⟩ := hS.devS
    have HV : Hid (J1M wr (Cw C w.heap.size nB) x' (J1c (.slice pa' pn' pc') x'.2.1 (.slice ua' un' uc') x'.2.2.2.1 (.slice fa' fn' fc'))) := hdv
    have d0 := HD.cell (j := 0) rfl
    have d1 := HD.cell (j := 1) rfl
    have d2 := HD.cell (j := 2) rfl
    have d3 := HD.cell (j := 3) rfl
    have d4 := HD.cell (j := 4) rfl
    have n0 := hS.res.cell (j := 0) rfl
    have n1 := hS.res.cell (j := 1) rfl
    have n2 := hS.res.cell (j := 2) rfl
    have n3 := hS.res.cell (j := 3) rfl
    have n4 := hS.res.cell (j := 4) rfl
    have o0 := hS.res.frozen 0
    have o1 := hS.res.frozen 1
    have o2 := hS.res.frozen 2
    have o3 := hS.res.frozen 3
    have o4 := hS.res.frozen 4
    have HS : Hid (St w wr C nB x' now (.slice an now.length cn)) := hS
    clear hS HD hdv
    go_wp2
    have hR := J3A HS.out.res (.slice pa' pn' pc') (.int .i64 x'.2.1) (.slice ua' un' uc') (.bool x'.2.2.2.1) (.slice fa' fn' fc')
    have hU := JaG HS.out.up (Nat.le_add_right w.heap.size 1) (.slice pa' pn' pc') (.int .i64 x'.2.1) (.slice ua' un' uc') (.bool x'.2.2.2.1) (.slice fa' fn' fc')
    have hV := HV.out.keeps (C' := fun r o => C r o ∨ w.heap.size ≤ r) (fun r o u hC h => ⟨by rcases hC with hC | hC; exact .inl hC.1; exact .inr (by omega), (J8R (b := w.heap.size + 1) (.inr rfl) (v0 := .slice pa' pn' pc') (v1 := .int .i64 x'.2.1) (v2 := .slice ua' un' uc') (v3 := .bool x'.2.2.2.1) (v4 := .slice fa' fn' fc') r o u hC h).2⟩)
    have r0 := hR.cell (j := 0) rfl
    have r1 := hR.cell (j := 1) rfl
    have r2 := hR.cell (j := 2) rfl
    have r3 := hR.cell (j := 3) rfl
    have r4 := hR.cell (j := 4) rfl
    clear hR
    simp only [J1Y] at r0 r1 r2 r3 r4 hU hV
    clear d0 d1 d2 d3 d4 n0 n1 n2 n3 n4 o0 o1 o2 o3 o4
    generalize (((((wr.setCell { block := w.heap.size + 1, off := 0 } (Value.slice pa' pn' pc')).setCell { block := w.heap.size + 1, off := 1 } (Value.int IntKind.i64 x'.snd.fst)).setCell { block := w.heap.size + 1, off := 2 } (Value.slice ua' un' uc')).setCell { block := w.heap.size + 1, off := 3 } (Value.bool x'.snd.snd.snd.fst)).setCell { block := w.heap.size + 1, off := 4 } (Value.slice fa' fn' fc')) = Wf at r0 r1 r2 r3 r4 hU hV ⊢
    refine bodyPost_ret (v := .tuple #[J1c (.slice pa' pn' pc') x'.2.1 (.slice ua' un' uc') x'.2.2.2.1 (.slice fa' fn' fc'), .int .i64 0]) ?_ rfl ⟨_, rfl, hU, hV⟩
    simp [results, Try.results19, go_sem, r0, r1, r2, r3, r4]
 ·rw [h]
  rw [hK] at hx6
  obtain ⟨⟨ht, hp, hz, hu⟩, rfl⟩ := J9A (show J8n x5 t s = some x6 from hx6)
  obtain ⟨n, rfl⟩ := Int.eq_ofNat_of_zero_le ht
  rw [Int.toNat_natCast] at hp hy0
  clear h hK hy hx6 hx5
  have S5a := S5.alloc (.cells #[.int .i64 n] 72)
  obtain ⟨pa', ua', fa', pn', pc', un', uc', fn', fc', HD, hdv⟩ := S5a.devS
  have HV : Hid _ := hdv
  have HS : Hid _ := S5a
  have d0 := HD.cell (j := 0) rfl
  have d1 := HD.cell (j := 1) rfl
  have d2 := HD.cell (j := 2) rfl
  have d3 := HD.cell (j := 3) rfl
  have d4 := HD.cell (j := 4) rfl
  have ta := Try.ta72_70 (.agg #[.int .i64 n])
  have tb := Try.ta72_72 (.agg #[.int .i64 n])
  clear S5a S5 HD hdv
  go_wp2_with (go_at_call 45; refine (Try.set_Db (Cw C w.heap.size nB) x5 n s hsg _ _ HV.out hp hz hu).mono ?_)
  clear ta tb
  clear d0 d1 d2 d3 d4
  rintro e W7 ⟨v7, rfl, hup7, hdv7⟩
  have hdv8 := hdv7.keeps (C' := Cw C w.heap.size nB) (w' := W7) (fun r o u hC h => ⟨by rcases hC with hC | hC; exact hC; exact .inr ⟨by have := HS.out.lt; have := HS.out.low; rw [Je] at *; omega, by have := HS.out.lt; rw [Je] at *; omega⟩, h⟩)
  have hS7 := HS.out.grow (W' := W7) (by first | exact hup7 | (rw [Je]; exact hup7))
  clear hup7 hdv7 HV
  generalize J4z x5 _ _ = x6 at *
  obtain ⟨vp9, vu9, vf9, rfl, r1, r2, r3⟩ := id hdv8.ex
  obtain ⟨pa9, pn9, pc9, rfl⟩ := J29 r1
  obtain ⟨ua9, un9, uc9, rfl⟩ := J28 r2
  obtain ⟨fa9, fn9, fc9, rfl⟩ := J1L r3
  clear r1 r2 r3
  have S6 := hS7.put hdv8
  obtain ⟨_, _, _, _, _, _, _, _, _, HD9, -⟩ := hS7.devS
  have d0 := HD9.cell (j := 0) rfl
  have d1 := HD9.cell (j := 1) rfl
  have d2 := HD9.cell (j := 2) rfl
  have d3 := HD9.cell (j := 3) rfl
  have d4 := HD9.cell (j := 4) rfl
  have o0 := HD9.frozen 0
  have o1 := HD9.frozen 1
  have o2 := HD9.frozen 2
  have o3 := HD9.frozen 3
  have o4 := HD9.frozen 4
  have q2 := S6.nw.cell (j := 0) rfl
  simp only [J1Y] at q2
  have HS6 : Hid _ := S6
  clear hS7 HD9 hdv8 HS
  go_wp2
  clear d0 d1 d2 d3 d4 o0 o1 o2 o3 o4 q2 S6
  have S6 := HS6.out
  clear HS6
  simp only [J1Y] at S6
  generalize (((((W7.setCell ⟨w.heap.size, 0, none⟩ (.slice pa9 pn9 pc9)).setCell ⟨w.heap.size, 1, none⟩ (.int .i64 x6.2.1)).setCell ⟨w.heap.size, 2, none⟩ (.slice ua9 un9 uc9)).setCell ⟨w.heap.size, 3, none⟩ (.bool x6.2.2.2.1)).setCell ⟨w.heap.size, 4, none⟩ (.slice fa9 fn9 fc9)) = W6 at S6 ⊢
  have HY : Hid (now.foldlM J1l x6 = some y) := hy0
  clear hy0
  go_loopw [82] (fun i wd => ∃ (k : Nat) (x' : DT), k ≤ now.length ∧ i = .int .i64 k ∧ St w wd C nB x' now (.slice an now.length cn) ∧ (now.take k).foldlM J1l x6 = some x') (fun i _ => now.length - (intOf i).toNat)
  case atStart => exact ⟨0, x6, Nat.zero_le _, rfl, S6, rfl⟩
  case round =>
   obtain ⟨k, x', hk, rfl, hS, hfold⟩ := hrel
   have HF : Hid ((now.take k).foldlM J1l x6 = some x') := hfold
   clear hfold
   by_cases hlt : k < now.length
   ·have hlt2 : (k : Int) < (now.length : Int) := by omega
    have hk0 : (0 : Int) ≤ (k : Int) := by omega
    have hrow : now[k]? = some now[k] := List.getElem?_eq_getElem hlt
    have hta : now.take (k + 1) = now.take k ++ [now[k]] := by simp [hlt]
    have htl : now = now.take (k + 1) ++ now.drop (k + 1) := (List.take_append_drop _ _).symm
    have hyy := HY.out
    rw [htl, List.foldlM_append] at hyy
    obtain ⟨x9, hx9, -⟩ := Option.bind_eq_some_iff.1 hyy
    have hx8 := hx9
    rw [hta, List.foldlM_append] at hx8
    rw [show List.foldlM J1l x6 (now.take k) = some x' from HF.out] at hx8
    have hx7 : J1l x' now[k] = some x9 := by simpa using hx8
    obtain ⟨hok, hx9e⟩ := J8P hx7
    subst hx9e
    have HX : Hid ((now.take (k + 1)).foldlM J1l x6 = some (J19 x' now[k])) := hx9
    clear hx8 hx9 hx7 hyy hta htl
    obtain ⟨a', c', e', -, hfl'⟩ := J6O hS.rel
    have hne' : ¬ now = [] := by intro h0; rw [h0] at hlt; exact absurd hlt (Nat.not_lt_zero _)
    obtain ⟨b, o, rfl, hbl, hcell⟩ := hfl'.resolve_left hne'
    injection e' with e' _ e2'
    subst e2'
    subst e'
    have HOK : Hid (HOk x' now[k]) := hok
    generalize now[k] = f at *
    obtain ⟨g0, g1, g2, g3, g4, g5⟩ := f
    have cell : ∀ j v, (J1j (g0, g1, g2, g3, g4, g5))[j]? = some v → wr.cell? ⟨b, o + (k * 6 + j), none⟩ = some v := fun j v hj => hcell _ _ (J7J now k j _ v hrow hj)
    have b0 : wr.cell? ⟨b, o + k * 6, none⟩ = some (.int .i64 g0) := cell 0 _ rfl
    have b1 : wr.cell? ⟨b, o + k * 6 + 1, none⟩ = some (.int .i64 g1) := cell 1 _ rfl
    have b2 : wr.cell? ⟨b, o + k * 6 + 2, none⟩ = some (.int .i64 g2) := cell 2 _ rfl
    have b3 : wr.cell? ⟨b, o + k * 6 + 3, none⟩ = some (.int .i64 g3) := cell 3 _ rfl
    have b4 : wr.cell? ⟨b, o + k * 6 + 4, none⟩ = some (.int .i64 g4) := cell 4 _ rfl
    have b5 : wr.cell? ⟨b, o + k * 6 + 5, none⟩ = some (.int .u8 g5) := cell 5 _ rfl
    replace hS := hS.alloc (.cells #[.int .i64 g0, .int .i64 g1, .int .i64 g2, .int .i64 g3, .int .i64 g4, .int .u8 g5] 37)
    obtain ⟨pa', ua', fa', pn', pc', un', uc', fn', fc', HD, hdv⟩ := hS.devS
    have HS : Hid (St w (wr.alloc (.cells #[.int .i64 g0, .int .i64 g1, .int .i64 g2, .int .i64 g3, .int .i64 g4, .int .u8 g5] 37)) C nB x' now (.slice (some ⟨b, o, none⟩) now.length cn)) := hS
    have HV : Hid (J1M (wr.alloc (.cells #[.int .i64 g0, .int .i64 g1, .int .i64 g2, .int .i64 g3, .int .i64 g4, .int .u8 g5] 37)) (Cw C w.heap.size nB) x' (J1c (.slice pa' pn' pc') x'.2.1 (.slice ua' un' uc') x'.2.2.2.1 (.slice fa' fn' fc'))) := hdv
    have d0 := HD.cell (j := 0) rfl
    have d1 := HD.cell (j := 1) rfl
    have d2 := HD.cell (j := 2) rfl
    have d3 := HD.cell (j := 3) rfl
    have d4 := HD.cell (j := 4) rfl
    clear cell hcell hok hS hfl' hrow HD hdv
    go_wp2_with (go_at_call 46; refine (Try.harm_D (Cw C w.heap.size nB) x' (g0, g1, g2, g3, g4, g5) _ _ HV.out HOK.out).mono ?_)
    clear d0 d1 d2 d3 d4 b0 b1 b2 b3 b4 b5
    rintro e W7 v7 rfl hup7 hdv7
    have hdv8 := hdv7.keeps (C' := Cw C w.heap.size nB) (w' := W7) (fun r o u hC h => ⟨by rcases hC with hC | hC; exact hC; exact .inr ⟨by have := HS.out.lt; have := HS.out.low; rw [Je] at *; omega, by have := HS.out.lt; rw [Je] at *; omega⟩, h⟩)
    have hS7 := HS.out.grow (W' := W7) (by first | exact hup7 | (rw [Je]; exact hup7))
    clear hup7 hdv7
    obtain ⟨vp9, vu9, vf9, rfl, r1, r2, r3⟩ := id hdv8.ex
    obtain ⟨pa9, pn9, pc9, rfl⟩ := J29 r1
    obtain ⟨ua9, un9, uc9, rfl⟩ := J28 r2
    obtain ⟨fa9, fn9, fc9, rfl⟩ := J1L r3
    clear r1 r2 r3
    have hS9 := hS7.put hdv8
    obtain ⟨_, _, _, _, _, _, _, _, _, HD9, -⟩ := hS7.devS
    have d0 := HD9.cell (j := 0) rfl
    have d1 := HD9.cell (j := 1) rfl
    have d2 := HD9.cell (j := 2) rfl
    have d3 := HD9.cell (j := 3) rfl
    have d4 := HD9.cell (j := 4) rfl
    have o0 := HD9.frozen 0
    have o1 := HD9.frozen 1
    have o2 := HD9.frozen 2
    have o3 := HD9.frozen 3
    have o4 := HD9.frozen 4
    have HS9 : Hid (St w (J1Y W7 w.heap.size (.slice pa9 pn9 pc9) (.int .i64 (J19 x' (g0, g1, g2, g3, g4, g5)).2.1) (.slice ua9 un9 uc9) (.bool (J19 x' (g0, g1, g2, g3, g4, g5)).2.2.2.1) (.slice fa9 fn9 fc9)) C nB (J19 x' (g0, g1, g2, g3, g4, g5)) now (.slice (some ⟨b, o, none⟩) now.length cn)) := hS9
    clear hS7 HD9 hS9 hdv8
    generalize J19 x' (g0, g1, g2, g3, g4, g5) = x9 at *
    go_wp2
    go_roundw
    case rel => exact ⟨k + 1, x9, hlt, by go_num, HS9.out, HX.out⟩
    case measure => simp [intOf]; omega
   ·have hk2 : k = now.length := by omega
    subst hk2
    have hxy : x' = y := by
     have h1 := HF.out
     rw [List.take_length, HY.out] at h1
     injection h1 with h1
     exact h1.symm
    subst hxy
    obtain ⟨pa', ua', fa', pn', pc', un', uc', fn', fc', HD, hdv⟩ := hS.devS
    have HV : Hid (J1M wr (Cw C w.heap.size nB) x' (J1c (.slice pa' pn' pc') x'.2.1 (.slice ua' un' uc') x'.2.2.2.1 (.slice fa' fn' fc'))) := hdv
    have d0 := HD.cell (j := 0) rfl
    have d1 := HD.cell (j := 1) rfl
    have d2 := HD.cell (j := 2) rfl
    have d3 := HD.cell (j := 3) rfl
    have d4 := HD.cell (j := 4) rfl
    have n0 := hS.res.cell (j := 0) rfl
    have n1 := hS.res.cell (j := 1) rfl
    have n2 := hS.res.cell (j := 2) rfl
    have n3 := hS.res.cell (j := 3) rfl
    have n4 := hS.res.cell (j := 4) rfl
    have o0 := hS.res.frozen 0
    have o1 := hS.res.frozen 1
    have o2 := hS.res.frozen 2
    have o3 := hS.res.frozen 3
    have o4 := hS.res.frozen 4
    have HS : Hid (St w wr C nB x' now (.slice an now.length cn)) := hS
    clear hS HD hdv
    go_wp2
    have hR := J3A HS.out.res (.slice pa' pn' pc') (.int .i64 x'.2.1) (.slice ua' un' uc') (.bool x'.2.2.2.1) (.slice fa' fn' fc')
    have hU := JaG HS.out.up (Nat.le_add_right w.heap.size 1) (.slice pa' pn' pc') (.int .i64 x'.2.1) (.slice ua' un' uc') (.bool x'.2.2.2.1) (.slice fa' fn' fc')
    have hV := HV.out.keeps (C' := fun r o => C r o ∨ w.heap.size ≤ r) (fun r o u hC h => ⟨by rcases hC with hC | hC; exact .inl hC.1; exact .inr (by omega), (J8R (b := w.heap.size + 1) (.inr rfl) (v0 := .slice pa' pn' pc') (v1 := .int .i64 x'.2.1) (v2 := .slice ua' un' uc') (v3 := .bool x'.2.2.2.1) (v4 := .slice fa' fn' fc') r o u hC h).2⟩)
    have r0 := hR.cell (j := 0) rfl
    have r1 := hR.cell (j := 1) rfl
    have r2 := hR.cell (j := 2) rfl
    have r3 := hR.cell (j := 3) rfl
    have r4 := hR.cell (j := 4) rfl
    clear hR
    simp only [J1Y] at r0 r1 r2 r3 r4 hU hV
    clear d0 d1 d2 d3 d4 n0 n1 n2 n3 n4 o0 o1 o2 o3 o4
    generalize (((((wr.setCell { block := w.heap.size + 1, off := 0 } (Value.slice pa' pn' pc')).setCell { block := w.heap.size + 1, off := 1 } (Value.int IntKind.i64 x'.snd.fst)).setCell { block := w.heap.size + 1, off := 2 } (Value.slice ua' un' uc')).setCell { block := w.heap.size + 1, off := 3 } (Value.bool x'.snd.snd.snd.fst)).setCell { block := w.heap.size + 1, off := 4 } (Value.slice fa' fn' fc')) = Wf at r0 r1 r2 r3 r4 hU hV ⊢
    refine bodyPost_ret (v := .tuple #[J1c (.slice pa' pn' pc') x'.2.1 (.slice ua' un' uc') x'.2.2.2.1 (.slice fa' fn' fc'), .int .i64 0]) ?_ rfl ⟨_, rfl, hU, hV⟩
    simp [results, Try.results19, go_sem, r0, r1, r2, r3, r4]
 ·rw [h]
  rw [hK] at hx6
  have hx7 : Ji2 x5 p b s = some x6 := hx6
  unfold Ji2 at hx7
  split at hx7
  case isFalse => cases hx7
  rename_i hg
  obtain ⟨hb0, hb1, hp0, hp1, hb2, hl2⟩ := hg
  obtain ⟨⟨ht, hp, hz, hu⟩, rfl⟩ := J9A hx7
  obtain ⟨n, rfl⟩ := Int.eq_ofNat_of_zero_le ht
  obtain ⟨m, rfl⟩ := Int.eq_ofNat_of_zero_le hb0
  simp only [Int.toNat_natCast] at hp hy0 hb1 hp1 hb2 hl2
  clear h hK hy hx6 hx5 hx7
  have S5a := S5.alloc (.cells #[.int .i64 m] 75)
  obtain ⟨pa', ua', fa', pn', pc', un', uc', fn', fc', HD, hdv⟩ := S5a.devS
  have HV : Hid _ := hdv
  have HS : Hid _ := S5a
  have d0 := HD.cell (j := 0) rfl
  have d1 := HD.cell (j := 1) rfl
  have d2 := HD.cell (j := 2) rfl
  have d3 := HD.cell (j := 3) rfl
  have d4 := HD.cell (j := 4) rfl
  obtain ⟨zb, zo, rfl, hpn, hpc⟩ : ∃ zb zo, pa' = some ⟨zb, zo, none⟩ ∧ pn' = x5.1.length ∧ (W5.alloc (.cells #[.int .i64 m] 75)).cell? ⟨zb, zo + n, none⟩ = some (.string ⟨(x5.1.getD n []).toArray⟩) := by
   obtain ⟨vp2, vu2, vf2, he, r1, r2, r3⟩ := hdv.ex
   simp only [J1c, Value.agg.injEq, Array.mk.injEq, List.cons.injEq] at he
   obtain ⟨rfl, -⟩ := he
   obtain ⟨a, c, e1, e2, e3⟩ := Jer r1
   injection e1 with e4 e5 e6
   simp only [List.length_map] at e5
   rcases e3 with e3 | ⟨zb, zo, e7, e8, e9⟩
   ·simp at e3; rw [e3] at hp; exact absurd hp (Nat.not_lt_zero _)
   ·refine ⟨zb, zo, e4.trans e7, e5, e9 n _ ?_⟩
    simp [hp]
  subst hpn
  have ta := Try.ta75_70 (.agg #[.int .i64 m])
  have tb := Try.ta75_72 (.agg #[.int .i64 m])
  have tc := Try.ta75_75 (.agg #[.int .i64 m])
  have HZ : Hid (m ≤ (x5.1.getD n []).length) := hb2
  have hzs : (⟨(x5.1.getD n []).toArray⟩ : ByteArray).size = (x5.1.getD n []).length := rfl
  generalize hzz : (⟨(x5.1.getD n []).toArray⟩ : ByteArray) = zz at hpc hzs
  rw [← hzs] at hb2 hl2
  rw [hs] at hb1
  have HZS : Hid (zz = ⟨(x5.1.getD n []).toArray⟩) := hzz.symm
  clear hzs hzz
  clear S5a S5 HD hdv
  go_wp2
  have hb1i : (m : Int) ≤ 256 := by omega
  have hb2i : (m : Int) ≤ (zz.size : Int) := by omega
  refine wp_region_still_tail 15 (by kernel_rfl) (by kernel_rfl) ?_
  simp only [List.take_succ_cons, List.take_zero, List.drop_succ_cons, List.drop_zero]
  have hcell : ∀ a, (W5.alloc (.cells #[.int .i64 m] 75)).drew.cell? a = (W5.alloc (.cells #[.int .i64 m] 75)).cell? a := fun _ => rfl
  have c11 : (W5.alloc (.cells #[.int .i64 m] 75)).cell? ⟨W5.heap.size, 0, none⟩ = some (.int .i64 m) := (J4b W5 #[.int .i64 m] 75).cell rfl
  have HU : Hid (Up W5.heap.size W5 (W5.alloc (.cells #[.int .i64 m] 75)).drew) := ((Up.refl _ W5).alloc (Nat.le_refl _) _).drew
  have HS2 : Hid (St w (W5.alloc (.cells #[.int .i64 m] 75)).drew C nB x5 now (.slice an now.length cn)) := HS.out.grow ((Up.refl _ _).drew)
  have HV2 : Hid (J1M (W5.alloc (.cells #[.int .i64 m] 75)).drew (Cw C w.heap.size nB) x5 (J1c (.slice (some ⟨zb, zo, none⟩) x5.1.length pc') x5.2.1 (.slice ua' un' uc') x5.2.2.2.1 (.slice fa' fn' fc'))) := HV.out.up ((Up.refl _ _).drew) (fun _ _ h _ => h)
  rw [← hcell] at d0 d1 d2 d3 d4 hpc c11
  clear hcell HS HV HU
  change wpStill _ _ (W5.alloc (.cells #[.int .i64 m] 75)).drew (fun a' => wpList _ _ _ _ a' (W5.alloc (.cells #[.int .i64 m] 75)).drew) _ _
  generalize (W5.alloc (.cells #[.int .i64 m] 75)).drew = Wd at *
  repeat still_step
  refine wpStill_nil ?_
  have hstr : Hid ((⟨(s.take m ++ (x5.1.getD n []).drop m).toArray⟩ : ByteArray) = sb.extract 0 m ++ zz.extract m 256) := by
   have h1 := HZS.out
   have h2 := hsg
   have h3 := HZ.out
   subst h1; subst h2
   exact Jqz s _ m 256 hl2
  clear HZS HZ hb1i hb2i hl2 hb2 hpc c11
  go_wp2_with (go_at_call 45; refine (Try.set_Db (Cw C w.heap.size nB) x5 n (s.take m ++ (x5.1.getD n []).drop m) hstr.out _ _ HV2.out hp hz hu).mono ?_)
  clear hstr
  clear d0 d1 d2 d3 d4
  rintro e W7 ⟨v7, rfl, hup7, hdv7⟩
  have hdv8 := hdv7.keeps (C' := Cw C w.heap.size nB) (w' := W7) (fun r o u hC h => ⟨by rcases hC with hC | hC; exact hC; exact .inr ⟨by have := HS2.out.lt; have := HS2.out.low; omega, by have := HS2.out.lt; omega⟩, h⟩)
  have hS7 := HS2.out.grow (W' := W7) (by exact hup7)
  clear hup7 hdv7 HV2
  generalize J4z x5 _ _ = x6 at *
  obtain ⟨vp9, vu9, vf9, rfl, r1, r2, r3⟩ := id hdv8.ex
  obtain ⟨pa9, pn9, pc9, rfl⟩ := J29 r1
  obtain ⟨ua9, un9, uc9, rfl⟩ := J28 r2
  obtain ⟨fa9, fn9, fc9, rfl⟩ := J1L r3
  clear r1 r2 r3
  have S6 := hS7.put hdv8
  obtain ⟨_, _, _, _, _, _, _, _, _, HD9, -⟩ := hS7.devS
  have d0 := HD9.cell (j := 0) rfl
  have d1 := HD9.cell (j := 1) rfl
  have d2 := HD9.cell (j := 2) rfl
  have d3 := HD9.cell (j := 3) rfl
  have d4 := HD9.cell (j := 4) rfl
  have o0 := HD9.frozen 0
  have o1 := HD9.frozen 1
  have o2 := HD9.frozen 2
  have o3 := HD9.frozen 3
  have o4 := HD9.frozen 4
  have q2 := S6.nw.cell (j := 0) rfl
  simp only [J1Y] at q2
  have HS6 : Hid _ := S6
  clear hS7 HD9 hdv8 HS2
  go_wp2
  clear d0 d1 d2 d3 d4 o0 o1 o2 o3 o4 q2 S6
  have S6 := HS6.out
  clear HS6
  simp only [J1Y] at S6
  generalize (((((W7.setCell ⟨w.heap.size, 0, none⟩ (.slice pa9 pn9 pc9)).setCell ⟨w.heap.size, 1, none⟩ (.int .i64 x6.2.1)).setCell ⟨w.heap.size, 2, none⟩ (.slice ua9 un9 uc9)).setCell ⟨w.heap.size, 3, none⟩ (.bool x6.2.2.2.1)).setCell ⟨w.heap.size, 4, none⟩ (.slice fa9 fn9 fc9)) = W6 at S6 ⊢
  have HY : Hid (now.foldlM J1l x6 = some y) := hy0
  clear hy0
  go_loopw [82] (fun i wd => ∃ (k : Nat) (x' : DT), k ≤ now.length ∧ i = .int .i64 k ∧ St w wd C nB x' now (.slice an now.length cn) ∧ (now.take k).foldlM J1l x6 = some x') (fun i _ => now.length - (intOf i).toNat)
  case atStart => exact ⟨0, x6, Nat.zero_le _, rfl, S6, rfl⟩
  case round =>
   obtain ⟨k, x', hk, rfl, hS, hfold⟩ := hrel
   have HF : Hid ((now.take k).foldlM J1l x6 = some x') := hfold
   clear hfold
   by_cases hlt : k < now.length
   ·have hlt2 : (k : Int) < (now.length : Int) := by omega
    have hk0 : (0 : Int) ≤ (k : Int) := by omega
    have hrow : now[k]? = some now[k] := List.getElem?_eq_getElem hlt
    have hta : now.take (k + 1) = now.take k ++ [now[k]] := by simp [hlt]
    have htl : now = now.take (k + 1) ++ now.drop (k + 1) := (List.take_append_drop _ _).symm
    have hyy := HY.out
    rw [htl, List.foldlM_append] at hyy
    obtain ⟨x9, hx9, -⟩ := Option.bind_eq_some_iff.1 hyy
    have hx8 := hx9
    rw [hta, List.foldlM_append] at hx8
    rw [show List.foldlM J1l x6 (now.take k) = some x' from HF.out] at hx8
    have hx7 : J1l x' now[k] = some x9 := by simpa using hx8
    obtain ⟨hok, hx9e⟩ := J8P hx7
    subst hx9e
    have HX : Hid ((now.take (k + 1)).foldlM J1l x6 = some (J19 x' now[k])) := hx9
    clear hx8 hx9 hx7 hyy hta htl
    obtain ⟨a', c', e', -, hfl'⟩ := J6O hS.rel
    have hne' : ¬ now = [] := by intro h0; rw [h0] at hlt; exact absurd hlt (Nat.not_lt_zero _)
    obtain ⟨b, o, rfl, hbl, hcell⟩ := hfl'.resolve_left hne'
    injection e' with e' _ e2'
    subst e2'
    subst e'
    have HOK : Hid (HOk x' now[k]) := hok
    generalize now[k] = f at *
    obtain ⟨g0, g1, g2, g3, g4, g5⟩ := f
    have cell : ∀ j v, (J1j (g0, g1, g2, g3, g4, g5))[j]? = some v → wr.cell? ⟨b, o + (k * 6 + j), none⟩ = some v := fun j v hj => hcell _ _ (J7J now k j _ v hrow hj)
    have b0 : wr.cell? ⟨b, o + k * 6, none⟩ = some (.int .i64 g0) := cell 0 _ rfl
    have b1 : wr.cell? ⟨b, o + k * 6 + 1, none⟩ = some (.int .i64 g1) := cell 1 _ rfl
    have b2 : wr.cell? ⟨b, o + k * 6 + 2, none⟩ = some (.int .i64 g2) := cell 2 _ rfl
    have b3 : wr.cell? ⟨b, o + k * 6 + 3, none⟩ = some (.int .i64 g3) := cell 3 _ rfl
    have b4 : wr.cell? ⟨b, o + k * 6 + 4, none⟩ = some (.int .i64 g4) := cell 4 _ rfl
    have b5 : wr.cell? ⟨b, o + k * 6 + 5, none⟩ = some (.int .u8 g5) := cell 5 _ rfl
    replace hS := hS.alloc (.cells #[.int .i64 g0, .int .i64 g1, .int .i64 g2, .int .i64 g3, .int .i64 g4, .int .u8 g5] 37)
    obtain ⟨pa', ua', fa', pn', pc', un', uc', fn', fc', HD, hdv⟩ := hS.devS
    have HS : Hid (St w (wr.alloc (.cells #[.int .i64 g0, .int .i64 g1, .int .i64 g2, .int .i64 g3, .int .i64 g4, .int .u8 g5] 37)) C nB x' now (.slice (some ⟨b, o, none⟩) now.length cn)) := hS
    have HV : Hid (J1M (wr.alloc (.cells #[.int .i64 g0, .int .i64 g1, .int .i64 g2, .int .i64 g3, .int .i64 g4, .int .u8 g5] 37)) (Cw C w.heap.size nB) x' (J1c (.slice pa' pn' pc') x'.2.1 (.slice ua' un' uc') x'.2.2.2.1 (.slice fa' fn' fc'))) := hdv
    have d0 := HD.cell (j := 0) rfl
    have d1 := HD.cell (j := 1) rfl
    have d2 := HD.cell (j := 2) rfl
    have d3 := HD.cell (j := 3) rfl
    have d4 := HD.cell (j := 4) rfl
    clear cell hcell hok hS hfl' hrow HD hdv
    go_wp2_with (go_at_call 46; refine (Try.harm_D (Cw C w.heap.size nB) x' (g0, g1, g2, g3, g4, g5) _ _ HV.out HOK.out).mono ?_)
    clear d0 d1 d2 d3 d4 b0 b1 b2 b3 b4 b5
    rintro e W7 v7 rfl hup7 hdv7
    have hdv8 := hdv7.keeps (C' := Cw C w.heap.size nB) (w' := W7) (fun r o u hC h => ⟨by rcases hC with hC | hC; exact hC; exact .inr ⟨by have := HS.out.lt; have := HS.out.low; rw [Je] at *; omega, by have := HS.out.lt; rw [Je] at *; omega⟩, h⟩)
    have hS7 := HS.out.grow (W' := W7) (by first | exact hup7 | (rw [Je]; exact hup7))
    clear hup7 hdv7
    obtain ⟨vp9, vu9, vf9, rfl, r1, r2, r3⟩ := id hdv8.ex
    obtain ⟨pa9, pn9, pc9, rfl⟩ := J29 r1
    obtain ⟨ua9, un9, uc9, rfl⟩ := J28 r2
    obtain ⟨fa9, fn9, fc9, rfl⟩ := J1L r3
    clear r1 r2 r3
    have hS9 := hS7.put hdv8
    obtain ⟨_, _, _, _, _, _, _, _, _, HD9, -⟩ := hS7.devS
    have d0 := HD9.cell (j := 0) rfl
    have d1 := HD9.cell (j := 1) rfl
    have d2 := HD9.cell (j := 2) rfl
    have d3 := HD9.cell (j := 3) rfl
    have d4 := HD9.cell (j := 4) rfl
    have o0 := HD9.frozen 0
    have o1 := HD9.frozen 1
    have o2 := HD9.frozen 2
    have o3 := HD9.frozen 3
    have o4 := HD9.frozen 4
    have HS9 : Hid (St w (J1Y W7 w.heap.size (.slice pa9 pn9 pc9) (.int .i64 (J19 x' (g0, g1, g2, g3, g4, g5)).2.1) (.slice ua9 un9 uc9) (.bool (J19 x' (g0, g1, g2, g3, g4, g5)).2.2.2.1) (.slice fa9 fn9 fc9)) C nB (J19 x' (g0, g1, g2, g3, g4, g5)) now (.slice (some ⟨b, o, none⟩) now.length cn)) := hS9
    clear hS7 HD9 hS9 hdv8
    generalize J19 x' (g0, g1, g2, g3, g4, g5) = x9 at *
    go_wp2
    go_roundw
    case rel => exact ⟨k + 1, x9, hlt, by go_num, HS9.out, HX.out⟩
    case measure => simp [intOf]; omega
   ·have hk2 : k = now.length := by omega
    subst hk2
    have hxy : x' = y := by
     have h1 := HF.out
     rw [List.take_length, HY.out] at h1
     injection h1 with h1
     exact h1.symm
    subst hxy
    obtain ⟨pa', ua', fa', pn', pc', un', uc', fn', fc', HD, hdv⟩ := hS.devS
    have HV : Hid (J1M wr (Cw C w.heap.size nB) x' (J1c (.slice pa' pn' pc') x'.2.1 (.slice ua' un' uc') x'.2.2.2.1 (.slice fa' fn' fc'))) := hdv
    have d0 := HD.cell (j := 0) rfl
    have d1 := HD.cell (j := 1) rfl
    have d2 := HD.cell (j := 2) rfl
    have d3 := HD.cell (j := 3) rfl
    have d4 := HD.cell (j := 4) rfl
    have n0 := hS.res.cell (j := 0) rfl
    have n1 := hS.res.cell (j := 1) rfl
    have n2 := hS.res.cell (j := 2) rfl
    have n3 := hS.res.cell (j := 3) rfl
    have n4 := hS.res.cell (j := 4) rfl
    have o0 := hS.res.frozen 0
    have o1 := hS.res.frozen 1
    have o2 := hS.res.frozen 2
    have o3 := hS.res.frozen 3
    have o4 := hS.res.frozen 4
    have HS : Hid (St w wr C nB x' now (.slice an now.length cn)) := hS
    clear hS HD hdv
    go_wp2
    have hR := J3A HS.out.res (.slice pa' pn' pc') (.int .i64 x'.2.1) (.slice ua' un' uc') (.bool x'.2.2.2.1) (.slice fa' fn' fc')
    have hU := JaG HS.out.up (Nat.le_add_right w.heap.size 1) (.slice pa' pn' pc') (.int .i64 x'.2.1) (.slice ua' un' uc') (.bool x'.2.2.2.1) (.slice fa' fn' fc')
    have hV := HV.out.keeps (C' := fun r o => C r o ∨ w.heap.size ≤ r) (fun r o u hC h => ⟨by rcases hC with hC | hC; exact .inl hC.1; exact .inr (by omega), (J8R (b := w.heap.size + 1) (.inr rfl) (v0 := .slice pa' pn' pc') (v1 := .int .i64 x'.2.1) (v2 := .slice ua' un' uc') (v3 := .bool x'.2.2.2.1) (v4 := .slice fa' fn' fc') r o u hC h).2⟩)
    have r0 := hR.cell (j := 0) rfl
    have r1 := hR.cell (j := 1) rfl
    have r2 := hR.cell (j := 2) rfl
    have r3 := hR.cell (j := 3) rfl
    have r4 := hR.cell (j := 4) rfl
    clear hR
    simp only [J1Y] at r0 r1 r2 r3 r4 hU hV
    clear d0 d1 d2 d3 d4 n0 n1 n2 n3 n4 o0 o1 o2 o3 o4
    generalize (((((wr.setCell { block := w.heap.size + 1, off := 0 } (Value.slice pa' pn' pc')).setCell { block := w.heap.size + 1, off := 1 } (Value.int IntKind.i64 x'.snd.fst)).setCell { block := w.heap.size + 1, off := 2 } (Value.slice ua' un' uc')).setCell { block := w.heap.size + 1, off := 3 } (Value.bool x'.snd.snd.snd.fst)).setCell { block := w.heap.size + 1, off := 4 } (Value.slice fa' fn' fc')) = Wf at r0 r1 r2 r3 r4 hU hV ⊢
    refine bodyPost_ret (v := .tuple #[J1c (.slice pa' pn' pc') x'.2.1 (.slice ua' un' uc') x'.2.2.2.1 (.slice fa' fn' fc'), .int .i64 0]) ?_ rfl ⟨_, rfl, hU, hV⟩
    simp [results, Try.results19, go_sem, r0, r1, r2, r3, r4]
 ·rw [h]
  rw [hK] at hx6
  obtain ⟨⟨ht, hp, hz, hu⟩, rfl⟩ := J9A (show J8n x5 p s = some x6 from hx6)
  obtain ⟨n, rfl⟩ := Int.eq_ofNat_of_zero_le ht
  rw [Int.toNat_natCast] at hp hy0
  clear h hK hy hx6 hx5
  obtain ⟨pa', ua', fa', pn', pc', un', uc', fn', fc', HD, hdv⟩ := S5.devS
  have HV : Hid _ := hdv
  have HS : Hid _ := S5
  have d0 := HD.cell (j := 0) rfl
  have d1 := HD.cell (j := 1) rfl
  have d2 := HD.cell (j := 2) rfl
  have d3 := HD.cell (j := 3) rfl
  have d4 := HD.cell (j := 4) rfl
  have ta := Try.ta89_70 (.agg #[])
  have tb := Try.ta89_72 (.agg #[])
  have tc := Try.ta89_75 (.agg #[])
  clear S5 HD hdv
  go_wp2_with (go_at_call 45; refine (Try.set_Db (Cw C w.heap.size nB) x5 n s hsg _ _ HV.out hp hz hu).mono ?_)
  clear ta tb tc
  clear d0 d1 d2 d3 d4
  rintro e W7 ⟨v7, rfl, hup7, hdv7⟩
  have hdv8 := hdv7.keeps (C' := Cw C w.heap.size nB) (w' := W7) (fun r o u hC h => ⟨by rcases hC with hC | hC; exact hC; exact .inr ⟨by have := HS.out.lt; have := HS.out.low; omega, by have := HS.out.lt; omega⟩, h⟩)
  have hS7 := HS.out.grow (W' := W7) (by exact hup7)
  clear hup7 hdv7 HV
  generalize J4z x5 _ _ = x6 at *
  obtain ⟨vp9, vu9, vf9, rfl, r1, r2, r3⟩ := id hdv8.ex
  obtain ⟨pa9, pn9, pc9, rfl⟩ := J29 r1
  obtain ⟨ua9, un9, uc9, rfl⟩ := J28 r2
  obtain ⟨fa9, fn9, fc9, rfl⟩ := J1L r3
  clear r1 r2 r3
  have S6 := hS7.put hdv8
  obtain ⟨_, _, _, _, _, _, _, _, _, HD9, -⟩ := hS7.devS
  have d0 := HD9.cell (j := 0) rfl
  have d1 := HD9.cell (j := 1) rfl
  have d2 := HD9.cell (j := 2) rfl
  have d3 := HD9.cell (j := 3) rfl
  have d4 := HD9.cell (j := 4) rfl
  have o0 := HD9.frozen 0
  have o1 := HD9.frozen 1
  have o2 := HD9.frozen 2
  have o3 := HD9.frozen 3
  have o4 := HD9.frozen 4
  have q2 := S6.nw.cell (j := 0) rfl
  simp only [J1Y] at q2
  have HS6 : Hid _ := S6
  clear hS7 HD9 hdv8 HS
  go_wp2
  clear d0 d1 d2 d3 d4 o0 o1 o2 o3 o4 q2 S6
  have S6 := HS6.out
  clear HS6
  simp only [J1Y] at S6
  generalize (((((W7.setCell ⟨w.heap.size, 0, none⟩ (.slice pa9 pn9 pc9)).setCell ⟨w.heap.size, 1, none⟩ (.int .i64 x6.2.1)).setCell ⟨w.heap.size, 2, none⟩ (.slice ua9 un9 uc9)).setCell ⟨w.heap.size, 3, none⟩ (.bool x6.2.2.2.1)).setCell ⟨w.heap.size, 4, none⟩ (.slice fa9 fn9 fc9)) = W6 at S6 ⊢
  have HY : Hid (now.foldlM J1l x6 = some y) := hy0
  clear hy0
  go_loopw [82] (fun i wd => ∃ (k : Nat) (x' : DT), k ≤ now.length ∧ i = .int .i64 k ∧ St w wd C nB x' now (.slice an now.length cn) ∧ (now.take k).foldlM J1l x6 = some x') (fun i _ => now.length - (intOf i).toNat)
  case atStart => exact ⟨0, x6, Nat.zero_le _, rfl, S6, rfl⟩
  case round =>
   obtain ⟨k, x', hk, rfl, hS, hfold⟩ := hrel
   have HF : Hid ((now.take k).foldlM J1l x6 = some x') := hfold
   clear hfold
   by_cases hlt : k < now.length
   ·have hlt2 : (k : Int) < (now.length : Int) := by omega
    have hk0 : (0 : Int) ≤ (k : Int) := by omega
    have hrow : now[k]? = some now[k] := List.getElem?_eq_getElem hlt
    have hta : now.take (k + 1) = now.take k ++ [now[k]] := by simp [hlt]
    have htl : now = now.take (k + 1) ++ now.drop (k + 1) := (List.take_append_drop _ _).symm
    have hyy := HY.out
    rw [htl, List.foldlM_append] at hyy
    obtain ⟨x9, hx9, -⟩ := Option.bind_eq_some_iff.1 hyy
    have hx8 := hx9
    rw [hta, List.foldlM_append] at hx8
    rw [show List.foldlM J1l x6 (now.take k) = some x' from HF.out] at hx8
    have hx7 : J1l x' now[k] = some x9 := by simpa using hx8
    obtain ⟨hok, hx9e⟩ := J8P hx7
    subst hx9e
    have HX : Hid ((now.take (k + 1)).foldlM J1l x6 = some (J19 x' now[k])) := hx9
    clear hx8 hx9 hx7 hyy hta htl
    obtain ⟨a', c', e', -, hfl'⟩ := J6O hS.rel
    have hne' : ¬ now = [] := by intro h0; rw [h0] at hlt; exact absurd hlt (Nat.not_lt_zero _)
    obtain ⟨b, o, rfl, hbl, hcell⟩ := hfl'.resolve_left hne'
    injection e' with e' _ e2'
    subst e2'
    subst e'
    have HOK : Hid (HOk x' now[k]) := hok
    generalize now[k] = f at *
    obtain ⟨g0, g1, g2, g3, g4, g5⟩ := f
    have cell : ∀ j v, (J1j (g0, g1, g2, g3, g4, g5))[j]? = some v → wr.cell? ⟨b, o + (k * 6 + j), none⟩ = some v := fun j v hj => hcell _ _ (J7J now k j _ v hrow hj)
    have b0 : wr.cell? ⟨b, o + k * 6, none⟩ = some (.int .i64 g0) := cell 0 _ rfl
    have b1 : wr.cell? ⟨b, o + k * 6 + 1, none⟩ = some (.int .i64 g1) := cell 1 _ rfl
    have b2 : wr.cell? ⟨b, o + k * 6 + 2, none⟩ = some (.int .i64 g2) := cell 2 _ rfl
    have b3 : wr.cell? ⟨b, o + k * 6 + 3, none⟩ = some (.int .i64 g3) := cell 3 _ rfl
    have b4 : wr.cell? ⟨b, o + k * 6 + 4, none⟩ = some (.int .i64 g4) := cell 4 _ rfl
    have b5 : wr.cell? ⟨b, o + k * 6 + 5, none⟩ = some (.int .u8 g5) := cell 5 _ rfl
    replace hS := hS.alloc (.cells #[.int .i64 g0, .int .i64 g1, .int .i64 g2, .int .i64 g3, .int .i64 g4, .int .u8 g5] 37)
    obtain ⟨pa', ua', fa', pn', pc', un', uc', fn', fc', HD, hdv⟩ := hS.devS
    have HS : Hid (St w (wr.alloc (.cells #[.int .i64 g0, .int .i64 g1, .int .i64 g2, .int .i64 g3, .int .i64 g4, .int .u8 g5] 37)) C nB x' now (.slice (some ⟨b, o, none⟩) now.length cn)) := hS
    have HV : Hid (J1M (wr.alloc (.cells #[.int .i64 g0, .int .i64 g1, .int .i64 g2, .int .i64 g3, .int .i64 g4, .int .u8 g5] 37)) (Cw C w.heap.size nB) x' (J1c (.slice pa' pn' pc') x'.2.1 (.slice ua' un' uc') x'.2.2.2.1 (.slice fa' fn' fc'))) := hdv
    have d0 := HD.cell (j := 0) rfl
    have d1 := HD.cell (j := 1) rfl
    have d2 := HD.cell (j := 2) rfl
    have d3 := HD.cell (j := 3) rfl
    have d4 := HD.cell (j := 4) rfl
    clear cell hcell hok hS hfl' hrow HD hdv
    go_wp2_with (go_at_call 46; refine (Try.harm_D (Cw C w.heap.size nB) x' (g0, g1, g2, g3, g4, g5) _ _ HV.out HOK.out).mono ?_)
    clear d0 d1 d2 d3 d4 b0 b1 b2 b3 b4 b5
    rintro e W7 v7 rfl hup7 hdv7
    have hdv8 := hdv7.keeps (C' := Cw C w.heap.size nB) (w' := W7) (fun r o u hC h => ⟨by rcases hC with hC | hC; exact hC; exact .inr ⟨by have := HS.out.lt; have := HS.out.low; rw [Je] at *; omega, by have := HS.out.lt; rw [Je] at *; omega⟩, h⟩)
    have hS7 := HS.out.grow (W' := W7) (by first | exact hup7 | (rw [Je]; exact hup7))
    clear hup7 hdv7
    obtain ⟨vp9, vu9, vf9, rfl, r1, r2, r3⟩ := id hdv8.ex
    obtain ⟨pa9, pn9, pc9, rfl⟩ := J29 r1
    obtain ⟨ua9, un9, uc9, rfl⟩ := J28 r2
    obtain ⟨fa9, fn9, fc9, rfl⟩ := J1L r3
    clear r1 r2 r3
    have hS9 := hS7.put hdv8
    obtain ⟨_, _, _, _, _, _, _, _, _, HD9, -⟩ := hS7.devS
    have d0 := HD9.cell (j := 0) rfl
    have d1 := HD9.cell (j := 1) rfl
    have d2 := HD9.cell (j := 2) rfl
    have d3 := HD9.cell (j := 3) rfl
    have d4 := HD9.cell (j := 4) rfl
    have o0 := HD9.frozen 0
    have o1 := HD9.frozen 1
    have o2 := HD9.frozen 2
    have o3 := HD9.frozen 3
    have o4 := HD9.frozen 4
    have HS9 : Hid (St w (J1Y W7 w.heap.size (.slice pa9 pn9 pc9) (.int .i64 (J19 x' (g0, g1, g2, g3, g4, g5)).2.1) (.slice ua9 un9 uc9) (.bool (J19 x' (g0, g1, g2, g3, g4, g5)).2.2.2.1) (.slice fa9 fn9 fc9)) C nB (J19 x' (g0, g1, g2, g3, g4, g5)) now (.slice (some ⟨b, o, none⟩) now.length cn)) := hS9
    clear hS7 HD9 hS9 hdv8
    generalize J19 x' (g0, g1, g2, g3, g4, g5) = x9 at *
    go_wp2
    go_roundw
    case rel => exact ⟨k + 1, x9, hlt, by go_num, HS9.out, HX.out⟩
    case measure => simp [intOf]; omega
   ·have hk2 : k = now.length := by omega
    subst hk2
    have hxy : x' = y := by
     have h1 := HF.out
     rw [List.take_length, HY.out] at h1
     injection h1 with h1
     exact h1.symm
    subst hxy
    obtain ⟨pa', ua', fa', pn', pc', un', uc', fn', fc', HD, hdv⟩ := hS.devS
    have HV : Hid (J1M wr (Cw C w.heap.size nB) x' (J1c (.slice pa' pn' pc') x'.2.1 (.slice ua' un' uc') x'.2.2.2.1 (.slice fa' fn' fc'))) := hdv
    have d0 := HD.cell (j := 0) rfl
    have d1 := HD.cell (j := 1) rfl
    have d2 := HD.cell (j := 2) rfl
    have d3 := HD.cell (j := 3) rfl
    have d4 := HD.cell (j := 4) rfl
    have n0 := hS.res.cell (j := 0) rfl
    have n1 := hS.res.cell (j := 1) rfl
    have n2 := hS.res.cell (j := 2) rfl
    have n3 := hS.res.cell (j := 3) rfl
    have n4 := hS.res.cell (j := 4) rfl
    have o0 := hS.res.frozen 0
    have o1 := hS.res.frozen 1
    have o2 := hS.res.frozen 2
    have o3 := hS.res.frozen 3
    have o4 := hS.res.frozen 4
    have HS : Hid (St w wr C nB x' now (.slice an now.length cn)) := hS
    clear hS HD hdv
    go_wp2
    have hR := J3A HS.out.res (.slice pa' pn' pc') (.int .i64 x'.2.1) (.slice ua' un' uc') (.bool x'.2.2.2.1) (.slice fa' fn' fc')
    have hU := JaG HS.out.up (Nat.le_add_right w.heap.size 1) (.slice pa' pn' pc') (.int .i64 x'.2.1) (.slice ua' un' uc') (.bool x'.2.2.2.1) (.slice fa' fn' fc')
    have hV := HV.out.keeps (C' := fun r o => C r o ∨ w.heap.size ≤ r) (fun r o u hC h => ⟨by rcases hC with hC | hC; exact .inl hC.1; exact .inr (by omega), (J8R (b := w.heap.size + 1) (.inr rfl) (v0 := .slice pa' pn' pc') (v1 := .int .i64 x'.2.1) (v2 := .slice ua' un' uc') (v3 := .bool x'.2.2.2.1) (v4 := .slice fa' fn' fc') r o u hC h).2⟩)
    have r0 := hR.cell (j := 0) rfl
    have r1 := hR.cell (j := 1) rfl
    have r2 := hR.cell (j := 2) rfl
    have r3 := hR.cell (j := 3) rfl
    have r4 := hR.cell (j := 4) rfl
    clear hR
    simp only [J1Y] at r0 r1 r2 r3 r4 hU hV
    clear d0 d1 d2 d3 d4 n0 n1 n2 n3 n4 o0 o1 o2 o3 o4
    generalize (((((wr.setCell { block := w.heap.size + 1, off := 0 } (Value.slice pa' pn' pc')).setCell { block := w.heap.size + 1, off := 1 } (Value.int IntKind.i64 x'.snd.fst)).setCell { block := w.heap.size + 1, off := 2 } (Value.slice ua' un' uc')).setCell { block := w.heap.size + 1, off := 3 } (Value.bool x'.snd.snd.snd.fst)).setCell { block := w.heap.size + 1, off := 4 } (Value.slice fa' fn' fc')) = Wf at r0 r1 r2 r3 r4 hU hV ⊢
    refine bodyPost_ret (v := .tuple #[J1c (.slice pa' pn' pc') x'.2.1 (.slice ua' un' uc') x'.2.2.2.1 (.slice fa' fn' fc'), .int .i64 0]) ?_ rfl ⟨_, rfl, hU, hV⟩
    simp [results, Try.results19, go_sem, r0, r1, r2, r3, r4]
end Go.Proofs
end
section
namespace Go.Proofs
open Go.Shelf Go.RowKit Go.Lib Go.Am
set_option linter.unusedSimpArgs false
set_option linter.unusedVariables false
theorem JlG (x : DT) : cel J3 x = [.sl 1 (x.1.map fun l => [.s l]), .i .i64 x.2.1, .sl 1 (x.2.2.1.map fun n => [.i .i64 n]), .b x.2.2.2.1, .sl 6 (x.2.2.2.2.map J69)] := rfl
theorem Jtd {s : Sn} {x : DT} {v : Value} (h : Jf s (.data (cel J3 x)) v) : J1M s.w s.g.C x v := by
 rw [JlG] at h
 cases h with
 | data _ vs hl hr =>
  obtain ⟨l⟩ := vs
  match l, hl with
  | [v0, v1, v2, v3, v4], _ =>
   have r0 := hr 0 _ _ rfl rfl
   have r1 := hr 1 _ _ rfl rfl
   have r2 := hr 2 _ _ rfl rfl
   have r3 := hr 3 _ _ rfl rfl
   have r4 := hr 4 _ _ rfl rfl
   cases r1; cases r3
   exact ⟨v0, v2, v4, rfl, r0, r2, r4⟩
theorem JnP {s : Sn} {x : DT} {v : Value} (h : J1M s.w s.g.C x v) : Jf s (.data (cel J3 x)) v := by
 obtain ⟨vp, vu, vf, rfl, h1, h2, h3⟩ := h.ex
 rw [JlG]
 refine .data _ _ rfl fun i y u hy hu => ?_
 match i with
 | 0 => injection hy with hy; injection hu with hu; subst hy hu; exact h1
 | 1 => injection hy with hy; injection hu with hu; subst hy hu; exact .i _ _
 | 2 => injection hy with hy; injection hu with hu; subst hy hu; exact h2
 | 3 => injection hy with hy; injection hu with hu; subst hy hu; exact .b _
 | 4 => injection hy with hy; injection hu with hu; subst hy hu; exact h3
 | i + 5 => simp at hy
theorem JgS {blks : List Blk} {g : Gh} {w w' : World} (hi : Inv ⟨blks, g, w⟩) (hu : Up w.heap.size w w') {y : DT} {v : Value} (hd : J1M w' (fun r o => g.C r o ∨ w.heap.size ≤ r) y v) :
  ∃ g', Inv ⟨blks, g', w'⟩ ∧ Js ⟨blks, g, w⟩ ⟨blks, g', w'⟩ ∧ Jf ⟨blks, g', w'⟩ (.data (cel J3 y)) v := by
 obtain ⟨h1, h2⟩ := Jpt hi hu (fun r o => w.heap.size ≤ r ∧ r < w'.heap.size) (fun _ _ h => h)
 exact ⟨_, h1, h2, JnP (hd.keeps fun r o u hc hx => ⟨hc.imp id fun h => ⟨h, J5A hx⟩, hx⟩)⟩
theorem JsC {s : Sn} {x : DT} {n : Int} {l : List UInt8} {vals : Array Value} (hl : 3 = vals.size)
  (ha : ∀ (i : Nat) y v, ([.data (cel J3 x), .p (.i .i64 n), .p (.s l)] : List AV)[i]? = some y → vals[i]? = some v → Jf s y v) : ∃ v, vals = #[v, .int .i64 n, .string ⟨l.toArray⟩] ∧ J1M s.w s.g.C x v := by
 obtain ⟨vl⟩ := vals
 match vl, hl with
 | [v0, v1, v2], _ =>
  have r0 := ha 0 _ _ rfl rfl
  have r1 := ha 1 _ _ rfl rfl
  have r2 := ha 2 _ _ rfl rfl
  cases r1 with | p _ _ r1 => cases r2 with | p _ _ r2 => cases r1; cases r2; exact ⟨v0, rfl, Jtd r0⟩
theorem Jhw : ∀ args blks r, JdU J3 Jj7 args blks = some r → J2f Try.prog 45 args blks r := Jr9 fun x n l y blks hy =>
 ⟨⟨Try.f45, Try.func45, by kernel_rfl, by kernel_rfl⟩, fun g w vals hi hl ha => by
  obtain ⟨v, rfl, hd⟩ := JsC hl ha
  obtain ⟨⟨h0, h1, h2, h3⟩, rfl⟩ := J9A (show J8n x n l = some y from hy)
  obtain ⟨k, rfl⟩ := Int.eq_ofNat_of_zero_le h0
  refine (Try.set_D g.C x k l v w hd h1 h2 h3).mono ?_
  rintro e w' ⟨v', rfl, hu, hd'⟩
  obtain ⟨g', q1, q2, q3⟩ := JgS hi hu hd'
  exact ⟨v', g', rfl, q1, q2, q3⟩⟩
end Go.Proofs
end
section
namespace Go.Am.Od
open Go.Am Go.Proofs
set_option maxRecDepth 20000
theorem J6h : Ju Try.prog i_draw_Codes_Next (erF J10) = true := by kernel_rfl
theorem J6b : Ju Try.prog JP (erF J12) = true := by kernel_rfl
theorem J6L : Ju Try.prog Jo (erF J1g) = true := by kernel_rfl
theorem J5F : Ju Try.prog Jy (erF J0R) = true := by kernel_rfl
theorem J9j : Ju Try.prog JR (erF J2v) = true := by kernel_rfl
theorem JkA : Ju Try.prog i_law04_odd (erF J81) = true := by kernel_rfl
theorem J4x {α : Type} {f : FuncId} {a : α} : ∀ {l : List (FuncId × α)}, lkA f l = some a → (f, a) ∈ l
 | [], h => by cases h
 | (g, b) :: r, h => by
  simp only [lkA] at h
  split at h
  ·rename_i e; injection h with h; subst h e; exact List.mem_cons_self
  ·exact List.mem_cons_of_mem _ (J4x h)
def J37 (l : List (FuncId × AFn)) : Prop := ∀ x ∈ l, Ju Try.prog x.1 x.2 = true
def J5W (l : List (FuncId × J5l)) : Prop := ∀ x ∈ l, Ju Try.prog x.1 x.2.af = true
theorem Jgr : J37 [] := fun _ h => by cases h
theorem Jm {f a l} (h : Ju Try.prog f a = true) (hl : J37 l) : J37 ((f, a) :: l) := fun x hx => by
 rcases List.mem_cons.1 hx with rfl | hx
 ·exact h
 ·exact hl x hx
theorem Jdy : J5W [] := fun _ h => by cases h
theorem Jhq {f a l} (h : Ju Try.prog f a.af = true) (hl : J5W l) : J5W ((f, a) :: l) := fun x hx => by
 rcases List.mem_cons.1 hx with rfl | hx
 ·exact h
 ·exact hl x hx
theorem JcL : J37 fns := Jm J6h <| Jm J6b <| Jm J6L <| Jm J5F <| Jm J9j <| Jm JkA <| Jgr
theorem JcW : J5W fks := Jdy
theorem mixed : Try.prog.follows .mixedOrders = true := by kernel_rfl
def Jcx : PS := fun _ => none
theorem soundT : J2P Try.prog (AF (tabO Jcx)) := by
 refine Jmv mixed (fun f af h => ?_) (fun f g h => ?_) (fun f k h => ?_)
 ·rcases J3g h with ⟨x, h1, h2⟩ | ⟨x, h1, h2⟩ | ⟨x, h1, h2⟩ | ⟨x, h1, h2⟩
  ·injection h2 with h2; subst h2; exact JcL _ (J4x h1)
  ·cases h2
  ·cases h2
  ·cases h2
 ·rcases J3g h with ⟨x, h1, h2⟩ | ⟨x, h1, h2⟩ | ⟨x, h1, h2⟩ | ⟨x, h1, h2⟩
  ·cases h2
  ·cases h2
  ·cases h1
  ·cases h1
 ·rcases J3g h with ⟨x, h1, h2⟩ | ⟨x, h1, h2⟩ | ⟨x, h1, h2⟩ | ⟨x, h1, h2⟩
  ·cases h2
  ·injection h2 with h2; subst h2; exact JcW _ (J4x h1)
  ·cases h2
  ·cases h2
end Go.Am.Od
end
section
namespace Go.Proofs
theorem JiR : ∀ args blks r, Am.Jn0 args blks = some r → Am.J2f Try.prog Am.Od.i_law04_odd args blks r := fun args blks r h => Am.Od.soundT _ _ _ _ h
end Go.Proofs
end
section
namespace Go.Proofs.Ytkopficpneehnaa
open Go.Am
set_option maxRecDepth 20000
theorem Jd0 : Ju Try.prog J11 (erF J4m) = true := by kernel_rfl
theorem Jfc : Ju Try.prog J2q (erF J5d) = true := by kernel_rfl
theorem JfQ : Ju Try.prog J0l (erF J5I) = true := by kernel_rfl
theorem Jd4 : Ju Try.prog J0J (erF J4l) = true := by kernel_rfl
theorem Jdd : Ju Try.prog J0X (erF J4o) = true := by kernel_rfl
theorem J55 : Ju Try.prog JE (erF J0H) = true := by kernel_rfl
theorem J4F : Ju Try.prog JC (erF J0p) = true := by kernel_rfl
theorem J6Q : Ju Try.prog JT (erF J1f) = true := by kernel_rfl
theorem J5Z : Ju Try.prog JN (erF J0U) = true := by kernel_rfl
theorem JgA : Ju Try.prog J05 (erF J5G) = true := by kernel_rfl
theorem Jeq : Ju Try.prog J1b (erF J5e) = true := by kernel_rfl
theorem Jg4 : Ju Try.prog J1o (erF J5V) = true := by kernel_rfl
theorem Jjm : Ju Try.prog J25 (erF J7k) = true := by kernel_rfl
theorem Jex : Ju Try.prog J1a (erF J5b) = true := by kernel_rfl
theorem J9Z : Ju Try.prog J0T (erF J2O) = true := by kernel_rfl
theorem J8x : Ju Try.prog J0w (erF J2h) = true := by kernel_rfl
theorem JhR : Ju Try.prog J1H (erF J6r) = true := by kernel_rfl
theorem J6h : Ju Try.prog i_draw_Codes_Next (erF J10) = true := by kernel_rfl
theorem Jcp : Ju Try.prog J0x (erF J46) = true := by kernel_rfl
theorem J6L : Ju Try.prog Jo (erF J1g) = true := by kernel_rfl
theorem J5F : Ju Try.prog Jy (erF J0R) = true := by kernel_rfl
theorem Jd1 : Ju Try.prog J8r (erF J8o) = true := by kernel_rfl
theorem Jn6 : Ju Try.prog J4K (erF J8z) = true := by kernel_rfl
theorem JhH : Ju Try.prog J30 (erF J6D) = true := by kernel_rfl
theorem J9j : Ju Try.prog JR (erF J2v) = true := by kernel_rfl
theorem JhF : Ju Try.prog J1G (erF J6t) = true := by kernel_rfl
theorem JhQ : Ju Try.prog J0f (erF J6y) = true := by kernel_rfl
theorem Jgl : Ju Try.prog J1q (erF J5M) = true := by kernel_rfl
theorem Jgo : Ju Try.prog J1s (erF J5H) = true := by kernel_rfl
theorem JkX : Ju Try.prog J2k (erF J85) = true := by kernel_rfl
theorem Jl6 : Ju Try.prog J4j (erF J82) = true := by kernel_rfl
theorem JfU : Ju Try.prog J0y (erF J5S) = true := by kernel_rfl
theorem JjX : Ju Try.prog J3s (erF J7m) = true := by kernel_rfl
theorem JeL : Ju Try.prog J2m (erF J5f) = true := by kernel_rfl
theorem Jhs : Ju Try.prog J13 (erF J6E) = true := by kernel_rfl
theorem JjF : Ju Try.prog J3u (erF J7l) = true := by kernel_rfl
theorem JhZ : Ju Try.prog J1J (erF J6B) = true := by kernel_rfl
theorem Je2 : Ju Try.prog J2b (erF J4O) = true := by kernel_rfl
theorem Jhu : Ju Try.prog J36 (erF J6v) = true := by kernel_rfl
theorem J6b : Ju Try.prog JP (erF J12) = true := by kernel_rfl
theorem JbC : Ju Try.prog J1v (erF J3G) = true := by kernel_rfl
theorem JhB : Ju Try.prog J2D (erF J6x) = true := by kernel_rfl
theorem Jez : Ju Try.prog J2l (erF J5c) = true := by kernel_rfl
theorem Jk5 : Ju Try.prog J1C (erF J7b) = true := by kernel_rfl
theorem Jjb : Ju Try.prog J3y (erF J7y) = true := by kernel_rfl
theorem Jby : Ju Try.prog J3J (erF J3E) = true := by kernel_rfl
theorem J64 : Ju Try.prog Jq (J92 J4 48).af = true := by kernel_rfl
theorem J4x {α : Type} {f : FuncId} {a : α} : ∀ {l : List (FuncId × α)}, lkA f l = some a → (f, a) ∈ l
 | [], h => by cases h
 | (g, b) :: r, h => by
  simp only [lkA] at h
  split at h
  ·rename_i e; injection h with h; subst h e; exact List.mem_cons_self
  ·exact List.mem_cons_of_mem _ (J4x h)
def J37 (l : List (FuncId × AFn)) : Prop := ∀ x ∈ l, Ju Try.prog x.1 x.2 = true
def J5W (l : List (FuncId × J5l)) : Prop := ∀ x ∈ l, Ju Try.prog x.1 x.2.af = true
theorem Jgr : J37 [] := fun _ h => by cases h
theorem Jm {f a l} (h : Ju Try.prog f a = true) (hl : J37 l) : J37 ((f, a) :: l) := fun x hx => by
 rcases List.mem_cons.1 hx with rfl | hx
 ·exact h
 ·exact hl x hx
theorem Jdy : J5W [] := fun _ h => by cases h
theorem Jhq {f a l} (h : Ju Try.prog f a.af = true) (hl : J5W l) : J5W ((f, a) :: l) := fun x hx => by
 rcases List.mem_cons.1 hx with rfl | hx
 ·exact h
 ·exact hl x hx
theorem JcL : J37 fns := Jm Jd0 <| Jm Jfc <| Jm JfQ <| Jm Jd4 <| Jm Jdd <| Jm J55 <| Jm J4F <| Jm J6Q <| Jm J5Z <| Jm JgA <| Jm Jeq <| Jm Jg4 <| Jm Jjm <| Jm Jex <| Jm J9Z <| Jm J8x <| Jm JhR <| Jm J6h <| Jm Jcp <| Jm J6L <| Jm J5F <| Jm Jd1 <| Jm Jn6 <| Jm JhH <| Jm J9j <| Jm JhF <| Jm JhQ <| Jm Jgl <| Jm Jgo <| Jm JkX <| Jm Jl6 <| Jm JfU <| Jm JjX <| Jm JeL <| Jm Jhs <| Jm JjF <| Jm JhZ <| Jm Je2 <| Jm Jhu <| Jm J6b <| Jm JbC <| Jm JhB <| Jm Jez <| Jm Jk5 <| Jm Jjb <| Jm Jby <| Jgr
theorem JcW : J5W fks := Jhq J64 <| Jdy
def JcU (l : List (FuncId × Prm)) : Prop := ∀ x ∈ l, ∀ args blks r, x.2 args blks = some r → J2f Try.prog x.1 args blks r
theorem Jph : JcU [] := fun _ h => by cases h
theorem J9S {f a l} (h : ∀ args blks r, a args blks = some r → J2f Try.prog f args blks r) (hl : JcU l) : JcU ((f, a) :: l) := fun x hx => by
 rcases List.mem_cons.1 hx with rfl | hx
 ·exact h
 ·exact hl x hx
theorem Jlq : JcU fps := J9S J7x <| J9S Jda <| J9S Jhw <| J9S JiR <| Jph
theorem mixed : Try.prog.follows .mixedOrders = true := by kernel_rfl
def Jcx : PS := fun _ => none
theorem soundT : J2P Try.prog (AF (tabO Jcx)) := by
 refine Jmv mixed (fun f af h => ?_) (fun f g h => ?_) (fun f k h => ?_)
 ·rcases J3g h with ⟨x, h1, h2⟩ | ⟨x, h1, h2⟩ | ⟨x, h1, h2⟩ | ⟨x, h1, h2⟩
  ·injection h2 with h2; subst h2; exact JcL _ (J4x h1)
  ·cases h2
  ·cases h2
  ·cases h2
 ·rcases J3g h with ⟨x, h1, h2⟩ | ⟨x, h1, h2⟩ | ⟨x, h1, h2⟩ | ⟨x, h1, h2⟩
  ·cases h2
  ·cases h2
  ·injection h2 with h2; subst h2; exact Jlq _ (J4x h1)
  ·cases h1
 ·rcases J3g h with ⟨x, h1, h2⟩ | ⟨x, h1, h2⟩ | ⟨x, h1, h2⟩ | ⟨x, h1, h2⟩
  ·cases h2
  ·injection h2 with h2; subst h2; exact JcW _ (J4x h1)
  ·cases h2
  ·cases h2
end Go.Proofs.Ytkopficpneehnaa
end
section
namespace Go.Am
theorem JtT {F : Orc} {f : FuncId} {g : Sig} {S : (tyL g.ti).D → Option (tyL g.to).D} {xs : List TA} {x : (tyL g.ti).D} {y : (tyL g.to).D} {v : TV} (he : EOk F (sigE f g S)) (hx : JdB g xs [] = some x) (hS : S x = some y)
  (hv : JeR g y = some (v, [])) : F f (xs.map (J0j (lns []))) [] = some (Jp (lns []) v, []) := by
 have h : (sigE f g S).go xs [] (fun v out => some (v, out)) = some (v, ([] : List (Bool × TB))) := by
  simp only [sigE, hx, hS, Option.bind_some, hv]
  cases g.same <;> rfl
 obtain ⟨v, out, h1, _, h3⟩ := he.ok h
 injection h3 with h3; injection h3 with h4 h5; subst h4 h5
 exact h1
end Go.Am
namespace Go.Proofs.Ytkopficpneehnaa
open Go.Am Go.RowKit Go.Proofs
set_option maxRecDepth 100000
theorem Jl8 (x : DT) (p e : Int) (hS : J0n (x, p) = some e) (C : Nat → Nat → Prop) (w : World) (v : Value) (h : J1M w C x v) :
  Calls Try.prog 41 #[v, .int .i64 p] w fun en w' => en = .returned (.int .i64 e) ∧ Up w.heap.size w w' := by
 have run := JtT (J7o Jcx) (xs := [.dt J3 x, .c (.d (.i .i64) p)]) (x := (x, p)) rfl hS (v := .a (.c (.d (.i .i64) e))) rfl
 have ok := soundT _ _ _ _ run
 refine (Jor ok rfl (w := w) C (vals := #[v, .int .i64 p]) rfl (fun i a u ha hu => ?_)).mono ?_
 ·match i with
  | 0 =>
   injection ha with ha; injection hu with hu; subst ha hu
   exact JnP (s := ⟨[], ghC C w, w⟩) (h.keeps fun r o u hc hx => ⟨.inr ⟨hc, J5A hx⟩, hx⟩)
  | 1 => injection ha with ha; injection hu with hu; subst ha hu; exact .p _ _ (.i _ _)
  | i + 2 => simp at ha
 ·rintro en w' ⟨u, g', rfl, hu, hr, _⟩
  cases hr with
  | p _ _ hr => cases hr; exact ⟨rfl, hu⟩
theorem JdX (w : World) (C : Nat → Nat → Prop) : J1M w C ([], 0, [], false, []) JdK := ⟨_, _, _, rfl, .sl0 1 none 0, .sl0 1 none 0, .sl0 6 none 0⟩
theorem Jfk : ∀ args blks r, JdG J3 J0b args blks = some r → J2f Try.prog 19 args blks r := Jr8 fun x n l y blks hy =>
 ⟨⟨Try.f19, Try.func19, by kernel_rfl, by kernel_rfl⟩, fun g w vals hi hl ha => by
  obtain ⟨v, rfl, hd⟩ := JsC hl ha
  have hy' : JeI (J0n (x, n)) (x, n, l) = some y := hy
  unfold JeI at hy'
  obtain ⟨e, he, hy'⟩ := Option.bind_eq_some_iff.1 hy'
  have hus : ∀ W, Up w.heap.size w W → Calls Try.prog 41 #[v, .int .i64 n] W fun en W' => en = .returned (.int .i64 e) ∧ Up W.heap.size W W' := fun W hW => Jl8 x n e he g.C W v (hd.up hW fun _ _ h _ => h)
  obtain ⟨vp, vu, vf, hv, r1, r2, r3⟩ := hd.ex
  obtain ⟨pa, pn, pc, rfl⟩ := J29 r1
  obtain ⟨ua, un, uc, rfl⟩ := J28 r2
  obtain ⟨fa, fn, fc, rfl⟩ := J1L r3
  subst hv
  have tup : ∀ {g' : Gh} {w' : World} {z : DT} {u : Value} {k : Int}, Jf ⟨blks, g', w'⟩ (.data (cel J3 z)) u → Jf ⟨blks, g', w'⟩ (.tup [.data (cel J3 z), .p (.i .i64 k)]) (.tuple #[u, .int .i64 k]) := fun {g' w' z u k} hz =>
   .tup _ _ rfl fun i a b ha hb => by
    match i with
    | 0 => injection ha with ha; injection hb with hb; subst ha hb; exact hz
    | 1 => injection ha with ha; injection hb with hb; subst ha hb; exact .p _ _ (.i _ _)
    | i + 2 => simp at ha
  have fin : ∀ {z : DT} {k : Int} {w' : World} {u : Value}, Up w.heap.size w w' → J1M w' (fun r o => g.C r o ∨ w.heap.size ≤ r) z u → ∃ v g', (Ending.returned (.tuple #[u, .int .i64 k])) = .returned v ∧ Inv ⟨blks, g', w'⟩ ∧ Js ⟨blks, g, w⟩ ⟨blks, g', w'⟩ ∧ Jf ⟨blks, g', w'⟩ (.tup [.data (cel J3 z), .p (.i .i64 k)]) v := fun hu hd => by
   obtain ⟨g', q1, q2, q3⟩ := JgS hi hu hd
   exact ⟨_, g', rfl, q1, q2, tup q3⟩
  split at hy'
  ·rename_i h0
   injection hy' with hy'; subst hy'
   refine (Try.write_err pa ua fa pn pc un uc fn fc x.2.1 n e x.2.2.2.1 ⟨l.toArray⟩ w h0 hus).mono ?_
   rintro en w' ⟨rfl, hu⟩
   exact fin hu (JdX _ _)
  ·rename_i h0
   have h0' : e = 0 := by omega
   subst h0'
   split at hy'
   ·rename_i h1
    injection hy' with hy'; subst hy'
    refine (Try.write_size pa ua fa pn pc un uc fn fc x.2.1 n x.2.2.2.1 ⟨l.toArray⟩ w (by simpa [ByteArray.size] using h1) hus).mono ?_
    rintro en w' ⟨rfl, hu⟩
    exact fin hu (JdX _ _)
   ·rename_i h1
    have h1' : l.length = 256 := Decidable.not_not.1 h1
    split at hy'
    ·rename_i h2
     injection hy' with hy'; subst hy'
     have h2' : x.2.1 = 1099511627776 := h2
     have hus2 := hus
     rw [h2'] at hus2 ⊢
     refine (Try.write_limit pa ua fa pn pc un uc fn fc n x.2.2.2.1 ⟨l.toArray⟩ w (by simpa [ByteArray.size] using h1') hus2).mono ?_
     rintro en w' ⟨rfl, hu⟩
     exact fin hu (JdX _ _)
    ·split at hy'
     ·rename_i h3
      obtain ⟨z, hz, hy'⟩ := Option.map_eq_some_iff.1 hy'
      subst hy'
      refine (Try.write_main g.C x z n l _ w hd h1' h3.1 h3.2.1 h3.2.2 hz hus).mono ?_
      rintro en w' ⟨v', rfl, hu, hd'⟩
      exact fin hu hd'
     ·cases hy'⟩
theorem JsL : J2P Try.prog (AF (tabO J0Z)) := by
 refine Jmv mixed (fun f af h => ?_) (fun f g h => ?_) (fun f k h => ?_)
 ·rcases J3g h with ⟨x, h1, h2⟩ | ⟨x, h1, h2⟩ | ⟨x, h1, h2⟩ | ⟨x, h1, h2⟩
  ·injection h2 with h2; subst h2; exact JcL _ (J4x h1)
  ·cases h2
  ·cases h2
  ·cases h2
 ·rcases J3g h with ⟨x, h1, h2⟩ | ⟨x, h1, h2⟩ | ⟨x, h1, h2⟩ | ⟨x, h1, h2⟩
  ·cases h2
  ·cases h2
  ·injection h2 with h2; subst h2; exact Jlq _ (J4x h1)
  ·injection h2 with h2; subst h2
   unfold J0Z at h1
   split at h1
   ·rename_i hf; injection h1 with h1; subst h1; subst hf; exact Jfk
   ·cases h1
 ·rcases J3g h with ⟨x, h1, h2⟩ | ⟨x, h1, h2⟩ | ⟨x, h1, h2⟩ | ⟨x, h1, h2⟩
  ·cases h2
  ·injection h2 with h2; subst h2; exact JcW _ (J4x h1)
  ·cases h2
  ·cases h2
end Go.Proofs.Ytkopficpneehnaa
end
