/-
  Parts of a proof.
-/
import Derived.StillTailTactics
import Derived.Test.YtkopficpneehnaaChecked
import Derived.Test.YtkopficpneehnaaM4
import Derived.Test.YtkopficpneehnaaM5
import Derived.Test.YtkopficpneehnaaM6
set_option linter.unusedSimpArgs false
set_option linter.unusedVariables false
section
namespace Go.Proofs
open Go.Shelf Go.RowKit Go.Lib Go.Am
set_option linter.unusedSimpArgs false
set_option linter.unusedVariables false
set_option maxHeartbeats 1000000 in
set_option maxRecDepth 100000 in
theorem Try.write_main (C : Nat → Nat → Prop) (x y : DT) (p : Int) (s : List UInt8) (v : Value) (w : World) (h : J1v w C x v) (hs : s.length = 256) (hw0 : 0 ≤ x.2.1) (hw1 : x.2.1 < 1099511627776) (hfl : x.2.2.2.2.length ≤ 1000000) (hy : Jbx x p s = some y)
  (hus : ∀ W, Up w.heap.size w W → Calls Try.prog 41 #[v, .int .i64 p] W fun e W' => e = .returned (.int .i64 0) ∧ Up W.heap.size W W') :
  Calls Try.prog 19 #[v, .int .i64 p, .string ⟨s.toArray⟩] w fun e w' => ∃ v', e = .returned (.tuple #[v', .int .i64 0]) ∧ Up w.heap.size w w' ∧ J1v w' (fun r o => C r o ∨ w.heap.size ≤ r) y v' := by
 have mixed : Try.prog.follows .mixedOrders = true := by kernel_rfl
 obtain ⟨vp, vu, vf, rfl, h1, h2, h3⟩ := h.ex
 obtain ⟨pages, ws, unr, dead, fs⟩ := x
 dsimp only at hw0 hw1 hfl h1 h2 h3 hus ⊢
 have hF := J5J h3
 obtain ⟨pa, pn, pc, rfl⟩ := J1F h1
 obtain ⟨ua, un, uc, rfl⟩ := J1G h2
 obtain ⟨fa, fc, rfl, -⟩ := id hF
 have hsb : (⟨s.toArray⟩ : ByteArray).size = 256 := by simpa [ByteArray.size] using hs
 generalize hsg : (⟨s.toArray⟩ : ByteArray) = sb at hsb ⊢
 obtain ⟨H0, H1⟩ := J7c w [.slice pa pn pc, .int .i64 ws, .slice ua un uc, .bool dead, .slice fa fs.length fc] [.slice none 0 0, .int .i64 0, .slice none 0 0, .bool false, .slice none 0 0] 30 30
 have hsz : ((w.alloc (.cells #[.slice pa pn pc, .int .i64 ws, .slice ua un uc, .bool dead, .slice fa fs.length fc] 30)).alloc (.cells #[.slice none 0 0, .int .i64 0, .slice none 0 0, .bool false, .slice none 0 0] 30)).heap.size = w.heap.size + 2 := by rw [Je, Je]
 have hb0 : Up w.heap.size w ((w.alloc (.cells #[.slice pa pn pc, .int .i64 ws, .slice ua un uc, .bool dead, .slice fa fs.length fc] 30)).alloc (.cells #[.slice none 0 0, .int .i64 0, .slice none 0 0, .bool false, .slice none 0 0] 30)) :=
  ((Up.refl _ w).alloc (Nat.le_refl _) _).alloc (by rw [Je]; omega) _
 have hwr : Go.RowKit.wrap64 (ws + 1) = ws + 1 := by unfold Go.RowKit.wrap64; omega
 have hne : ¬ ws = 1099511627776 := by omega
 go_enter Try.func19, Try.ntmps19
 go_wp2_with (go_at_call 41; refine (hus _ hb0).mono ?_)
 rintro e W1 rfl hu1
 try rw [← hsz] at hu1
 have hz1 := hu1.size
 rw [hsz] at hz1
 have G0 := H0.up hu1 (by rw [hsz]; omega)
 have G1 := H1.up hu1 (by rw [hsz]; omega)
 have hb1 := hb0.trans (hu1.mono (by rw [hsz]; omega))
 clear H0 H1 hb0 hu1 hsz hus
 have d1 := G0.cell (j := 1) rfl
 have f1 := G0.frozen 1
 have K0 := G0.set (i := 1) (.int .i64 (ws + 1))
 have K1 := G1.other (a := ⟨w.heap.size, 1, none⟩) (by show w.heap.size + 1 ≠ w.heap.size; omega) (.int .i64 (ws + 1))
 have kb : Up w.heap.size w (W1.setCell ⟨w.heap.size, 1, none⟩ (.int .i64 (ws + 1))) := hb1.setCell (p := ⟨w.heap.size, 1, none⟩) (Nat.le_refl _) _
 have ks : (W1.setCell ⟨w.heap.size, 1, none⟩ (.int .i64 (ws + 1))).heap.size = W1.heap.size := by simp [World.setCell]
 have L0 := K0.alloc (.cells #[.slice none 0 0] 28)
 have L1 := K1.alloc (.cells #[.slice none 0 0] 28)
 have L2 := J3z (W1.setCell ⟨w.heap.size, 1, none⟩ (.int .i64 (ws + 1))) #[.slice none 0 0] 28
 have d4 := L0.cell (j := 4) rfl
 have lb := kb.alloc kb.size (.cells #[.slice none 0 0] 28)
 have hF1 : JlE ((W1.setCell ⟨w.heap.size, 1, none⟩ (.int .i64 (ws + 1))).alloc (.cells #[.slice none 0 0] 28)) (.slice fa fs.length fc) fs := by
  obtain ⟨a, c, e1, e2, e3⟩ := hF
  refine ⟨a, c, e1, e2, e3.imp id fun ⟨b, o, h1, h2, h3⟩ => ⟨b, o, h1, Nat.lt_of_lt_of_le h2 lb.size, fun j u hj => ?_⟩⟩
  rw [World.cell?_of_block (w := w) (a := ⟨b, o + j, none⟩) (lb.block b h2)]
  exact h3 j u hj
 go_wp2_with (go_at_call 38; refine (Try.clone_F _ fs _ hF1 hfl).mono ?_)
 rintro e W3 ⟨v3, rfl, ho3, hb3⟩
 have hs3 : ((W1.setCell ⟨w.heap.size, 1, none⟩ (.int .i64 (ws + 1))).alloc (.cells #[.slice none 0 0] 28)).heap.size = W1.heap.size + 1 := by rw [Je, ks]
 rw [ks] at L2
 have M0 := L0.below hb3
 have M1 := L1.below hb3
 have M2 := L2.below hb3
 have mb : Up w.heap.size w W3 := lb.trans ((Up.of_below hb3).mono lb.size)
 have h3s := hb3.size
 rw [hs3] at ho3 h3s
 have hdel := Try.del_F (W1.heap.size + 1) w.heap.size W1.heap.size (ws + 1) v3 fs W3 ho3 (M0.cell (j := 1) rfl) M2 (by omega) (by omega) (by omega) hfl
 clear hF1 hb3 L0 L1 L2 K0 K1 G0 G1 lb kb hb1 d1 f1 d4 hs3 ks
 go_wp2_with (go_at_call 42; refine hdel.mono ?_)
 rintro e W4 ⟨v2, vn, rfl, hv2, hvn, hown, hs4, hk4, hos4, hou4⟩
 have N0 := M0.of_block (hk4 _ (by omega) (by omega))
 have N1 := M1.of_block (hk4 _ (by omega) (by omega))
 have nb : Up w.heap.size w W4 := mb.trans ⟨hs4, fun k hk => hk4 k (by omega) (by omega), hos4, hou4⟩
 obtain ⟨a2, n2, c2, hsh⟩ : ∃ a n c, v2 = .slice a n c := by
  rcases hv2 with ⟨_, h⟩ | ⟨g, c, h, _⟩
  ·exact ⟨_, _, _, h⟩
  ·exact ⟨_, _, _, h⟩
 subst hsh
 have q4 := N0.cell (j := 4) rfl
 have q4f := N0.frozen 4
 have P0 := N0.set (i := 4) (.slice a2 n2 c2)
 have P1 := N1.other (a := ⟨w.heap.size, 4, none⟩) (by show w.heap.size + 1 ≠ w.heap.size; omega) (.slice a2 n2 c2)
 have P2 := hvn.other (a := ⟨w.heap.size, 4, none⟩) (by show W1.heap.size ≠ w.heap.size; omega) (.slice a2 n2 c2)
 have p2 := P2.cell (j := 0) rfl
 have hgr : W4.grownBy (W4.setCell ⟨w.heap.size, 4, none⟩ (.slice a2 n2 c2)) (some w.heap.size) := ⟨rfl, rfl, rfl, by simp [World.setCell], fun k hk h => Below.heap_setCell W4 ⟨w.heap.size, 4, none⟩ _ k (fun e => h (by rw [e]))⟩
 have ho := hown.kept hgr (by
  cases hb : vn.ownBlock with
  | none => exact .inl rfl
  | some q => exact .inr (fun e => by have := (hown.lt q hb).1; injection e with e; omega))
 have hnf : Jp (W4.setCell ⟨w.heap.size, 4, none⟩ (.slice a2 n2 c2)) (Cw C w.heap.size W1.heap.size) (.sl 6 ((fs.filter fun f => f.2.1 == ws + 1).map J5j)) vn := by
  rcases J9n ho with ⟨h0, rfl⟩ | ⟨g, c, rfl, hc, hg, hgl, hR, _⟩
  ·rw [h0]; exact .sl0 6 none 0
  ·exact Jia (B := W3.heap.size) (fun r o hr => .inr ⟨by omega, by omega⟩) (.inr ⟨g, c, rfl, hc, hg, hgl, hR⟩)
 have heff : Calls Try.prog 44 #[vn] (W4.setCell ⟨w.heap.size, 4, none⟩ (.slice a2 n2 c2)) fun e W' => e = .returned (J5o (fs.filter fun f => f.2.1 == ws + 1)) ∧ Below (W4.setCell ⟨w.heap.size, 4, none⟩ (.slice a2 n2 c2)).heap.size (W4.setCell ⟨w.heap.size, 4, none⟩ (.slice a2 n2 c2)) W' := by
  rcases J9n ho with ⟨h0, rfl⟩ | ⟨g, c, rfl, hc, hg, hgl, hR, _⟩
  ·rw [h0]; exact Try.eff_nil none 0 _
  ·exact Try.eff44 g c _ _ (Nat.le_trans (List.length_filter_le _ _) hfl) hR
 have hkf : Jp W4 (Cw C w.heap.size W1.heap.size) (.sl 6 ((fs.filter fun f => !(f.2.1 == ws + 1)).map J5j)) (.slice a2 n2 c2) := Jia (B := W1.heap.size + 1) (fun r o hr => .inr ⟨by omega, by omega⟩) hv2
 have hcs : ∀ r o u, Cw C w.heap.size W1.heap.size r o → cellAt W4 r o = some u → Cw C w.heap.size W1.heap.size r o ∧ cellAt (W4.setCell ⟨w.heap.size, 4, none⟩ (.slice a2 n2 c2)) r o = some u := fun r o u hC h => ⟨hC, J54 (by rcases hC with ⟨_, h⟩ | ⟨h, _⟩ <;> omega) h⟩
 have S5 : St w (W4.setCell ⟨w.heap.size, 4, none⟩ (.slice a2 n2 c2)) C W1.heap.size (J1X (pages, ws, unr, dead, fs)) (J2f (pages, ws, unr, dead, fs)) vn :=
  ⟨⟨_, _, _, P0, ⟨_, _, _, rfl, (h1.up nb (fun r o h hl => .inl ⟨h, hl⟩)).keeps hcs, (h2.up nb (fun r o h hl => .inl ⟨h, hl⟩)).keeps hcs, hkf.keeps hcs⟩⟩, P1, P2, hnf, nb.setCell (p := ⟨w.heap.size, 4, none⟩) (Nat.le_refl _) _, by omega⟩
 have e5 : J2f (pages, ws, unr, dead, fs) = fs.filter fun f => f.2.1 == ws + 1 := rfl
 rw [← e5] at heff
 clear e5
 obtain ⟨an, cn, hsn, -⟩ := J5J S5.rel
 have hln : (J2f (pages, ws, unr, dead, fs)).length ≤ 1000000 := Nat.le_trans (List.length_filter_le _ _) hfl
 subst hsn
 clear hnf ho hown hgr hkf hcs hF h3 h1 h2 h P1 P2 N1 M1 M2 M0 hdel hv2 mb hvn
 go_wp2_with (go_at_call 44; refine heff.mono ?_)
 rintro e W5 ⟨rfl, hb5⟩
 replace S5 := S5.grow (Up.of_below hb5)
 clear heff P0 p2 q4 q4f N0 hb5 nb hk4 hos4 hou4 hs4 ho3
 unfold Jbx at hy
 obtain ⟨x6, hx6, hy0⟩ := Option.bind_eq_some_iff.1 hy
 have hx5 : (J1X (pages, ws, unr, dead, fs)).1 = pages := rfl
 generalize J1X (pages, ws, unr, dead, fs) = x5 at *
 generalize J2f (pages, ws, unr, dead, fs) = now at *
 generalize W1.heap.size = nB at *
 rcases Jh3 now with ⟨h, hK⟩ | ⟨t, h, hK⟩ | ⟨b, h, hK⟩ | ⟨h, hK⟩
 ·rw [h]
  have S6 := S5.alloc (.cells #[] 70)
  have hx : x6 = x5 := by
   rw [hK] at hx6
   have : some x5 = some x6 := hx6
   injection this with this; exact this.symm
  subst hx
  have q2 := S6.nw.cell (j := 0) rfl
  have ta := Try.ta70_70 (.agg #[])
  go_wp2
  clear q2 ta
  generalize (W5.alloc (.cells #[] 70)) = W6 at S6 ⊢
  have HY : Hid (now.foldlM J1g x6 = some y) := hy0
  clear h hK hy hx6 S5 hx5 hy0
  go_loopw [82] (fun i wd => ∃ (k : Nat) (x' : DT), k ≤ now.length ∧ i = .int .i64 k ∧ St w wd C nB x' now (.slice an now.length cn) ∧ (now.take k).foldlM J1g x6 = some x') (fun i _ => now.length - (intOf i).toNat)
  case atStart => exact ⟨0, x6, Nat.zero_le _, rfl, S6, rfl⟩
  case round =>
   obtain ⟨k, x', hk, rfl, hS, hfold⟩ := hrel
   have HF : Hid ((now.take k).foldlM J1g x6 = some x') := hfold
   clear hfold
   by_cases hlt : k < now.length
   ·have hlt2 : (k : Int) < (now.length : Int) := by omega
    have hk0 : (0 : Int) ≤ (k : Int) := by omega
    have hrow : now[k]? = some now[k] := List.getElem?_eq_getElem hlt
    have hta : now.take (k + 1) = now.take k ++ [now[k]] := by simp [hlt]
    have htl : now = now.take (k + 1) ++ now.drop (k + 1) := (List.take_append_drop _ _).symm
    have hyy := HY.out
    rw [htl, List.foldlM_append] at hyy
    obtain ⟨x9, hx9, -⟩ := Option.bind_eq_some_iff.1 hyy
    have hx8 := hx9
    rw [hta, List.foldlM_append] at hx8
    rw [show List.foldlM J1g x6 (now.take k) = some x' from HF.out] at hx8
    have hx7 : J1g x' now[k] = some x9 := by simpa using hx8
    obtain ⟨hok, hx9e⟩ := J7K hx7
    subst hx9e
    have HX : Hid ((now.take (k + 1)).foldlM J1g x6 = some (J14 x' now[k])) := hx9
    clear hx8 hx9 hx7 hyy hta htl
    obtain ⟨a', c', e', -, hfl'⟩ := J5J hS.rel
    have hne' : ¬ now = [] := by intro h0; rw [h0] at hlt; exact absurd hlt (Nat.not_lt_zero _)
    obtain ⟨b, o, rfl, hbl, hcell⟩ := hfl'.resolve_left hne'
    injection e' with e' _ e2'
    subst e2'
    subst e'
    have HOK : Hid (HOk x' now[k]) := hok
    generalize now[k] = f at *
    obtain ⟨g0, g1, g2, g3, g4, g5⟩ := f
    have cell : ∀ j v, (J1d (g0, g1, g2, g3, g4, g5))[j]? = some v → wr.cell? ⟨b, o + (k * 6 + j), none⟩ = some v := fun j v hj => hcell _ _ (J6P now k j _ v hrow hj)
    have b0 : wr.cell? ⟨b, o + k * 6, none⟩ = some (.int .i64 g0) := cell 0 _ rfl
    have b1 : wr.cell? ⟨b, o + k * 6 + 1, none⟩ = some (.int .i64 g1) := cell 1 _ rfl
    have b2 : wr.cell? ⟨b, o + k * 6 + 2, none⟩ = some (.int .i64 g2) := cell 2 _ rfl
    have b3 : wr.cell? ⟨b, o + k * 6 + 3, none⟩ = some (.int .i64 g3) := cell 3 _ rfl
    have b4 : wr.cell? ⟨b, o + k * 6 + 4, none⟩ = some (.int .i64 g4) := cell 4 _ rfl
    have b5 : wr.cell? ⟨b, o + k * 6 + 5, none⟩ = some (.int .u8 g5) := cell 5 _ rfl
    replace hS := hS.alloc (.cells #[.int .i64 g0, .int .i64 g1, .int .i64 g2, .int .i64 g3, .int .i64 g4, .int .u8 g5] 37)
    obtain ⟨pa', ua', fa', pn', pc', un', uc', fn', fc', HD, hdv⟩ := hS.devS
    have HS : Hid (St w (wr.alloc (.cells #[.int .i64 g0, .int .i64 g1, .int .i64 g2, .int .i64 g3, .int .i64 g4, .int .u8 g5] 37)) C nB x' now (.slice (some ⟨b, o, none⟩) now.length cn)) := hS
    have HV : Hid (J1v (wr.alloc (.cells #[.int .i64 g0, .int .i64 g1, .int .i64 g2, .int .i64 g3, .int .i64 g4, .int .u8 g5] 37)) (Cw C w.heap.size nB) x' (J16 (.slice pa' pn' pc') x'.2.1 (.slice ua' un' uc') x'.2.2.2.1 (.slice fa' fn' fc'))) := hdv
    have d0 := HD.cell (j := 0) rfl
    have d1 := HD.cell (j := 1) rfl
    have d2 := HD.cell (j := 2) rfl
    have d3 := HD.cell (j := 3) rfl
    have d4 := HD.cell (j := 4) rfl
    clear cell hcell hok hS hfl' hrow HD hdv
    go_wp2_with (go_at_call 46; refine (Try.harm_D (Cw C w.heap.size nB) x' (g0, g1, g2, g3, g4, g5) _ _ HV.out HOK.out).mono ?_)
    clear d0 d1 d2 d3 d4 b0 b1 b2 b3 b4 b5
    rintro e W7 v7 rfl hup7 hdv7
    have hdv8 := hdv7.keeps (C' := Cw C w.heap.size nB) (w' := W7) (fun r o u hC h => ⟨by rcases hC with hC | hC; exact hC; exact .inr ⟨by have := HS.out.lt; have := HS.out.low; rw [Je] at *; omega, by have := HS.out.lt; rw [Je] at *; omega⟩, h⟩)
    have hS7 := HS.out.grow (W' := W7) (by rw [Je]; exact hup7)
    clear hup7 hdv7
    obtain ⟨vp9, vu9, vf9, rfl, r1, r2, r3⟩ := id hdv8.ex
    obtain ⟨pa9, pn9, pc9, rfl⟩ := J1F r1
    obtain ⟨ua9, un9, uc9, rfl⟩ := J1G r2
    obtain ⟨fa9, fn9, fc9, rfl⟩ := J1s r3
    clear r1 r2 r3
    have hS9 := hS7.put hdv8
    obtain ⟨_, _, _, _, _, _, _, _, _, HD9, -⟩ := hS7.devS
    have d0 := HD9.cell (j := 0) rfl
    have d1 := HD9.cell (j := 1) rfl
    have d2 := HD9.cell (j := 2) rfl
    have d3 := HD9.cell (j := 3) rfl
    have d4 := HD9.cell (j := 4) rfl
    have o0 := HD9.frozen 0
    have o1 := HD9.frozen 1
    have o2 := HD9.frozen 2
    have o3 := HD9.frozen 3
    have o4 := HD9.frozen 4
    have HS9 : Hid (St w (J1C W7 w.heap.size (.slice pa9 pn9 pc9) (.int .i64 (J14 x' (g0, g1, g2, g3, g4, g5)).2.1) (.slice ua9 un9 uc9) (.bool (J14 x' (g0, g1, g2, g3, g4, g5)).2.2.2.1) (.slice fa9 fn9 fc9)) C nB (J14 x' (g0, g1, g2, g3, g4, g5)) now (.slice (some ⟨b, o, none⟩) now.length cn)) := hS9
    clear hS7 HD9 hS9 hdv8
    generalize J14 x' (g0, g1, g2, g3, g4, g5) = x9 at *
    go_wp2
    go_roundw
    case rel => exact ⟨k + 1, x9, hlt, by go_num, HS9.out, HX.out⟩
    case measure => simp [intOf]; omega
   ·have hk2 : k = now.length := by omega
    subst hk2
    have hxy : x' = y := by
     have h1 := HF.out
     rw [List.take_length, HY.out] at h1
     injection h1 with h1
     exact h1.symm
    subst hxy
    obtain ⟨pa', ua', fa', pn', pc', un', uc', fn', fc', HD, hdv⟩ := hS.devS
    have HV : Hid (J1v wr (Cw C w.heap.size nB) x' (J16 (.slice pa' pn' pc') x'.2.1 (.slice ua' un' uc') x'.2.2.2.1 (.slice fa' fn' fc'))) := hdv
    have d0 := HD.cell (j := 0) rfl
    have d1 := HD.cell (j := 1) rfl
    have d2 := HD.cell (j := 2) rfl
    have d3 := HD.cell (j := 3) rfl
    have d4 := HD.cell (j := 4) rfl
    have n0 := hS.res.cell (j := 0) rfl
    have n1 := hS.res.cell (j := 1) rfl
    have n2 := hS.res.cell (j := 2) rfl
    have n3 := hS.res.cell (j := 3) rfl
    have n4 := hS.res.cell (j := 4) rfl
    have o0 := hS.res.frozen 0
    have o1 := hS.res.frozen 1
    have o2 := hS.res.frozen 2
    have o3 := hS.res.frozen 3
    have o4 := hS.res.frozen 4
    have HS : Hid (St w wr C nB x' now (.slice an now.length cn)) := hS
    clear hS HD hdv
    go_wp2
    have hR := J2M HS.out.res (.slice pa' pn' pc') (.int .i64 x'.2.1) (.slice ua' un' uc') (.bool x'.2.2.2.1) (.slice fa' fn' fc')
    have hU := J9x HS.out.up (Nat.le_add_right w.heap.size 1) (.slice pa' pn' pc') (.int .i64 x'.2.1) (.slice ua' un' uc') (.bool x'.2.2.2.1) (.slice fa' fn' fc')
    have hV := HV.out.keeps (C' := fun r o => C r o ∨ w.heap.size ≤ r) (fun r o u hC h => ⟨by rcases hC with hC | hC; exact .inl hC.1; exact .inr (by omega), (J85 (b := w.heap.size + 1) (.inr rfl) (v0 := .slice pa' pn' pc') (v1 := .int .i64 x'.2.1) (v2 := .slice ua' un' uc') (v3 := .bool x'.2.2.2.1) (v4 := .slice fa' fn' fc') r o u hC h).2⟩)
    have r0 := hR.cell (j := 0) rfl
    have r1 := hR.cell (j := 1) rfl
    have r2 := hR.cell (j := 2) rfl
    have r3 := hR.cell (j := 3) rfl
    have r4 := hR.cell (j := 4) rfl
    clear hR
    simp only [J1C] at r0 r1 r2 r3 r4 hU hV
    clear d0 d1 d2 d3 d4 n0 n1 n2 n3 n4 o0 o1 o2 o3 o4
    generalize (((((wr.setCell { block := w.heap.size + 1, off := 0 } (Value.slice pa' pn' pc')).setCell { block := w.heap.size + 1, off := 1 } (Value.int IntKind.i64 x'.snd.fst)).setCell { block := w.heap.size + 1, off := 2 } (Value.slice ua' un' uc')).setCell { block := w.heap.size + 1, off := 3 } (Value.bool x'.snd.snd.snd.fst)).setCell { block := w.heap.size + 1, off := 4 } (Value.slice fa' fn' fc')) = Wf at r0 r1 r2 r3 r4 hU hV ⊢
    refine bodyPost_ret (v := .tuple #[J16 (.slice pa' pn' pc') x'.2.1 (.slice ua' un' uc') x'.2.2.2.1 (.slice fa' fn' fc'), .int .i64 0]) ?_ rfl ⟨_, rfl, hU, hV⟩
    simp [results, Try.results19, go_sem, r0, r1, r2, r3, r4]
 ·rw [h]
  rw [hK] at hx6
  obtain ⟨⟨ht, hp, hz, hu⟩, rfl⟩ := J8Z (show J7r x5 t s = some x6 from hx6)
  obtain ⟨n, rfl⟩ := Int.eq_ofNat_of_zero_le ht
  rw [Int.toNat_natCast] at hp hy0
  clear h hK hy hx6 hx5
  have S5a := S5.alloc (.cells #[.int .i64 n] 72)
  obtain ⟨pa', ua', fa', pn', pc', un', uc', fn', fc', HD, hdv⟩ := S5a.devS
  have HV : Hid _ := hdv
  have HS : Hid _ := S5a
  have d0 := HD.cell (j := 0) rfl
  have d1 := HD.cell (j := 1) rfl
  have d2 := HD.cell (j := 2) rfl
  have d3 := HD.cell (j := 3) rfl
  have d4 := HD.cell (j := 4) rfl
  have ta := Try.ta72_70 (.agg #[.int .i64 n])
  have tb := Try.ta72_72 (.agg #[.int .i64 n])
  clear S5a S5 HD hdv
  go_wp2_with (go_at_call 45; refine (Try.set_Db (Cw C w.heap.size nB) x5 n s hsg _ _ HV.out hp hz hu).mono ?_)
  clear ta tb
  clear d0 d1 d2 d3 d4
  rintro e W7 ⟨v7, rfl, hup7, hdv7⟩
  have hdv8 := hdv7.keeps (C' := Cw C w.heap.size nB) (w' := W7) (fun r o u hC h => ⟨by rcases hC with hC | hC; exact hC; exact .inr ⟨by have := HS.out.lt; have := HS.out.low; rw [Je] at *; omega, by have := HS.out.lt; rw [Je] at *; omega⟩, h⟩)
  have hS7 := HS.out.grow (W' := W7) (by first | exact hup7 | (rw [Je]; exact hup7))
  clear hup7 hdv7 HV
  generalize J2q x5 _ _ = x6 at *
  obtain ⟨vp9, vu9, vf9, rfl, r1, r2, r3⟩ := id hdv8.ex
  obtain ⟨pa9, pn9, pc9, rfl⟩ := J1F r1
  obtain ⟨ua9, un9, uc9, rfl⟩ := J1G r2
  obtain ⟨fa9, fn9, fc9, rfl⟩ := J1s r3
  clear r1 r2 r3
  have S6 := hS7.put hdv8
  obtain ⟨_, _, _, _, _, _, _, _, _, HD9, -⟩ := hS7.devS
  have d0 := HD9.cell (j := 0) rfl
  have d1 := HD9.cell (j := 1) rfl
  have d2 := HD9.cell (j := 2) rfl
  have d3 := HD9.cell (j := 3) rfl
  have d4 := HD9.cell (j := 4) rfl
  have o0 := HD9.frozen 0
  have o1 := HD9.frozen 1
  have o2 := HD9.frozen 2
  have o3 := HD9.frozen 3
  have o4 := HD9.frozen 4
  have q2 := S6.nw.cell (j := 0) rfl
  simp only [J1C] at q2
  have HS6 : Hid _ := S6
  clear hS7 HD9 hdv8 HS
  go_wp2
  clear d0 d1 d2 d3 d4 o0 o1 o2 o3 o4 q2 S6
  have S6 := HS6.out
  clear HS6
  simp only [J1C] at S6
  generalize (((((W7.setCell ⟨w.heap.size, 0, none⟩ (.slice pa9 pn9 pc9)).setCell ⟨w.heap.size, 1, none⟩ (.int .i64 x6.2.1)).setCell ⟨w.heap.size, 2, none⟩ (.slice ua9 un9 uc9)).setCell ⟨w.heap.size, 3, none⟩ (.bool x6.2.2.2.1)).setCell ⟨w.heap.size, 4, none⟩ (.slice fa9 fn9 fc9)) = W6 at S6 ⊢
  have HY : Hid (now.foldlM J1g x6 = some y) := hy0
  clear hy0
  go_loopw [82] (fun i wd => ∃ (k : Nat) (x' : DT), k ≤ now.length ∧ i = .int .i64 k ∧ St w wd C nB x' now (.slice an now.length cn) ∧ (now.take k).foldlM J1g x6 = some x') (fun i _ => now.length - (intOf i).toNat)
  case atStart => exact ⟨0, x6, Nat.zero_le _, rfl, S6, rfl⟩
  case round =>
   obtain ⟨k, x', hk, rfl, hS, hfold⟩ := hrel
   have HF : Hid ((now.take k).foldlM J1g x6 = some x') := hfold
   clear hfold
   by_cases hlt : k < now.length
   ·have hlt2 : (k : Int) < (now.length : Int) := by omega
    have hk0 : (0 : Int) ≤ (k : Int) := by omega
    have hrow : now[k]? = some now[k] := List.getElem?_eq_getElem hlt
    have hta : now.take (k + 1) = now.take k ++ [now[k]] := by simp [hlt]
    have htl : now = now.take (k + 1) ++ now.drop (k + 1) := (List.take_append_drop _ _).symm
    have hyy := HY.out
    rw [htl, List.foldlM_append] at hyy
    obtain ⟨x9, hx9, -⟩ := Option.bind_eq_some_iff.1 hyy
    have hx8 := hx9
    rw [hta, List.foldlM_append] at hx8
    rw [show List.foldlM J1g x6 (now.take k) = some x' from HF.out] at hx8
    have hx7 : J1g x' now[k] = some x9 := by simpa using hx8
    obtain ⟨hok, hx9e⟩ := J7K hx7
    subst hx9e
    have HX : Hid ((now.take (k + 1)).foldlM J1g x6 = some (J14 x' now[k])) := hx9
    clear hx8 hx9 hx7 hyy hta htl
    obtain ⟨a', c', e', -, hfl'⟩ := J5J hS.rel
    have hne' : ¬ now = [] := by intro h0; rw [h0] at hlt; exact absurd hlt (Nat.not_lt_zero _)
    obtain ⟨b, o, rfl, hbl, hcell⟩ := hfl'.resolve_left hne'
    injection e' with e' _ e2'
    subst e2'
    subst e'
    have HOK : Hid (HOk x' now[k]) := hok
    generalize now[k] = f at *
    obtain ⟨g0, g1, g2, g3, g4, g5⟩ := f
    have cell : ∀ j v, (J1d (g0, g1, g2, g3, g4, g5))[j]? = some v → wr.cell? ⟨b, o + (k * 6 + j), none⟩ = some v := fun j v hj => hcell _ _ (J6P now k j _ v hrow hj)
    have b0 : wr.cell? ⟨b, o + k * 6, none⟩ = some (.int .i64 g0) := cell 0 _ rfl
    have b1 : wr.cell? ⟨b, o + k * 6 + 1, none⟩ = some (.int .i64 g1) := cell 1 _ rfl
    have b2 : wr.cell? ⟨b, o + k * 6 + 2, none⟩ = some (.int .i64 g2) := cell 2 _ rfl
    have b3 : wr.cell? ⟨b, o + k * 6 + 3, none⟩ = some (.int .i64 g3) := cell 3 _ rfl
    have b4 : wr.cell? ⟨b, o + k * 6 + 4, none⟩ = some (.int .i64 g4) := cell 4 _ rfl
    have b5 : wr.cell? ⟨b, o + k * 6 + 5, none⟩ = some (.int .u8 g5) := cell 5 _ rfl
    replace hS := hS.alloc (.cells #[.int .i64 g0, .int .i64 g1, .int .i64 g2, .int .i64 g3, .int .i64 g4, .int .u8 g5] 37)
    obtain ⟨pa', ua', fa', pn', pc', un', uc', fn', fc', HD, hdv⟩ := hS.devS
    have HS : Hid (St w (wr.alloc (.cells #[.int .i64 g0, .int .i64 g1, .int .i64 g2, .int .i64 g3, .int .i64 g4, .int .u8 g5] 37)) C nB x' now (.slice (some ⟨b, o, none⟩) now.length cn)) := hS
    have HV : Hid (J1v (wr.alloc (.cells #[.int .i64 g0, .int .i64 g1, .int .i64 g2, .int .i64 g3, .int .i64 g4, .int .u8 g5] 37)) (Cw C w.heap.size nB) x' (J16 (.slice pa' pn' pc') x'.2.1 (.slice ua' un' uc') x'.2.2.2.1 (.slice fa' fn' fc'))) := hdv
    have d0 := HD.cell (j := 0) rfl
    have d1 := HD.cell (j := 1) rfl
    have d2 := HD.cell (j := 2) rfl
    have d3 := HD.cell (j := 3) rfl
    have d4 := HD.cell (j := 4) rfl
    clear cell hcell hok hS hfl' hrow HD hdv
    go_wp2_with (go_at_call 46; refine (Try.harm_D (Cw C w.heap.size nB) x' (g0, g1, g2, g3, g4, g5) _ _ HV.out HOK.out).mono ?_)
    clear d0 d1 d2 d3 d4 b0 b1 b2 b3 b4 b5
    rintro e W7 v7 rfl hup7 hdv7
    have hdv8 := hdv7.keeps (C' := Cw C w.heap.size nB) (w' := W7) (fun r o u hC h => ⟨by rcases hC with hC | hC; exact hC; exact .inr ⟨by have := HS.out.lt; have := HS.out.low; rw [Je] at *; omega, by have := HS.out.lt; rw [Je] at *; omega⟩, h⟩)
    have hS7 := HS.out.grow (W' := W7) (by first | exact hup7 | (rw [Je]; exact hup7))
    clear hup7 hdv7
    obtain ⟨vp9, vu9, vf9, rfl, r1, r2, r3⟩ := id hdv8.ex
    obtain ⟨pa9, pn9, pc9, rfl⟩ := J1F r1
    obtain ⟨ua9, un9, uc9, rfl⟩ := J1G r2
    obtain ⟨fa9, fn9, fc9, rfl⟩ := J1s r3
    clear r1 r2 r3
    have hS9 := hS7.put hdv8
    obtain ⟨_, _, _, _, _, _, _, _, _, HD9, -⟩ := hS7.devS
    have d0 := HD9.cell (j := 0) rfl
    have d1 := HD9.cell (j := 1) rfl
    have d2 := HD9.cell (j := 2) rfl
    have d3 := HD9.cell (j := 3) rfl
    have d4 := HD9.cell (j := 4) rfl
    have o0 := HD9.frozen 0
    have o1 := HD9.frozen 1
    have o2 := HD9.frozen 2
    have o3 := HD9.frozen 3
    have o4 := HD9.frozen 4
    have HS9 : Hid (St w (J1C W7 w.heap.size (.slice pa9 pn9 pc9) (.int .i64 (J14 x' (g0, g1, g2, g3, g4, g5)).2.1) (.slice ua9 un9 uc9) (.bool (J14 x' (g0, g1, g2, g3, g4, g5)).2.2.2.1) (.slice fa9 fn9 fc9)) C nB (J14 x' (g0, g1, g2, g3, g4, g5)) now (.slice (some ⟨b, o, none⟩) now.length cn)) := hS9
    clear hS7 HD9 hS9 hdv8
    generalize J14 x' (g0, g1, g2, g3, g4, g5) = x9 at *
    go_wp2
    go_roundw
    case rel => exact ⟨k + 1, x9, hlt, by go_num, HS9.out, HX.out⟩
    case measure => simp [intOf]; omega
   ·have hk2 : k = now.length := by omega
    subst hk2
    have hxy : x' = y := by
     have h1 := HF.out
     rw [List.take_length, HY.out] at h1
     injection h1 with h1
     exact h1.symm
    subst hxy
    obtain ⟨pa', ua', fa', pn', pc', un', uc', fn', fc', HD, hdv⟩ := hS.devS
    have HV : Hid (J1v wr (Cw C w.heap.size nB) x' (J16 (.slice pa' pn' pc') x'.2.1 (.slice ua' un' uc') x'.2.2.2.1 (.slice fa' fn' fc'))) := hdv
    have d0 := HD.cell (j := 0) rfl
    have d1 := HD.cell (j := 1) rfl
    have d2 := HD.cell (j := 2) rfl
    have d3 := HD.cell (j := 3) rfl
    have d4 := HD.cell (j := 4) rfl
    have n0 := hS.res.cell (j := 0) rfl
    have n1 := hS.res.cell (j := 1) rfl
    have n2 := hS.res.cell (j := 2) rfl
    have n3 := hS.res.cell (j := 3) rfl
    have n4 := hS.res.cell (j := 4) rfl
    have o0 := hS.res.frozen 0
    have o1 := hS.res.frozen 1
    have o2 := hS.res.frozen 2
    have o3 := hS.res.frozen 3
    have o4 := hS.res.frozen 4
    have HS : Hid (St w wr C nB x' now (.slice an now.length cn)) := hS
    clear hS HD hdv
    go_wp2
    have hR := J2M HS.out.res (.slice pa' pn' pc') (.int .i64 x'.2.1) (.slice ua' un' uc') (.bool x'.2.2.2.1) (.slice fa' fn' fc')
    have hU := J9x HS.out.up (Nat.le_add_right w.heap.size 1) (.slice pa' pn' pc') (.int .i64 x'.2.1) (.slice ua' un' uc') (.bool x'.2.2.2.1) (.slice fa' fn' fc')
    have hV := HV.out.keeps (C' := fun r o => C r o ∨ w.heap.size ≤ r) (fun r o u hC h => ⟨by rcases hC with hC | hC; exact .inl hC.1; exact .inr (by omega), (J85 (b := w.heap.size + 1) (.inr rfl) (v0 := .slice pa' pn' pc') (v1 := .int .i64 x'.2.1) (v2 := .slice ua' un' uc') (v3 := .bool x'.2.2.2.1) (v4 := .slice fa' fn' fc') r o u hC h).2⟩)
    have r0 := hR.cell (j := 0) rfl
    have r1 := hR.cell (j := 1) rfl
    have r2 := hR.cell (j := 2) rfl
    have r3 := hR.cell (j := 3) rfl
    have r4 := hR.cell (j := 4) rfl
    clear hR
    simp only [J1C] at r0 r1 r2 r3 r4 hU hV
    clear d0 d1 d2 d3 d4 n0 n1 n2 n3 n4 o0 o1 o2 o3 o4
    generalize (((((wr.setCell { block := w.heap.size + 1, off := 0 } (Value.slice pa' pn' pc')).setCell { block := w.heap.size + 1, off := 1 } (Value.int IntKind.i64 x'.snd.fst)).setCell { block := w.heap.size + 1, off := 2 } (Value.slice ua' un' uc')).setCell { block := w.heap.size + 1, off := 3 } (Value.bool x'.snd.snd.snd.fst)).setCell { block := w.heap.size + 1, off := 4 } (Value.slice fa' fn' fc')) = Wf at r0 r1 r2 r3 r4 hU hV ⊢
    refine bodyPost_ret (v := .tuple #[J16 (.slice pa' pn' pc') x'.2.1 (.slice ua' un' uc') x'.2.2.2.1 (.slice fa' fn' fc'), .int .i64 0]) ?_ rfl ⟨_, rfl, hU, hV⟩
    simp [results, Try.results19, go_sem, r0, r1, r2, r3, r4]
 ·rw [h]
  rw [hK] at hx6
  have hx7 : JhV x5 p b s = some x6 := hx6
  unfold JhV at hx7
  split at hx7
  case isFalse => cases hx7
  rename_i hg
  obtain ⟨hb0, hb1, hp0, hp1, hb2, hl2⟩ := hg
  obtain ⟨⟨ht, hp, hz, hu⟩, rfl⟩ := J8Z hx7
  obtain ⟨n, rfl⟩ := Int.eq_ofNat_of_zero_le ht
  obtain ⟨m, rfl⟩ := Int.eq_ofNat_of_zero_le hb0
  simp only [Int.toNat_natCast] at hp hy0 hb1 hp1 hb2 hl2
  clear h hK hy hx6 hx5 hx7
  have S5a := S5.alloc (.cells #[.int .i64 m] 75)
  obtain ⟨pa', ua', fa', pn', pc', un', uc', fn', fc', HD, hdv⟩ := S5a.devS
  have HV : Hid _ := hdv
  have HS : Hid _ := S5a
  have d0 := HD.cell (j := 0) rfl
  have d1 := HD.cell (j := 1) rfl
  have d2 := HD.cell (j := 2) rfl
  have d3 := HD.cell (j := 3) rfl
  have d4 := HD.cell (j := 4) rfl
  obtain ⟨zb, zo, rfl, hpn, hpc⟩ : ∃ zb zo, pa' = some ⟨zb, zo, none⟩ ∧ pn' = x5.1.length ∧ (W5.alloc (.cells #[.int .i64 m] 75)).cell? ⟨zb, zo + n, none⟩ = some (.string ⟨(x5.1.getD n []).toArray⟩) := by
   obtain ⟨vp2, vu2, vf2, he, r1, r2, r3⟩ := hdv.ex
   simp only [J16, Value.agg.injEq, Array.mk.injEq, List.cons.injEq] at he
   obtain ⟨rfl, -⟩ := he
   obtain ⟨a, c, e1, e2, e3⟩ := Jfi r1
   injection e1 with e4 e5 e6
   simp only [List.length_map] at e5
   rcases e3 with e3 | ⟨zb, zo, e7, e8, e9⟩
   ·simp at e3; rw [e3] at hp; exact absurd hp (Nat.not_lt_zero _)
   ·refine ⟨zb, zo, e4.trans e7, e5, e9 n _ ?_⟩
    simp [hp]
  subst hpn
  have ta := Try.ta75_70 (.agg #[.int .i64 m])
  have tb := Try.ta75_72 (.agg #[.int .i64 m])
  have tc := Try.ta75_75 (.agg #[.int .i64 m])
  have HZ : Hid (m ≤ (x5.1.getD n []).length) := hb2
  have hzs : (⟨(x5.1.getD n []).toArray⟩ : ByteArray).size = (x5.1.getD n []).length := rfl
  generalize hzz : (⟨(x5.1.getD n []).toArray⟩ : ByteArray) = zz at hpc hzs
  rw [← hzs] at hb2 hl2
  rw [hs] at hb1
  have HZS : Hid (zz = ⟨(x5.1.getD n []).toArray⟩) := hzz.symm
  clear hzs hzz
  clear S5a S5 HD hdv
  go_wp2
  have hb1i : (m : Int) ≤ 256 := by omega
  have hb2i : (m : Int) ≤ (zz.size : Int) := by omega
  refine wp_region_still_tail 15 (by kernel_rfl) (by kernel_rfl) ?_
  simp only [List.take_succ_cons, List.take_zero, List.drop_succ_cons, List.drop_zero]
  have hcell : ∀ a, (W5.alloc (.cells #[.int .i64 m] 75)).drew.cell? a = (W5.alloc (.cells #[.int .i64 m] 75)).cell? a := fun _ => rfl
  have c11 : (W5.alloc (.cells #[.int .i64 m] 75)).cell? ⟨W5.heap.size, 0, none⟩ = some (.int .i64 m) := (J3z W5 #[.int .i64 m] 75).cell rfl
  have HU : Hid (Up W5.heap.size W5 (W5.alloc (.cells #[.int .i64 m] 75)).drew) := ((Up.refl _ W5).alloc (Nat.le_refl _) _).drew
  have HS2 : Hid (St w (W5.alloc (.cells #[.int .i64 m] 75)).drew C nB x5 now (.slice an now.length cn)) := HS.out.grow ((Up.refl _ _).drew)
  have HV2 : Hid (J1v (W5.alloc (.cells #[.int .i64 m] 75)).drew (Cw C w.heap.size nB) x5 (J16 (.slice (some ⟨zb, zo, none⟩) x5.1.length pc') x5.2.1 (.slice ua' un' uc') x5.2.2.2.1 (.slice fa' fn' fc'))) := HV.out.up ((Up.refl _ _).drew) (fun _ _ h _ => h)
  rw [← hcell] at d0 d1 d2 d3 d4 hpc c11
  clear hcell HS HV HU
  change wpStill _ _ (W5.alloc (.cells #[.int .i64 m] 75)).drew (fun a' => wpList _ _ _ _ a' (W5.alloc (.cells #[.int .i64 m] 75)).drew) _ _
  generalize (W5.alloc (.cells #[.int .i64 m] 75)).drew = Wd at *
  repeat still_step
  refine wpStill_nil ?_
  have hstr : Hid ((⟨(s.take m ++ (x5.1.getD n []).drop m).toArray⟩ : ByteArray) = sb.extract 0 m ++ zz.extract m 256) := by
   have h1 := HZS.out
   have h2 := hsg
   have h3 := HZ.out
   subst h1; subst h2
   exact JpO s _ m 256 hl2
  clear HZS HZ hb1i hb2i hl2 hb2 hpc c11
  go_wp2_with (go_at_call 45; refine (Try.set_Db (Cw C w.heap.size nB) x5 n (s.take m ++ (x5.1.getD n []).drop m) hstr.out _ _ HV2.out hp hz hu).mono ?_)
  clear hstr
  clear d0 d1 d2 d3 d4
  rintro e W7 ⟨v7, rfl, hup7, hdv7⟩
  have hdv8 := hdv7.keeps (C' := Cw C w.heap.size nB) (w' := W7) (fun r o u hC h => ⟨by rcases hC with hC | hC; exact hC; exact .inr ⟨by have := HS2.out.lt; have := HS2.out.low; omega, by have := HS2.out.lt; omega⟩, h⟩)
  have hS7 := HS2.out.grow (W' := W7) (by exact hup7)
  clear hup7 hdv7 HV2
  generalize J2q x5 _ _ = x6 at *
  obtain ⟨vp9, vu9, vf9, rfl, r1, r2, r3⟩ := id hdv8.ex
  obtain ⟨pa9, pn9, pc9, rfl⟩ := J1F r1
  obtain ⟨ua9, un9, uc9, rfl⟩ := J1G r2
  obtain ⟨fa9, fn9, fc9, rfl⟩ := J1s r3
  clear r1 r2 r3
  have S6 := hS7.put hdv8
  obtain ⟨_, _, _, _, _, _, _, _, _, HD9, -⟩ := hS7.devS
  have d0 := HD9.cell (j := 0) rfl
  have d1 := HD9.cell (j := 1) rfl
  have d2 := HD9.cell (j := 2) rfl
  have d3 := HD9.cell (j := 3) rfl
  have d4 := HD9.cell (j := 4) rfl
  have o0 := HD9.frozen 0
  have o1 := HD9.frozen 1
  have o2 := HD9.frozen 2
  have o3 := HD9.frozen 3
  have o4 := HD9.frozen 4
  have q2 := S6.nw.cell (j := 0) rfl
  simp only [J1C] at q2
  have HS6 : Hid _ := S6
  clear hS7 HD9 hdv8 HS2
  go_wp2
  clear d0 d1 d2 d3 d4 o0 o1 o2 o3 o4 q2 S6
  have S6 := HS6.out
  clear HS6
  simp only [J1C] at S6
  generalize (((((W7.setCell ⟨w.heap.size, 0, none⟩ (.slice pa9 pn9 pc9)).setCell ⟨w.heap.size, 1, none⟩ (.int .i64 x6.2.1)).setCell ⟨w.heap.size, 2, none⟩ (.slice ua9 un9 uc9)).setCell ⟨w.heap.size, 3, none⟩ (.bool x6.2.2.2.1)).setCell ⟨w.heap.size, 4, none⟩ (.slice fa9 fn9 fc9)) = W6 at S6 ⊢
  have HY : Hid (now.foldlM J1g x6 = some y) := hy0
  clear hy0
  go_loopw [82] (fun i wd => ∃ (k : Nat) (x' : DT), k ≤ now.length ∧ i = .int .i64 k ∧ St w wd C nB x' now (.slice an now.length cn) ∧ (now.take k).foldlM J1g x6 = some x') (fun i _ => now.length - (intOf i).toNat)
  case atStart => exact ⟨0, x6, Nat.zero_le _, rfl, S6, rfl⟩
  case round =>
   obtain ⟨k, x', hk, rfl, hS, hfold⟩ := hrel
   have HF : Hid ((now.take k).foldlM J1g x6 = some x') := hfold
   clear hfold
   by_cases hlt : k < now.length
   ·have hlt2 : (k : Int) < (now.length : Int) := by omega
    have hk0 : (0 : Int) ≤ (k : Int) := by omega
    have hrow : now[k]? = some now[k] := List.getElem?_eq_getElem hlt
    have hta : now.take (k + 1) = now.take k ++ [now[k]] := by simp [hlt]
    have htl : now = now.take (k + 1) ++ now.drop (k + 1) := (List.take_append_drop _ _).symm
    have hyy := HY.out
    rw [htl, List.foldlM_append] at hyy
    obtain ⟨x9, hx9, -⟩ := Option.bind_eq_some_iff.1 hyy
    have hx8 := hx9
    rw [hta, List.foldlM_append] at hx8
    rw [show List.foldlM J1g x6 (now.take k) = some x' from HF.out] at hx8
    have hx7 : J1g x' now[k] = some x9 := by simpa using hx8
    obtain ⟨hok, hx9e⟩ := J7K hx7
    subst hx9e
    have HX : Hid ((now.take (k + 1)).foldlM J1g x6 = some (J14 x' now[k])) := hx9
    clear hx8 hx9 hx7 hyy hta htl
    obtain ⟨a', c', e', -, hfl'⟩ := J5J hS.rel
    have hne' : ¬ now = [] := by intro h0; rw [h0] at hlt; exact absurd hlt (Nat.not_lt_zero _)
    obtain ⟨b, o, rfl, hbl, hcell⟩ := hfl'.resolve_left hne'
    injection e' with e' _ e2'
    subst e2'
    subst e'
    have HOK : Hid (HOk x' now[k]) := hok
    generalize now[k] = f at *
    obtain ⟨g0, g1, g2, g3, g4, g5⟩ := f
    have cell : ∀ j v, (J1d (g0, g1, g2, g3, g4, g5))[j]? = some v → wr.cell? ⟨b, o + (k * 6 + j), none⟩ = some v := fun j v hj => hcell _ _ (J6P now k j _ v hrow hj)
    have b0 : wr.cell? ⟨b, o + k * 6, none⟩ = some (.int .i64 g0) := cell 0 _ rfl
    have b1 : wr.cell? ⟨b, o + k * 6 + 1, none⟩ = some (.int .i64 g1) := cell 1 _ rfl
    have b2 : wr.cell? ⟨b, o + k * 6 + 2, none⟩ = some (.int .i64 g2) := cell 2 _ rfl
    have b3 : wr.cell? ⟨b, o + k * 6 + 3, none⟩ = some (.int .i64 g3) := cell 3 _ rfl
    have b4 : wr.cell? ⟨b, o + k * 6 + 4, none⟩ = some (.int .i64 g4) := cell 4 _ rfl
    have b5 : wr.cell? ⟨b, o + k * 6 + 5, none⟩ = some (.int .u8 g5) := cell 5 _ rfl
    replace hS := hS.alloc (.cells #[.int .i64 g0, .int .i64 g1, .int .i64 g2, .int .i64 g3, .int .i64 g4, .int .u8 g5] 37)
    obtain ⟨pa', ua', fa', pn', pc', un', uc', fn', fc', HD, hdv⟩ := hS.devS
    have HS : Hid (St w (wr.alloc (.cells #[.int .i64 g0, .int .i64 g1, .int .i64 g2, .int .i64 g3, .int .i64 g4, .int .u8 g5] 37)) C nB x' now (.slice (some ⟨b, o, none⟩) now.length cn)) := hS
    have HV : Hid (J1v (wr.alloc (.cells #[.int .i64 g0, .int .i64 g1, .int .i64 g2, .int .i64 g3, .int .i64 g4, .int .u8 g5] 37)) (Cw C w.heap.size nB) x' (J16 (.slice pa' pn' pc') x'.2.1 (.slice ua' un' uc') x'.2.2.2.1 (.slice fa' fn' fc'))) := hdv
    have d0 := HD.cell (j := 0) rfl
    have d1 := HD.cell (j := 1) rfl
    have d2 := HD.cell (j := 2) rfl
    have d3 := HD.cell (j := 3) rfl
    have d4 := HD.cell (j := 4) rfl
    clear cell hcell hok hS hfl' hrow HD hdv
    go_wp2_with (go_at_call 46; refine (Try.harm_D (Cw C w.heap.size nB) x' (g0, g1, g2, g3, g4, g5) _ _ HV.out HOK.out).mono ?_)
    clear d0 d1 d2 d3 d4 b0 b1 b2 b3 b4 b5
    rintro e W7 v7 rfl hup7 hdv7
    have hdv8 := hdv7.keeps (C' := Cw C w.heap.size nB) (w' := W7) (fun r o u hC h => ⟨by rcases hC with hC | hC; exact hC; exact .inr ⟨by have := HS.out.lt; have := HS.out.low; rw [Je] at *; omega, by have := HS.out.lt; rw [Je] at *; omega⟩, h⟩)
    have hS7 := HS.out.grow (W' := W7) (by first | exact hup7 | (rw [Je]; exact hup7))
    clear hup7 hdv7
    obtain ⟨vp9, vu9, vf9, rfl, r1, r2, r3⟩ := id hdv8.ex
    obtain ⟨pa9, pn9, pc9, rfl⟩ := J1F r1
    obtain ⟨ua9, un9, uc9, rfl⟩ := J1G r2
    obtain ⟨fa9, fn9, fc9, rfl⟩ := J1s r3
    clear r1 r2 r3
    have hS9 := hS7.put hdv8
    obtain ⟨_, _, _, _, _, _, _, _, _, HD9, -⟩ := hS7.devS
    have d0 := HD9.cell (j := 0) rfl
    have d1 := HD9.cell (j := 1) rfl
    have d2 := HD9.cell (j := 2) rfl
    have d3 := HD9.cell (j := 3) rfl
    have d4 := HD9.cell (j := 4) rfl
    have o0 := HD9.frozen 0
    have o1 := HD9.frozen 1
    have o2 := HD9.frozen 2
    have o3 := HD9.frozen 3
    have o4 := HD9.frozen 4
    have HS9 : Hid (St w (J1C W7 w.heap.size (.slice pa9 pn9 pc9) (.int .i64 (J14 x' (g0, g1, g2, g3, g4, g5)).2.1) (.slice ua9 un9 uc9) (.bool (J14 x' (g0, g1, g2, g3, g4, g5)).2.2.2.1) (.slice fa9 fn9 fc9)) C nB (J14 x' (g0, g1, g2, g3, g4, g5)) now (.slice (some ⟨b, o, none⟩) now.length cn)) := hS9
    clear hS7 HD9 hS9 hdv8
    generalize J14 x' (g0, g1, g2, g3, g4, g5) = x9 at *
    go_wp2
    go_roundw
    case rel => exact ⟨k + 1, x9, hlt, by go_num, HS9.out, HX.out⟩
    case measure => simp [intOf]; omega
   ·have hk2 : k = now.length := by omega
    subst hk2
    have hxy : x' = y := by
     have h1 := HF.out
     rw [List.take_length, HY.out] at h1
     injection h1 with h1
     exact h1.symm
    subst hxy
    obtain ⟨pa', ua', fa', pn', pc', un', uc', fn', fc', HD, hdv⟩ := hS.devS
    have HV : Hid (J1v wr (Cw C w.heap.size nB) x' (J16 (.slice pa' pn' pc') x'.2.1 (.slice ua' un' uc') x'.2.2.2.1 (.slice fa' fn' fc'))) := hdv
    have d0 := HD.cell (j := 0) rfl
    have d1 := HD.cell (j := 1) rfl
    have d2 := HD.cell (j := 2) rfl
    have d3 := HD.cell (j := 3) rfl
    have d4 := HD.cell (j := 4) rfl
    have n0 := hS.res.cell (j := 0) rfl
    have n1 := hS.res.cell (j := 1) rfl
    have n2 := hS.res.cell (j := 2) rfl
    have n3 := hS.res.cell (j := 3) rfl
    have n4 := hS.res.cell (j := 4) rfl
    have o0 := hS.res.frozen 0
    have o1 := hS.res.frozen 1
    have o2 := hS.res.frozen 2
    have o3 := hS.res.frozen 3
    have o4 := hS.res.frozen 4
    have HS : Hid (St w wr C nB x' now (.slice an now.length cn)) := hS
    clear hS HD hdv
    go_wp2
    have hR := J2M HS.out.res (.slice pa' pn' pc') (.int .i64 x'.2.1) (.slice ua' un' uc') (.bool x'.2.2.2.1) (.slice fa' fn' fc')
    have hU := J9x HS.out.up (Nat.le_add_right w.heap.size 1) (.slice pa' pn' pc') (.int .i64 x'.2.1) (.slice ua' un' uc') (.bool x'.2.2.2.1) (.slice fa' fn' fc')
    have hV := HV.out.keeps (C' := fun r o => C r o ∨ w.heap.size ≤ r) (fun r o u hC h => ⟨by rcases hC with hC | hC; exact .inl hC.1; exact .inr (by omega), (J85 (b := w.heap.size + 1) (.inr rfl) (v0 := .slice pa' pn' pc') (v1 := .int .i64 x'.2.1) (v2 := .slice ua' un' uc') (v3 := .bool x'.2.2.2.1) (v4 := .slice fa' fn' fc') r o u hC h).2⟩)
    have r0 := hR.cell (j := 0) rfl
    have r1 := hR.cell (j := 1) rfl
    have r2 := hR.cell (j := 2) rfl
    have r3 := hR.cell (j := 3) rfl
    have r4 := hR.cell (j := 4) rfl
    clear hR
    simp only [J1C] at r0 r1 r2 r3 r4 hU hV
    clear d0 d1 d2 d3 d4 n0 n1 n2 n3 n4 o0 o1 o2 o3 o4
    generalize (((((wr.setCell { block := w.heap.size + 1, off := 0 } (Value.slice pa' pn' pc')).setCell { block := w.heap.size + 1, off := 1 } (Value.int IntKind.i64 x'.snd.fst)).setCell { block := w.heap.size + 1, off := 2 } (Value.slice ua' un' uc')).setCell { block := w.heap.size + 1, off := 3 } (Value.bool x'.snd.snd.snd.fst)).setCell { block := w.heap.size + 1, off := 4 } (Value.slice fa' fn' fc')) = Wf at r0 r1 r2 r3 r4 hU hV ⊢
    refine bodyPost_ret (v := .tuple #[J16 (.slice pa' pn' pc') x'.2.1 (.slice ua' un' uc') x'.2.2.2.1 (.slice fa' fn' fc'), .int .i64 0]) ?_ rfl ⟨_, rfl, hU, hV⟩
    simp [results, Try.results19, go_sem, r0, r1, r2, r3, r4]
 ·rw [h]
  rw [hK] at hx6
  obtain ⟨⟨ht, hp, hz, hu⟩, rfl⟩ := J8Z (show J7r x5 p s = some x6 from hx6)
  obtain ⟨n, rfl⟩ := Int.eq_ofNat_of_zero_le ht
  rw [Int.toNat_natCast] at hp hy0
  clear h hK hy hx6 hx5
  obtain ⟨pa', ua', fa', pn', pc', un', uc', fn', fc', HD, hdv⟩ := S5.devS
  have HV : Hid _ := hdv
  have HS : Hid _ := S5
  have d0 := HD.cell (j := 0) rfl
  have d1 := HD.cell (j := 1) rfl
  have d2 := HD.cell (j := 2) rfl
  have d3 := HD.cell (j := 3) rfl
  have d4 := HD.cell (j := 4) rfl
  have ta := Try.ta89_70 (.agg #[])
  have tb := Try.ta89_72 (.agg #[])
  have tc := Try.ta89_75 (.agg #[])
  clear S5 HD hdv
  go_wp2_with (go_at_call 45; refine (Try.set_Db (Cw C w.heap.size nB) x5 n s hsg _ _ HV.out hp hz hu).mono ?_)
  clear ta tb tc
  clear d0 d1 d2 d3 d4
  rintro e W7 ⟨v7, rfl, hup7, hdv7⟩
  have hdv8 := hdv7.keeps (C' := Cw C w.heap.size nB) (w' := W7) (fun r o u hC h => ⟨by rcases hC with hC | hC; exact hC; exact .inr ⟨by have := HS.out.lt; have := HS.out.low; omega, by have := HS.out.lt; omega⟩, h⟩)
  have hS7 := HS.out.grow (W' := W7) (by exact hup7)
  clear hup7 hdv7 HV
  generalize J2q x5 _ _ = x6 at *
  obtain ⟨vp9, vu9, vf9, rfl, r1, r2, r3⟩ := id hdv8.ex
  obtain ⟨pa9, pn9, pc9, rfl⟩ := J1F r1
  obtain ⟨ua9, un9, uc9, rfl⟩ := J1G r2
  obtain ⟨fa9, fn9, fc9, rfl⟩ := J1s r3
  clear r1 r2 r3
  have S6 := hS7.put hdv8
  obtain ⟨_, _, _, _, _, _, _, _, _, HD9, -⟩ := hS7.devS
  have d0 := HD9.cell (j := 0) rfl
  have d1 := HD9.cell (j := 1) rfl
  have d2 := HD9.cell (j := 2) rfl
  have d3 := HD9.cell (j := 3) rfl
  have d4 := HD9.cell (j := 4) rfl
  have o0 := HD9.frozen 0
  have o1 := HD9.frozen 1
  have o2 := HD9.frozen 2
  have o3 := HD9.frozen 3
  have o4 := HD9.frozen 4
  have q2 := S6.nw.cell (j := 0) rfl
  simp only [J1C] at q2
  have HS6 : Hid _ := S6
  clear hS7 HD9 hdv8 HS
  go_wp2
  clear d0 d1 d2 d3 d4 o0 o1 o2 o3 o4 q2 S6
  have S6 := HS6.out
  clear HS6
  simp only [J1C] at S6
  generalize (((((W7.setCell ⟨w.heap.size, 0, none⟩ (.slice pa9 pn9 pc9)).setCell ⟨w.heap.size, 1, none⟩ (.int .i64 x6.2.1)).setCell ⟨w.heap.size, 2, none⟩ (.slice ua9 un9 uc9)).setCell ⟨w.heap.size, 3, none⟩ (.bool x6.2.2.2.1)).setCell ⟨w.heap.size, 4, none⟩ (.slice fa9 fn9 fc9)) = W6 at S6 ⊢
  have HY : Hid (now.foldlM J1g x6 = some y) := hy0
  clear hy0
  go_loopw [82] (fun i wd => ∃ (k : Nat) (x' : DT), k ≤ now.length ∧ i = .int .i64 k ∧ St w wd C nB x' now (.slice an now.length cn) ∧ (now.take k).foldlM J1g x6 = some x') (fun i _ => now.length - (intOf i).toNat)
  case atStart => exact ⟨0, x6, Nat.zero_le _, rfl, S6, rfl⟩
  case round =>
   obtain ⟨k, x', hk, rfl, hS, hfold⟩ := hrel
   have HF : Hid ((now.take k).foldlM J1g x6 = some x') := hfold
   clear hfold
   by_cases hlt : k < now.length
   ·have hlt2 : (k : Int) < (now.length : Int) := by omega
    have hk0 : (0 : Int) ≤ (k : Int) := by omega
    have hrow : now[k]? = some now[k] := List.getElem?_eq_getElem hlt
    have hta : now.take (k + 1) = now.take k ++ [now[k]] := by simp [hlt]
    have htl : now = now.take (k + 1) ++ now.drop (k + 1) := (List.take_append_drop _ _).symm
    have hyy := HY.out
    rw [htl, List.foldlM_append] at hyy
    obtain ⟨x9, hx9, -⟩ := Option.bind_eq_some_iff.1 hyy
    have hx8 := hx9
    rw [hta, List.foldlM_append] at hx8
    rw [show List.foldlM J1g x6 (now.take k) = some x' from HF.out] at hx8
    have hx7 : J1g x' now[k] = some x9 := by simpa using hx8
    obtain ⟨hok, hx9e⟩ := J7K hx7
    subst hx9e
    have HX : Hid ((now.take (k + 1)).foldlM J1g x6 = some (J14 x' now[k])) := hx9
    clear hx8 hx9 hx7 hyy hta htl
    obtain ⟨a', c', e', -, hfl'⟩ := J5J hS.rel
    have hne' : ¬ now = [] := by intro h0; rw [h0] at hlt; exact absurd hlt (Nat.not_lt_zero _)
    obtain ⟨b, o, rfl, hbl, hcell⟩ := hfl'.resolve_left hne'
    injection e' with e' _ e2'
    subst e2'
    subst e'
    have HOK : Hid (HOk x' now[k]) := hok
    generalize now[k] = f at *
    obtain ⟨g0, g1, g2, g3, g4, g5⟩ := f
    have cell : ∀ j v, (J1d (g0, g1, g2, g3, g4, g5))[j]? = some v → wr.cell? ⟨b, o + (k * 6 + j), none⟩ = some v := fun j v hj => hcell _ _ (J6P now k j _ v hrow hj)
    have b0 : wr.cell? ⟨b, o + k * 6, none⟩ = some (.int .i64 g0) := cell 0 _ rfl
    have b1 : wr.cell? ⟨b, o + k * 6 + 1, none⟩ = some (.int .i64 g1) := cell 1 _ rfl
    have b2 : wr.cell? ⟨b, o + k * 6 + 2, none⟩ = some (.int .i64 g2) := cell 2 _ rfl
    have b3 : wr.cell? ⟨b, o + k * 6 + 3, none⟩ = some (.int .i64 g3) := cell 3 _ rfl
    have b4 : wr.cell? ⟨b, o + k * 6 + 4, none⟩ = some (.int .i64 g4) := cell 4 _ rfl
    have b5 : wr.cell? ⟨b, o + k * 6 + 5, none⟩ = some (.int .u8 g5) := cell 5 _ rfl
    replace hS := hS.alloc (.cells #[.int .i64 g0, .int .i64 g1, .int .i64 g2, .int .i64 g3, .int .i64 g4, .int .u8 g5] 37)
    obtain ⟨pa', ua', fa', pn', pc', un', uc', fn', fc', HD, hdv⟩ := hS.devS
    have HS : Hid (St w (wr.alloc (.cells #[.int .i64 g0, .int .i64 g1, .int .i64 g2, .int .i64 g3, .int .i64 g4, .int .u8 g5] 37)) C nB x' now (.slice (some ⟨b, o, none⟩) now.length cn)) := hS
    have HV : Hid (J1v (wr.alloc (.cells #[.int .i64 g0, .int .i64 g1, .int .i64 g2, .int .i64 g3, .int .i64 g4, .int .u8 g5] 37)) (Cw C w.heap.size nB) x' (J16 (.slice pa' pn' pc') x'.2.1 (.slice ua' un' uc') x'.2.2.2.1 (.slice fa' fn' fc'))) := hdv
    have d0 := HD.cell (j := 0) rfl
    have d1 := HD.cell (j := 1) rfl
    have d2 := HD.cell (j := 2) rfl
    have d3 := HD.cell (j := 3) rfl
    have d4 := HD.cell (j := 4) rfl
    clear cell hcell hok hS hfl' hrow HD hdv
    go_wp2_with (go_at_call 46; refine (Try.harm_D (Cw C w.heap.size nB) x' (g0, g1, g2, g3, g4, g5) _ _ HV.out HOK.out).mono ?_)
    clear d0 d1 d2 d3 d4 b0 b1 b2 b3 b4 b5
    rintro e W7 v7 rfl hup7 hdv7
    have hdv8 := hdv7.keeps (C' := Cw C w.heap.size nB) (w' := W7) (fun r o u hC h => ⟨by rcases hC with hC | hC; exact hC; exact .inr ⟨by have := HS.out.lt; have := HS.out.low; rw [Je] at *; omega, by have := HS.out.lt; rw [Je] at *; omega⟩, h⟩)
    have hS7 := HS.out.grow (W' := W7) (by first | exact hup7 | (rw [Je]; exact hup7))
    clear hup7 hdv7
    obtain ⟨vp9, vu9, vf9, rfl, r1, r2, r3⟩ := id hdv8.ex
    obtain ⟨pa9, pn9, pc9, rfl⟩ := J1F r1
    obtain ⟨ua9, un9, uc9, rfl⟩ := J1G r2
    obtain ⟨fa9, fn9, fc9, rfl⟩ := J1s r3
    clear r1 r2 r3
    have hS9 := hS7.put hdv8
    obtain ⟨_, _, _, _, _, _, _, _, _, HD9, -⟩ := hS7.devS
    have d0 := HD9.cell (j := 0) rfl
    have d1 := HD9.cell (j := 1) rfl
    have d2 := HD9.cell (j := 2) rfl
    have d3 := HD9.cell (j := 3) rfl
    have d4 := HD9.cell (j := 4) rfl
    have o0 := HD9.frozen 0
    have o1 := HD9.frozen 1
    have o2 := HD9.frozen 2
    have o3 := HD9.frozen 3
    have o4 := HD9.frozen 4
    have HS9 : Hid (St w (J1C W7 w.heap.size (.slice pa9 pn9 pc9) (.int .i64 (J14 x' (g0, g1, g2, g3, g4, g5)).2.1) (.slice ua9 un9 uc9) (.bool (J14 x' (g0, g1, g2, g3, g4, g5)).2.2.2.1) (.slice fa9 fn9 fc9)) C nB (J14 x' (g0, g1, g2, g3, g4, g5)) now (.slice (some ⟨b, o, none⟩) now.length cn)) := hS9
    clear hS7 HD9 hS9 hdv8
    generalize J14 x' (g0, g1, g2, g3, g4, g5) = x9 at *
    go_wp2
    go_roundw
    case rel => exact ⟨k + 1, x9, hlt, by go_num, HS9.out, HX.out⟩
    case measure => simp [intOf]; omega
   ·have hk2 : k = now.length := by omega
    subst hk2
    have hxy : x' = y := by
     have h1 := HF.out
     rw [List.take_length, HY.out] at h1
     injection h1 with h1
     exact h1.symm
    subst hxy
    obtain ⟨pa', ua', fa', pn', pc', un', uc', fn', fc', HD, hdv⟩ := hS.devS
    have HV : Hid (J1v wr (Cw C w.heap.size nB) x' (J16 (.slice pa' pn' pc') x'.2.1 (.slice ua' un' uc') x'.2.2.2.1 (.slice fa' fn' fc'))) := hdv
    have d0 := HD.cell (j := 0) rfl
    have d1 := HD.cell (j := 1) rfl
    have d2 := HD.cell (j := 2) rfl
    have d3 := HD.cell (j := 3) rfl
    have d4 := HD.cell (j := 4) rfl
    have n0 := hS.res.cell (j := 0) rfl
    have n1 := hS.res.cell (j := 1) rfl
    have n2 := hS.res.cell (j := 2) rfl
    have n3 := hS.res.cell (j := 3) rfl
    have n4 := hS.res.cell (j := 4) rfl
    have o0 := hS.res.frozen 0
    have o1 := hS.res.frozen 1
    have o2 := hS.res.frozen 2
    have o3 := hS.res.frozen 3
    have o4 := hS.res.frozen 4
    have HS : Hid (St w wr C nB x' now (.slice an now.length cn)) := hS
    clear hS HD hdv
    go_wp2
    have hR := J2M HS.out.res (.slice pa' pn' pc') (.int .i64 x'.2.1) (.slice ua' un' uc') (.bool x'.2.2.2.1) (.slice fa' fn' fc')
    have hU := J9x HS.out.up (Nat.le_add_right w.heap.size 1) (.slice pa' pn' pc') (.int .i64 x'.2.1) (.slice ua' un' uc') (.bool x'.2.2.2.1) (.slice fa' fn' fc')
    have hV := HV.out.keeps (C' := fun r o => C r o ∨ w.heap.size ≤ r) (fun r o u hC h => ⟨by rcases hC with hC | hC; exact .inl hC.1; exact .inr (by omega), (J85 (b := w.heap.size + 1) (.inr rfl) (v0 := .slice pa' pn' pc') (v1 := .int .i64 x'.2.1) (v2 := .slice ua' un' uc') (v3 := .bool x'.2.2.2.1) (v4 := .slice fa' fn' fc') r o u hC h).2⟩)
    have r0 := hR.cell (j := 0) rfl
    have r1 := hR.cell (j := 1) rfl
    have r2 := hR.cell (j := 2) rfl
    have r3 := hR.cell (j := 3) rfl
    have r4 := hR.cell (j := 4) rfl
    clear hR
    simp only [J1C] at r0 r1 r2 r3 r4 hU hV
    clear d0 d1 d2 d3 d4 n0 n1 n2 n3 n4 o0 o1 o2 o3 o4
    generalize (((((wr.setCell { block := w.heap.size + 1, off := 0 } (Value.slice pa' pn' pc')).setCell { block := w.heap.size + 1, off := 1 } (Value.int IntKind.i64 x'.snd.fst)).setCell { block := w.heap.size + 1, off := 2 } (Value.slice ua' un' uc')).setCell { block := w.heap.size + 1, off := 3 } (Value.bool x'.snd.snd.snd.fst)).setCell { block := w.heap.size + 1, off := 4 } (Value.slice fa' fn' fc')) = Wf at r0 r1 r2 r3 r4 hU hV ⊢
    refine bodyPost_ret (v := .tuple #[J16 (.slice pa' pn' pc') x'.2.1 (.slice ua' un' uc') x'.2.2.2.1 (.slice fa' fn' fc'), .int .i64 0]) ?_ rfl ⟨_, rfl, hU, hV⟩
    simp [results, Try.results19, go_sem, r0, r1, r2, r3, r4]
end Go.Proofs
end
section
namespace Go.Proofs
open Go.Shelf Go.RowKit Go.Lib Go.Am
set_option linter.unusedSimpArgs false
set_option linter.unusedVariables false
theorem Jls (x : DT) : cel J3 x = [.sl 1 (x.1.map fun l => [.s l]), .i .i64 x.2.1, .sl 1 (x.2.2.1.map fun n => [.i .i64 n]), .b x.2.2.2.1, .sl 6 (x.2.2.2.2.map J5j)] := rfl
theorem Jrp {s : Sn} {x : DT} {v : Value} (h : Jf s (.data (cel J3 x)) v) : J1v s.w s.g.C x v := by
 rw [Jls] at h
 cases h with
 | data _ vs hl hr =>
  obtain ⟨l⟩ := vs
  match l, hl with
  | [v0, v1, v2, v3, v4], _ =>
   have r0 := hr 0 _ _ rfl rfl
   have r1 := hr 1 _ _ rfl rfl
   have r2 := hr 2 _ _ rfl rfl
   have r3 := hr 3 _ _ rfl rfl
   have r4 := hr 4 _ _ rfl rfl
   cases r1; cases r3
   exact ⟨v0, v2, v4, rfl, r0, r2, r4⟩
theorem JmX {s : Sn} {x : DT} {v : Value} (h : J1v s.w s.g.C x v) : Jf s (.data (cel J3 x)) v := by
 obtain ⟨vp, vu, vf, rfl, h1, h2, h3⟩ := h.ex
 rw [Jls]
 refine .data _ _ rfl fun i y u hy hu => ?_
 match i with
 | 0 => injection hy with hy; injection hu with hu; subst hy hu; exact h1
 | 1 => injection hy with hy; injection hu with hu; subst hy hu; exact .i _ _
 | 2 => injection hy with hy; injection hu with hu; subst hy hu; exact h2
 | 3 => injection hy with hy; injection hu with hu; subst hy hu; exact .b _
 | 4 => injection hy with hy; injection hu with hu; subst hy hu; exact h3
 | i + 5 => simp at hy
theorem JgI {blks : List Blk} {g : Gh} {w w' : World} (hi : Inv ⟨blks, g, w⟩) (hu : Up w.heap.size w w') {y : DT} {v : Value} (hd : J1v w' (fun r o => g.C r o ∨ w.heap.size ≤ r) y v) :
  ∃ g', Inv ⟨blks, g', w'⟩ ∧ Jx ⟨blks, g, w⟩ ⟨blks, g', w'⟩ ∧ Jf ⟨blks, g', w'⟩ (.data (cel J3 y)) v := by
 obtain ⟨h1, h2⟩ := JpN hi hu (fun r o => w.heap.size ≤ r ∧ r < w'.heap.size) (fun _ _ h => h)
 exact ⟨_, h1, h2, JmX (hd.keeps fun r o u hc hx => ⟨hc.imp id fun h => ⟨h, J4I hx⟩, hx⟩)⟩
theorem Jso {s : Sn} {x : DT} {n : Int} {l : List UInt8} {vals : Array Value} (hl : 3 = vals.size)
  (ha : ∀ (i : Nat) y v, ([.data (cel J3 x), .p (.i .i64 n), .p (.s l)] : List AV)[i]? = some y → vals[i]? = some v → Jf s y v) : ∃ v, vals = #[v, .int .i64 n, .string ⟨l.toArray⟩] ∧ J1v s.w s.g.C x v := by
 obtain ⟨vl⟩ := vals
 match vl, hl with
 | [v0, v1, v2], _ =>
  have r0 := ha 0 _ _ rfl rfl
  have r1 := ha 1 _ _ rfl rfl
  have r2 := ha 2 _ _ rfl rfl
  cases r1 with | p _ _ r1 => cases r2 with | p _ _ r2 => cases r1; cases r2; exact ⟨v0, rfl, Jrp r0⟩
theorem JhA : ∀ args blks r, Jdx J3 Jif args blks = some r → J1W Try.prog 45 args blks r := JqH fun x n l y blks hy =>
 ⟨⟨Try.f45, Try.func45, by kernel_rfl, by kernel_rfl⟩, fun g w vals hi hl ha => by
  obtain ⟨v, rfl, hd⟩ := Jso hl ha
  obtain ⟨⟨h0, h1, h2, h3⟩, rfl⟩ := J8Z (show J7r x n l = some y from hy)
  obtain ⟨k, rfl⟩ := Int.eq_ofNat_of_zero_le h0
  refine (Try.set_D g.C x k l v w hd h1 h2 h3).mono ?_
  rintro e w' ⟨v', rfl, hu, hd'⟩
  obtain ⟨g', q1, q2, q3⟩ := JgI hi hu hd'
  exact ⟨v', g', rfl, q1, q2, q3⟩⟩
end Go.Proofs
end
section
end
section
namespace Go.Proofs.Ytkopficpneehnaa
open Go.Am
set_option maxRecDepth 20000
theorem Jdb : JI Try.prog J0V (erF J3L) = true := by kernel_rfl
theorem Jex : JI Try.prog J1T (erF J4y) = true := by kernel_rfl
theorem Jgp : JI Try.prog J0m (erF J5c) = true := by kernel_rfl
theorem JcY : JI Try.prog J0H (erF J3G) = true := by kernel_rfl
theorem Jdc : JI Try.prog J0X (erF J3I) = true := by kernel_rfl
theorem J4p : JI Try.prog JM (erF J0E) = true := by kernel_rfl
theorem J42 : JI Try.prog JJ (erF J0q) = true := by kernel_rfl
theorem J5K : JI Try.prog J00 (erF J19) = true := by kernel_rfl
theorem J5i : JI Try.prog JW (erF J0R) = true := by kernel_rfl
theorem Jg0 : JI Try.prog J0z (erF J5f) = true := by kernel_rfl
theorem JeJ : JI Try.prog JT (erF J4x) = true := by kernel_rfl
theorem JfW : JI Try.prog J1i (erF J5b) = true := by kernel_rfl
theorem Jja : JI Try.prog J02 (erF J6m) = true := by kernel_rfl
theorem Jff : JI Try.prog J15 (erF J4A) = true := by kernel_rfl
theorem J9k : JI Try.prog J0Q (erF J2d) = true := by kernel_rfl
theorem J7B : JI Try.prog J0u (erF J1O) = true := by kernel_rfl
theorem Jhs : JI Try.prog JZ (erF J5F) = true := by kernel_rfl
theorem Jd4 : JI Try.prog i_draw_Codes_Next (erF J3M) = true := by kernel_rfl
theorem Jcj : JI Try.prog Jr (erF J3o) = true := by kernel_rfl
theorem JdC : JI Try.prog J29 (erF J8v) = true := by kernel_rfl
theorem Jcc : JI Try.prog J3g (erF J7n) = true := by kernel_rfl
theorem Jd2 : JI Try.prog J1k (erF J3K) = true := by kernel_rfl
theorem Jma : JI Try.prog J0N (erF J7X) = true := by kernel_rfl
theorem Jhe : JI Try.prog J0a (erF J5B) = true := by kernel_rfl
theorem Jin : JI Try.prog J4E (erF JbQ) = true := by kernel_rfl
theorem Jho : JI Try.prog J23 (erF J5z) = true := by kernel_rfl
theorem Jhq : JI Try.prog J1p (erF J5x) = true := by kernel_rfl
theorem JfA : JI Try.prog J5h (erF J9G) = true := by kernel_rfl
theorem JfJ : JI Try.prog J51 (erF J9u) = true := by kernel_rfl
theorem Jk2 : JI Try.prog J7h (erF Jdo) = true := by kernel_rfl
theorem Jk6 : JI Try.prog J9h (erF Jde) = true := by kernel_rfl
theorem JfD : JI Try.prog J3O (erF J9F) = true := by kernel_rfl
theorem JiJ : JI Try.prog J8x (erF JbP) = true := by kernel_rfl
theorem Jeq : JI Try.prog J6s (erF J8H) = true := by kernel_rfl
theorem Jhw : JI Try.prog J38 (erF JaS) = true := by kernel_rfl
theorem Jj5 : JI Try.prog J8s (erF Jbp) = true := by kernel_rfl
theorem Jhj : JI Try.prog J5A (erF JaP) = true := by kernel_rfl
theorem Jb2 : JI Try.prog J6M (erF J6K) = true := by kernel_rfl
theorem Jb6 : JI Try.prog J2X (erF J2U) = true := by kernel_rfl
theorem Jbh : JI Try.prog J3k (erF J3w) = true := by kernel_rfl
theorem JhC : JI Try.prog J1c (erF J5D) = true := by kernel_rfl
theorem Jb5 : JI Try.prog J2W (erF J2Z) = true := by kernel_rfl
theorem JdB : JI Try.prog J1J (erF J4c) = true := by kernel_rfl
theorem Jd5 : JI Try.prog J7z (erF J7A) = true := by kernel_rfl
theorem Jb9 : JI Try.prog J6L (erF J6J) = true := by kernel_rfl
theorem Jhp : JI Try.prog JaV (erF JaU) = true := by kernel_rfl
theorem Jf7 : JI Try.prog J95 (erF J8W) = true := by kernel_rfl
theorem Jjz : JI Try.prog Jbl (erF Jbi) = true := by kernel_rfl
theorem Jjh : JI Try.prog JbU (erF Jcl) = true := by kernel_rfl
theorem Jbm : JI Try.prog J3n (erF J3q) = true := by kernel_rfl
theorem J5n : JI Try.prog Ju (J8i J6 48).af = true := by kernel_rfl
theorem J6Y {α : Type} {f : FuncId} {a : α} : ∀ {l : List (FuncId × α)}, lkA f l = some a → (f, a) ∈ l
 | [], h => by cases h
 | (g, b) :: r, h => by
  simp only [lkA] at h
  split at h
  ·rename_i e; injection h with h; subst h e; exact List.mem_cons_self
  ·exact List.mem_cons_of_mem _ (J6Y h)
def J4X (l : List (FuncId × AFn)) : Prop := ∀ x ∈ l, JI Try.prog x.1 x.2 = true
def Jcs (l : List (FuncId × J5Q)) : Prop := ∀ x ∈ l, JI Try.prog x.1 x.2.af = true
theorem Jqe : J4X [] := fun _ h => by cases h
theorem Js {f a l} (h : JI Try.prog f a = true) (hl : J4X l) : J4X ((f, a) :: l) := fun x hx => by
 rcases List.mem_cons.1 hx with rfl | hx
 ·exact h
 ·exact hl x hx
theorem Jp8 : Jcs [] := fun _ h => by cases h
theorem JmJ {f a l} (h : JI Try.prog f a.af = true) (hl : Jcs l) : Jcs ((f, a) :: l) := fun x hx => by
 rcases List.mem_cons.1 hx with rfl | hx
 ·exact h
 ·exact hl x hx
theorem Jlm : J4X fns := Js Jdb <| Js Jex <| Js Jgp <| Js JcY <| Js Jdc <| Js J4p <| Js J42 <| Js J5K <| Js J5i <| Js Jg0 <| Js JeJ <| Js JfW <| Js Jja <| Js Jff <| Js J9k <| Js J7B <| Js Jhs <| Js Jd4 <| Js Jcj <| Js JdC <| Js Jcc <| Js Jd2 <| Js Jma <| Js Jhe <| Js Jin <| Js Jho <| Js Jhq <| Js JfA <| Js JfJ <| Js Jk2 <| Js Jk6 <| Js JfD <| Js JiJ <| Js Jeq <| Js Jhw <| Js Jj5 <| Js Jhj <| Js Jb2 <| Js Jb6 <| Js Jbh <| Js JhC <| Js Jb5 <| Js JdB <| Js Jd5 <| Js Jb9 <| Js Jhp <| Js Jf7 <| Js Jjz <| Js Jjh <| Js Jbm <| Jqe
theorem Jla : Jcs fks := JmJ J5n <| Jp8
def JcM (l : List (FuncId × Prm)) : Prop := ∀ x ∈ l, ∀ args blks r, x.2 args blks = some r → J1W Try.prog x.1 args blks r
theorem Jpe : JcM [] := fun _ h => by cases h
theorem Jbj {f a l} (h : ∀ args blks r, a args blks = some r → J1W Try.prog f args blks r) (hl : JcM l) : JcM ((f, a) :: l) := fun x hx => by
 rcases List.mem_cons.1 hx with rfl | hx
 ·exact h
 ·exact hl x hx
theorem Jkq : JcM fps := Jbj J6n <| Jbj JcR <| Jbj JhA <| Jpe
theorem mixed : Try.prog.follows .mixedOrders = true := by kernel_rfl
def Jlc : PS := fun _ => none
theorem JrR : J2A Try.prog (AF (JR Jlc)) := by
 refine Jq1 mixed (fun f af h => ?_) (fun f g h => ?_) (fun f k h => ?_)
 ·rcases J53 h with ⟨x, h1, h2⟩ | ⟨x, h1, h2⟩ | ⟨x, h1, h2⟩ | ⟨x, h1, h2⟩
  ·injection h2 with h2; subst h2; exact Jlm _ (J6Y h1)
  ·cases h2
  ·cases h2
  ·cases h2
 ·rcases J53 h with ⟨x, h1, h2⟩ | ⟨x, h1, h2⟩ | ⟨x, h1, h2⟩ | ⟨x, h1, h2⟩
  ·cases h2
  ·cases h2
  ·injection h2 with h2; subst h2; exact Jkq _ (J6Y h1)
  ·cases h1
 ·rcases J53 h with ⟨x, h1, h2⟩ | ⟨x, h1, h2⟩ | ⟨x, h1, h2⟩ | ⟨x, h1, h2⟩
  ·cases h2
  ·injection h2 with h2; subst h2; exact Jla _ (J6Y h1)
  ·cases h2
  ·cases h2
end Go.Proofs.Ytkopficpneehnaa
end
section
namespace Go.Am
theorem JsM {F : Orc} {f : FuncId} {g : Sig} {S : (tyL g.ti).D → Option (tyL g.to).D} {xs : List TA} {x : (tyL g.ti).D} {y : (tyL g.to).D} {v : TV} (he : EOk F (sigE f g S)) (hx : Jel g xs [] = some x) (hS : S x = some y)
  (hv : Jfv g y = some (v, [])) : F f (xs.map (J0k (lns []))) [] = some (Jt (lns []) v, []) := by
 have h : (sigE f g S).go xs [] (fun v out => some (v, out)) = some (v, ([] : List (Bool × TB))) := by
  simp only [sigE, hx, hS, Option.bind_some, hv]
  cases g.same <;> rfl
 obtain ⟨v, out, h1, _, h3⟩ := he.ok h
 injection h3 with h3; injection h3 with h4 h5; subst h4 h5
 exact h1
end Go.Am
namespace Go.Proofs.Ytkopficpneehnaa
open Go.Am Go.RowKit Go.Proofs
set_option maxRecDepth 100000
theorem Jk5 (x : DT) (p e : Int) (hS : J0n (x, p) = some e) (C : Nat → Nat → Prop) (w : World) (v : Value) (h : J1v w C x v) :
  Calls Try.prog 41 #[v, .int .i64 p] w fun en w' => en = .returned (.int .i64 e) ∧ Up w.heap.size w w' := by
 have run := JsM (J6h Jlc) (xs := [.dt J3 x, .c (.d (.i .i64) p)]) (x := (x, p)) rfl hS (v := .a (.c (.d (.i .i64) e))) rfl
 have ok := JrR _ _ _ _ run
 refine (JmQ ok rfl (w := w) C (vals := #[v, .int .i64 p]) rfl (fun i a u ha hu => ?_)).mono ?_
 ·match i with
  | 0 =>
   injection ha with ha; injection hu with hu; subst ha hu
   exact JmX (s := ⟨[], ghC C w, w⟩) (h.keeps fun r o u hc hx => ⟨.inr ⟨hc, J4I hx⟩, hx⟩)
  | 1 => injection ha with ha; injection hu with hu; subst ha hu; exact .p _ _ (.i _ _)
  | i + 2 => simp at ha
 ·rintro en w' ⟨u, g', rfl, hu, hr, _⟩
  cases hr with
  | p _ _ hr => cases hr; exact ⟨rfl, hu⟩
theorem Jdz (w : World) (C : Nat → Nat → Prop) : J1v w C ([], 0, [], false, []) Jeh := ⟨_, _, _, rfl, .sl0 1 none 0, .sl0 1 none 0, .sl0 6 none 0⟩
theorem Jfq : ∀ args blks r, JdL J3 Jj args blks = some r → J1W Try.prog 19 args blks r := Jq9 fun x n l y blks hy =>
 ⟨⟨Try.f19, Try.func19, by kernel_rfl, by kernel_rfl⟩, fun g w vals hi hl ha => by
  obtain ⟨v, rfl, hd⟩ := Jso hl ha
  have hy' : Jer (J0n (x, n)) (x, n, l) = some y := hy
  unfold Jer at hy'
  obtain ⟨e, he, hy'⟩ := Option.bind_eq_some_iff.1 hy'
  have hus : ∀ W, Up w.heap.size w W → Calls Try.prog 41 #[v, .int .i64 n] W fun en W' => en = .returned (.int .i64 e) ∧ Up W.heap.size W W' := fun W hW => Jk5 x n e he g.C W v (hd.up hW fun _ _ h _ => h)
  obtain ⟨vp, vu, vf, hv, r1, r2, r3⟩ := hd.ex
  obtain ⟨pa, pn, pc, rfl⟩ := J1F r1
  obtain ⟨ua, un, uc, rfl⟩ := J1G r2
  obtain ⟨fa, fn, fc, rfl⟩ := J1s r3
  subst hv
  have tup : ∀ {g' : Gh} {w' : World} {z : DT} {u : Value} {k : Int}, Jf ⟨blks, g', w'⟩ (.data (cel J3 z)) u → Jf ⟨blks, g', w'⟩ (.tup [.data (cel J3 z), .p (.i .i64 k)]) (.tuple #[u, .int .i64 k]) := fun {g' w' z u k} hz =>
   .tup _ _ rfl fun i a b ha hb => by
    match i with
    | 0 => injection ha with ha; injection hb with hb; subst ha hb; exact hz
    | 1 => injection ha with ha; injection hb with hb; subst ha hb; exact .p _ _ (.i _ _)
    | i + 2 => simp at ha
  have fin : ∀ {z : DT} {k : Int} {w' : World} {u : Value}, Up w.heap.size w w' → J1v w' (fun r o => g.C r o ∨ w.heap.size ≤ r) z u → ∃ v g', (Ending.returned (.tuple #[u, .int .i64 k])) = .returned v ∧ Inv ⟨blks, g', w'⟩ ∧ Jx ⟨blks, g, w⟩ ⟨blks, g', w'⟩ ∧ Jf ⟨blks, g', w'⟩ (.tup [.data (cel J3 z), .p (.i .i64 k)]) v := fun hu hd => by
   obtain ⟨g', q1, q2, q3⟩ := JgI hi hu hd
   exact ⟨_, g', rfl, q1, q2, tup q3⟩
  split at hy'
  ·rename_i h0
   injection hy' with hy'; subst hy'
   refine (Try.write_err pa ua fa pn pc un uc fn fc x.2.1 n e x.2.2.2.1 ⟨l.toArray⟩ w h0 hus).mono ?_
   rintro en w' ⟨rfl, hu⟩
   exact fin hu (Jdz _ _)
  ·rename_i h0
   have h0' : e = 0 := by omega
   subst h0'
   split at hy'
   ·rename_i h1
    injection hy' with hy'; subst hy'
    refine (Try.write_size pa ua fa pn pc un uc fn fc x.2.1 n x.2.2.2.1 ⟨l.toArray⟩ w (by simpa [ByteArray.size] using h1) hus).mono ?_
    rintro en w' ⟨rfl, hu⟩
    exact fin hu (Jdz _ _)
   ·rename_i h1
    have h1' : l.length = 256 := Decidable.not_not.1 h1
    split at hy'
    ·rename_i h2
     injection hy' with hy'; subst hy'
     have h2' : x.2.1 = 1099511627776 := h2
     have hus2 := hus
     rw [h2'] at hus2 ⊢
     refine (Try.write_limit pa ua fa pn pc un uc fn fc n x.2.2.2.1 ⟨l.toArray⟩ w (by simpa [ByteArray.size] using h1') hus2).mono ?_
     rintro en w' ⟨rfl, hu⟩
     exact fin hu (Jdz _ _)
    ·split at hy'
     ·rename_i h3
      obtain ⟨z, hz, hy'⟩ := Option.map_eq_some_iff.1 hy'
      subst hy'
      refine (Try.write_main g.C x z n l _ w hd h1' h3.1 h3.2.1 h3.2.2 hz hus).mono ?_
      rintro en w' ⟨v', rfl, hu, hd'⟩
      exact fin hu hd'
     ·cases hy'⟩
theorem JeY : J2A Try.prog (AF (JR J0h)) := by
 refine Jq1 mixed (fun f af h => ?_) (fun f g h => ?_) (fun f k h => ?_)
 ·rcases J53 h with ⟨x, h1, h2⟩ | ⟨x, h1, h2⟩ | ⟨x, h1, h2⟩ | ⟨x, h1, h2⟩
  ·injection h2 with h2; subst h2; exact Jlm _ (J6Y h1)
  ·cases h2
  ·cases h2
  ·cases h2
 ·rcases J53 h with ⟨x, h1, h2⟩ | ⟨x, h1, h2⟩ | ⟨x, h1, h2⟩ | ⟨x, h1, h2⟩
  ·cases h2
  ·cases h2
  ·injection h2 with h2; subst h2; exact Jkq _ (J6Y h1)
  ·injection h2 with h2; subst h2
   unfold J0h at h1
   split at h1
   ·rename_i hf; injection h1 with h1; subst h1; subst hf; exact Jfq
   ·cases h1
 ·rcases J53 h with ⟨x, h1, h2⟩ | ⟨x, h1, h2⟩ | ⟨x, h1, h2⟩ | ⟨x, h1, h2⟩
  ·cases h2
  ·injection h2 with h2; subst h2; exact Jla _ (J6Y h1)
  ·cases h2
  ·cases h2
end Go.Proofs.Ytkopficpneehnaa
end
section
namespace Go.Am
set_option maxRecDepth 20000
set_option linter.unusedVariables false
set_option linter.unusedSimpArgs false
noncomputable section
open Classical
theorem JrM {x : DT} (hv : VD x) (t : Nat) {s : List UInt8} (hs : s.length = 256) : VD (J2q x t s) := by
 have h := hv.vp.set t hs
 have hl : J8 (J2q x t s).1 = J8 x.1 := h.len
 exact ⟨by rw [hl]; exact hv.p1, by rw [hl]; exact hv.p64, hv.w0, hv.w1, hv.f64, fun z hz => by have := h.page z hz; unfold J8; omega, by rw [hl]; exact h.rng, JeC h.srt, by rw [hl]; exact hv.flt⟩
theorem JrC {x : DT} (hv : VD x) {p : Int} (h0 : 0 ≤ p) (h1 : p < J8 x.1) (s : List UInt8) : J3U (x, p, s) = some (J2q x p.toNat s) := by
 unfold J3U Jif J7r
 have := hv.p64
 have := hv.unr
 unfold J8 at *
 rw [if_pos ⟨h0, by dsimp only; omega, by dsimp only; omega, by dsimp only; omega⟩]
def J25 (s o : List UInt8) (k : Int) : List UInt8 := s.take k.toNat ++ o.drop k.toNat
def JhX (x : DT) (p : Int) (s : List UInt8) (k : Int) : DT × Int := if usD x p = 0 then if 0 ≤ k ∧ k ≤ 256 then if s.length = 256 then (J2q x p.toNat (J25 s (x.1.getD p.toNat []) k), 0) else (J5y, 2) else (J5y, 1) else (J5y, usD x p)
theorem JkA (x : DT) (p : Int) (s : List UInt8) (k : Int) (hu : J8 x.2.2.1 ≤ 1000000000000) : J0M (x, p, s, k) = some (JhX x p s k) := by
 refine J4O ?_
 unfold J0M JhX
 dsimp only
 refine .bind (Jv (Jjk x p hu)) fun y e => ?_
 subst e
 refine .ne (fun c => .some (if_neg c).symm) fun c => ?_
 rw [if_pos c]
 obtain ⟨hv, _, h0, h1⟩ := Jgc c
 refine .ltf (fun c1 => .gt (fun c2 => .some (if_neg (show ¬(0 ≤ k ∧ k ≤ 256) by omega)).symm) fun c2 => ?_) fun c1 => .some (if_neg (show ¬(0 ≤ k ∧ k ≤ 256) by omega)).symm
 rw [if_pos (show 0 ≤ k ∧ k ≤ 256 by omega)]
 refine .ne (fun c3 => .some (if_neg (show ¬s.length = 256 by unfold J8 at c3; omega)).symm) fun c3 => ?_
 have hs : s.length = 256 := by unfold J8 at c3; omega
 rw [if_pos hs]
 obtain ⟨g1, g2⟩ := hv.vp.getD h0 h1
 refine .bind (Jpf (l := s) (k := k) (by omega) (by omega)) fun a ha => .bind (J3Q h0 h1) fun o ho => .bind (JnA (l := o) (k := k) (by omega) ?_) fun b hb => ?_
 ·have : o.length = 256 := by rw [g1] at ho; injection ho.1 with e; rw [← e]; exact g2
  unfold J8; omega
 have eo : x.1.getD p.toNat [] = o := JfK ho.1
 have ol : o.length = 256 := by rw [← eo]; exact g2
 refine .bind (Jv (Jfp a b ?_)) fun z ez => .bind (Jv (JrC hv h0 h1 z)) fun w ew => .some ?_
 ·rw [ha.1, hb.1, List.length_take, List.length_drop]; omega
 ·rw [ew, ez, ha.1, hb.1, eo]; rfl
theorem JkE {x : DT} (hv : VD x) (hd : x.2.2.2.1 = false) {p : Int} (h0 : 0 ≤ p) (h1 : p < J8 x.1) {s : List UInt8} (hs : s.length = 256) {k : Int} (k0 : 0 ≤ k) (k1 : k ≤ 256) :
  J0M (x, p, s, k) = some (J2q x p.toNat (J25 s (x.1.getD p.toNat []) k), 0) := by
 rw [JkA x p s k (by have := hv.unr; omega)]
 unfold JhX
 rw [if_pos (JcK hv hd h0 h1), if_pos ⟨k0, k1⟩, if_pos hs]
theorem Jpw {s o : List UInt8} (hs : s.length = 256) (ho : o.length = 256) {k : Int} (k0 : 0 ≤ k) (k1 : k ≤ 256) : (J25 s o k).length = 256 := by
 unfold J25
 rw [List.length_append, List.length_take, List.length_drop]; omega
theorem Jmr (s o : List UInt8) (hs : s.length = 256) (ho : o.length = 256) {m n : Int} (m0 : 0 ≤ m) (m1 : m ≤ 256) (n0 : 0 ≤ n) (n1 : n ≤ 256) : J25 s (J25 s o m) n = J25 s o (J6A m n) := by
 have hmax := Jkn m n
 unfold J25
 by_cases h : m ≤ n
 ·have e : J6A m n = n := by omega
  rw [e, List.drop_append, List.length_take, List.drop_of_length_le (by rw [List.length_take]; omega), List.nil_append, List.drop_drop]
  congr 2
  omega
 ·have e : J6A m n = m := by omega
  rw [e, List.drop_append, List.length_take, show n.toNat - min m.toNat s.length = 0 by omega, List.drop_zero, ← List.append_assoc]
  congr 1
  rw [show s.take n.toNat = (s.take m.toNat).take n.toNat by rw [List.take_take]; congr 1; omega, List.take_append_drop]
theorem JnZ {x : Int} (w : Ty.inR (.i .u16) x) : 0 ≤ x ∧ x ≤ 65535 := by
 simpa [Ty.inR, IntKind.min, IntKind.max, IntKind.signed, IntKind.bits] using w
theorem Jms {x : Int} (w : Ty.inR (.i .u8) x) : 0 ≤ x ∧ x ≤ 255 := by
 simpa [Ty.inR, IntKind.min, IntKind.max, IntKind.signed, IntKind.bits] using w
theorem Jsl : J9m 2 = ((List.replicate 2 JK, 0, [], false, []), 0) := by unfold J9m; rw [if_pos (by decide)]; rfl
theorem q2 : Qt (List.replicate 2 JK, 0, [], false, []) := ⟨J8k 2 0 (by decide) (by decide) (by decide) (by decide), rfl, rfl, rfl⟩
theorem Jb0 {x0 : List Int} {x1 x2 : Int} (w0 : Ty.inR (.l (.i .u8)) x0) (w1 : Ty.inR (.i .u16) x1) (w2 : Ty.inR (.i .u16) x2) : J2V (x0, x1, x2) = some true := by
 refine J4O ?_
 unfold J2V
 dsimp only
 refine .bind (Jv JcC) fun y2 d2 => .not (fun c => by rw [d2] at c; cases c) fun _ => ?_
 refine .bind (JcG x0 100 (by decide) (by decide) (Jat w0)) fun c h3 => .bind (Jv (Jca 2)) fun y4 e4 => ?_
 rw [Jsl] at e4
 subst e4
 refine .bind (J43 c h3.1) fun y5 h5 => ?_
 obtain ⟨e6, q6⟩ := Je4 q2 (p := 1) (by decide) (by show (1 : Int) < 2; decide) h5.2 (by show (0 : Int) < 1099511627776; decide)
 refine .bind (Jv e6) fun y6 e => ?_
 subst e
 have e7 : (List.replicate 2 JK).set (1 : Int).toNat y5.1 = [JK, y5.1] := rfl
 dsimp only at q6 ⊢
 rw [e7] at q6 ⊢
 refine .nef (fun _ => .nef (fun _ => .ne (fun c => absurd rfl c) fun _ => ?_) fun c => absurd rfl c) fun c => absurd rfl c
 refine .bind (Jv (v := y5.1) rfl) fun y7 e7 => ?_
 subst e7
 refine .bind (J43 y5.2 (h3.1.to h5.1)) fun y8 h8 => ?_
 obtain ⟨a0, a1⟩ := JnZ w1
 obtain ⟨b0, b1⟩ := JnZ w2
 have c1 := Je8 x1
 have c2 := Je8 x2
 refine .bind (Jav (show ¬(257 : Int) = 0 by decide)) fun m hm => .bind (Jav (show ¬(257 : Int) = 0 by decide)) fun n hn => ?_
 have m0 : 0 ≤ m := by rw [hm]; exact J2i.1 (by omega)
 have m1 : m < 257 := by rw [hm]; exact J2i.2.1 (by omega)
 have n0 : 0 ≤ n := by rw [hn]; exact J2i.1 (by omega)
 have n1 : n < 257 := by rw [hn]; exact J2i.2.1 (by omega)
 have kk := Jkn m n
 have tz := Jpw h8.2 h5.2 m0 (by omega)
 refine .bind (Jv (JkE q6.vd q6.live (p := 1) (by decide) (by show (1 : Int) < 2; decide) h8.2 m0 (by omega))) fun y11 e11 => ?_
 have s11 : J2q (([JK, y5.1], 0 + 1, [], false, []) : DT) (1 : Int).toNat (J25 y8.1 (([JK, y5.1] : List (List UInt8)).getD (1 : Int).toNat []) m) = ([JK, J25 y8.1 y5.1 m], 0 + 1, [], false, []) := rfl
 have v11 := JrM q6.vd (1 : Int).toNat tz
 have s11' : J2q (([JK, y5.1], 0 + 1, [], false, []) : DT) (1 : Int).toNat (J25 y8.1 y5.1 m) = ([JK, J25 y8.1 y5.1 m], 0 + 1, [], false, []) := rfl
 rw [s11'] at v11
 dsimp only at e11
 rw [s11] at e11
 subst e11
 refine .bind (Jv (JkE v11 rfl (p := 1) (by decide) (by show (1 : Int) < 2; decide) h8.2 n0 (by omega))) fun y12 e12 => ?_
 have s12 : J2q (([JK, J25 y8.1 y5.1 m], 0 + 1, [], false, []) : DT) (1 : Int).toNat (J25 y8.1 (([JK, J25 y8.1 y5.1 m] : List (List UInt8)).getD (1 : Int).toNat []) n) = ([JK, J25 y8.1 (J25 y8.1 y5.1 m) n], 0 + 1, [], false, []) := rfl
 dsimp only at e12
 rw [s12, Jmr _ _ h8.2 h5.2 m0 (by omega) n0 (by omega)] at e12
 subst e12
 have l8 : J8 y8.1 = 256 := by unfold J8; rw [h8.2]; rfl
 have l5 : J8 y5.1 = 256 := by unfold J8; rw [h5.2]; rfl
 generalize J6A m n = k at kk ⊢
 have k0 : 0 ≤ k := by omega
 have k1 : k ≤ 256 := by omega
 refine .nef (fun _ => .nef (fun _ => .nef (fun _ => .nef (fun _ => .ne (fun c => absurd l5 c) fun _ => ?_) fun c => absurd l8 c) fun c => absurd rfl c) fun c => absurd rfl c) fun c => absurd rfl c
 refine .bind (Jv (v := J25 y8.1 y5.1 k) rfl) fun y13 e13 => .bind (Jpf (l := y8.1) (k := k) k0 (by omega)) fun a ha => .bind (JnA (l := y5.1) (k := k) k0 (by omega)) fun b hb => ?_
 refine .bind (Jv (Jfp a b (by rw [ha.1, hb.1, List.length_take, List.length_drop, h8.2, h5.2]; omega))) fun y16 e16 => ?_
 have hne : neS y13 y16 = false := by
  rw [e13, e16, ha.1, hb.1]
  unfold neS J25
  simp
 refine .itf (fun _ => .ne (fun c => absurd rfl c) fun _ => .eq (fun _ => .some rfl) fun hk => ?_) fun c => by rw [hne] at c; cases c
 have hf : J2H (J8 [JK, y5.1]) (0 + 1) (3, 2, 0, 0, k, 0) := ⟨rfl, rfl, by show (0 : Int) + 1 < 2; decide, by show (2 : Int) ≤ _; decide, Int.le_refl 0, by show (0 : Int) < 2; decide, Int.le_refl 0, by show (0 : Int) < 2; decide, k0, by show k < 256; omega, fun h => by cases h⟩
 refine .bind (Jv (Jc2 _ _ (by show (0 : Int) ≤ _; decide))) fun y17 e17 => ?_
 rw [JbZ q6.vd hf (by show (0 : Int) < 64; decide)] at e17
 subst e17
 have v17 := J9K q6.vd hf (by show (0 : Int) < 64; decide)
 have hb : Byt [((3, 2, 0, 0, k, 0) : FT)] := fun f hf => by rw [List.mem_singleton.1 hf]; exact ⟨Int.le_refl _, by show (0 : Int) ≤ 255; decide⟩
 refine .bind (Jv (J4T _ _ _ (by show (0 : Int) ≤ _; decide) hb)) fun y18 e18 => ?_
 rw [J8j v17 rfl (by decide) (by show (1 : Int) < 2; decide) h8.2 (by show (0 : Int) + 1 < _; decide)] at e18
 obtain ⟨-, v18, -, -, -, -⟩ := J92 v17 hb (p := 1) (by decide) (by show (1 : Int) < 2; decide) h8.2 (by show (0 : Int) + 1 < _; decide)
 have w18 : wM (([JK, y5.1], 0 + 1, [], false, [] ++ [(3, 2, 0, 0, k, 0)]) : DT) 1 y8.1 = ([JK, J25 y8.1 y5.1 k], 2, [], false, []) := rfl
 dsimp only at v18 e18
 rw [w18] at v18 e18
 subst e18
 refine .eq (fun _ => .eq (fun _ => .eq (fun _ => .eq (fun _ => ?_) fun c => absurd rfl c) fun c => absurd rfl c) fun c => absurd rfl c) fun c => absurd rfl c
 refine .bind (Jv (v := J25 y8.1 y5.1 k) rfl) fun y19 e19 => .bind (Jv (v := J25 y8.1 y5.1 k) rfl) fun y20 e20 => .ite (fun _ => ?_) fun c => by rw [e19, e20] at c; simp [eqS] at c
 refine .bind (JmE _ (by show (0 : Int) ≤ _; decide)) fun y21 h21 => .some (h21.2 v18)
theorem Jml {x : DT} (hv : VD x) : J1I x = some ((List.replicate x.1.length JK, x.2.1, [], false, x.2.2.2.2), 0) := by
 refine J4O ?_
 unfold J1I
 refine .bind (Jc8 x (by have := hv.unr; omega)) fun y hy => .not (fun k => by rw [hy.2 hv] at k; cases k) fun _ => ?_
 refine .bind (Jv (Jh0 _ hv.p1 hv.p64)) fun y3 e3 => .bind (Jv (JnP _ (by have := hv.f64; omega))) fun y4 e4 => .some ?_
 rw [e3, e4, Jpk]
abbrev JeB (n : Int) : FT := (6, n, 0, 0, 0, 0)
abbrev J6C (n : Int) : FT := (1, n, 0, 0, 0, 0)
theorem JnD (m w k : Int) (hw : w < k) (hk : k ≤ 1099511627776) (hn : 1 ≤ m) : J2H m w (JeB k) := ⟨rfl, rfl, hw, hk, by show (0 : Int) ≤ 0; omega, by show (0 : Int) < m; omega, by show (0 : Int) ≤ 0; omega, by show (0 : Int) < m; omega, by show (0 : Int) ≤ 0; omega, by show (0 : Int) < 256; omega, fun h => by cases h⟩
theorem Jnl {x : DT} (hv : VD x) (hd : x.2.2.2.1 = true) (p : Int) : Jd (x, p) = some ([], 10) := by
 rw [J9t x p (by have := hv.unr; omega)]
 unfold J7C
 rw [Jam hv hd, if_neg (by decide)]
theorem JlT {x : DT} (hv : VD x) (hd : x.2.2.2.1 = true) (hb : Byt x.2.2.2.2) (p : Int) (s : List UInt8) : Jj (x, p, s) = some (J5y, 10) := by
 rw [J4T x p s (by have := hv.unr; omega) hb]
 unfold wrD
 rw [Jam hv hd, if_neg (by decide)]
theorem JnR {x : DT} (hv : VD x) (hd : x.2.2.2.1 = true) (p : Int) (s : List UInt8) (k : Int) : J0M (x, p, s, k) = some (J5y, 10) := by
 rw [JkA x p s k (by have := hv.unr; omega)]
 unfold JhX
 rw [Jam hv hd, if_neg (by decide)]
theorem Jbr {x0 : List Int} {x1 : Int} (w0 : Ty.inR (.l (.i .u8)) x0) (w1 : Ty.inR (.i .u8) x1) : J3f (x0, x1) = some true := by
 refine J4O ?_
 unfold J3f
 dsimp only
 refine .bind (Jv JcC) fun y2 d2 => .not (fun c => by rw [d2] at c; cases c) fun _ => ?_
 refine .bind (JcG x0 100 (by decide) (by decide) (Jat w0)) fun c h3 => .bind (Jv (Jca 2)) fun y4 e4 => ?_
 rw [Jsl] at e4
 subst e4
 obtain ⟨a0, a1⟩ := Jms w1
 have c1 := Je8 x1
 refine .bind (Jav (show ¬(6 : Int) = 0 by decide)) fun r hr => ?_
 have r0 : 0 ≤ r := by rw [hr]; exact J2i.1 (by omega)
 have r1 : r < 6 := by rw [hr]; exact J2i.2.1 (by omega)
 have en : Ji .i64 1 r = 1 + r := by have := J7g 1 r; omega
 have en1 : Ji .i64 (Ji .i64 1 r) 1 = 2 + r := by have := J7g (Ji .i64 1 r) 1; omega
 rw [en1, en]
 have v2 : VD (List.replicate 2 JK, 0, [], false, []) := q2.vd
 have hf := JnD (J8 (List.replicate 2 JK)) 0 (1 + r) (by omega) (by omega) (by show (1 : Int) ≤ 2; decide)
 refine .bind (Jv (Jc2 _ _ (by show (0 : Int) ≤ _; decide))) fun y6 e6 => ?_
 rw [JbZ v2 hf (by show (0 : Int) < 64; decide)] at e6
 subst e6
 have v6 := J9K v2 hf (by show (0 : Int) < 64; decide)
 have hf2 := JdJ (J8 (List.replicate 2 JK)) 0 (2 + r) (by omega) (by omega) (by show (1 : Int) ≤ 2; decide)
 refine .bind (Jv (Jc2 _ _ (by show (0 : Int) ≤ _; decide))) fun y7 e7 => ?_
 rw [JbZ v6 hf2 (by show (1 : Int) < 64; decide)] at e7
 subst e7
 have v7 := J9K v6 hf2 (by show (1 : Int) < 64; decide)
 refine .nef (fun _ => .nef (fun _ => .ne (fun c => absurd rfl c) fun _ => ?_) fun c => absurd rfl c) fun c => absurd rfl c
 have byt : ∀ l : List FT, (∀ f ∈ l, f.2.2.2.2.2 = 0) → Byt l := fun l h f hf => by rw [h f hf]; exact ⟨Int.le_refl _, by decide⟩
 refine J6e (τ := Int × J4 × DT) (fun q => (1 + r, q.1, q.2.1, q.2.2))
  (fun q => 0 ≤ q.1 ∧ q.1 ≤ 1 + r ∧ J5T q.2.1 ∧ VD q.2.2 ∧ q.2.2.2.1 = q.1 ∧ J8 q.2.2.1 = 2 ∧ (q.1 < 1 + r → q.2.2.2.2.2.1 = false ∧ q.2.2.2.2.2.2 = [JeB (1 + r), J6C (2 + r)]) ∧ (q.1 = 1 + r → q.2.2.2.2.2.1 = true ∧ q.2.2.2.2.2.2 = [J6C (2 + r)])) (fun q => 1 + r - q.1) ?_
  (0, c, (List.replicate 2 JK, 0, [], false, [] ++ [JeB (1 + r)] ++ [J6C (2 + r)])) rfl ⟨Int.le_refl _, by show 0 ≤ 1 + r; omega, h3.1, v7, rfl, rfl, fun _ => ⟨rfl, rfl⟩, fun h => by have : (0 : Int) = 1 + r := h; omega⟩
 rintro ⟨i, c, d⟩ ⟨i0, i1, hc, hv, hw, hl, hg, hz⟩
 dsimp only at i0 i1 hc hv hw hl hg hz
 unfold J6w
 dsimp only
 refine .lt (fun k => ?_) fun k => .inr ?_
 ·obtain ⟨hd, hfs⟩ := hg k
  refine .bind (J2P 2 c hc) fun y9 h9 => .bind (J43 y9.2 (hc.to h9.1)) fun y10 h10 => ?_
  have p0 := h9.2.2.1
  have p1 := h9.2.2.2 (by decide)
  have hb : Byt d.2.2.2.2 := by rw [hfs]; exact byt _ (fun f hf => by rcases List.mem_cons.1 hf with rfl | hf; rfl; rw [List.mem_singleton.1 hf])
  refine .bind (Jv (J4T d y9.1 y10.1 (by have := hv.unr; omega) hb)) fun y11 e11 => ?_
  rw [J8j hv hd p0 (by omega) h10.2 (by omega)] at e11
  obtain ⟨-, v11, b11, p11, w11, f11⟩ := J92 hv hb p0 (by omega) h10.2 (by omega)
  have sub : Ja4 .i64 (1 + r) 1 = r := by have := JlN (1 + r) 1; omega
  rw [sub]
  have dead : (wM d y9.1 y10.1).2.2.2.1 = decide (i = r) := by
   by_cases hi : i = r
   ·have hn : J2f d = [JeB (1 + r)] := by
     unfold J2f
     rw [hfs, hw, hi]
     have e1 : ((1 + r : Int) == r + 1) = true := by simp; omega
     have e2 : ((2 + r : Int) == r + 1) = false := by simp; omega
     simp only [List.filter_cons, List.filter_nil, e1, e2, if_true, Bool.false_eq_true, if_false]
    unfold wM
    rw [hn, decide_eq_true hi]
    rfl
   ·have hn : J2f d = [] := by
     unfold J2f
     rw [hfs, hw]
     have e1 : ((1 + r : Int) == i + 1) = false := by simp; omega
     have e2 : ((2 + r : Int) == i + 1) = false := by simp; omega
     simp only [List.filter_cons, List.filter_nil, e1, e2, Bool.false_eq_true, if_false]
    unfold wM
    rw [hn, decide_eq_false hi]
    exact hd
  subst e11
  dsimp only
  refine .nef (fun _ => .not (fun ke => ?_) fun ke => ?_) fun c => absurd rfl c
  ·rw [dead] at ke
   simp [eqB, eqI] at ke
  ·refine .some ⟨(Ji .i64 i 1, y10.2, wM d y9.1 y10.1), rfl, ?_, ?_⟩
   ·have ei : Ji .i64 i 1 = i + 1 := J3A i0 (by omega)
    show 0 ≤ Ji .i64 i 1 ∧ Ji .i64 i 1 ≤ 1 + r ∧ J5T y10.2 ∧ VD (wM d y9.1 y10.1) ∧ (wM d y9.1 y10.1).2.1 = Ji .i64 i 1 ∧ J8 (wM d y9.1 y10.1).1 = 2 ∧ (Ji .i64 i 1 < 1 + r → (wM d y9.1 y10.1).2.2.2.1 = false ∧ (wM d y9.1 y10.1).2.2.2.2 = [JeB (1 + r), J6C (2 + r)]) ∧ (Ji .i64 i 1 = 1 + r → (wM d y9.1 y10.1).2.2.2.1 = true ∧ (wM d y9.1 y10.1).2.2.2.2 = [J6C (2 + r)])
    rw [ei, dead, f11, hfs, hw]
    refine ⟨by omega, by omega, hc.to (h9.1.trans h10.1), v11, by rw [w11, hw], p11.trans hl, fun h => ⟨decide_eq_false (by omega), ?_⟩, fun h => ⟨decide_eq_true (by omega), ?_⟩⟩
    ·have e1 : ((1 + r : Int) == i + 1) = false := by simp; omega
     have e2 : ((2 + r : Int) == i + 1) = false := by simp; omega
     simp only [List.filter_cons, List.filter_nil, e1, e2, Bool.not_false, if_true]
    ·have e1 : ((1 + r : Int) == i + 1) = true := by simp; omega
     have e2 : ((2 + r : Int) == i + 1) = false := by simp; omega
     simp only [List.filter_cons, List.filter_nil, e1, e2, Bool.not_false, if_true, Bool.not_true, Bool.false_eq_true, if_false]
   ·show 1 + r - Ji .i64 i 1 < 1 + r - i ∧ 0 ≤ 1 + r - i
    rw [J3A i0 (by omega)]; omega
 ·have hi : i = 1 + r := by omega
  obtain ⟨hd, hfs⟩ := hz hi
  have hb : Byt d.2.2.2.2 := by rw [hfs]; exact byt _ (fun f hf => by rw [List.mem_singleton.1 hf])
  refine .bind (Jv (Jnl hv hd 0)) fun y12 e12 => .bind (J43 c hc) fun y13 h13 => .bind (Jv (JlT hv hd hb 0 y13.1)) fun y14 e14 => .bind (J43 y13.2 (hc.to h13.1)) fun y15 h15 =>
   .bind (Jv (JnR hv hd 0 y15.1 5)) fun y16 e16 => .bind (Jv (Jml hv)) fun y17 e17 => .bind (J43 y15.2 (hc.to (h13.1.trans h15.1))) fun y18 h18 => ?_
  have dl : d.1.length = 2 := by unfold J8 at hl; omega
  rw [dl, hw, hfs, hi] at e17
  subst e17; subst e12; subst e14; subst e16
  have hf3 := JdJ (J8 (List.replicate 2 JK)) (1 + r) (2 + r) (by omega) (by omega) (by show (1 : Int) ≤ 2; decide)
  have v17 := J9K (J8k 2 (1 + r) (by decide) (by decide) (by omega) (by omega)) hf3 (by show (0 : Int) < 64; decide)
  have v17' : VD (List.replicate 2 JK, 1 + r, [], false, [J6C (2 + r)]) := v17
  have hb2 : Byt [J6C (2 + r)] := byt _ (fun f hf => by rw [List.mem_singleton.1 hf])
  refine .bind (Jv (J4T _ _ _ (by show (0 : Int) ≤ _; decide) hb2)) fun y19 e19 => ?_
  rw [J8j v17' rfl (by decide) (by show (1 : Int) < 2; decide) h18.2 (by show 1 + r < _; omega)] at e19
  obtain ⟨-, v19, -, -, -, -⟩ := J92 v17' hb2 (p := 1) (by decide) (by show (1 : Int) < 2; decide) h18.2 (by show 1 + r < _; omega)
  have w19 : wM ((List.replicate 2 JK, 1 + r, [], false, [J6C (2 + r)]) : DT) 1 y18.1 = (List.replicate 2 JK, 1 + r + 1, [], false, []) := by
   have e1 : ((2 + r : Int) == 1 + r + 1) = true := by simp; omega
   have hn : J2f ((List.replicate 2 JK, 1 + r, [], false, [J6C (2 + r)]) : DT) = [J6C (2 + r)] := by
    unfold J2f
    simp only [List.filter_cons, List.filter_nil, e1, if_true]
   have hr' : J1X ((List.replicate 2 JK, 1 + r, [], false, [J6C (2 + r)]) : DT) = (List.replicate 2 JK, 1 + r + 1, [], false, []) := by
    unfold J1X
    simp only [List.filter_cons, List.filter_nil, e1, Bool.not_true, Bool.false_eq_true, if_false]
   unfold wM
   rw [hn, hr']
   rfl
  rw [w19] at v19 e19
  subst e19
  refine .bind (Jv (J9t _ _ (by show (0 : Int) ≤ _; decide))) fun y20 e20 => ?_
  have r20 : J7C (List.replicate 2 JK, 1 + r + 1, [], false, []) 1 = (JK, 0) := by
   unfold J7C
   rw [if_pos (JcK v19 rfl (by decide) (by show (1 : Int) < 2; decide)), if_neg (by simp)]
   rfl
  rw [r20] at e20
  subst e20
  refine .eq (fun _ => .eq (fun _ => .eq (fun _ => .eq (fun _ => .eq (fun _ => .eq (fun _ => .eq (fun _ => .eq (fun _ => ?_) fun c => absurd rfl c) fun c => absurd rfl c) fun c => absurd rfl c) fun c => absurd rfl c) fun c => absurd rfl c) fun c => absurd rfl c) fun c => absurd rfl c) fun c => absurd rfl c
  refine .bind (Jv Jju) fun y21 e21 => .some ?_
  rw [e21, Jgy]
  simp [eqS]
end
end Go.Am
end
section
namespace Go.Am
set_option maxRecDepth 20000
set_option linter.unusedVariables false
set_option linter.unusedSimpArgs false
noncomputable section
open Classical
theorem Jkd {b : DT} (h : J2f b = []) (p : Int) (s : List UInt8) : wM b p s = J2q (J1X b) p.toNat s := by unfold wM; rw [h]; rfl
theorem Jk7 {b : DT} {f : FT} (h : J2f b = [f]) (hk : f.1 ≠ 6) {p : Int} (s : List UInt8) (h0 : 0 ≤ p) (t0 : 0 ≤ f.2.2.2.1) (g0 : 0 ≤ f.2.2.1) :
  (wM b p s).2.2.2.1 = b.2.2.2.1 ∧ ∀ j : Nat, (j : Int) ≠ p → (j : Int) ≠ f.2.2.1 → (j : Int) ≠ f.2.2.2.1 → (wM b p s).1[j]? = b.1[j]? ∧ ((j : Int) ∉ b.2.2.1 → (j : Int) ∉ (wM b p s).2.2.1) := by
 have hs : ∀ (y : DT) (t : Int) (z : List UInt8), 0 ≤ t → ∀ j : Nat, (j : Int) ≠ t → (J2q y t.toNat z).1[j]? = y.1[j]? ∧ ((j : Int) ∉ y.2.2.1 → (j : Int) ∉ (J2q y t.toNat z).2.2.1) := fun y t z ht j hj => by
  refine ⟨?_, fun h k => h (List.mem_filter.1 k).1⟩
  show (y.1.set t.toNat z)[j]? = _
  rw [List.getElem?_set, if_neg (by omega)]
 have he : (J7q (J2l [f]) (J1X b) p s).2.2.2.1 = b.2.2.2.1 ∧ ∀ j : Nat, (j : Int) ≠ p → (j : Int) ≠ f.2.2.2.1 → (J7q (J2l [f]) (J1X b) p s).1[j]? = b.1[j]? ∧ ((j : Int) ∉ b.2.2.1 → (j : Int) ∉ (J7q (J2l [f]) (J1X b) p s).2.2.1) := by
  unfold J2l J7q
  split
  ·rw [if_pos rfl]; exact ⟨rfl, fun j _ _ => ⟨rfl, id⟩⟩
  ·split
   ·dsimp only; rw [if_neg (by decide), if_pos rfl]; exact ⟨rfl, fun j _ hj => hs (J1X b) _ s t0 j hj⟩
   ·split
    ·dsimp only; rw [if_neg (by decide), if_neg (by decide), if_pos rfl]; exact ⟨rfl, fun j hj _ => hs (J1X b) _ _ h0 j hj⟩
    ·unfold J2l; dsimp only; rw [if_neg (by decide), if_neg (by decide), if_neg (by decide)]; exact ⟨rfl, fun j hj _ => hs (J1X b) _ s h0 j hj⟩
 unfold wM
 rw [h]
 show (J48 (J7q (J2l [f]) (J1X b) p s) f).2.2.2.1 = _ ∧ _
 generalize J7q (J2l [f]) (J1X b) p s = y at he
 show (J48 y f).2.2.2.1 = _ ∧ ∀ j : Nat, _ → _ → _ → (J48 y f).1[j]? = _ ∧ (_ → _ ∉ (J48 y f).2.2.1)
 unfold J48
 split
 ·refine ⟨he.1, fun j h1 h2 h3 => ⟨?_, (he.2 j h1 h3).2⟩⟩
  show (y.1.set _ _)[j]? = _
  rw [List.getElem?_set, if_neg (by omega)]
  exact (he.2 j h1 h3).1
 ·split
  ·exact ⟨he.1, fun j h1 h2 h3 => ⟨(he.2 j h1 h3).1, fun h k => (JkU k).elim h2 ((he.2 j h1 h3).2 h)⟩⟩
  ·first
    | exact ⟨he.1, fun j h1 h2 h3 => he.2 j h1 h3⟩
    | (rw [if_neg hk]; exact ⟨he.1, fun j h1 h2 h3 => he.2 j h1 h3⟩)
structure Jar (k i : Int) (c : J4) (f : FT) (a b : DT) (v : Vector Bool 3) : Prop where
 i0 : 1 ≤ i
 i1 : i ≤ 7
 cd : J5T c
 qa : Qt a
 wa : a.2.1 = i - 1
 la : J8 a.1 = 3
 vb : VD b
 db : b.2.2.2.1 = false
 wb : b.2.1 = i - 1
 lb : J8 b.1 = 3
 fb : b.2.2.2.2 = if i ≤ k then [f] else []
 rel : ∀ (j : Nat) (hj : j < 3), v[j] = false → a.1[j]? = b.1[j]? ∧ (j : Int) ∉ b.2.2.1
theorem Jrb (k i : Int) (c : J4) (f : FT) (a b : DT) (v : Vector Bool 3) (h : Jar k (i + 1) c f a b v) (hi : i ≤ 6) (h1 : 1 ≤ i) :
  Tot (JL J1u (k, i, 0, c, f, a, b, v)) fun r => r = .inl (k, i + 1, c, f, a, b, v) := by
 refine J3j (fun x => (k, i, x, c, f, a, b, v)) 3 (fun _ => True) (by decide) trivial fun x g1 g2 _ => ?_
 unfold J1u
 dsimp only
 refine .lt (fun q => ?_) fun q => .some (by rw [J3A (by omega) (by omega)])
 have hla := h.la
 have hlb := h.lb
 refine .bind (Jv (Jld h.qa g1 (by omega))) fun y12 e12 => .bind (Jv (J9t b x (by have := h.vb.unr; omega))) fun y13 e13 => ?_
 subst e12
 refine .nef (fun _ => .bind (J7O (by omega) (by omega)) fun _ _ => .bind (Jv (v := v[x.toNat]'(by omega)) (by unfold vat; exact Vector.getElem?_eq_getElem (by omega))) fun y e => ?_) fun c => absurd rfl c
 refine .not (fun d => ?_) fun d => .some ⟨by rw [J3A g1 (by omega)], trivial, q⟩
 rw [e] at d
 obtain ⟨r1, r2⟩ := h.rel x.toNat (by omega) d
 rw [show ((x.toNat : Nat) : Int) = x by omega] at r2
 have hr : y13 = (a.1.getD x.toNat [], 0) := by
  rw [e13]
  unfold J7C
  rw [if_pos (JcK h.vb h.db g1 (by omega)), if_neg r2, List.getD_eq_getElem?_getD, List.getD_eq_getElem?_getD, r1]
 subst hr
 dsimp only
 exact .nef (fun _ => .ite (fun c => by simp [neS] at c) fun _ => .some ⟨by rw [J3A g1 (by omega)], trivial, q⟩) fun c => absurd rfl c
theorem JoW (k : Int) (c : J4) (f : FT) (a b : DT) (v : Vector Bool 3) (hk0 : 1 ≤ k) (hk5 : k ≤ 5) (hf : J2H 3 0 f) (hfk : f.2.1 = k) (h6 : f.1 ≠ 6) (hm : 0 ≤ f.2.2.2.2.2 ∧ f.2.2.2.2.2 ≤ 255) (h : Jar k 1 c f a b v) : Tot (JL J0O (k, 1, c, f, a, b, v)) fun y => y = true := by
 refine J6e (τ := Int × J4 × DT × DT × Vector Bool 3) (fun q => (k, q.1, q.2.1, f, q.2.2.1, q.2.2.2.1, q.2.2.2.2)) (fun q => Jar k q.1 q.2.1 f q.2.2.1 q.2.2.2.1 q.2.2.2.2) (fun q => 7 - q.1) ?_ (1, c, a, b, v) rfl h
 rintro ⟨i, c, a, b, v⟩ h
 dsimp only at h
 have i0 := h.i0
 have i1 := h.i1
 have e2 : J6x = J1u := rfl
 have e3 : J6r = J1u := rfl
 unfold J0O
 rw [e2, e3]
 dsimp only
 refine .le (fun hi => ?_) fun hi => .some (by rw [h.fb, if_neg (by omega)]; rfl)
 refine .bind (J2P 3 c h.cd) fun y10 h10 => .bind (J43 y10.2 (h.cd.to h10.1)) fun y11 h11 => ?_
 have p0 := h10.2.2.1
 have p1 := h10.2.2.2 (by decide)
 have hwa := h.wa
 have hwb := h.wb
 have hla := h.la
 have hlb := h.lb
 have hfb := h.fb
 obtain ⟨e12, q12⟩ := Je4 h.qa p0 (by omega) h11.2 (by omega)
 have byt : Byt b.2.2.2.2 := by
  rw [hfb]
  intro g hg
  split at hg
  ·rw [List.mem_singleton.1 hg]; exact hm
  ·cases hg
 have e13 := J4T b y10.1 y11.1 (by have := h.vb.unr; omega) byt
 rw [J8j h.vb h.db p0 (by omega) h11.2 (by omega)] at e13
 obtain ⟨-, v13, b13, l13, w13, f13⟩ := J92 h.vb byt p0 (by omega) h11.2 (by omega)
 refine .bind (Jv e12) fun y12 e => ?_
 subst e
 refine .bind (Jv e13) fun y13 e => ?_
 subst e
 have cd := h.cd.to (h10.1.trans h11.1)
 have al : a.1.length = 3 := by unfold J8 at hla; omega
 have bl : b.1.length = 3 := by unfold J8 at hlb; omega
 have la' : J8 (a.1.set y10.1.toNat y11.1) = 3 := by unfold J8; rw [List.length_set, al]; rfl
 have ff : (wM b y10.1 y11.1).2.2.2.2 = if i + 1 ≤ k then [f] else [] := by
  rw [f13, hfb, hwb]
  by_cases h1 : i ≤ k
  ·rw [if_pos h1]
   by_cases h2 : i + 1 ≤ k
   ·rw [if_pos h2]
    have : (f.2.1 == i - 1 + 1) = false := by simp; omega
    simp only [List.filter_cons, List.filter_nil, this, Bool.not_false, if_true]
   ·rw [if_neg h2]
    have : (f.2.1 == i - 1 + 1) = true := by simp; omega
    simp only [List.filter_cons, List.filter_nil, this, Bool.not_true, Bool.false_eq_true, if_false]
  ·rw [if_neg h1, if_neg (by omega)]; rfl
 have mk : ∀ v' : Vector Bool 3, (wM b y10.1 y11.1).2.2.2.1 = false → (∀ (j : Nat) (hj : j < 3), v'[j] = false → (a.1.set y10.1.toNat y11.1)[j]? = (wM b y10.1 y11.1).1[j]? ∧ (j : Int) ∉ (wM b y10.1 y11.1).2.2.1) → Jar k (i + 1) y11.2 f (a.1.set y10.1.toNat y11.1, a.2.1 + 1, [], false, []) (wM b y10.1 y11.1) v' := fun v' hd hr =>
  ⟨by omega, by omega, cd, q12, by show a.2.1 + 1 = i + 1 - 1; omega, la', v13, hd, by rw [w13]; omega, l13.trans hlb, ff, hr⟩
 have fin : ∀ v' : Vector Bool 3, Jar k (i + 1) y11.2 f (a.1.set y10.1.toNat y11.1, a.2.1 + 1, [], false, []) (wM b y10.1 y11.1) v' → Tot (JL J1u (k, i, 0, y11.2, f, (a.1.set y10.1.toNat y11.1, a.2.1 + 1, [], false, []), wM b y10.1 y11.1, v'))
   fun r => ∃ c' : Int × J4 × DT × DT × Vector Bool 3, r = .inl (k, c'.1, c'.2.1, f, c'.2.2.1, c'.2.2.2.1, c'.2.2.2.2) ∧ Jar k c'.1 c'.2.1 f c'.2.2.1 c'.2.2.2.1 c'.2.2.2.2 ∧ 7 - c'.1 < 7 - i ∧ 0 ≤ 7 - i := fun v' hv => by
  refine (Jrb k i y11.2 f _ _ v' hv hi i0).mono fun r e => ?_
  subst e
  exact ⟨(i + 1, y11.2, _, _, v'), rfl, hv, by dsimp only; omega, by omega⟩
 have hp : y10.1.toNat < 3 := by omega
 have quiet : J2f b = [] → (wM b y10.1 y11.1).2.2.2.1 = false ∧ ∀ (j : Nat) (hj : j < 3), (v[j] = false ∨ j = y10.1.toNat) → (a.1.set y10.1.toNat y11.1)[j]? = (wM b y10.1 y11.1).1[j]? ∧ (j : Int) ∉ (wM b y10.1 y11.1).2.2.1 := fun hn => by
  rw [Jkd hn]
  refine ⟨h.db, fun j hj hv => ?_⟩
  show (a.1.set y10.1.toNat y11.1)[j]? = (b.1.set y10.1.toNat y11.1)[j]? ∧ (j : Int) ∉ b.2.2.1.filter (fun n => !(n == ((y10.1.toNat : Nat) : Int)))
  rw [List.getElem?_set, List.getElem?_set]
  by_cases e : y10.1.toNat = j
  ·rw [if_pos e, if_pos e, if_pos (by omega), if_pos (by omega)]
   exact ⟨rfl, fun k => by have := (List.mem_filter.1 k).2; simp [e] at this⟩
  ·rw [if_neg e, if_neg e]
   obtain ⟨r1, r2⟩ := h.rel j hj (hv.resolve_right fun h => e h.symm)
   exact ⟨r1, fun k => r2 (List.mem_filter.1 k).1⟩
 refine .nef (fun _ => .ne (fun c => absurd rfl c) fun _ => .eq (fun hik => ?_) fun hik => ?_) fun c => absurd rfl c
 ·
  have hn : J2f b = [f] := by
   unfold J2f
   rw [hfb, if_pos (by omega), hwb]
   have : (f.2.1 == i - 1 + 1) = true := by simp; omega
   simp only [List.filter_cons, List.filter_nil, this, if_true]
  have tp := hf.t0
  have tq := hf.t1
  have gp := hf.p0
  have gq := hf.p1
  obtain ⟨d1, d2⟩ := Jk7 hn h6 y11.1 p0 tp gp
  refine .bind (J7O (by omega) (by omega)) fun _ _ => .bind (P := fun _ => True) ⟨v[y10.1.toNat]'hp, by unfold vat; exact Vector.getElem?_eq_getElem hp, trivial⟩ fun _ _ => .bind (J7O tp tq) fun _ _ =>
   .bind (P := fun _ => True) ⟨(J0w v y10.1.toNat true)[f.2.2.2.1.toNat]'(by omega), by unfold vat; exact Vector.getElem?_eq_getElem (by omega), trivial⟩ fun _ _ => .bind (J7O gp gq) fun _ _ =>
   .bind (P := fun _ => True) ⟨(J0w (J0w v y10.1.toNat true) f.2.2.2.1.toNat true)[f.2.2.1.toNat]'(by omega), by unfold vat; exact Vector.getElem?_eq_getElem (by omega), trivial⟩ fun _ _ => (fin _ (mk _ (d1.trans h.db) fun j hj hv => ?_)).mono fun r ⟨c', e, hh⟩ => by subst e; exact ⟨c', rfl, hh⟩
  rw [J82, J82, J82] at hv
  by_cases j1 : f.2.2.1.toNat = j
  ·rw [if_pos j1] at hv; cases hv
  rw [if_neg j1] at hv
  by_cases j2 : f.2.2.2.1.toNat = j
  ·rw [if_pos j2] at hv; cases hv
  rw [if_neg j2] at hv
  by_cases j3 : y10.1.toNat = j
  ·rw [if_pos j3] at hv; cases hv
  rw [if_neg j3] at hv
  obtain ⟨r1, r2⟩ := h.rel j hj hv
  obtain ⟨g1, g2⟩ := d2 j (by omega) (by omega) (by omega)
  rw [List.getElem?_set, if_neg j3, g1]
  exact ⟨r1, g2 r2⟩
 ·have hn : J2f b = [] := by
   unfold J2f
   rw [hfb, hwb]
   by_cases h1 : i ≤ k
   ·rw [if_pos h1]
    have : (f.2.1 == i - 1 + 1) = false := by simp; omega
    simp only [List.filter_cons, List.filter_nil, this, Bool.false_eq_true, if_false]
   ·rw [if_neg h1]; rfl
  obtain ⟨d1, d2⟩ := quiet hn
  refine .gt (fun hgt => ?_) fun hgt => (fin _ (mk v d1 fun j hj hv => d2 j hj (.inl hv))).mono fun r ⟨c', e, hh⟩ => by subst e; exact ⟨c', rfl, hh⟩
  refine .bind (J7O (by omega) (by omega)) fun _ _ => .bind (P := fun _ => True) ⟨v[y10.1.toNat]'hp, by unfold vat; exact Vector.getElem?_eq_getElem hp, trivial⟩ fun _ _ => (fin _ (mk _ d1 fun j hj hv => d2 j hj ?_)).mono fun r ⟨c', e, hh⟩ => by subst e; exact ⟨c', rfl, hh⟩
  rw [J82] at hv
  by_cases e : y10.1.toNat = j
  ·exact .inr e.symm
  ·rw [if_neg e] at hv; exact .inl hv
theorem Jtc : J9m 3 = ((List.replicate 3 JK, 0, [], false, []), 0) := by unfold J9m; rw [if_pos (by decide)]; rfl
theorem q3 : Qt (List.replicate 3 JK, 0, [], false, []) := ⟨J8k 3 0 (by decide) (by decide) (by decide) (by decide), rfl, rfl, rfl⟩
theorem Jmu (k : Int) (c : J4) (f : FT) (hk0 : 1 ≤ k) (hc : J5T c) (hf : J2H 3 0 f) : Jar k 1 c f (List.replicate 3 JK, 0, [], false, []) (List.replicate 3 JK, 0, [], false, [] ++ [f]) (Vector.replicate 3 false) :=
 ⟨by decide, by decide, hc, q3, rfl, rfl, J9K q3.vd hf (by show (0 : Int) < 64; decide), rfl, rfl, rfl, by rw [if_pos hk0]; rfl, fun j hj _ => ⟨rfl, by simp⟩⟩
theorem Jbo {x0 : List Int} {x1 x2 : Int} (w0 : Ty.inR (.l (.i .u8)) x0) (w1 : Ty.inR (.i .u8) x1) (w2 : Ty.inR (.i .u8) x2) : J3l (x0, x1, x2) = some true := by
 refine J4O ?_
 have e4 : J6E = J0O := rfl
 have e8 : J6D = J0O := rfl
 have e12 : J6a = J0O := rfl
 have e16 : J6d = J0O := rfl
 unfold J3l
 rw [e4, e8, e12, e16]
 dsimp only
 refine .bind (Jv JcC) fun y2 d2 => .not (fun c => by rw [d2] at c; cases c) fun _ => ?_
 refine .bind (JcG x0 100 (by decide) (by decide) (Jat w0)) fun c h3 => ?_
 obtain ⟨a0, a1⟩ := Jms w1
 obtain ⟨b0, b1⟩ := Jms w2
 have c1 := Je8 x1
 have c2 := Je8 x2
 refine .bind (Jav (show ¬(5 : Int) = 0 by decide)) fun m hm => .bind (Jav (show ¬(5 : Int) = 0 by decide)) fun n hn => ?_
 have m0 : 0 ≤ m := by rw [hm]; exact J2i.1 (by omega)
 have m1 : m < 5 := by rw [hm]; exact J2i.2.1 (by omega)
 have n0 : 0 ≤ n := by rw [hn]; exact J2i.1 (by omega)
 have n1 : n < 5 := by rw [hn]; exact J2i.2.1 (by omega)
 have em : Ji .i64 1 m = 1 + m := by have := J7g 1 m; omega
 have en : Ji .i64 1 n = 1 + n := by have := J7g 1 n; omega
 rw [em, en]
 have hnew := Jv (Jca 3)
 rw [Jtc] at hnew
 have rest : ∀ (c : J4) (f : FT), J5T c → J2H 3 0 f → f.2.1 = 1 + m → f.1 ≠ 6 → 0 ≤ f.2.2.2.2.2 ∧ f.2.2.2.2.2 ≤ 255 →
   Tot ((JP 3).bind fun y7 => (JD (y7.1, f)).bind fun y8 => if neI y7.2 0 = false then if neI y8.2 0 = true then some false else JL J0O (1 + m, 1, c, f, y7.1, y8.1, Vector.replicate 3 false) else some false) fun y => y = true := fun c f hc hf hfk h6 hm => by
  refine .bind hnew fun y7 e7 => ?_
  subst e7
  refine .bind (Jv (Jc2 _ _ (by show (0 : Int) ≤ _; decide))) fun y8 e8 => ?_
  rw [JbZ q3.vd hf (by show (0 : Int) < 64; decide)] at e8
  subst e8
  exact .nef (fun _ => .ne (fun c => absurd rfl c) fun _ => JoW (1 + m) c f _ _ _ (by omega) (by omega) hf hfk h6 hm (Jmu (1 + m) c f (by omega) hc hf)) fun c => absurd rfl c
 have mkF : ∀ (kd p t b mk : Int), (J4z (kd, 1 + m, p, t, b, mk)).2 = true → (J4z (kd, 1 + m, p, t, b, mk)).1 = (kd, 1 + m, p, t, b, mk) → 0 ≤ p ∧ p < 3 → 0 ≤ t ∧ t < 3 → 0 ≤ b ∧ b < 256 → (kd = 4 → ¬mk = 0) → J2H 3 0 (kd, 1 + m, p, t, b, mk) := fun kd p t b mk u1 u2 hp ht hb hmk =>
  ⟨u1, u2, by show 0 < 1 + m; omega, by show 1 + m ≤ _; omega, hp.1, hp.2, ht.1, ht.2, hb.1, hb.2, hmk⟩
 have zz : (0 : Int) ≤ 0 ∧ (0 : Int) < 3 := by decide
 have zb : (0 : Int) ≤ 0 ∧ (0 : Int) < 256 := by decide
 have zm : (0 : Int) ≤ 0 ∧ (0 : Int) ≤ 255 := by decide
 refine .eq (fun d => ?_) fun d2 => .eq (fun d => ?_) fun d3 => .eq (fun d => ?_) fun d4 => .eq (fun d => ?_) fun d5 => ?_
 ·refine .bind (J2P 3 c h3.1) fun y6 h6 => ?_
  rw [d]
  exact rest y6.2 (2, 1 + m, 0, y6.1, 0, 0) (h3.1.to h6.1) (mkF 2 0 _ 0 0 rfl rfl zz ⟨h6.2.2.1, h6.2.2.2 (by decide)⟩ zb (by decide)) rfl (show (2 : Int) ≠ 6 by decide) zm
 ·refine .bind (J2P 256 c h3.1) fun y6 h6 => ?_
  rw [d]
  exact rest y6.2 (3, 1 + m, 0, 0, y6.1, 0) (h3.1.to h6.1) (mkF 3 0 0 _ 0 rfl rfl zz zz ⟨h6.2.2.1, h6.2.2.2 (by decide)⟩ (by decide)) rfl (show (3 : Int) ≠ 6 by decide) zm
 ·refine .bind (J2P 3 c h3.1) fun y6 h6 => .bind (J2P 256 y6.2 (h3.1.to h6.1)) fun y7 h7 => ?_
  rw [d]
  exact rest y7.2 (4, 1 + m, y6.1, 0, y7.1, 1) (h3.1.to (h6.1.trans h7.1)) (mkF 4 _ 0 _ 1 rfl rfl ⟨h6.2.2.1, h6.2.2.2 (by decide)⟩ zz ⟨h7.2.2.1, h7.2.2.2 (by decide)⟩ (by decide)) rfl (show (4 : Int) ≠ 6 by decide) (show (0 : Int) ≤ 1 ∧ (1 : Int) ≤ 255 by decide)
 ·refine .bind (J2P 3 c h3.1) fun y6 h6 => ?_
  rw [d]
  exact rest y6.2 (5, 1 + m, y6.1, 0, 0, 0) (h3.1.to h6.1) (mkF 5 _ 0 0 0 rfl rfl ⟨h6.2.2.1, h6.2.2.2 (by decide)⟩ zz zb (by decide)) rfl (show (5 : Int) ≠ 6 by decide) zm
 ·have e1 : 1 + n = 1 := by omega
  rw [e1]
  exact rest c (1, 1 + m, 0, 0, 0, 0) h3.1 (mkF 1 0 0 0 0 rfl rfl zz zz zb (by decide)) rfl (show (1 : Int) ≠ 6 by decide) zm
end
end Go.Am
end
