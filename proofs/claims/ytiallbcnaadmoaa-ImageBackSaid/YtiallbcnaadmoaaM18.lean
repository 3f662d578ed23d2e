/-
  Parts of a proof.
-/
import Derived.Deep.RegionHeld3
import Derived.WalkSpells
import Derived.StillTactics
import Derived.Laws.Pointers
import Derived.Tactics
import Derived.Tactics2
import Derived.Test.YtiallbcnaadmoaaM11
import Derived.Test.YtiallbcnaadmoaaM14
import Derived.Test.YtiallbcnaadmoaaM16
set_option linter.unusedSimpArgs false
set_option linter.unusedVariables false
section
namespace Go.Proofs
open Go.Shelf Go.RowKit Go.Am
set_option linter.unusedSimpArgs false
set_option linter.unusedVariables false
structure Bel (w w' : World) : Prop where
 os : w'.os = w.os
 output : w'.output = w.output
 size : w.heap.size ≤ w'.heap.size
 block : ∀ k, k < w.heap.size → w'.heap[k]? = w.heap[k]?
theorem Bel.refl (w : World) : Bel w w := ⟨rfl, rfl, Nat.le_refl _, fun _ _ => rfl⟩
theorem Bel.trans {a b c : World} (h : Bel a b) (k : Bel b c) : Bel a c :=
 ⟨k.os.trans h.os, k.output.trans h.output, Nat.le_trans h.size k.size, fun i hi => (k.block i (Nat.lt_of_lt_of_le hi h.size)).trans (h.block i hi)⟩
theorem Bel.below {B : Nat} {a b c : World} (h : Bel a b) (k : Below B b c) (hB : a.heap.size ≤ B) : Bel a c :=
 ⟨k.os.trans h.os, k.output.trans h.output, Nat.le_trans h.size k.size, fun i hi => (k.block i (Nat.lt_of_lt_of_le hi hB)).trans (h.block i hi)⟩
theorem Bel.alloc (w : World) (o : Obj) : Bel w (w.alloc o) := ⟨rfl, rfl, by simp, fun k hk => Below.heap_alloc w o k hk⟩
theorem Bel.drew {a b : World} (h : Bel a b) : Bel a b.drew := ⟨h.os, h.output, h.size, h.block⟩
theorem Bel.cell {w w' : World} (h : Bel w w') {a : Addr} {v : Value} (hv : w.cell? a = some v) : w'.cell? a = some v := by
 have hb : a.block < w.heap.size := (JfE hv).2.2
 unfold World.cell? at hv ⊢
 rw [h.block a.block hb]
 exact hv
theorem Jed {B : Nat} {w w' : World} (k : Below B w w') {a : Addr} {v : Value} (hb : a.block < B) (hv : w.cell? a = some v) : w'.cell? a = some v := by
 unfold World.cell? at hv ⊢
 rw [k.block a.block hb]
 exact hv
theorem Joy {T e : TypeId} {B b : Nat} {bs : List Value} {w w' : World} (h : Lib.IsBuilder T e B b bs w) (k : Bel w w') : Lib.IsBuilder T e B b bs w' := by
 have key : ∀ p, Lib.BuilderAt T e B b p bs w → Lib.BuilderAt T e B b p bs w' := by
  rintro p ⟨hB, v, hb, ⟨hl, hx⟩, hne⟩
  refine ⟨hB, v, ?_, ⟨hl, ?_⟩, hne⟩
  ·rw [k.block b (J0r hb)]; exact hb
  ·rcases hx with hx | ⟨g, cap, cur, h1, h2, h3, h4⟩
   ·exact .inl hx
   ·exact .inr ⟨g, cap, cur, h1, h2, by rw [k.block g (J0r h3)]; exact h3, h4⟩
 rcases h with h | h
 ·exact .inl (key _ h)
 ·exact .inr (key _ h)
theorem JiE {f : FuncId} {xs : List PV} {vs : List Value} {r : PV} {v : Value} (h : AF (J2 Ytiallbcnaadmoaa.noPrims) f (xs.map .p) [] = some (.p r, [])) (hx : xs.mapM Jca = some vs) (hr : Jca r = some v) (W : World) :
  Calls Try.prog f vs.toArray W fun e W' => e = .returned v ∧ Bel W W' := by
 obtain ⟨_, hc⟩ := Ytiallbcnaadmoaa.soundT f (xs.map .p) [] _ h
 have hi : Inv ⟨[], ⟨fun _ => none, fun _ _ => False⟩, W⟩ := ⟨fun b cs h => by simp at h, fun b wm e r h => by simp at h, fun b1 b2 r o h => by simp [Wr1] at h, fun r o h => h.elim⟩
 have hlen : xs.length = vs.length := by
  clear hc h
  induction xs generalizing vs with
  | nil => simp at hx; subst hx; rfl
  | cons x l ih =>
   simp only [List.mapM_cons, Option.pure_def, Option.bind_eq_bind] at hx
   obtain ⟨v0, hv0, hx⟩ := Option.bind_eq_some_iff.1 hx
   obtain ⟨vr, hvr, hx⟩ := Option.bind_eq_some_iff.1 hx
   simp only [Option.some.injEq] at hx
   subst hx
   simp [ih hvr]
 have hget : ∀ (xs : List PV) (vs : List Value), xs.mapM Jca = some vs → ∀ (i : Nat) x u, xs[i]? = some x → vs[i]? = some u → Jca x = some u := by
  intro xs
  induction xs with
  | nil => intro vs h i x u h1; simp at h1
  | cons x l ih =>
   intro vs h i y u h1 h2
   simp only [List.mapM_cons, Option.pure_def, Option.bind_eq_bind] at h
   obtain ⟨v0, hv0, h⟩ := Option.bind_eq_some_iff.1 h
   obtain ⟨vr, hvr, h⟩ := Option.bind_eq_some_iff.1 h
   simp only [Option.some.injEq] at h
   subst h
   cases i with
   | zero => simp at h1 h2; subst h1 h2; exact hv0
   | succ i => exact ih vr hvr i y u (by simpa using h1) (by simpa using h2)
 refine (hc ⟨fun _ => none, fun _ _ => False⟩ W vs.toArray hi (by simpa using hlen) (fun i x u h1 h2 => ?_)).mono ?_
 ·rw [List.getElem?_map] at h1
  obtain ⟨y, hy, rfl⟩ := Option.map_eq_some_iff.1 h1
  exact .p _ _ (JmE (hget xs vs hx i y u hy (by simpa using h2)) _ _)
 ·rintro e W' ⟨u, g', rfl, _, t, hrel⟩
  cases hrel with
  | p _ _ hp =>
   refine ⟨by rw [Jow hp hr], t.keep.2.2.2.1, t.keep.2.2.2.2, t.keep.1, fun k hk => ?_⟩
   have hw : ∀ r o, ¬ Wr ⟨[], ⟨fun _ => none, fun _ _ => False⟩, W⟩ r o := fun r o ⟨b, hb⟩ => by simp [Wr1] at hb
   have hx := Array.getElem?_eq_getElem hk
   cases ho : W.heap[k] with
   | cells c e fz =>
    rw [ho] at hx
    obtain ⟨c', h1, h2, h3⟩ := t.keep.2.1 k c e fz hx
    have : c' = c := by
     apply Array.ext_getElem?
     intro o
     exact h3 o (hw k o)
    rw [hx, ← this]; exact h1
   | _ => rw [ho] at hx; rw [hx]; exact t.keep.2.2.1 k _ hx (fun c e fz h => by cases h)
theorem JmP {g : Gh} {W : World} (h : ∀ r o, g.C r o → r < W.heap.size) : Inv ⟨[], g, W⟩ :=
 ⟨fun b cs h => by simp at h, fun b wm e r h => by simp at h, fun b1 b2 r o h => by simp [Wr1] at h, fun r o hc => ⟨h r o hc, fun b hb => by simp [Wr1] at hb⟩⟩
theorem JpN {g : Gh} {W W' : World} (k : Bel W W') : JE ⟨[], g, W⟩ ⟨[], g, W'⟩ :=
 ⟨⟨k.size, fun r c e fz h => ⟨c, by rw [k.block r (J0r h)]; exact h, rfl, fun _ _ => rfl⟩, fun r x h _ => by rw [k.block r (J0r h)]; exact h, k.os, k.output⟩, fun _ _ h => h, fun _ _ h => .inl h, fun r o ⟨b, hb⟩ => by simp [Wr1] at hb, Nat.le_refl _, fun b cs h => by simp at h, fun b wm e r h => by simp at h⟩
theorem JsW {g g' : Gh} {W W' : World} (t : JE ⟨[], g, W⟩ ⟨[], g', W'⟩) : Bel W W' := by
 refine ⟨t.keep.2.2.2.1, t.keep.2.2.2.2, t.keep.1, fun k hk => ?_⟩
 have hw : ∀ r o, ¬ Wr ⟨[], g, W⟩ r o := fun r o ⟨b, hb⟩ => by simp [Wr1] at hb
 have hx := Array.getElem?_eq_getElem hk
 cases ho : W.heap[k] with
 | cells c e fz =>
  rw [ho] at hx
  obtain ⟨c', h1, h2, h3⟩ := t.keep.2.1 k c e fz hx
  have : c' = c := by
   apply Array.ext_getElem?
   intro o
   exact h3 o (hw k o)
  rw [hx, ← this]; exact h1
 | _ => rw [ho] at hx; rw [hx]; exact t.keep.2.2.1 k _ hx (fun c e fz h => by cases h)
theorem JkW {f : FuncId} {cs : List PV} {v0 : Value} {b : Bool} {g : Gh} {w W : World} (h : AF (J2 Ytiallbcnaadmoaa.noPrims) f [.data cs] [] = some (.p (.b b), [])) (hC : ∀ r o, g.C r o → r < w.heap.size) (hv : Jr ⟨[], g, w⟩ (.data cs) v0) (k : Bel w W) :
  Calls Try.prog f #[v0] W fun e W' => e = .returned (.bool b) ∧ Bel W W' := by
 obtain ⟨_, hc⟩ := Ytiallbcnaadmoaa.soundT f [.data cs] [] _ h
 refine (hc g W #[v0] (JmP fun r o h => Nat.lt_of_lt_of_le (hC r o h) k.size) rfl (fun i x u h1 h2 => ?_)).mono ?_
 ·cases i with
  | zero => simp at h1 h2; subst h1 h2; exact hv.mono (JmP hC) (JpN k)
  | succ i => simp at h1
 ·rintro e W' ⟨u, g', rfl, _, t, hrel⟩
  cases hrel with
  | p _ _ hp => cases hp; exact ⟨rfl, JsW t⟩
theorem JoS {w : World} {C : Nat → Nat → Prop} {k : IntKind} {n : Int} {v : Value} (h : JJ w C (.i k n) v) : v = .int k n := by cases h; rfl
theorem JtY {w : World} {C : Nat → Nat → Prop} {l : List UInt8} {v : Value} (h : JJ w C (.s l) v) : v = .string ⟨l.toArray⟩ := by cases h; rfl
theorem Jkw {x : T_api_Image} {g : Gh} {w : World} {v0 : Value} (hC : ∀ r o, g.C r o → r < w.heap.size) (hv : Jr ⟨[], g, w⟩ (.data (J7 x)) v0) :
  ∃ a cap, v0 = .agg #[.int .i64 x.ID, .int .i64 x.Pages, .slice a x.Copies.length cap] ∧
   ((x.Copies = []) ∨ ∃ r o, a = some ⟨r, o, none⟩ ∧ x.Copies.length ≤ cap ∧ ∀ (k : Nat) (h : k < x.Copies.length),
    w.cell? ⟨r, o + k * 3, none⟩ = some (.int .i64 x.Copies[k].Page) ∧ w.cell? ⟨r, o + k * 3 + 1, none⟩ = some (.int .i64 x.Copies[k].LSN) ∧ w.cell? ⟨r, o + k * 3 + 2, none⟩ = some (.string ⟨x.Copies[k].Data.toArray⟩)) := by
 cases hv with
 | data _ vs hl hx =>
  obtain ⟨u0, u1, u2, rfl⟩ : ∃ u0 u1 u2, vs = #[u0, u1, u2] := by
   obtain ⟨l⟩ := vs
   match l, hl with
   | [a, b, c], _ => exact ⟨a, b, c, rfl⟩
  have r0 : JJ w g.C (.i .i64 x.ID) u0 := hx 0 _ _ rfl rfl
  have r1 : JJ w g.C (.i .i64 x.Pages) u1 := hx 1 _ _ rfl rfl
  have r2 : JJ w g.C (.sl 3 (List.map J5 x.Copies)) u2 := hx 2 _ _ rfl rfl
  cases r0
  cases r1
  generalize hm : List.map J5 x.Copies = rows at r2
  cases r2 with
  | sl0 _ a cap =>
   have : x.Copies = [] := by simpa using hm
   exact ⟨a, cap, by rw [this]; rfl, .inl this⟩
  | sl _ _ r o cap vals h1 h2 h3 h4 =>
   have hlen : rows.length = x.Copies.length := by rw [← hm]; simp
   refine ⟨some ⟨r, o, none⟩, cap, by rw [hlen], .inr ⟨r, o, rfl, by omega, fun k hk => ?_⟩⟩
   have hrow : rows[k]? = some (J5 x.Copies[k]) := by rw [← hm, List.getElem?_map, List.getElem?_eq_getElem hk]; rfl
   have c0 := h3 k 0 _ (.i .i64 x.Copies[k].Page) hrow rfl
   have c1 := h3 k 1 _ (.i .i64 x.Copies[k].LSN) hrow rfl
   have c2 := h3 k 2 _ (.s x.Copies[k].Data) hrow rfl
   have d0 := h4 k 0 _ (.i .i64 x.Copies[k].Page) hrow rfl
   have d1 := h4 k 1 _ (.i .i64 x.Copies[k].LSN) hrow rfl
   have d2 := h4 k 2 _ (.s x.Copies[k].Data) hrow rfl
   rw [J55, J55, J55]
   refine ⟨?_, ?_, ?_⟩
   ·rw [show o + k * 3 = o + k * 3 + 0 from rfl, c0.2, JoS d0]
   ·rw [c1.2, JoS d1]
   ·rw [c2.2, JtY d2]
set_option maxHeartbeats 6400000 in
set_option maxRecDepth 100000 in
theorem Try.encode_bad {x : T_api_Image} {g : Gh} {w : World} {v0 : Value} (hb : J1b x = some false) (hC : ∀ r o, g.C r o → r < w.heap.size) (hv : Jr ⟨[], g, w⟩ (.data (J7 x)) v0) :
  Calls Try.prog 22 #[v0] w fun e w' => e = .returned (.tuple #[.string ⟨#[]⟩, .int .i64 43]) ∧ Bel w w' := by
 have hval : ∀ W, Bel w W → Calls Try.prog 57 #[v0] W fun e W' => e = .returned (.bool false) ∧ Bel W W' := fun W k => JkW (Jb1 _ hb) hC hv k
 obtain ⟨a, cap, rfl, hcells⟩ := Jkw hC hv
 clear hv hcells
 go_enter Try.func22, Try.ntmps22
 go_wp2_with (go_at_call 57; refine (hval _ (Bel.alloc w _)).mono ?_; rintro e W ⟨rfl, k⟩)
 go_ret2
 exact ⟨rfl, (Bel.alloc w _).trans k⟩
theorem JtA {f : List UInt8} (h : Hid (f.length ≤ 140737488355328)) : ([] : List Value).length + (⟨f.toArray⟩ : ByteArray).size ≤ 140737488355328 := by
 have h := h.out
 rw [Lib.size_eq]
 simpa using h
theorem JsQ {B : Nat} {W W' : World} (h : Hid (B ≤ W.heap.size)) (k : Bel W W') : B ≤ W'.heap.size := Nat.le_trans h.out k.size
theorem Jov {a b c : World} (h : Hid (Bel a b)) (k : Bel b c) : Bel a c := h.out.trans k
theorem JmF (s : List UInt8) (n k : Int) {r : List UInt8} (h : J0e s n k = some r) (W : World) :
  Calls Try.prog 108 #[.string ⟨s.toArray⟩, .int .i64 n, .int .i64 k] W fun e W' => e = .returned (.string ⟨r.toArray⟩) ∧ Bel W W' :=
 JiE (xs := [.s s, .i .i64 n, .i .i64 k]) (vs := [.string ⟨s.toArray⟩, .int .i64 n, .int .i64 k]) (r := .s r) (Jh4 _ h) rfl rfl W
theorem Jiu (s : List UInt8) {r : List UInt8} (h : J2K s = some r) (W : World) :
  Calls Try.prog 107 #[.string ⟨s.toArray⟩] W fun e W' => e = .returned (.string ⟨r.toArray⟩) ∧ Bel W W' :=
 JiE (xs := [.s s]) (vs := [.string ⟨s.toArray⟩]) (r := .s r) (Jll _ h) rfl rfl W
theorem Jor (l m : List UInt8) {d r : List UInt8} (hd : J3z l m = some d) (h : J2K d = some r) (W : World) :
  Calls Try.prog 107 #[.string ((⟨l.toArray⟩ : ByteArray) ++ ⟨m.toArray⟩)] W fun e W' => e = .returned (.string ⟨r.toArray⟩) ∧ Bel W W' := by
 rw [Jl5]
 unfold J3z at hd
 split at hd
 ·injection hd with hd
  subst hd
  exact Jiu _ h W
 ·cases hd
theorem Jrw {l m d : List UInt8} (h : J3z l m = some d) : (l.length : Int) + (m.length : Int) ≤ 9223372036854775807 := by
 unfold J3z at h
 split at h
 ·omega
 ·cases h
theorem JrP {out f : List UInt8} (h : Hid (out.length + f.length ≤ 140737488355328)) : (Lib.byteCells out).length + (⟨f.toArray⟩ : ByteArray).size ≤ 140737488355328 := by
 have h := h.out
 rw [Lib.size_eq, Lib.byteCells_length]
 simpa using h
theorem JqW {B : Nat} {W W' W'' : World} (hB : Hid (B = W.heap.size)) (h : Hid (Bel W W')) (k : Bel W' W'') : B ≤ W''.heap.size := by
 have h1 := hB.out; have h2 := h.out.size; have h3 := k.size; omega
theorem Jqh {x : T_api_Image} (h : J1b x = some true) : x.Copies.length ≤ 64 := by
 unfold J1b at h
 simp only [decide_eq_true_eq] at h
 split at h
 ·cases h
 split at h
 ·cases h
 split at h
 ·cases h
 split at h
 ·cases h
 split at h
 ·cases h
 omega
theorem Jju {j : Nat} (h : j ≤ 64) : Go.RowKit.wrap64 ((j : Int) + 1) = ((j + 1 : Nat) : Int) := by
 unfold Go.RowKit.wrap64
 omega
theorem Jty {j n : Nat} {v : Int} (h : v = ((j + 1 : Nat) : Int)) (hj : j < n) : n - (intOf (Value.int .i64 v)).toNat < n - (intOf (Value.int .i64 (j : Int))).toNat := by
 subst h
 simp only [intOf]
 omega
set_option maxHeartbeats 6400000 in
set_option maxRecDepth 100000 in
theorem Try.encode_good {x : T_api_Image} {g : Gh} {w : World} {v0 : Value} (hb : J1b x = some true) (hC : ∀ r o, g.C r o → r < w.heap.size) (hv : Jr ⟨[], g, w⟩ (.data (J7 x)) v0)
  {h1 h2 h3 f s : List UInt8} (e1 : J0e [80, 77, 73, 77] x.ID 4 = some h1) (e2 : J0e h1 x.Pages 2 = some h2) (e3 : J0e h2 ((x.Copies.length : Nat) : Int) 2 = some h3) (e4 : J2K h3 = some f)
  (hf : f.length ≤ 140737488355328) (e5 : Jcl x.Copies f = some s) :
  Calls Try.prog 22 #[v0] w fun e w' => e = .returned (.tuple #[.string ⟨s.toArray⟩, .int .i64 0]) ∧ Bel w w' := by
 have hval : ∀ W, Bel w W → Calls Try.prog 57 #[v0] W fun e W' => e = .returned (.bool true) ∧ Bel W W' := fun W k => JkW (Jb1 _ hb) hC hv k
 obtain ⟨a, cap, rfl, hcells⟩ := Jkw hC hv
 clear hv
 go_enter Try.func22, Try.ntmps22
 go_wp2_with (go_at_call 57; refine (hval _ (Bel.alloc w _)).mono ?_; rintro e W ⟨rfl, k⟩)
 obtain ⟨W1, hW1⟩ : ∃ W1, W1 = W.alloc (.cells #[.pointer none, .slice none 0 0] 140) := ⟨_, rfl⟩
 obtain ⟨B, hB⟩ : ∃ B, B = W.heap.size := ⟨_, rfl⟩
 have k0 := k.size
 have k0 : w.heap.size + 1 ≤ W.heap.size := by simpa using k0
 have hwB : w.heap.size < B := by omega
 have kW : Bel W W1 := by rw [hW1]; exact Bel.alloc _ _
 have q0 : W1.cell? ⟨w.heap.size, 0, none⟩ = some (.int .i64 x.ID) := kW.cell (k.cell (by simp))
 have q1 : W1.cell? ⟨w.heap.size, 1, none⟩ = some (.int .i64 x.Pages) := kW.cell (k.cell (by simp))
 have q2 : W1.cell? ⟨w.heap.size, 2, none⟩ = some (.slice a x.Copies.length cap) := kW.cell (k.cell (by simp))
 have b0 : Lib.IsBuilder 140 5 B B [] W1 := by rw [hW1, hB]; exact Lib.fresh_isBuilder 140 5 W
 have kk : Bel W1 W1.drew := (Bel.refl _).drew
 have d0 : W1.drew.cell? ⟨w.heap.size, 0, none⟩ = some (.int .i64 x.ID) := q0
 have d1 : W1.drew.cell? ⟨w.heap.size, 1, none⟩ = some (.int .i64 x.Pages) := q1
 have d2 : W1.drew.cell? ⟨w.heap.size, 2, none⟩ = some (.slice a x.Copies.length cap) := q2
 rw [← hW1]
 simp only [← hB]
 have HB : Hid (B = W.heap.size) := hB
 have HW : Hid (Bel w W) := (Bel.alloc w _).trans k
 have HC : Hid (x.Copies = [] ∨ ∃ r o, a = some ⟨r, o, none⟩ ∧ x.Copies.length ≤ cap ∧ ∀ (k : Nat) (h : k < x.Copies.length),
    w.cell? ⟨r, o + k * 3, none⟩ = some (.int .i64 x.Copies[k].Page) ∧ w.cell? ⟨r, o + k * 3 + 1, none⟩ = some (.int .i64 x.Copies[k].LSN) ∧ w.cell? ⟨r, o + k * 3 + 2, none⟩ = some (.string ⟨x.Copies[k].Data.toArray⟩)) := hcells
 have HF : Hid (f.length ≤ 140737488355328) := hf
 have HE : Hid (Jcl x.Copies f = some s) := e5
 have HS : Hid (B ≤ W1.heap.size) := by
  have h9 := kW.size
  show B ≤ W1.heap.size
  omega
 have kW2 : Hid (Bel W W1) := kW
 have HL : Hid (x.Copies.length ≤ 64) := Jqh hb
 clear hW1 hB hcells hf e5 hval k0 kW k hb hC
 go_region_held3 (fun w' : World => w'.cell? ⟨w.heap.size, 0, none⟩ = some (.int .i64 x.ID) ∧ w'.cell? ⟨w.heap.size, 1, none⟩ = some (.int .i64 x.Pages) ∧ w'.cell? ⟨w.heap.size, 2, none⟩ = some (.slice a x.Copies.length cap))
  (exact ⟨by assumption, by assumption, by assumption⟩)
  (first
   | (go_at_call 108; refine (JmF _ _ _ (by assumption) _).mono ?_; rintro e W2 ⟨rfl, kb⟩; have z0 : W2.cell? ⟨w.heap.size, 0, none⟩ = some (.int .i64 x.ID) := kb.cell (by assumption); have z1 : W2.cell? ⟨w.heap.size, 1, none⟩ = some (.int .i64 x.Pages) := kb.cell (by assumption); have z2 : W2.cell? ⟨w.heap.size, 2, none⟩ = some (.slice a x.Copies.length cap) := kb.cell (by assumption); have kk2 : Bel W1 W2 := Bel.trans (by assumption) kb)
   | (go_at_call 107; refine (Jiu _ (by assumption) _).mono ?_; rintro e W2 ⟨rfl, kb⟩; have z0 : W2.cell? ⟨w.heap.size, 0, none⟩ = some (.int .i64 x.ID) := kb.cell (by assumption); have z1 : W2.cell? ⟨w.heap.size, 1, none⟩ = some (.int .i64 x.Pages) := kb.cell (by assumption); have z2 : W2.cell? ⟨w.heap.size, 2, none⟩ = some (.slice a x.Copies.length cap) := kb.cell (by assumption); have kk2 : Bel W1 W2 := Bel.trans (by assumption) kb)
   | (go_at_call 106; refine (Try.WriteString B B [] ⟨f.toArray⟩ _ (Joy b0 (by assumption)) (JtA HF) (JsQ HS (by assumption))).mono ?_; rintro e W2 ⟨rfl, hbd, kb⟩; have z0 : W2.cell? ⟨w.heap.size, 0, none⟩ = some (.int .i64 x.ID) := Jed kb hwB (by assumption); have z1 : W2.cell? ⟨w.heap.size, 1, none⟩ = some (.int .i64 x.Pages) := Jed kb hwB (by assumption); have z2 : W2.cell? ⟨w.heap.size, 2, none⟩ = some (.slice a x.Copies.length cap) := Jed kb hwB (by assumption); have kk3 : Bel W W2 := Bel.below (Jov kW2 (by assumption)) kb (Nat.le_of_eq HB.out.symm)))
 have hI : Lib.IsBuilder 140 5 B B (Lib.byteCells f) W2 := by
  rw [List.nil_append, Lib.strCells_eq] at hbd
  exact Or.inr hbd
 have HI : Hid (Lib.IsBuilder 140 5 B B (Lib.byteCells f) W2) := hI
 have HK : Hid (Bel W W2) := kk3
 clear hbd hI kk3 kk2 kb z0 z1 q0 q1 q2 d0 d1 d2 kk b0
 go_wp2
 go_loopw [25] (fun i wr => ∃ (j : Nat) (out : List UInt8), j ≤ x.Copies.length ∧ i = .int .i64 j ∧ Jcl (x.Copies.drop j) out = some s ∧ Lib.IsBuilder 140 5 B B (Lib.byteCells out) wr ∧ Bel W wr)
  (fun i _ => x.Copies.length - (intOf i).toNat)
 case atStart => exact ⟨0, f, Nat.zero_le _, rfl, by rw [List.drop_zero]; exact HE.out, HI.out, HK.out⟩
 case round =>
  obtain ⟨j, out, hj, rfl, he, hI, hk⟩ := hrel
  by_cases hlt : j < x.Copies.length
  ·obtain ⟨r, o, rfl, hcap, hc⟩ := HC.out.resolve_left (fun h => by rw [h] at hlt; exact Nat.not_lt_zero _ hlt)
   rw [List.drop_eq_getElem_cons hlt] at he
   unfold Jcl at he
   obtain ⟨pb, hpb, he⟩ := Option.bind_eq_some_iff.1 he
   obtain ⟨pd, hpd, he⟩ := Option.bind_eq_some_iff.1 he
   obtain ⟨pf, hpf, he⟩ := Option.bind_eq_some_iff.1 he
   split at he
   case isFalse => cases he
   rename_i hsm
   obtain ⟨t0, t1, t2⟩ := hc j hlt
   have hwk := HW.out.trans hk
   have t0 := hwk.cell t0
   have t1 := hwk.cell t1
   have t2 := hwk.cell t2
   have HE2 : Hid (Jcl (x.Copies.drop (j + 1)) (out ++ pf) = some s) := he
   have HI2 : Hid (Lib.IsBuilder 140 5 B B (Lib.byteCells out) wr) := hI
   have HK2 : Hid (Bel W wr) := hk
   have hn0 : (0 : Int) ≤ (j : Int) := Int.natCast_nonneg _
   have hn1 : (j : Int) < (x.Copies.length : Int) := by omega
   have HS2 : Hid (out.length + pf.length ≤ 140737488355328) := hsm
   have hcs := Jrw hpd
   have hcs2 : ¬ ((9223372036854775807 : Int) < (pb.length : Int) + (x.Copies[j].Data.length : Int)) := by omega
   clear he hI hk hwk hc hsm
   go_wp2
   obtain ⟨W3, hW3⟩ : ∃ W3, W3 = wr.alloc (.cells #[.int .i64 x.Copies[j].Page, .int .i64 x.Copies[j].LSN, .string ⟨x.Copies[j].Data.toArray⟩] 74) := ⟨_, rfl⟩
   have kk : Bel wr W3.drew := by rw [hW3]; exact (Bel.alloc wr _).drew
   have y0 : W3.cell? ⟨wr.heap.size, 0, none⟩ = some (.int .i64 x.Copies[j].Page) := by rw [hW3]; simp
   have y2 : W3.cell? ⟨wr.heap.size, 2, none⟩ = some (.string ⟨x.Copies[j].Data.toArray⟩) := by rw [hW3]; simp
   have d0 : W3.drew.cell? ⟨wr.heap.size, 0, none⟩ = some (.int .i64 x.Copies[j].Page) := y0
   have d2 : W3.drew.cell? ⟨wr.heap.size, 2, none⟩ = some (.string ⟨x.Copies[j].Data.toArray⟩) := y2
   rw [← hW3]
   clear hW3 t0 t1 t2
   go_region_with (first
     | (go_at_call 108; refine (JmF _ _ _ hpb _).mono ?_; rintro e W4 ⟨rfl, kb⟩; have z0 : W4.cell? ⟨wr.heap.size, 0, none⟩ = some (.int .i64 x.Copies[j].Page) := kb.cell (by assumption); have z2 : W4.cell? ⟨wr.heap.size, 2, none⟩ = some (.string ⟨x.Copies[j].Data.toArray⟩) := kb.cell (by assumption); have kk2 : Bel wr W4 := Bel.trans (by assumption) kb)
     | (go_at_call 107; refine (Jor _ _ hpd hpf _).mono ?_; rintro e W4 ⟨rfl, kb⟩; have kk2 : Bel wr W4 := Bel.trans (by assumption) kb)
     | (go_at_call 106; refine (Try.WriteString B B (Lib.byteCells out) ⟨pf.toArray⟩ _ (Joy HI2.out (by assumption)) (JrP HS2) (JqW HB HK2 (by assumption))).mono ?_; rintro e W4 ⟨rfl, hbd, kb⟩; have kk3 : Bel W W4 := Bel.below (Jov HK2 (by assumption)) kb (Nat.le_of_eq HB.out.symm)))
   all_goals
    have hI' : Lib.IsBuilder 140 5 B B (Lib.byteCells (out ++ pf)) W4 := by
     rw [Lib.strCells_eq, ← Lib.byteCells_append] at hbd
     exact Or.inr hbd
    clear hbd kb
    go_wp2
    exact ⟨⟨j + 1, out ++ pf, hlt, congrArg (Value.int .i64) (Jju (Nat.le_trans hj HL.out)), HE2.out, hI', kk3⟩, Jty (Jju (Nat.le_trans hj HL.out)) hlt⟩
  ·have hj2 : j = x.Copies.length := by omega
   subst hj2
   rw [List.drop_length] at he
   unfold Jcl at he
   injection he with he
   subst he
   go_wp2_with (go_at_call 109; refine (Try.String B B out wr hI (Nat.le_trans (by rw [HB.out]; exact Nat.le_refl _) hk.size)).mono ?_; rintro e W5 ⟨rfl, kb⟩)
   go_ret2
   exact ⟨rfl, Bel.below (HW.out.trans hk) kb (Nat.le_of_lt hwB)⟩
theorem Jvg {σ : List Blk} {g : Gh} {w w' : World} (hi : Inv ⟨σ, g, w⟩) (hb : Bel w w') : Inv ⟨σ, g, w'⟩ ∧ JE ⟨σ, g, w⟩ ⟨σ, g, w'⟩ := by
 have hk : ∀ (r : Nat) x, w.heap[r]? = some x → w'.heap[r]? = some x := fun r x h => by rw [hb.block r (J0r h)]; exact h
 have hc : ∀ r o v, JY w r o = some v → JY w' r o = some v := by
  intro r o v h
  have hr : r < w.heap.size := by
   unfold JY at h
   split at h
   ·rename_i hx; exact J0r hx
   ·cases h
  unfold JY at h ⊢
  rw [hb.block r hr]
  exact h
 have t : JE ⟨σ, g, w⟩ ⟨σ, g, w'⟩ := by
  refine ⟨⟨hb.size, fun r c e fz h => ⟨c, hk r _ h, rfl, fun _ _ => rfl⟩, fun r x h _ => hk r x h, hb.os, hb.output⟩, fun _ _ h => h, fun _ _ h => .inl h, fun r o ⟨b, hb⟩ => .inl ⟨b, hb⟩, Nat.le_refl _, fun _ cs h => ⟨⟨cs, h, rfl⟩, rfl⟩,
   fun _ wm _ rows h => ⟨wm, rows, h, id, Nat.le_refl _, fun _ => rfl⟩⟩
 exact ⟨J7j hi t (fun _ => False) (fun _ _ => ⟨rfl, rfl⟩) (fun _ r o v _ _ h => hc r o v h) (fun _ _ h => h.elim) (fun _ _ _ _ h => h.elim)
  (fun _ _ _ _ h => h.elim) (fun r o h => Nat.lt_of_lt_of_le (hi.const r o h).1 hb.size) (fun _ _ _ _ h => h.elim) (fun _ _ _ h h' => (h' h).elim), t⟩
theorem JpU {x : T_api_Image} {o : List UInt8 × Int} {g : Gh} {w : World} {v0 : Value} (h : J1O x = some o) (hC : ∀ r o, g.C r o → r < w.heap.size) (hv : Jr ⟨[], g, w⟩ (.data (J7 x)) v0) :
  Calls Try.prog 22 #[v0] w fun e w' => e = .returned (.tuple #[.string ⟨o.1.toArray⟩, .int .i64 o.2]) ∧ Bel w w' := by
 unfold J1O at h
 obtain ⟨v, hb, h⟩ := Option.bind_eq_some_iff.1 h
 cases v with
 | false =>
  rw [if_neg (by decide)] at h
  injection h with h
  subst h
  exact Try.encode_bad hb hC hv
 | true =>
  rw [if_pos rfl] at h
  obtain ⟨h1, e1, h⟩ := Option.bind_eq_some_iff.1 h
  obtain ⟨h2, e2, h⟩ := Option.bind_eq_some_iff.1 h
  obtain ⟨h3, e3, h⟩ := Option.bind_eq_some_iff.1 h
  obtain ⟨f, e4, h⟩ := Option.bind_eq_some_iff.1 h
  split at h
  ·rename_i hf
   obtain ⟨s, e5, h⟩ := Option.bind_eq_some_iff.1 h
   injection h with h
   subst h
   exact Try.encode_good hb hC hv e1 e2 e3 e4 hf e5
  ·cases h
theorem Jjd : ∀ args blks r, Jdb args blks = some r → J74 Try.prog J0k args blks r := by
 intro args blks r h
 obtain ⟨x, o, rfl, hS, rfl⟩ := JoI h
 refine ⟨⟨Try.f22, Try.func22, by kernel_rfl, by kernel_rfl⟩, fun g w vals hi hn hr => ?_⟩
 obtain ⟨v0, rfl⟩ : ∃ v0, vals = #[v0] := by
  obtain ⟨l⟩ := vals
  match l, hn with
  | [v], _ => exact ⟨v, rfl⟩
 have hv0 : Jr ⟨blks, g, w⟩ (.data (J7 x)) v0 := hr 0 _ _ rfl rfl
 have hv : Jr ⟨[], g, w⟩ (.data (J7 x)) v0 := by
  cases hv0 with
  | data _ vs hl hx => exact .data _ vs hl hx
 refine (JpU hS (fun r o h => (hi.const r o h).1) hv).mono ?_
 rintro e w' ⟨rfl, k⟩
 obtain ⟨i2, t2⟩ := Jvg hi k
 refine ⟨_, g, rfl, i2, t2, .tup _ _ rfl fun i y u h1 h2 => ?_⟩
 match i with
 | 0 => simp at h1 h2; subst h1 h2; exact .p _ _ (.s _)
 | 1 => simp at h1 h2; subst h1 h2; exact .p _ _ (.i _ _)
 | i + 2 => simp at h1
noncomputable def Ytiallbcnaadmoaa.encPS : PS := ⟨fun f => if f = J0k then some Jdb else none, if_pos rfl⟩
namespace Ytiallbcnaadmoaa
set_option maxRecDepth 20000 in
theorem Jv3 : J5r Try.prog (AF (J2 encPS)) := by
 refine Jtf mixed (fun f af h => ?_) (fun f g h => ?_) (fun f k h => ?_)
 ·rcases J8C h with ⟨x, h1, h2⟩ | ⟨x, h1, h2⟩ | ⟨x, h1, h2⟩ | ⟨x, h1, h2⟩
  ·rw [J32.fn.inj h2]; exact JoR f _ h1
  ·exact J32.noConfusion h2
  ·exact J32.noConfusion h2
  ·exact J32.noConfusion h2
 ·rcases J8C h with ⟨x, h1, h2⟩ | ⟨x, h1, h2⟩ | ⟨x, h1, h2⟩ | ⟨x, h1, h2⟩
  ·exact J32.noConfusion h2
  ·exact J32.noConfusion h2
  ·rw [J32.prim.inj h2]; exact JoC f _ h1
  ·rw [J32.prim.inj h2]
   have h1 : (if f = J0k then some Jdb else none) = some x := h1
   split at h1
   ·rename_i hf
    injection h1 with h1
    subst h1 hf
    exact Jjd
   ·cases h1
 ·rcases J8C h with ⟨x, h1, h2⟩ | ⟨x, h1, h2⟩ | ⟨x, h1, h2⟩ | ⟨x, h1, h2⟩
  ·exact J32.noConfusion h2
  ·rw [J32.fork.inj h2]; exact Jkl f _ h1
  ·exact J32.noConfusion h2
  ·exact J32.noConfusion h2
end Ytiallbcnaadmoaa
end Go.Proofs
end
