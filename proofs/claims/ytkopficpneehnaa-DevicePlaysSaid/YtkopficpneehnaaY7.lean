/-
  Parts of a proof.
-/
import Derived.Test.YtkopficpneehnaaChecked
import Derived.Test.YtkopficpneehnaaY4
import Derived.Test.YtkopficpneehnaaY5
import Derived.Test.YtkopficpneehnaaY6
set_option linter.unusedSimpArgs false
set_option linter.unusedVariables false
section
namespace Go.Proofs
open Go.Shelf Go.RowKit Go.Lib Go.Am
set_option linter.unusedSimpArgs false
set_option linter.unusedVariables false
theorem Jl0 (x : DT) : cel J3 x = [.sl 1 (x.1.map fun l => [.s l]), .i .i64 x.2.1, .sl 1 (x.2.2.1.map fun n => [.i .i64 n]), .b x.2.2.2.1, .sl 6 (x.2.2.2.2.map J5z)] := rfl
theorem Js0 {s : Sn} {x : DT} {v : Value} (h : Ji s (.data (cel J3 x)) v) : J1r s.w s.g.C x v := by
 rw [Jl0] at h
 cases h with
 | data _ vs hl hr =>
  obtain ⟨l⟩ := vs
  match l, hl with
  | [v0, v1, v2, v3, v4], _ =>
   have r0 := hr 0 _ _ rfl rfl
   have r1 := hr 1 _ _ rfl rfl
   have r2 := hr 2 _ _ rfl rfl
   have r3 := hr 3 _ _ rfl rfl
   have r4 := hr 4 _ _ rfl rfl
   cases r1; cases r3
   exact ⟨v0, v2, v4, rfl, r0, r2, r4⟩
theorem Jnq {s : Sn} {x : DT} {v : Value} (h : J1r s.w s.g.C x v) : Ji s (.data (cel J3 x)) v := by
 obtain ⟨vp, vu, vf, rfl, h1, h2, h3⟩ := h.ex
 rw [Jl0]
 refine .data _ _ rfl fun i y u hy hu => ?_
 match i with
 | 0 => injection hy with hy; injection hu with hu; subst hy hu; exact h1
 | 1 => injection hy with hy; injection hu with hu; subst hy hu; exact .i _ _
 | 2 => injection hy with hy; injection hu with hu; subst hy hu; exact h2
 | 3 => injection hy with hy; injection hu with hu; subst hy hu; exact .b _
 | 4 => injection hy with hy; injection hu with hu; subst hy hu; exact h3
 | i + 5 => simp at hy
theorem Jg4 {blks : List Blk} {g : Gh} {w w' : World} (hi : Inv ⟨blks, g, w⟩) (hu : Up w.heap.size w w') {y : DT} {v : Value} (hd : J1r w' (fun r o => g.C r o ∨ w.heap.size ≤ r) y v) :
  ∃ g', Inv ⟨blks, g', w'⟩ ∧ Ju ⟨blks, g, w⟩ ⟨blks, g', w'⟩ ∧ Ji ⟨blks, g', w'⟩ (.data (cel J3 y)) v := by
 obtain ⟨h1, h2⟩ := Jon hi hu (fun r o => w.heap.size ≤ r ∧ r < w'.heap.size) (fun _ _ h => h)
 exact ⟨_, h1, h2, Jnq (hd.keeps fun r o u hc hx => ⟨hc.imp id fun h => ⟨h, J4X hx⟩, hx⟩)⟩
theorem JrV {s : Sn} {x : DT} {n : Int} {l : List UInt8} {vals : Array Value} (hl : 3 = vals.size)
  (ha : ∀ (i : Nat) y v, ([.data (cel J3 x), .p (.i .i64 n), .p (.s l)] : List AV)[i]? = some y → vals[i]? = some v → Ji s y v) : ∃ v, vals = #[v, .int .i64 n, .string ⟨l.toArray⟩] ∧ J1r s.w s.g.C x v := by
 obtain ⟨vl⟩ := vals
 match vl, hl with
 | [v0, v1, v2], _ =>
  have r0 := ha 0 _ _ rfl rfl
  have r1 := ha 1 _ _ rfl rfl
  have r2 := ha 2 _ _ rfl rfl
  cases r1 with | p _ _ r1 => cases r2 with | p _ _ r2 => cases r1; cases r2; exact ⟨v0, rfl, Js0 r0⟩
theorem JgX : ∀ args blks r, JlU J3 JrZ args blks = some r → J1P Try.prog 45 args blks r := Jqo fun x n l y blks hy =>
 ⟨⟨Try.f45, Try.func45, by kernel_rfl, by kernel_rfl⟩, fun g w vals hi hl ha => by
  obtain ⟨v, rfl, hd⟩ := JrV hl ha
  obtain ⟨⟨h0, h1, h2, h3⟩, rfl⟩ := J9m (show J8u x n l = some y from hy)
  obtain ⟨k, rfl⟩ := Int.eq_ofNat_of_zero_le h0
  refine (Try.set_D g.C x k l v w hd h1 h2 h3).mono ?_
  rintro e w' ⟨v', rfl, hu, hd'⟩
  obtain ⟨g', q1, q2, q3⟩ := Jg4 hi hu hd'
  exact ⟨v', g', rfl, q1, q2, q3⟩⟩
end Go.Proofs
end
section
namespace Go.Am.Od
open Go.Am Go.Proofs
set_option maxRecDepth 20000
theorem J5I : Jw Try.prog i_draw_Codes_Next (erF J0L) = true := by kernel_rfl
theorem J5x : Jw Try.prog J2S (erF J2R) = true := by kernel_rfl
theorem J6k : Jw Try.prog Jz (erF J12) = true := by kernel_rfl
theorem J53 : Jw Try.prog JX (erF J0F) = true := by kernel_rfl
theorem J8A : Jw Try.prog J0k (erF J28) = true := by kernel_rfl
theorem J44 {α : Type} {f : FuncId} {a : α} : ∀ {l : List (FuncId × α)}, lkA f l = some a → (f, a) ∈ l
 | [], h => by cases h
 | (g, b) :: r, h => by
  simp only [lkA] at h
  split at h
  ·rename_i e; injection h with h; subst h e; exact List.mem_cons_self
  ·exact List.mem_cons_of_mem _ (J44 h)
def J2O (l : List (FuncId × AFn)) : Prop := ∀ x ∈ l, Jw Try.prog x.1 x.2 = true
def J5s (l : List (FuncId × J4O)) : Prop := ∀ x ∈ l, Jw Try.prog x.1 x.2.af = true
theorem JfK : J2O [] := fun _ h => by cases h
theorem Jr {f a l} (h : Jw Try.prog f a = true) (hl : J2O l) : J2O ((f, a) :: l) := fun x hx => by
 rcases List.mem_cons.1 hx with rfl | hx
 ·exact h
 ·exact hl x hx
theorem Jdl : J5s [] := fun _ h => by cases h
theorem Jgw {f a l} (h : Jw Try.prog f a.af = true) (hl : J5s l) : J5s ((f, a) :: l) := fun x hx => by
 rcases List.mem_cons.1 hx with rfl | hx
 ·exact h
 ·exact hl x hx
theorem Jcc : J2O fns := Jr J5I <| Jr J5x <| Jr J6k <| Jr J53 <| Jr J8A <| JfK
theorem JbW : J5s fks := Jdl
theorem mixed : Try.prog.follows .mixedOrders = true := by kernel_rfl
def Jc9 : PS := fun _ => none
theorem soundT : J2y Try.prog (AF (tabO Jc9)) := by
 refine Jmb mixed (fun f af h => ?_) (fun f g h => ?_) (fun f k h => ?_)
 ·rcases J30 h with ⟨x, h1, h2⟩ | ⟨x, h1, h2⟩ | ⟨x, h1, h2⟩ | ⟨x, h1, h2⟩
  ·injection h2 with h2; subst h2; exact Jcc _ (J44 h1)
  ·cases h2
  ·cases h2
  ·cases h2
 ·rcases J30 h with ⟨x, h1, h2⟩ | ⟨x, h1, h2⟩ | ⟨x, h1, h2⟩ | ⟨x, h1, h2⟩
  ·cases h2
  ·cases h2
  ·cases h1
  ·cases h1
 ·rcases J30 h with ⟨x, h1, h2⟩ | ⟨x, h1, h2⟩ | ⟨x, h1, h2⟩ | ⟨x, h1, h2⟩
  ·cases h2
  ·injection h2 with h2; subst h2; exact JbW _ (J44 h1)
  ·cases h2
  ·cases h2
end Go.Am.Od
end
section
namespace Go.Proofs
theorem Ji4 : ∀ args blks r, Am.Jro args blks = some r → Am.J1P Try.prog Am.Od.i_law04_odd args blks r := fun args blks r h => Am.Od.soundT _ _ _ _ h
end Go.Proofs
end
section
namespace Go.Proofs.Ytkopficpneehnaa
open Go.Am
set_option maxRecDepth 20000
theorem Jcq : Jw Try.prog J0O (erF J3W) = true := by kernel_rfl
theorem Jeb : Jw Try.prog J22 (erF J4M) = true := by kernel_rfl
theorem Jf8 : Jw Try.prog J0f (erF J5n) = true := by kernel_rfl
theorem Jcx : Jw Try.prog J0y (erF J3X) = true := by kernel_rfl
theorem Jcw : Jw Try.prog J0K (erF J3V) = true := by kernel_rfl
theorem J4z : Jw Try.prog JH (erF J0v) = true := by kernel_rfl
theorem J4a : Jw Try.prog JD (erF J0j) = true := by kernel_rfl
theorem J69 : Jw Try.prog JQ (erF J13) = true := by kernel_rfl
theorem J5h : Jw Try.prog JN (erF J0H) = true := by kernel_rfl
theorem JfG : Jw Try.prog J0T (erF J5f) = true := by kernel_rfl
theorem JeQ : Jw Try.prog J0Y (erF J4K) = true := by kernel_rfl
theorem JfU : Jw Try.prog J1V (erF J5k) = true := by kernel_rfl
theorem Jjd : Jw Try.prog J1G (erF J6O) = true := by kernel_rfl
theorem JeV : Jw Try.prog J1D (erF J4L) = true := by kernel_rfl
theorem J9r : Jw Try.prog J0G (erF J2u) = true := by kernel_rfl
theorem J86 : Jw Try.prog J0m (erF J1X) = true := by kernel_rfl
theorem JgT : Jw Try.prog J1o (erF J5X) = true := by kernel_rfl
theorem J5I : Jw Try.prog i_draw_Codes_Next (erF J0L) = true := by kernel_rfl
theorem JbH : Jw Try.prog J10 (erF J3t) = true := by kernel_rfl
theorem J6k : Jw Try.prog Jz (erF J12) = true := by kernel_rfl
theorem J53 : Jw Try.prog JX (erF J0F) = true := by kernel_rfl
theorem Jcr : Jw Try.prog J1A (erF J3U) = true := by kernel_rfl
theorem JlY : Jw Try.prog J4o (erF J85) = true := by kernel_rfl
theorem JgH : Jw Try.prog J2I (erF J62) = true := by kernel_rfl
theorem J8A : Jw Try.prog J0k (erF J28) = true := by kernel_rfl
theorem JgQ : Jw Try.prog J1m (erF J5V) = true := by kernel_rfl
theorem Jh1 : Jw Try.prog J16 (erF J63) = true := by kernel_rfl
theorem Jg1 : Jw Try.prog J1T (erF J5q) = true := by kernel_rfl
theorem Jfj : Jw Try.prog J1Q (erF J5v) = true := by kernel_rfl
theorem JjR : Jw Try.prog J34 (erF J7u) = true := by kernel_rfl
theorem JjD : Jw Try.prog J3L (erF J7o) = true := by kernel_rfl
theorem JfA : Jw Try.prog J0R (erF J5j) = true := by kernel_rfl
theorem JiS : Jw Try.prog J3a (erF J6K) = true := by kernel_rfl
theorem Jeg : Jw Try.prog J29 (erF J4J) = true := by kernel_rfl
theorem Jh0 : Jw Try.prog J1k (erF J64) = true := by kernel_rfl
theorem Ji6 : Jw Try.prog J3b (erF J6E) = true := by kernel_rfl
theorem Jh6 : Jw Try.prog J2g (erF J5T) = true := by kernel_rfl
theorem JaT : Jw Try.prog J3l (erF J3h) = true := by kernel_rfl
theorem Jd8 : Jw Try.prog J8R (erF J8w) = true := by kernel_rfl
theorem Jh7 : Jw Try.prog JaJ (erF JaM) = true := by kernel_rfl
theorem J5x : Jw Try.prog J2S (erF J2R) = true := by kernel_rfl
theorem JaV : Jw Try.prog J74 (erF J73) = true := by kernel_rfl
theorem JgK : Jw Try.prog JaP (erF JaO) = true := by kernel_rfl
theorem Je9 : Jw Try.prog J99 (erF J9j) = true := by kernel_rfl
theorem Ji9 : Jw Try.prog Jbr (erF Jba) = true := by kernel_rfl
theorem Jim : Jw Try.prog Jbm (erF JbJ) = true := by kernel_rfl
theorem J5A : Jw Try.prog JE (J8L J4 48).af = true := by kernel_rfl
theorem J44 {α : Type} {f : FuncId} {a : α} : ∀ {l : List (FuncId × α)}, lkA f l = some a → (f, a) ∈ l
 | [], h => by cases h
 | (g, b) :: r, h => by
  simp only [lkA] at h
  split at h
  ·rename_i e; injection h with h; subst h e; exact List.mem_cons_self
  ·exact List.mem_cons_of_mem _ (J44 h)
def J2O (l : List (FuncId × AFn)) : Prop := ∀ x ∈ l, Jw Try.prog x.1 x.2 = true
def J5s (l : List (FuncId × J4O)) : Prop := ∀ x ∈ l, Jw Try.prog x.1 x.2.af = true
theorem JfK : J2O [] := fun _ h => by cases h
theorem Jr {f a l} (h : Jw Try.prog f a = true) (hl : J2O l) : J2O ((f, a) :: l) := fun x hx => by
 rcases List.mem_cons.1 hx with rfl | hx
 ·exact h
 ·exact hl x hx
theorem Jdl : J5s [] := fun _ h => by cases h
theorem Jgw {f a l} (h : Jw Try.prog f a.af = true) (hl : J5s l) : J5s ((f, a) :: l) := fun x hx => by
 rcases List.mem_cons.1 hx with rfl | hx
 ·exact h
 ·exact hl x hx
theorem Jcc : J2O fns := Jr Jcq <| Jr Jeb <| Jr Jf8 <| Jr Jcx <| Jr Jcw <| Jr J4z <| Jr J4a <| Jr J69 <| Jr J5h <| Jr JfG <| Jr JeQ <| Jr JfU <| Jr Jjd <| Jr JeV <| Jr J9r <| Jr J86 <| Jr JgT <| Jr J5I <| Jr JbH <| Jr J6k <| Jr J53 <| Jr Jcr <| Jr JlY <| Jr JgH <| Jr J8A <| Jr JgQ <| Jr Jh1 <| Jr Jg1 <| Jr Jfj <| Jr JjR <| Jr JjD <| Jr JfA <| Jr JiS <| Jr Jeg <| Jr Jh0 <| Jr Ji6 <| Jr Jh6 <| Jr JaT <| Jr Jd8 <| Jr Jh7 <| Jr J5x <| Jr JaV <| Jr JgK <| Jr Je9 <| Jr Ji9 <| Jr Jim <| JfK
theorem JbW : J5s fks := Jgw J5A <| Jdl
def Jc7 (l : List (FuncId × Prm)) : Prop := ∀ x ∈ l, ∀ args blks r, x.2 args blks = some r → J1P Try.prog x.1 args blks r
theorem Jpn : Jc7 [] := fun _ h => by cases h
theorem J8Y {f a l} (h : ∀ args blks r, a args blks = some r → J1P Try.prog f args blks r) (hl : Jc7 l) : Jc7 ((f, a) :: l) := fun x hx => by
 rcases List.mem_cons.1 hx with rfl | hx
 ·exact h
 ·exact hl x hx
theorem Jl7 : Jc7 fps := J8Y J6X <| J8Y JcA <| J8Y JgX <| J8Y Ji4 <| Jpn
theorem mixed : Try.prog.follows .mixedOrders = true := by kernel_rfl
def Jc9 : PS := fun _ => none
theorem soundT : J2y Try.prog (AF (tabO Jc9)) := by
 refine Jmb mixed (fun f af h => ?_) (fun f g h => ?_) (fun f k h => ?_)
 ·rcases J30 h with ⟨x, h1, h2⟩ | ⟨x, h1, h2⟩ | ⟨x, h1, h2⟩ | ⟨x, h1, h2⟩
  ·injection h2 with h2; subst h2; exact Jcc _ (J44 h1)
  ·cases h2
  ·cases h2
  ·cases h2
 ·rcases J30 h with ⟨x, h1, h2⟩ | ⟨x, h1, h2⟩ | ⟨x, h1, h2⟩ | ⟨x, h1, h2⟩
  ·cases h2
  ·cases h2
  ·injection h2 with h2; subst h2; exact Jl7 _ (J44 h1)
  ·cases h1
 ·rcases J30 h with ⟨x, h1, h2⟩ | ⟨x, h1, h2⟩ | ⟨x, h1, h2⟩ | ⟨x, h1, h2⟩
  ·cases h2
  ·injection h2 with h2; subst h2; exact JbW _ (J44 h1)
  ·cases h2
  ·cases h2
end Go.Proofs.Ytkopficpneehnaa
end
section
namespace Go.Am
theorem JsW {F : Orc} {f : FuncId} {g : Sig} {S : (tyL g.ti).D → Option (tyL g.to).D} {xs : List TA} {x : (tyL g.ti).D} {y : (tyL g.to).D} {v : TV} (he : EOk F (sigE f g S)) (hx : JdE g xs [] = some x) (hS : S x = some y)
  (hv : Jei g y = some (v, [])) : F f (xs.map (J0c (lns []))) [] = some (Js (lns []) v, []) := by
 have h : (sigE f g S).go xs [] (fun v out => some (v, out)) = some (v, ([] : List (Bool × TB))) := by
  simp only [sigE, hx, hS, Option.bind_some, hv]
  cases g.same <;> rfl
 obtain ⟨v, out, h1, _, h3⟩ := he.ok h
 injection h3 with h3; injection h3 with h4 h5; subst h4 h5
 exact h1
end Go.Am
namespace Go.Proofs.Ytkopficpneehnaa
open Go.Am Go.RowKit Go.Proofs
set_option maxRecDepth 100000
theorem Jk6 (x : DT) (p e : Int) (hS : J0W (x, p) = some e) (C : Nat → Nat → Prop) (w : World) (v : Value) (h : J1r w C x v) :
  Calls Try.prog 41 #[v, .int .i64 p] w fun en w' => en = .returned (.int .i64 e) ∧ Up w.heap.size w w' := by
 have run := JsW (J8W Jc9) (xs := [.dt J3 x, .c (.d (.i .i64) p)]) (x := (x, p)) rfl hS (v := .a (.c (.d (.i .i64) e))) rfl
 have ok := soundT _ _ _ _ run
 refine (Jnv ok rfl (w := w) C (vals := #[v, .int .i64 p]) rfl (fun i a u ha hu => ?_)).mono ?_
 ·match i with
  | 0 =>
   injection ha with ha; injection hu with hu; subst ha hu
   exact Jnq (s := ⟨[], ghC C w, w⟩) (h.keeps fun r o u hc hx => ⟨.inr ⟨hc, J4X hx⟩, hx⟩)
  | 1 => injection ha with ha; injection hu with hu; subst ha hu; exact .p _ _ (.i _ _)
  | i + 2 => simp at ha
 ·rintro en w' ⟨u, g', rfl, hu, hr, _⟩
  cases hr with
  | p _ _ hr => cases hr; exact ⟨rfl, hu⟩
theorem JcY (w : World) (C : Nat → Nat → Prop) : J1r w C ([], 0, [], false, []) Jd1 := ⟨_, _, _, rfl, .sl0 1 none 0, .sl0 1 none 0, .sl0 6 none 0⟩
theorem Jec : ∀ args blks r, Jd2 J3 J01 args blks = some r → J1P Try.prog 19 args blks r := JqK fun x n l y blks hy =>
 ⟨⟨Try.f19, Try.func19, by kernel_rfl, by kernel_rfl⟩, fun g w vals hi hl ha => by
  obtain ⟨v, rfl, hd⟩ := JrV hl ha
  have hy' : JdP (J0W (x, n)) (x, n, l) = some y := hy
  unfold JdP at hy'
  obtain ⟨e, he, hy'⟩ := Option.bind_eq_some_iff.1 hy'
  have hus : ∀ W, Up w.heap.size w W → Calls Try.prog 41 #[v, .int .i64 n] W fun en W' => en = .returned (.int .i64 e) ∧ Up W.heap.size W W' := fun W hW => Jk6 x n e he g.C W v (hd.up hW fun _ _ h _ => h)
  obtain ⟨vp, vu, vf, hv, r1, r2, r3⟩ := hd.ex
  obtain ⟨pa, pn, pc, rfl⟩ := J1L r1
  obtain ⟨ua, un, uc, rfl⟩ := J1K r2
  obtain ⟨fa, fn, fc, rfl⟩ := J1q r3
  subst hv
  have tup : ∀ {g' : Gh} {w' : World} {z : DT} {u : Value} {k : Int}, Ji ⟨blks, g', w'⟩ (.data (cel J3 z)) u → Ji ⟨blks, g', w'⟩ (.tup [.data (cel J3 z), .p (.i .i64 k)]) (.tuple #[u, .int .i64 k]) := fun {g' w' z u k} hz =>
   .tup _ _ rfl fun i a b ha hb => by
    match i with
    | 0 => injection ha with ha; injection hb with hb; subst ha hb; exact hz
    | 1 => injection ha with ha; injection hb with hb; subst ha hb; exact .p _ _ (.i _ _)
    | i + 2 => simp at ha
  have fin : ∀ {z : DT} {k : Int} {w' : World} {u : Value}, Up w.heap.size w w' → J1r w' (fun r o => g.C r o ∨ w.heap.size ≤ r) z u → ∃ v g', (Ending.returned (.tuple #[u, .int .i64 k])) = .returned v ∧ Inv ⟨blks, g', w'⟩ ∧ Ju ⟨blks, g, w⟩ ⟨blks, g', w'⟩ ∧ Ji ⟨blks, g', w'⟩ (.tup [.data (cel J3 z), .p (.i .i64 k)]) v := fun hu hd => by
   obtain ⟨g', q1, q2, q3⟩ := Jg4 hi hu hd
   exact ⟨_, g', rfl, q1, q2, tup q3⟩
  split at hy'
  ·rename_i h0
   injection hy' with hy'; subst hy'
   refine (Try.write_err pa ua fa pn pc un uc fn fc x.2.1 n e x.2.2.2.1 ⟨l.toArray⟩ w h0 hus).mono ?_
   rintro en w' ⟨rfl, hu⟩
   exact fin hu (JcY _ _)
  ·rename_i h0
   have h0' : e = 0 := by omega
   subst h0'
   split at hy'
   ·rename_i h1
    injection hy' with hy'; subst hy'
    refine (Try.write_size pa ua fa pn pc un uc fn fc x.2.1 n x.2.2.2.1 ⟨l.toArray⟩ w (by simpa [ByteArray.size] using h1) hus).mono ?_
    rintro en w' ⟨rfl, hu⟩
    exact fin hu (JcY _ _)
   ·rename_i h1
    have h1' : l.length = 256 := Decidable.not_not.1 h1
    split at hy'
    ·rename_i h2
     injection hy' with hy'; subst hy'
     have h2' : x.2.1 = 1099511627776 := h2
     have hus2 := hus
     rw [h2'] at hus2 ⊢
     refine (Try.write_limit pa ua fa pn pc un uc fn fc n x.2.2.2.1 ⟨l.toArray⟩ w (by simpa [ByteArray.size] using h1') hus2).mono ?_
     rintro en w' ⟨rfl, hu⟩
     exact fin hu (JcY _ _)
    ·split at hy'
     ·rename_i h3
      obtain ⟨z, hz, hy'⟩ := Option.map_eq_some_iff.1 hy'
      subst hy'
      refine (Try.write_main g.C x z n l _ w hd h1' h3.1 h3.2.1 h3.2.2 hz hus).mono ?_
      rintro en w' ⟨v', rfl, hu, hd'⟩
      exact fin hu hd'
     ·cases hy'⟩
theorem Js4 : J2y Try.prog (AF (tabO J27)) := by
 refine Jmb mixed (fun f af h => ?_) (fun f g h => ?_) (fun f k h => ?_)
 ·rcases J30 h with ⟨x, h1, h2⟩ | ⟨x, h1, h2⟩ | ⟨x, h1, h2⟩ | ⟨x, h1, h2⟩
  ·injection h2 with h2; subst h2; exact Jcc _ (J44 h1)
  ·cases h2
  ·cases h2
  ·cases h2
 ·rcases J30 h with ⟨x, h1, h2⟩ | ⟨x, h1, h2⟩ | ⟨x, h1, h2⟩ | ⟨x, h1, h2⟩
  ·cases h2
  ·cases h2
  ·injection h2 with h2; subst h2; exact Jl7 _ (J44 h1)
  ·injection h2 with h2; subst h2
   unfold J27 at h1
   split at h1
   ·rename_i hf; injection h1 with h1; subst h1; subst hf; exact Jec
   ·cases h1
 ·rcases J30 h with ⟨x, h1, h2⟩ | ⟨x, h1, h2⟩ | ⟨x, h1, h2⟩ | ⟨x, h1, h2⟩
  ·cases h2
  ·injection h2 with h2; subst h2; exact JbW _ (J44 h1)
  ·cases h2
  ·cases h2
end Go.Proofs.Ytkopficpneehnaa
end
