/-
  Parts of a proof.
-/
import Derived.Test.YtkopficpneehnaaChecked
import Derived.Test.YtkopficpneehnaaY4
import Derived.Test.YtkopficpneehnaaY5
import Derived.Test.YtkopficpneehnaaY6
set_option linter.unusedSimpArgs false
set_option linter.unusedVariables false
section
namespace Go.Proofs
open Go.Shelf Go.RowKit Go.Lib Go.Am
set_option linter.unusedSimpArgs false
set_option linter.unusedVariables false
theorem Jkv (x : DT) : cel J3 x = [.sl 1 (x.1.map fun l => [.s l]), .i .i64 x.2.1, .sl 1 (x.2.2.1.map fun n => [.i .i64 n]), .b x.2.2.2.1, .sl 6 (x.2.2.2.2.map J5E)] := rfl
theorem Jsz {s : Sn} {x : DT} {v : Value} (h : Ji s (.data (cel J3 x)) v) : J1u s.w s.g.C x v := by
 rw [Jkv] at h
 cases h with
 | data _ vs hl hr =>
  obtain ⟨l⟩ := vs
  match l, hl with
  | [v0, v1, v2, v3, v4], _ =>
   have r0 := hr 0 _ _ rfl rfl
   have r1 := hr 1 _ _ rfl rfl
   have r2 := hr 2 _ _ rfl rfl
   have r3 := hr 3 _ _ rfl rfl
   have r4 := hr 4 _ _ rfl rfl
   cases r1; cases r3
   exact ⟨v0, v2, v4, rfl, r0, r2, r4⟩
theorem Jmz {s : Sn} {x : DT} {v : Value} (h : J1u s.w s.g.C x v) : Ji s (.data (cel J3 x)) v := by
 obtain ⟨vp, vu, vf, rfl, h1, h2, h3⟩ := h.ex
 rw [Jkv]
 refine .data _ _ rfl fun i y u hy hu => ?_
 match i with
 | 0 => injection hy with hy; injection hu with hu; subst hy hu; exact h1
 | 1 => injection hy with hy; injection hu with hu; subst hy hu; exact .i _ _
 | 2 => injection hy with hy; injection hu with hu; subst hy hu; exact h2
 | 3 => injection hy with hy; injection hu with hu; subst hy hu; exact .b _
 | 4 => injection hy with hy; injection hu with hu; subst hy hu; exact h3
 | i + 5 => simp at hy
theorem Jgz {blks : List Blk} {g : Gh} {w w' : World} (hi : Inv ⟨blks, g, w⟩) (hu : Up w.heap.size w w') {y : DT} {v : Value} (hd : J1u w' (fun r o => g.C r o ∨ w.heap.size ≤ r) y v) :
  ∃ g', Inv ⟨blks, g', w'⟩ ∧ Ju ⟨blks, g, w⟩ ⟨blks, g', w'⟩ ∧ Ji ⟨blks, g', w'⟩ (.data (cel J3 y)) v := by
 obtain ⟨h1, h2⟩ := Joh hi hu (fun r o => w.heap.size ≤ r ∧ r < w'.heap.size) (fun _ _ h => h)
 exact ⟨_, h1, h2, Jmz (hd.keeps fun r o u hc hx => ⟨hc.imp id fun h => ⟨h, J4P hx⟩, hx⟩)⟩
theorem JrB {s : Sn} {x : DT} {n : Int} {l : List UInt8} {vals : Array Value} (hl : 3 = vals.size)
  (ha : ∀ (i : Nat) y v, ([.data (cel J3 x), .p (.i .i64 n), .p (.s l)] : List AV)[i]? = some y → vals[i]? = some v → Ji s y v) : ∃ v, vals = #[v, .int .i64 n, .string ⟨l.toArray⟩] ∧ J1u s.w s.g.C x v := by
 obtain ⟨vl⟩ := vals
 match vl, hl with
 | [v0, v1, v2], _ =>
  have r0 := ha 0 _ _ rfl rfl
  have r1 := ha 1 _ _ rfl rfl
  have r2 := ha 2 _ _ rfl rfl
  cases r1 with | p _ _ r1 => cases r2 with | p _ _ r2 => cases r1; cases r2; exact ⟨v0, rfl, Jsz r0⟩
theorem JgZ : ∀ args blks r, Jly J3 Js7 args blks = some r → J1T Try.prog 45 args blks r := Jqr fun x n l y blks hy =>
 ⟨⟨Try.f45, Try.func45, by kernel_rfl, by kernel_rfl⟩, fun g w vals hi hl ha => by
  obtain ⟨v, rfl, hd⟩ := JrB hl ha
  obtain ⟨⟨h0, h1, h2, h3⟩, rfl⟩ := J99 (show J8S x n l = some y from hy)
  obtain ⟨k, rfl⟩ := Int.eq_ofNat_of_zero_le h0
  refine (Try.set_D g.C x k l v w hd h1 h2 h3).mono ?_
  rintro e w' ⟨v', rfl, hu, hd'⟩
  obtain ⟨g', q1, q2, q3⟩ := Jgz hi hu hd'
  exact ⟨v', g', rfl, q1, q2, q3⟩⟩
end Go.Proofs
end
section
namespace Go.Proofs.YtkOd
open Go.Am Go.Am.Od
set_option maxRecDepth 20000
theorem J5H : Jw Try.prog i_draw_Codes_Next (erF J0M) = true := by kernel_rfl
theorem J5J : Jw Try.prog J2T (erF J2N) = true := by kernel_rfl
theorem J6b : Jw Try.prog Jz (erF J13) = true := by kernel_rfl
theorem J4O : Jw Try.prog JU (erF J0F) = true := by kernel_rfl
theorem J8F : Jw Try.prog J0k (erF J28) = true := by kernel_rfl
theorem J48 {α : Type} {f : FuncId} {a : α} : ∀ {l : List (FuncId × α)}, lkA f l = some a → (f, a) ∈ l
 | [], h => by cases h
 | (g, b) :: r, h => by
  simp only [lkA] at h
  split at h
  ·rename_i e; injection h with h; subst h e; exact List.mem_cons_self
  ·exact List.mem_cons_of_mem _ (J48 h)
def J2W (l : List (FuncId × AFn)) : Prop := ∀ x ∈ l, Jw Try.prog x.1 x.2 = true
def J5q (l : List (FuncId × J4N)) : Prop := ∀ x ∈ l, Jw Try.prog x.1 x.2.af = true
theorem Jg1 : J2W [] := fun _ h => by cases h
theorem Jr {f a l} (h : Jw Try.prog f a = true) (hl : J2W l) : J2W ((f, a) :: l) := fun x hx => by
 rcases List.mem_cons.1 hx with rfl | hx
 ·exact h
 ·exact hl x hx
theorem Jdw : J5q [] := fun _ h => by cases h
theorem Jg8 {f a l} (h : Jw Try.prog f a.af = true) (hl : J5q l) : J5q ((f, a) :: l) := fun x hx => by
 rcases List.mem_cons.1 hx with rfl | hx
 ·exact h
 ·exact hl x hx
theorem Jc7 : J2W fns := Jr J5H <| Jr J5J <| Jr J6b <| Jr J4O <| Jr J8F <| Jg1
theorem JbT : J5q fks := Jdw
theorem mixed : Try.prog.follows .mixedOrders = true := by kernel_rfl
def Jcd : PS := fun _ => none
theorem soundT : J2A Try.prog (AF (tabO Jcd)) := by
 refine Jma mixed (fun f af h => ?_) (fun f g h => ?_) (fun f k h => ?_)
 ·rcases J31 h with ⟨x, h1, h2⟩ | ⟨x, h1, h2⟩ | ⟨x, h1, h2⟩ | ⟨x, h1, h2⟩
  ·injection h2 with h2; subst h2; exact Jc7 _ (J48 h1)
  ·cases h2
  ·cases h2
  ·cases h2
 ·rcases J31 h with ⟨x, h1, h2⟩ | ⟨x, h1, h2⟩ | ⟨x, h1, h2⟩ | ⟨x, h1, h2⟩
  ·cases h2
  ·cases h2
  ·cases h1
  ·cases h1
 ·rcases J31 h with ⟨x, h1, h2⟩ | ⟨x, h1, h2⟩ | ⟨x, h1, h2⟩ | ⟨x, h1, h2⟩
  ·cases h2
  ·injection h2 with h2; subst h2; exact JbT _ (J48 h1)
  ·cases h2
  ·cases h2
end Go.Proofs.YtkOd
end
section
namespace Go.Proofs
theorem Jjh : ∀ args blks r, Am.JrR args blks = some r → Am.J1T Try.prog Am.Od.i_law04_odd args blks r := fun args blks r h => YtkOd.soundT _ _ _ _ h
end Go.Proofs
end
section
namespace Go.Proofs.Ytkopficpneehnaa
open Go.Am
set_option maxRecDepth 20000
theorem Jcp : Jw Try.prog J0O (erF J3U) = true := by kernel_rfl
theorem Jeb : Jw Try.prog J29 (erF J4L) = true := by kernel_rfl
theorem Jg0 : Jw Try.prog J0d (erF J5w) = true := by kernel_rfl
theorem JcD : Jw Try.prog J0y (erF J3X) = true := by kernel_rfl
theorem Jcv : Jw Try.prog J0L (erF J3V) = true := by kernel_rfl
theorem J4E : Jw Try.prog JF (erF J0v) = true := by kernel_rfl
theorem J4a : Jw Try.prog JD (erF J0j) = true := by kernel_rfl
theorem J67 : Jw Try.prog JQ (erF J12) = true := by kernel_rfl
theorem J5r : Jw Try.prog JO (erF J0H) = true := by kernel_rfl
theorem Jfm : Jw Try.prog J0P (erF J5i) = true := by kernel_rfl
theorem JdY : Jw Try.prog J0Y (erF J4J) = true := by kernel_rfl
theorem Jfx : Jw Try.prog J1R (erF J5l) = true := by kernel_rfl
theorem JiM : Jw Try.prog J1J (erF J6N) = true := by kernel_rfl
theorem Jet : Jw Try.prog J1D (erF J4K) = true := by kernel_rfl
theorem J9u : Jw Try.prog J0G (erF J2u) = true := by kernel_rfl
theorem J7P : Jw Try.prog J0m (erF J1W) = true := by kernel_rfl
theorem JgW : Jw Try.prog J1k (erF J64) = true := by kernel_rfl
theorem J5H : Jw Try.prog i_draw_Codes_Next (erF J0M) = true := by kernel_rfl
theorem Jbz : Jw Try.prog J11 (erF J3E) = true := by kernel_rfl
theorem J6b : Jw Try.prog Jz (erF J13) = true := by kernel_rfl
theorem J4O : Jw Try.prog JU (erF J0F) = true := by kernel_rfl
theorem Jck : Jw Try.prog J1y (erF J3T) = true := by kernel_rfl
theorem JlF : Jw Try.prog J4h (erF J87) = true := by kernel_rfl
theorem Jh5 : Jw Try.prog J2J (erF J5T) = true := by kernel_rfl
theorem J8F : Jw Try.prog J0k (erF J28) = true := by kernel_rfl
theorem JgM : Jw Try.prog J1o (erF J61) = true := by kernel_rfl
theorem Jh4 : Jw Try.prog J16 (erF J5U) = true := by kernel_rfl
theorem Jfb : Jw Try.prog J1Q (erF J5d) = true := by kernel_rfl
theorem Jfj : Jw Try.prog J1S (erF J5k) = true := by kernel_rfl
theorem JjA : Jw Try.prog J34 (erF J7s) = true := by kernel_rfl
theorem JjP : Jw Try.prog J3Q (erF J7v) = true := by kernel_rfl
theorem JfR : Jw Try.prog J0S (erF J5u) = true := by kernel_rfl
theorem JhU : Jw Try.prog J3c (erF J6T) = true := by kernel_rfl
theorem Jee : Jw Try.prog J27 (erF J4M) = true := by kernel_rfl
theorem Jhb : Jw Try.prog J1j (erF J5W) = true := by kernel_rfl
theorem JiF : Jw Try.prog J3a (erF J6Y) = true := by kernel_rfl
theorem JgT : Jw Try.prog J2g (erF J60) = true := by kernel_rfl
theorem JaU : Jw Try.prog J3k (erF J3i) = true := by kernel_rfl
theorem JdA : Jw Try.prog J8H (erF J8u) = true := by kernel_rfl
theorem JgV : Jw Try.prog JaM (erF JaO) = true := by kernel_rfl
theorem J5J : Jw Try.prog J2T (erF J2N) = true := by kernel_rfl
theorem JaX : Jw Try.prog J74 (erF J73) = true := by kernel_rfl
theorem JgJ : Jw Try.prog JaQ (erF JaP) = true := by kernel_rfl
theorem JeO : Jw Try.prog J96 (erF J9l) = true := by kernel_rfl
theorem Jjj : Jw Try.prog JbQ (erF Jbi) = true := by kernel_rfl
theorem JiE : Jw Try.prog Jb1 (erF Jbx) = true := by kernel_rfl
theorem J5B : Jw Try.prog JE (J8s J4 48).af = true := by kernel_rfl
theorem J48 {α : Type} {f : FuncId} {a : α} : ∀ {l : List (FuncId × α)}, lkA f l = some a → (f, a) ∈ l
 | [], h => by cases h
 | (g, b) :: r, h => by
  simp only [lkA] at h
  split at h
  ·rename_i e; injection h with h; subst h e; exact List.mem_cons_self
  ·exact List.mem_cons_of_mem _ (J48 h)
def J2W (l : List (FuncId × AFn)) : Prop := ∀ x ∈ l, Jw Try.prog x.1 x.2 = true
def J5q (l : List (FuncId × J4N)) : Prop := ∀ x ∈ l, Jw Try.prog x.1 x.2.af = true
theorem Jg1 : J2W [] := fun _ h => by cases h
theorem Jr {f a l} (h : Jw Try.prog f a = true) (hl : J2W l) : J2W ((f, a) :: l) := fun x hx => by
 rcases List.mem_cons.1 hx with rfl | hx
 ·exact h
 ·exact hl x hx
theorem Jdw : J5q [] := fun _ h => by cases h
theorem Jg8 {f a l} (h : Jw Try.prog f a.af = true) (hl : J5q l) : J5q ((f, a) :: l) := fun x hx => by
 rcases List.mem_cons.1 hx with rfl | hx
 ·exact h
 ·exact hl x hx
theorem Jc7 : J2W fns := Jr Jcp <| Jr Jeb <| Jr Jg0 <| Jr JcD <| Jr Jcv <| Jr J4E <| Jr J4a <| Jr J67 <| Jr J5r <| Jr Jfm <| Jr JdY <| Jr Jfx <| Jr JiM <| Jr Jet <| Jr J9u <| Jr J7P <| Jr JgW <| Jr J5H <| Jr Jbz <| Jr J6b <| Jr J4O <| Jr Jck <| Jr JlF <| Jr Jh5 <| Jr J8F <| Jr JgM <| Jr Jh4 <| Jr Jfb <| Jr Jfj <| Jr JjA <| Jr JjP <| Jr JfR <| Jr JhU <| Jr Jee <| Jr Jhb <| Jr JiF <| Jr JgT <| Jr JaU <| Jr JdA <| Jr JgV <| Jr J5J <| Jr JaX <| Jr JgJ <| Jr JeO <| Jr Jjj <| Jr JiE <| Jg1
theorem JbT : J5q fks := Jg8 J5B <| Jdw
def Jce (l : List (FuncId × Prm)) : Prop := ∀ x ∈ l, ∀ args blks r, x.2 args blks = some r → J1T Try.prog x.1 args blks r
theorem Jpd : Jce [] := fun _ h => by cases h
theorem J8U {f a l} (h : ∀ args blks r, a args blks = some r → J1T Try.prog f args blks r) (hl : Jce l) : Jce ((f, a) :: l) := fun x hx => by
 rcases List.mem_cons.1 hx with rfl | hx
 ·exact h
 ·exact hl x hx
theorem JkQ : Jce fps := J8U J6G <| J8U Jcr <| J8U JgZ <| J8U Jjh <| Jpd
theorem mixed : Try.prog.follows .mixedOrders = true := by kernel_rfl
def Jcd : PS := fun _ => none
theorem soundT : J2A Try.prog (AF (tabO Jcd)) := by
 refine Jma mixed (fun f af h => ?_) (fun f g h => ?_) (fun f k h => ?_)
 ·rcases J31 h with ⟨x, h1, h2⟩ | ⟨x, h1, h2⟩ | ⟨x, h1, h2⟩ | ⟨x, h1, h2⟩
  ·injection h2 with h2; subst h2; exact Jc7 _ (J48 h1)
  ·cases h2
  ·cases h2
  ·cases h2
 ·rcases J31 h with ⟨x, h1, h2⟩ | ⟨x, h1, h2⟩ | ⟨x, h1, h2⟩ | ⟨x, h1, h2⟩
  ·cases h2
  ·cases h2
  ·injection h2 with h2; subst h2; exact JkQ _ (J48 h1)
  ·cases h1
 ·rcases J31 h with ⟨x, h1, h2⟩ | ⟨x, h1, h2⟩ | ⟨x, h1, h2⟩ | ⟨x, h1, h2⟩
  ·cases h2
  ·injection h2 with h2; subst h2; exact JbT _ (J48 h1)
  ·cases h2
  ·cases h2
end Go.Proofs.Ytkopficpneehnaa
end
section
namespace Go.Am
theorem JsF {F : Orc} {f : FuncId} {g : Sig} {S : (tyL g.ti).D → Option (tyL g.to).D} {xs : List TA} {x : (tyL g.ti).D} {y : (tyL g.to).D} {v : TV} (he : EOk F (sigE f g S)) (hx : Jdq g xs [] = some x) (hS : S x = some y)
  (hv : JeV g y = some (v, [])) : F f (xs.map (J0c (lns []))) [] = some (Js (lns []) v, []) := by
 have h : (sigE f g S).go xs [] (fun v out => some (v, out)) = some (v, ([] : List (Bool × TB))) := by
  simp only [sigE, hx, hS, Option.bind_some, hv]
  cases g.same <;> rfl
 obtain ⟨v, out, h1, _, h3⟩ := he.ok h
 injection h3 with h3; injection h3 with h4 h5; subst h4 h5
 exact h1
end Go.Am
namespace Go.Proofs.Ytkopficpneehnaa
open Go.Am Go.RowKit Go.Proofs
set_option maxRecDepth 100000
theorem Jk1 (x : DT) (p e : Int) (hS : J0W (x, p) = some e) (C : Nat → Nat → Prop) (w : World) (v : Value) (h : J1u w C x v) :
  Calls Try.prog 41 #[v, .int .i64 p] w fun en w' => en = .returned (.int .i64 e) ∧ Up w.heap.size w w' := by
 have run := JsF (J8X Jcd) (xs := [.dt J3 x, .c (.d (.i .i64) p)]) (x := (x, p)) rfl hS (v := .a (.c (.d (.i .i64) e))) rfl
 have ok := soundT _ _ _ _ run
 refine (Jms ok rfl (w := w) C (vals := #[v, .int .i64 p]) rfl (fun i a u ha hu => ?_)).mono ?_
 ·match i with
  | 0 =>
   injection ha with ha; injection hu with hu; subst ha hu
   exact Jmz (s := ⟨[], ghC C w, w⟩) (h.keeps fun r o u hc hx => ⟨.inr ⟨hc, J4P hx⟩, hx⟩)
  | 1 => injection ha with ha; injection hu with hu; subst ha hu; exact .p _ _ (.i _ _)
  | i + 2 => simp at ha
 ·rintro en w' ⟨u, g', rfl, hu, hr, _⟩
  cases hr with
  | p _ _ hr => cases hr; exact ⟨rfl, hu⟩
theorem JcZ (w : World) (C : Nat → Nat → Prop) : J1u w C ([], 0, [], false, []) Jdt := ⟨_, _, _, rfl, .sl0 1 none 0, .sl0 1 none 0, .sl0 6 none 0⟩
theorem Je6 : ∀ args blks r, JdI J3 J02 args blks = some r → J1T Try.prog 19 args blks r := Jql fun x n l y blks hy =>
 ⟨⟨Try.f19, Try.func19, by kernel_rfl, by kernel_rfl⟩, fun g w vals hi hl ha => by
  obtain ⟨v, rfl, hd⟩ := JrB hl ha
  have hy' : JdL (J0W (x, n)) (x, n, l) = some y := hy
  unfold JdL at hy'
  obtain ⟨e, he, hy'⟩ := Option.bind_eq_some_iff.1 hy'
  have hus : ∀ W, Up w.heap.size w W → Calls Try.prog 41 #[v, .int .i64 n] W fun en W' => en = .returned (.int .i64 e) ∧ Up W.heap.size W W' := fun W hW => Jk1 x n e he g.C W v (hd.up hW fun _ _ h _ => h)
  obtain ⟨vp, vu, vf, hv, r1, r2, r3⟩ := hd.ex
  obtain ⟨pa, pn, pc, rfl⟩ := J1K r1
  obtain ⟨ua, un, uc, rfl⟩ := J1M r2
  obtain ⟨fa, fn, fc, rfl⟩ := J1r r3
  subst hv
  have tup : ∀ {g' : Gh} {w' : World} {z : DT} {u : Value} {k : Int}, Ji ⟨blks, g', w'⟩ (.data (cel J3 z)) u → Ji ⟨blks, g', w'⟩ (.tup [.data (cel J3 z), .p (.i .i64 k)]) (.tuple #[u, .int .i64 k]) := fun {g' w' z u k} hz =>
   .tup _ _ rfl fun i a b ha hb => by
    match i with
    | 0 => injection ha with ha; injection hb with hb; subst ha hb; exact hz
    | 1 => injection ha with ha; injection hb with hb; subst ha hb; exact .p _ _ (.i _ _)
    | i + 2 => simp at ha
  have fin : ∀ {z : DT} {k : Int} {w' : World} {u : Value}, Up w.heap.size w w' → J1u w' (fun r o => g.C r o ∨ w.heap.size ≤ r) z u → ∃ v g', (Ending.returned (.tuple #[u, .int .i64 k])) = .returned v ∧ Inv ⟨blks, g', w'⟩ ∧ Ju ⟨blks, g, w⟩ ⟨blks, g', w'⟩ ∧ Ji ⟨blks, g', w'⟩ (.tup [.data (cel J3 z), .p (.i .i64 k)]) v := fun hu hd => by
   obtain ⟨g', q1, q2, q3⟩ := Jgz hi hu hd
   exact ⟨_, g', rfl, q1, q2, tup q3⟩
  split at hy'
  ·rename_i h0
   injection hy' with hy'; subst hy'
   refine (Try.write_err pa ua fa pn pc un uc fn fc x.2.1 n e x.2.2.2.1 ⟨l.toArray⟩ w h0 hus).mono ?_
   rintro en w' ⟨rfl, hu⟩
   exact fin hu (JcZ _ _)
  ·rename_i h0
   have h0' : e = 0 := by omega
   subst h0'
   split at hy'
   ·rename_i h1
    injection hy' with hy'; subst hy'
    refine (Try.write_size pa ua fa pn pc un uc fn fc x.2.1 n x.2.2.2.1 ⟨l.toArray⟩ w (by simpa [ByteArray.size] using h1) hus).mono ?_
    rintro en w' ⟨rfl, hu⟩
    exact fin hu (JcZ _ _)
   ·rename_i h1
    have h1' : l.length = 256 := Decidable.not_not.1 h1
    split at hy'
    ·rename_i h2
     injection hy' with hy'; subst hy'
     have h2' : x.2.1 = 1099511627776 := h2
     have hus2 := hus
     rw [h2'] at hus2 ⊢
     refine (Try.write_limit pa ua fa pn pc un uc fn fc n x.2.2.2.1 ⟨l.toArray⟩ w (by simpa [ByteArray.size] using h1') hus2).mono ?_
     rintro en w' ⟨rfl, hu⟩
     exact fin hu (JcZ _ _)
    ·split at hy'
     ·rename_i h3
      obtain ⟨z, hz, hy'⟩ := Option.map_eq_some_iff.1 hy'
      subst hy'
      refine (Try.write_main g.C x z n l _ w hd h1' h3.1 h3.2.1 h3.2.2 hz hus).mono ?_
      rintro en w' ⟨v', rfl, hu, hd'⟩
      exact fin hu hd'
     ·cases hy'⟩
theorem Js8 : J2A Try.prog (AF (tabO J2a)) := by
 refine Jma mixed (fun f af h => ?_) (fun f g h => ?_) (fun f k h => ?_)
 ·rcases J31 h with ⟨x, h1, h2⟩ | ⟨x, h1, h2⟩ | ⟨x, h1, h2⟩ | ⟨x, h1, h2⟩
  ·injection h2 with h2; subst h2; exact Jc7 _ (J48 h1)
  ·cases h2
  ·cases h2
  ·cases h2
 ·rcases J31 h with ⟨x, h1, h2⟩ | ⟨x, h1, h2⟩ | ⟨x, h1, h2⟩ | ⟨x, h1, h2⟩
  ·cases h2
  ·cases h2
  ·injection h2 with h2; subst h2; exact JkQ _ (J48 h1)
  ·injection h2 with h2; subst h2
   unfold J2a at h1
   split at h1
   ·rename_i hf; injection h1 with h1; subst h1; subst hf; exact Je6
   ·cases h1
 ·rcases J31 h with ⟨x, h1, h2⟩ | ⟨x, h1, h2⟩ | ⟨x, h1, h2⟩ | ⟨x, h1, h2⟩
  ·cases h2
  ·injection h2 with h2; subst h2; exact JbT _ (J48 h1)
  ·cases h2
  ·cases h2
end Go.Proofs.Ytkopficpneehnaa
end
