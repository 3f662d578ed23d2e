/-
  Parts of a proof.
-/
import Derived.Orders
import Derived.LoopN
import Derived.Scope
import Derived.Test.YtiallbcnaadmoaaM3
set_option linter.unusedSimpArgs false
set_option linter.unusedVariables false
section
namespace Go.Am
def W0 (m : RM Eff) : Prop := ∀ s e, m.run s = some e → e.ws = []
def B0 {α : Type} (m : RM α) : Prop := ∀ s e, m.run s = some e → ∀ b, Loc.blk b ∉ m.reads s
theorem J6D (x : Option AV) : W0 (val x) := fun s e h => by
 cases x with
 | none => cases h
 | some v => simp only [val, RM.run] at h; injection h with h; rw [← h]
theorem J6J (v : AV) : W0 (.ret ⟨v, []⟩) := fun s e h => by simp only [RM.run] at h; injection h with h; rw [← h]
theorem J1r : W0 .fail := fun s e h => by cases h
theorem J0i {α : Type} {m : RM α} {f : α → RM Eff} (h : ∀ a, W0 (f a)) : W0 (m.bind f) := fun s e he => by
 rw [run_bind] at he
 cases hm : m.run s with
 | none => rw [hm] at he; cases he
 | some a => rw [hm] at he; exact h a s e he
theorem Jn8 {b : Nat} {k : Blk → RM Eff} (h : ∀ v, W0 (k v)) : W0 (.blk b k) := fun s e he => by
 simp only [RM.run] at he
 split at he
 ·exact h _ s e he
 ·cases he
theorem JbZ {c : Prop} [Decidable c] {x y : RM Eff} (hx : W0 x) (hy : W0 y) : W0 (if c then x else y) := by split <;> assumption
theorem JtI {g : Nat} {k : AV → RM Eff} (h : ∀ v, W0 (k v)) : W0 (.slot g k) := fun s e he => by
 simp only [RM.run] at he
 split at he
 ·exact h _ s e he
 ·cases he
theorem J3M {α : Type} (a : α) : B0 (.ret a) := fun s e _ b h => by simp [RM.reads] at h
theorem J5L {α : Type} : B0 (.fail : RM α) := fun s e h => by cases h
theorem J8v (x : Option AV) : B0 (val x) := by cases x <;> first | exact J5L | exact J3M _
theorem J0d {α β : Type} {m : RM α} {f : α → RM β} (hm : B0 m) (h : ∀ a, B0 (f a)) : B0 (m.bind f) := fun s e he b hb => by
 rw [run_bind] at he
 rw [J9Q] at hb
 cases hr : m.run s with
 | none => rw [hr] at he; cases he
 | some a =>
  rw [hr] at he hb
  rcases List.mem_append.1 hb with hb | hb
  ·exact hm s a hr b hb
  ·exact h a s e he b (by simpa using hb)
theorem JiP {α : Type} {c : Prop} [Decidable c] {x y : RM α} (hx : B0 x) (hy : B0 y) : B0 (if c then x else y) := by split <;> assumption
theorem J3q (x : Opd) : B0 (ev x) := by
 cases x with
 | t n => exact fun s e _ b h => by simp only [ev, RM.reads, List.mem_cons] at h; rcases h with h | h; cases h; split at h <;> simp [RM.reads] at h
 | c v => exact J3M _
theorem Jtz {α : Type} {g : Nat} {k : AV → RM α} (h : ∀ v, B0 (k v)) : B0 (.slot g k) := fun s e he b hb => by
 simp only [RM.run] at he
 simp only [RM.reads, List.mem_cons] at hb
 rcases hb with hb | hb
 ·cases hb
 ·cases hl : lk g s.env with
  | none => rw [hl] at he; cases he
  | some v =>
   rw [hl] at he hb
   exact h v s e he b hb
theorem JmN : ∀ xs : List Opd, B0 (evs xs)
 | [] => J3M _
 | x :: xs => J0d (J3q x) fun _ => J0d (JmN xs) fun _ => J3M _
theorem Jms (x : Option Opd) : B0 (evo x) := by
 cases x with
 | none => exact J3M _
 | some x => exact J0d (J3q x) fun _ => J3M _
theorem JkS : ∀ (xs : List (Nat × Nat × Opd)), B0 (J2w xs)
 | [] => J3M _
 | (a, b, x) :: xs => by
  unfold J2w
  refine J0d (J3q x) fun v => ?_
  split
  ·exact J0d (JkS xs) fun _ => J3M _
  ·exact J5L
theorem Jox (lo hi mx : Option AV) (c : PV) (hc : ∀ l, c ≠ .s l) : J4x .str (.p c) lo hi mx = none := by
 cases mx with
 | some _ => rfl
 | none => cases c <;> first | rfl | exact absurd rfl (hc _)
theorem JuW (F : Orc) (op : AOp) (new : Nat) (h : JhQ op = false) : W0 (opR F op new) := by
 cases op with
 | mkarr => cases h
 | newboxo => cases h
 | buildo => cases h
 | storen => cases h
 | callo => cases h
 | newbox => cases h
 | box => cases h
 | lits => cases h
 | store => cases h
 | mkslice => cases h
 | call => cases h
 | callv => cases h
 | app => cases h
 | appz => cases h
 | appc => cases h
 | appn => cases h
 | mv x => exact J0i fun _ => J6J _
 | pick c a b =>
  refine J0i fun v => ?_
  cases v with
  | p q => cases q with
   | b x => exact JbZ (J0i fun _ => J6J _) (J0i fun _ => J6J _)
   | _ => exact J1r
  | _ => exact J1r
 | build zero parts =>
  refine J0i fun v => ?_
  split
  ·exact J6D _
  ·exact J1r
 | load agg size x =>
  refine J0i fun v => ?_
  unfold J1X
  split
  ·split
   ·exact J6D _
   ·exact J1r
  ·refine Jn8 fun v => ?_
   cases v <;> try exact J1r
   dsimp only
   split
   ·exact J6D _
   ·exact J1r
  ·refine Jn8 fun v => ?_
   cases v <;> try exact J1r
   dsimp only
   refine JbZ ?_ J1r
   split
   ·split
    ·exact J6D _
    ·exact J1r
   ·exact J1r
  ·exact J1r
 | nilchk x =>
  refine J0i fun v => ?_
  cases v <;> first | exact J6J _ | exact J1r
 | bin op t x y => exact J0i fun _ => J0i fun _ => J6D _
 | un op x => exact J0i fun _ => J6D _
 | conv k x =>
  refine J0i fun v => ?_
  split
  ·exact J6J _
  ·exact J6J _
  ·refine J0i fun _ => ?_
   split
   ·exact J6J _
   ·exact J1r
  ·cases h
  ·exact J1r
 | slice k x lo hi mx =>
  cases k with
  | sl esz => cases h
  | str =>
   refine J0i fun v => J0i fun _ => J0i fun _ => J0i fun _ => ?_
   split
   ·rename_i b i n
    intro s e he
    exfalso
    rw [run_bind] at he
    cases h1 : (fz (.slr b i n)).run s with
    | none => rw [h1] at he; cases he
    | some y =>
     rw [h1] at he
     have hsl : ∃ ez rw, y.1 = [.sl ez rw] := by
      simp only [fz, RM.run] at h1
      split at h1
      ·split at h1
       ·split at h1
        ·simp only [RM.run] at h1; injection h1 with h1; rw [← h1]; exact ⟨_, _, rfl⟩
        ·cases h1
       ·cases h1
      ·cases h1
     obtain ⟨ez, rw', hy⟩ := hsl
     simp only [Option.bind_some, hy, Jox _ _ _ (.sl ez rw') (by simp)] at he
     cases he
   ·exact J6D _
 | faddr off x => exact J0i fun _ => J6D _
 | field agg off size x => exact J0i fun _ => J6D _
 | iaddr esz x y =>
  refine J0i fun v => J0i fun u => ?_
  unfold J2R
  split
  ·refine JbZ ?_ J1r
   split
   ·exact J6J _
   ·exact J1r
  ·refine Jn8 fun v => ?_
   cases v <;> first | exact J1r | exact JbZ (J6J _) J1r
  ·exact J1r
 | aaddr len esz x y => exact J0i fun _ => J0i fun _ => J6D _
 | sidx x y =>
  refine J0i fun v => J0i fun u => ?_
  split
  ·refine JbZ ?_ J1r
   split
   ·exact J6J _
   ·exact J1r
  ·exact J1r
 | aidx agg len esz x y =>
  refine J0i fun v => J0i fun u => ?_
  split
  ·exact JbZ (J6D _) J1r
  ·exact J1r
 | extr x i => exact J0i fun _ => J6D _
 | len str x => exact J0i fun _ => J6D _
 | alen n => exact J6J _
 | mm mx x y => exact J0i fun _ => J0i fun _ => J6D _
 | mkfn f a b => exact J0i fun _ => J0i fun _ => J6J _
theorem Jvd (F : Orc) (op : AOp) (new : Nat) (h : Jmd op = false) : B0 (opR F op new) := by
 cases op with
 | mkarr => cases h
 | newboxo => cases h
 | buildo => cases h
 | storen => cases h
 | callo => cases h
 | newbox => cases h
 | box => cases h
 | lits => cases h
 | store => cases h
 | mkslice => cases h
 | call => cases h
 | callv => cases h
 | app => cases h
 | appz => cases h
 | appc => cases h
 | appn => cases h
 | load => cases h
 | iaddr => cases h
 | mv x => exact J0d (J3q x) fun _ => J3M _
 | pick c a b =>
  refine J0d (J3q c) fun v => ?_
  cases v with
  | p q => cases q with
   | b x => exact JiP (J0d (J3q a) fun _ => J3M _) (J0d (J3q b) fun _ => J3M _)
   | _ => exact J5L
  | _ => exact J5L
 | build zero parts =>
  refine J0d (JkS parts) fun v => ?_
  split
  ·exact J8v _
  ·exact J5L
 | nilchk x =>
  refine J0d (J3q x) fun v => ?_
  cases v <;> first | exact J3M _ | exact J5L
 | bin op t x y => exact J0d (J3q x) fun _ => J0d (J3q y) fun _ => J8v _
 | un op x => exact J0d (J3q x) fun _ => J8v _
 | conv k x =>
  refine J0d (J3q x) fun v => ?_
  split
  ·exact J3M _
  ·exact J3M _
  ·cases h
  ·cases h
  ·exact J5L
 | slice k x lo hi mx =>
  cases k with
  | sl esz => cases h
  | str =>
   refine J0d (J3q x) fun v => J0d (Jms lo) fun _ => J0d (Jms hi) fun _ => J0d (Jms mx) fun _ => ?_
   split
   ·rename_i b i n
    intro s e he
    exfalso
    rw [run_bind] at he
    cases h1 : (fz (.slr b i n)).run s with
    | none => rw [h1] at he; cases he
    | some y =>
     rw [h1] at he
     have hsl : ∃ ez rw, y.1 = [.sl ez rw] := by
      simp only [fz, RM.run] at h1
      split at h1
      ·split at h1
       ·split at h1
        ·simp only [RM.run] at h1; injection h1 with h1; rw [← h1]; exact ⟨_, _, rfl⟩
        ·cases h1
       ·cases h1
      ·cases h1
     obtain ⟨ez, rw', hy⟩ := hsl
     simp only [Option.bind_some, hy, Jox _ _ _ (.sl ez rw') (by simp)] at he
     cases he
   ·exact J8v _
 | faddr off x => exact J0d (J3q x) fun _ => J8v _
 | field agg off size x => exact J0d (J3q x) fun _ => J8v _
 | aaddr len esz x y => exact J0d (J3q x) fun _ => J0d (J3q y) fun _ => J8v _
 | sidx x y =>
  refine J0d (J3q x) fun v => J0d (J3q y) fun u => ?_
  split
  ·refine JiP ?_ J5L
   split
   ·exact J3M _
   ·exact J5L
  ·exact J5L
 | aidx agg len esz x y =>
  refine J0d (J3q x) fun v => J0d (J3q y) fun u => ?_
  split
  ·exact JiP (J8v _) J5L
  ·exact J5L
 | extr x i => exact J0d (J3q x) fun _ => J8v _
 | len str x => exact J0d (J3q x) fun _ => J8v _
 | alen n => exact J3M _
 | mm mx x y => exact J0d (J3q x) fun _ => J0d (J3q y) fun _ => J8v _
 | mkfn f a b => exact J0d (JmN a) fun _ => J0d (JmN b) fun _ => J3M _
theorem Jq7 {op : AOp} (h : Jmd op = false) : JhQ op = false := by
 cases op <;> first | rfl | cases h | skip
 ·rename_i k x; cases k <;> first | rfl | cases h
 ·rename_i k x lo hi mx; cases k <;> first | rfl | cases h
theorem JuE {op : AOp} (h : JhQ op = false) : JB op = 0 := by
 cases op <;> first | rfl | cases h | skip
 rename_i k x; cases k <;> first | rfl | cases h
theorem JjS (F : Orc) (i : J0M) (new : Nat) (h : JhQ i.op = false) : W0 (J1E F i new) := by
 have h1 : W0 (opD F i.op new) := J0i fun _ => JuW F _ _ h
 unfold J1E
 split
 ·exact h1
 ·refine JtI fun v => ?_
  split
  ·exact JbZ h1 (J6J _)
  ·exact J6J _
  ·exact J1r
theorem Jp1 (F : Orc) (i : J0M) (new : Nat) (h : Jmd i.op = false) : B0 (J1E F i new) := by
 have h1 : B0 (opD F i.op new) := by
  unfold opD
  rw [JuE (Jq7 h)]
  exact J0d (J3M _) fun _ => Jvd F _ _ h
 unfold J1E
 split
 ·exact h1
 ·refine Jtz fun v => ?_
  split
  ·exact JiP h1 (J3M _)
  ·exact J3M _
  ·exact J5L
end Go.Am
end
section
namespace Go.Am
theorem JJ.weaken {w : World} {C C' : Nat → Nat → Prop} (h : ∀ r o, C r o → C' r o) {x v} (hr : JJ w C x v) : JJ w C' x v := by
 induction hr with
 | b x => exact .b x
 | i k n => exact .i k n
 | s l => exact .s l
 | np => exact .np
 | nf => exact .nf
 | sl0 esz a cap => exact .sl0 esz a cap
 | sl esz rows r o cap vals h1 h2 h3 _ ih => exact .sl esz rows r o cap vals h1 h2 (fun i j row x hr hx => ⟨h _ _ (h3 i j row x hr hx).1, (h3 i j row x hr hx).2⟩) ih
 | slc esz rows a _ ih => exact .slc esz rows a ih
theorem Jp5 {s c : Sn} (hi : Inv s) (hw : c.w = s.w) (hbox : ∀ k cs, c.σ[k]? = some (.box cs) → Jm2 c k cs) (harr : ∀ k wm esz rows, c.σ[k]? = some (.arr wm esz rows) → Jm7 c k wm esz rows)
  (id : Nat → Nat) (inj : ∀ k1 k2, k1 < c.σ.length → k2 < c.σ.length → id k1 = id k2 → k1 = k2) (wr : ∀ k r o, Wr1 c k r o → Wr1 s (id k) r o)
  (hC : ∀ r o, c.g.C r o → r < s.w.heap.size ∧ ∀ k, ¬ Wr1 c k r o) : Inv c := by
 have hlt : ∀ k r o, Wr1 c k r o → k < c.σ.length := by
  intro k r o h
  unfold Wr1 at h
  cases hk : c.σ[k]? with
  | none => rw [hk] at h; exact h.elim
  | some b => exact Jb hk
 exact ⟨hbox, harr, fun k1 k2 r o h1 h2 => inj k1 k2 (hlt _ _ _ h1) (hlt _ _ _ h2) (hi.apart _ _ _ _ (wr _ _ _ h1) (wr _ _ _ h2)), fun r o h => by rw [hw]; exact hC r o h⟩
theorem J6y {m ids sto} : ∀ {xs ys : List AV}, fin.finL m ids sto xs = some ys → xs.length = ys.length ∧ ∀ (i : Nat) x y, xs[i]? = some x → ys[i]? = some y → fin m ids sto x = some y
 | [], ys, h => by simp [fin.finL] at h; subst h; exact ⟨rfl, fun i x y h => by simp at h⟩
 | x :: xs, ys, h => by
  simp only [fin.finL] at h
  split at h
  ·rename_i y l hy hl
   injection h with h; subst h
   obtain ⟨h1, h2⟩ := J6y hl
   refine ⟨by simp [h1], fun i a b ha hb => ?_⟩
   cases i with
   | zero => simp at ha hb; subst ha hb; exact hy
   | succ i => exact h2 i a b (by simpa using ha) (by simpa using hb)
  ·cases h
theorem JbA {m ids sto} : ∀ {xs ys : List Blk}, J3m m ids sto xs = some ys → xs.length = ys.length ∧ ∀ (i : Nat) x y, xs[i]? = some x → ys[i]? = some y → J4t m ids sto x = some y
 | [], ys, h => by simp [J3m] at h; subst h; exact ⟨rfl, fun i x y h => by simp at h⟩
 | x :: xs, ys, h => by
  simp only [J3m] at h
  split at h
  ·rename_i y l hy hl
   injection h with h; subst h
   obtain ⟨h1, h2⟩ := JbA hl
   refine ⟨by simp [h1], fun i a b ha hb => ?_⟩
   cases i with
   | zero => simp at ha hb; subst ha hb; exact hy
   | succ i => exact h2 i a b (by simpa using ha) (by simpa using hb)
  ·cases h
theorem Jin {sto} : ∀ {ids : List Nat} {ys : List Blk}, J6W sto ids = some ys → ids.length = ys.length ∧ ∀ (i : Nat) b y, ids[i]? = some b → ys[i]? = some y → sto[b]? = some y
 | [], ys, h => by simp [J6W] at h; subst h; exact ⟨rfl, fun i x y h => by simp at h⟩
 | x :: xs, ys, h => by
  simp only [J6W] at h
  split at h
  ·rename_i y l hy hl
   injection h with h; subst h
   obtain ⟨h1, h2⟩ := Jin hl
   refine ⟨by simp [h1], fun i a b ha hb => ?_⟩
   cases i with
   | zero => simp at ha hb; subst ha hb; exact hy
   | succ i => exact h2 i a b (by simpa using ha) (by simpa using hb)
  ·cases h
theorem JkA {b : Nat} : ∀ {ids : List Nat} {k j : Nat}, J86 b ids k = some j → k ≤ j ∧ ids[j - k]? = some b
 | [], k, j, h => by simp [J86] at h
 | x :: r, k, j, h => by
  simp only [J86] at h
  split at h
  ·rename_i hx; injection h with h; subst h; exact ⟨Nat.le_refl _, by simp [hx]⟩
  ·obtain ⟨h1, h2⟩ := JkA h
   refine ⟨by omega, ?_⟩
   rw [show j - k = (j - (k + 1)) + 1 by omega]
   simpa using h2
theorem JkN {b : Nat} : ∀ {ids : List Nat} {k : Nat}, J86 b ids k = none → b ∉ ids
 | [], _, _ => by simp
 | x :: r, k, h => by
  simp only [J86] at h
  split at h
  ·cases h
  ·rename_i hx
   simp only [List.mem_cons, not_or]
   exact ⟨fun e => hx e.symm, JkN h⟩
theorem Jek : ∀ {l : List Nat}, J4Y l = true → l.Nodup
 | [], _ => List.nodup_nil
 | x :: r, h => by
  simp only [J4Y, Bool.and_eq_true, Bool.not_eq_true'] at h
  refine List.nodup_cons.2 ⟨?_, Jek h.2⟩
  intro hm
  have : r.contains x = true := by simpa using hm
  rw [this] at h; cases h.1
theorem JcD {α : Type} : ∀ {l : List α}, l.Nodup → ∀ {i j : Nat} {x : α}, l[i]? = some x → l[j]? = some x → i = j
 | [], _, i, j, x, h, _ => by simp at h
 | y :: l, h, i, j, x, h1, h2 => by
  obtain ⟨hn, hl⟩ := List.nodup_cons.1 h
  cases i with
  | zero =>
   cases j with
   | zero => rfl
   | succ j => simp at h1 h2; subst h1; exact absurd (JV h2) hn
  | succ i =>
   cases j with
   | zero => simp at h1 h2; subst h2; exact absurd (JV h1) hn
   | succ j => exact congrArg (· + 1) (JcD hl (i := i) (j := j) (x := x) (by simpa using h1) (by simpa using h2))
def JwI (s : Sn) (m : Nat) (ids : List Nat) : Nat → Nat → Prop := fun r o =>
 s.g.C r o ∨ ∃ b wm esz rows, m ≤ b ∧ b ∉ ids ∧ s.σ[b]? = some (Blk.arr wm esz rows) ∧ s.g.μ b = some (r, 0) ∧ o < rows.length * esz
def J7z (s : Sn) (m : Nat) (ids : List Nat) (σ : List Blk) : Sn :=
 ⟨σ, ⟨fun k => if k < m then s.g.μ k else match ids[k - m]? with
  | some b => s.g.μ b
  | none => none, JwI s m ids⟩, s.w⟩
section
variable {s : Sn} {m : Nat} {ids : List Nat} {l q q' : List Blk}
def J6S (m : Nat) (ids : List Nat) (k : Nat) : Nat := if k < m then k else (ids[k - m]?).getD 0
structure Jpn (s : Sn) (m : Nat) (ids : List Nat) (σ : List Blk) : Prop where
 inv : Inv s
 le : m ≤ s.σ.length
 nodup : ids.Nodup
 ge : ∀ b ∈ ids, m ≤ b
 len : σ.length = m + ids.length
 blk : ∀ k x, σ[k]? = some x → ∃ y, s.σ[J6S m ids k]? = some y ∧ J4t m ids s.σ y = some x
variable {σ : List Blk} (h : Jpn s m ids σ)
theorem Jbt (k : Nat) (hk : k < m + ids.length) : (J7z s m ids σ).g.μ k = s.g.μ (J6S m ids k) := by
 simp only [J7z, J6S]
 split
 ·rfl
 ·have : k - m < ids.length := by omega
  simp [this]
include h in
theorem JjF {k : Nat} {x : Blk} (hk : σ[k]? = some x) : k < m + ids.length ∧ ∃ y, s.σ[J6S m ids k]? = some y ∧ J4t m ids s.σ y = some x := by
 have := Jb hk
 exact ⟨by rw [← h.len]; exact this, h.blk k x hk⟩
include h in
theorem JfN {b k : Nat} {y : Blk} (hid : J6S m ids k = b) (hk : k < m + ids.length) (hb : s.σ[b]? = some y) : ∃ x, σ[k]? = some x ∧ J4t m ids s.σ y = some x := by
 have hlt : k < σ.length := by rw [h.len]; exact hk
 obtain ⟨y', h1, h2⟩ := h.blk k σ[k] (List.getElem?_eq_getElem hlt)
 rw [hid, hb] at h1; injection h1 with h1; subst h1
 exact ⟨_, List.getElem?_eq_getElem hlt, h2⟩
theorem J8P {k : Nat} (hk : k < m) : J6S m ids k = k := by simp [J6S, hk]
theorem JjZ {b j : Nat} (hj : J86 b ids m = some j) : J6S m ids j = b ∧ j < m + ids.length := by
 obtain ⟨h1, h2⟩ := JkA hj
 have := Jb h2
 exact ⟨by simp [J6S, h2]; omega, by omega⟩
include h in
theorem Jkd {x y : AV} {v : Value} (hr : Jr s x v) : fin m ids s.σ x = some y → Jr (J7z s m ids σ) y v := by
 have hC : ∀ r o, s.g.C r o → (J7z s m ids σ).g.C r o := fun r o h => .inl h
 induction hr generalizing y with
 | p c v hp => intro hf; simp [fin] at hf; subst hf; exact .p _ _ (hp.weaken hC)
 | data cs vs h1 h2 => intro hf; simp [fin] at hf; subst hf; exact .data _ _ h1 fun i x v hx hv => (h2 i x v hx hv).weaken hC
 | agg cs vs h1 h0 h2 ih =>
  intro hf
  simp only [fin] at hf
  split at hf
  ·rename_i l hl
   obtain ⟨k1, k2⟩ := J6y hl
   have hrel : ∀ (i : Nat) y v, l[i]? = some y → vs[i]? = some v → Jr (J7z s m ids σ) y v := by
    intro i y v hy hv
    have hlt := Jb hy
    have hx : cs[i]? = some (cs[i]'(by omega)) := List.getElem?_eq_getElem _
    exact ih i _ v hx hv (k2 i _ y hx hy)
   split at hf
   ·rename_i q hq
    injection hf with hf; subst hf
    have := Je5 hq; subst this
    refine .data _ _ (by simpa [k1] using h1) fun i c v hc hv => ?_
    have := hrel i (.p c) v (by simp [hc]) hv
    cases this with | p _ _ h => exact h
   ·injection hf with hf; subst hf
    exact .agg _ _ (by omega) h0 hrel
  ·cases hf
 | tup cs vs h1 h2 ih =>
  intro hf
  simp only [fin] at hf
  split at hf
  ·rename_i l hl
   injection hf with hf; subst hf
   obtain ⟨k1, k2⟩ := J6y hl
   refine .tup _ _ (by omega) fun i y v hy hv => ?_
   have hlt := Jb hy
   have hx : cs[i]? = some (cs[i]'(by omega)) := List.getElem?_eq_getElem _
   exact ih i _ v hx hv (k2 i _ y hx hy)
  ·cases hf
 | ptr b off r o hm hb =>
  intro hf
  obtain ⟨cs, hb⟩ := hb
  have go : ∀ k, J6S m ids k = b → k < m + ids.length → Jr (J7z s m ids σ) (.ptr k off) (.pointer (some ⟨r, o + off, none⟩)) := by
   intro k hid hk
   obtain ⟨x, hx, hfx⟩ := JfN h hid hk hb
   simp only [J4t] at hfx
   split at hfx
   ·injection hfx with hfx; subst hfx
    exact .ptr k off r o (by rw [Jbt k hk, hid]; exact hm) ⟨_, hx⟩
   ·cases hfx
  simp only [fin] at hf
  split at hf
  ·rename_i hlt
   injection hf with hf; subst hf
   exact go b (J8P hlt) (by omega)
  ·obtain ⟨k, hk, rfl⟩ := Option.map_eq_some_iff.1 hf
   obtain ⟨h1, h2⟩ := JjZ hk
   exact go k h1 h2
 | cp cs off r o vals p1 p2 =>
  intro hf; simp [fin] at hf; subst hf
  exact .cp cs off r o vals (fun j x hx => ⟨hC _ _ (p1 j x hx).1, (p1 j x hx).2⟩) fun j x hx => (p2 j x hx).weaken hC
 | slr b i n v wm esz rows h0 hb hle hv =>
  intro hf
  have go : ∀ k, J6S m ids k = b → k < m + ids.length → Jr (J7z s m ids σ) (.slr k i n) v := by
   intro k hid hk
   obtain ⟨x, hx, hfx⟩ := JfN h hid hk hb
   simp only [J4t] at hfx
   injection hfx with hfx; subst hfx
   refine .slr k i n v wm esz rows h0 hx hle fun e => ?_
   have hμ : (J7z s m ids σ).g.μ k = s.g.μ b := by rw [Jbt k hk, hid]
   rcases hv e with ⟨m', q1, q2, q3⟩ | ⟨r, cap, c, e1, fz, m', q⟩
   ·exact .inl ⟨by rw [hμ]; exact m', q1, q2, q3⟩
   ·exact .inr ⟨r, cap, c, e1, fz, by rw [hμ]; exact m', q⟩
  simp only [fin] at hf
  split at hf
  ·rename_i hlt
   injection hf with hf; subst hf
   exact go b (J8P hlt) (by omega)
  ·rename_i hge
   split at hf
   ·rename_i k hk
    injection hf with hf; subst hf
    obtain ⟨h1, h2⟩ := JjZ hk
    exact go k h1 h2
   ·rename_i hnone
    rw [hb] at hf
    simp only at hf
    split at hf
    ·rename_i e
     injection hf with hf; subst hf
     obtain ⟨a, cap, k1, k2, k3, k4⟩ := J6V.of_slr h.inv (.slr b i n v wm esz rows h0 hb hle hv) hb e
     refine .p _ _ (Jd0 (s := J7z s m ids σ) k1 k2 k3 (k4.imp id ?_))
     rintro ⟨r, o, rfl, hx⟩
     refine ⟨r, o, rfl, fun k j row x hk hj => ⟨.inr ⟨b, wm, esz, rows, by omega, JkN hnone, hb, ?_⟩, ?_⟩⟩
     ·rcases hv e with ⟨m', q1, q2, q3⟩ | ⟨r', cap', c, e1, fz, m', q1, _⟩
      ·rw [k1] at q3; simp at q3
      ·rw [k1] at q1; injection q1 with v1 v2 v3; injection v1 with v1; injection v1 with v1 v4; subst v1 v4
       refine ⟨m', ?_⟩
       have hk' := Jb hk
       have hj' := Jb hj
       rw [k3 row (JV hk)] at hj'
       rw [List.length_drop] at hk'
       have := J4X (a := i + k) (b := j) (n := rows.length) (e := esz) (by omega) hj'
       rw [Nat.add_mul] at this
       exact this
     ·obtain ⟨u, hu, hr⟩ := hx k j row x hk hj
      exact ⟨u, hu, hr.weaken hC⟩
    ·cases hf
 | ep b ext i off v wm esz rows h0 hb hle hv =>
  intro hf
  have go : ∀ k, J6S m ids k = b → k < m + ids.length → Jr (J7z s m ids σ) (.ep k ext i off) v := by
   intro k hid hk
   obtain ⟨x, hx, hfx⟩ := JfN h hid hk hb
   simp only [J4t] at hfx
   injection hfx with hfx; subst hfx
   refine .ep k ext i off v wm esz rows h0 hx hle fun e1 e2 => ?_
   obtain ⟨r, m', q⟩ := hv e1 e2
   exact ⟨r, by rw [Jbt k hk, hid]; exact m', q⟩
  simp only [fin] at hf
  split at hf
  ·rename_i hlt
   injection hf with hf; subst hf
   exact go b (J8P hlt) (by omega)
  ·obtain ⟨k, hk, rfl⟩ := Option.map_eq_some_iff.1 hf
   obtain ⟨h1, h2⟩ := JjZ hk
   exact go k h1 h2
 | fn f first caps fs cs h1 h2 _ _ ih1 ih2 =>
  intro hf
  simp only [fin] at hf
  split at hf
  ·rename_i a c ha hc
   injection hf with hf; subst hf
   obtain ⟨k1, k2⟩ := J6y ha
   obtain ⟨k3, k4⟩ := J6y hc
   refine .fn f a c fs cs (by omega) (by omega) (fun i y v hy hv => ?_) (fun i y v hy hv => ?_)
   ·have hlt := Jb hy
    have hx : first[i]? = some (first[i]'(by omega)) := List.getElem?_eq_getElem _
    exact ih1 i _ v hx hv (k2 i _ y hx hy)
   ·have hlt := Jb hy
    have hx : caps[i]? = some (caps[i]'(by omega)) := List.getElem?_eq_getElem _
    exact ih2 i _ v hx hv (k4 i _ y hx hy)
  ·cases hf
 | unk x => intro hf; simp [fin] at hf; subst hf; exact .unk x
include h in
theorem Jj8 (k r o : Nat) (hw : Wr1 (J7z s m ids σ) k r o) : k < m + ids.length ∧ Wr1 s (J6S m ids k) r o := by
 unfold Wr1 at hw
 have hσ : (J7z s m ids σ).σ = σ := rfl
 rw [hσ] at hw
 cases hk : σ[k]? with
 | none => rw [hk] at hw; exact hw.elim
 | some x =>
  obtain ⟨hlt, y, hy, hf⟩ := JjF h hk
  refine ⟨hlt, ?_⟩
  rw [hk] at hw
  rw [Jbt k hlt] at hw
  unfold Wr1
  rw [hy]
  cases y with
  | dead => simp [J4t] at hf; subst hf; exact hw
  | box cs =>
   simp only [J4t] at hf
   split at hf
   ·rename_i l hl
    injection hf with hf; subst hf
    have := (J6y hl).1
    simp only at hw ⊢
    rw [this]; exact hw
   ·cases hf
  | arr w esz rows => simp [J4t] at hf; subst hf; exact hw
include h in
theorem JoM : Inv (J7z s m ids σ) := by
 have hi := h.inv
 have inj : ∀ k1 k2, k1 < m + ids.length → k2 < m + ids.length → J6S m ids k1 = J6S m ids k2 → k1 = k2 := by
  intro k1 k2 h1 h2 he
  simp only [J6S] at he
  split at he <;> split at he
  ·exact he
  ·rename_i a b
   have : k2 - m < ids.length := by omega
   have := h.ge ids[k2 - m] (by simp)
   simp [show k2 - m < ids.length by omega] at he
   omega
  ·rename_i a b
   have := h.ge (ids[k1 - m]'(by omega)) (by simp)
   simp [show k1 - m < ids.length by omega] at he
   omega
  ·have e1 : k1 - m < ids.length := by omega
   have e2 : k2 - m < ids.length := by omega
   simp [e1, e2] at he
   have := JcD h.nodup (List.getElem?_eq_getElem e1) (by rw [he]; exact List.getElem?_eq_getElem e2)
   omega
 refine Jp5 hi rfl ?_ ?_ (J6S m ids) (fun k1 k2 h1 h2 he => inj k1 k2 (by rw [← h.len]; exact h1) (by rw [← h.len]; exact h2) he) (fun k r o hw => (Jj8 h k r o hw).2) ?_
 ·intro k cs hk
  obtain ⟨hlt, y, hy, hf⟩ := JjF h hk
  cases y with
  | dead => simp [J4t] at hf
  | arr => simp [J4t] at hf
  | box cs0 =>
   simp only [J4t] at hf
   split at hf
   ·rename_i l hl
    injection hf with hf; injection hf with hf; subst hf
    obtain ⟨k1, k2⟩ := J6y hl
    obtain ⟨r, o, c, e, fz, hm, hh, hle, hx, hfr⟩ := hi.box _ _ hy
    refine ⟨r, o, c, e, fz, by rw [Jbt k hlt]; exact hm, hh, by omega, fun i x hix => ?_, by rw [← k1]; exact hfr⟩
    have hi' := Jb hix
    have hx0 : cs0[i]? = some (cs0[i]'(by omega)) := List.getElem?_eq_getElem _
    obtain ⟨v, hv, hr, h1⟩ := hx i _ hx0
    exact ⟨v, hv, Jkd h hr (k2 i _ x hx0 hix), h1⟩
   ·cases hf
 ·intro k wm esz rows hk
  obtain ⟨hlt, y, hy, hf⟩ := JjF h hk
  cases y with
  | dead => simp [J4t] at hf
  | box cs0 => simp only [J4t] at hf; split at hf <;> cases hf
  | arr w e rs =>
   simp [J4t] at hf
   obtain ⟨rfl, rfl, rfl⟩ := hf
   rcases hi.arr _ _ _ _ hy with ⟨hm, hr⟩ | ⟨r, c, e, fz, hm, hh, hrow, hl, hx, hfr⟩
   ·exact .inl ⟨by rw [Jbt k hlt]; exact hm, hr⟩
   ·refine .inr ⟨r, c, e, fz, by rw [Jbt k hlt]; exact hm, hh, hrow, hl, fun i j row x h1 h2 => ?_, hfr⟩
    obtain ⟨⟨v, hv, hr⟩, hc⟩ := hx i j row x h1 h2
    exact ⟨⟨v, hv, hr.weaken fun r o h => .inl h⟩, fun e => .inl (hc e)⟩
 ·intro r o hc
  rcases hc with hc | ⟨b, wm, esz, rows, hb1, hb2, hb3, hb4, hb5⟩
  ·exact ⟨(hi.const r o hc).1, fun k hw => (hi.const r o hc).2 _ (Jj8 h k r o hw).2⟩
  ·rcases hi.arr _ _ _ _ hb3 with ⟨hm, _⟩ | ⟨r', c, e, fz, hm, hh, hrow, hl, hx, _⟩
   ·rw [hb4] at hm; cases hm
   ·rw [hb4] at hm; injection hm with hm; injection hm with hm _; subst hm
    refine ⟨J0r hh, fun k hw => ?_⟩
    obtain ⟨hlt, hw⟩ := Jj8 h k r o hw
    have hneq : J6S m ids k ≠ b := by
     intro e
     simp only [J6S] at e
     split at e
     ·omega
     ·have : k - m < ids.length := by omega
      simp [this] at e
      exact hb2 (by rw [← e]; simp)
    cases wm with
    | true =>
     refine hneq (hi.apart _ _ _ _ hw ?_)
     unfold Wr1; rw [hb3]; exact ⟨0, hb4⟩
    | false =>
     have hpos : 0 < esz := by
      rcases Nat.eq_zero_or_pos esz with h0 | h0
      ·subst h0; simp at hb5
      ·exact h0
     have hdiv : o / esz < rows.length := Nat.div_lt_of_lt_mul (by rw [Nat.mul_comm]; exact hb5)
     have hrow1 : rows[o / esz]? = some (rows[o / esz]'hdiv) := List.getElem?_eq_getElem _
     have hlen := hrow _ (JV hrow1)
     have hmod : o % esz < (rows[o / esz]'hdiv).length := by rw [hlen]; exact Nat.mod_lt _ hpos
     have hcc := (hx _ _ _ _ hrow1 (List.getElem?_eq_getElem hmod)).2 rfl
     have : o / esz * esz + o % esz = o := by rw [Nat.mul_comm]; exact Nat.div_add_mod o esz
     rw [this] at hcc
     exact (hi.const r o hcc).2 _ hw
include h in
theorem JkJ {E : Sn} (t : JE E s) (hE : E.σ.length ≤ m) : JE E (J7z s m ids σ) := by
 have hi := h.inv
 refine ⟨t.keep, fun r o hc => .inl (t.cmono r o hc), fun r o hc => ?_, fun r o ⟨k, hw⟩ => t.wnew r o ⟨_, (Jj8 h k r o hw).2⟩, ?_, fun b cs hb => ?_, fun b wm esz rows hb => ?_⟩
 ·rcases hc with hc | ⟨b, wm, esz, rows, hb1, hb2, hb3, hb4, hb5⟩
  ·exact t.cnew r o hc
  ·cases wm with
   | true =>
    have := t.wnew r o ⟨b, by unfold Wr1; rw [hb3]; exact ⟨0, hb4⟩⟩
    exact .inr this
   | false =>
    rcases hi.arr _ _ _ _ hb3 with ⟨hm, _⟩ | ⟨r', c, e, fz, hm, hh, hrow, hl, hx, _⟩
    ·rw [hb4] at hm; cases hm
    ·rw [hb4] at hm; injection hm with hm; injection hm with hm _; subst hm
     have hpos : 0 < esz := by
      rcases Nat.eq_zero_or_pos esz with h0 | h0
      ·subst h0; simp at hb5
      ·exact h0
     have hdiv : o / esz < rows.length := Nat.div_lt_of_lt_mul (by rw [Nat.mul_comm]; exact hb5)
     have hrow1 : rows[o / esz]? = some (rows[o / esz]'hdiv) := List.getElem?_eq_getElem _
     have hlen := hrow _ (JV hrow1)
     have hmod : o % esz < (rows[o / esz]'hdiv).length := by rw [hlen]; exact Nat.mod_lt _ hpos
     have hcc := (hx _ _ _ _ hrow1 (List.getElem?_eq_getElem hmod)).2 rfl
     have : o / esz * esz + o % esz = o := by rw [Nat.mul_comm]; exact Nat.div_add_mod o esz
     rw [this] at hcc
     exact t.cnew r o hcc
 ·show E.σ.length ≤ σ.length
  rw [h.len]; omega
 ·have hblt : b < m := by have := Jb hb; omega
  obtain ⟨⟨cs', h1, h2⟩, h3⟩ := t.box b cs hb
  obtain ⟨x, hx, hfx⟩ := JfN h (J8P hblt) (by omega) h1
  simp only [J4t] at hfx
  split at hfx
  ·rename_i l hl
   injection hfx with hfx; subst hfx
   exact ⟨⟨l, hx, by rw [← (J6y hl).1]; exact h2⟩, by rw [Jbt b (by omega), J8P hblt]; exact h3⟩
  ·cases hfx
 ·have hblt : b < m := by have := Jb hb; omega
  obtain ⟨wm', rows', h1, h2, h3, h4⟩ := t.arr b wm esz rows hb
  obtain ⟨x, hx, hfx⟩ := JfN h (J8P hblt) (by omega) h1
  simp [J4t] at hfx; subst hfx
  exact ⟨wm', rows', hx, h2, h3, fun e => by rw [Jbt b (by omega), J8P hblt]; exact h4 e⟩
end
end Go.Am
end
section
namespace Go.Am
def J74 (P : Program) (f : FuncId) (args : List AV) (blks : List Blk) (r : Res) : Prop :=
 (∃ fn, P.funcs[f]? = some fn ∧ fn.body.isSome = true ∧ (fn.name == "runtime.NumGoroutine") = false) ∧
 ∀ (g : Gh) (w : World) (vals : Array Value), Inv ⟨blks, g, w⟩ → args.length = vals.size → (∀ (i : Nat) x v, args[i]? = some x → vals[i]? = some v → Jr ⟨blks, g, w⟩ x v) →
  Calls P f vals w fun e w' => ∃ v g', e = .returned v ∧ Inv ⟨r.2, g', w'⟩ ∧ JE ⟨blks, g, w⟩ ⟨r.2, g', w'⟩ ∧ Jr ⟨r.2, g', w'⟩ r.1 v
def J5r (P : Program) (F : Orc) : Prop := ∀ f args blks r, F f args blks = some r → J74 P f args blks r
theorem J6I {e : Ent} : ∀ {es : List Ent} {k j : Nat}, J4v e es k = some j → k ≤ j ∧ es[j - k]? = some e
 | [], k, j, h => by simp [J4v] at h
 | x :: r, k, j, h => by
  simp only [J4v] at h
  split at h
  ·rename_i hx; injection h with h; subst h; exact ⟨Nat.le_refl _, by simp [hx]⟩
  ·obtain ⟨h1, h2⟩ := J6I h
   refine ⟨by omega, ?_⟩
   rw [show j - k = (j - (k + 1)) + 1 by omega]
   simpa using h2
theorem J6x {ρ : Ent → Option Nat} : ∀ {xs ys : List AV}, ren.renL ρ xs = some ys → xs.length = ys.length ∧ ∀ (i : Nat) x y, xs[i]? = some x → ys[i]? = some y → ren ρ x = some y
 | [], ys, h => by simp [ren.renL] at h; subst h; exact ⟨rfl, fun i x y h => by simp at h⟩
 | x :: xs, ys, h => by
  simp only [ren.renL] at h
  split at h
  ·rename_i y l hy hl
   injection h with h; subst h
   obtain ⟨h1, h2⟩ := J6x hl
   refine ⟨by simp [h1], fun i a b ha hb => ?_⟩
   cases i with
   | zero => simp at ha hb; subst ha hb; exact hy
   | succ i => exact h2 i a b (by simpa using ha) (by simpa using hb)
  ·cases h
theorem J7D {es : List Ent} {new : Nat} : ∀ {xs ys : List AV}, bk.bkL es new xs = some ys → xs.length = ys.length ∧ ∀ (i : Nat) x y, xs[i]? = some x → ys[i]? = some y → bk es new x = some y
 | [], ys, h => by simp [bk.bkL] at h; subst h; exact ⟨rfl, fun i x y h => by simp at h⟩
 | x :: xs, ys, h => by
  simp only [bk.bkL] at h
  split at h
  ·rename_i y l hy hl
   injection h with h; subst h
   obtain ⟨h1, h2⟩ := J7D hl
   refine ⟨by simp [h1], fun i a b ha hb => ?_⟩
   cases i with
   | zero => simp at ha hb; subst ha hb; exact hy
   | succ i => exact h2 i a b (by simpa using ha) (by simpa using hb)
  ·cases h
def Jpk (s : Sn) (ρ : Ent → Option Nat) (e : Ent) (x : Blk) : Prop :=
 match e with
 | .whole b => (∃ cs l, s.σ[b]? = some (.box cs) ∧ ren.renL ρ cs = some l ∧ x = .box l) ∨ (∃ w esz rows, s.σ[b]? = some (.arr w esz rows) ∧ x = .arr w esz rows)
 | .elem b ext i => ∃ esz rows row, s.σ[b]? = some (.arr true esz rows) ∧ ext = rows.length ∧ rows[i]? = some row ∧ x = .box (row.map .p)
section
variable {s : Sn} {env : List (Nat × AV)}
theorem Jie {σ0 : List Blk} {ws : List (Nat × Blk)} {b : Nat} {x : Blk} (h : (J8j ws b).run ⟨env, σ0⟩ = some x) : (upd ws σ0)[b]? = some x := by
 simp only [J8j, RM.run] at h
 split at h
 ·rename_i y hy
  have hlt := Jb hy
  rw [Jax _ _ _ hlt]
  split at h
  ·rename_i z hz; simp only [RM.run] at h; injection h with h; subst h; simp [hz]
  ·rename_i hz; simp only [RM.run] at h; injection h with h; subst h; simp [hz]; exact hy
 ·cases h
theorem Jr9 {σ0 : List Blk} {ws : List (Nat × Blk)} (hσ : s.σ = upd ws σ0) {ρ : Ent → Option Nat} {e : Ent} {x : Blk} (h : (Je6 ws ρ e).run ⟨env, σ0⟩ = some x) : Jpk s ρ e x := by
 cases e with
 | whole b =>
  simp only [Je6] at h
  obtain ⟨y, h1, h⟩ := bind_some h
  have hb := Jie h1
  rw [← hσ] at hb
  cases y with
  | dead => cases h
  | box cs =>
   dsimp only at h
   split at h
   ·rename_i l hl
    simp only [RM.run] at h; injection h with h; subst h
    exact .inl ⟨cs, l, hb, hl, rfl⟩
   ·cases h
  | arr w esz rows =>
   simp only [RM.run] at h; injection h with h; subst h
   exact .inr ⟨w, esz, rows, hb, rfl⟩
 | elem b ext i =>
  simp only [Je6] at h
  obtain ⟨y, h1, h⟩ := bind_some h
  have hb := Jie h1
  rw [← hσ] at hb
  cases y with
  | arr w esz rows =>
   cases w
   ·cases h
   ·dsimp only at h
    split at h
    ·rename_i he
     split at h
     ·rename_i row hrow
      simp only [RM.run] at h; injection h with h; subst h
      exact ⟨esz, rows, row, hb, he, hrow, rfl⟩
     ·cases h
    ·cases h
  | _ => cases h
theorem JiS {σ0 : List Blk} {ws : List (Nat × Blk)} (hσ : s.σ = upd ws σ0) {ρ : Ent → Option Nat} : ∀ {es : List Ent} {blks : List Blk}, (J5S ws ρ es).run ⟨env, σ0⟩ = some blks →
  es.length = blks.length ∧ ∀ (k : Nat) e x, es[k]? = some e → blks[k]? = some x → Jpk s ρ e x
 | [], blks, h => by simp only [J5S, RM.run] at h; injection h with h; subst h; exact ⟨rfl, fun k e x h => by simp at h⟩
 | e :: es, blks, h => by
  simp only [J5S] at h
  obtain ⟨x, h1, h⟩ := bind_some h
  obtain ⟨l, h2, h⟩ := bind_some h
  simp only [RM.run] at h; injection h with h; subst h
  obtain ⟨k1, k2⟩ := JiS hσ h2
  refine ⟨by simp [k1], fun k e' x' he hx => ?_⟩
  cases k with
  | zero => simp at he hx; subst he hx; exact Jr9 hσ h1
  | succ k => exact k2 k e' x' (by simpa using he) (by simpa using hx)
def J87 (s : Sn) (es : List Ent) (blks : List Blk) : Sn :=
 ⟨blks, ⟨fun k => match es[k]? with
  | some (.whole b) => s.g.μ b
  | some (.elem b _ i) => (match s.σ[b]? with
   | some (.arr _ esz _) => (match s.g.μ b with
    | some p => some (p.1, i * esz)
    | none => none)
   | _ => none)
  | none => none, s.g.C⟩, s.w⟩
structure Jns (s : Sn) (es : List Ent) (blks : List Blk) : Prop where
 inv : Inv s
 nodup : (es.map Ent.id).Nodup
 len : es.length = blks.length
 blk : ∀ (k : Nat) e x, es[k]? = some e → blks[k]? = some x → Jpk s (fun e => J4v e es 0) e x
variable {es : List Ent} {blks : List Blk} (h : Jns s es blks)
include h in
theorem JaO {k : Nat} {e : Ent} (he : es[k]? = some e) : ∃ x, blks[k]? = some x ∧ Jpk s (fun e => J4v e es 0) e x := by
 have hlt := Jb he
 have : k < blks.length := by rw [← h.len]; exact hlt
 exact ⟨blks[k], List.getElem?_eq_getElem this, h.blk k e _ he (List.getElem?_eq_getElem this)⟩
theorem J5v {k b : Nat} (he : es[k]? = some (.whole b)) : (J87 s es blks).g.μ k = s.g.μ b := by simp [J87, he]
theorem JcI {k b ext i esz : Nat} {wm rows r} (he : es[k]? = some (.elem b ext i)) (hb : s.σ[b]? = some (.arr wm esz rows)) (hm : s.g.μ b = some (r, 0)) : (J87 s es blks).g.μ k = some (r, i * esz) := by
 simp [J87, he, hb, hm]
include h in
theorem Jqp {x y : AV} {v : Value} (hr : Jr s x v) : ren (fun e => J4v e es 0) x = some y → Jr (J87 s es blks) y v := by
 induction hr generalizing y with
 | p c v hp => intro hf; simp [ren] at hf; subst hf; exact .p _ _ hp
 | data cs vs h1 h2 => intro hf; simp [ren] at hf; subst hf; exact .data _ _ h1 h2
 | cp cs off r o vals p1 p2 => intro hf; simp [ren] at hf; subst hf; exact .cp cs off r o vals p1 p2
 | unk x => intro hf; simp [ren] at hf; subst hf; exact .unk x
 | agg cs vs h1 h0 h2 ih =>
  intro hf
  simp only [ren] at hf
  obtain ⟨l, hl, rfl⟩ := Option.map_eq_some_iff.1 hf
  obtain ⟨k1, k2⟩ := J6x hl
  refine .agg _ _ (by omega) h0 fun i y v hy hv => ?_
  have hlt := Jb hy
  have hx : cs[i]? = some (cs[i]'(by omega)) := List.getElem?_eq_getElem _
  exact ih i _ v hx hv (k2 i _ y hx hy)
 | tup cs vs h1 h2 ih =>
  intro hf
  simp only [ren] at hf
  obtain ⟨l, hl, rfl⟩ := Option.map_eq_some_iff.1 hf
  obtain ⟨k1, k2⟩ := J6x hl
  refine .tup _ _ (by omega) fun i y v hy hv => ?_
  have hlt := Jb hy
  have hx : cs[i]? = some (cs[i]'(by omega)) := List.getElem?_eq_getElem _
  exact ih i _ v hx hv (k2 i _ y hx hy)
 | ptr b off r o hm hb =>
  intro hf
  simp only [ren] at hf
  obtain ⟨k, hk, rfl⟩ := Option.map_eq_some_iff.1 hf
  obtain ⟨_, hk⟩ := J6I hk
  simp only [Nat.sub_zero] at hk
  obtain ⟨cs, hb⟩ := hb
  obtain ⟨x, hx, hin⟩ := JaO h hk
  rcases hin with ⟨cs', l, h1, h2, rfl⟩ | ⟨w, esz, rows, h1, rfl⟩
  ·exact .ptr k off r o (by rw [J5v hk]; exact hm) ⟨l, hx⟩
  ·rw [hb] at h1; cases h1
 | slr b i n v wm esz rows h0 hb hle hv =>
  intro hf
  simp only [ren] at hf
  obtain ⟨k, hk, rfl⟩ := Option.map_eq_some_iff.1 hf
  obtain ⟨_, hk⟩ := J6I hk
  simp only [Nat.sub_zero] at hk
  obtain ⟨x, hx, hin⟩ := JaO h hk
  rcases hin with ⟨cs', l, h1, h2, rfl⟩ | ⟨w, esz', rows', h1, rfl⟩
  ·rw [hb] at h1; cases h1
  ·rw [hb] at h1; injection h1 with h1; injection h1 with a1 a2 a3; subst a1 a2 a3
   refine .slr k i n v wm esz rows h0 hx hle fun e => ?_
   have hμ : (J87 s es blks).g.μ k = s.g.μ b := J5v hk
   rcases hv e with ⟨m', q1, q2, q3⟩ | ⟨r, cap, c, e1, fz, m', q⟩
   ·exact .inl ⟨by rw [hμ]; exact m', q1, q2, q3⟩
   ·exact .inr ⟨r, cap, c, e1, fz, by rw [hμ]; exact m', q⟩
 | ep b ext i off v wm esz rows h0 hb hle hv =>
  intro hf
  simp only [ren] at hf
  obtain ⟨k, hk, rfl⟩ := Option.map_eq_some_iff.1 hf
  obtain ⟨_, hk⟩ := J6I hk
  simp only [Nat.sub_zero] at hk
  obtain ⟨x, hx, hin⟩ := JaO h hk
  obtain ⟨esz', rows', row, h1, h2, h3, rfl⟩ := hin
  have h1' := h1
  rw [hb] at h1; injection h1 with h1; injection h1 with a1 a2 a3; subst a1 a2 a3
  have hlt := Jb h3
  obtain ⟨r, m', hv⟩ := hv h2 (by omega)
  subst hv
  exact .ptr k off r (i * esz) (JcI hk h1' m') ⟨_, hx⟩
 | fn f first caps fs cs h1 h2 _ _ ih1 ih2 =>
  intro hf
  simp only [ren] at hf
  obtain ⟨l1, hl1, hf⟩ := Option.bind_eq_some_iff.1 hf
  obtain ⟨l2, hl2, rfl⟩ := Option.map_eq_some_iff.1 hf
  obtain ⟨k1, k2⟩ := J6x hl1
  obtain ⟨k3, k4⟩ := J6x hl2
  refine .fn f _ _ fs cs (by omega) (by omega) (fun i y v hy hv => ?_) (fun i y v hy hv => ?_)
  ·have hlt := Jb hy
   have hx : first[i]? = some (first[i]'(by omega)) := List.getElem?_eq_getElem _
   exact ih1 i _ v hx hv (k2 i _ y hx hy)
  ·have hlt := Jb hy
   have hx : caps[i]? = some (caps[i]'(by omega)) := List.getElem?_eq_getElem _
   exact ih2 i _ v hx hv (k4 i _ y hx hy)
def idE (es : List Ent) (k : Nat) : Nat := ((es[k]?).map Ent.id).getD 0
theorem JaZ {k : Nat} {e : Ent} (he : es[k]? = some e) : idE es k = e.id := by simp [idE, he]
include h in
theorem Jby (k r o : Nat) (hw : Wr1 (J87 s es blks) k r o) : k < es.length ∧ Wr1 s (idE es k) r o := by
 unfold Wr1 at hw
 have hσ : (J87 s es blks).σ = blks := rfl
 rw [hσ] at hw
 cases hk : blks[k]? with
 | none => rw [hk] at hw; exact hw.elim
 | some x =>
  have hlt : k < es.length := by rw [h.len]; exact Jb hk
  refine ⟨hlt, ?_⟩
  have hek : es[k]? = some es[k] := List.getElem?_eq_getElem hlt
  have hin := h.blk k _ x hek hk
  rw [JaZ hek]
  rw [hk] at hw
  unfold Wr1
  cases hcase : es[k] with
  | whole b =>
   rw [hcase] at hin hek
   rcases hin with ⟨cs', l, h1, h2, rfl⟩ | ⟨w, esz', rows', h1, rfl⟩
   ·simp only [Ent.id]
    rw [h1]
    rw [J5v hek] at hw
    have := (J6x h2).1
    simp only at hw ⊢
    rw [this]; exact hw
   ·simp only [Ent.id]
    rw [h1]
    rw [J5v hek] at hw
    exact hw
  | elem b ext i =>
   rw [hcase] at hin hek
   obtain ⟨esz', rows', row, h1, h2, h3, rfl⟩ := hin
   simp only [Ent.id]
   rw [h1]
   obtain ⟨o0, m, _⟩ := hw
   have : ∃ p, s.g.μ b = some p ∧ p.1 = r := by
    simp only [J87, hek, h1] at m
    cases hp : s.g.μ b with
    | none => simp [hp] at m
    | some p => simp [hp] at m; exact ⟨p, rfl, m.1⟩
   obtain ⟨p, hp, hr⟩ := this
   exact ⟨p.2, by rw [hp, ← hr]⟩
include h in
theorem Jvh : Inv (J87 s es blks) := by
 have hi := h.inv
 have hlen : (J87 s es blks).σ.length = es.length := h.len.symm
 refine Jp5 hi rfl ?_ ?_ (idE es) ?_ (fun k r o hw => (Jby h k r o hw).2) (fun r o hc => ⟨(hi.const r o hc).1, fun k hw => (hi.const r o hc).2 _ (Jby h k r o hw).2⟩)
 ·intro k cs hk
  have hk : blks[k]? = some (.box cs) := hk
  have hlt : k < es.length := by rw [h.len]; exact Jb hk
  have hek : es[k]? = some es[k] := List.getElem?_eq_getElem hlt
  have hin := h.blk k _ _ hek hk
  cases hcase : es[k] with
  | whole b =>
   rw [hcase] at hin hek
   rcases hin with ⟨cs', l, h1, h2, heq⟩ | ⟨w, esz', rows', h1, heq⟩
   ·injection heq with heq; subst heq
    obtain ⟨k1, k2⟩ := J6x h2
    obtain ⟨r, o, c, e, fz, hm, hh, hle, hx, hfr⟩ := hi.box _ _ h1
    refine ⟨r, o, c, e, fz, by rw [J5v hek]; exact hm, hh, by omega, fun i x hix => ?_, by rw [← k1]; exact hfr⟩
    have hi' := Jb hix
    have hx0 : cs'[i]? = some (cs'[i]'(by omega)) := List.getElem?_eq_getElem _
    obtain ⟨v, hv, hr, h1⟩ := hx i _ hx0
    exact ⟨v, hv, Jqp h hr (k2 i _ x hx0 hix), h1⟩
   ·cases heq
  | elem b ext i =>
   rw [hcase] at hin hek
   obtain ⟨esz', rows', row, h1, h2, h3, heq⟩ := hin
   injection heq with heq; subst heq
   have hlt' := Jb h3
   rcases hi.arr _ _ _ _ h1 with ⟨hm, hr⟩ | ⟨r, c, e, fz, hm, hh, hrow, hl, hx, hfr⟩
   ·subst hr; simp at h3
   ·have hrl := hrow row (JV h3)
    have hbnd : i * esz' + esz' ≤ rows'.length * esz' := by
     have := Nat.mul_le_mul_right esz' (show i + 1 ≤ rows'.length from hlt')
     rwa [Nat.add_mul, Nat.one_mul] at this
    refine ⟨r, i * esz', c, e, fz, JcI hek h1 hm, hh, by simp; omega, fun j x hjx => ?_, fun o h1 h2 => hfr.1 o (Nat.zero_le _) (by simp at h2; omega)⟩
    rw [List.getElem?_map] at hjx
    cases hrj : row[j]? with
    | none => simp [hrj] at hjx
    | some c0 =>
     simp [hrj] at hjx; subst hjx
     obtain ⟨⟨v, hv, hr⟩, _⟩ := hx i j row c0 h3 hrj
     exact ⟨v, hv, .p _ _ hr, hr.one⟩
 ·intro k wm esz rows hk
  have hk : blks[k]? = some (.arr wm esz rows) := hk
  have hlt : k < es.length := by rw [h.len]; exact Jb hk
  have hek : es[k]? = some es[k] := List.getElem?_eq_getElem hlt
  have hin := h.blk k _ _ hek hk
  cases hcase : es[k] with
  | whole b =>
   rw [hcase] at hin hek
   rcases hin with ⟨cs', l, h1, h2, heq⟩ | ⟨w, esz', rows', h1, heq⟩
   ·cases heq
   ·injection heq with a1 a2 a3; subst a1 a2 a3
    rcases hi.arr _ _ _ _ h1 with ⟨hm, hr⟩ | ⟨r, c, e, fz, hm, hq⟩
    ·exact .inl ⟨by rw [J5v hek]; exact hm, hr⟩
    ·exact .inr ⟨r, c, e, fz, by rw [J5v hek]; exact hm, hq⟩
  | elem b ext i =>
   rw [hcase] at hin hek
   obtain ⟨esz', rows', row, h1, h2, h3, heq⟩ := hin
   cases heq
 ·intro k1 k2 h1 h2 he
  rw [hlen] at h1 h2
  have e1 : es[k1]? = some es[k1] := List.getElem?_eq_getElem h1
  have e2 : es[k2]? = some es[k2] := List.getElem?_eq_getElem h2
  rw [JaZ e1, JaZ e2] at he
  refine JcD h.nodup (x := es[k1].id) ?_ ?_
  ·rw [List.getElem?_map, e1]; rfl
  ·rw [List.getElem?_map, e2, he]; rfl
end
end Go.Am
end
section
namespace Go.Am
def Ja1 (s1 : Sn) (es : List Ent) (new : Nat) (σ2 : List Blk) (k : Nat) (y : Blk) : Prop :=
 match es[k]? with
 | some (.whole b) => (∃ cs l, y = .box cs ∧ bk.bkL es new cs = some l ∧ σ2[b]? = some (.box l)) ∨ (∃ w esz rows, y = .arr w esz rows ∧ σ2[b]? = some (.arr w esz rows))
 | some (.elem b _ i) => ∃ w esz rows row', s1.σ[b]? = some (.arr w esz rows) ∧ y = .box (row'.map .p) ∧ σ2[b]? = some (.arr w esz (rows.set i row'))
 | none => (∃ cs l, y = .box cs ∧ bk.bkL es new cs = some l ∧ σ2[new + (k - es.length)]? = some (.box l)) ∨ (∃ w esz rows, y = .arr w esz rows ∧ σ2[new + (k - es.length)]? = some (.arr w esz rows))
structure JoH (s1 : Sn) (es : List Ent) (blks : List Blk) (new kf : Nat) (c' : Sn) (σ2 : List Blk) : Prop where
 cin : Jns s1 es blks
 inv : Inv c'
 trans : JE (J87 s1 es blks) c'
 len : c'.σ.length = es.length + kf
 slen : σ2.length = s1.σ.length
 dead : ∀ j, j < kf → s1.σ[new + j]? = some .dead
 out : ∀ k y, c'.σ[k]? = some y → Ja1 s1 es new σ2 k y
 same : ∀ b, b ∉ es.map Ent.id → (b < new ∨ new + kf ≤ b) → σ2[b]? = s1.σ[b]?
def kOf (es : List Ent) (new kf b : Nat) : Option Nat :=
 match J4v (.whole b) es 0 with
 | some k => some k
 | none => if new ≤ b ∧ b < new + kf ∧ b ∉ es.map Ent.id then some (es.length + (b - new)) else none
def J3Z (s1 : Sn) (es : List Ent) (new kf : Nat) (c' : Sn) (σ2 : List Blk) : Sn :=
 ⟨σ2, ⟨fun b => match kOf es new kf b with
  | some k => c'.g.μ k
  | none => s1.g.μ b, c'.g.C⟩, c'.w⟩
theorem Jjk {e : Ent} : ∀ {es : List Ent} {k : Nat}, J4v e es k = none → e ∉ es
 | [], k, _ => by simp
 | x :: r, k, h => by
  simp only [J4v] at h
  split at h
  ·cases h
  ·rename_i hx
   simp only [List.mem_cons, not_or]
   exact ⟨fun e => hx e.symm, Jjk h⟩
section
variable {s1 c' : Sn} {es : List Ent} {blks σ2 : List Blk} {new kf : Nat} (h : JoH s1 es blks new kf c' σ2)
theorem Jcq {k : Nat} {e : Ent} (he : es[k]? = some e) : e.id ∈ es.map Ent.id := List.mem_map.2 ⟨e, JV he, rfl⟩
include h in
theorem Jdt {k1 k2 : Nat} {e1 e2 : Ent} (h1 : es[k1]? = some e1) (h2 : es[k2]? = some e2) (he : e1.id = e2.id) : k1 = k2 :=
 JcD h.cin.nodup (x := e1.id) (by rw [List.getElem?_map, h1]; rfl) (by rw [List.getElem?_map, h2, he]; rfl)
include h in
theorem Juw {k : Nat} {e : Ent} (he : es[k]? = some e) : ∃ y, s1.σ[e.id]? = some y ∧ y ≠ .dead := by
 obtain ⟨x, _, hin⟩ := JaO h.cin he
 cases e with
 | whole b =>
  rcases hin with ⟨cs', l, h1, h2, rfl⟩ | ⟨w, esz', rows', h1, rfl⟩
  ·exact ⟨_, h1, by simp⟩
  ·exact ⟨_, h1, by simp⟩
 | elem b ext i =>
  obtain ⟨esz', rows', row, h1, h2, h3, rfl⟩ := hin
  exact ⟨_, h1, by simp⟩
include h in
theorem Js6 {j : Nat} (hj : j < kf) : new + j ∉ es.map Ent.id := by
 intro hm
 obtain ⟨e, he, hid⟩ := List.mem_map.1 hm
 obtain ⟨k, hk⟩ := List.getElem?_of_mem he
 obtain ⟨y, hy, hd⟩ := Juw h hk
 rw [hid, h.dead j hj] at hy
 injection hy with hy; exact hd hy.symm
include h in
theorem JqY {k b : Nat} (he : es[k]? = some (.whole b)) : kOf es new kf b = some k := by
 unfold kOf
 cases hc : J4v (.whole b) es 0 with
 | none => exact absurd (JV he) (Jjk hc)
 | some k' =>
  obtain ⟨_, hk'⟩ := J6I hc
  simp only [Nat.sub_zero] at hk'
  rw [Jdt h hk' he rfl]
include h in
theorem JsO {k b e i : Nat} (he : es[k]? = some (.elem b e i)) : kOf es new kf b = none := by
 unfold kOf
 cases hc : J4v (.whole b) es 0 with
 | some k' =>
  obtain ⟨_, hk'⟩ := J6I hc
  simp only [Nat.sub_zero] at hk'
  have := Jdt h hk' he rfl
  subst this
  rw [he] at hk'; cases hk'
 | none =>
  have : b ∈ es.map Ent.id := Jcq he
  simp [this]
include h in
theorem Jqm {j : Nat} (hj : j < kf) : kOf es new kf (new + j) = some (es.length + j) := by
 unfold kOf
 have hn := Js6 h hj
 cases hc : J4v (.whole (new + j)) es 0 with
 | some k' =>
  obtain ⟨_, hk'⟩ := J6I hc
  simp only [Nat.sub_zero] at hk'
  exact absurd (Jcq hk') hn
 | none =>
  simp only
  rw [if_pos ⟨by omega, by omega, hn⟩]
  congr 1; omega
theorem JcH {b : Nat} (h1 : b ∉ es.map Ent.id) (h2 : b < new ∨ new + kf ≤ b) : kOf es new kf b = none := by
 unfold kOf
 cases hc : J4v (.whole b) es 0 with
 | some k' =>
  obtain ⟨_, hk'⟩ := J6I hc
  simp only [Nat.sub_zero] at hk'
  exact absurd (Jcq hk') h1
 | none =>
  simp only
  rw [if_neg (by omega)]
def tgt (es : List Ent) (new k : Nat) : Nat := match es[k]? with
 | some e => e.id
 | none => new + (k - es.length)
include h in
theorem J9c {k : Nat} (hk : k < es.length + kf) (hne : ∀ b e i, es[k]? ≠ some (.elem b e i)) : (J3Z s1 es new kf c' σ2).g.μ (tgt es new k) = c'.g.μ k := by
 simp only [J3Z, tgt]
 cases he : es[k]? with
 | some e =>
  cases e with
  | whole b => simp only [Ent.id]; rw [JqY h he]
  | elem b e i => exact absurd he (hne b e i)
 | none =>
  have hge : es.length ≤ k := by
   rcases Nat.lt_or_ge k es.length with hlt | hge
   ·rw [List.getElem?_eq_getElem hlt] at he; cases he
   ·exact hge
  have := Jqm h (j := k - es.length) (by omega)
  simp only
  rw [this]
  simp only
  congr 1; omega
include h in
theorem J8Q {k b ext i : Nat} (he : es[k]? = some (.elem b ext i)) : ∃ esz rows row r row', s1.σ[b]? = some (.arr true esz rows) ∧ ext = rows.length ∧ rows[i]? = some row ∧ s1.g.μ b = some (r, 0) ∧
  c'.σ[k]? = some (.box (row'.map .p)) ∧ row'.length = row.length ∧ row.length = esz ∧ c'.g.μ k = some (r, i * esz) ∧ σ2[b]? = some (.arr true esz (rows.set i row')) ∧ (J3Z s1 es new kf c' σ2).g.μ b = some (r, 0) := by
 obtain ⟨x, hx, hin⟩ := JaO h.cin he
 obtain ⟨esz, rows, row, h1, h2, h3, rfl⟩ := hin
 have hlt := Jb h3
 rcases h.cin.inv.arr _ _ _ _ h1 with ⟨hm, hr⟩ | ⟨r, c, e, fz, hm, hh, hrow, hl, hxx, hfr⟩
 ·subst hr; simp at h3
 ·obtain ⟨⟨cs', q1, q2⟩, q3⟩ := h.trans.box k _ hx
  have ho := h.out k _ q1
  unfold Ja1 at ho
  rw [he] at ho
  obtain ⟨w, esz', rows', row', o1, o2, o3⟩ := ho
  rw [h1] at o1; injection o1 with o1; injection o1 with a1 a2 a3; subst a1 a2 a3
  injection o2 with o2; subst o2
  refine ⟨esz, rows, row, r, row', h1, h2, h3, hm, q1, by simpa using q2, hrow row (JV h3), ?_, o3, ?_⟩
  ·rw [q3, JcI he h1 hm]
  ·simp only [J3Z]; rw [JsO h he]; exact hm
include h in
theorem Jp3 {x y : AV} {v : Value} (hr : Jr c' x v) : bk es new x = some y → Jr (J3Z s1 es new kf c' σ2) y v := by
 have at_k : ∀ {k : Nat} {z : Blk}, c'.σ[k]? = some z → k < es.length + kf := fun hz => by rw [← h.len]; exact Jb hz
 induction hr generalizing y with
 | p c v hp => intro hf; simp [bk] at hf; subst hf; exact .p _ _ hp
 | data cs vs h1 h2 => intro hf; simp [bk] at hf; subst hf; exact .data _ _ h1 h2
 | cp cs off r o vals p1 p2 => intro hf; simp [bk] at hf; subst hf; exact .cp cs off r o vals p1 p2
 | unk x => intro hf; simp [bk] at hf; subst hf; exact .unk x
 | agg cs vs h1 h0 h2 ih =>
  intro hf
  simp only [bk] at hf
  split at hf
  ·rename_i l hl
   injection hf with hf; subst hf
   obtain ⟨k1, k2⟩ := J7D hl
   refine .agg _ _ (by omega) h0 fun i y v hy hv => ?_
   have hlt := Jb hy
   have hx : cs[i]? = some (cs[i]'(by omega)) := List.getElem?_eq_getElem _
   exact ih i _ v hx hv (k2 i _ y hx hy)
  ·cases hf
 | tup cs vs h1 h2 ih =>
  intro hf
  simp only [bk] at hf
  split at hf
  ·rename_i l hl
   injection hf with hf; subst hf
   obtain ⟨k1, k2⟩ := J7D hl
   refine .tup _ _ (by omega) fun i y v hy hv => ?_
   have hlt := Jb hy
   have hx : cs[i]? = some (cs[i]'(by omega)) := List.getElem?_eq_getElem _
   exact ih i _ v hx hv (k2 i _ y hx hy)
  ·cases hf
 | ptr k off r o hm hb =>
  intro hf
  obtain ⟨cs, hb⟩ := hb
  have hk := at_k hb
  have ho := h.out k _ hb
  unfold Ja1 at ho
  simp only [bk] at hf
  split at hf
  ·rename_i hlt
   have hek : es[k]? = some es[k] := List.getElem?_eq_getElem hlt
   split at hf
   ·rename_i b he
    injection hf with hf; subst hf
    have hμ := J9c h hk (by rw [he]; simp)
    simp only [tgt, he, Ent.id] at hμ
    rw [he] at ho
    rcases ho with ⟨cs', l, e1, e2, e3⟩ | ⟨w, esz, rows, e1, e2⟩
    ·exact .ptr b off r o (by rw [hμ]; exact hm) ⟨l, e3⟩
    ·cases e1
   ·rename_i b e i he
    injection hf with hf; subst hf
    obtain ⟨esz, rows, row, r', row', f1, f2, f3, f4, f5, f6, f7, f8, f9, f10⟩ := J8Q h he
    rw [hm] at f8; injection f8 with f8; injection f8 with g1 g2; subst g1 g2
    exact .ep b e i off _ true esz (rows.set i row') ⟨_, _, rfl⟩ f9 (by simp [f2]) fun _ _ => ⟨r, f10, rfl⟩
   ·cases hf
  ·rename_i hge
   injection hf with hf; subst hf
   have he : es[k]? = none := List.getElem?_eq_none (by omega)
   have hμ := J9c h hk (by rw [he]; simp)
   simp only [tgt, he] at hμ
   rw [he] at ho
   rcases ho with ⟨cs', l, e1, e2, e3⟩ | ⟨w, esz, rows, e1, e2⟩
   ·exact .ptr _ off r o (by rw [hμ]; exact hm) ⟨l, e3⟩
   ·cases e1
 | slr k i n v wm esz rows h0 hb hle hv =>
  intro hf
  have hk := at_k hb
  have ho := h.out k _ hb
  unfold Ja1 at ho
  have go : ∀ b, (J3Z s1 es new kf c' σ2).g.μ b = c'.g.μ k → σ2[b]? = some (.arr wm esz rows) → Jr (J3Z s1 es new kf c' σ2) (.slr b i n) v := by
   intro b hμ hσ
   refine .slr b i n v wm esz rows h0 hσ hle fun e => ?_
   rcases hv e with ⟨m', q1, q2, q3⟩ | ⟨r, cap, c, e1, fz, m', q⟩
   ·exact .inl ⟨by rw [hμ]; exact m', q1, q2, q3⟩
   ·exact .inr ⟨r, cap, c, e1, fz, by rw [hμ]; exact m', q⟩
  simp only [bk] at hf
  split at hf
  ·rename_i hlt
   split at hf
   ·rename_i b he
    injection hf with hf; subst hf
    have hμ := J9c h hk (by rw [he]; simp)
    simp only [tgt, he, Ent.id] at hμ
    rw [he] at ho
    rcases ho with ⟨cs', l, e1, e2, e3⟩ | ⟨w, esz', rows', e1, e2⟩
    ·cases e1
    ·injection e1 with a1 a2 a3; subst a1 a2 a3
     exact go b hμ e2
   ·cases hf
  ·rename_i hge
   injection hf with hf; subst hf
   have he : es[k]? = none := List.getElem?_eq_none (by omega)
   have hμ := J9c h hk (by rw [he]; simp)
   simp only [tgt, he] at hμ
   rw [he] at ho
   rcases ho with ⟨cs', l, e1, e2, e3⟩ | ⟨w, esz', rows', e1, e2⟩
   ·cases e1
   ·injection e1 with a1 a2 a3; subst a1 a2 a3
    exact go _ hμ e2
 | ep k ext i off v wm esz rows h0 hb hle hv =>
  intro hf
  have hk := at_k hb
  have ho := h.out k _ hb
  unfold Ja1 at ho
  have go : ∀ b, (J3Z s1 es new kf c' σ2).g.μ b = c'.g.μ k → σ2[b]? = some (.arr wm esz rows) → Jr (J3Z s1 es new kf c' σ2) (.ep b ext i off) v := by
   intro b hμ hσ
   refine .ep b ext i off v wm esz rows h0 hσ hle fun e1 e2 => ?_
   obtain ⟨r, m', q⟩ := hv e1 e2
   exact ⟨r, by rw [hμ]; exact m', q⟩
  simp only [bk] at hf
  split at hf
  ·rename_i hlt
   split at hf
   ·rename_i b he
    injection hf with hf; subst hf
    have hμ := J9c h hk (by rw [he]; simp)
    simp only [tgt, he, Ent.id] at hμ
    rw [he] at ho
    rcases ho with ⟨cs', l, e1, e2, e3⟩ | ⟨w, esz', rows', e1, e2⟩
    ·cases e1
    ·injection e1 with a1 a2 a3; subst a1 a2 a3
     exact go b hμ e2
   ·cases hf
  ·rename_i hge
   injection hf with hf; subst hf
   have he : es[k]? = none := List.getElem?_eq_none (by omega)
   have hμ := J9c h hk (by rw [he]; simp)
   simp only [tgt, he] at hμ
   rw [he] at ho
   rcases ho with ⟨cs', l, e1, e2, e3⟩ | ⟨w, esz', rows', e1, e2⟩
   ·cases e1
   ·injection e1 with a1 a2 a3; subst a1 a2 a3
    exact go _ hμ e2
 | fn f first caps fs cs h1 h2 _ _ ih1 ih2 =>
  intro hf
  simp only [bk] at hf
  split at hf
  ·rename_i a c ha hc
   injection hf with hf; subst hf
   obtain ⟨k1, k2⟩ := J7D ha
   obtain ⟨k3, k4⟩ := J7D hc
   refine .fn f a c fs cs (by omega) (by omega) (fun i y v hy hv => ?_) (fun i y v hy hv => ?_)
   ·have hlt := Jb hy
    have hx : first[i]? = some (first[i]'(by omega)) := List.getElem?_eq_getElem _
    exact ih1 i _ v hx hv (k2 i _ y hx hy)
   ·have hlt := Jb hy
    have hx : caps[i]? = some (caps[i]'(by omega)) := List.getElem?_eq_getElem _
    exact ih2 i _ v hx hv (k4 i _ y hx hy)
  ·cases hf
inductive JpC (es : List Ent) (new kf b : Nat) : Prop where
 | out (k : Nat) : k < es.length + kf → tgt es new k = b → (∀ b e i, es[k]? ≠ some (.elem b e i)) → JpC es new kf b
 | elem (k e i : Nat) : es[k]? = some (.elem b e i) → JpC es new kf b
 | other : b ∉ es.map Ent.id → (b < new ∨ new + kf ≤ b) → JpC es new kf b
theorem J8H (b : Nat) : JpC es new kf b := by
 by_cases hm : b ∈ es.map Ent.id
 ·obtain ⟨e, he, hid⟩ := List.mem_map.1 hm
  obtain ⟨k, hk⟩ := List.getElem?_of_mem he
  have hlt := Jb hk
  cases e with
  | whole b' => simp only [Ent.id] at hid; subst hid; exact .out k (by omega) (by simp [tgt, hk, Ent.id]) (by rw [hk]; simp)
  | elem b' e' i' => simp only [Ent.id] at hid; subst hid; exact .elem k e' i' hk
 ·by_cases hr : new ≤ b ∧ b < new + kf
  ·have he : es[es.length + (b - new)]? = none := List.getElem?_eq_none (by omega)
   refine .out (es.length + (b - new)) (by omega) ?_ (by rw [he]; simp)
   simp only [tgt, he]; omega
  ·exact .other hm (by omega)
include h in
theorem JfD {k : Nat} (hk : k < es.length + kf) (hne : ∀ b e i, es[k]? ≠ some (.elem b e i)) (r o : Nat) :
  Wr1 (J3Z s1 es new kf c' σ2) (tgt es new k) r o ↔ Wr1 c' k r o := by
 have hμ := J9c h hk hne
 have hlt : k < c'.σ.length := by rw [h.len]; exact hk
 have hg : c'.σ[k]? = some c'.σ[k] := List.getElem?_eq_getElem hlt
 have ho := h.out k _ hg
 unfold Ja1 at ho
 unfold Wr1
 rw [hg, hμ]
 have hσ : (J3Z s1 es new kf c' σ2).σ = σ2 := rfl
 rw [hσ]
 cases he : es[k]? with
 | some e =>
  cases e with
  | whole b =>
   simp only [tgt, he, Ent.id]
   rw [he] at ho
   rcases ho with ⟨cs', l, e1, e2, e3⟩ | ⟨w, esz', rows', e1, e2⟩
   ·rw [e1, e3]; simp only; rw [(J7D e2).1]
   ·rw [e1, e2]
  | elem b e i => exact absurd he (hne b e i)
 | none =>
  simp only [tgt, he]
  rw [he] at ho
  rcases ho with ⟨cs', l, e1, e2, e3⟩ | ⟨w, esz', rows', e1, e2⟩
  ·rw [e1, e3]; simp only; rw [(J7D e2).1]
  ·rw [e1, e2]
include h in
theorem JdJ {k b e i : Nat} (he : es[k]? = some (.elem b e i)) (r o : Nat) : Wr1 (J3Z s1 es new kf c' σ2) b r o ↔ Wr1 s1 b r o := by
 obtain ⟨esz, rows, row, r', row', f1, f2, f3, f4, f5, f6, f7, f8, f9, f10⟩ := J8Q h he
 unfold Wr1
 have hσ : (J3Z s1 es new kf c' σ2).σ = σ2 := rfl
 rw [hσ, f9, f1, f10, f4]
include h in
theorem JhA {b : Nat} (h1 : b ∉ es.map Ent.id) (h2 : b < new ∨ new + kf ≤ b) (r o : Nat) : Wr1 (J3Z s1 es new kf c' σ2) b r o ↔ Wr1 s1 b r o := by
 unfold Wr1
 have hσ : (J3Z s1 es new kf c' σ2).σ = σ2 := rfl
 have hμ : (J3Z s1 es new kf c' σ2).g.μ b = s1.g.μ b := by simp only [J3Z]; rw [JcH h1 h2]
 rw [hσ, h.same b h1 h2, hμ]
include h in
theorem Jky {r o : Nat} (hw : Wr c' r o) : (∃ k e, es[k]? = some e ∧ Wr1 (J87 s1 es blks) k r o ∧ Wr1 s1 e.id r o) ∨ s1.w.heap.size ≤ r := by
 rcases h.trans.wnew r o hw with ⟨k, hk⟩ | hn
 ·obtain ⟨hlt, hw'⟩ := Jby h.cin k r o hk
  have he : es[k]? = some es[k] := List.getElem?_eq_getElem hlt
  rw [JaZ he] at hw'
  exact .inl ⟨k, _, he, hk, hw'⟩
 ·exact .inr hn
include h in
theorem Jkz : JE s1 (J3Z s1 es new kf c' σ2) := by
 refine ⟨?_, fun r o hc => h.trans.cmono r o hc, fun r o hc => ?_, fun r o ⟨b, hw⟩ => ?_, Nat.le_of_eq h.slen.symm, fun b cs hb => ?_, fun b wm esz rows hb => ?_⟩
 ·refine h.trans.keep.mono fun r o ⟨k, hk⟩ => ?_
  exact ⟨_, (Jby h.cin k r o hk).2⟩
 ·rcases h.trans.cnew r o hc with hc | ⟨k, hk⟩ | hn
  ·exact .inl hc
  ·exact .inr (.inl ⟨_, (Jby h.cin k r o hk).2⟩)
  ·exact .inr (.inr hn)
 ·cases J8H (es := es) (new := new) (kf := kf) b with
  | out k hk ht hne =>
   subst ht
   rcases Jky h ⟨k, (JfD h hk hne r o).1 hw⟩ with ⟨k', e, _, _, hw'⟩ | hn
   ·exact .inl ⟨_, hw'⟩
   ·exact .inr hn
  | elem k e i he => exact .inl ⟨b, (JdJ h he r o).1 hw⟩
  | other h1 h2 => exact .inl ⟨b, (JhA h h1 h2 r o).1 hw⟩
 ·cases J8H (es := es) (new := new) (kf := kf) b with
  | out k hk ht hne =>
   cases he : es[k]? with
   | none =>
    exfalso
    simp only [tgt, he] at ht
    have hge : es.length ≤ k := by
     rcases Nat.lt_or_ge k es.length with hlt | hge
     ·rw [List.getElem?_eq_getElem hlt] at he; cases he
     ·exact hge
    have := h.dead (k - es.length) (by omega)
    rw [ht, hb] at this; cases this
   | some e =>
    cases e with
    | elem b e i => exact absurd he (hne b e i)
    | whole b' =>
     simp only [tgt, he, Ent.id] at ht; subst ht
     obtain ⟨x, hx, hin⟩ := JaO h.cin he
     rcases hin with ⟨cs', l, h1, h2, rfl⟩ | ⟨w, esz', rows', h1, rfl⟩
     ·rw [hb] at h1; injection h1 with h1; injection h1 with h1; subst h1
      obtain ⟨⟨cs2, q1, q2⟩, q3⟩ := h.trans.box k _ hx
      have ho := h.out k _ q1
      unfold Ja1 at ho
      rw [he] at ho
      have hμ := J9c h hk hne
      simp only [tgt, he, Ent.id] at hμ
      rcases ho with ⟨cs3, l', e1, e2, e3⟩ | ⟨w, esz, rows, e1, e2⟩
      ·injection e1 with e1; subst e1
       refine ⟨⟨l', e3, ?_⟩, ?_⟩
       ·rw [← (J7D e2).1, q2, (J6x h2).1]
       ·rw [hμ, q3, J5v he]
      ·cases e1
     ·rw [hb] at h1; cases h1
  | elem k e i he =>
   obtain ⟨esz, rows, row, r', row', f1, _⟩ := J8Q h he
   rw [hb] at f1; cases f1
  | other h1 h2 =>
   refine ⟨⟨cs, by rw [← hb]; exact h.same b h1 h2, rfl⟩, ?_⟩
   simp only [J3Z]; rw [JcH h1 h2]
 ·cases J8H (es := es) (new := new) (kf := kf) b with
  | out k hk ht hne =>
   cases he : es[k]? with
   | none =>
    exfalso
    simp only [tgt, he] at ht
    have hge : es.length ≤ k := by
     rcases Nat.lt_or_ge k es.length with hlt | hge
     ·rw [List.getElem?_eq_getElem hlt] at he; cases he
     ·exact hge
    have := h.dead (k - es.length) (by omega)
    rw [ht, hb] at this; cases this
   | some e =>
    cases e with
    | elem b e i => exact absurd he (hne b e i)
    | whole b' =>
     simp only [tgt, he, Ent.id] at ht; subst ht
     obtain ⟨x, hx, hin⟩ := JaO h.cin he
     rcases hin with ⟨cs', l, h1, h2, rfl⟩ | ⟨w, esz', rows', h1, rfl⟩
     ·rw [hb] at h1; cases h1
     ·rw [hb] at h1; injection h1 with h1; injection h1 with a1 a2 a3; subst a1 a2 a3
      obtain ⟨wm', rows2, q1, q2, q3, q4⟩ := h.trans.arr k _ _ _ hx
      have ho := h.out k _ q1
      unfold Ja1 at ho
      rw [he] at ho
      have hμ := J9c h hk hne
      simp only [tgt, he, Ent.id] at hμ
      rcases ho with ⟨cs3, l', e1, e2, e3⟩ | ⟨w, esz2, rows3, e1, e2⟩
      ·cases e1
      ·injection e1 with a1 a2 a3; subst a1 a2 a3
       exact ⟨wm', rows2, e2, q2, q3, fun e => by rw [hμ, q4 e, J5v he]⟩
  | elem k e i he =>
   obtain ⟨esz', rows', row, r', row', f1, f2, f3, f4, f5, f6, f7, f8, f9, f10⟩ := J8Q h he
   rw [hb] at f1; injection f1 with f1; injection f1 with a1 a2 a3; subst a1 a2 a3
   exact ⟨true, _, f9, fun _ => rfl, by simp, fun _ => by rw [f10, f4]⟩
  | other h1 h2 =>
   refine ⟨wm, rows, by rw [← hb]; exact h.same b h1 h2, id, Nat.le_refl _, fun _ => ?_⟩
   simp only [J3Z]; rw [JcH h1 h2]
include h in
theorem Jup : Inv (J3Z s1 es new kf c' σ2) := by
 have hi := h.cin.inv
 have t := Jkz h
 have notOther : ∀ {b}, ¬ (b ∈ es.map Ent.id ∨ (new ≤ b ∧ b < new + kf)) → b ∉ es.map Ent.id ∧ (b < new ∨ new + kf ≤ b) := fun hn => ⟨fun hm => hn (.inl hm), by omega⟩
 have elem_back : ∀ {k b e i r o}, es[k]? = some (.elem b e i) → (Wr1 (J87 s1 es blks) k r o ↔ Wr1 c' k r o) := by
  intro k b e i r o he
  obtain ⟨x, hx, hin⟩ := JaO h.cin he
  obtain ⟨esz, rows, row, h1, h2, h3, rfl⟩ := hin
  obtain ⟨⟨cs', q1, q2⟩, q3⟩ := h.trans.box k _ hx
  have hx' : (J87 s1 es blks).σ[k]? = some (.box (row.map .p)) := hx
  unfold Wr1
  rw [hx', q1, q3]
  simp only [q2]
 have meet : ∀ {k b r o}, k < es.length + kf → Wr1 c' k r o → Wr1 s1 b r o → (∃ k', es[k']? = some (.whole b) ∨ ∃ e i, es[k']? = some (.elem b e i) ∧ k' = k) := by
  intro k b r o hk hw hb
  rcases Jky h ⟨k, hw⟩ with ⟨k', e, he, hwin, hw'⟩ | hn
  ·have hid := hi.apart _ _ _ _ hw' hb
   cases e with
   | whole b' => simp only [Ent.id] at hid; subst hid; exact ⟨k', .inl he⟩
   | elem b' e' i' =>
    simp only [Ent.id] at hid; subst hid
    have := h.inv.apart _ _ _ _ ((elem_back he).1 hwin) hw
    exact ⟨k', .inr ⟨e', i', he, this⟩⟩
  ·have := JcC hi b r o hb; omega
 refine J7j hi t (fun b => b ∈ es.map Ent.id ∨ (new ≤ b ∧ b < new + kf)) ?_ ?_ ?_ ?_ ?_ ?_ ?_ ?_
 ·intro b hn
  obtain ⟨h1, h2⟩ := notOther hn
  exact ⟨h.same b h1 h2, by simp only [J3Z]; rw [JcH h1 h2]⟩
 ·intro b r o v hn hw hv
  refine h.trans.keep.cell ?_ hv
  rintro ⟨k, hk⟩
  obtain ⟨hlt, hw'⟩ := Jby h.cin k r o hk
  have he : es[k]? = some es[k] := List.getElem?_eq_getElem hlt
  rw [JaZ he] at hw'
  have := hi.apart _ _ _ _ hw' hw
  exact hn (.inl (this ▸ Jcq he))
 ·intro b cs hd hb
  have hb : σ2[b]? = some (.box cs) := hb
  cases J8H (es := es) (new := new) (kf := kf) b with
  | other h1 h2 => rcases hd with hd | hd; exact absurd hd h1; omega
  | elem k e i he =>
   obtain ⟨esz', rows', row, r', row', f1, f2, f3, f4, f5, f6, f7, f8, f9, f10⟩ := J8Q h he
   rw [hb] at f9; cases f9
  | out k hk ht hne =>
   subst ht
   have hlt : k < c'.σ.length := by rw [h.len]; exact hk
   have hg : c'.σ[k]? = some c'.σ[k] := List.getElem?_eq_getElem hlt
   have ho := h.out k _ hg
   unfold Ja1 at ho
   have key : ∃ cs0, c'.σ[k]? = some (.box cs0) ∧ bk.bkL es new cs0 = some cs := by
    cases he : es[k]? with
    | some e =>
     cases e with
     | elem b e i => exact absurd he (hne b e i)
     | whole b' =>
      simp only [tgt, he, Ent.id] at hb
      rw [he] at ho
      rcases ho with ⟨cs3, l', e1, e2, e3⟩ | ⟨w, esz2, rows3, e1, e2⟩
      ·rw [hb] at e3; injection e3 with e3; injection e3 with e3; subst e3; exact ⟨cs3, by rw [hg, e1], e2⟩
      ·rw [hb] at e2; cases e2
    | none =>
     simp only [tgt, he] at hb
     rw [he] at ho
     rcases ho with ⟨cs3, l', e1, e2, e3⟩ | ⟨w, esz2, rows3, e1, e2⟩
     ·rw [hb] at e3; injection e3 with e3; injection e3 with e3; subst e3; exact ⟨cs3, by rw [hg, e1], e2⟩
     ·rw [hb] at e2; cases e2
   obtain ⟨cs0, h0, hl⟩ := key
   obtain ⟨k1, k2⟩ := J7D hl
   obtain ⟨r, o, c, e, fz, hm, hh, hle, hx, hfr⟩ := h.inv.box _ _ h0
   refine ⟨r, o, c, e, fz, by rw [J9c h hk hne]; exact hm, hh, by omega, fun i x hix => ?_, by rw [← k1]; exact hfr⟩
   have hi' := Jb hix
   have hx0 : cs0[i]? = some (cs0[i]'(by omega)) := List.getElem?_eq_getElem _
   obtain ⟨v, hv, hr, h1⟩ := hx i _ hx0
   exact ⟨v, hv, Jp3 h hr (k2 i _ x hx0 hix), h1⟩
 ·intro b wm esz rows hd hb
  have hb : σ2[b]? = some (.arr wm esz rows) := hb
  cases J8H (es := es) (new := new) (kf := kf) b with
  | other h1 h2 => rcases hd with hd | hd; exact absurd hd h1; omega
  | elem k e i he =>
   obtain ⟨esz', rows', row, r', row', f1, f2, f3, f4, f5, f6, f7, f8, f9, f10⟩ := J8Q h he
   rw [hb] at f9; injection f9 with f9; injection f9 with a1 a2 a3; subst a1 a2 a3
   have hlt := Jb f3
   rcases hi.arr _ _ _ _ f1 with ⟨hm, hr⟩ | ⟨r, c, e1, fz, hm, hh, hrow, hl, hx, hfr⟩
   ·subst hr; simp at f3
   ·rw [f4] at hm; injection hm with hm; injection hm with hm _; subst hm
    obtain ⟨c2, q1, q2, q3⟩ := t.keep.2.1 _ _ _ _ hh
    obtain ⟨rr, oo, c3, e3, fz3, m3, hh3, hle3, hx3, hfr3⟩ := h.inv.box _ _ f5
    rw [f8] at m3; injection m3 with m3; injection m3 with w1 w2; subst w1 w2
    have q1' : c'.w.heap[r']? = some (.cells c2 e1 fz) := q1
    rw [q1'] at hh3; injection hh3 with hh3; injection hh3 with w1 w2 w3; subst w1 w2 w3
    refine .inr ⟨r', c2, e1, fz, f10, q1, fun rw0 hrw => ?_, by simp; omega, fun k0 j row0 x0 hk0 hj0 => ⟨?_, fun h => by cases h⟩, by rw [q2]; exact hfr⟩
    ·rcases List.mem_or_eq_of_mem_set hrw with hm | hm
     ·exact hrow _ hm
     ·subst hm; omega
    ·have hjlt := Jb hj0
     by_cases hki : k0 = i
     ·subst hki
      rw [List.getElem?_set_self hlt] at hk0
      injection hk0 with hk0; subst hk0
      obtain ⟨v, hv, hr, _⟩ := hx3 j (.p x0) (by simp [hj0])
      refine ⟨v, hv, ?_⟩
      cases hr with | p _ _ hr => exact hr
     ·rw [List.getElem?_set_ne (Ne.symm hki)] at hk0
      obtain ⟨⟨v', hv', hr'⟩, _⟩ := hx k0 j row0 x0 hk0 hj0
      refine ⟨v', ?_, hr'.mono hi t⟩
      have hcell : JY s1.w r' (k0 * esz + j) = some v' := by rw [J1Y hh]; exact hv'
      have hj1 : j < esz := by rw [hrow _ (JV hk0)] at hjlt; exact hjlt
      have hnw : ¬ Wr (J87 s1 es blks) r' (k0 * esz + j) := by
       rintro ⟨k', hk'⟩
       obtain ⟨hlt', hw'⟩ := Jby h.cin k' _ _ hk'
       have he' : es[k']? = some es[k'] := List.getElem?_eq_getElem hlt'
       rw [JaZ he'] at hw'
       have hb1 : Wr1 s1 b r' (k0 * esz + j) := by unfold Wr1; rw [f1]; exact ⟨0, f4⟩
       have hid := hi.apart _ _ _ _ hw' hb1
       have hkk : k' = k := Jdt h he' he hid
       subst hkk
       obtain ⟨x, hx', hin⟩ := JaO h.cin he
       obtain ⟨esz2, rows2, row2, g1, g2, g3, rfl⟩ := hin
       rw [f1] at g1; injection g1 with g1; injection g1 with z1 z2 z3; subst z2 z3
       have hx'' : (J87 s1 es blks).σ[k']? = some (.box (row2.map .p)) := hx'
       unfold Wr1 at hk'
       rw [hx'', JcI he f1 f4] at hk'
       obtain ⟨o0, m0, hlo, hhi⟩ := hk'
       injection m0 with m0; injection m0 with _ m0; subst m0
       have hrl2 := hrow row2 (JV g3)
       simp at hhi
       rcases Nat.lt_or_ge k0 i with hlt2 | hge2
       ·have := J4X hlt2 hj1
        omega
       ·have := Nat.mul_le_mul_right esz (show i + 1 ≤ k0 by omega)
        rw [Nat.add_mul, Nat.one_mul] at this
        omega
      have := h.trans.keep.cell hnw hcell
      rw [J1Y q1'] at this
      exact this
  | out k hk ht hne =>
   subst ht
   have hlt : k < c'.σ.length := by rw [h.len]; exact hk
   have hg : c'.σ[k]? = some c'.σ[k] := List.getElem?_eq_getElem hlt
   have ho := h.out k _ hg
   unfold Ja1 at ho
   have key : c'.σ[k]? = some (.arr wm esz rows) := by
    cases he : es[k]? with
    | some e =>
     cases e with
     | elem b e i => exact absurd he (hne b e i)
     | whole b' =>
      simp only [tgt, he, Ent.id] at hb
      rw [he] at ho
      rcases ho with ⟨cs3, l', e1, e2, e3⟩ | ⟨w, esz2, rows3, e1, e2⟩
      ·rw [hb] at e3; cases e3
      ·rw [hb] at e2; injection e2 with e2; rw [hg, e1, e2]
    | none =>
     simp only [tgt, he] at hb
     rw [he] at ho
     rcases ho with ⟨cs3, l', e1, e2, e3⟩ | ⟨w, esz2, rows3, e1, e2⟩
     ·rw [hb] at e3; cases e3
     ·rw [hb] at e2; injection e2 with e2; rw [hg, e1, e2]
   rcases h.inv.arr _ _ _ _ key with ⟨hm, hr⟩ | ⟨r, c, e, fz, hm, hq⟩
   ·exact .inl ⟨by rw [J9c h hk hne]; exact hm, hr⟩
   ·exact .inr ⟨r, c, e, fz, by rw [J9c h hk hne]; exact hm, hq⟩
 ·
  intro b1 b2 r o hd h1 h2
  cases J8H (es := es) (new := new) (kf := kf) b1 with
  | other g1 g2 => rcases hd with hd | hd; exact absurd hd g1; omega
  | out k1 hk1 ht1 hne1 =>
   subst ht1
   have w1 := (JfD h hk1 hne1 r o).1 h1
   cases J8H (es := es) (new := new) (kf := kf) b2 with
   | out k2 hk2 ht2 hne2 =>
    subst ht2
    have w2 := (JfD h hk2 hne2 r o).1 h2
    rw [h.inv.apart _ _ _ _ w1 w2]
   | elem k2 e i he =>
    exfalso
    have w2 := (JdJ h he r o).1 h2
    obtain ⟨k', hk' | ⟨e', i', hk', hkk⟩⟩ := meet hk1 w1 w2
    ·have := Jdt h hk' he rfl
     subst this; rw [he] at hk'; cases hk'
    ·subst hkk; exact hne1 _ _ _ hk'
   | other g1 g2 =>
    exfalso
    have w2 := (JhA h g1 g2 r o).1 h2
    obtain ⟨k', hk' | ⟨e', i', hk', hkk⟩⟩ := meet hk1 w1 w2
    ·exact g1 (Jcq hk')
    ·exact g1 (Jcq hk')
  | elem k1 e1 i1 he1 =>
   have w1 := (JdJ h he1 r o).1 h1
   cases J8H (es := es) (new := new) (kf := kf) b2 with
   | out k2 hk2 ht2 hne2 =>
    subst ht2
    exfalso
    have w2 := (JfD h hk2 hne2 r o).1 h2
    obtain ⟨k', hk' | ⟨e', i', hk', hkk⟩⟩ := meet hk2 w2 w1
    ·have := Jdt h hk' he1 rfl
     subst this; rw [he1] at hk'; cases hk'
    ·subst hkk; exact hne2 _ _ _ hk'
   | elem k2 e i he => exact hi.apart _ _ _ _ w1 ((JdJ h he r o).1 h2)
   | other g1 g2 => exact hi.apart _ _ _ _ w1 ((JhA h g1 g2 r o).1 h2)
 ·exact fun r o hc => (h.inv.const r o hc).1
 ·intro r o b hc hd hw
  cases J8H (es := es) (new := new) (kf := kf) b with
  | other g1 g2 => rcases hd with hd | hd; exact absurd hd g1; omega
  | out k hk ht hne =>
   subst ht
   exact (h.inv.const r o hc).2 _ ((JfD h hk hne r o).1 hw)
  | elem k e i he =>
   have w1 := (JdJ h he r o).1 hw
   rcases h.trans.cnew r o hc with hc0 | ⟨k', hk'⟩ | hn
   ·exact (hi.const r o hc0).2 _ w1
   ·obtain ⟨hlt', hw'⟩ := Jby h.cin k' _ _ hk'
    have he' : es[k']? = some es[k'] := List.getElem?_eq_getElem hlt'
    rw [JaZ he'] at hw'
    have hid := hi.apart _ _ _ _ hw' w1
    have hkk : k' = k := Jdt h he' he hid
    subst hkk
    exact (h.inv.const r o hc).2 _ ((elem_back he).1 hk')
   ·have hn : s1.w.heap.size ≤ r := hn
    have := JcC hi _ _ _ w1; omega
 ·intro r o b hc hn0 hd hw
  rcases h.trans.cnew r o hc with hc0 | ⟨k', hk'⟩ | hn
  ·exact hn0 hc0
  ·obtain ⟨hlt', hw'⟩ := Jby h.cin k' _ _ hk'
   have he' : es[k']? = some es[k'] := List.getElem?_eq_getElem hlt'
   rw [JaZ he'] at hw'
   have hid := hi.apart _ _ _ _ hw' hw
   exact hd (.inl (hid ▸ Jcq he'))
  ·have hn : s1.w.heap.size ≤ r := hn
   have := JcC hi _ _ _ hw; omega
end
end Go.Am
end
section
namespace Go.Am
section
variable {P : Program} {F : Orc} {s : Sn} {a : Act} {env : List (Nat × AV)} {o : Oper} {new : Nat} {e : Eff}
theorem Jng {σ0 : List Blk} (hi : Inv s) (hF : Frz σ0 s.σ) {x : AV} {y : AV × List (Nat × Blk)} {v : Value} (h : (J7x x).run ⟨env, σ0⟩ = some y) (hr : Jr s x v) :
  ∃ g', Inv ⟨upd y.2 s.σ, g', s.w⟩ ∧ JE s ⟨upd y.2 s.σ, g', s.w⟩ ∧ Frz s.σ (upd y.2 s.σ) ∧ Jr ⟨upd y.2 s.σ, g', s.w⟩ y.1 v := by
 have same : ∀ {z : AV}, (RM.ret (z, []) : RM (AV × List (Nat × Blk))).run ⟨env, σ0⟩ = some y → Jr s z v → ∃ g', Inv ⟨upd y.2 s.σ, g', s.w⟩ ∧ JE s ⟨upd y.2 s.σ, g', s.w⟩ ∧ Frz s.σ (upd y.2 s.σ) ∧ Jr ⟨upd y.2 s.σ, g', s.w⟩ y.1 v := by
  intro z hz hr
  simp only [RM.run] at hz; injection hz with hz; subst hz
  exact ⟨s.g, hi, .refl s, .refl _, hr⟩
 cases x with
 | slr b i n =>
  simp only [J7x] at h
  obtain ⟨y1, h1, h⟩ := bind_some h
  obtain ⟨g', k1, k2, k3, c, hc, rc⟩ := Jaa hi hF h1 hr
  rw [hc] at h
  simp only [RM.run] at h; injection h with h; subst h
  exact ⟨g', k1, k2, k3, .p _ _ rc⟩
 | agg cs =>
  simp only [J7x] at h
  obtain ⟨y1, h1, h⟩ := bind_some h
  simp only [RM.run] at h; injection h with h; subst h
  obtain ⟨g', k1, k2, k3, k4, k5⟩ := Jmz hi hF h1 hr
  cases hr with
  | agg _ vs h1 h0 h2 => exact ⟨g', k1, k2, k3, .data _ _ k4 fun i x v hx hv => k5 i x v hx hv⟩
 | tup => simp only [J7x, RM.run] at h; cases h
 | p c => exact same h hr
 | data cs => exact same h hr
 | ptr b off => exact same h hr
 | cp cs off => exact same h hr
 | ep b e i off => exact same h hr
 | fn f first caps => exact same h hr
 | unk => exact same h hr
theorem JkZ {σ0 : List Blk} : ∀ {xs : List AV} {s : Sn} {y : List AV × List (Nat × Blk)} {vs : List Value}, Inv s → Frz σ0 s.σ → (Jz xs).run ⟨env, σ0⟩ = some y → xs.length = vs.length →
  (∀ (i : Nat) x v, xs[i]? = some x → vs[i]? = some v → Jr s x v) →
  ∃ g', Inv ⟨upd y.2 s.σ, g', s.w⟩ ∧ JE s ⟨upd y.2 s.σ, g', s.w⟩ ∧ Frz s.σ (upd y.2 s.σ) ∧ y.1.length = vs.length ∧
   ∀ (i : Nat) x v, y.1[i]? = some x → vs[i]? = some v → Jr ⟨upd y.2 s.σ, g', s.w⟩ x v
 | [], s, y, vs, hi, hF, h, hl, hr => by
  simp only [Jz, RM.run] at h; injection h with h; subst h
  exact ⟨s.g, hi, .refl s, .refl _, by simpa using hl, fun i c v hc => by simp at hc⟩
 | x :: xs, s, y, [], hi, hF, h, hl, hr => by simp at hl
 | x :: xs, s, y, v :: vs, hi, hF, h, hl, hr => by
  simp only [Jz] at h
  obtain ⟨y1, h1, h⟩ := bind_some h
  obtain ⟨y2, h2, h⟩ := bind_some h
  simp only [RM.run] at h; injection h with h; subst h
  obtain ⟨g1, i1, t1, f1, r1⟩ := Jng hi hF h1 (hr 0 x v rfl rfl)
  obtain ⟨g2, i2, t2, f2, l2, r2⟩ := JkZ (s := ⟨upd y1.2 s.σ, g1, s.w⟩) i1 (hF.trans f1) h2 (by simpa using hl) fun i x v hx hv => (hr (i + 1) x v (by simpa using hx) (by simpa using hv)).mono hi t1
  refine ⟨g2, by rw [J2j]; exact i2, by rw [J2j]; exact t1.trans t2, by rw [J2j]; exact f1.trans f2, by simp [l2], fun i c' v' hc' hv' => ?_⟩
  rw [J2j]
  cases i with
  | zero =>
   simp at hc' hv'; subst hc' hv'
   exact Jr.mono (s0 := ⟨upd y1.2 s.σ, g1, s.w⟩) (s := ⟨upd y2.2 (upd y1.2 s.σ), g2, s.w⟩) i1 t2 r1
  | succ i => exact r2 i c' v' (by simpa using hc') (by simpa using hv')
def Jqc (s1 : Sn) (es : List Ent) (new : Nat) (e : Ent) (x : Blk) (y : Nat × Blk) : Prop :=
 y.1 = e.id ∧ match e with
 | .whole _ => (∃ cs l, x = .box cs ∧ bk.bkL es new cs = some l ∧ y.2 = .box l) ∨ (∃ w esz rows, x = .arr w esz rows ∧ y.2 = .arr w esz rows)
 | .elem b _ i => ∃ w esz rows row', s1.σ[b]? = some (.arr w esz rows) ∧ x = .box (row'.map .p) ∧ y.2 = .arr w esz (rows.set i row')
theorem Jpg {σ0 : List Blk} {ws : List (Nat × Blk)} (hσ : s.σ = upd ws σ0) {es : List Ent} {en : Ent} {x : Blk} {y : Nat × Blk} (h : (Ja8 ws es new en x).run ⟨env, σ0⟩ = some y) : Jqc s es new en x y := by
 unfold Ja8 at h
 split at h
 ·rename_i b cs
  split at h
  ·rename_i l hl
   simp only [RM.run] at h; injection h with h; subst h
   exact ⟨rfl, .inl ⟨cs, l, rfl, hl, rfl⟩⟩
  ·cases h
 ·simp only [RM.run] at h; injection h with h; subst h
  exact ⟨rfl, .inr ⟨_, _, _, rfl, rfl⟩⟩
 ·rename_i b ext i cs
  obtain ⟨z, h1, h⟩ := bind_some h
  have hb := Jie h1
  rw [← hσ] at hb
  cases z with
  | arr w esz rows =>
   dsimp only at h
   split at h
   ·rename_i row' hrow
    simp only [RM.run] at h; injection h with h; subst h
    exact ⟨rfl, w, esz, rows, row', hb, by rw [Je5 hrow], rfl⟩
   ·cases h
  | _ => cases h
 ·cases h
theorem Jhe {σ0 : List Blk} {ws : List (Nat × Blk)} (hσ : s.σ = upd ws σ0) {es : List Ent} : ∀ {ens : List Ent} {xs : List Blk} {ys : List (Nat × Blk)}, (J3D ws es new ens xs).run ⟨env, σ0⟩ = some ys →
  ens.length = ys.length ∧ ens.length ≤ xs.length ∧ ∀ (k : Nat) en x y, ens[k]? = some en → xs[k]? = some x → ys[k]? = some y → Jqc s es new en x y
 | [], xs, ys, h => by simp only [J3D, RM.run] at h; injection h with h; subst h; exact ⟨rfl, Nat.zero_le _, fun k e x y h => by simp at h⟩
 | _ :: _, [], ys, h => by cases h
 | en :: ens, x :: xs, ys, h => by
  simp only [J3D] at h
  obtain ⟨y, h1, h⟩ := bind_some h
  obtain ⟨l, h2, h⟩ := bind_some h
  simp only [RM.run] at h; injection h with h; subst h
  obtain ⟨k1, k2, k3⟩ := Jhe hσ h2
  refine ⟨by simp [k1], by simpa using k2, fun k e' x' y' he hx hy => ?_⟩
  cases k with
  | zero => simp at he hx hy; subst he hx hy; exact Jpg hσ h1
  | succ k => exact k3 k e' x' y' (by simpa using he) (by simpa using hx) (by simpa using hy)
theorem JcZ {es : List Ent} : ∀ {xs : List Blk} {k0 : Nat} {ys : List (Nat × Blk)}, J4M es new k0 xs = some ys →
  xs.length = ys.length ∧ ∀ (j : Nat) x y, xs[j]? = some x → ys[j]? = some y → y.1 = k0 + j ∧ ((∃ cs l, x = .box cs ∧ bk.bkL es new cs = some l ∧ y.2 = .box l) ∨ (∃ w esz rows, x = .arr w esz rows ∧ y.2 = .arr w esz rows))
 | [], k0, ys, h => by simp [J4M] at h; subst h; exact ⟨rfl, fun j x y h => by simp at h⟩
 | .dead :: _, k0, ys, h => by simp [J4M] at h
 | .box cs :: xs, k0, ys, h => by
  simp only [J4M] at h
  split at h
  ·rename_i c l hc hl
   injection h with h; subst h
   obtain ⟨k1, k2⟩ := JcZ hl
   refine ⟨by simp [k1], fun j x y hx hy => ?_⟩
   cases j with
   | zero => simp at hx hy; subst hx hy; exact ⟨rfl, .inl ⟨cs, c, rfl, hc, rfl⟩⟩
   | succ j => obtain ⟨h1, h2⟩ := k2 j x y (by simpa using hx) (by simpa using hy); exact ⟨by omega, h2⟩
  ·cases h
 | .arr w esz rows :: xs, k0, ys, h => by
  simp only [J4M] at h
  split at h
  ·rename_i l hl
   injection h with h; subst h
   obtain ⟨k1, k2⟩ := JcZ hl
   refine ⟨by simp [k1], fun j x y hx hy => ?_⟩
   cases j with
   | zero => simp at hx hy; subst hx hy; exact ⟨rfl, .inr ⟨w, esz, rows, rfl, rfl⟩⟩
   | succ j => obtain ⟨h1, h2⟩ := k2 j x y (by simpa using hx) (by simpa using hy); exact ⟨by omega, h2⟩
  ·cases h
theorem JkI (b : Nat) (p q : List (Nat × Blk)) : J2f b (p ++ q) = match J2f b q with
  | some y => some y
  | none => J2f b p := by
 induction p with
 | nil => simp [J2f]; cases J2f b q <;> rfl
 | cons x p ih =>
  obtain ⟨c, z⟩ := x
  simp only [List.cons_append, J2f, ih]
  cases J2f b q <;> rfl
theorem Jhy {b : Nat} {x : Blk} : ∀ {ws : List (Nat × Blk)}, (ws.map (·.1)).Nodup → ∀ {k : Nat}, ws[k]? = some (b, x) → J2f b ws = some x
 | [], _, k, h => by simp at h
 | (c, z) :: r, hn, k, h => by
  obtain ⟨h1, h2⟩ := List.nodup_cons.1 hn
  simp only [J2f]
  cases k with
  | zero =>
   simp at h
   obtain ⟨rfl, rfl⟩ := h
   rw [J6F h1]; simp
  | succ k => rw [Jhy h2 (k := k) (by simpa using h)]
theorem JnQ (n k : Nat) : ((List.range k).map (n + ·)).Nodup := by
 rw [List.Nodup, List.pairwise_map]
 exact (List.nodup_range (n := k)).imp fun h e => h (by omega)
theorem JkU (hF : J5r P F) {f : FuncId} {ar : List AV × List (Nat × Blk)} {k0 : Nat} {vals : Array Value} (hdead0 : ∀ j, j < k0 → s.σ[new + j]? = some .dead)
  {g1 : Gh} (i1 : Inv ⟨upd ar.2 s.σ, g1, s.w⟩) (t1 : JE s ⟨upd ar.2 s.σ, g1, s.w⟩) (f1 : Frz s.σ (upd ar.2 s.σ)) (l1 : ar.1.length = vals.toList.length)
  (r1 : ∀ (i : Nat) x v, ar.1[i]? = some x → vals.toList[i]? = some v → Jr ⟨upd ar.2 s.σ, g1, s.w⟩ x v)
  (h : (J4C F f ar k0 new).run ⟨env, s.σ⟩ = some e)
  (hex : ∀ fn, P.funcs[f]? = some fn → fn.body.isSome = true → (fn.name == "runtime.NumGoroutine") = false → (execOp a.eval o).run P s.w = .ok (.enter f vals) s.w) : J0H P o a s e := by
 unfold J4C at h
 obtain ⟨es1, h2, h⟩ := bind_some h
 obtain ⟨es, h3, h⟩ := bind_some h
 split at h
 ·rename_i hnd
  split at h
  ·cases h
  ·rename_i args' hren
   obtain ⟨blks, h4, h⟩ := bind_some h
   split at h
   ·cases h
   ·rename_i r hres
    split at h
    ·rename_i hlen0
     obtain ⟨k, hlen, hk⟩ : ∃ k, r.2.length = es.length + k ∧ k ≤ k0 := ⟨r.2.length - es.length, by omega, by omega⟩
     have hdead : ∀ j, j < k → s.σ[new + j]? = some .dead := fun j hj => hdead0 j (by omega)
     clear hlen0
     split at h
     ·rename_i v fresh hv hfresh
      obtain ⟨back, h5, h⟩ := bind_some h
      simp only [RM.run] at h; injection h with h; subst h
      let s1 : Sn := ⟨upd ar.2 s.σ, g1, s.w⟩
      obtain ⟨bl, hblk⟩ := JiS (s := s1) rfl h4
      have cin : Jns s1 es blks := ⟨i1, Jek hnd, bl, hblk⟩
      obtain ⟨⟨fn, hfn, hbody, hname⟩, hcall⟩ := hF f args' blks r hres
      obtain ⟨q1, q2⟩ := J6x hren
      have ci := Jvh cin
      have hc := hcall (J87 s1 es blks).g s.w vals ci (by rw [← q1, l1]; simp) (fun i x v hx hv => by
       have hlt := Jb hx
       have hx0 : ar.1[i]? = some (ar.1[i]'(by omega)) := List.getElem?_eq_getElem _
       exact Jqp cin (r1 i _ v hx0 (by simpa using hv)) (q2 i _ x hx0 hx))
      intro next Q hnext
      simp only [Oper.wp, hex fn hfn hbody hname, Oper.upon]
      refine hc.mono ?_
      rintro e w' ⟨rv, g', rfl, inv', trans', rel'⟩
      simp only
      obtain ⟨b1, b2, b3⟩ := Jhe (s := s1) rfl h5
      obtain ⟨n1, n2⟩ := JcZ hfresh
      have hdead1 : ∀ j, j < k → s1.σ[new + j]? = some .dead := fun j hj => f1.2 _ _ (hdead j hj) (by simp)
      have hkf : (r.2.drop es.length).length = k := by simp; omega
      have hbid : back.map (·.1) = es.map Ent.id := by
       apply List.ext_getElem?
       intro i
       rw [List.getElem?_map, List.getElem?_map]
       by_cases hlt : i < es.length
       ·have e1 : es[i]? = some es[i] := List.getElem?_eq_getElem hlt
        have e2 : back[i]? = some (back[i]'(by omega)) := List.getElem?_eq_getElem _
        have e3 : r.2[i]? = some (r.2[i]'(by omega)) := List.getElem?_eq_getElem _
        have := (b3 i _ _ _ e1 e3 e2).1
        rw [e1, e2]; simp [this]
       ·rw [List.getElem?_eq_none (by omega), List.getElem?_eq_none (by omega)]; rfl
      have hfid : ∀ j, j < k → fresh[j]? = some (new + j, (fresh[j]?.map (·.2)).getD .dead) := by
       intro j hj
       have e1 : fresh[j]? = some (fresh[j]'(by omega)) := List.getElem?_eq_getElem _
       have e2 : (r.2.drop es.length)[j]? = some ((r.2.drop es.length)[j]'(by omega)) := List.getElem?_eq_getElem _
       have := (n2 j _ _ e2 e1).1
       rw [e1]; simp [← this]
      have hfnd : (fresh.map (·.1)).Nodup := by
       have : fresh.map (·.1) = (List.range k).map (new + ·) := by
        apply List.ext_getElem?
        intro j
        by_cases hj : j < k
        ·rw [List.getElem?_map, hfid j hj, List.getElem?_map, List.getElem?_range hj]; rfl
        ·rw [List.getElem?_eq_none (by simp; omega), List.getElem?_eq_none (by simp; omega)]
       rw [this]
       exact JnQ new k
      have hfmem : ∀ b, b ∈ fresh.map (·.1) ↔ new ≤ b ∧ b < new + k := by
       intro b
       constructor
       ·intro hm
        obtain ⟨j, hj⟩ := List.getElem?_of_mem hm
        have hlt := Jb hj
        simp at hlt
        rw [List.getElem?_map, hfid j (by omega)] at hj
        simp at hj; omega
       ·intro hm
        have := hfid (b - new) (by omega)
        rw [show new + (b - new) = b by omega] at this
        exact List.mem_map.2 ⟨_, JV this, rfl⟩
      have hlenσ : (upd (back ++ fresh) s1.σ).length = s1.σ.length := Jga _ _
      have liveE : ∀ {k0 : Nat} {en : Ent}, es[k0]? = some en → en.id < s1.σ.length ∧ ¬ (new ≤ en.id ∧ en.id < new + k) := by
       intro k0 en he
       obtain ⟨x, _, hin⟩ := JaO cin he
       have hy : ∃ y, s1.σ[en.id]? = some y ∧ y ≠ .dead := by
        cases en with
        | whole b =>
         rcases hin with ⟨cs', l, h1, h2, rfl⟩ | ⟨w, esz', rows', h1, rfl⟩
         ·exact ⟨_, h1, by simp⟩
         ·exact ⟨_, h1, by simp⟩
        | elem b ext i =>
         obtain ⟨esz', rows', row, h1, h2, h3, rfl⟩ := hin
         exact ⟨_, h1, by simp⟩
       obtain ⟨y, hy, hd⟩ := hy
       refine ⟨Jb hy, fun hm => ?_⟩
       have := hdead1 (en.id - new) (by omega)
       rw [show new + (en.id - new) = en.id by omega, hy] at this
       injection this with this; exact hd this
      have getE : ∀ {k0 : Nat} {en : Ent} {y : Nat × Blk}, es[k0]? = some en → back[k0]? = some y → (upd (back ++ fresh) s1.σ)[en.id]? = some y.2 := by
       intro k0 en y he hy
       obtain ⟨hlt, hnf⟩ := liveE he
       have e3 : r.2[k0]? = some (r.2[k0]'(by have := Jb he; omega)) := List.getElem?_eq_getElem _
       have hid := (b3 k0 en _ y he e3 hy).1
       rw [Jax _ _ _ hlt, JkI, J6F (by rw [hfmem]; exact hnf)]
       simp only
       rw [Jhy (x := y.2) (by rw [hbid]; exact cin.nodup) (k := k0) (by rw [hy, ← hid])]
      have getN : ∀ {j : Nat} {y : Nat × Blk}, j < k → fresh[j]? = some y → (upd (back ++ fresh) s1.σ)[new + j]? = some y.2 := by
       intro j y hj hy
       have hlt := Jb (hdead1 j hj)
       have e2 : (r.2.drop es.length)[j]? = some ((r.2.drop es.length)[j]'(by omega)) := List.getElem?_eq_getElem _
       have hid := (n2 j _ _ e2 hy).1
       rw [Jax _ _ _ hlt, JkI, Jhy (x := y.2) hfnd (k := j) (by rw [hy, ← hid])]
      have co : JoH s1 es blks new k ⟨r.2, g', w'⟩ (upd (back ++ fresh) s1.σ) := by
       refine ⟨cin, inv', trans', hlen, hlenσ, hdead1, fun k0 y hy => ?_, fun b hb1 hb2 => ?_⟩
       ·have hy : r.2[k0]? = some y := hy
        unfold Ja1
        cases he : es[k0]? with
        | some en =>
         have hlt := Jb he
         have e2 : back[k0]? = some (back[k0]'(by omega)) := List.getElem?_eq_getElem _
         obtain ⟨hid, hbk⟩ := b3 k0 en y _ he hy e2
         have hg := getE he e2
         cases en with
         | whole b =>
          rcases hbk with ⟨cs, l, e1, e3, e4⟩ | ⟨w, esz, rows, e1, e4⟩
          ·exact .inl ⟨cs, l, e1, e3, by rw [← e4]; exact hg⟩
          ·exact .inr ⟨w, esz, rows, e1, by rw [← e4]; exact hg⟩
         | elem b ext i =>
          obtain ⟨w, esz, rows, row', e1, e3, e4⟩ := hbk
          exact ⟨w, esz, rows, row', e1, e3, by rw [← e4]; exact hg⟩
        | none =>
         have hge : es.length ≤ k0 := by
          rcases Nat.lt_or_ge k0 es.length with hlt | hge
          ·rw [List.getElem?_eq_getElem hlt] at he; cases he
          ·exact hge
         have hlt := Jb hy
         have e2 : fresh[k0 - es.length]? = some (fresh[k0 - es.length]'(by omega)) := List.getElem?_eq_getElem _
         have e3 : (r.2.drop es.length)[k0 - es.length]? = some y := by rw [List.getElem?_drop, ← hy]; congr 1; omega
         obtain ⟨hid, hbk⟩ := n2 _ _ _ e3 e2
         have hg := getN (j := k0 - es.length) (by omega) e2
         rcases hbk with ⟨cs, l, e1, e5, e4⟩ | ⟨w, esz, rows, e1, e4⟩
         ·exact .inl ⟨cs, l, e1, e5, by rw [← e4]; exact hg⟩
         ·exact .inr ⟨w, esz, rows, e1, by rw [← e4]; exact hg⟩
       ·by_cases hlt : b < s1.σ.length
        ·rw [Jax _ _ _ hlt, J6F]
         rw [List.map_append, List.mem_append, hbid, hfmem]
         rintro (h | h)
         ·exact hb1 h
         ·omega
        ·rw [List.getElem?_eq_none (by omega), List.getElem?_eq_none (by omega)]
      have oi := Jup co
      have ot := Jkz co
      have hupd : upd (ar.2 ++ back ++ fresh) s.σ = upd (back ++ fresh) s1.σ := by rw [List.append_assoc, J2j]
      refine hnext rv w' (J3Z s1 es new k ⟨r.2, g', w'⟩ (upd (back ++ fresh) s1.σ)).g ?_ ?_ ?_
      ·rw [hupd]; exact oi
      ·rw [hupd]; exact t1.trans ot
      ·rw [hupd]; exact Jp3 co rel' hv
     ·cases h
    ·cases h
 ·cases h
theorem Juc {f : FuncId} {args : List AV} {k : Nat} {s : St} (h : (J7A F f args k new).run s = some e) : ∃ ar, (Jz args).run s = some ar ∧ (J4C F f ar k new).run s = some e := by
 unfold J7A at h
 obtain ⟨ar, h1, h⟩ := bind_some h
 obtain ⟨es1, h2, h⟩ := bind_some h
 obtain ⟨es, h3, h⟩ := bind_some h
 refine ⟨ar, h1, ?_⟩
 unfold J4C
 rw [run_bind, h2, Option.bind_some, run_bind, h3, Option.bind_some]
 split at h
 ·rename_i hnd
  rw [if_pos hnd]
  split at h
  ·cases h
  ·rename_i args' hren
   obtain ⟨blks, h4, h⟩ := bind_some h
   try rw [hren]
   try dsimp only
   rw [run_bind, h4, Option.bind_some]
   split at h
   ·cases h
   ·rename_i r hres
    try rw [hres]
    try dsimp only
    split at h
    ·rename_i hlen
     rw [if_pos (by omega)]
     exact h
    ·cases h
 ·cases h
theorem JoV (hF : J5r P F) (hi : Inv s) {f : FuncId} {args : List AV} {k : Nat} {vals : Array Value} (hdead : ∀ j, j < k → s.σ[new + j]? = some .dead)
  (h : (J7A F f args k new).run ⟨env, s.σ⟩ = some e) (hl : args.length = vals.size) (hr : ∀ (i : Nat) x v, args[i]? = some x → vals[i]? = some v → Jr s x v)
  (hex : ∀ fn, P.funcs[f]? = some fn → fn.body.isSome = true → (fn.name == "runtime.NumGoroutine") = false → (execOp a.eval o).run P s.w = .ok (.enter f vals) s.w) : J0H P o a s e := by
 obtain ⟨ar, h1, h2⟩ := Juc h
 obtain ⟨g1, i1, t1, f1, l1, r1⟩ := JkZ (vs := vals.toList) hi (.refl _) h1 (by simpa using hl) (fun i x v hx hv => hr i x v hx (by simpa using hv))
 exact JkU hF hdead i1 t1 f1 l1 r1 h2 hex
theorem Jqe {σ0 : List Blk} : ∀ {m : List Bool} {xs : List AV} {s : Sn} {y : List AV × List (Nat × Blk)} {vs : List Value}, Inv s → Frz σ0 s.σ → (J2g m xs).run ⟨env, σ0⟩ = some y → xs.length = vs.length →
  (∀ (i : Nat) x v, xs[i]? = some x → vs[i]? = some v → Jr s x v) →
  ∃ g', Inv ⟨upd y.2 s.σ, g', s.w⟩ ∧ JE s ⟨upd y.2 s.σ, g', s.w⟩ ∧ Frz s.σ (upd y.2 s.σ) ∧ y.1.length = vs.length ∧
   ∀ (i : Nat) x v, y.1[i]? = some x → vs[i]? = some v → Jr ⟨upd y.2 s.σ, g', s.w⟩ x v := by
 intro m xs
 induction xs generalizing m with
 | nil =>
  intro s y vs hi hF h hl hr
  have h : (RM.ret ([], []) : RM (List AV × List (Nat × Blk))).run ⟨env, σ0⟩ = some y := by cases m <;> exact h
  simp only [RM.run] at h; injection h with h; subst h
  exact ⟨s.g, hi, .refl s, .refl _, by simpa using hl, fun i c v hc => by simp at hc⟩
 | cons x xs ih =>
  intro s y vs hi hF h hl hr
  cases vs with
  | nil => simp at hl
  | cons v vs =>
   have frz : ∀ {m' : List Bool}, ((J7x x).bind fun a => (J2g m' xs).bind fun c => .ret (a.1 :: c.1, a.2 ++ c.2)).run ⟨env, σ0⟩ = some y →
     ∃ g', Inv ⟨upd y.2 s.σ, g', s.w⟩ ∧ JE s ⟨upd y.2 s.σ, g', s.w⟩ ∧ Frz s.σ (upd y.2 s.σ) ∧ y.1.length = (v :: vs).length ∧
      ∀ (i : Nat) x v', y.1[i]? = some x → (v :: vs)[i]? = some v' → Jr ⟨upd y.2 s.σ, g', s.w⟩ x v' := by
    intro m' h
    obtain ⟨y1, h1, h⟩ := bind_some h
    obtain ⟨y2, h2, h⟩ := bind_some h
    simp only [RM.run] at h; injection h with h; subst h
    obtain ⟨g1, i1, t1, f1, r1⟩ := Jng hi hF h1 (hr 0 x v rfl rfl)
    obtain ⟨g2, i2, t2, f2, l2, r2⟩ := ih (m := m') (s := ⟨upd y1.2 s.σ, g1, s.w⟩) i1 (hF.trans f1) h2 (by simpa using hl) fun i x v hx hv => (hr (i + 1) x v (by simpa using hx) (by simpa using hv)).mono hi t1
    refine ⟨g2, by rw [J2j]; exact i2, by rw [J2j]; exact t1.trans t2, by rw [J2j]; exact f1.trans f2, by simp [l2], fun i c' v' hc' hv' => ?_⟩
    rw [J2j]
    cases i with
    | zero =>
     simp at hc' hv'; subst hc' hv'
     exact Jr.mono (s0 := ⟨upd y1.2 s.σ, g1, s.w⟩) (s := ⟨upd y2.2 (upd y1.2 s.σ), g2, s.w⟩) i1 t2 r1
    | succ i => exact r2 i c' v' (by simpa using hc') (by simpa using hv')
   cases m with
   | nil => exact frz h
   | cons b m =>
    cases b with
    | false => exact frz h
    | true =>
     simp only [J2g] at h
     obtain ⟨y2, h2, h⟩ := bind_some h
     simp only [RM.run] at h; injection h with h; subst h
     obtain ⟨g2, i2, t2, f2, l2, r2⟩ := ih (m := m) hi hF h2 (by simpa using hl) fun i x v hx hv => hr (i + 1) x v (by simpa using hx) (by simpa using hv)
     refine ⟨g2, i2, t2, f2, by simp [l2], fun i c' v' hc' hv' => ?_⟩
     cases i with
     | zero =>
      simp at hc' hv'; subst hc' hv'
      exact (hr 0 x v rfl rfl).mono hi t2
     | succ i => exact r2 i c' v' (by simpa using hc') (by simpa using hv')
theorem Jc1 {f : FuncId} {args : Array Value} {fn : Func} (h1 : P.funcs[f]? = some fn) (h2 : fn.body.isSome = true) (h3 : (fn.name == "runtime.NumGoroutine") = false) (w : World) :
  (callFunc f args).run P w = .ok (.enter f args) w := by
 have h3' : fn.name ≠ "runtime.NumGoroutine" := by simpa using h3
 have h4 : fn.body ≠ none := by intro h; rw [h] at h2; cases h2
 simp [callFunc, h1, h3', h4]
theorem JtN (hF : J5r P F) (hi : Inv s) (he : JQ s a.tmps env) {f args k} (hdead : ∀ j, j < k → s.σ[new + j]? = some .dead) (h : (opR F (.call f args k) new).run ⟨env, s.σ⟩ = some e)
  (hc : JA P (.call f args k) o.op = true) : J0H P o a s e := by
 simp only [opR] at h
 obtain ⟨vs, h1, h'⟩ := bind_some h
 clear h
 unfold JA at hc
 simp only at hc
 split at hc
 ·rename_i c hop
  split at hc
  ·rename_i g hcal
   simp only [Bool.and_eq_true, beq_iff_eq] at hc
   obtain ⟨rfl, hargs⟩ := hc
   obtain ⟨l, r⟩ := JbH he h1 hargs
   refine JoV hF hi hdead h' (vals := c.args.map a.eval) (by simpa using l) (fun i x v hx hv => r i x v hx (by simpa using hv)) fun fn g1 g2 g3 => ?_
   simp [execOp, hop, resolve, hcal, Act.eval, Deferred.ofValue, invoke, Jc1 g1 g2 g3]
  ·cases hc
 ·cases hc
theorem Js9 (hF : J5r P F) (hi : Inv s) (he : JQ s a.tmps env) {f keep args k} (hdead : ∀ j, j < k → s.σ[new + j]? = some .dead) (h : (opR F (.callo f keep args k) new).run ⟨env, s.σ⟩ = some e)
  (hc : JA P (.callo f keep args k) o.op = true) : J0H P o a s e := by
 simp only [opR] at h
 obtain ⟨vs, h1, h'⟩ := bind_some h
 obtain ⟨ar, h2, h3⟩ := bind_some h'
 clear h h'
 unfold JA at hc
 simp only at hc
 split at hc
 ·rename_i c hop
  split at hc
  ·rename_i g hcal
   simp only [Bool.and_eq_true, beq_iff_eq] at hc
   obtain ⟨rfl, hargs⟩ := hc
   obtain ⟨l, r⟩ := JbH he h1 hargs
   obtain ⟨g1, i1, t1, f1, l1, r1⟩ := Jqe (vs := (c.args.map a.eval).toList) hi (.refl _) h2 (by simpa using l) (fun i x v hx hv => r i x v hx (by simpa using hv))
   refine JkU hF hdead (vals := c.args.map a.eval) i1 t1 f1 l1 r1 h3 fun fn g1 g2 g3 => ?_
   simp [execOp, hop, resolve, hcal, Act.eval, Deferred.ofValue, invoke, Jc1 g1 g2 g3]
  ·cases hc
 ·cases hc
theorem JrS (hF : J5r P F) (hi : Inv s) (he : JQ s a.tmps env) {x args k} (hdead : ∀ j, j < k → s.σ[new + j]? = some .dead) (h : (opR F (.callv x args k) new).run ⟨env, s.σ⟩ = some e)
  (hc : JA P (.callv x args k) o.op = true) : J0H P o a s e := by
 simp only [opR] at h
 obtain ⟨u, h0, h'⟩ := bind_some h
 clear h
 unfold JA at hc
 simp only at hc
 split at hc
 ·rename_i c hop
  split at hc
  ·rename_i y hcal
   simp only [Bool.and_eq_true] at hc
   obtain ⟨hx, hargs⟩ := hc
   have rx := JI he h0 hx
   cases u with
   | fn f first caps =>
    dsimp only at h'
    obtain ⟨vs, h1, h''⟩ := bind_some h'
    obtain ⟨l, r⟩ := JbH he h1 hargs
    generalize hz : a.eval y = z at rx
    cases rx with
    | fn _ _ _ fs cs p1 p2 p3 p4 =>
     have l' : vs.length = c.args.size := by simpa using l
     refine JoV hF hi hdead h'' (vals := fs ++ c.args.map a.eval ++ cs) (by simp; omega) (fun i x v hx hv => ?_) fun fn g1 g2 g3 => ?_
     ·rcases J9K hx with hx | ⟨hge, hx⟩
      ·have hlt := Jb hx
       rw [Array.getElem?_append_left (by simp at hlt ⊢; omega)] at hv
       rcases J9K hx with hx | ⟨hge, hx⟩
       ·have hlt := Jb hx
        rw [Array.getElem?_append_left (by omega)] at hv
        exact p3 i x v hx hv
       ·rw [Array.getElem?_append_right (by omega)] at hv
        exact r _ x v hx (by rw [← p1] at hv; simpa using hv)
      ·rw [Array.getElem?_append_right (by simp at hge ⊢; omega)] at hv
       refine p4 _ x v hx ?_
       rw [← hv]; congr 1; simp; omega
     ·simp [execOp, hop, resolve, hcal, hz, Deferred.ofValue, invoke, Jc1 g1 g2 g3]
   | _ => cases h'
  ·cases hc
 ·cases hc
end
end Go.Am
end
section
namespace Go.Am
section
variable {P : Program} {F : Orc} {s : Sn} {a : Act} {env : List (Nat × AV)} {o : Oper} {new : Nat} {e : Eff}
theorem Ji3 : ∀ (os : List (Nat × Nat)) (n : Nat) {s : Sn}, Inv s → (∀ j, j < os.length → s.σ[n + j]? = some .dead) →
  ∃ g', Inv ⟨upd (J31 os n) s.σ, g', s.w⟩ ∧ JE s ⟨upd (J31 os n) s.σ, g', s.w⟩ ∧
   (∀ j, j < os.length → (∃ esz, (upd (J31 os n) s.σ)[n + j]? = some (.arr true esz [])) ∧ g'.μ (n + j) = none) ∧
   (∀ b, b < n ∨ n + os.length ≤ b → (upd (J31 os n) s.σ)[b]? = s.σ[b]? ∧ g'.μ b = s.g.μ b)
 | [], n, s, hi, _ => ⟨s.g, hi, .refl s, fun j hj => by simp at hj, fun b _ => ⟨rfl, rfl⟩⟩
 | (off, esz) :: r, n, s, hi, hd => by
  obtain ⟨i1, t1⟩ := Jgc hi (hd 0 (by simp)) esz
  obtain ⟨g', i2, t2, h1, h2⟩ := Ji3 r (n + 1) (s := ⟨s.σ.set n (.arr true esz []), J5W s.g n none, s.w⟩) i1 (fun j hj => by
   show (s.σ.set n _)[n + 1 + j]? = _
   rw [JD (by omega)]
   have := hd (j + 1) (by simp; omega)
   rw [show n + 1 + j = n + (j + 1) by omega]; exact this)
  refine ⟨g', i2, t1.trans t2, fun j hj => ?_, fun b hb => ?_⟩
  ·cases j with
   | zero =>
    obtain ⟨e1, e2⟩ := h2 n (.inl (by omega))
    refine ⟨⟨esz, ?_⟩, ?_⟩
    ·show (upd (J31 r (n + 1)) (s.σ.set n (.arr true esz [])))[n + 0]? = _
     rw [Nat.add_zero]
     exact e1.trans (J0a (hd 0 (by simp)))
    ·rw [Nat.add_zero, e2]; exact if_pos rfl
   | succ j =>
    have := h1 j (by simpa using hj)
    rw [show n + (j + 1) = n + 1 + j by omega]
    exact this
  ·obtain ⟨e1, e2⟩ := h2 b (by simp at hb; omega)
   have hne : n ≠ b := by simp at hb; omega
   exact ⟨e1.trans (JD hne), e2.trans (if_neg (Ne.symm hne))⟩
theorem Jj3 {t : TypeId} {os : List (Nat × Nat)} {v : Value} (hv : zeT P t = some v) (h : Jm6 P t os = true) : ∀ x ∈ os, v.cells[x.1]? = some (.slice none 0 0) := by
 intro x hx
 unfold Jm6 at h
 rw [hv] at h
 have := List.all_eq_true.1 h x hx
 split at this
 ·assumption
 ·cases this
theorem Jhk {cells : Array Value} : ∀ (os : List (Nat × Nat)) (n : Nat) {cs : List AV}, (∀ x ∈ os, cells[x.1]? = some (.slice none 0 0)) →
  (∀ j, j < os.length → (∃ esz, s.σ[n + j]? = some (.arr true esz [])) ∧ s.g.μ (n + j) = none) →
  (∀ (i : Nat) x, cs[i]? = some x → ∃ u, cells[i]? = some u ∧ Jr s x u ∧ u.oneCell' = true) →
  ∀ (i : Nat) x, (J7b os n cs)[i]? = some x → ∃ u, cells[i]? = some u ∧ Jr s x u ∧ u.oneCell' = true
 | [], _, _, _, _, h => h
 | (off, esz) :: r, n, cs, hz, ha, h => by
  refine Jhk r (n + 1) (fun x hx => hz x (by simp [hx])) (fun j hj => by
   have := ha (j + 1) (by simpa using hj)
   rw [show n + 1 + j = n + (j + 1) by omega]; exact this) fun i x hx => ?_
  by_cases hi : off = i
  ·subst hi
   have hlt := Jb hx
   rw [List.length_set] at hlt
   rw [List.getElem?_set_self hlt] at hx
   injection hx with hx; subst hx
   obtain ⟨⟨esz', h1⟩, h2⟩ := ha 0 (by simp)
   rw [Nat.add_zero] at h1 h2
   exact ⟨.slice none 0 0, hz (off, esz) (by simp), .slr n 0 0 _ true esz' [] ⟨none, 0, rfl, .inl rfl⟩ h1 (Nat.le_refl _) fun _ => .inl ⟨h2, rfl, rfl, rfl⟩, rfl⟩
  ·rw [List.getElem?_set_ne hi] at hx
   exact h i x hx
theorem Jhz : ∀ (os : List (Nat × Nat)) (n : Nat) (cs : List AV), (J7b os n cs).length = cs.length
 | [], _, _ => rfl
 | _ :: r, n, cs => (Jhz r (n + 1) _).trans (by simp)
theorem Jq0 (hi : Inv s) {zero os} (hdead : ∀ j, j < os.length + 1 → s.σ[new + j]? = some .dead) (h : (opR F (.newboxo zero os) new).run ⟨env, s.σ⟩ = some e) (hc : JA P (.newboxo zero os) o.op = true) : J0H P o a s e := by
 simp only [opR, RM.run] at h
 injection h with h; subst h
 unfold JA at hc
 simp only at hc
 split at hc
 ·rename_i t hop
  simp only [Bool.and_eq_true] at hc
  obtain ⟨hz, hn⟩ := hc
  obtain ⟨v, hv, hl, hr⟩ := J5w hz
  obtain ⟨g1, i1, t1, h1, h2⟩ := Ji3 os new hi fun j hj => hdead j (by omega)
  have hd : (upd (J31 os new) s.σ)[new + os.length]? = some .dead := ((h2 _ (.inr (Nat.le_refl _))).1).trans (hdead _ (by omega))
  let s1 : Sn := ⟨upd (J31 os new) s.σ, g1, s.w⟩
  obtain ⟨i', t'⟩ := Jg8 (s0 := s1) i1 hd (blk := .box (J7b os new (zero.map .p))) (c := v.cells) (e := t) (fz := (0, 0)) (w' := { s.w with heap := s.w.heap.push (.cells v.cells t) }) rfl rfl rfl
   (fun o _ _ h => by simp at h) (fun _ _ _ h => by cases h) ⟨by simp [Jhz, hl], fun i x hx => by
    obtain ⟨u, hu, hru, h1u⟩ := Jhk (s := s1) (cells := v.cells) os new (Jj3 hv hn) h1 (fun i x hx => by
     rw [List.getElem?_map] at hx
     cases hzi : zero[i]? with
     | none => simp [hzi] at hx
     | some c =>
      simp [hzi] at hx; subst hx
      have hlt := Jb hzi
      have hlt' : i < v.cells.size := by omega
      have := hr (w := s1.w) (C := s1.g.C) i c v.cells[i] hzi (by simp)
      exact ⟨v.cells[i], by simp, .p _ _ this, this.one⟩) i x hx
    exact ⟨u, hu, hru, h1u⟩⟩
  have hupd : upd (J31 os new ++ [(new + os.length, Blk.box (J7b os new (zero.map .p)))]) s.σ = (upd (J31 os new) s.σ).set (new + os.length) (.box (J7b os new (zero.map .p))) := by
   rw [J2j]; rfl
  refine J23 (e := ⟨.ptr (new + os.length) 0, J31 os new ++ [(new + os.length, .box (J7b os new (zero.map .p)))]⟩) (v := .pointer (some ⟨s.w.heap.size, 0, none⟩)) (g' := J5W g1 (new + os.length) (some (s.w.heap.size, 0))) ?_
   (by rw [hupd]; exact i') (by rw [hupd]; exact t1.trans t') (by rw [hupd]; exact .ptr (new + os.length) 0 _ 0 (if_pos rfl) ⟨_, J0a hd⟩)
  simp [execOp, hop, Instr.alloc, JaG hv, newVar, newRow]
 ·cases hc
theorem Jr1 (hi : Inv s) (he : JQ s a.tmps env) (hn : s.σ[new]? = some .dead) {esz x} (h : (opR F (.storen esz x) new).run ⟨env, s.σ⟩ = some e) (hc : JA P (.storen esz x) o.op = true) : J0H P o a s e := by
 simp only [opR] at h
 obtain ⟨u, h1, h'⟩ := bind_some h
 obtain ⟨e1, h2, h3⟩ := bind_some h'
 clear h h'
 simp only [RM.run] at h3; injection h3 with h3; subst h3
 obtain ⟨i0, t0⟩ := Jgc hi hn esz
 unfold JA at hc
 simp only at hc
 split at hc
 ·rename_i t x' hop
  simp only [Bool.and_eq_true, beq_iff_eq] at hc
  obtain ⟨hs, hx⟩ := hc
  have rx := JI he h1 hx
  have hex : ∀ {r o' : Nat} {w' : World}, a.eval x' = .pointer (some ⟨r, o', none⟩) → (storeVar t ⟨r, o', none⟩ (.slice none 0 0)).run P s.w = .ok () w' → (execOp a.eval o).run P s.w = .ok .skip w' := by
   intro r o' w' hz hst
   have hcv : a.eval (.const (.slice none 0 0)) = .slice none 0 0 := rfl
   simp [execOp, hop, hz, Instr.storeAt, Instr.sureAddr, hst, hcv]
  unfold J1x at h2
  split at h2
  ·rename_i b off
   simp only [RM.run] at h2
   split at h2
   ·rename_i blk hb
    split at h2
    ·rename_i cs
     split at h2
     ·rename_i l hl
      split at h2
      ·rename_i hsz
       split at h2
       ·rename_i cs' hcs'
        simp only [RM.run] at h2; injection h2 with h2; subst h2
        have hb : s.σ[b]? = some (.box cs) := hb
        have hbn : new ≠ b := fun e => by rw [← e, hn] at hb; cases hb
        let s1 : Sn := ⟨s.σ.set new (.arr true esz []), J5W s.g new none, s.w⟩
        have hb1 : s1.σ[b]? = some (.box cs) := (JD hbn).trans hb
        have ry : Jr s1 (.slr new 0 0) (.slice none 0 0) :=
         .slr new 0 0 _ true esz [] ⟨none, 0, rfl, .inl rfl⟩ (J0a hn) (Nat.le_refl _) fun _ => .inl ⟨if_pos rfl, rfl, rfl, rfl⟩
        generalize hz : a.eval x' = z at rx
        have rx := Jr.mono (s := s1) hi t0 rx
        cases rx with
        | ptr _ _ r o' m hbx =>
         obtain ⟨k1, k2, k3⟩ := JaM hl ry
         obtain ⟨j1, j2, j3, j4⟩ := Jgb hcs'
         obtain ⟨r1, o1, c, et, fz, m', hh, hle, hxx, hf⟩ := i0.box b cs hb1
         rw [m] at m'; injection m' with m'; injection m' with m1 m2; subst m1 m2
         have hput := J8o (vs := (Value.slice none 0 0).cells.toList) (o := o' + off) hh (by simp; omega)
         have hlen : (Value.slice none 0 0).cells.toList.length = l.length := by simp [k1]
         obtain ⟨i', t'⟩ := JfQ (s0 := s1) i0 (blk := .box cs') hb1 hput (fun k h1 h2 => by
           unfold Wr1; rw [hb1]; exact ⟨o', m, by omega, by omega⟩) (.box _ _ j1) (fun cs0 heq mono => by
           injection heq with heq; subst heq
           obtain ⟨c0, e0, fz0, c', p1, p2, p3, p4, p5, p6⟩ := hput.there
           rw [hh] at p1; injection p1 with p1; injection p1 with q1 q2 q3; subst q1 q2 q3
           refine ⟨r, o', c', et, fz, m, p2, by omega, fun i x hxi => ?_, by rw [j1]; exact hf⟩
           by_cases hin : off ≤ i ∧ i < off + l.length
           ·have e1 : cs'[off + (i - off)]? = l[i - off]? := j3 (i - off) (by omega)
            rw [show off + (i - off) = i by omega, hxi] at e1
            have hlt : i - off < (Value.slice none 0 0).cells.size := by omega
            have e2 := p5 (i - off) (Value.slice none 0 0).cells[i - off] (by simp)
            refine ⟨(Value.slice none 0 0).cells[i - off], by rw [← e2]; congr 1; omega, mono (k3 (i - off) x _ e1.symm (by simp)), k2 _ (by simp)⟩
           ·rw [j4 i (by omega)] at hxi
            obtain ⟨v', hv', hr', h1'⟩ := hxx i x hxi
            exact ⟨v', by rw [p6 _ (by simp; omega)]; exact hv', mono hr', h1'⟩)
           (fun _ _ heq => by cases heq)
         refine JfO (e := ⟨J0P, (new, .arr true esz []) :: [(b, .box cs')]⟩) (hex hz (Jcm (by rw [hs, ← hsz, k1]) hh (by omega) (fun k h1 h2 => hf k (by omega) (by omega)) k2)) rfl i' (t0.trans t')
       ·cases h2
      ·cases h2
     ·cases h2
    ·cases h2
   ·cases h2
  ·rename_i b ext i off
   have hfz : (fz (.slr new 0 0)).run ⟨env, s.σ⟩ = none := by
    simp only [fz, RM.run]
    rw [hn]
    rfl
   simp only [RM.run] at h2
   split at h2
   ·split at h2
    ·split at h2
     ·split at h2
      ·rw [run_bind, hfz] at h2; cases h2
      ·cases h2
     ·cases h2
    ·cases h2
   ·cases h2
  ·cases h2
 ·cases hc
theorem Jqx (hi : Inv s) (he : JQ s a.tmps env) {zero parts os} (hdead : ∀ j, j < os.length → s.σ[new + j]? = some .dead) (h : (opR F (.buildo zero parts os) new).run ⟨env, s.σ⟩ = some e)
  (hc : JA P (.buildo zero parts os) o.op = true) : J0H P o a s e := by
 simp only [opR] at h
 obtain ⟨l, h1, h'⟩ := bind_some h
 clear h
 unfold JA at hc
 simp only at hc
 split at hc
 ·rename_i t ps hop
  simp only [Bool.and_eq_true] at hc
  obtain ⟨⟨hz, hn⟩, ht⟩ := hc
  obtain ⟨z, hz1, hz2, hz3⟩ := J5w hz
  obtain ⟨g1, i1, t1, ha1, ha2⟩ := Ji3 os new hi hdead
  split at h'
  ·rename_i cs hcs
   split at h'
   ·rename_i r h3
    simp only [RM.run] at h'; injection h' with h'; subst h'
    let s1 : Sn := ⟨upd (J31 os new) s.σ, g1, s.w⟩
    have hzero : ∀ (i : Nat) x, (J7b os new (zero.map AV.p))[i]? = some x → ∃ u, z.cells[i]? = some u ∧ Jr s1 x u ∧ u.oneCell' = true :=
     Jhk (s := s1) (cells := z.cells) os new (Jj3 hz1 hn) ha1 (by
      intro i x hx
      rw [List.getElem?_map] at hx
      cases hzi : zero[i]? with
      | none => simp [hzi] at hx
      | some c =>
       simp [hzi] at hx; subst hx
       have hlt := Jb hzi
       have hlt' : i < z.cells.size := by omega
       have := hz3 (w := s1.w) (C := s1.g.C) i c z.cells[i] hzi (by simp)
       exact ⟨z.cells[i], by simp, .p _ _ this, this.one⟩)
    have fin : ∀ {place : Nat → Option (Nat × Nat)}, J6P place parts ps.toList = true →
      ∃ cells', Instr.fill place z.cells (ps.toList.map fun x => (x.1, a.eval x.2)) = some cells' ∧ Jr s1 r (.agg cells') := by
     intro place hch
     obtain ⟨k1, k2⟩ := Jea he h1 hch
     obtain ⟨cells', f1, f2, f3⟩ := JhG (s := s1) (cells := z.cells) hcs k1 (fun k off size cs i v hk hv => by
      obtain ⟨p1, p2, p3, p4⟩ := k2 k off size cs i v hk hv
      exact ⟨p1, p2, p3, fun j y u hy hu => (p4 j y u hy hu).mono hi t1⟩) (by simp [Jhz, hz2]) hzero
     refine ⟨cells', f1, ?_⟩
     have := JiZ (s := s1) (vs := cells'.toList) h3 (by simpa using f2) (fun v hv => by
       obtain ⟨i, hi'⟩ := List.getElem?_of_mem hv
       have hi' : cells'[i]? = some v := by simpa using hi'
       have hlt := JbE hi'
       obtain ⟨u, hu, _, h1⟩ := f3 i cs[i] (by rw [List.getElem?_eq_getElem])
       rw [hi'] at hu; injection hu with hu; subst hu; exact h1)
      (fun i y v hy hv => by
       obtain ⟨u, hu, hr, _⟩ := f3 i y hy
       have hv : cells'[i]? = some v := by simpa using hv
       rw [hv] at hu; injection hu with hu; subst hu; exact hr)
     rcases this with ⟨_, hr⟩ | ⟨hf, _⟩
     ·simpa using hr
     ·cases hf
    have hps : (ps.map fun x => (x.1, a.eval x.2)).toList = ps.toList.map fun x => (x.1, a.eval x.2) := by simp
    split at ht
    ·rename_i fs hu
     simp only [Bool.and_eq_true] at ht
     obtain ⟨hall, hch⟩ := ht
     obtain ⟨cells', f1, hr⟩ := fin hch
     have hpl : (fun i => (fs.map fun f => (f.offset, (szT P f.type).getD 0))[i]?) = JbK P fs := by
      funext i
      simp only [JbK, Array.getElem?_map]
      cases hfi : fs[i]? with
      | none => rfl
      | some f =>
       have := Array.all_eq_true_iff_forall_mem.1 hall f (Array.mem_of_getElem? hfi)
       cases hq : szT P f.type <;> simp [hq] at this ⊢
     have hmap : (fs.mapM fun f => do pure (f.offset, ← sizeOf f.type) : Sem (Array (Nat × Nat))).run P s.w = .ok (fs.map fun f => (f.offset, (szT P f.type).getD 0)) s.w := by
      rw [Array.mapM_eq_mapM_toList]
      simp only [Sem.run_map, Je0 (P := P) (fs := fs.toList) (fun f hf => Array.all_eq_true_iff_forall_mem.1 hall f (by simpa using hf)), Result.andThen_ok]
      congr 1
      apply Array.ext'; simp
     have hf : Instr.fill (fun i => (fs.map fun f => (f.offset, (szT P f.type).getD 0))[i]?) z.cells (ps.map fun x => (x.1, a.eval x.2)).toList = some cells' := by
      rw [hpl, hps]; exact f1
     have hb : (Instr.build t (ps.map fun x => (x.1, a.eval x.2))).run P s.w = .ok (.agg cells') s.w := by
      unfold Instr.build
      simp only [Sem.run_bind, JaG hz1, Result.andThen_ok, run_underlying hu, hmap, hf]
      rfl
     refine J23 (e := ⟨r, J31 os new⟩) (v := .agg cells') (g' := g1) ?_ i1 t1 hr
     simp only [execOp, hop, Sem.run_bind, hb, Result.andThen_ok, Sem.run_pure]
    ·cases ht
   ·cases h'
  ·cases h'
 ·cases hc
end
end Go.Am
end
section
namespace Go.Am
theorem Jp2 {new : Nat} {env : List (Nat × AV)} {σ : List Blk} : ∀ {k new : Nat} {u : Unit}, (J6E new k).run ⟨env, σ⟩ = some u → ∀ j, j < k → σ[new + j]? = some .dead
 | 0, _, _, _, j, hj => by omega
 | k + 1, new, u, h, j, hj => by
  simp only [J6E, RM.run] at h
  split at h
  ·rename_i x hx
   cases x with
   | dead =>
    dsimp only at h
    cases j with
    | zero => exact hx
    | succ j => have := Jp2 (new := 0) h j (by omega); rw [show new + (j + 1) = new + 1 + j by omega]; exact this
   | box => cases h
   | arr => cases h
  ·cases h
section
variable {P : Program} {F : Orc} {s : Sn} {a : Act} {env : List (Nat × AV)} {o : Oper} {new : Nat} {e : Eff}
theorem Jwb (hF : J5r P F) (hi : Inv s) (he : JQ s a.tmps env) {ao : AOp} (h : (opD F ao new).run ⟨env, s.σ⟩ = some e) (hc : JA P ao o.op = true) : J0H P o a s e := by
 unfold opD at h
 obtain ⟨u, hd, h⟩ := bind_some h
 have hdead := Jp2 (new := 0) hd
 clear hd
 have d1 : JB ao = 1 → s.σ[new]? = some .dead := fun h1 => hdead 0 (by omega)
 cases ao with
 | mv x => exact Jw9 hi he h hc
 | mkarr esz x => exact JrA hi (d1 rfl) h hc
 | pick => exact JuN hi he h hc
 | newbox => exact Jqw hi (d1 rfl) h hc
 | box => exact JvC hi he (d1 rfl) h hc
 | build => exact JrK hi he h hc
 | lits => exact Jug hi he (fun e => d1 (by simp [JB, e])) h hc
 | load => exact JtS hi he h hc
 | store => exact Jsv hi he h hc
 | nilchk => exact JqS hi he h hc
 | bin op t x y =>
  cases t with
  | plain => exact JmJ hi he h hc
  | bool => exact JnL hi he h hc
  | flat => exact Jot hi he h hc
  | nils => exact JnS hi he h hc
  | nilp => exact JnI hi he h hc
  | nilf => exact JnU hi he h hc
 | un => exact Jw3 hi he h hc
 | conv k x =>
  cases k with
  | toBytes own => exact Jp8 hi he (fun e => d1 (by simp [JB, e])) h hc
  | _ => exact Juk hi he (by simp) h hc
 | mkslice => exact Jpd hi he (fun e => d1 (by simp [JB, e])) h hc
 | slice => exact Jrz hi he h hc
 | faddr => exact Jt4 hi he h hc
 | field => exact Jsf hi he h hc
 | iaddr => exact Jrr hi he h hc
 | aaddr => exact JrV hi he h hc
 | sidx => exact JtV hi he h hc
 | aidx => exact JtO hi he h hc
 | extr => exact Jue hi he h hc
 | call => exact JtN hF hi he hdead h hc
 | callv => exact JrS hF hi he hdead h hc
 | len => exact Jvr hi he h hc
 | alen => exact JuF hi h hc
 | app => exact Jvy hi he h hc
 | appz => exact Jtw hi he h hc
 | appn => exact Jur hi he (d1 rfl) h hc
 | appc => exact Jto hi he (d1 rfl) h hc
 | mm => exact Jwk hi he h hc
 | mkfn => exact Jtx hi he h hc
 | newboxo => exact Jq0 hi hdead h hc
 | buildo => exact Jqx hi he hdead h hc
 | storen => exact Jr1 hi he (d1 rfl) h hc
 | callo => exact Js9 hF hi he hdead h hc
end
def Jcn (P : Program) (N : Nat) (ops : Array Oper) (i : J0M) (o : Oper) : Bool :=
 JA P i.op o.op && i.dst == o.dst && (match i.dst with
  | some d => decide (d < N)
  | none => true) && (match i.g, o.guard with
  | none, none => true
  | some (g, w), some (j, w') => w == w' && (ops[j]?).bind (·.dst) == some g
  | _, _ => false)
def Sim (N : Nat) (E : Sn) (st : St) (a : Act) (w : World) : Prop :=
 a.tmps.size = N ∧ a.defers = [] ∧ ∃ g, Inv ⟨st.sto, g, w⟩ ∧ JQ ⟨st.sto, g, w⟩ a.tmps st.env ∧ JE E ⟨st.sto, g, w⟩
theorem JQ.put {s : Sn} {tmps : Array Value} {env : List (Nat × AV)} (he : JQ s tmps env) {d : Nat} (hd : d < tmps.size) {x : AV} {v : Value} (hv : Jr s x v) :
  JQ s (tmps.setIfInBounds d v) ((d, x) :: env) := by
 intro n y hy
 simp only [lk] at hy
 split at hy
 ·rename_i hn
  injection hy with hy; subst hy hn
  exact ⟨v, by simp [hd], hv⟩
 ·rename_i hn
  obtain ⟨u, h1, h2⟩ := he n y hy
  exact ⟨u, by rw [Array.getElem?_setIfInBounds_ne (Ne.symm hn)]; exact h1, h2⟩
theorem Sim.putd {N : Nat} {E : Sn} {st : St} {a : Act} {w w' : World} {g g' : Gh} {e : Eff} {v : Value} {d : Option Nat}
  (h1 : a.tmps.size = N) (h2 : a.defers = []) (hi : Inv ⟨st.sto, g, w⟩) (he : JQ ⟨st.sto, g, w⟩ a.tmps st.env) (ht : JE E ⟨st.sto, g, w⟩) (hd : ∀ x, d = some x → x < N)
  (hi' : Inv ⟨upd e.ws st.sto, g', w'⟩) (ht' : JE ⟨st.sto, g, w⟩ ⟨upd e.ws st.sto, g', w'⟩) (hv : Jr ⟨upd e.ws st.sto, g', w'⟩ e.val v) :
  Sim N E (Am.put d e st) (a.put d v) w' := by
 have he' := he.mono hi ht'
 cases d with
 | none => exact ⟨h1, h2, g', hi', he', ht.trans ht'⟩
 | some d => exact ⟨by simp [Act.put, h1], h2, g', hi', he'.put (by rw [h1]; exact hd d rfl) hv, ht.trans ht'⟩
section
variable {P : Program} {F : Orc} {N : Nat} {E : Sn} {st : St} {a : Act} {w : World} {ops : Array Oper} {i : J0M} {o : Oper} {e : Eff} {new k : Nat} {Q : Exit → Act → World → Prop} {K : Act → World → Prop}
theorem JpW {s : Sn} : Jr s J0P undef := .tup _ _ rfl fun i x v h => by simp at h
theorem Jrf (hF : J5r P F) (hs : Sim N E st a w) (ho : ops[k]? = some o) (hc : Jcn P N ops i o = true) (h : (J1E F i new).run st = some e)
  (next : ∀ a' w', Sim N E (Am.put i.dst e st) a' w' → K a' w') : wpOp P ops Q k K a w := by
 obtain ⟨h1, h2, g, hi, he, ht⟩ := hs
 simp only [Jcn, Bool.and_eq_true, beq_iff_eq] at hc
 obtain ⟨⟨⟨hc, hd⟩, hdn⟩, hg⟩ := hc
 have hd' : ∀ x, i.dst = some x → x < N := by
  intro x hx; rw [hx] at hdn; simpa using hdn
 have run : ∀ {e : Eff}, (opD F i.op new).run st = some e → (∀ a' w', Sim N E (Am.put i.dst e st) a' w' → K a' w') → o.wp P a w K Q := by
  intro e h next
  refine Jwb (s := ⟨st.sto, g, w⟩) (env := st.env) hF hi he h hc K Q fun v w' g' hi' ht' hv => next _ _ ?_
  rw [← hd]
  exact Sim.putd h1 h2 hi he ht hd' hi' ht' hv
 have skip : (∀ a' w', Sim N E (Am.put i.dst ⟨J0P, []⟩ st) a' w' → K a' w') → K (a.put o.dst undef) w := by
  intro next
  refine next _ _ ?_
  rw [← hd]
  exact Sim.putd (e := ⟨J0P, []⟩) h1 h2 hi he ht hd' hi (.refl _) JpW
 unfold wpOp
 rw [ho]
 dsimp only
 unfold J1E at h
 cases hig : i.g with
 | none =>
  rw [hig] at h hg
  cases hog : o.guard with
  | some x => rw [hog] at hg; cases hg
  | none =>
   have hw : Region.wanted o (yielded ops a.tmps) = true := by simp [Region.wanted, hog]
   rw [if_pos hw]
   exact .inl (run h next)
 | some gw =>
  obtain ⟨gs, want⟩ := gw
  rw [hig] at h hg
  cases hog : o.guard with
  | none => rw [hog] at hg; cases hg
  | some x =>
   obtain ⟨j, want'⟩ := x
   rw [hog] at hg
   simp only [Bool.and_eq_true, beq_iff_eq] at hg
   obtain ⟨rfl, hj⟩ := hg
   simp only [RM.run] at h
   split at h
   ·rename_i v hv
    obtain ⟨u, hu, hr⟩ := he _ _ hv
    split at h
    ·rename_i b
     cases hr with
     | p _ _ hr =>
      cases hr with
      | b x =>
       have hy : yielded ops a.tmps j = some b := by simp [yielded, hj, hu]
       by_cases hb : b = want
       ·have hw : Region.wanted o (yielded ops a.tmps) = true := by simp [Region.wanted, hog, hy, hb]
        rw [if_pos hw]
        rw [if_pos hb] at h
        exact .inl (run h next)
       ·have hw : Region.wanted o (yielded ops a.tmps) = false := by simp [Region.wanted, hog, hy, hb]
        rw [if_neg (by rw [hw]; simp)]
        rw [if_neg hb] at h
        simp only [RM.run] at h; injection h with h; subst h
        exact skip next
    ·cases hr with
     | tup _ vs hl _ =>
      have hvs : vs = #[] := by
       have : vs.size = 0 := by simpa using hl.symm
       simpa using this
      subst hvs
      have hy : yielded ops a.tmps j = none := by simp [yielded, hj, hu]
      have hw : Region.wanted o (yielded ops a.tmps) = false := by simp [Region.wanted, hog, hy]
      rw [if_neg (by rw [hw]; simp)]
      simp only [RM.run] at h; injection h with h; subst h
      exact skip next
    ·cases h
   ·cases h
end
theorem Jen {σ : List Blk} {n b : Nat} {x : Blk} (h : (σ ++ List.replicate n Blk.dead)[b]? = some x) (hx : x ≠ .dead) : σ[b]? = some x := by
 rcases Nat.lt_or_ge b σ.length with hlt | hge
 ·rwa [List.getElem?_append_left hlt] at h
 ·rw [List.getElem?_append_right hge, List.getElem?_replicate] at h
  split at h
  ·injection h with h; exact absurd h.symm hx
  ·cases h
theorem JfB {σ : List Blk} {n b : Nat} {x : Blk} (h : σ[b]? = some x) : (σ ++ List.replicate n Blk.dead)[b]? = some x := by
 rw [List.getElem?_append_left (Jb h)]; exact h
theorem Jgh {σ : List Blk} {g : Gh} {w : World} {n b r o : Nat} : Wr1 ⟨σ ++ List.replicate n .dead, g, w⟩ b r o ↔ Wr1 ⟨σ, g, w⟩ b r o := by
 unfold Wr1
 constructor
 ·intro h
  dsimp only at h ⊢
  cases hb : (σ ++ List.replicate n Blk.dead)[b]? with
  | none => rw [hb] at h; exact h.elim
  | some x =>
   cases x with
   | dead => rw [hb] at h; exact h.elim
   | box cs => rw [Jen hb (by simp)]; rw [hb] at h; exact h
   | arr wm esz rows => rw [Jen hb (by simp)]; rw [hb] at h; exact h
 ·intro h
  dsimp only at h ⊢
  cases hb : σ[b]? with
  | none => rw [hb] at h; exact h.elim
  | some x => rw [JfB hb]; rw [hb] at h; exact h
theorem JdS {σ : List Blk} {g : Gh} {w : World} {n : Nat} : JE ⟨σ, g, w⟩ ⟨σ ++ List.replicate n .dead, g, w⟩ where
 keep := .refl _ _
 cmono _ _ h := h
 cnew _ _ h := .inl h
 wnew _ _ h := let ⟨b, hb⟩ := h; .inl ⟨b, Jgh.1 hb⟩
 len := by simp
 box b cs h := ⟨⟨cs, JfB h, rfl⟩, rfl⟩
 arr b wm esz rows h := ⟨wm, rows, JfB h, id, Nat.le_refl _, fun _ => rfl⟩
theorem JsL {σ : List Blk} {g : Gh} {w : World} {n : Nat} (hi : Inv ⟨σ, g, w⟩) : Inv ⟨σ ++ List.replicate n .dead, g, w⟩ := by
 have t := JdS (σ := σ) (g := g) (w := w) (n := n)
 refine ⟨fun b cs h => ?_, fun b wm esz rows h => ?_, fun b1 b2 r o h1 h2 => hi.apart b1 b2 r o (Jgh.1 h1) (Jgh.1 h2), fun r o hc => ⟨(hi.const r o hc).1, fun b hb => (hi.const r o hc).2 b (Jgh.1 hb)⟩⟩
 ·obtain ⟨r, o, c, e, fz, q1, q2, q3, q4, q5⟩ := hi.box b cs (Jen h (by simp))
  exact ⟨r, o, c, e, fz, q1, q2, q3, fun i x hx => let ⟨v, k1, k2, k3⟩ := q4 i x hx; ⟨v, k1, k2.mono hi t, k3⟩, q5⟩
 ·exact hi.arr b wm esz rows (Jen h (by simp))
theorem Sim.room {N : Nat} {E : Sn} {st : St} {a : Act} {w : World} (h : Sim N E st a w) (n : Nat) : Sim N E ⟨st.env, room n st.sto⟩ a w := by
 unfold Am.room
 split
 ·exact h
 ·obtain ⟨h1, h2, g, hi, he, ht⟩ := h
  exact ⟨h1, h2, g, JsL hi, he.mono hi JdS, ht.trans JdS⟩
theorem Sim.heap {N : Nat} {E : Sn} {st : St} {a : Act} {w w' : World} (h : Sim N E st a w) (hh : w'.heap = w.heap) (ho : w'.os = w.os) (hp : w'.output = w.output) : Sim N E st a w' := by
 obtain ⟨h1, h2, g, hi, he, ht⟩ := h
 obtain ⟨i', t'⟩ := Jfa hi hh ho hp
 exact ⟨h1, h2, g, i', he.mono hi t', ht.trans t'⟩
theorem Sim.congr {N : Nat} {E : Sn} {st st' : St} {a : Act} {w : World} (h : Sim N E st a w) (he : ∀ m, lk m st'.env = lk m st.env) (hs : st'.sto = st.sto) : Sim N E st' a w := by
 obtain ⟨h1, h2, g, hi, hr, ht⟩ := h
 refine ⟨h1, h2, g, ?_⟩
 rw [hs]
 exact ⟨hi, fun n x hx => hr n x (by rw [← he]; exact hx), ht⟩
end Go.Am
end
section
namespace Go.Am
def JdA (P : Program) (N : Nat) (ops : Array Oper) : List J0M → List Oper → Bool
 | [], [] => true
 | i :: r, o :: q => Jcn P N ops i o && JdA P N ops r q
 | _, _ => false
def JbC (x y : J0M) : Bool :=
 (match x.dst with
 | none => true
 | some m => y.dst != some m && !(J8t y).contains m) && (match y.dst with
 | none => true
 | some m => !(J8t x).contains m)
def Jei (x y : J0M) : Bool := (!JhQ x.op || !Jmd y.op) && (!JhQ y.op || !Jmd x.op)
def Jio : List Nat → List Nat → List Nat
 | [], acc => acc
 | x :: r, acc => match acc.contains x with
  | true => Jio r acc
  | false => Jio r (x :: acc)
theorem Jfi {i : Nat} : ∀ {l acc : List Nat}, i ∈ Jio l acc → i ∈ l ∨ i ∈ acc
 | [], _, h => .inr h
 | x :: r, acc, h => by
  simp only [Jio] at h
  split at h
  ·exact (Jfi h).imp (List.mem_cons_of_mem _) id
  ·rcases Jfi h with h | h
   ·exact .inl (List.mem_cons_of_mem _ h)
   ·rcases List.mem_cons.1 h with rfl | h
    ·exact .inl List.mem_cons_self
    ·exact .inr h
def Jtc (l : List Nat) : List Nat := Jio l []
theorem Js2 {i : Nat} {l : List Nat} (h : i ∈ Jtc l) : i ∈ l := (Jfi h).resolve_right (by simp)
def Jq4 (acc : List (List Nat)) (o : Oper) : List Nat := Jtc <| (o.after.toList.filter fun e => Region.binds .any e).flatMap fun e => e.on :: (acc[e.on]?).getD []
def Jm3 (acc : List (List Nat)) : List Oper → List (List Nat)
 | [] => acc
 | o :: r => Jm3 (acc ++ [Jq4 acc o]) r
def JjM (bef : List (List Nat)) (pairs : List (Nat × Nat)) (i j : Nat) (x y : J0M) : Bool :=
 ((bef[j]?).getD []).contains i || (JbC x y && (Jei x y || pairs.contains (i, j)))
def Jcp (bef : List (List Nat)) (pairs : List (Nat × Nat)) (j : Nat) (y : J0M) : Nat → List J0M → Bool
 | _, [] => true
 | i, x :: r => (decide (j ≤ i) || JjM bef pairs i j x y) && Jcp bef pairs j y (i + 1) r
def Jgg (bef : List (List Nat)) (pairs : List (Nat × Nat)) (all : List J0M) : Nat → List J0M → Bool
 | _, [] => true
 | j, y :: r => Jcp bef pairs j y 0 all && Jgg bef pairs all (j + 1) r
def Jeo : Nat → List Oper → Bool
 | _, [] => true
 | j, o :: r => (o.after.all fun e => !Region.binds .any e || decide (e.on < j)) && Jeo (j + 1) r
def Jmr (P : Program) (N : Nat) (draw : Bool) (pairs : List (Nat × Nat)) (ins : List J0M) (ops : Array Oper) : Bool :=
 JdA P N ops ins ops.toList && (!draw || (Jeo 0 ops.toList && Jgg (Jm3 [] ops.toList) pairs ins 0 ins))
section
variable {P : Program} {F : Orc} {N : Nat} {E : Sn} {st st' : St} {a : Act} {w : World} {ops : Array Oper} {Q : Exit → Act → World → Prop}
theorem JkP : ∀ {ins : List J0M} {os : List Oper}, JdA P N ops ins os = true → ins.length = os.length ∧ ∀ (k : Nat) i, ins[k]? = some i → ∃ o, os[k]? = some o ∧ Jcn P N ops i o = true
 | [], [], _ => ⟨rfl, fun k i h => by simp at h⟩
 | i :: r, o :: q, h => by
  simp only [JdA, Bool.and_eq_true] at h
  obtain ⟨h1, h2⟩ := JkP h.2
  refine ⟨by simp [h1], fun k x hx => ?_⟩
  cases k with
  | zero => simp at hx; subst hx; exact ⟨o, rfl, h.1⟩
  | succ k => exact h2 k x (by simpa using hx)
 | [], _ :: _, h => by simp [JdA] at h
 | _ :: _, [], h => by simp [JdA] at h
theorem Jl0 (hF : J5r P F) : ∀ {r : List J0M} {k new : Nat} {st : St} {a : Act} {w : World}, (∀ (j : Nat) i, r[j]? = some i → ∃ o, ops[k + j]? = some o ∧ Jcn P N ops i o = true) →
  J2A F r new st = some st' → Sim N E st a w → (∀ a' w', Sim N E st' a' w' → Q .normal a' w') → wpOps P ops Q (List.range' k r.length) a w
 | [], k, new, st, a, w, _, h, hs, next => by
  simp only [J2A] at h; injection h with h; subst h
  exact next a w hs
 | i :: r, k, new, st, a, w, hc, h, hs, next => by
  simp only [J2A] at h
  split at h
  ·rename_i e he
   obtain ⟨o, ho, hco⟩ := hc 0 i rfl
   rw [List.length_cons, List.range'_succ, wpOps_cons]
   refine Jrf hF hs ho hco he fun a' w' hs' => ?_
   refine Jl0 hF (fun j i hj => ?_) h hs' next
   obtain ⟨o, ho, hco⟩ := hc (j + 1) i (by simpa using hj)
   exact ⟨o, by rw [← ho]; congr 1; omega, hco⟩
  ·cases h
theorem Jqn : ∀ {ins : List J0M} {new0 : Nat} {st : St}, J2A F ins new0 st = some st' →
  ∃ (new : Nat → Nat) (S : Nat → St) (eff : Nat → Eff), Run F ins new S eff ∧ S 0 = st ∧ S ins.length = st'
 | [], new0, st, h => by
  simp only [J2A] at h; injection h with h; subst h
  exact ⟨fun _ => 0, fun _ => st, fun _ => ⟨J0P, []⟩, ⟨fun k i h => by simp at h⟩, rfl, rfl⟩
 | i :: r, new0, st, h => by
  simp only [J2A] at h
  split at h
  ·rename_i e he
   obtain ⟨new, S, eff, hr, h0, hl⟩ := Jqn h
   refine ⟨fun | 0 => new0 | k + 1 => new k, fun | 0 => st | k + 1 => S k, fun | 0 => e | k + 1 => eff k, ⟨fun k x hx => ?_⟩, rfl, hl⟩
   cases k with
   | zero => simp at hx; subst hx; exact ⟨he, h0⟩
   | succ k => exact hr.step k x (by simpa using hx)
  ·cases h
theorem Jri : ∀ {ins : List J0M} {new0 : Nat} {st : St} {l l' : Log}, J4V F ins new0 st l = some (st', l') →
  ∃ (new : Nat → Nat) (S : Nat → St) (eff : Nat → Eff), Run F ins new S eff ∧ S 0 = st ∧ S ins.length = st' ∧
   (∀ k, k < l.length → l'[k]? = l[k]?) ∧ ∀ (k : Nat) i, ins[k]? = some i → l'[l.length + k]? = some (Jc ((J1E F i (new k)).reads (S k)), (eff k).ws.map (·.1))
 | [], new0, st, l, l', h => by
  simp only [J4V] at h; injection h with h; injection h with h1 h2; subst h1 h2
  exact ⟨fun _ => 0, fun _ => st, fun _ => ⟨J0P, []⟩, ⟨fun k i h => by simp at h⟩, rfl, rfl, fun _ _ => rfl, fun k i h => by simp at h⟩
 | i :: r, new0, st, l, l', h => by
  simp only [J4V] at h
  split at h
  ·rename_i e he
   obtain ⟨new, S, eff, hr, h0, hl, q1, q2⟩ := Jri h
   refine ⟨fun | 0 => new0 | k + 1 => new k, fun | 0 => st | k + 1 => S k, fun | 0 => e | k + 1 => eff k, ⟨fun k x hx => ?_⟩, rfl, hl, fun k hk => ?_, fun k x hx => ?_⟩
   ·cases k with
    | zero => simp at hx; subst hx; exact ⟨he, h0⟩
    | succ k => exact hr.step k x (by simpa using hx)
   ·rw [q1 k (by simp; omega), List.getElem?_append_left hk]
   ·cases k with
    | zero =>
     simp at hx; subst hx
     rw [Nat.add_zero, q1 l.length (by simp), List.getElem?_append_right (Nat.le_refl _)]
     simp
    | succ k =>
     have := q2 k x (by simpa using hx)
     rw [← this]; congr 1; simp; omega
  ·cases h
theorem JbF {b : Nat} : ∀ {l : List Loc}, Loc.blk b ∈ l → b ∈ Jc l
 | .blk c :: r, h => by
  simp only [Jc, List.mem_cons] at *
  rcases h with h | h
  ·left; injection h
  ·exact .inr (JbF h)
 | .slot n :: r, h => by
  simp only [Jc]
  refine JbF ?_
  simpa using h
 | [], h => by simp at h
theorem Jhw {a b : List Nat} (h : J5t a b = true) {x : Nat} (hx : x ∈ a) : x ∉ b := by
 simp only [J5t, List.all_eq_true, Bool.not_eq_true'] at h
 have := h x hx
 simpa using this
theorem Jij {l : Log} : ∀ {ps : List (Nat × Nat)} {i j : Nat}, J8N l ps = true → (i, j) ∈ ps →
  ∃ x y, l[i]? = some x ∧ l[j]? = some y ∧ J5t x.2 y.1 = true ∧ J5t x.2 y.2 = true ∧ J5t x.1 y.2 = true
 | [], i, j, _, h => by simp at h
 | (p, q) :: r, i, j, h, hm => by
  simp only [J8N, Bool.and_eq_true] at h
  obtain ⟨h1, h2⟩ := h
  rcases List.mem_cons.1 hm with e | e
  ·injection e with e1 e2; subst e1 e2
   split at h1
   ·rename_i x y hx hy
    simp only [Bool.and_eq_true] at h1
    exact ⟨x, y, hx, hy, h1.1.1, h1.1.2, h1.2⟩
   ·cases h1
  ·exact Jij h2 e
def JjX (ops : Array Oper) (D : Nat → Bool) (k : Nat) : Prop := ∀ o, ops[k]? = some o → ∀ e ∈ o.after, Region.binds .any e = true → D e.on = true
def JqH (ops : Array Oper) (D : Nat → Bool) : Prop := ∀ k, D k = true → JjX ops D k
def JrW (ops : Array Oper) (k i : Nat) : Prop := ∀ D, JqH ops D → JjX ops D k → D i = true
theorem JqO : ∀ {os : List Oper} {acc : List (List Nat)}, (∀ (j : Nat) o, os[j]? = some o → ops[acc.length + j]? = some o) → (∀ (k : Nat) l i, acc[k]? = some l → i ∈ l → JrW ops k i) →
  ∀ (k : Nat) l i, (Jm3 acc os)[k]? = some l → i ∈ l → JrW ops k i
 | [], acc, _, ha => ha
 | o :: r, acc, ho, ha => by
  refine JqO (os := r) (acc := acc ++ [Jq4 acc o]) (fun j x hx => ?_) fun k l i hk hi => ?_
  ·have := ho (j + 1) x (by simpa using hx)
   rw [← this]; congr 1; simp; omega
  ·rcases J9K hk with hk | ⟨hge, hk⟩
   ·exact ha k l i hk hi
   ·have hk0 : k = acc.length := by
     have := Jb hk; simp at this; omega
    subst hk0
    simp at hk; subst hk
    intro D hD hE
    replace hi := Js2 hi
    simp only [ List.mem_flatMap, List.mem_filter] at hi
    obtain ⟨e, ⟨he1, he2⟩, hi⟩ := hi
    have hon := hE o (by simpa using ho 0 o rfl) e (by simpa using he1) he2
    rcases List.mem_cons.1 hi with rfl | hi
    ·exact hon
    ·cases hac : acc[e.on]? with
     | none => rw [hac] at hi; simp at hi
     | some l =>
      rw [hac] at hi
      exact ha _ l i hac hi D hD (hD _ hon)
theorem Jh3 {bef : List (List Nat)} {pairs : List (Nat × Nat)} {j : Nat} {y : J0M} : ∀ {r : List J0M} {i0 : Nat}, Jcp bef pairs j y i0 r = true → ∀ (k : Nat) x, r[k]? = some x → i0 + k < j → JjM bef pairs (i0 + k) j x y = true
 | [], i0, _, k, x, hx, _ => by simp at hx
 | z :: r, i0, h, k, x, hx, hlt => by
  simp only [Jcp, Bool.and_eq_true, Bool.or_eq_true, decide_eq_true_eq] at h
  cases k with
  | zero => simp at hx; subst hx; exact h.1.resolve_left (by omega)
  | succ k =>
   have := Jh3 h.2 k x (by simpa using hx) (by omega)
   rw [show i0 + (k + 1) = i0 + 1 + k by omega]; exact this
theorem Jix {bef : List (List Nat)} {pairs : List (Nat × Nat)} {all : List J0M} : ∀ {r : List J0M} {j0 : Nat}, Jgg bef pairs all j0 r = true → ∀ (k : Nat) y, r[k]? = some y → Jcp bef pairs (j0 + k) y 0 all = true
 | [], j0, _, k, y, hy => by simp at hy
 | z :: r, j0, h, k, y, hy => by
  simp only [Jgg, Bool.and_eq_true] at h
  cases k with
  | zero => simp at hy; subst hy; exact h.1
  | succ k =>
   have := Jix h.2 k y (by simpa using hy)
   rw [show j0 + (k + 1) = j0 + 1 + k by omega]; exact this
theorem Jha : ∀ {r : List Oper} {j0 : Nat}, Jeo j0 r = true → ∀ (k : Nat) o, r[k]? = some o → ∀ e ∈ o.after, Region.binds .any e = true → e.on < j0 + k
 | [], j0, _, k, o, ho => by simp at ho
 | z :: r, j0, h, k, o, ho => by
  simp only [Jeo, Bool.and_eq_true] at h
  cases k with
  | zero =>
   simp at ho; subst ho
   intro e he hb
   have := Array.all_eq_true_iff_forall_mem.1 h.1 e he
   simpa [hb] using this
  | succ k =>
   intro e he hb
   have := Jha h.2 k o (by simpa using ho) e he hb
   omega
theorem Js7 {x y : J0M} (h : JbC x y = true) : (∀ m, x.dst = some m → y.dst ≠ some m ∧ m ∉ J8t y) ∧ (∀ m, y.dst = some m → m ∉ J8t x) := by
 simp only [JbC, Bool.and_eq_true] at h
 obtain ⟨h1, h2⟩ := h
 constructor
 ·intro m hm
  rw [hm] at h1
  simpa using h1
 ·intro m hm
  rw [hm] at h2
  simpa using h2
variable {ins : List J0M} {new : Nat → Nat} {S : Nat → St} {eff : Nat → Eff}
theorem JrR (hr : Run F ins new S eff) {i j : Nat} (hi : i < ins.length) (hj : j < ins.length) (h1 : JbC ins[i] ins[j] = true)
  (h2 : Jei ins[i] ins[j] = true ∨ (J5t ((eff i).ws.map (·.1)) (Jc ((J1E F ins[j] (new j)).reads (S j))) = true ∧
   J5t ((eff i).ws.map (·.1)) ((eff j).ws.map (·.1)) = true ∧ J5t (Jc ((J1E F ins[i] (new i)).reads (S i))) ((eff j).ws.map (·.1)) = true)) : Jm1 F ins new S eff i j := by
 obtain ⟨s1, s2⟩ := Js7 h1
 have gi : ins[i]? = some ins[i] := List.getElem?_eq_getElem hi
 have gj : ins[j]? = some ins[j] := List.getElem?_eq_getElem hj
 obtain ⟨ri, _⟩ := hr.step i _ gi
 obtain ⟨rj, _⟩ := hr.step j _ gj
 refine ⟨fun x y m hx hy hm => ?_, fun x y m hx hy hm hl => ?_, fun y b hy hb => ?_, fun x b hx hb hl => ?_⟩
 ·rw [gi] at hx; injection hx with hx; subst hx
  rw [gj] at hy; injection hy with hy; subst hy
  exact ⟨(s1 m hm).1, fun hl => (s1 m hm).2 (JoB F _ _ _ _ hl)⟩
 ·rw [gi] at hx; injection hx with hx; subst hx
  rw [gj] at hy; injection hy with hy; subst hy
  exact s2 m hm (JoB F _ _ _ _ hl)
 ·rw [gj] at hy; injection hy with hy; subst hy
  rcases h2 with h2 | ⟨k1, k2, k3⟩
  ·simp only [Jei, Bool.and_eq_true, Bool.or_eq_true, Bool.not_eq_true'] at h2
   rcases h2.1 with h | h
   ·rw [JjS F _ _ h _ _ ri] at hb; simp at hb
   ·refine ⟨?_, Jp1 F _ _ h _ _ rj b⟩
    rw [JjS F _ _ (Jq7 h) _ _ rj]; simp
  ·exact ⟨Jhw k2 hb, fun hl => Jhw k1 hb (JbF hl)⟩
 ·rw [gi] at hx; injection hx with hx; subst hx
  rcases h2 with h2 | ⟨k1, k2, k3⟩
  ·simp only [Jei, Bool.and_eq_true, Bool.or_eq_true, Bool.not_eq_true'] at h2
   rcases h2.2 with h | h
   ·rw [JjS F _ _ h _ _ rj] at hb; simp at hb
   ·exact Jp1 F _ _ h _ _ ri b hl
  ·exact Jhw k3 (JbF hl) hb
def Dl (listed : Array Bool) : Nat → Bool := fun j => listed.getD j false
theorem Jql {listed : Array Bool} {i : Nat} (hi : i < listed.size) : Dl (listed.setIfInBounds i true) = fun j => if j = i then true else Dl listed j := by
 funext j
 unfold Dl
 by_cases h : j = i
 ·subst h; simp [hi]
 ·rw [if_neg h, getD_set_ne false (Ne.symm h)]
theorem Jii {l : Array Bool} {i : Nat} (hi : i < l.size) (h : l.getD i false = false) : (l.setIfInBounds i true).count false + 1 = l.count false := by
 have he : l[i] = false := by simpa [hi] using h
 have hpos : 0 < l.count false := Array.count_pos_iff.2 (by rw [← he]; exact Array.getElem_mem hi)
 rw [Array.setIfInBounds, dif_pos hi, Array.count_set hi, he]
 simp; omega
theorem JiO {l : Array Bool} (h : l.count false = 0) {i : Nat} (hi : i < l.size) : l.getD i false = true := by
 cases hv : l.getD i false with
 | true => rfl
 | false =>
  have := Jii hi hv
  omega
theorem Jtb {l : Array Bool} : ∀ m, m ≤ l.size → (∀ j, j < m → Dl l j = true) ∨ ∃ k, k < m ∧ Dl l k = false ∧ ∀ j, j < k → Dl l j = true
 | 0, _ => .inl fun j hj => by omega
 | m + 1, h => by
  rcases Jtb (l := l) m (by omega) with h1 | ⟨k, a, b, c⟩
  ·cases hm : Dl l m with
   | true => left; intro j hj; by_cases e : j = m; (subst e; exact hm); exact h1 j (by omega)
   | false => exact .inr ⟨m, by omega, hm, h1⟩
  ·exact .inr ⟨k, by omega, b, c⟩
theorem JfU {l : Array Bool} {j : Nat} (hj : j < l.size) : l.getD j true = l.getD j false := by simp [hj]
theorem Jva (hF : J5r P F) (hr : Run F ins new S eff) (hlen : ins.length = ops.size) (hc : ∀ (k : Nat) i, ins[k]? = some i → ∃ o, ops[k]? = some o ∧ Jcn P N ops i o = true)
  (hedge : ∀ (k : Nat) o, ops[k]? = some o → ∀ e ∈ o.after, Region.binds .any e = true → e.on < k)
  (hap : ∀ i j, i < j → j < ins.length → JrW ops j i ∨ Jm1 F ins new S eff i j)
  (next : ∀ a' w', Sim N E (S ins.length) a' w' → Q .normal a' w') :
  ∀ (fuel : Nat) (listed : Array Bool) (st : St) (a : Act) (w : World), listed.size = ops.size → Agree ins eff (S 0) (Dl listed) st → Sim N E st a w → JqH ops (Dl listed) → listed.count false = fuel →
   wpAny P .any ops Q fuel listed a w := by
 intro fuel
 induction fuel with
 | zero =>
  intro listed st a w hsz hag hs hcl hcnt
  refine ⟨?_, ?_⟩
  ·cases hre : Region.ready .any ops listed with
   | nil => rfl
   | cons j l =>
    exfalso
    have hm : j ∈ Region.ready .any ops listed := by rw [hre]; simp
    obtain ⟨h1, o, ho, _⟩ := mem_ready.1 hm
    have hj : j < ops.size := (Array.getElem?_eq_some_iff.1 ho).1
    rw [JfU (by omega), JiO hcnt (by omega)] at h1; cases h1
  ·obtain ⟨e1, e2⟩ := Jrd hr hag fun j hj => JiO hcnt (by omega)
   exact next a w (hs.congr (fun m => (e1 m).symm) e2.symm)
 | succ fuel ih =>
  intro listed st a w hsz hag hs hcl hcnt
  refine ⟨fun hnil => ?_, fun k hk => ?_⟩
  ·exfalso
   rcases Jtb (l := listed) ops.size (by omega) with hall | ⟨k, hk, hkf, hlow⟩
   ·have : listed.count false = 0 := by
     rw [Array.count_eq_zero]
     intro hm
     obtain ⟨i, hi, he⟩ := Array.getElem_of_mem hm
     have := hall i (by omega)
     unfold Dl at this
     simp [hi, he] at this
    omega
   ·have hm : k ∈ Region.ready .any ops listed := by
     rw [mem_ready]
     refine ⟨by rw [JfU (by omega)]; exact hkf, ops[k], by simp [hk], fun e he hb => ?_⟩
     exact hlow _ (hedge k ops[k] (by simp [hk]) e he hb)
    rw [hnil] at hm; cases hm
  ·obtain ⟨h1, o, ho, hall⟩ := mem_ready.1 hk
   have hklt : k < ops.size := (Array.getElem?_eq_some_iff.1 ho).1
   have hkf : Dl listed k = false := by unfold Dl; rw [← JfU (by omega)]; exact h1
   have gk : ins[k]? = some (ins[k]'(by omega)) := List.getElem?_eq_getElem _
   obtain ⟨o', ho', hco⟩ := hc k _ gk
   have hedges : JjX ops (Dl listed) k := by
    intro o2 ho2 e he hb
    rw [ho] at ho2; injection ho2 with ho2; subst ho2
    exact hall e he hb
   obtain ⟨r1, r2⟩ := Js1 hr hag gk hkf (fun j hj hDj => by
     rcases hap j k hj (by omega) with hm | hm
     ·have := hm _ hcl hedges
      rw [hDj] at this; cases this
     ·exact hm) (fun j hj hjl hDj => by
     rcases hap k j hj hjl with hm | hm
     ·have := hm _ hcl (hcl j hDj)
      rw [hkf] at this; cases this
     ·exact hm)
   refine Jrf hF hs ho' hco r1 fun a' w' hs' => ?_
   refine ih _ _ a' w' (by simp [hsz]) ?_ hs' ?_ ?_
   ·rw [Jql (by omega)]; exact r2
   ·rw [Jql (by omega)]
    intro j hj o2 ho2 e he hb
    dsimp only at hj ⊢
    have hm : Dl listed e.on = true → (if e.on = k then true else Dl listed e.on) = true := by intro h; split <;> simp [h]
    by_cases hjk : j = k
    ·subst hjk; exact hm (hedges o2 ho2 e he hb)
    ·rw [if_neg hjk] at hj; exact hm (hcl j hj o2 ho2 e he hb)
   ·have := Jii (l := listed) (i := k) (by omega) hkf
    omega
theorem JvA (hF : J5r P F) (hmix : P.follows .mixedOrders = true) {id : Nat} {draw : Bool} {pairs : List (Nat × Nat)} {ins : List J0M} (h : region F pairs ins st = some st')
  (hc : Jmr P N draw pairs ins ops = true) (hs : Sim N E st a w) (next : ∀ a' w', Sim N E st' a' w' → Q .normal a' w') : (Code.region id ops draw).wp P Q a w := by
 simp only [Jmr, Bool.and_eq_true, Bool.or_eq_true, Bool.not_eq_true'] at hc
 obtain ⟨hall, hdraw⟩ := hc
 obtain ⟨hlen, hat⟩ := JkP hall
 have hlen : ins.length = ops.size := by simpa using hlen
 have hat : ∀ (k : Nat) i, ins[k]? = some i → ∃ o, ops[k]? = some o ∧ Jcn P N ops i o = true := fun k i hi => by simpa using hat k i hi
 have hs0 := hs.room (news ins)
 have hrun : ∃ (new : Nat → Nat) (S : Nat → St) (eff : Nat → Eff), Run F ins new S eff ∧ S 0 = ⟨st.env, room (news ins) st.sto⟩ ∧ S ins.length = st' ∧
   ∀ i j, (i, j) ∈ pairs → ∃ x y, ins[i]? = some x ∧ ins[j]? = some y ∧ J5t ((eff i).ws.map (·.1)) (Jc ((J1E F y (new j)).reads (S j))) = true ∧
   J5t ((eff i).ws.map (·.1)) ((eff j).ws.map (·.1)) = true ∧ J5t (Jc ((J1E F x (new i)).reads (S i))) ((eff j).ws.map (·.1)) = true := by
  unfold region at h
  split at h
  ·obtain ⟨new, S, eff, hr, h0, hl⟩ := Jqn h
   exact ⟨new, S, eff, hr, h0, hl, fun i j hm => by simp at hm⟩
  ·split at h
   ·rename_i s' l hlog
    split at h
    ·rename_i hp
     injection h with h; subst h
     obtain ⟨new, S, eff, hr, h0, hl, _, q⟩ := Jri hlog
     refine ⟨new, S, eff, hr, h0, hl, fun i j hm => ?_⟩
     obtain ⟨x, y, hx, hy, d1, d2, d3⟩ := Jij hp hm
     have il : ∀ (k : Nat) z, l[k]? = some z → k < ins.length := by
      intro k z hk
      have := Jb hk
      have hll : l.length = ins.length := by
       clear q hr h0 hl hp hx hy
       have : ∀ {r : List J0M} {new0 : Nat} {s0 : St} {l0 l1 : Log} {s1 : St}, J4V F r new0 s0 l0 = some (s1, l1) → l1.length = l0.length + r.length := by
        intro r
        induction r with
        | nil => intro new0 s0 l0 l1 s1 h; simp only [J4V] at h; injection h with h; injection h with h1 h2; subst h2; simp
        | cons i r ih =>
         intro new0 s0 l0 l1 s1 h
         simp only [J4V] at h
         split at h
         ·rw [ih h]; simp; omega
         ·cases h
       simpa using this hlog
      omega
     have hi := il i x hx
     have hj := il j y hy
     have gi : ins[i]? = some ins[i] := List.getElem?_eq_getElem hi
     have gj : ins[j]? = some ins[j] := List.getElem?_eq_getElem hj
     have qi := q i _ gi
     have qj := q j _ gj
     simp only [List.length_nil, Nat.zero_add] at qi qj
     rw [hx] at qi; injection qi with qi; subst qi
     rw [hy] at qj; injection qj with qj; subst qj
     exact ⟨_, _, gi, gj, d1, d2, d3⟩
    ·cases h
   ·cases h
 obtain ⟨new, S, eff, hr, h0, hl, hp⟩ := hrun
 cases draw with
 | false =>
  refine wp_region ?_
  rw [List.range_eq_range', ← hlen]
  have hr' : ∃ new0, J2A F ins new0 ⟨st.env, room (news ins) st.sto⟩ = some st' := by
   unfold region at h
   split at h
   ·exact ⟨_, h⟩
   ·split at h
    ·rename_i s' l hlog
     split at h
     ·injection h with h; subst h
      have : ∀ {r : List J0M} {new0 : Nat} {s0 : St} {l0 l1 : Log} {s1 : St}, J4V F r new0 s0 l0 = some (s1, l1) → J2A F r new0 s0 = some s1 := by
       intro r
       induction r with
       | nil => intro new0 s0 l0 l1 s1 h; simp only [J4V] at h; injection h with h; injection h with h1 h2; subst h1; rfl
       | cons i r ih =>
        intro new0 s0 l0 l1 s1 h
        simp only [J4V] at h
        simp only [J2A]
        split at h
        ·rename_i e he
         exact ih h
        ·cases h
      exact ⟨_, this hlog⟩
     ·cases h
    ·cases h
  obtain ⟨new0, hr'⟩ := hr'
  exact Jl0 hF (fun j i hj => by simpa using hat j i hj) hr' hs0 next
 | true =>
  obtain ⟨he, hd⟩ := hdraw.resolve_left (by simp)
  refine wp_region_any hmix ?_
  have hs1 : Sim N E (S 0) a { w with drawn := w.drawn + 1 } := by rw [h0]; exact hs0.heap rfl rfl rfl
  refine Jva hF hr hlen hat (fun k o ho => ?_) (fun i j hij hj => ?_) (by rw [hl]; exact next) ops.size _ (S 0) a _ (by simp) ?_ hs1 ?_ ?_
  ·have := Jha he k o (by simpa using ho)
   simpa using this
  ·have gi : ins[i]? = some (ins[i]'(by omega)) := List.getElem?_eq_getElem _
   have gj : ins[j]? = some ins[j] := List.getElem?_eq_getElem hj
   have h1 := Jix hd j _ gj
   rw [Nat.zero_add] at h1
   have h2 := Jh3 h1 i _ gi (by omega)
   rw [Nat.zero_add] at h2
   simp only [JjM, Bool.or_eq_true, Bool.and_eq_true] at h2
   rcases h2 with h2 | ⟨h2, h3⟩
   ·left
    cases hb : (Jm3 [] ops.toList)[j]? with
    | none => rw [hb] at h2; simp at h2
    | some l =>
     rw [hb] at h2
     exact JqO (ops := ops) (os := ops.toList) (acc := []) (fun j o ho => by simpa using ho) (fun k l i hk => by simp at hk) j l i hb (by simpa using h2)
   ·right
    refine JrR hr (by omega) hj h2 ?_
    rcases h3 with h3 | h3
    ·exact .inl h3
    ·obtain ⟨x, y, hx, hy, d⟩ := hp i j (by simpa using h3)
     rw [gi] at hx; injection hx with hx; subst hx
     rw [gj] at hy; injection hy with hy; subst hy
     exact .inr d
  ·have : Dl (Array.replicate ops.size false) = fun _ => false := by
    funext j; unfold Dl; simp [Array.getElem?_replicate]; split <;> rfl
   rw [this]; exact JnK
  ·intro j hj
   unfold Dl at hj
   simp [Array.getElem?_replicate] at hj
   split at hj <;> simp at hj
  ·simp
end
end Go.Am
end
section
namespace Go.Am
def J08 (P : Program) (N : Nat) : Jg → Code → Bool
 | .skip, c => match c with
  | .skip => true
  | _ => false
 | .reg draw pairs ins, c => match c with
  | .region _ ops d => draw == d && Jmr P N draw pairs ins ops
  | _ => false
 | .seq a b, c => match c with
  | .seq x y => J08 P N a x && J08 P N b y
  | _ => false
 | .cond o a b, c => match c with
  | .cond p x y => J0J o p && J08 P N a x && J08 P N b y
  | _ => false
 | .block id a, c => match c with
  | .block id' x => id == id' && J08 P N a x
  | _ => false
 | .loop _ a, c => match c with
  | .loop x => J08 P N a x
  | _ => false
 | .lp _ _ _, _ => false
 | .scope a, c => match c with
  | .scope x => J08 P N a x
  | _ => false
 | .exit id, c => match c with
  | .exit id' => id == id'
  | _ => false
 | .ret, c => match c with
  | .ret => true
  | _ => false
 | .keep _ a, c => J08 P N a c
 | .tidy _ a, c => J08 P N a c
 | .br _ pre o a b rest, c => match c with
  | .seq (.seq p (.cond q x y)) z => J08 P N pre p && J0J o q && J08 P N a x && J08 P N b y && J08 P N rest z
  | _ => false
def J92 : AX → Exit
 | .normal => .normal
 | .exit id => .exit id
 | .ret => .ret
def Jdl (P : Program) (c : Jg) (st : St) (r : Out) : Prop :=
 match c with
 | .lp n _ b => ∃ k, ∀ (N : Nat) (code : Code) (E : Sn) (a : Act) (w : World) (Q : Exit → Act → World → Prop), J08 P N b code = true → E.σ.length ≤ n → n ≤ st.sto.length → Sim N E st a w →
   (∀ a' w', Sim N E r.2 a' w' → Q (J92 r.1) a' w') → Code.rounds P code Q k a w
 | c => ∀ (N : Nat) (code : Code) (E : Sn) (a : Act) (w : World) (Q : Exit → Act → World → Prop), J08 P N c code = true → Sim N E st a w →
   (∀ a' w', Sim N E r.2 a' w' → Q (J92 r.1) a' w') → code.wp P Q a w
theorem Jdl.get {P : Program} {c : Jg} {st : St} {r : Out} (h : Jdl P c st r) {N : Nat} {code : Code} {E : Sn} {a : Act} {w : World} {Q : Exit → Act → World → Prop} (hc : J08 P N c code = true) (hs : Sim N E st a w)
  (next : ∀ a' w', Sim N E r.2 a' w' → Q (J92 r.1) a' w') : code.wp P Q a w := by
 cases c <;> first | exact h N code E a w Q hc hs next | (simp [J08] at hc; done)
theorem JdW {env : List (Nat × AV)} {n : Nat} {x : AV} : ∀ {live : List Nat}, lk n (restr live env) = some x → lk n env = some x
 | [], h => by simp [restr, lk] at h
 | k :: r, h => by
  simp only [restr] at h
  split at h
  ·rename_i v hv
   simp only [lk] at h
   split at h
   ·rename_i e; subst e; rw [hv]; exact h
   ·exact JdW h
  ·exact JdW h
theorem Jp6 {m : Nat} {sto : List Blk} {n : Nat} {y : AV} : ∀ {env env' : List (Nat × AV)}, J8l m sto env = some env' → lk n env' = some y → ∃ x, lk n env = some x ∧ fin m [] sto x = some y
 | [], env', h, hy => by simp [J8l] at h; subst h; simp [lk] at hy
 | (k, x) :: r, env', h, hy => by
  simp only [J8l] at h
  split at h
  ·rename_i z l hz hl
   injection h with h; subst h
   simp only [lk] at hy ⊢
   split at hy
   ·rename_i e; injection hy with hy; subst hy; exact ⟨x, by simp [e], hz⟩
   ·rename_i e; obtain ⟨x', h1, h2⟩ := Jp6 hl hy; exact ⟨x', by simp [e, h1], h2⟩
  ·cases h
section
variable {P : Program} {N : Nat} {E : Sn} {st st' : St} {a : Act} {w : World}
theorem Sim.restr (h : Sim N E st a w) (live : List Nat) : Sim N E ⟨restr live st.env, st.sto⟩ a w := by
 obtain ⟨h1, h2, g, hi, hr, ht⟩ := h
 exact ⟨h1, h2, g, hi, fun n x hx => hr n x (JdW hx), ht⟩
theorem Je1 {n : Nat} {live : List Nat} (h : Sim N E st a w) (hc : J5x n live st = some st') (hE : E.σ.length ≤ n) (hn : n ≤ st.sto.length) : Sim N E st' a w ∧ st'.sto.length = n := by
 unfold J5x at hc
 split at hc
 ·rename_i e
  injection hc with hc; subst hc
  exact ⟨h.restr live, e⟩
 ·split at hc
  ·rename_i ev l hev hl
   injection hc with hc; subst hc
   obtain ⟨h1, h2, g, hi, hr, ht⟩ := h
   obtain ⟨k1, k2⟩ := JbA hl
   have hlen : l.length = n := by rw [← k1]; simp; omega
   have co : Jpn ⟨st.sto, g, w⟩ n [] l := by
    refine ⟨hi, hn, List.nodup_nil, fun b hb => by simp at hb, by simp [hlen], fun k x hk => ?_⟩
    have hlt := Jb hk
    have hx : (st.sto.take n)[k]? = some (st.sto[k]'(by omega)) := by rw [List.getElem?_take_of_lt (by omega)]; exact List.getElem?_eq_getElem _
    refine ⟨_, ?_, k2 k _ x hx hk⟩
    rw [J8P (by omega)]; exact List.getElem?_eq_getElem _
   refine ⟨⟨h1, h2, (J7z ⟨st.sto, g, w⟩ n [] l).g, JoM co, fun k y hy => ?_, JkJ co ht hE⟩, hlen⟩
   obtain ⟨x, hx, hf⟩ := Jp6 hev hy
   obtain ⟨v, hv, hrel⟩ := hr k x (JdW hx)
   exact ⟨v, hv, Jkd co hrel hf⟩
  ·cases hc
def J7H (P : Program) : List Jcj → List ResultVar → Bool
 | [], [] => true
 | .tmp t :: r, .tmp t' :: q => t == t' && J7H P r q
 | .cell t agg size :: r, .cell t' ty :: q => t == t' && agT P ty == some agg && szT P ty == some size && J7H P r q
 | _, _ => false
def Jn2 (tmps : Array Value) : ResultVar → Sem Value
 | .tmp t => pure (tmps.getD t undef)
 | .cell a t => do loadVar t (← asAddr (tmps.getD a undef))
theorem JjH {s : Sn} {env : List (Nat × AV)} {tmps : Array Value} (hi : Inv s) (he : JQ s tmps env) : ∀ {rs : List Jcj} {qs : List ResultVar} {vs : List AV}, J7H P rs qs = true → (J5Z rs).run ⟨env, s.σ⟩ = some vs →
  ∃ us : List Value, (qs.mapM (Jn2 tmps)).run P s.w = .ok us s.w ∧ vs.length = us.length ∧ ∀ (i : Nat) x v, vs[i]? = some x → us[i]? = some v → Jr s x v
 | [], [], vs, _, h => by
  simp only [J5Z, RM.run] at h; injection h with h; subst h
  exact ⟨[], by simp, rfl, fun i x v h => by simp at h⟩
 | .tmp t :: r, .tmp t' :: q, vs, hc, h => by
  simp only [J7H, Bool.and_eq_true, beq_iff_eq] at hc
  obtain ⟨rfl, hc⟩ := hc
  simp only [J5Z] at h
  obtain ⟨x, h1, h⟩ := bind_some h
  obtain ⟨l, h2, h⟩ := bind_some h
  simp only [RM.run] at h; injection h with h; subst h
  simp only [RM.run] at h1
  split at h1
  ·rename_i y hy
   injection h1 with h1; subst h1
   obtain ⟨v, hv, hr⟩ := he _ _ hy
   obtain ⟨us, k1, k2, k3⟩ := JjH hi he hc h2
   refine ⟨v :: us, ?_, by simp [k2], fun i x u hx hu => ?_⟩
   ·rw [List.mapM_cons]
    simp only [Jn2, Sem.run_bind, Sem.run_pure, Result.andThen_ok, k1, Array.getD_eq_getD_getElem?, hv, Option.getD_some]
   ·cases i with
    | zero => simp at hx hu; subst hx hu; exact hr
    | succ i => exact k3 i x u (by simpa using hx) (by simpa using hu)
  ·cases h1
 | .cell t agg size :: r, .cell t' ty :: q, vs, hc, h => by
  simp only [J7H, Bool.and_eq_true, beq_iff_eq] at hc
  obtain ⟨⟨⟨rfl, ha⟩, hz⟩, hc⟩ := hc
  simp only [J5Z] at h
  obtain ⟨x, h1, h⟩ := bind_some h
  obtain ⟨e, h3, h⟩ := bind_some h
  obtain ⟨l, h2, h⟩ := bind_some h
  simp only [RM.run] at h; injection h with h; subst h
  simp only [RM.run] at h1
  split at h1
  ·rename_i y hy
   injection h1 with h1; subst h1
   obtain ⟨v, hv, hr⟩ := he _ _ hy
   obtain ⟨us, k1, k2, k3⟩ := JjH hi he hc h2
   obtain ⟨rr, o, ws, q1, q2, q3, _, q4⟩ := JkG hi h3 hr
   obtain ⟨l1, l2⟩ := JgW (P := P) ha hz q2 q3
   have hload : ∃ u, (loadVar ty ⟨rr, o, none⟩).run P s.w = .ok u s.w ∧ Jr s e.val u := by
    rcases q4 with ⟨rfl, hq⟩ | ⟨rfl, u, hu, hq⟩
    ·exact ⟨_, l1 rfl, hq⟩
    ·exact ⟨u, l2 rfl u hu, hq⟩
   obtain ⟨u, hu, hrel⟩ := hload
   refine ⟨u :: us, ?_, by simp [k2], fun i x z hx hz => ?_⟩
   ·rw [List.mapM_cons]
    subst q1
    simp only [Jn2, Sem.run_bind, Array.getD_eq_getD_getElem?, hv, Option.getD_some]
    simp [asAddr, hu, k1]
   ·cases i with
    | zero => simp at hx hz; subst hx hz; exact hrel
    | succ i => exact k3 i x z (by simpa using hx) (by simpa using hz)
  ·cases h1
 | [], _ :: _, _, hc, _ => by simp [J7H] at hc
 | .tmp _ :: _, [], _, hc, _ => by simp [J7H] at hc
 | .cell _ _ _ :: _, [], _, hc, _ => by simp [J7H] at hc
 | .tmp _ :: _, .cell _ _ :: _, _, hc, _ => by simp [J7H] at hc
 | .cell _ _ _ :: _, .tmp _ :: _, _, hc, _ => by simp [J7H] at hc
theorem J9M {m : Nat} {fresh : Bool} {sto : List Blk} : ∀ {es : List Ent}, ∀ b ∈ J0Y m fresh sto es, m ≤ b
 | [], b, h => by simp [J0Y] at h
 | .elem _ _ _ :: r, b, h => J9M (es := r) b (by simpa [J0Y] using h)
 | .whole c :: r, b, h => by
  simp only [J0Y] at h
  split at h
  ·exact J9M (es := r) b h
  ·rename_i hc
   have two : b ∈ c :: J0Y m fresh sto r → m ≤ b := by
    intro h
    rcases List.mem_cons.1 h with rfl | h
    ·omega
    ·exact J9M (es := r) b h
   split at h
   ·exact two h
   ·split at h
    ·exact two h
    ·exact J9M (es := r) b h
   ·exact J9M (es := r) b h
theorem Joz {s : Sn} {vs : List AV} {us : List Value} (hl : vs.length = us.length) (hr : ∀ (i : Nat) x v, vs[i]? = some x → us[i]? = some v → Jr s x v) :
  Jr s (one vs) (if h : us.toArray.size = 1 then us.toArray[0] else .tuple us.toArray) := by
 by_cases h : us.toArray.size = 1
 ·rw [dif_pos h]
  cases us with
  | nil => simp at h
  | cons u q =>
   cases vs with
   | nil => simp at hl
   | cons x p =>
    have hq : q = [] := by simpa using h
    subst hq
    have hp : p = [] := by simpa using hl
    subst hp
    exact hr 0 x u rfl rfl
 ·rw [dif_neg h]
  have : one vs = .tup vs := by
   match vs, hl with
   | [], _ => rfl
   | [x], hl => simp at h; simp at hl; omega
   | _ :: _ :: _, _ => rfl
  rw [this]
  exact .tup _ _ (by simpa using hl) fun i x v hx hv => hr i x v hx (by simpa using hv)
theorem Jko {af : AFn} {fn : Func} {m : Nat} {r : Res} (hs : Sim N E st a w) (hm : E.σ.length = m) (h : J4A af m st = some r) (hc : J7H P af.res fn.results.toList = true) :
  a.defers = [] ∧ ∃ v, (results fn a.tmps).run P w = .ok v w ∧ ∃ g', Inv ⟨r.2, g', w⟩ ∧ JE E ⟨r.2, g', w⟩ ∧ Jr ⟨r.2, g', w⟩ r.1 v := by
 obtain ⟨h1, h2, g, hi, hr, ht⟩ := hs
 refine ⟨h2, ?_⟩
 unfold J4A at h
 cases hvs : (J5Z af.res).run st with
 | none => rw [hvs] at h; cases h
 | some vs =>
  rw [hvs] at h
  dsimp only at h
  obtain ⟨us, k1, k2, k3⟩ := JjH (P := P) (s := ⟨st.sto, g, w⟩) (env := st.env) hi hr hc hvs
  have hrun : (results fn a.tmps).run P w = .ok (if h : us.toArray.size = 1 then us.toArray[0] else .tuple us.toArray) w := by
   have : results fn a.tmps = (do
    let vs ← fn.results.mapM (Jn2 a.tmps)
    pure (if h : vs.size = 1 then vs[0] else .tuple vs)) := rfl
   rw [this, Array.mapM_eq_mapM_toList]
   have k1' : (fn.results.toList.mapM (Jn2 a.tmps)).run P w = .ok us w := k1
   simp [k1']
  refine ⟨_, hrun, ?_⟩
  split at h
  ·injection h with h; subst h
   exact ⟨g, hi, ht, Joz k2 k3⟩
  ·split at h
   ·rename_i hnd
    have hge0 := J9M (m := m) (fresh := af.fresh) (sto := st.sto) (es := J7C st.sto (JW.entsOfL vs []) (JW.entsOfL vs []))
    generalize J0Y m af.fresh st.sto (J7C st.sto (JW.entsOfL vs []) (JW.entsOfL vs [])) = ids at *
    split at h
    ·rename_i ws l q hws hl hq
     split at h
     ·rename_i q' hq'
      injection h with h; subst h
      obtain ⟨a1, a2⟩ := J6y hws
      obtain ⟨b1, b2⟩ := JbA hl
      obtain ⟨c1, c2⟩ := Jin hq
      obtain ⟨d1, d2⟩ := JbA hq'
      have hle : m ≤ st.sto.length := by rw [← hm]; exact ht.len
      have hlen : l.length = m := by rw [← b1]; simp; omega
      have co : Jpn ⟨st.sto, g, w⟩ m ids (l ++ q') := by
       refine ⟨hi, hle, Jek hnd, hge0, by simp; omega, fun k x hk => ?_⟩
       rcases J9K hk with hk | ⟨hge, hk⟩
       ·have hlt := Jb hk
        have hx : (st.sto.take m)[k]? = some (st.sto[k]'(by omega)) := by rw [List.getElem?_take_of_lt (by omega)]; exact List.getElem?_eq_getElem _
        refine ⟨_, ?_, b2 k _ x hx hk⟩
        rw [J8P (by omega)]; exact List.getElem?_eq_getElem _
       ·have hlt := Jb hk
        have hx : q[k - l.length]? = some (q[k - l.length]'(by omega)) := List.getElem?_eq_getElem _
        refine ⟨_, ?_, d2 _ _ x hx hk⟩
        have hid : ids[k - l.length]? = some (ids[k - l.length]'(by omega)) := List.getElem?_eq_getElem _
        have hg := c2 _ _ _ hid hx
        have hio : J6S m ids k = ids[k - l.length]'(by omega) := by
         unfold J6S
         rw [if_neg (by omega), ← hlen, hid]; rfl
        rw [hio]; exact hg
      refine ⟨_, JoM co, JkJ co ht (by omega), Joz (by omega) fun i x v hx hv => ?_⟩
      have hlt := Jb hx
      have hx0 : vs[i]? = some (vs[i]'(by omega)) := List.getElem?_eq_getElem _
      exact Jkd co (k3 i _ v hx0 hv) (a2 i _ x hx0 hx)
     ·cases h
    ·cases h
   ·cases h
def JK (P : Program) (f : FuncId) (af : AFn) : Bool :=
 match P.funcs[f]? with
 | none => false
 | some fn => match fn.body with
  | none => false
  | some code => fn.name != "runtime.NumGoroutine" && af.nt == af.np + (fn.ntmps - af.np) && J7H P af.res fn.results.toList && J08 P af.nt af.body code
theorem Jkc : ∀ {args : List AV} {k n : Nat} {x : AV}, lk n (Jaj k args) = some x → k ≤ n ∧ args[n - k]? = some x
 | [], k, n, x, h => by simp [Jaj, lk] at h
 | y :: r, k, n, x, h => by
  simp only [Jaj, lk] at h
  split at h
  ·rename_i e; subst e; exact ⟨Nat.le_refl _, by simpa using h⟩
  ·rename_i e
   obtain ⟨h1, h2⟩ := Jkc h
   refine ⟨by omega, ?_⟩
   rw [show n - k = (n - (k + 1)) + 1 by omega]
   simpa using h2
end
section
variable {P : Program} {T : J5f}
theorem Js0 {f : FuncId} {af : AFn} {args : List AV} {blks : List Blk} {r : Res} (hc : JK P f af = true) (hnp : args.length = af.np)
  (h : ∀ (code : Code) (g : Gh) (w : World) (a : Act) (Q : Exit → Act → World → Prop), J08 P af.nt af.body code = true → Sim af.nt ⟨blks, g, w⟩ ⟨Jaj 0 args, blks⟩ a w →
   (∀ e s a' w', (e = .normal ∨ e = .ret) → J4A af blks.length s = some r → Sim af.nt ⟨blks, g, w⟩ s a' w' → Q (J92 e) a' w') → code.wp P Q a w) : J74 P f args blks r := by
 unfold JK at hc
 split at hc
 ·cases hc
 ·rename_i fn hfn
  split at hc
  ·cases hc
  ·rename_i code hb
   simp only [Bool.and_eq_true, beq_iff_eq, bne_iff_ne, ne_eq] at hc
   obtain ⟨⟨⟨hname, hnt⟩, hres⟩, hcode⟩ := hc
   refine ⟨⟨fn, hfn, by simp [hb], by simpa using hname⟩, fun g w vals hinv hlen hrel => ?_⟩
   refine calls_of_wp hfn hb ?_
   have hs0 : Sim af.nt ⟨blks, g, w⟩ ⟨Jaj 0 args, blks⟩ { tmps := vals ++ Array.replicate (fn.ntmps - vals.size) undef, defers := [] } w := by
    refine ⟨by simp; omega, rfl, g, hinv, fun n x hx => ?_, .refl _⟩
    obtain ⟨_, hx⟩ := Jkc hx
    rw [Nat.sub_zero] at hx
    have hlt := Jb hx
    refine ⟨vals[n]'(by omega), ?_, hrel n x _ hx (Array.getElem?_eq_getElem _)⟩
    rw [Array.getElem?_append_left (by omega)]; exact Array.getElem?_eq_getElem _
   have fin : ∀ {s}, J4A af blks.length s = some r → ∀ a' w', Sim af.nt ⟨blks, g, w⟩ s a' w' → a'.defers = [] ∧ ∃ v, (results fn a'.tmps).run P w' = .ok v w' ∧ ∃ v' g', Ending.returned v = .returned v' ∧
     Inv ⟨r.2, g', w'⟩ ∧ JE ⟨blks, g, w⟩ ⟨r.2, g', w'⟩ ∧ Jr ⟨r.2, g', w'⟩ r.1 v' := by
    intro s hfin a' w' hs
    obtain ⟨q1, v, q2, g', q3, q4, q5⟩ := Jko hs rfl hfin hres
    exact ⟨q1, v, q2, v, g', rfl, q3, q4, q5⟩
   refine h code g w _ _ hcode hs0 fun e s a' w' he hfin hs => ?_
   rcases he with rfl | rfl
   ·exact fin hfin a' w' hs
   ·exact fin hfin a' w' hs
theorem Jry {R : Jg → St → Option Out} (ih : ∀ c s r, R c s = some r → Jdl P c s r) {f : FuncId} {k : Jcd} {args : List AV} {blks : List Blk} {r : Res} (hc : JK P f k.af = true) (hnp : args.length = k.np)
  (h : Jg0 R k args blks = some r) : J74 P f args blks r := by
 refine Js0 hc hnp fun code g w a Q hcode hs0 fin => ?_
 simp only [Jcd.af] at hcode fin hs0
 cases code <;> simp only [J08, Bool.false_eq_true] at hcode
 rename_i code0 codeb
 simp only [Bool.and_eq_true] at hcode
 obtain ⟨hc0, hcb⟩ := hcode
 unfold Jg0 at h
 split at h
 ·rename_i s0 hp0
  split at h
  ·rename_i s1 hpre
   refine wp_seq ((ih _ _ _ hp0).get hc0 hs0 fun a0 w0 hs1 => ?_)
   split at hcb
   ·rename_i cp cq cx cy cz
    simp only [Bool.and_eq_true] at hcb
    obtain ⟨⟨⟨⟨hp, ho⟩, hx⟩, hy⟩, hz⟩ := hcb
    simp only [J92, Exit.then]
    refine wp_seq (wp_seq ((ih _ _ _ hpre).get hp hs1 fun a1 w1 hs1 => ?_))
    have way : ∀ {c : Jg} {code : Code}, J08 P k.nt c code = true → Jic k.af blks.length (thn (R c s1) fun s => R k.rest s) = some r →
      code.wp P (Exit.then (cz.wp P Q) Q) a1 w1 := by
     intro c code hc ht
     cases hR : R c s1 with
     | none => rw [hR] at ht; cases ht
     | some o =>
      obtain ⟨e, s2⟩ := o
      rw [hR] at ht
      refine (ih _ _ _ hR).get hc hs1 fun a' w' hs' => ?_
      cases e with
      | normal =>
       simp only [thn] at ht
       cases hR2 : R k.rest s2 with
       | none => rw [hR2] at ht; cases ht
       | some o2 =>
        obtain ⟨e2, s3⟩ := o2
        rw [hR2] at ht
        simp only [J92, Exit.then]
        refine (ih _ _ _ hR2).get hz hs' fun a' w' hs' => ?_
        cases e2 with
        | normal => exact fin .normal s3 a' w' (.inl rfl) ht hs'
        | ret => exact fin .ret s3 a' w' (.inr rfl) ht hs'
        | exit id => cases ht
      | exit id => cases ht
      | ret => exact fin .ret s2 a' w' (.inr rfl) ht hs'
    have hs1' := hs1
    obtain ⟨_, _, g, hi, hr, _⟩ := hs1'
    simp only [J92, Exit.then]
    split at h
    ·rename_i b hb
     have hrel := JI (s := ⟨s1.sto, g, w1⟩) (env := s1.env) hr hb ho
     generalize hv : a1.eval cq = v at hrel
     cases hrel with
     | p _ _ hrel =>
      cases hrel with
      | b =>
       refine wp_cond hv ?_
       cases b with
       | true => exact way hx (by simpa using h)
       | false => exact way hy (by simpa using h)
    ·rename_i hb
     have hrel := JI (s := ⟨s1.sto, g, w1⟩) (env := s1.env) hr hb ho
     generalize hv : a1.eval cq = v at hrel
     cases hrel with
     | unk t =>
      refine wp_cond hv ?_
      unfold Jjp at h
      split at h
      ·rename_i r1 r2 e1 e2
       split at h
       ·rename_i he
        injection h with h; subst h
        cases t with
        | true => exact way hx e1
        | false => rw [← he] at e2; exact way hy e2
       ·cases h
      ·cases h
    ·cases h
   ·cases hcb
  ·cases h
 ·cases h
theorem Jnx {R : Jg → St → Option Out} (ih : ∀ c s r, R c s = some r → Jdl P c s r) (hT : ∀ f af, T f = some (.fn af) → JK P f af = true)
  (hP : ∀ f g, T f = some (.prim g) → ∀ args blks r, g args blks = some r → J74 P f args blks r) (hK : ∀ f k, T f = some (.fork k) → JK P f k.af = true) : J5r P (JaR T R) := by
 intro f args blks r h
 unfold JaR at h
 cases hTf : T f with
 | none => rw [hTf] at h; cases h
 | some en =>
  rw [hTf] at h
  cases en with
  | prim g => exact hP f g hTf args blks r h
  | fork k =>
   dsimp only at h
   split at h
   ·rename_i hnp; exact Jry ih (hK f k hTf) hnp h
   ·cases h
  | fn af =>
   dsimp only at h
   split at h
   ·rename_i hnp
    have hc := hT f af hTf
    unfold JK at hc
    split at hc
    ·cases hc
    ·rename_i fn hfn
     split at hc
     ·cases hc
     ·rename_i code hb
      simp only [Bool.and_eq_true, beq_iff_eq, bne_iff_ne, ne_eq] at hc
      obtain ⟨⟨⟨hname, hnt⟩, hres⟩, hcode⟩ := hc
      refine ⟨⟨fn, hfn, by simp [hb], by simpa using hname⟩, fun g w vals hinv hlen hrel => ?_⟩
      refine calls_of_wp hfn hb ?_
      have hs0 : Sim af.nt ⟨blks, g, w⟩ ⟨Jaj 0 args, blks⟩ { tmps := vals ++ Array.replicate (fn.ntmps - vals.size) undef, defers := [] } w := by
       refine ⟨by simp; omega, rfl, g, hinv, fun n x hx => ?_, .refl _⟩
       obtain ⟨_, hx⟩ := Jkc hx
       rw [Nat.sub_zero] at hx
       have hlt := Jb hx
       refine ⟨vals[n]'(by omega), ?_, hrel n x _ hx (Array.getElem?_eq_getElem _)⟩
       rw [Array.getElem?_append_left (by omega)]; exact Array.getElem?_eq_getElem _
      have fin : ∀ {s}, J4A af blks.length s = some r → ∀ a' w', Sim af.nt ⟨blks, g, w⟩ s a' w' → a'.defers = [] ∧ ∃ v, (results fn a'.tmps).run P w' = .ok v w' ∧ ∃ v' g', Ending.returned v = .returned v' ∧
        Inv ⟨r.2, g', w'⟩ ∧ JE ⟨blks, g, w⟩ ⟨r.2, g', w'⟩ ∧ Jr ⟨r.2, g', w'⟩ r.1 v' := by
       intro s hfin a' w' hs
       obtain ⟨q1, v, q2, g', q3, q4, q5⟩ := Jko hs rfl hfin hres
       exact ⟨q1, v, q2, v, g', rfl, q3, q4, q5⟩
      split at h
      ·rename_i s hR
       exact (ih _ _ _ hR).get hcode hs0 fun a' w' hs => fin h a' w' hs
      ·rename_i s hR
       exact (ih _ _ _ hR).get hcode hs0 fun a' w' hs => fin h a' w' hs
      ·cases h
   ·cases h
theorem Jui (hmix : P.follows .mixedOrders = true) (hT : ∀ f af, T f = some (.fn af) → JK P f af = true)
  (hP : ∀ f g, T f = some (.prim g) → ∀ args blks r, g args blks = some r → J74 P f args blks r) (hK : ∀ f k, T f = some (.fork k) → JK P f k.af = true) : ∀ c s r, X T c s = some r → Jdl P c s r := by
 refine JwG T _ ?_
 intro R ih c s r h
 have hF : J5r P (JaR T R) := Jnx ih hT hP hK
 cases c with
 | skip =>
  simp only [step] at h; injection h with h; subst h
  intro N code E a w Q hc hs next
  cases code <;> simp [J08] at hc
  exact wp_skip (next a w hs)
 | reg d pairs ins =>
  simp only [step] at h
  split at h
  ·rename_i s' hreg
   injection h with h; subst h
   intro N code E a w Q hc hs next
   cases code <;> simp only [J08, Bool.false_eq_true] at hc
   simp only [Bool.and_eq_true, beq_iff_eq] at hc
   obtain ⟨rfl, hc⟩ := hc
   exact JvA hF hmix hreg hc hs next
  ·cases h
 | seq x y =>
  simp only [step] at h
  intro N code E a w Q hc hs next
  cases code <;> simp only [J08, Bool.false_eq_true] at hc
  simp only [Bool.and_eq_true] at hc
  refine wp_seq ?_
  split at h
  ·rename_i s' hx
   refine (ih _ _ _ hx).get hc.1 hs fun a' w' hs' => ?_
   exact (ih _ _ _ h).get hc.2 hs' next
  ·rename_i hne
   refine (ih _ _ _ h).get hc.1 hs fun a' w' hs' => ?_
   obtain ⟨e, s'⟩ := r
   cases e with
   | normal => exact absurd h (by simpa using hne s')
   | exit id => exact next a' w' hs'
   | ret => exact next a' w' hs'
 | cond c x y =>
  simp only [step] at h
  intro N code E a w Q hc hs next
  cases code <;> simp only [J08, Bool.false_eq_true] at hc
  simp only [Bool.and_eq_true] at hc
  obtain ⟨⟨hco, hx⟩, hy⟩ := hc
  have hs' := hs
  obtain ⟨_, _, g, hi, hr, _⟩ := hs'
  split at h
  ·rename_i b hb
   have hrel := JI (s := ⟨s.sto, g, w⟩) (env := s.env) hr hb hco
   generalize hv : a.eval _ = v at hrel
   cases hrel with
   | p _ _ hrel =>
    cases hrel with
    | b =>
     refine wp_cond hv ?_
     cases b with
     | true => exact (ih _ _ _ (by simpa using h)).get hx hs next
     | false => exact (ih _ _ _ (by simpa using h)).get hy hs next
  ·rename_i hb
   have hrel := JI (s := ⟨s.sto, g, w⟩) (env := s.env) hr hb hco
   generalize hv : a.eval _ = v at hrel
   cases hrel with
   | unk t =>
    refine wp_cond hv ?_
    unfold same at h
    split at h
    ·rename_i r1 r2 e1 e2
     split at h
     ·rename_i he
      injection h with h; subst h
      cases t with
      | true => exact (ih _ _ _ e1).get hx hs next
      | false => rw [he] at next; exact (ih _ _ _ e2).get hy hs next
     ·cases h
    ·cases h
  ·cases h
 | block id x =>
  simp only [step] at h
  intro N code E a w Q hc hs next
  cases code <;> simp only [J08, Bool.false_eq_true] at hc
  simp only [Bool.and_eq_true, beq_iff_eq] at hc
  obtain ⟨rfl, hc⟩ := hc
  refine wp_block ?_
  split at h
  ·rename_i k s' hx
   refine (ih _ _ _ hx).get hc hs fun a' w' hs' => ?_
   simp only [J92, Exit.inBlock]
   split at h
   ·rename_i e
    injection h with h; subst h
    rw [if_pos e]; exact next a' w' hs'
   ·rename_i e
    injection h with h; subst h
    rw [if_neg e]; exact next a' w' hs'
  ·rename_i hne
   refine (ih _ _ _ h).get hc hs fun a' w' hs' => ?_
   obtain ⟨e, s'⟩ := r
   cases e with
   | normal => exact next a' w' hs'
   | exit id => exact absurd h (by simpa using hne id s')
   | ret => exact next a' w' hs'
 | loop live x =>
  simp only [step] at h
  intro N code E a w Q hc hs next
  cases code <;> simp only [J08, Bool.false_eq_true] at hc
  split at h
  ·rename_i s' hcl
   obtain ⟨k, hk⟩ := ih _ _ _ h
   have hE : E.σ.length ≤ s.sto.length := by obtain ⟨_, _, g, _, _, ht⟩ := hs; exact ht.len
   obtain ⟨hs', hl⟩ := Je1 hs hcl hE (Nat.le_refl _)
   exact wp_loop_rounds k (hk N _ E a w Q hc hE (by omega) hs' next)
  ·cases h
 | lp n live x =>
  simp only [step] at h
  split at h
  ·rename_i s' hx
   split at h
   ·rename_i s'' hcl
    obtain ⟨k, hk⟩ := ih _ _ _ h
    refine ⟨k + 1, fun N code E a w Q hc hE hn hs next => ?_⟩
    rw [rounds_succ]
    obtain ⟨h1, h2, g, hi, hr, ht⟩ := hs
    have hs0 : Sim N ⟨s.sto, g, w⟩ s a w := ⟨h1, h2, g, hi, hr, .refl _⟩
    refine (ih _ _ _ hx).get hc hs0 fun a' w' hs' => ?_
    obtain ⟨q1, q2, g', qi, qr, qt⟩ := hs'
    have hlen : s.sto.length ≤ s'.sto.length := qt.len
    have hsE : Sim N E s' a' w' := ⟨q1, q2, g', qi, qr, ht.trans qt⟩
    obtain ⟨hs2, hl⟩ := Je1 hsE hcl hE (by omega)
    exact hk N code E a' w' Q hc hE (by omega) hs2 next
   ·cases h
  ·rename_i hne
   refine ⟨1, fun N code E a w Q hc hE hn hs next => ?_⟩
   rw [rounds_succ]
   refine (ih _ _ _ h).get hc hs fun a' w' hs' => ?_
   obtain ⟨e, s'⟩ := r
   cases e with
   | normal => exact absurd h (by simpa using hne s')
   | exit id => exact next a' w' hs'
   | ret => exact next a' w' hs'
 | scope x =>
  simp only [step] at h
  intro N code E a w Q hc hs next
  cases code <;> simp only [J08, Bool.false_eq_true] at hc
  refine wp_scope_straight ((ih _ _ _ h).get hc hs fun a' w' hs' => ?_)
  have := next a' w' hs'
  obtain ⟨e, s'⟩ := r
  cases e <;> exact this
 | exit id =>
  simp only [step] at h; injection h with h; subst h
  intro N code E a w Q hc hs next
  cases code <;> simp only [J08, Bool.false_eq_true] at hc
  simp only [beq_iff_eq] at hc; subst hc
  exact wp_exit (next a w hs)
 | ret =>
  simp only [step] at h; injection h with h; subst h
  intro N code E a w Q hc hs next
  cases code <;> simp only [J08, Bool.false_eq_true] at hc
  exact wp_ret (next a w hs)
 | keep live x =>
  simp only [step] at h
  intro N code E a w Q hc hs next
  exact (ih _ _ _ h).get (by simpa only [J08] using hc) (hs.restr live) next
 | tidy live x =>
  simp only [step, J6G] at h
  intro N code E a w Q hc hs next
  split at h
  ·rename_i e s2 he
   split at h
   ·rename_i s3 hcl
    injection h with h; subst h
    obtain ⟨h1, h2, g, hi, hr, ht⟩ := hs
    have hs0 : Sim N ⟨s.sto, g, w⟩ s a w := ⟨h1, h2, g, hi, hr, .refl _⟩
    refine (ih _ _ _ he).get (by simpa only [J08] using hc) hs0 fun a' w' hs' => next a' w' ?_
    obtain ⟨q1, q2, g', qi, qr, qt⟩ := hs'
    exact (Je1 (st := s2) (st' := s3) ⟨q1, q2, g', qi, qr, ht.trans qt⟩ hcl ht.len qt.len).1
   ·cases h
  ·cases h
 | br live pre o x y rest =>
  simp only [step] at h
  intro N code E a w Q hc hs next
  unfold J08 at hc
  split at hc
  ·rename_i cp cq cx cy cz
   simp only [Bool.and_eq_true] at hc
   obtain ⟨⟨⟨⟨hp, ho⟩, hx⟩, hy⟩, hz⟩ := hc
   split at h
   ·rename_i s1 hpre
    refine wp_seq (wp_seq ((ih _ _ _ hpre).get hp hs fun a1 w1 hs1 => ?_))
    have way : ∀ {c : Jg} {code : Code} {r' : Out}, J08 P N c code = true → thn (R c s1) (fun s => R rest s) = some r' →
      ∀ {E : Sn} {a : Act} {w : World} {Q : Exit → Act → World → Prop}, Sim N E s1 a w → (∀ a' w', Sim N E r'.2 a' w' → Q (J92 r'.1) a' w') → code.wp P (Exit.then (cz.wp P Q) Q) a w := by
     intro c code r' hc ht E a w Q hs next
     cases hR : R c s1 with
     | none => rw [hR] at ht; cases ht
     | some o =>
      obtain ⟨e, s2⟩ := o
      rw [hR] at ht
      refine (ih _ _ _ hR).get hc hs fun a' w' hs' => ?_
      cases e with
      | normal => exact (ih _ _ _ ht).get hz hs' next
      | exit id => injection ht with ht; subst ht; exact next a' w' hs'
      | ret => injection ht with ht; subst ht; exact next a' w' hs'
    have cway : ∀ {c : Jg} {code : Code}, J08 P N c code = true → J6G s1.sto.length live (thn (R c s1) fun s => R rest s) = some r → code.wp P (Exit.then (cz.wp P Q) Q) a1 w1 := by
     intro c code hc ht
     unfold J6G at ht
     split at ht
     ·rename_i e s2 he
      split at ht
      ·rename_i s3 hcl
       injection ht with ht; subst ht
       obtain ⟨h1, h2, g, hi, hr, ht⟩ := hs1
       have hs0 : Sim N ⟨s1.sto, g, w1⟩ s1 a1 w1 := ⟨h1, h2, g, hi, hr, .refl _⟩
       refine way hc he hs0 fun a' w' hs' => next a' w' ?_
       obtain ⟨q1, q2, g', qi, qr, qt⟩ := hs'
       exact (Je1 (st := s2) (st' := s3) ⟨q1, q2, g', qi, qr, ht.trans qt⟩ hcl ht.len qt.len).1
      ·cases ht
     ·cases ht
    have hs1' := hs1
    obtain ⟨_, _, g, hi, hr, _⟩ := hs1'
    simp only [J92, Exit.then]
    split at h
    ·rename_i b hb
     have hrel := JI (s := ⟨s1.sto, g, w1⟩) (env := s1.env) hr hb ho
     generalize hv : a1.eval cq = v at hrel
     cases hrel with
     | p _ _ hrel =>
      cases hrel with
      | b =>
       refine wp_cond hv ?_
       cases b with
       | true => exact way hx (by simpa using h) hs1 next
       | false => exact way hy (by simpa using h) hs1 next
    ·rename_i hb
     have hrel := JI (s := ⟨s1.sto, g, w1⟩) (env := s1.env) hr hb ho
     generalize hv : a1.eval cq = v at hrel
     cases hrel with
     | unk t =>
      refine wp_cond hv ?_
      unfold same at h
      split at h
      ·rename_i r1 r2 e1 e2
       split at h
       ·rename_i he
        injection h with h; subst h
        cases t with
        | true => exact cway hx e1
        | false => rw [← he] at e2; exact cway hy e2
       ·cases h
      ·cases h
    ·cases h
   ·cases h
  ·cases hc
theorem Jtf (hmix : P.follows .mixedOrders = true) (hT : ∀ f af, T f = some (.fn af) → JK P f af = true)
  (hP : ∀ f g, T f = some (.prim g) → ∀ args blks r, g args blks = some r → J74 P f args blks r) (hK : ∀ f k, T f = some (.fork k) → JK P f k.af = true) : J5r P (AF T) :=
 Jnx (Jui hmix hT hP hK) hT hP hK
end
end Go.Am
end
section
namespace Go.Am
@[congr] theorem Jwy {o o' : Option Out} {k : St → Option Out} (h : o = o') : thn o k = thn o' k := by rw [h]
@[congr] theorem JvZ {α β : Type} {o o' : RM α} {f : α → RM β} (h : o = o') : o.bind f = o'.bind f := by rw [h]
@[congr] theorem JvY {α β : Type} {o o' : Option α} {f : α → Option β} (h : o = o') : o.bind f = o'.bind f := by rw [h]
@[simp] theorem JpG (s k) : thn (some (.normal, s)) k = k s := rfl
@[simp] theorem Jsx (i s k) : thn (some (.exit i, s)) k = some (.exit i, s) := rfl
@[simp] theorem Ju8 (s k) : thn (some (.ret, s)) k = some (.ret, s) := rfl
@[simp] theorem Jst (k) : thn none k = none := rfl
def Jmj (o : Option Out) (k : St → Option Out) : Option Out :=
 match o with
 | some (.normal, s) => k s
 | _ => none
@[congr] theorem Jw6 {o o' : Option Out} {k : St → Option Out} (h : o = o') : Jmj o k = Jmj o' k := by rw [h]
@[simp] theorem Jo1 (s k) : Jmj (some (.normal, s)) k = k s := rfl
def blo (id : Nat) (o : Option Out) : Option Out :=
 match o with
 | some (.exit k, s) => if k = id then some (.normal, s) else some (.exit k, s)
 | o => o
@[simp] theorem Jpz (id s) : blo id (some (.normal, s)) = some (.normal, s) := rfl
@[simp] theorem Jmo (id i s) : blo id (some (.exit i, s)) = if i = id then some (.normal, s) else some (.exit i, s) := rfl
@[simp] theorem JuD (id s) : blo id (some (.ret, s)) = some (.ret, s) := rfl
@[simp] theorem JrZ (id) : blo id none = none := rfl
def nrm (o : Option St) : Option Out := match o with
 | some s => some (.normal, s)
 | none => none
@[simp] theorem JsJ (s) : nrm (some s) = some (.normal, s) := rfl
@[simp] theorem JrJ : nrm none = none := rfl
def evv (x : Opd) (env : List (Nat × AV)) : Option AV := match x with
 | .t n => lk n env
 | .c v => some v
@[simp] theorem JwV (n env) : evv (.t n) env = lk n env := rfl
@[simp] theorem JwW (v env) : evv (.c v) env = some v := rfl
theorem J0o (x : Opd) (s : St) : (ev x).run s = evv x s.env := by
 cases x with
 | t n => simp only [ev, RM.run, evv]; cases lk n s.env <;> rfl
 | c v => rfl
section
variable (T : J5f)
@[simp ↓] theorem JuT (s) : X T .skip s = some (.normal, s) := by rw [Jaw]; rfl
@[simp ↓] theorem Jw0 (a b s) : X T (.seq a b) s = thn (X T a s) fun s => X T b s := by
 rw [Jaw]; simp only [step]
 cases X T a s with
 | none => rfl
 | some o => obtain ⟨e, s'⟩ := o; cases e <;> rfl
theorem Jt8 (d ps ins s) : X T (.reg d ps ins) s = nrm (region (AF T) ps ins s) := by
 rw [Jaw]; simp only [step]
 show (match region (AF T) ps ins s with | some s' => some (AX.normal, s') | none => none) = _
 cases region (AF T) ps ins s <;> rfl
@[simp ↓] theorem JvU (d ins env sto) : X T (.reg d [] ins) ⟨env, sto⟩ = nrm (J2A (AF T) ins sto.length ⟨env, room (news ins) sto⟩) := by
 rw [Jt8]; rfl
def cnd (x : Option AV) (a b : Option Out) (c : Unit → Option Out) : Option Out :=
 match x with
 | some (.p (.b x)) => if x = true then a else b
 | some .unk => c ()
 | _ => none
@[congr] theorem Jwv {x x' : Option AV} {a b : Option Out} {c : Unit → Option Out} (h : x = x') : cnd x a b c = cnd x' a b c := by rw [h]
@[simp] theorem Jwh (x a b c) : cnd (some (.p (.b x))) a b c = if x = true then a else b := rfl
@[simp] theorem JtQ (a b c) : cnd (some .unk) a b c = c () := rfl
@[simp ↓] theorem Jvb (x a b s) : X T (.cond x a b) s = cnd (evv x s.env) (X T a s) (X T b s) fun _ => same (X T a s) (X T b s) := by
 rw [Jaw]; simp only [step, J0o]
 cases evv x s.env with
 | none => rfl
 | some v =>
  cases v with
  | p c => cases c <;> rfl
  | _ => rfl
@[simp ↓] theorem Juo (id c s) : X T (.block id c) s = blo id (X T c s) := by
 rw [Jaw]; simp only [step]
 cases X T c s with
 | none => rfl
 | some o => obtain ⟨e, s'⟩ := o; cases e <;> rfl
@[simp ↓] theorem Jub (c s) : X T (.scope c) s = X T c s := by rw [Jaw]; rfl
@[simp ↓] theorem JvR (id s) : X T (.exit id) s = some (.exit id, s) := by rw [Jaw]; rfl
@[simp ↓] theorem Jw8 (s) : X T .ret s = some (.ret, s) := by rw [Jaw]; rfl
@[simp ↓] theorem Jv1 (live c s) : X T (.keep live c) s = X T c ⟨restr live s.env, s.sto⟩ := by rw [Jaw]; rfl
@[simp ↓] theorem JwY (live pre x a b rest s) : X T (.br live pre x a b rest) s = Jmj (X T pre s) fun s1 =>
  cnd (evv x s1.env) (thn (X T a s1) fun s => X T rest s) (thn (X T b s1) fun s => X T rest s) fun _ =>
   same (J6G s1.sto.length live (thn (X T a s1) fun s => X T rest s)) (J6G s1.sto.length live (thn (X T b s1) fun s => X T rest s)) := by
 rw [Jaw]; simp only [step, J0o]
 cases X T pre s with
 | none => rfl
 | some o =>
  obtain ⟨e, s1⟩ := o
  cases e with
  | normal =>
   dsimp only [Jmj]
   cases evv x s1.env with
   | none => rfl
   | some v =>
    cases v with
    | p c => cases c <;> rfl
    | _ => rfl
  | exit => rfl
  | ret => rfl
@[simp ↓] theorem JvK (live c env sto) : X T (.loop live c) ⟨env, sto⟩ = X T (.lp sto.length live c) ⟨restr live env, sto⟩ := by
 rw [Jaw]; simp [step, J5x]
theorem JwN (n live c s) : X T (.lp n live c) s = thn (X T c s) fun s => match J5x n live s with
  | some s => X T (.lp n live c) s
  | none => none := by
 rw [Jaw]; simp only [step]
 cases X T c s with
 | none => rfl
 | some o => obtain ⟨e, s'⟩ := o; cases e <;> rfl
def JjK (res : List Jcj) (fresh : Bool) (m : Nat) (o : Option Out) : Option Res :=
 match o with
 | some (.normal, s) => J4A ⟨0, 0, .skip, res, fresh⟩ m s
 | some (.ret, s) => J4A ⟨0, 0, .skip, res, fresh⟩ m s
 | _ => none
@[congr] theorem Jw4 {res : List Jcj} {fresh : Bool} {m : Nat} {o o' : Option Out} (h : o = o') : JjK res fresh m o = JjK res fresh m o' := by rw [h]
@[simp] theorem Jo9 (res fresh m s) : JjK res fresh m (some (.normal, s)) = J4A ⟨0, 0, .skip, res, fresh⟩ m s := rfl
@[simp] theorem JsR (res fresh m s) : JjK res fresh m (some (.ret, s)) = J4A ⟨0, 0, .skip, res, fresh⟩ m s := rfl
@[simp] theorem Jwj (o : Option Res) : Jjp o o = o := by unfold Jjp; cases o <;> simp
theorem Jwe {f : FuncId} {fn : AFn} (h : T f = some (.fn fn)) (args blks) : AF T f args blks = if args.length = fn.np then
  JjK fn.res fn.fresh blks.length (X T fn.body ⟨Jaj 0 args, blks⟩)
 else none := by
 unfold AF JaR; rw [h]; rfl
end
variable {F : Orc} {env : List (Nat × AV)} {sto : List Blk} {new : Nat} {r : List J0M} {d : Nat}
@[simp] theorem JpJ (s) : J2A F [] new s = some s := rfl
theorem Jo3 (i s) : J2A F (i :: r) new s = ((J1E F i new).run s).bind fun e => J2A F r (new + JB i.op) (put i.dst e s) := by
 simp only [J2A]; cases (J1E F i new).run s <;> rfl
@[simp] theorem JwA : news [] = 0 := rfl
@[simp ↓] theorem Jww (i) : news (i :: r) = JB i.op + news r := rfl
@[simp] theorem JwT : room 0 sto = sto := rfl
@[simp] theorem Jwo (n) : room (n + 1) sto = sto ++ List.replicate (n + 1) .dead := rfl
@[simp] theorem JwS (n) : lk n [] = none := rfl
@[simp] theorem Jul (n m v) (r : List (Nat × AV)) : lk n ((m, v) :: r) = if n = m then some v else lk n r := rfl
attribute [simp ↓] Jo3 J1E opD J6E JB run_bind J0o opR
attribute [simp] put val evs evo J1C J1P
 J0m J8a JmY unP J8n JmZ fz fz.fzL fz.fz1 fzs J3Y J1X J1x sub spl J5o Jg3 Jfh JaT JaS J2R Jbx JfC J78 J4x J2b J8m JS J63 J4s mmP cellsOf unp J0W J2w
 J5Z one Jaj J0P JbY J49
@[simp] theorem Jws (o : Option Out) : same o o = o := by unfold same; cases o <;> simp
@[simp ↓] theorem J1Z {α : Type} (a : α) (s : St) : (RM.ret a).run s = some a := rfl
@[simp ↓] theorem JwK {α : Type} (s : St) : (RM.fail : RM α).run s = none := rfl
@[simp ↓] theorem Jmf {α : Type} (n : Nat) (k : AV → RM α) (s : St) : (RM.slot n k).run s = (lk n s.env).bind fun v => (k v).run s := by simp only [RM.run]; cases lk n s.env <;> rfl
@[simp ↓] theorem J6t {α : Type} (n : Nat) (k : Blk → RM α) (s : St) : (RM.blk n k).run s = (s.sto[n]?).bind fun v => (k v).run s := by simp only [RM.run]; cases s.sto[n]? <;> rfl
@[simp] theorem JtG : upd [] sto = sto := rfl
@[simp] theorem JsP (b x ws) : upd ((b, x) :: ws) sto = upd ws (sto.set b x) := rfl
@[simp] theorem Jwq : restr [] env = [] := rfl
@[simp] theorem Jpu (k l) : restr (k :: l) env = match lk k env with
  | some v => (k, v) :: restr l env
  | none => restr l env := rfl
end Go.Am
namespace Go.Am
def J4y : AV → Bool
 | .p _ | .data _ | .cp _ _ | .unk => true
 | _ => false
@[simp] theorem JwO (c) : J4y (.p c) = true := rfl
@[simp] theorem JvW (c) : J4y (.data c) = true := rfl
@[simp] theorem Jwt (c o) : J4y (.cp c o) = true := rfl
theorem J7v : ∀ {args : List AV} {l : List Ent}, args.all J4y = true → JW.entsOfL args l = l
 | [], l, _ => rfl
 | x :: r, l, h => by
  simp only [List.all_cons, Bool.and_eq_true] at h
  obtain ⟨h1, h2⟩ := h
  simp only [JW.entsOfL]
  cases x <;> simp [J4y] at h1 <;> simp only [JW] <;> exact J7v h2
theorem J9L {ρ : Ent → Option Nat} : ∀ {args : List AV}, args.all J4y = true → ren.renL ρ args = some args
 | [], _ => rfl
 | x :: r, h => by
  simp only [List.all_cons, Bool.and_eq_true] at h
  have := J9L (ρ := ρ) h.2
  have h1 := h.1
  clear h
  cases x <;> simp [J4y] at h1 <;> simp [ren.renL, ren, this]
theorem Jnc {es : List Ent} {new : Nat} {x : AV} (h : J4y x = true) : bk es new x = some x := by
 cases x <;> simp [J4y] at h <;> rfl
theorem Jcz {es : List Ent} {new : Nat} : ∀ {xs : List AV}, xs.all J4y = true → bk.bkL es new xs = some xs
 | [], _ => rfl
 | x :: r, h => by
  simp only [List.all_cons, Bool.and_eq_true] at h
  simp [bk.bkL, Jnc h.1, Jcz h.2]
@[simp] theorem JwX (es new c) : bk es new (.p c) = some (.p c) := rfl
@[simp] theorem JwR (es new c) : bk es new (.data c) = some (.data c) := rfl
@[simp] theorem JwU (es new l) : bk es new (.tup l) = (bk.bkL es new l).map .tup := by simp only [bk]; cases bk.bkL es new l <;> rfl
@[simp] theorem JwQ (es new) : bk.bkL es new [] = some [] := rfl
@[simp] theorem JwD (es new x l) : bk.bkL es new (x :: l) = (bk es new x).bind fun y => (bk.bkL es new l).map fun l => y :: l := by
 simp only [bk.bkL]; cases bk es new x <;> simp; cases bk.bkL es new l <;> rfl
@[simp] theorem JvX (n live) : J6G n live none = none := rfl
@[simp] theorem Joi (n live e s) : J6G n live (some (e, s)) = (J5x n live s).map fun s => (e, s) := by
 simp only [J6G]; cases J5x n live s <;> rfl
attribute [simp ↓] Option.bind_some Option.bind_none JpG Jsx Ju8 Jst Jo1 JsJ JrJ Jwh JtQ Jpz Jmo JuD JrZ Jo9 JsR JpJ Jul Jpu JtG JsP
attribute [simp] J5x J8l J3m J4t fin fin.finL J4A J0Y J7C JW JW.entsOfL J7J J4Y J6W J86 unp
end Go.Am
end
section
namespace Go.Am
inductive Fr where
 | sq (b : Jg)
 | bl (id : Nat)
 | td (n : Nat) (live : List Nat)
 | lo (n : Nat) (live : List Nat) (c : Jg)
noncomputable def again (T : J5f) (n : Nat) (live : List Nat) (c : Jg) (o : Option St) : Option Out := match o with
 | some s => X T (.lp n live c) s
 | none => none
noncomputable def rk (T : J5f) (f : AFn) (m : Nat) : List Fr → Option Out → Option Res
 | [], o => JjK f.res f.fresh m o
 | .sq b :: k, o => rk T f m k (thn o fun s => X T b s)
 | .bl id :: k, o => rk T f m k (blo id o)
 | .td n live :: k, o => rk T f m k (J6G n live o)
 | .lo n live c :: k, o => rk T f m k (thn o fun s => again T n live c (J5x n live s))
section
variable (T : J5f) (f : AFn) (m : Nat) (k : List Fr)
theorem JuI (s) : rk T f m k (X T .skip s) = rk T f m k (some (.normal, s)) := by rw [JuT]
theorem Jv7 (a b s) : rk T f m k (X T (.seq a b) s) = rk T f m (.sq b :: k) (X T a s) := by rw [Jw0]; rfl
theorem JvV (d ins env sto) : rk T f m k (X T (.reg d [] ins) ⟨env, sto⟩) = rk T f m k (nrm (J2A (AF T) ins sto.length ⟨env, room (news ins) sto⟩)) := by rw [JvU]
theorem JsF (id c s) : rk T f m k (X T (.block id c) s) = rk T f m (.bl id :: k) (X T c s) := by rw [Juo]; rfl
theorem JrM (c s) : rk T f m k (X T (.scope c) s) = rk T f m k (X T c s) := by rw [Jub]
theorem JtZ (id s) : rk T f m k (X T (.exit id) s) = rk T f m k (some (.exit id, s)) := by rw [JvR]
theorem JvL (s) : rk T f m k (X T .ret s) = rk T f m k (some (.ret, s)) := by rw [Jw8]
theorem Jus (live c env sto) : rk T f m k (X T (.keep live c) ⟨env, sto⟩) = rk T f m k (X T c ⟨restr live env, sto⟩) := by rw [Jv1]
theorem Jvi (live c s) : X T (.tidy live c) s = J6G s.sto.length live (X T c s) := by rw [Jaw]; rfl
theorem Jtl (live c env sto) : rk T f m k (X T (.tidy live c) ⟨env, sto⟩) = rk T f m (.td sto.length live :: k) (X T c ⟨env, sto⟩) := by rw [Jvi]; rfl
theorem Jtp (live c env sto) : rk T f m k (X T (.loop live c) ⟨env, sto⟩) = rk T f m k (X T (.lp sto.length live c) ⟨restr live env, sto⟩) := by rw [JvK]
theorem J0n (n live c s) : rk T f m k (X T (.lp n live c) s) = rk T f m (.lo n live c :: k) (X T c s) := by
 rw [JwN]; simp only [rk]
 congr 2
theorem JuB (x a b env sto) : rk T f m k (X T (.cond x a b) ⟨env, sto⟩) = rk T f m k (cnd (evv x env) (X T a ⟨env, sto⟩) (X T b ⟨env, sto⟩) fun _ => same (X T a ⟨env, sto⟩) (X T b ⟨env, sto⟩)) := by rw [Jvb]
theorem JtX (i j s) : rk T f m (.bl i :: k) (some (.exit j, s)) = if j = i then rk T f m k (some (.normal, s)) else rk T f m k (some (.exit j, s)) := by
 simp only [rk, Jmo]; split <;> rfl
theorem Jw5 (n live e s) : rk T f m (.td n live :: k) (some (e, s)) = rk T f m k ((J5x n live s).map fun s => (e, s)) := by simp only [rk, Joi]
theorem Jt3 (s) : rk T f m [] (some (.normal, s)) = J4A ⟨0, 0, .skip, f.res, f.fresh⟩ m s := rfl
theorem Jsy (s) : rk T f m [] (some (.ret, s)) = J4A ⟨0, 0, .skip, f.res, f.fresh⟩ m s := rfl
theorem J0c {g : FuncId} {f : AFn} (h : T g = some (.fn f)) {args blks} (hl : args.length = f.np) : AF T g args blks = rk T f blks.length [] (X T f.body ⟨Jaj 0 args, blks⟩) := by
 rw [Jwe T h, if_pos hl]; rfl
end
open Classical in
noncomputable def Jv {σ ρ : Type} (f : σ → Option (σ ⊕ ρ)) (s : σ) : Option ρ :=
 let it : Nat → σ → Option ρ := fun n => n.rec (fun _ => none) fun _ ih s => match f s with
  | some (.inl s') => ih s'
  | some (.inr r) => some r
  | none => none
 if h : ∃ n r, it n s = some r then it (Classical.choose h) s else none
def J8L {σ ρ : Type} (f : σ → Option (σ ⊕ ρ)) : Nat → σ → Option ρ
 | 0, _ => none
 | n + 1, s => match f s with
  | some (.inl s') => J8L f n s'
  | some (.inr r) => some r
  | none => none
section
variable {σ ρ : Type} {f : σ → Option (σ ⊕ ρ)}
theorem Jk4 (n : Nat) : ∀ s : σ, (Nat.rec (motive := fun _ => σ → Option ρ) (fun _ => none) (fun _ ih s => match f s with
  | some (.inl s') => ih s'
  | some (.inr r) => some r
  | none => none) n) s = J8L f n s := by
 induction n with
 | zero => intro s; rfl
 | succ n ih => intro s; simp only [J8L]; split <;> first | rfl | exact ih _
theorem JfZ : ∀ {n : Nat} {s : σ} {r : ρ} (m : Nat), J8L f n s = some r → J8L f (n + m) s = some r
 | 0, _, _, _, h => by cases h
 | n + 1, s, r, m, h => by
  rw [show n + 1 + m = (n + m) + 1 by omega]
  simp only [J8L] at h ⊢
  split at h
  ·exact JfZ m h
  ·exact h
  ·cases h
theorem Jsn {n m : Nat} {s : σ} {r r' : ρ} (h : J8L f n s = some r) (h' : J8L f m s = some r') : r = r' := by
 have a := JfZ m h
 have b := JfZ n h'
 rw [Nat.add_comm m n] at b
 rw [a] at b; injection b
theorem JcG {s : σ} {r : ρ} : Jv f s = some r ↔ ∃ n, J8L f n s = some r := by
 unfold Jv
 dsimp only
 constructor
 ·intro h
  split at h
  ·exact ⟨_, by rw [← Jk4]; exact h⟩
  ·cases h
 ·rintro ⟨n, h⟩
  have hex : ∃ n r, (Nat.rec (motive := fun _ => σ → Option ρ) (fun _ => none) (fun _ ih s => match f s with
   | some (.inl s') => ih s'
   | some (.inr r) => some r
   | none => none) n) s = some r := ⟨n, r, by rw [Jk4]; exact h⟩
  rw [dif_pos hex]
  obtain ⟨r', hr⟩ := Classical.choose_spec hex
  rw [hr]
  rw [Jk4] at hr
  rw [Jsn hr h]
theorem J0N {s : σ} {r : ρ} (h : f s = some (.inr r)) : Jv f s = some r := JcG.2 ⟨1, by simp only [J8L, h]⟩
theorem J2v {s s' : σ} (h : f s = some (.inl s')) : Jv f s = Jv f s' := by
 have key : ∀ r, Jv f s = some r ↔ Jv f s' = some r := by
  intro r
  rw [JcG, JcG]
  constructor
  ·rintro ⟨n, hn⟩
   cases n with
   | zero => cases hn
   | succ n => simp only [J8L, h] at hn; exact ⟨n, hn⟩
  ·rintro ⟨n, hn⟩
   exact ⟨n + 1, by simp only [J8L, h]; exact hn⟩
 cases hs : Jv f s with
 | some r => exact ((key r).1 hs).symm
 | none =>
  cases hs' : Jv f s' with
  | none => rfl
  | some r => rw [(key r).2 hs'] at hs; cases hs
theorem J0p {P : σ → ρ → Prop} (h1 : ∀ s r, f s = some (.inr r) → P s r) (h2 : ∀ s s' r, f s = some (.inl s') → P s' r → P s r) {s : σ} {r : ρ} (h : Jv f s = some r) : P s r := by
 obtain ⟨n, hn⟩ := JcG.1 h
 clear h
 induction n generalizing s with
 | zero => cases hn
 | succ n ih =>
  simp only [J8L] at hn
  split at hn
  ·rename_i h; exact h2 _ _ _ h (ih hn)
  ·rename_i h; injection hn with hn; subst hn; exact h1 _ _ h
  ·cases hn
end
theorem J8 {α : Type} {c : Bool} {A B : Option α} {o : α} (h : (if c = true then A else B) = some o) : (c = true ∧ A = some o) ∨ (c = false ∧ B = some o) := by
 cases c with
 | true => exact .inl ⟨rfl, h⟩
 | false => exact .inr ⟨rfl, h⟩
end Go.Am
end
