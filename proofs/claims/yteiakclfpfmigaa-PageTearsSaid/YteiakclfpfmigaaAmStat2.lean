/-
  The abstract machine: which operations leave blocks alone.
-/
import Derived.Test.YteiakclfpfmigaaAmStat
set_option linter.unusedSimpArgs false
set_option linter.unusedVariables false
namespace Go.Am

def W0 (m : RM Eff) : Prop := ∀ s e, m.run s = some e → e.ws = []
def B0 {α : Type} (m : RM α) : Prop := ∀ s e, m.run s = some e → ∀ b, Loc.blk b ∉ m.reads s

theorem w0_val (x : Option AV) : W0 (val x) := fun s e h => by
  cases x with
  | none => cases h
  | some v => simp only [val, RM.run] at h; injection h with h; rw [← h]
theorem w0_ret (v : AV) : W0 (.ret ⟨v, []⟩) := fun s e h => by simp only [RM.run] at h; injection h with h; rw [← h]
theorem w0_fail : W0 .fail := fun s e h => by cases h
theorem w0_bind {α : Type} {m : RM α} {f : α → RM Eff} (h : ∀ a, W0 (f a)) : W0 (m.bind f) := fun s e he => by
  rw [run_bind] at he
  cases hm : m.run s with
  | none => rw [hm] at he; cases he
  | some a => rw [hm] at he; exact h a s e he
theorem w0_blk {b : Nat} {k : Blk → RM Eff} (h : ∀ v, W0 (k v)) : W0 (.blk b k) := fun s e he => by
  simp only [RM.run] at he
  split at he
  · exact h _ s e he
  · cases he
theorem w0_ite {c : Prop} [Decidable c] {x y : RM Eff} (hx : W0 x) (hy : W0 y) : W0 (if c then x else y) := by split <;> assumption

theorem w0_slot {g : Nat} {k : AV → RM Eff} (h : ∀ v, W0 (k v)) : W0 (.slot g k) := fun s e he => by
  simp only [RM.run] at he
  split at he
  · exact h _ s e he
  · cases he

theorem b0_ret {α : Type} (a : α) : B0 (.ret a) := fun s e _ b h => by simp [RM.reads] at h
theorem b0_fail {α : Type} : B0 (.fail : RM α) := fun s e h => by cases h
theorem b0_val (x : Option AV) : B0 (val x) := by cases x <;> first | exact b0_fail | exact b0_ret _
theorem b0_bind {α β : Type} {m : RM α} {f : α → RM β} (hm : B0 m) (h : ∀ a, B0 (f a)) : B0 (m.bind f) := fun s e he b hb => by
  rw [run_bind] at he
  rw [reads_bind] at hb
  cases hr : m.run s with
  | none => rw [hr] at he; cases he
  | some a =>
    rw [hr] at he hb
    rcases List.mem_append.1 hb with hb | hb
    · exact hm s a hr b hb
    · exact h a s e he b (by simpa using hb)
theorem b0_ite {α : Type} {c : Prop} [Decidable c] {x y : RM α} (hx : B0 x) (hy : B0 y) : B0 (if c then x else y) := by split <;> assumption
theorem b0_ev (x : Opd) : B0 (ev x) := by
  cases x with
  | t n => exact fun s e _ b h => by simp only [ev, RM.reads, List.mem_cons] at h; rcases h with h | h; cases h; split at h <;> simp [RM.reads] at h
  | c v => exact b0_ret _
theorem b0_slot {α : Type} {g : Nat} {k : AV → RM α} (h : ∀ v, B0 (k v)) : B0 (.slot g k) := fun s e he b hb => by
  simp only [RM.run] at he
  simp only [RM.reads, List.mem_cons] at hb
  rcases hb with hb | hb
  · cases hb
  · cases hl : lk g s.env with
    | none => rw [hl] at he; cases he
    | some v =>
      rw [hl] at he hb
      exact h v s e he b hb

theorem b0_evs : ∀ xs : List Opd, B0 (evs xs)
  | [] => b0_ret _
  | x :: xs => b0_bind (b0_ev x) fun _ => b0_bind (b0_evs xs) fun _ => b0_ret _
theorem b0_evo (x : Option Opd) : B0 (evo x) := by
  cases x with
  | none => exact b0_ret _
  | some x => exact b0_bind (b0_ev x) fun _ => b0_ret _
theorem b0_partsR : ∀ (xs : List (Nat × Nat × Opd)), B0 (partsR xs)
  | [] => b0_ret _
  | (a, b, x) :: xs => by
    unfold partsR
    refine b0_bind (b0_ev x) fun v => ?_
    split
    · exact b0_bind (b0_partsR xs) fun _ => b0_ret _
    · exact b0_fail

theorem str_none {x : AV} {lo hi mx : Option AV} {b i n : Nat} (h : x = .slr b i n) : sliceP .str x lo hi mx = none := by
  subst h; cases mx <;> rfl

theorem str_slr (lo hi mx : Option AV) (c : PV) (hc : ∀ l, c ≠ .s l) : sliceP .str (.p c) lo hi mx = none := by
  cases mx with
  | some _ => rfl
  | none => cases c <;> first | rfl | exact absurd rfl (hc _)

theorem w0_opR (F : Orc) (op : AOp) (new : Nat) (h : memW op = false) : W0 (opR F op new) := by
  cases op with
  | mkarr => cases h
  | newbox => cases h
  | box => cases h
  | lits => cases h
  | store => cases h
  | mkslice => cases h
  | call => cases h
  | callv => cases h
  | app => cases h
  | appn => cases h
  | mv x => exact w0_bind fun _ => w0_ret _
  | pick c a b =>
    refine w0_bind fun v => ?_
    cases v with
    | p q => cases q with
      | b x => exact w0_ite (w0_bind fun _ => w0_ret _) (w0_bind fun _ => w0_ret _)
      | _ => exact w0_fail
    | _ => exact w0_fail
  | build zero parts =>
    refine w0_bind fun v => ?_
    split
    · exact w0_val _
    · exact w0_fail
  | load agg size x =>
    refine w0_bind fun v => ?_
    unfold loadR
    split
    · split
      · exact w0_val _
      · exact w0_fail
    · refine w0_blk fun v => ?_
      cases v <;> try exact w0_fail
      dsimp only
      split
      · exact w0_val _
      · exact w0_fail
    · refine w0_blk fun v => ?_
      cases v <;> try exact w0_fail
      dsimp only
      refine w0_ite ?_ w0_fail
      split
      · split
        · exact w0_val _
        · exact w0_fail
      · exact w0_fail
    · exact w0_fail
  | nilchk x =>
    refine w0_bind fun v => ?_
    cases v <;> first | exact w0_ret _ | exact w0_fail
  | bin op t x y => exact w0_bind fun _ => w0_bind fun _ => w0_val _
  | un op x => exact w0_bind fun _ => w0_val _
  | conv k x =>
    refine w0_bind fun v => ?_
    split
    · exact w0_ret _
    · exact w0_ret _
    · refine w0_bind fun _ => ?_
      split
      · exact w0_ret _
      · exact w0_fail
    · cases h
    · exact w0_fail
  | slice k x lo hi mx =>
    cases k with
    | sl esz => cases h
    | str =>
      refine w0_bind fun v => w0_bind fun _ => w0_bind fun _ => w0_bind fun _ => ?_
      split
      · rename_i b i n
        intro s e he
        exfalso
        rw [run_bind] at he
        cases h1 : (fz (.slr b i n)).run s with
        | none => rw [h1] at he; cases he
        | some y =>
          rw [h1] at he
          have hsl : ∃ ez rw, y.1 = [.sl ez rw] := by
            simp only [fz, RM.run] at h1
            split at h1
            · split at h1
              · split at h1
                · simp only [RM.run] at h1; injection h1 with h1; rw [← h1]; exact ⟨_, _, rfl⟩
                · cases h1
              · cases h1
            · cases h1
          obtain ⟨ez, rw', hy⟩ := hsl
          simp only [Option.bind_some, hy, str_slr _ _ _ (.sl ez rw') (by simp)] at he
          cases he
      · exact w0_val _
  | faddr off x => exact w0_bind fun _ => w0_val _
  | field agg off size x => exact w0_bind fun _ => w0_val _
  | iaddr esz x y =>
    refine w0_bind fun v => w0_bind fun u => ?_
    unfold iaddrR
    split
    · refine w0_ite ?_ w0_fail
      split
      · exact w0_ret _
      · exact w0_fail
    · refine w0_blk fun v => ?_
      cases v <;> first | exact w0_fail | exact w0_ite (w0_ret _) w0_fail
    · exact w0_fail
  | aaddr len esz x y => exact w0_bind fun _ => w0_bind fun _ => w0_val _
  | sidx x y =>
    refine w0_bind fun v => w0_bind fun u => ?_
    split
    · refine w0_ite ?_ w0_fail
      split
      · exact w0_ret _
      · exact w0_fail
    · exact w0_fail
  | aidx agg len esz x y =>
    refine w0_bind fun v => w0_bind fun u => ?_
    split
    · exact w0_ite (w0_val _) w0_fail
    · exact w0_fail
  | extr x i => exact w0_bind fun _ => w0_val _
  | len str x => exact w0_bind fun _ => w0_val _
  | alen n => exact w0_ret _
  | mm mx x y => exact w0_bind fun _ => w0_bind fun _ => w0_val _
  | mkfn f a b => exact w0_bind fun _ => w0_bind fun _ => w0_ret _

theorem b0_opR (F : Orc) (op : AOp) (new : Nat) (h : memT op = false) : B0 (opR F op new) := by
  cases op with
  | mkarr => cases h
  | newbox => cases h
  | box => cases h
  | lits => cases h
  | store => cases h
  | mkslice => cases h
  | call => cases h
  | callv => cases h
  | app => cases h
  | appn => cases h
  | load => cases h
  | iaddr => cases h
  | mv x => exact b0_bind (b0_ev x) fun _ => b0_ret _
  | pick c a b =>
    refine b0_bind (b0_ev c) fun v => ?_
    cases v with
    | p q => cases q with
      | b x => exact b0_ite (b0_bind (b0_ev a) fun _ => b0_ret _) (b0_bind (b0_ev b) fun _ => b0_ret _)
      | _ => exact b0_fail
    | _ => exact b0_fail
  | build zero parts =>
    refine b0_bind (b0_partsR parts) fun v => ?_
    split
    · exact b0_val _
    · exact b0_fail
  | nilchk x =>
    refine b0_bind (b0_ev x) fun v => ?_
    cases v <;> first | exact b0_ret _ | exact b0_fail
  | bin op t x y => exact b0_bind (b0_ev x) fun _ => b0_bind (b0_ev y) fun _ => b0_val _
  | un op x => exact b0_bind (b0_ev x) fun _ => b0_val _
  | conv k x =>
    refine b0_bind (b0_ev x) fun v => ?_
    split
    · exact b0_ret _
    · exact b0_ret _
    · cases h
    · cases h
    · exact b0_fail
  | slice k x lo hi mx =>
    cases k with
    | sl esz => cases h
    | str =>
      refine b0_bind (b0_ev x) fun v => b0_bind (b0_evo lo) fun _ => b0_bind (b0_evo hi) fun _ => b0_bind (b0_evo mx) fun _ => ?_
      split
      · rename_i b i n
        intro s e he
        exfalso
        rw [run_bind] at he
        cases h1 : (fz (.slr b i n)).run s with
        | none => rw [h1] at he; cases he
        | some y =>
          rw [h1] at he
          have hsl : ∃ ez rw, y.1 = [.sl ez rw] := by
            simp only [fz, RM.run] at h1
            split at h1
            · split at h1
              · split at h1
                · simp only [RM.run] at h1; injection h1 with h1; rw [← h1]; exact ⟨_, _, rfl⟩
                · cases h1
              · cases h1
            · cases h1
          obtain ⟨ez, rw', hy⟩ := hsl
          simp only [Option.bind_some, hy, str_slr _ _ _ (.sl ez rw') (by simp)] at he
          cases he
      · exact b0_val _
  | faddr off x => exact b0_bind (b0_ev x) fun _ => b0_val _
  | field agg off size x => exact b0_bind (b0_ev x) fun _ => b0_val _
  | aaddr len esz x y => exact b0_bind (b0_ev x) fun _ => b0_bind (b0_ev y) fun _ => b0_val _
  | sidx x y =>
    refine b0_bind (b0_ev x) fun v => b0_bind (b0_ev y) fun u => ?_
    split
    · refine b0_ite ?_ b0_fail
      split
      · exact b0_ret _
      · exact b0_fail
    · exact b0_fail
  | aidx agg len esz x y =>
    refine b0_bind (b0_ev x) fun v => b0_bind (b0_ev y) fun u => ?_
    split
    · exact b0_ite (b0_val _) b0_fail
    · exact b0_fail
  | extr x i => exact b0_bind (b0_ev x) fun _ => b0_val _
  | len str x => exact b0_bind (b0_ev x) fun _ => b0_val _
  | alen n => exact b0_ret _
  | mm mx x y => exact b0_bind (b0_ev x) fun _ => b0_bind (b0_ev y) fun _ => b0_val _
  | mkfn f a b => exact b0_bind (b0_evs a) fun _ => b0_bind (b0_evs b) fun _ => b0_ret _

theorem memT_W {op : AOp} (h : memT op = false) : memW op = false := by
  cases op <;> first | rfl | cases h | skip
  · rename_i k x; cases k <;> first | rfl | cases h
  · rename_i k x lo hi mx; cases k <;> first | rfl | cases h

theorem newOf_0 {op : AOp} (h : memW op = false) : newOf op = 0 := by
  cases op <;> first | rfl | cases h | skip
  rename_i k x; cases k <;> first | rfl | cases h

theorem w0_insR (F : Orc) (i : AIns) (new : Nat) (h : memW i.op = false) : W0 (insR F i new) := by
  have h1 : W0 (opD F i.op new) := w0_bind fun _ => w0_opR F _ _ h
  unfold insR
  split
  · exact h1
  · refine w0_slot fun v => ?_
    split
    · exact w0_ite h1 (w0_ret _)
    · exact w0_ret _
    · exact w0_fail

theorem b0_insR (F : Orc) (i : AIns) (new : Nat) (h : memT i.op = false) : B0 (insR F i new) := by
  have h1 : B0 (opD F i.op new) := by
    unfold opD
    rw [newOf_0 (memT_W h)]
    exact b0_bind (b0_ret _) fun _ => b0_opR F _ _ h
  unfold insR
  split
  · exact h1
  · refine b0_slot fun v => ?_
    split
    · exact b0_ite h1 (b0_ret _)
    · exact b0_ret _
    · exact b0_fail

end Go.Am
