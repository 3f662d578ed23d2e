/-
  The abstract machine: a run with what is left to do.
-/
import Derived.Test.YteiakclfpfmigaaAmEval
set_option linter.unusedSimpArgs false
set_option linter.unusedVariables false
namespace Go.Am

/-! ### Frames -/

inductive Fr where
  | sq (b : ACode)
  | bl (id : Nat)
  | td (n : Nat) (live : List Nat)
  | lo (n : Nat) (live : List Nat) (c : ACode)

noncomputable def again (T : Tabl) (n : Nat) (live : List Nat) (c : ACode) (o : Option St) : Option Out := match o with
  | some s => X T (.lp n live c) s
  | none => none

/-- What a function answers, when a part of its code has ended so, and the frames are left. -/
noncomputable def rk (T : Tabl) (f : AFn) (m : Nat) : List Fr → Option Out → Option Res
  | [], o => fino f.res f.fresh m o
  | .sq b :: k, o => rk T f m k (thn o fun s => X T b s)
  | .bl id :: k, o => rk T f m k (blo id o)
  | .td n live :: k, o => rk T f m k (cleanO n live o)
  | .lo n live c :: k, o => rk T f m k (thn o fun s => again T n live c (clean n live s))

section
variable (T : Tabl) (f : AFn) (m : Nat) (k : List Fr)

theorem rk_none : rk T f m k none = none := by
  induction k with
  | nil => rfl
  | cons x k ih => cases x <;> exact ih

theorem rk_skip (s) : rk T f m k (X T .skip s) = rk T f m k (some (.normal, s)) := by rw [X_skip]
theorem rk_seq (a b s) : rk T f m k (X T (.seq a b) s) = rk T f m (.sq b :: k) (X T a s) := by rw [X_seq]; rfl
theorem rk_reg (d ins env sto) : rk T f m k (X T (.reg d [] ins) ⟨env, sto⟩) = rk T f m k (nrm (runIns (AF T) ins sto.length ⟨env, room (news ins) sto⟩)) := by rw [X_reg0]
theorem rk_block (id c s) : rk T f m k (X T (.block id c) s) = rk T f m (.bl id :: k) (X T c s) := by rw [X_block]; rfl
theorem rk_scope (c s) : rk T f m k (X T (.scope c) s) = rk T f m k (X T c s) := by rw [X_scope]
theorem rk_exit (id s) : rk T f m k (X T (.exit id) s) = rk T f m k (some (.exit id, s)) := by rw [X_exit]
theorem rk_ret (s) : rk T f m k (X T .ret s) = rk T f m k (some (.ret, s)) := by rw [X_ret]
theorem rk_keep (live c env sto) : rk T f m k (X T (.keep live c) ⟨env, sto⟩) = rk T f m k (X T c ⟨restr live env, sto⟩) := by rw [X_keep]
theorem X_tidy (live c s) : X T (.tidy live c) s = cleanO s.sto.length live (X T c s) := by rw [X_eq]; rfl
theorem rk_tidy (live c env sto) : rk T f m k (X T (.tidy live c) ⟨env, sto⟩) = rk T f m (.td sto.length live :: k) (X T c ⟨env, sto⟩) := by rw [X_tidy]; rfl
theorem rk_loop (live c env sto) : rk T f m k (X T (.loop live c) ⟨env, sto⟩) = rk T f m k (X T (.lp sto.length live c) ⟨restr live env, sto⟩) := by rw [X_loop]
theorem rk_lp (n live c s) : rk T f m k (X T (.lp n live c) s) = rk T f m (.lo n live c :: k) (X T c s) := by
  rw [X_lp]; simp only [rk]
  congr 2
theorem rk_cond (x a b env sto) : rk T f m k (X T (.cond x a b) ⟨env, sto⟩) = rk T f m k (cnd (evv x env) (X T a ⟨env, sto⟩) (X T b ⟨env, sto⟩) fun _ => same (X T a ⟨env, sto⟩) (X T b ⟨env, sto⟩)) := by rw [X_cond]
theorem cnd_t (a b c) : cnd (some (.p (.b true))) a b c = a := rfl
theorem cnd_f (a b c) : cnd (some (.p (.b false))) a b c = b := rfl

theorem rk_sq_n (b s) : rk T f m (.sq b :: k) (some (.normal, s)) = rk T f m k (X T b s) := rfl
theorem rk_sq_e (b i s) : rk T f m (.sq b :: k) (some (.exit i, s)) = rk T f m k (some (.exit i, s)) := rfl
theorem rk_sq_r (b s) : rk T f m (.sq b :: k) (some (.ret, s)) = rk T f m k (some (.ret, s)) := rfl
theorem rk_bl_n (i s) : rk T f m (.bl i :: k) (some (.normal, s)) = rk T f m k (some (.normal, s)) := rfl
theorem rk_bl_e (i j s) : rk T f m (.bl i :: k) (some (.exit j, s)) = if j = i then rk T f m k (some (.normal, s)) else rk T f m k (some (.exit j, s)) := by
  simp only [rk, blo_exit]; split <;> rfl
theorem rk_bl_r (i s) : rk T f m (.bl i :: k) (some (.ret, s)) = rk T f m k (some (.ret, s)) := rfl
theorem rk_td (n live e s) : rk T f m (.td n live :: k) (some (e, s)) = rk T f m k ((clean n live s).map fun s => (e, s)) := by simp only [rk, cleanO_some]
theorem rk_lo_n (n live c s) : rk T f m (.lo n live c :: k) (some (.normal, s)) = rk T f m k (again T n live c (clean n live s)) := rfl
theorem rk_again (n live c s) : rk T f m k (again T n live c (some s)) = rk T f m k (X T (.lp n live c) s) := rfl
theorem rk_lo_e (n live c i s) : rk T f m (.lo n live c :: k) (some (.exit i, s)) = rk T f m k (some (.exit i, s)) := rfl
theorem rk_lo_r (n live c s) : rk T f m (.lo n live c :: k) (some (.ret, s)) = rk T f m k (some (.ret, s)) := rfl
theorem rk_nil_n (s) : rk T f m [] (some (.normal, s)) = finish ⟨0, 0, .skip, f.res, f.fresh⟩ m s := rfl
theorem rk_nil_r (s) : rk T f m [] (some (.ret, s)) = finish ⟨0, 0, .skip, f.res, f.fresh⟩ m s := rfl

theorem AF_rk {g : FuncId} {f : AFn} (h : T g = some (.fn f)) {args blks} (hl : args.length = f.np) : AF T g args blks = rk T f blks.length [] (X T f.body ⟨enum 0 args, blks⟩) := by
  rw [AF_fn T h, if_pos hl]; rfl

end

/-! ### Loops -/

open Classical in
/-- A loop: rounds until one ends it. -/
noncomputable def whileO {σ ρ : Type} (f : σ → Option (σ ⊕ ρ)) (s : σ) : Option ρ :=
  let it : Nat → σ → Option ρ := fun n => n.rec (fun _ => none) fun _ ih s => match f s with
    | some (.inl s') => ih s'
    | some (.inr r) => some r
    | none => none
  if h : ∃ n r, it n s = some r then it (Classical.choose h) s else none

def iterO {σ ρ : Type} (f : σ → Option (σ ⊕ ρ)) : Nat → σ → Option ρ
  | 0, _ => none
  | n + 1, s => match f s with
    | some (.inl s') => iterO f n s'
    | some (.inr r) => some r
    | none => none

section
variable {σ ρ : Type} {f : σ → Option (σ ⊕ ρ)}

theorem iter_eq (n : Nat) : ∀ s : σ, (Nat.rec (motive := fun _ => σ → Option ρ) (fun _ => none) (fun _ ih s => match f s with
    | some (.inl s') => ih s'
    | some (.inr r) => some r
    | none => none) n) s = iterO f n s := by
  induction n with
  | zero => intro s; rfl
  | succ n ih => intro s; simp only [iterO]; split <;> first | rfl | exact ih _

theorem iter_mono : ∀ {n : Nat} {s : σ} {r : ρ} (m : Nat), iterO f n s = some r → iterO f (n + m) s = some r
  | 0, _, _, _, h => by cases h
  | n + 1, s, r, m, h => by
    rw [show n + 1 + m = (n + m) + 1 by omega]
    simp only [iterO] at h ⊢
    split at h
    · exact iter_mono m h
    · exact h
    · cases h

theorem iter_det {n m : Nat} {s : σ} {r r' : ρ} (h : iterO f n s = some r) (h' : iterO f m s = some r') : r = r' := by
  have a := iter_mono m h
  have b := iter_mono n h'
  rw [Nat.add_comm m n] at b
  rw [a] at b; injection b

theorem while_iff {s : σ} {r : ρ} : whileO f s = some r ↔ ∃ n, iterO f n s = some r := by
  unfold whileO
  dsimp only
  constructor
  · intro h
    split at h
    · exact ⟨_, by rw [← iter_eq]; exact h⟩
    · cases h
  · rintro ⟨n, h⟩
    have hex : ∃ n r, (Nat.rec (motive := fun _ => σ → Option ρ) (fun _ => none) (fun _ ih s => match f s with
      | some (.inl s') => ih s'
      | some (.inr r) => some r
      | none => none) n) s = some r := ⟨n, r, by rw [iter_eq]; exact h⟩
    rw [dif_pos hex]
    obtain ⟨r', hr⟩ := Classical.choose_spec hex
    rw [hr]
    rw [iter_eq] at hr
    rw [iter_det hr h]

theorem while_done {s : σ} {r : ρ} (h : f s = some (.inr r)) : whileO f s = some r := while_iff.2 ⟨1, by simp only [iterO, h]⟩

theorem while_next {s s' : σ} (h : f s = some (.inl s')) : whileO f s = whileO f s' := by
  have key : ∀ r, whileO f s = some r ↔ whileO f s' = some r := by
    intro r
    rw [while_iff, while_iff]
    constructor
    · rintro ⟨n, hn⟩
      cases n with
      | zero => cases hn
      | succ n => simp only [iterO, h] at hn; exact ⟨n, hn⟩
    · rintro ⟨n, hn⟩
      exact ⟨n + 1, by simp only [iterO, h]; exact hn⟩
  cases hs : whileO f s with
  | some r => exact ((key r).1 hs).symm
  | none =>
    cases hs' : whileO f s' with
    | none => rfl
    | some r => rw [(key r).2 hs'] at hs; cases hs

theorem while_none {s : σ} (h : f s = none) : whileO f s = none := by
  cases hs : whileO f s with
  | none => rfl
  | some r =>
    obtain ⟨n, hn⟩ := while_iff.1 hs
    cases n with
    | zero => cases hn
    | succ n => simp only [iterO, h] at hn; cases hn

theorem while_eq (s : σ) : whileO f s = match f s with
    | some (.inl s') => whileO f s'
    | some (.inr r) => some r
    | none => none := by
  split
  · rename_i h; exact while_next h
  · rename_i h; exact while_done h
  · rename_i h; exact while_none h

theorem while_ind {P : σ → ρ → Prop} (h1 : ∀ s r, f s = some (.inr r) → P s r) (h2 : ∀ s s' r, f s = some (.inl s') → P s' r → P s r) {s : σ} {r : ρ} (h : whileO f s = some r) : P s r := by
  obtain ⟨n, hn⟩ := while_iff.1 h
  clear h
  induction n generalizing s with
  | zero => cases hn
  | succ n ih =>
    simp only [iterO] at hn
    split at hn
    · rename_i h; exact h2 _ _ _ h (ih hn)
    · rename_i h; injection hn with hn; subst hn; exact h1 _ _ h
    · cases hn

end

theorem ite_inv {α : Type} {c : Bool} {A B : Option α} {o : α} (h : (if c = true then A else B) = some o) : (c = true ∧ A = some o) ∨ (c = false ∧ B = some o) := by
  cases c with
  | true => exact .inl ⟨rfl, h⟩
  | false => exact .inr ⟨rfl, h⟩

end Go.Am
