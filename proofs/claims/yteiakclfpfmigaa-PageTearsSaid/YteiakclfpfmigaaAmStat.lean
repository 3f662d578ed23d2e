/-
  The abstract machine: which slots an operation names, whether it touches blocks: by its text.
-/
import Derived.Test.YteiakclfpfmigaaAmOrd
set_option linter.unusedSimpArgs false
set_option linter.unusedVariables false
namespace Go.Am

def oSl : Opd → List Nat
  | .t n => [n]
  | .c _ => []

def oSls : List Opd → List Nat
  | [] => []
  | x :: r => oSl x ++ oSls r

def ooSl : Option Opd → List Nat
  | none => []
  | some x => oSl x

def slotsOp : AOp → List Nat
  | .mv x | .box _ x | .appn _ _ _ x | .load _ _ x | .nilchk x | .un _ x | .conv _ x | .faddr _ x | .field _ _ _ x | .extr x _ | .len _ x => oSl x
  | .mkarr _ _ | .newbox _ | .alen _ => []
  | .pick c a b => oSl c ++ (oSl a ++ oSl b)
  | .build _ parts => oSls (parts.map (·.2.2))
  | .lits _ _ _ _ parts => oSls (parts.map (·.2))
  | .store _ x v => oSl x ++ oSl v
  | .bin _ _ x y | .iaddr _ x y | .aaddr _ _ x y | .sidx x y | .aidx _ _ _ x y | .app _ _ _ x y | .mm _ x y | .mkslice _ _ _ _ x y => oSl x ++ oSl y
  | .slice _ x lo hi mx => oSl x ++ (ooSl lo ++ (ooSl hi ++ ooSl mx))
  | .call _ args _ => oSls args
  | .callv g args _ => oSl g ++ oSls args
  | .mkfn _ a b => oSls a ++ oSls b

def slotsIns (i : AIns) : List Nat := slotsOp i.op ++ match i.g with
  | some (g, _) => [g]
  | none => []

/-- May it set blocks? -/
def memW : AOp → Bool
  | .mkarr _ _ | .newbox _ | .box _ _ | .lits _ _ _ _ _ | .store _ _ _ | .conv (.toBytes _) _ | .mkslice _ _ _ _ _ _ | .slice (.sl _) _ _ _ _ | .call _ _ _ | .callv _ _ _ | .app _ _ _ _ _ | .appn _ _ _ _ => true
  | _ => false

/-- May it touch blocks? -/
def memT : AOp → Bool
  | .load _ _ _ | .iaddr _ _ _ | .conv .toStr _ => true
  | op => memW op

def Sl {α : Type} (L : List Nat) (m : RM α) : Prop := ∀ s n, Loc.slot n ∈ m.reads s → n ∈ L

section
variable {α β : Type} {L : List Nat}

theorem sl_ret (a : α) : Sl L (.ret a) := fun s n h => by simp [RM.reads] at h
theorem sl_fail : Sl L (.fail : RM α) := fun s n h => by simp [RM.reads] at h
theorem sl_blk {b : Nat} {k : Blk → RM α} (h : ∀ v, Sl L (k v)) : Sl L (.blk b k) := fun s n hn => by
  simp only [RM.reads, List.mem_cons] at hn
  rcases hn with hn | hn
  · cases hn
  · split at hn
    · exact h _ s n hn
    · simp at hn
theorem sl_slot {m : Nat} {k : AV → RM α} (hm : m ∈ L) (h : ∀ v, Sl L (k v)) : Sl L (.slot m k) := fun s n hn => by
  simp only [RM.reads, List.mem_cons] at hn
  rcases hn with hn | hn
  · cases hn; exact hm
  · split at hn
    · exact h _ s n hn
    · simp at hn
theorem sl_bind {m : RM α} {f : α → RM β} (h : Sl L m) (hf : ∀ a, Sl L (f a)) : Sl L (m.bind f) := fun s n hn => by
  rw [reads_bind, List.mem_append] at hn
  rcases hn with hn | hn
  · exact h s n hn
  · cases hr : m.run s with
    | none => simp [hr] at hn
    | some a => simp [hr] at hn; exact hf a s n hn
theorem sl_mono {L' : List Nat} {m : RM α} (h : Sl L m) (hl : ∀ x ∈ L, x ∈ L') : Sl L' m := fun s n hn => hl n (h s n hn)
theorem sl_ite {c : Prop} [Decidable c] {x y : RM α} (hx : Sl L x) (hy : Sl L y) : Sl L (if c then x else y) := by split <;> assumption
end

theorem sl_ev {L : List Nat} (x : Opd) (h : ∀ n ∈ oSl x, n ∈ L) : Sl L (ev x) := by
  cases x with
  | t n => exact sl_slot (h n (by simp [oSl])) fun v => sl_ret v
  | c v => exact sl_ret v

theorem sl_evs {L : List Nat} : ∀ (xs : List Opd), (∀ n ∈ oSls xs, n ∈ L) → Sl L (evs xs)
  | [], _ => sl_ret _
  | x :: xs, h => sl_bind (sl_ev x fun n hn => h n (by simp [oSls, hn])) fun v => sl_bind (sl_evs xs fun n hn => h n (by simp [oSls, hn])) fun vs => sl_ret _

theorem sl_evo {L : List Nat} (x : Option Opd) (h : ∀ n ∈ ooSl x, n ∈ L) : Sl L (evo x) := by
  cases x with
  | none => exact sl_ret _
  | some x => exact sl_bind (sl_ev x h) fun v => sl_ret _

theorem sl_val {L : List Nat} (x : Option AV) : Sl L (val x) := by cases x <;> first | exact sl_fail | exact sl_ret _

theorem sl_fz1 {L : List Nat} (x : AV) : Sl L (fz.fz1 x) := by
  cases x <;> try exact sl_fail
  · exact sl_ret _
  · refine sl_blk fun v => ?_
    cases v <;> first | exact sl_fail | exact sl_ite (sl_ret _) sl_fail

theorem sl_fzL {L : List Nat} : ∀ (xs : List AV), Sl L (fz.fzL xs)
  | [] => sl_ret _
  | x :: xs => sl_bind (sl_fz1 x) fun _ => sl_bind (sl_fzL xs) fun _ => sl_ret _

theorem sl_fz {L : List Nat} (x : AV) : Sl L (fz x) := by
  cases x <;> try first | exact sl_fail | exact sl_ret _
  · exact sl_fzL _
  · refine sl_blk fun v => ?_
    cases v <;> first | exact sl_fail | exact sl_ite (sl_ret _) sl_fail

theorem sl_fzs {L : List Nat} : ∀ (xs : List Opd), (∀ n ∈ oSls xs, n ∈ L) → Sl L (fzs xs)
  | [], _ => sl_ret _
  | x :: xs, h => sl_bind (sl_ev x fun n hn => h n (by simp [oSls, hn])) fun v => sl_bind (sl_fz v) fun _ => sl_bind (sl_fzs xs fun n hn => h n (by simp [oSls, hn])) fun _ => sl_ret _

theorem sl_rowsOf {L : List Nat} (esz : Nat) (x : AV) : Sl L (rowsOf esz x) := by
  unfold rowsOf
  split
  · exact sl_ite (sl_ret _) sl_fail
  · exact sl_ite (sl_ret _) sl_fail
  · refine sl_blk fun v => ?_
    cases v <;> first | exact sl_fail | exact sl_ite (sl_ret _) sl_fail
  · exact sl_fail

theorem sl_loadR {L : List Nat} (agg : Bool) (size : Nat) (x : AV) : Sl L (loadR agg size x) := by
  unfold loadR
  split
  · split
    · exact sl_val _
    · exact sl_fail
  · refine sl_blk fun v => ?_
    cases v <;> try exact sl_fail
    dsimp only
    split
    · exact sl_val _
    · exact sl_fail
  · refine sl_blk fun v => ?_
    cases v <;> try exact sl_fail
    dsimp only
    refine sl_ite ?_ sl_fail
    split
    · split
      · exact sl_val _
      · exact sl_fail
    · exact sl_fail
  · exact sl_fail

theorem sl_storeR {L : List Nat} (size : Nat) (x v : AV) : Sl L (storeR size x v) := by
  unfold storeR
  split
  · refine sl_blk fun v => ?_
    cases v <;> try exact sl_fail
    dsimp only
    split
    · refine sl_ite ?_ sl_fail
      split
      · exact sl_ret _
      · exact sl_fail
    · exact sl_fail
  · refine sl_blk fun v => ?_
    cases v with
    | arr w esz rows =>
      cases w
      · exact sl_fail
      · dsimp only
        refine sl_ite ?_ sl_fail
        split
        · refine sl_bind (sl_fz _) fun _ => sl_ite ?_ sl_fail
          split
          · exact sl_ret _
          · exact sl_fail
        · exact sl_fail
    | _ => exact sl_fail
  · exact sl_fail

theorem sl_iaddrR {L : List Nat} (esz : Nat) (x i : AV) : Sl L (iaddrR esz x i) := by
  unfold iaddrR
  split
  · refine sl_ite ?_ sl_fail
    split
    · exact sl_ret _
    · exact sl_fail
  · refine sl_blk fun v => ?_
    cases v <;> first | exact sl_fail | exact sl_ite (sl_ret _) sl_fail
  · exact sl_fail

theorem sl_appR {L : List Nat} (esz bytes : Nat) (x y : AV) : Sl L (appR esz bytes x y) := by
  unfold appR
  split
  · refine sl_blk fun v => ?_
    cases v <;> try exact sl_fail
    exact sl_bind (sl_rowsOf _ _) fun _ => sl_ite (sl_ret _) sl_fail
  · exact sl_fail

theorem sl_getB {L : List Nat} (ws : List (Nat × Blk)) (b : Nat) : Sl L (getB ws b) :=
  sl_blk fun v => by split <;> exact sl_ret _

theorem sl_extE {L : List Nat} (ws : List (Nat × Blk)) : ∀ (es acc : List Ent), Sl L (extE ws es acc)
  | [], acc => sl_ret _
  | .whole b :: r, acc => sl_bind (sl_getB ws b) fun v => by cases v <;> exact sl_extE ws r _
  | .elem b e i :: r, acc => sl_extE ws r acc

theorem sl_argR {L : List Nat} (x : AV) : Sl L (argR x) := by
  cases x <;> try first | exact sl_fail | exact sl_ret _
  · exact sl_bind (sl_fz _) fun _ => sl_ret _
  · refine sl_bind (sl_fz _) fun a => ?_
    split
    · exact sl_ret _
    · exact sl_fail

theorem sl_argsR {L : List Nat} : ∀ (xs : List AV), Sl L (argsR xs)
  | [] => sl_ret _
  | x :: xs => sl_bind (sl_argR x) fun _ => sl_bind (sl_argsR xs) fun _ => sl_ret _

theorem sl_blkIn {L : List Nat} (ws : List (Nat × Blk)) (ρ : Ent → Option Nat) (e : Ent) : Sl L (blkIn ws ρ e) := by
  cases e with
  | whole b =>
    refine sl_bind (sl_getB ws b) fun v => ?_
    cases v
    · exact sl_fail
    · dsimp only
      split
      · exact sl_ret _
      · exact sl_fail
    · exact sl_ret _
  | elem b e i =>
    refine sl_bind (sl_getB ws b) fun v => ?_
    cases v with
    | arr w esz rows =>
      cases w
      · exact sl_fail
      · dsimp only
        refine sl_ite ?_ sl_fail
        split
        · exact sl_ret _
        · exact sl_fail
    | _ => exact sl_fail

theorem sl_blksIn {L : List Nat} (ws : List (Nat × Blk)) (ρ : Ent → Option Nat) : ∀ (es : List Ent), Sl L (blksIn ws ρ es)
  | [] => sl_ret _
  | e :: r => sl_bind (sl_blkIn ws ρ e) fun _ => sl_bind (sl_blksIn ws ρ r) fun _ => sl_ret _

theorem sl_blkOut {L : List Nat} (ws : List (Nat × Blk)) (es : List Ent) (new : Nat) (e : Ent) (x : Blk) : Sl L (blkOut ws es new e x) := by
  unfold blkOut
  split
  · split
    · exact sl_ret _
    · exact sl_fail
  · exact sl_ret _
  · refine sl_bind (sl_getB ws _) fun v => ?_
    cases v <;> try exact sl_fail
    dsimp only
    split
    · exact sl_ret _
    · exact sl_fail
  · exact sl_fail

theorem sl_blksOut {L : List Nat} (ws : List (Nat × Blk)) (es : List Ent) (new : Nat) : ∀ (e : List Ent) (x : List Blk), Sl L (blksOut ws es new e x)
  | [], _ => sl_ret _
  | _ :: _, [] => sl_fail
  | e :: r, x :: l => sl_bind (sl_blkOut ws es new e x) fun _ => sl_bind (sl_blksOut ws es new r l) fun _ => sl_ret _

theorem sl_callR {L : List Nat} (F : Orc) (f : FuncId) (args : List AV) (k new : Nat) : Sl L (callR F f args k new) := by
  unfold callR
  refine sl_bind (sl_argsR _) fun a => sl_bind (sl_extE _ _ _) fun es1 => sl_bind (sl_extE _ _ _) fun es => sl_ite ?_ sl_fail
  split
  · exact sl_fail
  · refine sl_bind (sl_blksIn _ _ _) fun blks => ?_
    split
    · exact sl_fail
    · refine sl_ite ?_ sl_fail
      split
      · exact sl_bind (sl_blksOut _ _ _ _ _) fun _ => sl_ret _
      · exact sl_fail

theorem sl_partsR {L : List Nat} : ∀ (xs : List (Nat × Nat × Opd)), (∀ n ∈ oSls (xs.map (·.2.2)), n ∈ L) → Sl L (partsR xs)
  | [], _ => sl_ret _
  | (a, b, x) :: xs, h => by
    unfold partsR
    refine sl_bind (sl_ev x fun n hn => h n (by simp [oSls, hn])) fun v => ?_
    split
    · exact sl_bind (sl_partsR xs fun n hn => h n (by simp [oSls, hn])) fun _ => sl_ret _
    · exact sl_fail

theorem sl_opR (F : Orc) (op : AOp) (new : Nat) : Sl (slotsOp op) (opR F op new) := by
  cases op with
  | mv x => exact sl_bind (sl_ev x fun n h => h) fun v => sl_ret _
  | mkarr => exact sl_ret _
  | appn esz bytes zero y => exact sl_bind (sl_ev y fun n h => h) fun v => sl_bind (sl_rowsOf _ _) fun _ => sl_ite (sl_ret _) sl_fail
  | pick c a b =>
    refine sl_bind (sl_ev c fun n h => by simp [slotsOp, h]) fun v => ?_
    cases v with
    | p q => cases q with
      | b x => exact sl_ite (sl_bind (sl_ev a fun n h => by simp [slotsOp, h]) fun _ => sl_ret _) (sl_bind (sl_ev b fun n h => by simp [slotsOp, h]) fun _ => sl_ret _)
      | _ => exact sl_fail
    | _ => exact sl_fail
  | newbox => exact sl_ret _
  | box size x =>
    refine sl_bind (sl_ev x fun n h => h) fun v => ?_
    split
    · exact sl_ite (sl_ret _) sl_fail
    · exact sl_fail
  | build zero parts =>
    refine sl_bind (sl_partsR parts fun n h => h) fun v => ?_
    split
    · exact sl_val _
    · exact sl_fail
  | lits own esz n zero parts =>
    refine sl_bind (sl_fzs _ fun n h => h) fun v => ?_
    split
    · exact sl_ite (sl_ret _) (sl_ret _)
    · exact sl_fail
  | load agg size x => exact sl_bind (sl_ev x fun n h => h) fun v => sl_loadR _ _ _
  | store size x y => exact sl_bind (sl_ev x fun n h => by simp [slotsOp, h]) fun v => sl_bind (sl_ev y fun n h => by simp [slotsOp, h]) fun _ => sl_storeR _ _ _
  | nilchk x =>
    refine sl_bind (sl_ev x fun n h => h) fun v => ?_
    cases v <;> first | exact sl_ret _ | exact sl_fail
  | bin op t x y => exact sl_bind (sl_ev x fun n h => by simp [slotsOp, h]) fun v => sl_bind (sl_ev y fun n h => by simp [slotsOp, h]) fun _ => sl_val _
  | un op x => exact sl_bind (sl_ev x fun n h => h) fun v => sl_val _
  | conv k x =>
    refine sl_bind (sl_ev x fun n h => h) fun v => ?_
    split
    · exact sl_ret _
    · exact sl_ret _
    · refine sl_bind (sl_rowsOf _ _) fun _ => ?_
      split
      · exact sl_ret _
      · exact sl_fail
    · exact sl_ite (sl_ret _) (sl_ret _)
    · exact sl_fail
  | mkslice own esz bytes zero x y =>
    refine sl_bind (sl_ev x fun n h => by simp [slotsOp, h]) fun v => sl_bind (sl_ev y fun n h => by simp [slotsOp, h]) fun u => ?_
    split
    · exact sl_ite (sl_ite (sl_ret _) (sl_ret _)) sl_fail
    · exact sl_fail
  | slice k x lo hi mx =>
    refine sl_bind (sl_ev x fun n h => by simp [slotsOp, h]) fun v => sl_bind (sl_evo lo fun n h => by simp [slotsOp, h]) fun _ => sl_bind (sl_evo hi fun n h => by simp [slotsOp, h]) fun _ => sl_bind (sl_evo mx fun n h => by simp [slotsOp, h]) fun _ => ?_
    split
    · refine sl_bind (sl_fz _) fun _ => ?_
      split
      · split
        · exact sl_ret _
        · exact sl_fail
      · exact sl_fail
    · exact sl_val _
  | faddr off x => exact sl_bind (sl_ev x fun n h => h) fun v => sl_val _
  | field agg off size x => exact sl_bind (sl_ev x fun n h => h) fun v => sl_val _
  | iaddr esz x y => exact sl_bind (sl_ev x fun n h => by simp [slotsOp, h]) fun v => sl_bind (sl_ev y fun n h => by simp [slotsOp, h]) fun _ => sl_iaddrR _ _ _
  | aaddr len esz x y => exact sl_bind (sl_ev x fun n h => by simp [slotsOp, h]) fun v => sl_bind (sl_ev y fun n h => by simp [slotsOp, h]) fun _ => sl_val _
  | sidx x y =>
    refine sl_bind (sl_ev x fun n h => by simp [slotsOp, h]) fun v => sl_bind (sl_ev y fun n h => by simp [slotsOp, h]) fun u => ?_
    split
    · refine sl_ite ?_ sl_fail
      split
      · exact sl_ret _
      · exact sl_fail
    · exact sl_fail
  | aidx agg len esz x y =>
    refine sl_bind (sl_ev x fun n h => by simp [slotsOp, h]) fun v => sl_bind (sl_ev y fun n h => by simp [slotsOp, h]) fun u => ?_
    split
    · exact sl_ite (sl_val _) sl_fail
    · exact sl_fail
  | extr x i => exact sl_bind (sl_ev x fun n h => h) fun v => sl_val _
  | call f args k => exact sl_bind (sl_evs args fun n h => h) fun v => sl_callR _ _ _ _ _
  | callv g args k =>
    refine sl_bind (sl_ev g fun n h => by simp [slotsOp, h]) fun v => ?_
    cases v <;> try exact sl_fail
    exact sl_bind (sl_evs args fun n h => by simp [slotsOp, h]) fun _ => sl_callR _ _ _ _ _
  | len str x => exact sl_bind (sl_ev x fun n h => h) fun v => sl_val _
  | alen n => exact sl_ret _
  | app esz bytes zero x y => exact sl_bind (sl_ev x fun n h => by simp [slotsOp, h]) fun v => sl_bind (sl_ev y fun n h => by simp [slotsOp, h]) fun _ => sl_appR _ _ _ _
  | mm mx x y => exact sl_bind (sl_ev x fun n h => by simp [slotsOp, h]) fun v => sl_bind (sl_ev y fun n h => by simp [slotsOp, h]) fun _ => sl_val _
  | mkfn f a b => exact sl_bind (sl_evs a fun n h => by simp [slotsOp, h]) fun v => sl_bind (sl_evs b fun n h => by simp [slotsOp, h]) fun _ => sl_ret _

theorem sl_deadR {L : List Nat} : ∀ (k new : Nat), Sl L (deadR new k)
  | 0, _ => sl_ret _
  | k + 1, new => sl_blk fun v => by cases v <;> first | exact sl_deadR k _ | exact sl_fail

theorem sl_insR (F : Orc) (i : AIns) (new : Nat) : Sl (slotsIns i) (insR F i new) := by
  have h : Sl (slotsIns i) (opD F i.op new) := sl_bind (sl_deadR _ _) fun _ => sl_mono (sl_opR F i.op new) fun x hx => by simp [slotsIns, hx]
  unfold insR
  split
  · exact h
  · rename_i g want hg
    refine sl_slot (by simp [slotsIns, hg]) fun v => ?_
    split
    · exact sl_ite h (sl_ret _)
    · exact sl_ret _
    · exact sl_fail

end Go.Am
