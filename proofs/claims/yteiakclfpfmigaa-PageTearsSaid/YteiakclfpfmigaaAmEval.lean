/-
  The abstract machine: equations to evaluate it by.
-/
import Derived.Test.YteiakclfpfmigaaAmSnd3
set_option linter.unusedSimpArgs false
set_option linter.unusedVariables false
namespace Go.Am

@[congr] theorem thn_congr {o o' : Option Out} {k : St → Option Out} (h : o = o') : thn o k = thn o' k := by rw [h]
@[congr] theorem rbind_congr {α β : Type} {o o' : RM α} {f : α → RM β} (h : o = o') : o.bind f = o'.bind f := by rw [h]
@[congr] theorem obind_congr {α β : Type} {o o' : Option α} {f : α → Option β} (h : o = o') : o.bind f = o'.bind f := by rw [h]
@[simp] theorem thn_normal (s k) : thn (some (.normal, s)) k = k s := rfl
@[simp] theorem thn_exit (i s k) : thn (some (.exit i, s)) k = some (.exit i, s) := rfl
@[simp] theorem thn_ret (s k) : thn (some (.ret, s)) k = some (.ret, s) := rfl
@[simp] theorem thn_none (k) : thn none k = none := rfl

def thnN (o : Option Out) (k : St → Option Out) : Option Out :=
  match o with
  | some (.normal, s) => k s
  | _ => none

@[congr] theorem thnN_congr {o o' : Option Out} {k : St → Option Out} (h : o = o') : thnN o k = thnN o' k := by rw [h]
@[simp] theorem thnN_normal (s k) : thnN (some (.normal, s)) k = k s := rfl

def blo (id : Nat) (o : Option Out) : Option Out :=
  match o with
  | some (.exit k, s) => if k = id then some (.normal, s) else some (.exit k, s)
  | o => o

@[simp] theorem blo_normal (id s) : blo id (some (.normal, s)) = some (.normal, s) := rfl
@[simp] theorem blo_exit (id i s) : blo id (some (.exit i, s)) = if i = id then some (.normal, s) else some (.exit i, s) := rfl
@[simp] theorem blo_ret (id s) : blo id (some (.ret, s)) = some (.ret, s) := rfl
@[simp] theorem blo_none (id) : blo id none = none := rfl

def nrm (o : Option St) : Option Out := match o with
  | some s => some (.normal, s)
  | none => none

@[simp] theorem nrm_some (s) : nrm (some s) = some (.normal, s) := rfl
@[simp] theorem nrm_none : nrm none = none := rfl

def evv (x : Opd) (env : List (Nat × AV)) : Option AV := match x with
  | .t n => lk n env
  | .c v => some v

@[simp] theorem evv_t (n env) : evv (.t n) env = lk n env := rfl
@[simp] theorem evv_c (v env) : evv (.c v) env = some v := rfl

theorem run_ev (x : Opd) (s : St) : (ev x).run s = evv x s.env := by
  cases x with
  | t n => simp only [ev, RM.run, evv]; cases lk n s.env <;> rfl
  | c v => rfl

section
variable (T : Tabl)

@[simp ↓] theorem X_skip (s) : X T .skip s = some (.normal, s) := by rw [X_eq]; rfl
@[simp ↓] theorem X_seq (a b s) : X T (.seq a b) s = thn (X T a s) fun s => X T b s := by
  rw [X_eq]; simp only [step]
  cases X T a s with
  | none => rfl
  | some o => obtain ⟨e, s'⟩ := o; cases e <;> rfl
theorem X_reg (d ps ins s) : X T (.reg d ps ins) s = nrm (region (AF T) ps ins s) := by
  rw [X_eq]; simp only [step]
  show (match region (AF T) ps ins s with | some s' => some (AX.normal, s') | none => none) = _
  cases region (AF T) ps ins s <;> rfl

@[simp ↓] theorem X_reg0 (d ins env sto) : X T (.reg d [] ins) ⟨env, sto⟩ = nrm (runIns (AF T) ins sto.length ⟨env, room (news ins) sto⟩) := by
  rw [X_reg]; rfl

def cnd (x : Option AV) (a b : Option Out) (c : Unit → Option Out) : Option Out :=
  match x with
  | some (.p (.b x)) => if x = true then a else b
  | some .unk => c ()
  | _ => none
@[congr] theorem cnd_congr {x x' : Option AV} {a b : Option Out} {c : Unit → Option Out} (h : x = x') : cnd x a b c = cnd x' a b c := by rw [h]
@[simp] theorem cnd_b (x a b c) : cnd (some (.p (.b x))) a b c = if x = true then a else b := rfl
@[simp] theorem cnd_unk (a b c) : cnd (some .unk) a b c = c () := rfl

@[simp ↓] theorem X_cond (x a b s) : X T (.cond x a b) s = cnd (evv x s.env) (X T a s) (X T b s) fun _ => same (X T a s) (X T b s) := by
  rw [X_eq]; simp only [step, run_ev]
  cases evv x s.env with
  | none => rfl
  | some v =>
    cases v with
    | p c => cases c <;> rfl
    | _ => rfl
@[simp ↓] theorem X_block (id c s) : X T (.block id c) s = blo id (X T c s) := by
  rw [X_eq]; simp only [step]
  cases X T c s with
  | none => rfl
  | some o => obtain ⟨e, s'⟩ := o; cases e <;> rfl
@[simp ↓] theorem X_scope (c s) : X T (.scope c) s = X T c s := by rw [X_eq]; rfl
@[simp ↓] theorem X_exit (id s) : X T (.exit id) s = some (.exit id, s) := by rw [X_eq]; rfl
@[simp ↓] theorem X_ret (s) : X T .ret s = some (.ret, s) := by rw [X_eq]; rfl
@[simp ↓] theorem X_keep (live c s) : X T (.keep live c) s = X T c ⟨restr live s.env, s.sto⟩ := by rw [X_eq]; rfl
@[simp ↓] theorem X_br (live pre x a b rest s) : X T (.br live pre x a b rest) s = thnN (X T pre s) fun s1 =>
    cnd (evv x s1.env) (thn (X T a s1) fun s => X T rest s) (thn (X T b s1) fun s => X T rest s) fun _ =>
      same (cleanO s1.sto.length live (thn (X T a s1) fun s => X T rest s)) (cleanO s1.sto.length live (thn (X T b s1) fun s => X T rest s)) := by
  rw [X_eq]; simp only [step, run_ev]
  cases X T pre s with
  | none => rfl
  | some o =>
    obtain ⟨e, s1⟩ := o
    cases e with
    | normal =>
      dsimp only [thnN]
      cases evv x s1.env with
      | none => rfl
      | some v =>
        cases v with
        | p c => cases c <;> rfl
        | _ => rfl
    | exit => rfl
    | ret => rfl
@[simp ↓] theorem X_loop (live c env sto) : X T (.loop live c) ⟨env, sto⟩ = X T (.lp sto.length live c) ⟨restr live env, sto⟩ := by
  rw [X_eq]; simp [step, clean]
theorem X_lp (n live c s) : X T (.lp n live c) s = thn (X T c s) fun s => match clean n live s with
    | some s => X T (.lp n live c) s
    | none => none := by
  rw [X_eq]; simp only [step]
  cases X T c s with
  | none => rfl
  | some o => obtain ⟨e, s'⟩ := o; cases e <;> rfl

theorem clean_same (live env) (sto : List Blk) : clean sto.length live ⟨env, sto⟩ = some ⟨restr live env, sto⟩ := by simp [clean]

/-- A function's end. -/
def fino (res : List ARes) (fresh : Bool) (m : Nat) (o : Option Out) : Option Res :=
  match o with
  | some (.normal, s) => finish ⟨0, 0, .skip, res, fresh⟩ m s
  | some (.ret, s) => finish ⟨0, 0, .skip, res, fresh⟩ m s
  | _ => none
@[congr] theorem fino_congr {res : List ARes} {fresh : Bool} {m : Nat} {o o' : Option Out} (h : o = o') : fino res fresh m o = fino res fresh m o' := by rw [h]
@[simp] theorem fino_normal (res fresh m s) : fino res fresh m (some (.normal, s)) = finish ⟨0, 0, .skip, res, fresh⟩ m s := rfl
@[simp] theorem fino_ret (res fresh m s) : fino res fresh m (some (.ret, s)) = finish ⟨0, 0, .skip, res, fresh⟩ m s := rfl

theorem AF_fork {f : FuncId} {k : FkFn} (h : T f = some (.fork k)) (args blks) : AF T f args blks = if args.length = k.np then callK (X T) k args blks else none := by
  unfold AF callT; rw [h]

@[simp] theorem sameR_self (o : Option Res) : sameR o o = o := by unfold sameR; cases o <;> simp

theorem AF_fn {f : FuncId} {fn : AFn} (h : T f = some (.fn fn)) (args blks) : AF T f args blks = if args.length = fn.np then
    fino fn.res fn.fresh blks.length (X T fn.body ⟨enum 0 args, blks⟩)
  else none := by
  unfold AF callT; rw [h]; rfl

end

/-! ### Regions -/

variable {F : Orc} {env : List (Nat × AV)} {sto : List Blk} {new : Nat} {r : List AIns} {d : Nat}

@[simp] theorem runIns_nil (s) : runIns F [] new s = some s := rfl

theorem runIns_cons (i s) : runIns F (i :: r) new s = ((insR F i new).run s).bind fun e => runIns F r (new + newOf i.op) (put i.dst e s) := by
  simp only [runIns]; cases (insR F i new).run s <;> rfl

@[simp] theorem news_nil : news [] = 0 := rfl
@[simp ↓] theorem news_cons (i) : news (i :: r) = newOf i.op + news r := rfl
@[simp] theorem room_0 : room 0 sto = sto := rfl
@[simp] theorem room_succ (n) : room (n + 1) sto = sto ++ List.replicate (n + 1) .dead := rfl

@[simp] theorem lk_nil (n) : lk n [] = none := rfl
@[simp] theorem lk_cons (n m v) (r : List (Nat × AV)) : lk n ((m, v) :: r) = if n = m then some v else lk n r := rfl
attribute [simp ↓] runIns_cons insR opD deadR newOf run_bind run_ev opR
attribute [simp] put val evs evo ofCells ofPCells
  binP intP strP unP negB negU fz fz.fzL fz.fz1 fzs placeAll loadR storeR sub spl fieldP extrP lenP faddrP aaddrP iaddrR rowAt cutN boundOf sliceP sliceS sliceL rowsOf roomy appR mmP cellsOf unp fillAll partsR
  resR one enum undefV shiftP byteRow

@[simp] theorem same_self (o : Option Out) : same o o = o := by unfold same; cases o <;> simp

@[simp ↓] theorem run_ret {α : Type} (a : α) (s : St) : (RM.ret a).run s = some a := rfl
@[simp ↓] theorem run_fail {α : Type} (s : St) : (RM.fail : RM α).run s = none := rfl
@[simp ↓] theorem run_slot {α : Type} (n : Nat) (k : AV → RM α) (s : St) : (RM.slot n k).run s = (lk n s.env).bind fun v => (k v).run s := by simp only [RM.run]; cases lk n s.env <;> rfl
@[simp ↓] theorem run_blk {α : Type} (n : Nat) (k : Blk → RM α) (s : St) : (RM.blk n k).run s = (s.sto[n]?).bind fun v => (k v).run s := by simp only [RM.run]; cases s.sto[n]? <;> rfl
@[simp] theorem upd_nil : upd [] sto = sto := rfl
@[simp] theorem upd_cons (b x ws) : upd ((b, x) :: ws) sto = upd ws (sto.set b x) := rfl

@[simp] theorem restr_nil : restr [] env = [] := rfl
@[simp] theorem restr_cons (k l) : restr (k :: l) env = match lk k env with
    | some v => (k, v) :: restr l env
    | none => restr l env := rfl

end Go.Am

namespace Go.Am

/-! ### Calls with values alone -/

def plainA : AV → Bool
  | .p _ | .data _ | .cp _ _ | .unk => true
  | _ => false
@[simp] theorem plainA_p (c) : plainA (.p c) = true := rfl
@[simp] theorem plainA_data (c) : plainA (.data c) = true := rfl
@[simp] theorem plainA_cp (c o) : plainA (.cp c o) = true := rfl

theorem argsR_plain {s : St} : ∀ {args : List AV}, args.all plainA = true → (argsR args).run s = some (args, [])
  | [], _ => rfl
  | x :: r, h => by
    simp only [List.all_cons, Bool.and_eq_true] at h
    have := argsR_plain (s := s) h.2
    have h1 := h.1
    clear h
    cases x <;> simp [plainA] at h1 <;> simp [argsR, argR, this]

theorem ents_plain : ∀ {args : List AV} {l : List Ent}, args.all plainA = true → entsOf.entsOfL args l = l
  | [], l, _ => rfl
  | x :: r, l, h => by
    simp only [List.all_cons, Bool.and_eq_true] at h
    obtain ⟨h1, h2⟩ := h
    simp only [entsOf.entsOfL]
    cases x <;> simp [plainA] at h1 <;> simp only [entsOf] <;> exact ents_plain h2

theorem ren_plain {ρ : Ent → Option Nat} : ∀ {args : List AV}, args.all plainA = true → ren.renL ρ args = some args
  | [], _ => rfl
  | x :: r, h => by
    simp only [List.all_cons, Bool.and_eq_true] at h
    have := ren_plain (ρ := ρ) h.2
    have h1 := h.1
    clear h
    cases x <;> simp [plainA] at h1 <;> simp [ren.renL, ren, this]

theorem bk_plain {es : List Ent} {new : Nat} {x : AV} (h : plainA x = true) : bk es new x = some x := by
  cases x <;> simp [plainA] at h <;> rfl

theorem bkL_plain {es : List Ent} {new : Nat} : ∀ {xs : List AV}, xs.all plainA = true → bk.bkL es new xs = some xs
  | [], _ => rfl
  | x :: r, h => by
    simp only [List.all_cons, Bool.and_eq_true] at h
    simp [bk.bkL, bk_plain h.1, bkL_plain h.2]

/-- A call of values that answers values. -/
theorem callR_plain (F : Orc) (f : FuncId) {args : List AV} (new : Nat) (s : St) (h : args.all plainA = true) :
    (callR F f args 0 new).run s = match F f args [] with
      | some (v, []) => (bk [] new v).map fun v => ⟨v, []⟩
      | _ => none := by
  have e1 : entsOf.entsOfL args [] = [] := ents_plain h
  simp only [callR, run_bind, argsR_plain h, Option.bind_some, e1, extE, run_ret, List.map_nil, nodupB, if_true, ren_plain h, blksIn]
  cases F f args [] with
  | none => rfl
  | some r =>
    obtain ⟨v, bl⟩ := r
    cases bl with
    | nil =>
      simp only [List.length_nil, Nat.zero_add, if_true, List.drop_nil, blksNew, blksOut, run_bind, run_ret, Option.bind_some]
      cases bk [] new v <;> rfl
    | cons b bl => simp

@[simp] theorem bk_p (es new c) : bk es new (.p c) = some (.p c) := rfl
@[simp] theorem bk_data (es new c) : bk es new (.data c) = some (.data c) := rfl
@[simp] theorem bk_tup (es new l) : bk es new (.tup l) = (bk.bkL es new l).map .tup := by simp only [bk]; cases bk.bkL es new l <;> rfl
@[simp] theorem bkL_nil (es new) : bk.bkL es new [] = some [] := rfl
@[simp] theorem bkL_cons (es new x l) : bk.bkL es new (x :: l) = (bk es new x).bind fun y => (bk.bkL es new l).map fun l => y :: l := by
  simp only [bk.bkL]; cases bk es new x <;> simp; cases bk.bkL es new l <;> rfl

@[simp] theorem cleanO_none (n live) : cleanO n live none = none := rfl
@[simp] theorem cleanO_some (n live e s) : cleanO n live (some (e, s)) = (clean n live s).map fun s => (e, s) := by
  simp only [cleanO]; cases clean n live s <;> rfl

attribute [simp ↓] Option.bind_some Option.bind_none thn_normal thn_exit thn_ret thn_none thnN_normal nrm_some nrm_none cnd_b cnd_unk blo_normal blo_exit blo_ret blo_none fino_normal fino_ret runIns_nil lk_cons restr_cons upd_nil upd_cons
attribute [simp] clean finE finBs finB fin fin.finL finish outIds entsB entsOf entsOf.entsOfL addEnt nodupB pickB idxN unp

end Go.Am
