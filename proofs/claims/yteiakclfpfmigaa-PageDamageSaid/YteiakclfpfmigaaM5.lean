/-
  Parts of a proof: AmEv.
-/
import Derived.Test.YteiakclfpfmigaaM4
set_option linter.unusedSimpArgs false
set_option linter.unusedVariables false

section
namespace Go.Am

@[congr] theorem rk_congr {T : Tabl} {f : AFn} {m : Nat} {k : List Fr} {o o' : Option Out} (h : o = o') : rk T f m k o = rk T f m k o' := by rw [h]

def tdn (e : AX) (o : Option St) : Option Out := match o with
  | some s => some (e, s)
  | none => none

def fin2 (fresh : Bool) (m : Nat) (vs : List AV) (sto : List Blk) (ids : List Nat) : Option Res :=
  if nodupB ids = true then (fin.finL m ids sto vs).bind fun ws => (finBs m ids sto (sto.take m)).bind fun l => (pickB sto ids).bind fun q => (finBs m ids sto q).bind fun q => some (one ws, l ++ q) else none

def fin1 (res : List ARes) (fresh : Bool) (m : Nat) (s : St) : Option Res :=
  ((resR res).run s).bind fun vs => if s.sto.length = m then some (one vs, s.sto) else fin2 fresh m vs s.sto (outIds m fresh s.sto (entsB s.sto (entsOf.entsOfL vs []) (entsOf.entsOfL vs [])))

theorem finish_fin1 (res : List ARes) (fresh : Bool) (m : Nat) (s : St) : finish ⟨0, 0, .skip, res, fresh⟩ m s = fin1 res fresh m s := by
  unfold finish fin1
  dsimp only
  cases (resR res).run s with
  | none => rfl
  | some vs =>
    simp only [Option.bind_some]
    split
    · rfl
    · unfold fin2
      split
      · generalize outIds m fresh s.sto _ = ids
        cases fin.finL m ids s.sto vs <;> cases finBs m ids s.sto (s.sto.take m) <;> cases pickB s.sto ids <;> try rfl
        rename_i q
        simp only [Option.bind_some]
        cases finBs m ids s.sto q <;> rfl
      · rfl

theorem rk_fin1 (T : Tabl) (f : AFn) (m : Nat) (s : St) : rk T f m [] (some (.normal, s)) = fin1 f.res f.fresh m s := (rk_nil_n T f m s).trans (finish_fin1 ..)
theorem rk_fin1r (T : Tabl) (f : AFn) (m : Nat) (s : St) : rk T f m [] (some (.ret, s)) = fin1 f.res f.fresh m s := (rk_nil_r T f m s).trans (finish_fin1 ..)

def dds {α : Type} (n new : Nat) (sto : List Blk) (o : Option α) : Option α := match (deadR new n).run ⟨[], sto⟩ with
  | some _ => o
  | none => none

def dd1 {α : Type} (b : Option Blk) (o : Option α) : Option α := match b with
  | some .dead => o
  | _ => none

@[congr] theorem dd1_congr {α : Type} {b b' : Option Blk} {o : Option α} (h : b = b') : dd1 b o = dd1 b' o := by rw [h]

theorem dds1 {α : Type} (new : Nat) (sto : List Blk) (o : Option α) : dds 1 new sto o = dd1 sto[new]? o := by
  unfold dds dd1
  simp only [deadR, RM.run]
  cases sto[new]? with
  | none => rfl
  | some b => cases b <;> rfl

section
variable {F : Orc} {r : List AIns} {new d : Nat} {env : List (Nat × AV)} {sto : List Blk}

theorem dead_env (n : Nat) : ∀ new, (deadR new n).run ⟨env, sto⟩ = (deadR new n).run ⟨[], sto⟩ := by
  induction n with
  | zero => intro new; rfl
  | succ n ih =>
    intro new
    simp only [deadR, RM.run]
    cases sto[new]? with
    | none => rfl
    | some b => cases b <;> first | exact ih _ | rfl

def lgA (l : Option Log) (a b : List Nat) : Option Log := l.map (· ++ [(a, b)])

/-- The blocks that an operation reads. -/
def rdO (F : Orc) (op : AOp) (new : Nat) (s : St) : List Nat := blksOf ((opD F op new).reads s)

abbrev GR := Option (St × Option Log)

/-- A region, with a log of what was read and written where one is kept. -/
def runG (F : Orc) : List AIns → Nat → St → Option Log → GR
  | [], _, s, l => some (s, l)
  | i :: r, new, s, l => match (insR F i new).run s with
    | some e => runG F r (new + newOf i.op) (put i.dst e s) (lgA l (blksOf ((insR F i new).reads s)) (e.ws.map (·.1)))
    | none => none

theorem runG_none (F : Orc) (ins : List AIns) : ∀ new s, runG F ins new s none = (runIns F ins new s).map fun s => (s, none) := by
  induction ins with
  | nil => intro new s; rfl
  | cons i r ih =>
    intro new s
    simp only [runG, runIns]
    cases (insR F i new).run s with
    | none => rfl
    | some e => exact ih _ _

theorem runG_log (F : Orc) (ins : List AIns) : ∀ new s l, runG F ins new s (some l) = (runLog F ins new s l).map fun x => (x.1, some x.2) := by
  induction ins with
  | nil => intro new s l; rfl
  | cons i r ih =>
    intro new s l
    simp only [runG, runLog]
    cases (insR F i new).run s with
    | none => rfl
    | some e => exact ih _ _ _

def endG (o : GR) : Option Out := match o with
  | some (s, _) => some (.normal, s)
  | none => none

def endP (ps : List (Nat × Nat)) (o : GR) : Option Out := match o with
  | some (s, some l) => if pairsOk l ps = true then some (.normal, s) else none
  | _ => none

theorem rk_regG (T : Tabl) (f : AFn) (m : Nat) (k : List Fr) (d ins env sto) : rk T f m k (X T (.reg d [] ins) ⟨env, sto⟩) = rk T f m k (endG (runG (AF T) ins sto.length ⟨env, room (news ins) sto⟩ none)) := by
  rw [rk_reg, runG_none]
  cases runIns (AF T) ins sto.length ⟨env, room (news ins) sto⟩ <;> rfl

theorem rk_regP (T : Tabl) (f : AFn) (m : Nat) (k : List Fr) (d p ps ins env sto) : rk T f m k (X T (.reg d (p :: ps) ins) ⟨env, sto⟩) = rk T f m k (endP (p :: ps) (runG (AF T) ins sto.length ⟨env, room (news ins) sto⟩ (some []))) := by
  rw [X_reg, runG_log]
  simp only [region]
  cases runLog (AF T) ins sto.length ⟨env, room (news ins) sto⟩ [] with
  | none => rfl
  | some x =>
    obtain ⟨s, l⟩ := x
    simp only [Option.map_some, endP]
    split <;> rfl

theorem stD {lg : Option Log} (op : AOp) : runG F (⟨op, some d, none⟩ :: r) new ⟨env, sto⟩ lg = dds (newOf op) new sto (((opR F op new).run ⟨env, sto⟩).bind fun e => runG F r (new + newOf op) ⟨(d, e.val) :: env, upd e.ws sto⟩ (lgA lg (rdO F op new ⟨env, sto⟩) (e.ws.map (·.1)))) := by
  have e0 : (insR F ⟨op, some d, none⟩ new).run ⟨env, sto⟩ = dds (newOf op) new sto ((opR F op new).run ⟨env, sto⟩) := by
    simp only [insR, opD, run_bind, dead_env (env := env)]
    unfold dds
    cases (deadR new (newOf op)).run ⟨[], sto⟩ <;> rfl
  simp only [runG, e0]
  unfold dds
  cases (deadR new (newOf op)).run ⟨[], sto⟩ with
  | none => rfl
  | some u => simp only []; cases (opR F op new).run ⟨env, sto⟩ <;> rfl

theorem stDn {lg : Option Log} (op : AOp) : runG F (⟨op, none, none⟩ :: r) new ⟨env, sto⟩ lg = dds (newOf op) new sto (((opR F op new).run ⟨env, sto⟩).bind fun e => runG F r (new + newOf op) ⟨env, upd e.ws sto⟩ (lgA lg (rdO F op new ⟨env, sto⟩) (e.ws.map (·.1)))) := by
  have e0 : (insR F ⟨op, none, none⟩ new).run ⟨env, sto⟩ = dds (newOf op) new sto ((opR F op new).run ⟨env, sto⟩) := by
    simp only [insR, opD, run_bind, dead_env (env := env)]
    unfold dds
    cases (deadR new (newOf op)).run ⟨[], sto⟩ <;> rfl
  simp only [runG, e0]
  unfold dds
  cases (deadR new (newOf op)).run ⟨[], sto⟩ with
  | none => rfl
  | some u => simp only []; cases (opR F op new).run ⟨env, sto⟩ <;> rfl

theorem st0 {lg : Option Log} {op : AOp} (h : newOf op = 0) : runG F (⟨op, some d, none⟩ :: r) new ⟨env, sto⟩ lg = ((opR F op new).run ⟨env, sto⟩).bind fun e => runG F r new ⟨(d, e.val) :: env, upd e.ws sto⟩ (lgA lg (rdO F op new ⟨env, sto⟩) (e.ws.map (·.1))) := by
  rw [stD, h]; rfl

theorem st0n {lg : Option Log} {op : AOp} (h : newOf op = 0) : runG F (⟨op, none, none⟩ :: r) new ⟨env, sto⟩ lg = ((opR F op new).run ⟨env, sto⟩).bind fun e => runG F r new ⟨env, upd e.ws sto⟩ (lgA lg (rdO F op new ⟨env, sto⟩) (e.ws.map (·.1))) := by
  rw [stDn, h]; rfl

def pk (u : AV) (a b : Option AV) : Option AV := match u with
  | .p (.b x) => if x = true then a else b
  | _ => none

@[congr] theorem dds_congr {α : Type} {n n' new new' : Nat} {sto : List Blk} {o : Option α} (h : n = n') (h' : new = new') : dds n new sto o = dds n' new' sto o := by rw [h, h']

theorem dds_none {α : Type} (n new : Nat) (sto : List Blk) : dds n new sto (none : Option α) = none := by
  unfold dds; split <;> rfl

theorem dds_bind {α β : Type} (n new : Nat) (sto : List Blk) (o : Option α) (g : α → Option β) : dds n new sto (o.bind g) = o.bind fun a => dds n new sto (g a) := by
  cases o with
  | none => exact dds_none ..
  | some a => rfl

theorem mv_aux {β : Type} {K : Eff → Option β} {o : Option AV} : ((o.bind fun v => some ⟨v, []⟩).bind K) = o.bind fun v => K ⟨v, []⟩ := by cases o <;> rfl

def pkk (a b : Option (List Nat × List Nat)) : Bool := match a, b with
  | some a, some b => disj a.2 b.1 && disj a.2 b.2 && disj a.1 b.2
  | _, _ => false

theorem bi {α β : Type} {o : Option α} {f : α → Option β} {r : β} (h : Option.bind o f = some r) : ∃ x, o = some x ∧ f x = some r := Option.bind_eq_some_iff.1 h
theorem sj {α : Type} {a b : α} (h : some a = some b) : a = b := Option.some.inj h
theorem mi {α β : Type} {o : Option α} {f : α → β} {r : β} (h : Option.map f o = some r) : ∃ x, o = some x ∧ f x = r := Option.map_eq_some_iff.1 h

/-- What is not to be looked into. -/
inductive Dum {α : Type} : α → Type where
  | mk (a : α) : Dum a

def hold {α : Type} (a : α) (_ : Dum a) : α := a

def pkh {β : Type} (u : AV) (a b : Option AV) (K : AV → Option β) : Option β := (pk u a b).bind K

theorem pick_aux {β : Type} {K : Eff → Option β} {a b : Opd} {o : Option AV} : ((o.bind fun u => RM.run (match u with
    | .p (.b x) => if x = true then (ev a).bind fun v => .ret ⟨v, []⟩ else (ev b).bind fun v => .ret ⟨v, []⟩
    | _ => .fail) ⟨env, sto⟩).bind K) = o.bind fun u => (pk u (evv a env) (evv b env)).bind fun v => K ⟨v, []⟩ := by
  cases o with
  | none => rfl
  | some u =>
    simp only [Option.bind_some]
    cases u with
    | p c =>
      cases c with
      | b x =>
        cases x with
        | true => simp only [if_true, run_bind, run_ev, pk]; cases evv a env <;> rfl
        | false => simp only [Bool.false_eq_true, if_false, run_bind, run_ev, pk]; cases evv b env <;> rfl
      | _ => rfl
    | _ => rfl

theorem one_aux {β : Type} {K : Eff → Option β} {o : Option AV} (g : AV → Option AV) : ((o.bind fun a => (Go.Am.val (g a)).run ⟨env, sto⟩).bind K) = o.bind fun a => (g a).bind fun v => K ⟨v, []⟩ := by
  cases o with
  | none => rfl
  | some a => simp only [Option.bind_some]; cases g a <;> rfl

theorem two_aux {β : Type} {K : Eff → Option β} {o o' : Option AV} (g : AV → AV → Option AV) : ((o.bind fun a => o'.bind fun c => (Go.Am.val (g a c)).run ⟨env, sto⟩).bind K) = o.bind fun a => o'.bind fun c => (g a c).bind fun v => K ⟨v, []⟩ := by
  cases o with
  | none => rfl
  | some a =>
    cases o' with
    | none => rfl
    | some c => simp only [Option.bind_some]; cases g a c <;> rfl

theorem one_aux2 {β : Type} {o : Option AV} (g : AV → Option Eff) {k : Eff → Option β} : ((o.bind fun a => g a).bind k) = o.bind fun a => (g a).bind k := by
  cases o <;> rfl

theorem two_aux2 {β : Type} {o o' : Option AV} (g : AV → AV → Option Eff) {k : Eff → Option β} : ((o.bind fun a => o'.bind fun c => g a c).bind k) = o.bind fun a => o'.bind fun c => (g a c).bind k := by
  cases o <;> cases o' <;> rfl

def sidP (a c : AV) : Option AV := match a, c with
  | .p (.s l), .p (.i _ n) => if 0 ≤ n then
      match l[n.toNat]? with
      | some u => some (.p (.i .u8 u.toNat))
      | none => none
    else none
  | _, _ => none

theorem sid_aux {β : Type} {K : Eff → Option β} {o o' : Option AV} : ((o.bind fun a => o'.bind fun c => RM.run (match a, c with
    | .p (.s l), .p (.i _ n) => if 0 ≤ n then
        match l[n.toNat]? with
        | some u => .ret ⟨.p (.i .u8 u.toNat), []⟩
        | none => .fail
      else .fail
    | _, _ => .fail) ⟨env, sto⟩).bind K) = o.bind fun a => o'.bind fun c => (sidP a c).bind fun v => K ⟨v, []⟩ := by
  cases o with
  | none => rfl
  | some a =>
    cases o' with
    | none => rfl
    | some c =>
      simp only [Option.bind_some, sidP]
      split
      · split
        · split <;> rfl
        · rfl
      · rfl

theorem sid_ok (l : List UInt8) (k : IntKind) (n : Int) : sidP (.p (.s l)) (.p (.i k n)) = (sidS l n).map fun v => .p (.i .u8 v) := by
  simp only [sidP, sidS]
  by_cases h : 0 ≤ n
  · simp only [if_pos h]; cases l[n.toNat]? <;> rfl
  · simp only [if_neg h]; rfl

def aidP (g : Bool) (n e : Nat) (a c : AV) : Option AV := match c with
  | .p (.i _ i) => if 0 ≤ i ∧ i < n then fieldP g (i.toNat * e) e a else none
  | _ => none

theorem aid_aux {β : Type} {K : Eff → Option β} {g : Bool} {n e : Nat} {o o' : Option AV} : ((o.bind fun a => o'.bind fun c => RM.run (match c with
    | .p (.i _ i) => if 0 ≤ i ∧ i < n then Go.Am.val (fieldP g (i.toNat * e) e a) else .fail
    | _ => .fail) ⟨env, sto⟩).bind K) = o.bind fun a => o'.bind fun c => (aidP g n e a c).bind fun v => K ⟨v, []⟩ := by
  cases o with
  | none => rfl
  | some a =>
    cases o' with
    | none => rfl
    | some c =>
      simp only [Option.bind_some, aidP]
      split
      · split
        · cases fieldP g _ e a <;> rfl
        · rfl
      · rfl

theorem ai_aux (g : Bool) (n e : Nat) (cs : List PV) (k : IntKind) (i : Int) : aidP g n e (.data cs) (.p (.i k i)) = if 0 ≤ i ∧ i < n then (sub cs (i.toNat * e) e).bind (ofPCells g) else none := by
  simp only [aidP, fieldP]
  split
  · cases sub cs (i.toNat * e) e <;> rfl
  · rfl

def nckP : AV → Option AV
  | .ptr b o => some (.ptr b o)
  | .cp cs o => some (.cp cs o)
  | .ep b e i o => some (.ep b e i o)
  | .fn f u c => some (.fn f u c)
  | _ => none

theorem nck_aux {β : Type} {K : Eff → Option β} {o : Option AV} : ((o.bind fun a => RM.run (match a with
    | .ptr b o => .ret ⟨.ptr b o, []⟩
    | .cp cs o => .ret ⟨.cp cs o, []⟩
    | .ep b e i o => .ret ⟨.ep b e i o, []⟩
    | .fn f u c => .ret ⟨.fn f u c, []⟩
    | _ => .fail) ⟨env, sto⟩).bind K) = o.bind fun a => (nckP a).bind fun v => K ⟨v, []⟩ := by
  cases o with
  | none => rfl
  | some a => cases a <;> rfl

def cvR (k : CK) (a : AV) (new : Nat) : RM Eff := match k, a with
  | .int k, .p (.i _ n) => .ret ⟨.p (.i k (k.wrap n)), []⟩
  | .same, .p (.s l) => .ret ⟨.p (.s l), []⟩
  | .toStr, a => (rowsOf 1 a).bind fun rows => match bytesOf rows with
    | some l => .ret ⟨.p (.s l), []⟩
    | none => .fail
  | .toBytes own, .p (.s l) => if own then .ret ⟨.slr new 0 l.length, [(new, .arr true 1 (l.map byteRow))]⟩ else .ret ⟨.p (.sl 1 (l.map byteRow)), []⟩
  | _, _ => .fail

theorem conv_aux {lg : Option Log} {c : CK} {x : Opd} : runG F (⟨.conv c x, some d, none⟩ :: r) new ⟨env, sto⟩ lg = (evv x env).bind fun a => dds (newOf (.conv c x)) new sto (((cvR c a new).run ⟨env, sto⟩).bind fun e => runG F r (new + newOf (.conv c x)) ⟨(d, e.val) :: env, upd e.ws sto⟩ (lgA lg (rdO F (.conv c x) new ⟨env, sto⟩) (e.ws.map (·.1)))) := by
  rw [stD]
  have : (opR F (.conv c x) new).run ⟨env, sto⟩ = (evv x env).bind fun a => (cvR c a new).run ⟨env, sto⟩ := by
    simp only [opR, run_bind, run_ev]; rfl
  rw [this, one_aux2 (fun a => (cvR c a new).run ⟨env, sto⟩), dds_bind]

theorem build_aux {lg : Option Log} {z : List PV} {ps : List (Nat × Nat × Opd)} : runG F (⟨.build z ps, some d, none⟩ :: r) new ⟨env, sto⟩ lg = ((partsR ps).run ⟨env, sto⟩).bind fun l => (fillAll l (z.map .p)).bind fun cs => (ofCells true cs).bind fun v => runG F r new ⟨(d, v) :: env, sto⟩ (lgA lg (rdO F (.build z ps) new ⟨env, sto⟩) []) := by
  rw [st0 (h := rfl)]
  simp only [opR, run_bind]
  cases (partsR ps).run ⟨env, sto⟩ with
  | none => rfl
  | some l =>
    simp only [Option.bind_some]
    cases fillAll l (z.map .p) with
    | none => rfl
    | some cs => simp only [Option.bind_some]; cases ofCells true cs <;> rfl

def evo1 (x : Option Opd) (env : List (Nat × AV)) : Option (Option AV) := match x with
  | none => some none
  | some x => (evv x env).map some

theorem evo_run (x : Option Opd) : (evo x).run ⟨env, sto⟩ = evo1 x env := by
  cases x with
  | none => rfl
  | some x => simp only [evo, run_bind, run_ev, evo1]; cases evv x env <;> rfl

def slR (s : SK) (a : AV) (lo hi mx : Option AV) : RM Eff := match a with
  | .slr b i n => (fz (.slr b i n)).bind fun y => match y.1 with
    | [c] => match sliceP s (.p c) lo hi mx with
      | some v => .ret ⟨v, y.2⟩
      | none => .fail
    | _ => .fail
  | a => Go.Am.val (sliceP s a lo hi mx)

theorem slice_aux {lg : Option Log} {s : SK} {x : Opd} {lo hi mx : Option Opd} : runG F (⟨.slice s x lo hi mx, some d, none⟩ :: r) new ⟨env, sto⟩ lg = (evv x env).bind fun a => (evo1 lo env).bind fun lo1 => (evo1 hi env).bind fun hi1 => (evo1 mx env).bind fun mx1 => ((slR s a lo1 hi1 mx1).run ⟨env, sto⟩).bind fun e => runG F r new ⟨(d, e.val) :: env, upd e.ws sto⟩ (lgA lg (rdO F (.slice s x lo hi mx) new ⟨env, sto⟩) (e.ws.map (·.1))) := by
  rw [st0 (h := rfl)]
  have : (opR F (.slice s x lo hi mx) new).run ⟨env, sto⟩ = (evv x env).bind fun a => (evo1 lo env).bind fun lo => (evo1 hi env).bind fun hi => (evo1 mx env).bind fun mx => (slR s a lo hi mx).run ⟨env, sto⟩ := by
    simp only [opR, run_bind, run_ev, evo_run]; rfl
  rw [this]
  cases evv x env with
  | none => rfl
  | some a =>
    cases evo1 lo env with
    | none => rfl
    | some lo =>
      cases evo1 hi env with
      | none => rfl
      | some hi => cases evo1 mx env <;> rfl

def slX (s : SK) (x : AV) (lo hi : Option AV) : Option AV := sliceP s x lo hi none

theorem newbox_aux {lg : Option Log} {z : List PV} : runG F (⟨.newbox z, some d, none⟩ :: r) new ⟨env, sto⟩ lg = dds 1 new sto (runG F r (new + 1) ⟨(d, .ptr new 0) :: env, sto.set new (.box (z.map .p))⟩ (lgA lg (rdO F (.newbox z) new ⟨env, sto⟩) [new])) := by
  rw [stD]; rfl
theorem appn_aux {lg : Option Log} {e b : Nat} {z : List PV} {y : Opd} : runG F (⟨.appn e b z y, some d, none⟩ :: r) new ⟨env, sto⟩ lg = (evv y env).bind fun c => ((rowsOf e c).run ⟨env, sto⟩).bind fun rows => if roomy rows.length b = true then dds 1 new sto (runG F r (new + 1) ⟨(d, .slr new 0 rows.length) :: env, sto.set new (.arr true e rows)⟩ (lgA lg (rdO F (.appn e b z y) new ⟨env, sto⟩) [new])) else none := by
  rw [stD]
  simp only [opR, run_bind, run_ev, newOf]
  cases evv y env with
  | none => exact dds_none ..
  | some c =>
    simp only [Option.bind_some]
    cases (rowsOf e c).run ⟨env, sto⟩ with
    | none => exact dds_none ..
    | some rows =>
      simp only [Option.bind_some]
      split
      · rfl
      · exact dds_none ..

theorem mkarr_aux {lg : Option Log} {e : Nat} {x : Opd} : runG F (⟨.mkarr e x, some d, none⟩ :: r) new ⟨env, sto⟩ lg = dds 1 new sto (runG F r (new + 1) ⟨(d, .slr new 0 0) :: env, sto.set new (.arr true e [])⟩ (lgA lg (rdO F (.mkarr e x) new ⟨env, sto⟩) [new])) := by
  rw [stD]; rfl

def bxP (n : Nat) (a : AV) : Option (List AV) := match cellsOf a with
  | some cs => if cs.length = n then some cs else none
  | none => none

theorem box_aux {lg : Option Log} {n : Nat} {x : Opd} : runG F (⟨.box n x, some d, none⟩ :: r) new ⟨env, sto⟩ lg = (evv x env).bind fun a => (bxP n a).bind fun cs => dds 1 new sto (runG F r (new + 1) ⟨(d, .ptr new 0) :: env, sto.set new (.box cs)⟩ (lgA lg (rdO F (.box n x) new ⟨env, sto⟩) [new])) := by
  rw [stD]
  simp only [opR, run_bind, run_ev, newOf]
  cases evv x env with
  | none => exact dds_none ..
  | some a =>
    simp only [Option.bind_some, bxP]
    cases cellsOf a with
    | none => exact dds_none ..
    | some cs =>
      dsimp only
      split
      · rfl
      · exact dds_none ..

def ltR (o : Bool) (e n : Nat) (z : List PV) (ps : List (Nat × Opd)) (new : Nat) : RM Eff := (fzs (ps.map (·.2))).bind fun a =>
    match placeAll e ((ps.map (·.1)).zip a.1) (List.replicate n z) with
    | some rows => if o then .ret ⟨.slr new 0 n, a.2 ++ [(new, .arr true e rows)]⟩ else .ret ⟨.p (.sl e rows), a.2⟩
    | none => .fail

theorem lits_aux {lg : Option Log} {o : Bool} {e n : Nat} {z : List PV} {ps : List (Nat × Opd)} : runG F (⟨.lits o e n z ps, some d, none⟩ :: r) new ⟨env, sto⟩ lg = dds (if o then 1 else 0) new sto (((ltR o e n z ps new).run ⟨env, sto⟩).bind fun x => runG F r (new + if o then 1 else 0) ⟨(d, x.val) :: env, upd x.ws sto⟩ (lgA lg (rdO F (.lits o e n z ps) new ⟨env, sto⟩) (x.ws.map (·.1)))) := by
  rw [stD]; rfl

theorem lt_aux (env : List (Nat × AV)) (sto : List Blk) (o : Bool) (e n new : Nat) (z : List PV) (ps : List (Nat × Opd)) : (ltR o e n z ps new).run ⟨env, sto⟩ = ((fzs (ps.map (·.2))).run ⟨env, sto⟩).bind fun a => (placeAll e ((ps.map (·.1)).zip a.1) (List.replicate n z)).map fun rows => if o then ⟨.slr new 0 n, a.2 ++ [(new, .arr true e rows)]⟩ else ⟨.p (.sl e rows), a.2⟩ := by
  simp only [ltR, run_bind]
  cases (fzs (ps.map (·.2))).run ⟨env, sto⟩ with
  | none => rfl
  | some a =>
    simp only [Option.bind_some]
    cases placeAll e ((ps.map (·.1)).zip a.1) (List.replicate n z) with
    | none => rfl
    | some rows => cases o <;> rfl

def mkP (o : Bool) (e b : Nat) (z : List PV) (a c : AV) (new : Nat) : Option Eff := match a, c with
  | .p (.i _ n), .p (.i _ m) =>
    if 0 ≤ n ∧ n ≤ m ∧ b * m ≤ 281474976710656 ∧ m ≤ 281474976710656 then
      some (if o then ⟨.slr new 0 n.toNat, [(new, .arr true e (List.replicate n.toNat z))]⟩ else ⟨.p (.sl e (List.replicate n.toNat z)), []⟩)
    else none
  | _, _ => none

theorem mk_run (o : Bool) (e b : Nat) (z : List PV) (a c : AV) (new : Nat) (s : St) : RM.run (match a, c with
    | .p (.i _ n), .p (.i _ m) =>
      if 0 ≤ n ∧ n ≤ m ∧ b * m ≤ 281474976710656 ∧ m ≤ 281474976710656 then
        if o then .ret ⟨.slr new 0 n.toNat, [(new, .arr true e (List.replicate n.toNat z))]⟩
        else .ret ⟨.p (.sl e (List.replicate n.toNat z)), []⟩
      else .fail
    | _, _ => .fail) s = mkP o e b z a c new := by
  unfold mkP
  split
  · rename_i k n k2 m
    by_cases h : 0 ≤ n ∧ n ≤ m ∧ b * m ≤ 281474976710656 ∧ m ≤ 281474976710656
    · simp only [if_pos h]; cases o <;> rfl
    · simp only [if_neg h]; rfl
  · rfl

theorem mkslice_aux {lg : Option Log} {o : Bool} {e b : Nat} {z : List PV} {l c : Opd} : runG F (⟨.mkslice o e b z l c, some d, none⟩ :: r) new ⟨env, sto⟩ lg = (evv l env).bind fun a => (evv c env).bind fun x => dds (if o then 1 else 0) new sto ((mkP o e b z a x new).bind fun x => runG F r (new + if o then 1 else 0) ⟨(d, x.val) :: env, upd x.ws sto⟩ (lgA lg (rdO F (.mkslice o e b z l c) new ⟨env, sto⟩) (x.ws.map (·.1)))) := by
  rw [stD]
  simp only [opR, run_bind, run_ev, newOf]
  cases evv l env with
  | none => exact dds_none ..
  | some a =>
    cases evv c env with
    | none => exact dds_none ..
    | some x =>
      simp only [Option.bind_some]
      exact congrArg (fun y => dds (if o then 1 else 0) new sto (y.bind fun x => runG F r (new + if o then 1 else 0) ⟨(d, x.val) :: env, upd x.ws sto⟩ (lgA lg (rdO F (.mkslice o e b z l c) new ⟨env, sto⟩) (x.ws.map (·.1))))) (mk_run o e b z a x new ⟨env, sto⟩)

theorem call_aux {lg : Option Log} {g : FuncId} {args : List Opd} {n : Nat} : runG F (⟨.call g args n, some d, none⟩ :: r) new ⟨env, sto⟩ lg = dds n new sto (((evs args).run ⟨env, sto⟩).bind fun a => ((argsR a).run ⟨env, sto⟩).bind fun a => ((callR2 F g a n new).run ⟨env, sto⟩).bind fun e => runG F r (new + n) ⟨(d, e.val) :: env, upd e.ws sto⟩ (lgA lg (rdO F (.call g args n) new ⟨env, sto⟩) (e.ws.map (·.1)))) := by
  rw [stD]
  simp only [opR, run_bind, newOf, callR_2]
  cases (evs args).run ⟨env, sto⟩ with
  | none => rfl
  | some a => simp only [Option.bind_some]; cases (argsR a).run ⟨env, sto⟩ <;> rfl

theorem calln_aux {lg : Option Log} {g : FuncId} {args : List Opd} {n : Nat} : runG F (⟨.call g args n, none, none⟩ :: r) new ⟨env, sto⟩ lg = dds n new sto (((evs args).run ⟨env, sto⟩).bind fun a => ((argsR a).run ⟨env, sto⟩).bind fun a => ((callR2 F g a n new).run ⟨env, sto⟩).bind fun e => runG F r (new + n) ⟨env, upd e.ws sto⟩ (lgA lg (rdO F (.call g args n) new ⟨env, sto⟩) (e.ws.map (·.1)))) := by
  rw [stDn]
  simp only [opR, run_bind, newOf, callR_2]
  cases (evs args).run ⟨env, sto⟩ with
  | none => rfl
  | some a => simp only [Option.bind_some]; cases (argsR a).run ⟨env, sto⟩ <;> rfl

def cvg {α : Type} (u : AV) (k : FuncId → List AV → List AV → Option α) : Option α := match u with
  | .fn f a c => k f a c
  | _ => none

theorem mkfn_aux {lg : Option Log} {g : FuncId} {a c : List Opd} : runG F (⟨.mkfn g a c, some d, none⟩ :: r) new ⟨env, sto⟩ lg = ((evs a).run ⟨env, sto⟩).bind fun a1 => ((evs c).run ⟨env, sto⟩).bind fun c1 => runG F r new ⟨(d, .fn g a1 c1) :: env, sto⟩ (lgA lg (rdO F (.mkfn g a c) new ⟨env, sto⟩) []) := by
  rw [st0 (h := rfl)]
  simp only [opR, run_bind]
  cases (evs a).run ⟨env, sto⟩ with
  | none => rfl
  | some a1 => simp only [Option.bind_some]; cases (evs c).run ⟨env, sto⟩ <;> rfl

theorem callv_aux {lg : Option Log} {g : Opd} {args : List Opd} {n : Nat} : runG F (⟨.callv g args n, some d, none⟩ :: r) new ⟨env, sto⟩ lg = (evv g env).bind fun u => cvg u fun h a1 c1 => dds n new sto (((evs args).run ⟨env, sto⟩).bind fun a => ((argsR (a1 ++ a ++ c1)).run ⟨env, sto⟩).bind fun a => ((callR2 F h a n new).run ⟨env, sto⟩).bind fun q => runG F r (new + n) ⟨(d, q.val) :: env, upd q.ws sto⟩ (lgA lg (rdO F (.callv g args n) new ⟨env, sto⟩) (q.ws.map (·.1)))) := by
  rw [stD]
  simp only [opR, run_bind, run_ev, newOf]
  cases evv g env with
  | none => exact dds_none ..
  | some u =>
    simp only [Option.bind_some]
    cases u with
    | fn h a1 c1 =>
      simp only [cvg, run_bind, callR_2]
      cases (evs args).run ⟨env, sto⟩ with
      | none => rfl
      | some a => simp only [Option.bind_some]; cases (argsR (a1 ++ a ++ c1)).run ⟨env, sto⟩ <;> rfl
    | _ => exact dds_none ..

theorem callvn_aux {lg : Option Log} {g : Opd} {args : List Opd} {n : Nat} : runG F (⟨.callv g args n, none, none⟩ :: r) new ⟨env, sto⟩ lg = (evv g env).bind fun u => cvg u fun h a1 c1 => dds n new sto (((evs args).run ⟨env, sto⟩).bind fun a => ((argsR (a1 ++ a ++ c1)).run ⟨env, sto⟩).bind fun a => ((callR2 F h a n new).run ⟨env, sto⟩).bind fun q => runG F r (new + n) ⟨env, upd q.ws sto⟩ (lgA lg (rdO F (.callv g args n) new ⟨env, sto⟩) (q.ws.map (·.1)))) := by
  rw [stDn]
  simp only [opR, run_bind, run_ev, newOf]
  cases evv g env with
  | none => exact dds_none ..
  | some u =>
    simp only [Option.bind_some]
    cases u with
    | fn h a1 c1 =>
      simp only [cvg, run_bind, callR_2]
      cases (evs args).run ⟨env, sto⟩ with
      | none => rfl
      | some a => simp only [Option.bind_some]; cases (argsR (a1 ++ a ++ c1)).run ⟨env, sto⟩ <;> rfl
    | _ => exact dds_none ..

def grd {α : Type} (x : Option AV) (w : Bool) (a b : Option α) : Option α := match x with
  | some (.p (.b x)) => if x = w then a else b
  | some (.tup []) => b
  | _ => none

end

@[congr] theorem grd_congr {α : Type} {x x' : Option AV} {w : Bool} {a b : Option α} (h : x = x') : grd x w a b = grd x' w a b := by rw [h]

theorem grd_aux (F : Orc) (r : List AIns) (new : Nat) (env : List (Nat × AV)) (sto : List Blk) (lg : Option Log) (op : AOp) (d : Option Nat) (g : Nat) (w : Bool) :
    runG F (⟨op, d, some (g, w)⟩ :: r) new ⟨env, sto⟩ lg = grd (lk g env) w (runG F (⟨op, d, none⟩ :: r) new ⟨env, sto⟩ lg) (runG F r (new + newOf op) (put d ⟨undefV, []⟩ ⟨env, sto⟩) (lgA lg [] [])) := by
  simp only [runG, insR, RM.run, RM.reads]
  cases lk g env with
  | none => rfl
  | some v =>
    dsimp only
    cases v with
    | p c =>
      cases c with
      | b x =>
        simp only [grd]
        by_cases h : x = w
        · subst h; simp only [if_true]; rfl
        · simp only [if_neg h]; rfl
      | _ => rfl
    | tup l => cases l <;> rfl
    | _ => rfl

def rcons (k : Nat) (v : Option AV) (l : List (Nat × AV)) : List (Nat × AV) := match v with
  | some v => (k, v) :: l
  | none => l

def aggV (cs : List AV) (l : Option (List PV)) : AV := match l with
  | some l => .data l
  | none => .agg cs

def ldB (g : Bool) (n off : Nat) (B : Blk) : Option Eff := match B with
  | .box cs => (sub cs off n).bind fun l => (ofCells g l).map fun v => ⟨v, []⟩
  | _ => none

def ldE (g : Bool) (n e i off : Nat) (B : Blk) : Option Eff := match B with
  | .arr _ _ rows => if e = rows.length then rows[i]?.bind fun row => (sub row off n).bind fun l => (ofPCells g l).map fun v => ⟨v, []⟩ else none
  | _ => none

theorem ldC_aux (env : List (Nat × AV)) (sto : List Blk) (g : Bool) (n : Nat) (cs : List PV) (off : Nat) : (loadR g n (.cp cs off)).run ⟨env, sto⟩ = (sub cs off n).bind fun l => (ofPCells g l).map fun v => ⟨v, []⟩ := by
  simp only [loadR]
  cases sub cs off n with
  | none => rfl
  | some l => simp only [Option.bind_some]; cases ofPCells g l <;> rfl

theorem ldB_aux (env : List (Nat × AV)) (sto : List Blk) (g : Bool) (n b off : Nat) : (loadR g n (.ptr b off)).run ⟨env, sto⟩ = sto[b]?.bind fun B => ldB g n off B := by
  simp only [loadR, run_blk]
  cases sto[b]? with
  | none => rfl
  | some B =>
    cases B with
    | box cs =>
      simp only [Option.bind_some, ldB]
      cases sub cs off n with
      | none => rfl
      | some l => simp only [Option.bind_some]; cases ofCells g l <;> rfl
    | _ => rfl

theorem ldB_m (g : Bool) (n off : Nat) (cs : List PV) : ldB g n off (.box (cs.map AV.p)) = (sub cs off n).bind fun l => (ofPCells g l).map fun v => ⟨v, []⟩ := by
  simp only [ldB, sub_mapp]
  cases sub cs off n with
  | none => rfl
  | some l =>
    simp only [Option.map_some, Option.bind_some]
    cases g with
    | true => rw [ofCells_agg]; rfl
    | false => match l with
      | [] => rfl
      | [_] => rfl
      | _ :: _ :: _ => rfl

theorem ldE_aux (env : List (Nat × AV)) (sto : List Blk) (g : Bool) (n b e i off : Nat) : (loadR g n (.ep b e i off)).run ⟨env, sto⟩ = sto[b]?.bind fun B => ldE g n e i off B := by
  simp only [loadR, run_blk]
  cases sto[b]? with
  | none => rfl
  | some B =>
    cases B with
    | arr w z rows =>
      simp only [Option.bind_some, ldE]
      split
      · cases rows[i]? with
        | none => rfl
        | some row =>
          simp only [Option.bind_some]
          cases sub row off n with
          | none => rfl
          | some l => simp only [Option.bind_some]; cases ofPCells g l <;> rfl
      · rfl
    | _ => rfl

def stB (n b off : Nat) (l : List AV) (B : Blk) : Option Eff := match B with
  | .box cs => if l.length = n then (spl cs off l).map fun cs => ⟨undefV, [(b, .box cs)]⟩ else none
  | _ => none

theorem stB_aux (env : List (Nat × AV)) (sto : List Blk) (n b off : Nat) (v : AV) : (storeR n (.ptr b off) v).run ⟨env, sto⟩ = sto[b]?.bind fun B => (cellsOf v).bind fun l => stB n b off l B := by
  simp only [storeR, run_blk]
  cases sto[b]? with
  | none => rfl
  | some B =>
    simp only [Option.bind_some]
    cases B with
    | box cs =>
      dsimp only
      cases cellsOf v with
      | none => rfl
      | some l =>
        simp only [Option.bind_some, stB]
        split
        · cases spl cs off l <;> rfl
        · rfl
    | dead => cases cellsOf v <;> rfl
    | arr w z rows => cases cellsOf v <;> rfl

theorem stB_m (n b off : Nat) (cs vs : List PV) : stB n b off (vs.map AV.p) (.box (cs.map AV.p)) = if vs.length = n then (spl cs off vs).map fun cs => ⟨undefV, [(b, .box (cs.map AV.p))]⟩ else none := by
  simp only [stB, List.length_map, spl_mapp]
  split
  · cases spl cs off vs <;> rfl
  · rfl

theorem stB_1 (b off : Nat) (cs : List PV) (v : PV) : stB 1 b off [AV.p v] (.box (cs.map AV.p)) = (spl cs off [v]).map fun cs => ⟨undefV, [(b, .box (cs.map AV.p))]⟩ := by
  have := stB_m 1 b off cs [v]
  simpa using this

def stE (n b e i off : Nat) (v : AV) (B : Blk) (s : St) : Option Eff := match B with
  | .arr true z rows => if e = rows.length then
      match rows[i]? with
      | some row => ((fz v).run s).bind fun a =>
        if a.1.length = n ∧ (a.2.all fun y => y.1 != b) = true then
          match spl row off a.1 with
          | some row' => some ⟨undefV, a.2 ++ [(b, .arr true z (rows.set i row'))]⟩
          | none => none
        else none
      | none => none
    else none
  | _ => none

theorem stE_aux (env : List (Nat × AV)) (sto : List Blk) (n b e i off : Nat) (v : AV) : (storeR n (.ep b e i off) v).run ⟨env, sto⟩ = sto[b]?.bind fun B => stE n b e i off v B ⟨env, sto⟩ := by
  simp only [storeR, run_blk]
  cases sto[b]? with
  | none => rfl
  | some B =>
    simp only [Option.bind_some]
    cases B with
    | arr w z rows =>
      cases w with
      | false => rfl
      | true =>
        simp only [stE]
        split
        · cases rows[i]? with
          | none => rfl
          | some row =>
            simp only [run_bind]
            cases (fz v).run ⟨env, sto⟩ with
            | none => rfl
            | some a =>
              simp only [Option.bind_some]
              split
              · cases spl row off a.1 <;> rfl
              · rfl
        · rfl
    | _ => rfl

theorem stE_p (n b e i off z : Nat) (c : PV) (rows : List (List PV)) (s : St) : stE n b e i off (.p c) (.arr true z rows) s = if e = rows.length then rows[i]?.bind fun row => if 1 = n then (spl row off [c]).map fun row => ⟨undefV, [(b, .arr true z (rows.set i row))]⟩ else none else none := by
  simp only [stE, fz, run_ret, Option.bind_some]
  split
  · cases rows[i]? with
    | none => rfl
    | some row =>
      simp only [Option.bind_some, List.length_cons, List.length_nil, List.all_nil, and_true]
      simp only [Nat.zero_add]
      split
      · cases spl row off [c] <;> rfl
      · rfl
  · rfl

theorem stE_d (n b e i off z : Nat) (cs : List PV) (rows : List (List PV)) (s : St) : stE n b e i off (.data cs) (.arr true z rows) s = if e = rows.length then rows[i]?.bind fun row => if cs.length = n then (spl row off cs).map fun row => ⟨undefV, [(b, .arr true z (rows.set i row))]⟩ else none else none := by
  simp only [stE, fz, run_ret, Option.bind_some]
  split
  · cases rows[i]? with
    | none => rfl
    | some row =>
      simp only [Option.bind_some, List.all_nil, and_true]
      split
      · cases spl row off cs <;> rfl
      · rfl
  · rfl

theorem bx_aux (n : Nat) (cs : List PV) : bxP n (.data cs) = if cs.length = n then some (cs.map AV.p) else none := by simp [bxP, cellsOf]

theorem ia_c_aux (env : List (Nat × AV)) (sto : List Blk) (e : Nat) (rows : List (List PV)) (k : IntKind) (n : Int) : (iaddrR e (.p (.sl e rows)) (.p (.i k n))).run ⟨env, sto⟩ = (rowAt rows n).map fun row => ⟨.cp row 0, []⟩ := by
  simp only [iaddrR, if_true]
  cases rowAt rows n <;> rfl

def iaB (e b m : Nat) (n : Int) (B : Blk) : Option Eff := match B with
  | .arr _ esz' rows => if e = esz' ∧ 0 + m = rows.length ∧ 0 ≤ n ∧ n < m then some ⟨.ep b rows.length (0 + n.toNat) 0, []⟩ else none
  | _ => none

theorem ia_o_aux (env : List (Nat × AV)) (sto : List Blk) (e b m : Nat) (k : IntKind) (n : Int) : (iaddrR e (.slr b 0 m) (.p (.i k n))).run ⟨env, sto⟩ = sto[b]?.bind fun B => iaB e b m n B := by
  simp only [iaddrR, run_blk]
  cases sto[b]? with
  | none => rfl
  | some B =>
    cases B with
    | arr w z rows => simp only [Option.bind_some, iaB]; split <;> rfl
    | _ => rfl

theorem iab_aux (e b m : Nat) (n : Int) (w : Bool) (rows : List (List PV)) : iaB e b m n (.arr w e rows) = if m = rows.length ∧ 0 ≤ n ∧ n < m then some ⟨.ep b rows.length n.toNat 0, []⟩ else none := by
  simp [iaB]

theorem cv_t_aux (env : List (Nat × AV)) (sto : List Blk) (l : List Int) (new : Nat) : (cvR .toStr (.p (.sl 1 (l.map (r_i .u8)))) new).run ⟨env, sto⟩ = some ⟨.p (.s (toStr l)), []⟩ := by
  simp only [cvR, rowsOf, if_true, run_bind, run_ret, Option.bind_some, bytesOf_ok]

def cvB (n : Nat) (B : Blk) : Option Eff := match B with
  | .arr _ z rows => if 1 = z ∧ 0 + n = rows.length then
      match bytesOf (rows.drop 0) with
      | some l => some ⟨.p (.s l), []⟩
      | none => none
    else none
  | _ => none

theorem cv_o_aux (env : List (Nat × AV)) (sto : List Blk) (b n new : Nat) : (cvR .toStr (.slr b 0 n) new).run ⟨env, sto⟩ = sto[b]?.bind fun B => cvB n B := by
  simp only [cvR, rowsOf, run_bind, run_blk]
  cases sto[b]? with
  | none => rfl
  | some B =>
    cases B with
    | arr w z rows =>
      simp only [Option.bind_some, cvB]
      split
      · simp only [run_ret, Option.bind_some]; cases bytesOf (rows.drop 0) <;> rfl
      · rfl
    | _ => rfl

theorem cvB_aux (n : Nat) (w : Bool) (l : List Int) : cvB n (.arr w 1 (l.map (r_i .u8))) = if n = l.length then some ⟨.p (.s (toStr l)), []⟩ else none := by
  simp only [cvB, List.drop_zero, bytesOf_ok, List.length_map, Nat.zero_add, true_and]

theorem cv_b_aux (env : List (Nat × AV)) (sto : List Blk) (l : List UInt8) (new : Nat) : (cvR (.toBytes false) (.p (.s l)) new).run ⟨env, sto⟩ = some ⟨.p (.sl 1 ((toByt l).map (r_i .u8))), []⟩ := by
  simp [cvR, byteRows]

theorem cv_bo_aux (env : List (Nat × AV)) (sto : List Blk) (l : List UInt8) (new : Nat) : (cvR (.toBytes true) (.p (.s l)) new).run ⟨env, sto⟩ = some ⟨.slr new 0 (toByt l).length, [(new, .arr true 1 ((toByt l).map (r_i .u8)))]⟩ := by
  have : (toByt l).length = l.length := by simp [toByt]
  simp [cvR, byteRows, this]

theorem pa_aux (env : List (Nat × AV)) (sto : List Blk) (off size : Nat) (x : Opd) (r : List (Nat × Nat × Opd)) : (partsR ((off, size, x) :: r)).run ⟨env, sto⟩ = (evv x env).bind fun v => (cellsOf v).bind fun cs => ((partsR r).run ⟨env, sto⟩).bind fun l => some ((off, size, cs) :: l) := by
  simp only [partsR, run_bind, run_ev]
  cases evv x env with
  | none => rfl
  | some v =>
    simp only [Option.bind_some]
    cases cellsOf v with
    | none => rfl
    | some cs => simp only [Option.bind_some, run_bind]; cases (partsR r).run ⟨env, sto⟩ <;> rfl

theorem fi_m_aux (off size : Nat) (vs cs : List PV) (r : List (Nat × Nat × List AV)) : fillAll ((off, size, vs.map AV.p) :: r) (cs.map AV.p) = if vs.length = size then (spl cs off vs).bind fun cs => fillAll r (cs.map AV.p) else none := by
  simp only [fillAll, List.length_map, spl_mapp]
  split
  · cases spl cs off vs <;> rfl
  · rfl

theorem fi_1_aux (off : Nat) (v : PV) (cs : List PV) (r : List (Nat × Nat × List AV)) : fillAll ((off, 1, [AV.p v]) :: r) (cs.map AV.p) = (spl cs off [v]).bind fun cs => fillAll r (cs.map AV.p) := by
  have := fi_m_aux off 1 [v] cs r
  simpa using this

theorem es_aux (env : List (Nat × AV)) (sto : List Blk) (x : Opd) (r : List Opd) : (evs (x :: r)).run ⟨env, sto⟩ = (evv x env).bind fun v => ((evs r).run ⟨env, sto⟩).bind fun vs => some (v :: vs) := by
  simp only [evs, run_bind, run_ev]; rfl

theorem ar_aux (env : List (Nat × AV)) (sto : List Blk) {v : AV} (h : argR v = .ret (v, [])) (r : List AV) : (argsR (v :: r)).run ⟨env, sto⟩ = ((argsR r).run ⟨env, sto⟩).bind fun a => some (v :: a.1, a.2) := by
  simp only [argsR, h, run_bind, run_ret, Option.bind_some, List.nil_append]

def frz (b n : Nat) (B : Blk) : Option (AV × (Nat × Blk)) := match B with
  | .arr _ z rows => if n = rows.length then some (.p (.sl z rows), (b, .arr false z rows)) else none
  | _ => none

def frp (b n : Nat) (B : Blk) : Option (PV × (Nat × Blk)) := match B with
  | .arr _ z rows => if n = rows.length then some (.sl z rows, (b, .arr false z rows)) else none
  | _ => none

theorem fz_slr (env : List (Nat × AV)) (sto : List Blk) (b n : Nat) : (fz (.slr b 0 n)).run ⟨env, sto⟩ = sto[b]?.bind fun B => (frp b n B).bind fun x => some ([x.1], [x.2]) := by
  simp only [fz, run_blk]
  cases sto[b]? with
  | none => rfl
  | some B =>
    cases B with
    | arr w z rows =>
      simp only [Option.bind_some, frp, Nat.zero_add, List.drop_zero]
      split <;> rfl
    | _ => rfl

theorem fz1_slr (env : List (Nat × AV)) (sto : List Blk) (b n : Nat) : (fz.fz1 (.slr b 0 n)).run ⟨env, sto⟩ = sto[b]?.bind fun B => (frp b n B).bind fun x => some ([x.1], [x.2]) := by
  simp only [fz.fz1, run_blk]
  cases sto[b]? with
  | none => rfl
  | some B =>
    cases B with
    | arr w z rows =>
      simp only [Option.bind_some, frp, Nat.zero_add, List.drop_zero]
      split <;> rfl
    | _ => rfl

theorem ar_s_aux (env : List (Nat × AV)) (sto : List Blk) (b n : Nat) (r : List AV) : (argsR (.slr b 0 n :: r)).run ⟨env, sto⟩ = sto[b]?.bind fun B => (frz b n B).bind fun x => ((argsR r).run ⟨env, sto⟩).bind fun a => some (x.1 :: a.1, x.2 :: a.2) := by
  simp only [argsR, argR, run_bind, fz_slr]
  cases sto[b]? with
  | none => rfl
  | some B =>
    cases B with
    | arr w z rows =>
      simp only [Option.bind_some, frp, frz]
      split
      · simp only [Option.bind_some, run_ret]; cases (argsR r).run ⟨env, sto⟩ <;> rfl
      · rfl
    | _ => rfl

theorem ar_a_aux (env : List (Nat × AV)) (sto : List Blk) (cs : List AV) (r : List AV) : (argsR (.agg cs :: r)).run ⟨env, sto⟩ = ((fz.fzL cs).run ⟨env, sto⟩).bind fun x => ((argsR r).run ⟨env, sto⟩).bind fun a => some (.data x.1 :: a.1, x.2 ++ a.2) := by
  simp only [argsR, argR, run_bind, fz]
  cases (fz.fzL cs).run ⟨env, sto⟩ with
  | none => rfl
  | some x => simp only [Option.bind_some, run_ret]

theorem fz_p_aux (env : List (Nat × AV)) (sto : List Blk) (c : PV) (r : List AV) : (fz.fzL (.p c :: r)).run ⟨env, sto⟩ = ((fz.fzL r).run ⟨env, sto⟩).bind fun a => some (c :: a.1, a.2) := by
  simp only [fz.fzL, fz.fz1, run_bind, run_ret, Option.bind_some]; rfl

theorem fz_s_aux (env : List (Nat × AV)) (sto : List Blk) (b n : Nat) (r : List AV) : (fz.fzL (.slr b 0 n :: r)).run ⟨env, sto⟩ = sto[b]?.bind fun B => (frp b n B).bind fun x => ((fz.fzL r).run ⟨env, sto⟩).bind fun a => some (x.1 :: a.1, x.2 :: a.2) := by
  simp only [fz.fzL, run_bind, fz1_slr]
  cases sto[b]? with
  | none => rfl
  | some B =>
    simp only [Option.bind_some]
    cases frp b n B with
    | none => rfl
    | some x => simp only [Option.bind_some]; cases (fz.fzL r).run ⟨env, sto⟩ <;> rfl

theorem gb_aux (env : List (Nat × AV)) (sto : List Blk) (b : Nat) : (getB [] b).run ⟨env, sto⟩ = sto[b]? := by
  simp only [getB, run_blk]
  cases sto[b]? <;> rfl

theorem ro_s_aux (env : List (Nat × AV)) (sto : List Blk) (e : Nat) (rows : List (List PV)) : (rowsOf e (.p (.sl e rows))).run ⟨env, sto⟩ = some rows := by simp [rowsOf]
theorem ro_t_aux (env : List (Nat × AV)) (sto : List Blk) (l : List UInt8) : (rowsOf 1 (.p (.s l))).run ⟨env, sto⟩ = some ((toByt l).map (r_i .u8)) := by simp [rowsOf, byteRows]

def roB (e n : Nat) (B : Blk) : Option (List (List PV)) := match B with
  | .arr _ z rows => if e = z ∧ 0 + n = rows.length then some (rows.drop 0) else none
  | _ => none
theorem ro_o_aux (env : List (Nat × AV)) (sto : List Blk) (e b n : Nat) : (rowsOf e (.slr b 0 n)).run ⟨env, sto⟩ = sto[b]?.bind fun B => roB e n B := by
  simp only [rowsOf, run_blk]
  cases sto[b]? with
  | none => rfl
  | some B =>
    cases B with
    | arr w z rows => simp only [Option.bind_some, roB]; split <;> rfl
    | _ => rfl
theorem ro_b_aux (e n : Nat) (w : Bool) (rows : List (List PV)) : roB e n (.arr w e rows) = if n = rows.length then some rows else none := by simp [roB]

theorem fs_aux (env : List (Nat × AV)) (sto : List Blk) (x : Opd) (r : List Opd) : (fzs (x :: r)).run ⟨env, sto⟩ = (evv x env).bind fun v => ((fz v).run ⟨env, sto⟩).bind fun a => ((fzs r).run ⟨env, sto⟩).bind fun c => some (a.1 :: c.1, a.2 ++ c.2) := by
  simp only [fzs, run_bind, run_ev]; rfl

theorem fzv_s_aux (env : List (Nat × AV)) (sto : List Blk) (b n : Nat) : (fz (.slr b 0 n)).run ⟨env, sto⟩ = sto[b]?.bind fun B => (frp b n B).bind fun x => some ([x.1], [x.2]) := fz_slr ..

theorem sl_p_aux (env : List (Nat × AV)) (sto : List Blk) (s : SK) (c : PV) (lo hi : Option AV) : (slR s (.p c) lo hi none).run ⟨env, sto⟩ = (slX s (.p c) lo hi).map fun v => ⟨v, []⟩ := by
  simp only [slR, slX]
  cases sliceP s (.p c) lo hi none <;> rfl

theorem sl_o_aux (env : List (Nat × AV)) (sto : List Blk) (s : SK) (b n : Nat) (lo hi : Option AV) : (slR s (.slr b 0 n) lo hi none).run ⟨env, sto⟩ = sto[b]?.bind fun B => (frz b n B).bind fun x => (slX s x.1 lo hi).map fun v => ⟨v, [x.2]⟩ := by
  simp only [slR, run_bind, fz_slr]
  cases sto[b]? with
  | none => rfl
  | some B =>
    cases B with
    | arr w z rows =>
      simp only [Option.bind_some, frp, frz]
      split
      · simp only [Option.bind_some, slX]; cases sliceP s (.p (.sl z rows)) lo hi none <;> rfl
      · rfl
    | _ => rfl

theorem cl_aux (n : Nat) (live : List Nat) (env : List (Nat × AV)) (sto : List Blk) : clean n live ⟨env, sto⟩ = if sto.length = n then some ⟨restr live env, sto⟩ else (finE n sto (restr live env)).bind fun e => (finBs n [] sto (sto.take n)).bind fun l => some ⟨e, l⟩ := by
  simp only [clean]
  split
  · rfl
  · cases finE n sto (restr live env) with
    | none => rfl
    | some e => cases finBs n [] sto (sto.take n) <;> rfl

theorem fe_aux (m k : Nat) (sto : List Blk) (x : AV) (r : List (Nat × AV)) : finE m sto ((k, x) :: r) = (fin m [] sto x).bind fun y => (finE m sto r).bind fun l => some ((k, y) :: l) := by
  simp only [finE]
  cases fin m [] sto x with
  | none => rfl
  | some y => cases finE m sto r <;> rfl

theorem fb_aux (m : Nat) (ids : List Nat) (sto : List Blk) (x : Blk) (r : List Blk) : finBs m ids sto (x :: r) = (finB m ids sto x).bind fun y => (finBs m ids sto r).bind fun l => some (y :: l) := by
  simp only [finBs]
  cases finB m ids sto x with
  | none => rfl
  | some y => cases finBs m ids sto r <;> rfl

theorem fbb_aux (m : Nat) (ids : List Nat) (sto : List Blk) (cs : List AV) : finB m ids sto (.box cs) = (fin.finL m ids sto cs).map .box := by
  simp only [finB]
  cases fin.finL m ids sto cs <;> rfl

theorem fl_aux (m : Nat) (ids : List Nat) (sto : List Blk) (x : AV) (r : List AV) : fin.finL m ids sto (x :: r) = (fin m ids sto x).bind fun y => (fin.finL m ids sto r).bind fun l => some (y :: l) := by
  simp only [fin.finL]
  cases fin m ids sto x with
  | none => rfl
  | some y => cases fin.finL m ids sto r <;> rfl

def fsl (k : Option Nat) (n : Nat) (B : Option Blk) : Option AV := match k with
  | some k => some (.slr k 0 n)
  | none => match B with
    | some (.arr _ z rows) => if n = rows.length then some (.p (.sl z rows)) else none
    | _ => none

theorem fsl_aux (m : Nat) (ids : List Nat) (sto : List Blk) (b n : Nat) : fin m ids sto (.slr b 0 n) = if b < m then some (.slr b 0 n) else fsl (idxN b ids m) n sto[b]? := by
  simp only [fin]
  split
  · rfl
  · cases idxN b ids m with
    | some k => rfl
    | none =>
      simp only [fsl]
      cases sto[b]? with
      | none => rfl
      | some B => cases B <;> simp

theorem fna_aux (m : Nat) (ids : List Nat) (sto : List Blk) (cs : List AV) : fin m ids sto (.agg cs) = (fin.finL m ids sto cs).bind fun l => some (aggV l (unp l)) := by
  simp only [fin]
  cases fin.finL m ids sto cs with
  | none => rfl
  | some l => simp only [Option.bind_some]; cases unp l <;> rfl

theorem fnt_aux (m : Nat) (ids : List Nat) (sto : List Blk) (x : AV) (cs : List AV) : fin m ids sto (.tup (x :: cs)) = (fin.finL m ids sto (x :: cs)).map .tup := by
  simp only [fin]
  cases fin.finL m ids sto (x :: cs) <;> rfl

theorem rs_t_aux (env : List (Nat × AV)) (sto : List Blk) (t : Nat) (r : List ARes) : (resR (.tmp t :: r)).run ⟨env, sto⟩ = (lk t env).bind fun v => ((resR r).run ⟨env, sto⟩).bind fun l => some (v :: l) := by
  simp only [resR, run_bind, run_slot, run_ret]
  cases lk t env <;> rfl

theorem rs_c_aux (env : List (Nat × AV)) (sto : List Blk) (t n : Nat) (g : Bool) (r : List ARes) : (resR (.cell t g n :: r)).run ⟨env, sto⟩ = (lk t env).bind fun v => ((loadR g n v).run ⟨env, sto⟩).bind fun e => ((resR r).run ⟨env, sto⟩).bind fun l => some (e.val :: l) := by
  simp only [resR, run_bind, run_slot, run_ret]
  cases lk t env <;> rfl

def oid (b : Nat) (B : Option Blk) (l : List Nat) : List Nat := match B with
  | some (.box _) => b :: l
  | _ => l

theorem oi_aux (m b : Nat) (sto : List Blk) (r : List Ent) : outIds m false sto (.whole b :: r) = if b < m then outIds m false sto r else oid b sto[b]? (outIds m false sto r) := by
  simp only [outIds]
  split
  · rfl
  · unfold oid
    cases sto[b]? with
    | none => rfl
    | some B => cases B <;> simp

def ebb (B : Option Blk) (acc : List Ent) : List Ent := match B with
  | some (.box cs) => entsOf.entsOfL cs acc
  | _ => acc

theorem eb_aux (sto : List Blk) (b : Nat) (r : List Ent) (acc : List Ent) : entsB sto (.whole b :: r) acc = entsB sto r (ebb sto[b]? acc) := by
  simp only [entsB, ebb]
  cases sto[b]? with
  | none => rfl
  | some B => cases B <;> rfl

theorem ae_aux (b c : Nat) (r : List Ent) : addEnt (.whole b) (.whole c :: r) = if c = b then .whole c :: r else .whole c :: addEnt (.whole b) r := by
  simp only [addEnt, List.any_cons]
  by_cases h : c = b
  · subst h; simp
  · simp [h]
    split <;> simp_all

theorem pb_aux (sto : List Blk) (b : Nat) (r : List Nat) : pickB sto (b :: r) = sto[b]?.bind fun x => (pickB sto r).bind fun l => some (x :: l) := by
  simp only [pickB]
  cases sto[b]? with
  | none => rfl
  | some x => cases pickB sto r <;> rfl


theorem subz_aux {α : Type} (a : α) (cs : List α) (n : Nat) : sub (a :: cs) 0 (n + 1) = (sub cs 0 n).map (a :: ·) := by
  rw [sub_def, sub_def]
  by_cases h : n ≤ cs.length
  · rw [if_pos (by simp; omega), if_pos (by omega)]; simp
  · rw [if_neg (by simp; omega), if_neg (by omega)]; rfl

theorem subs_aux {α : Type} (a : α) (cs : List α) (n m : Nat) : sub (a :: cs) (n + 1) m = sub cs n m := by
  rw [sub_def, sub_def]
  by_cases h : n + m ≤ cs.length
  · rw [if_pos (by simp; omega), if_pos h]; simp
  · rw [if_neg (by simp; omega), if_neg h]

theorem splz_aux {α : Type} (a b : α) (cs vs : List α) : spl (a :: cs) 0 (b :: vs) = (spl cs 0 vs).map (b :: ·) := by
  rw [spl_def, spl_def]
  by_cases h : vs.length ≤ cs.length
  · rw [if_pos (by simp; omega), if_pos (by omega)]; simp
  · rw [if_neg (by simp; omega), if_neg (by omega)]; rfl

theorem spls_aux {α : Type} (a : α) (cs : List α) (n : Nat) (vs : List α) : spl (a :: cs) (n + 1) vs = (spl cs n vs).map (a :: ·) := by
  rw [spl_def, spl_def]
  by_cases h : n + vs.length ≤ cs.length
  · rw [if_pos (by simp; omega), if_pos h]
    rw [show n + 1 + vs.length = (n + vs.length) + 1 by omega]; simp
  · rw [if_neg (by simp; omega), if_neg h]; rfl

theorem fi_r_aux (off size : Nat) (c : List AV) (a : AV) (cs : List AV) (r : List (Nat × Nat × List AV)) : fillAll ((off, size, c) :: r) (a :: cs) = if c.length = size then (spl (a :: cs) off c).bind fun cs => fillAll r cs else none := by
  simp only [fillAll]
  split
  · cases spl (a :: cs) off c <;> rfl
  · rfl


theorem fnf_aux (m : Nat) (ids : List Nat) (sto : List Blk) (f : FuncId) (a c : List AV) : fin m ids sto (.fn f a c) = (fin.finL m ids sto a).bind fun a1 => (fin.finL m ids sto c).bind fun c1 => some (.fn f a1 c1) := by
  simp only [fin]
  cases fin.finL m ids sto a with
  | none => rfl
  | some a1 => cases fin.finL m ids sto c <;> rfl

def lwO (x y : Option Blk) : Option Blk := match x with
  | some x => some x
  | none => y

theorem lw_aux (b c : Nat) (x : Blk) (r : List (Nat × Blk)) : lastW b ((c, x) :: r) = lwO (lastW b r) (if c = b then some x else none) := by
  simp only [lastW]
  cases lastW b r <;> rfl

theorem gbc_aux (env : List (Nat × AV)) (sto : List Blk) (b c : Nat) (x : Blk) (ws : List (Nat × Blk)) : (getB ((c, x) :: ws) b).run ⟨env, sto⟩ = sto[b]?.bind fun y => some ((lastW b ((c, x) :: ws)).getD y) := by
  simp only [getB, run_blk]
  cases sto[b]? with
  | none => rfl
  | some y => simp only [Option.bind_some]; cases lastW b ((c, x) :: ws) <;> rfl

@[congr] theorem cvg_congr {α : Type} {u u' : AV} {k : FuncId → List AV → List AV → Option α} (h : u = u') : cvg u k = cvg u' k := by rw [h]

/-! ### What operations read -/

theorem ev_reads (x : Opd) (s : St) : blksOf ((ev x).reads s) = [] := by
  cases x with
  | t n => simp only [ev, RM.reads]; cases lk n s.env <;> rfl
  | c v => rfl

theorem blksOf_app (a b : List Loc) : blksOf (a ++ b) = blksOf a ++ blksOf b := by
  induction a with
  | nil => rfl
  | cons x r ih => cases x <;> simp [blksOf, ih]

def rb {α β : Type} (m : Option α) (f : α → List β) : List β := match m with
  | some a => f a
  | none => []

theorem rd_bind {α β : Type} (m : RM α) (f : α → RM β) (s : St) : blksOf ((m.bind f).reads s) = blksOf (m.reads s) ++ rb (m.run s) fun a => blksOf ((f a).reads s) := by
  rw [reads_bind, blksOf_app]
  cases m.run s <;> rfl

theorem rd_ev {β : Type} (x : Opd) (f : AV → RM β) (s : St) : blksOf (((ev x).bind f).reads s) = rb (evv x s.env) fun a => blksOf ((f a).reads s) := by
  rw [rd_bind, ev_reads, run_ev]; rfl

theorem val_reads (o : Option AV) (s : St) : blksOf ((Go.Am.val o).reads s) = [] := by cases o <;> rfl

section
variable (F : Orc) (new : Nat) (env : List (Nat × AV)) (sto : List Blk)

theorem rdO_0 {op : AOp} (h : newOf op = 0) (s : St) : rdO F op new s = blksOf ((opR F op new).reads s) := by
  unfold rdO opD
  rw [rd_bind, h]; rfl

def is1 (b : Option Blk) : Option Unit := match b with
  | some .dead => some ()
  | _ => none

theorem rdO_1 {op : AOp} (h : newOf op = 1) (s : St) : rdO F op new s = new :: rb (is1 s.sto[new]?) fun _ => blksOf ((opR F op new).reads s) := by
  unfold rdO opD
  rw [rd_bind, h]
  simp only [deadR, RM.reads, RM.run, blksOf]
  cases s.sto[new]? with
  | none => rfl
  | some b => cases b <;> rfl

end

theorem rb_nil {α β : Type} (m : Option α) : (rb m fun _ => ([] : List β)) = [] := by cases m <;> rfl

theorem rd_load (F : Orc) (new : Nat) (env : List (Nat × AV)) (sto : List Blk) (g : Bool) (n : Nat) (x : Opd) : rdO F (.load g n x) new ⟨env, sto⟩ = rb (evv x env) fun a => blksOf ((loadR g n a).reads ⟨env, sto⟩) := by
  rw [rdO_0 (h := rfl)]; exact rd_ev ..

theorem ldr_ptr (s : St) (g : Bool) (n b o : Nat) : blksOf ((loadR g n (.ptr b o)).reads s) = [b] := by
  simp only [loadR, RM.reads, blksOf]
  cases s.sto[b]? with
  | none => rfl
  | some B =>
    cases B with
    | box cs => simp only []; cases sub cs o n with
      | none => rfl
      | some l => simp only [val_reads]
    | _ => rfl

theorem ldr_cp (s : St) (g : Bool) (n o : Nat) (cs : List PV) : blksOf ((loadR g n (.cp cs o)).reads s) = [] := by
  simp only [loadR]
  cases sub cs o n with
  | none => rfl
  | some l => exact val_reads ..

theorem ldr_ep (s : St) (g : Bool) (n b e i o : Nat) : blksOf ((loadR g n (.ep b e i o)).reads s) = [b] := by
  simp only [loadR, RM.reads, blksOf]
  cases s.sto[b]? with
  | none => rfl
  | some B =>
    cases B with
    | arr w z rows =>
      simp only []
      split
      · cases rows[i]? with
        | none => rfl
        | some row =>
          simp only []
          cases sub row o n with
          | none => rfl
          | some l => simp only [val_reads]
      · rfl
    | _ => rfl

theorem rd_newbox (F : Orc) (new : Nat) (s : St) (z : List PV) : rdO F (.newbox z) new s = [new] := by
  rw [rdO_1 (h := rfl)]; simp only [opR, RM.reads, blksOf, rb_nil]

theorem rd_store (F : Orc) (new : Nat) (env : List (Nat × AV)) (sto : List Blk) (n : Nat) (x y : Opd) : rdO F (.store n x y) new ⟨env, sto⟩ = rb (evv x env) fun a => rb (evv y env) fun c => blksOf ((storeR n a c).reads ⟨env, sto⟩) := by
  rw [rdO_0 (h := rfl)]
  simp only [opR, rd_ev]

theorem str_ptr (s : St) (n b o : Nat) (v : AV) : blksOf ((storeR n (.ptr b o) v).reads s) = [b] := by
  simp only [storeR, RM.reads, blksOf]
  cases s.sto[b]? with
  | none => rfl
  | some B =>
    cases B with
    | box cs =>
      simp only []
      cases cellsOf v with
      | none => rfl
      | some l =>
        simp only []
        split
        · cases spl cs o l <;> rfl
        · rfl
    | _ => rfl

theorem str_ep (s : St) (n b e i o : Nat) {v : AV} {c : List PV} (hv : fz v = .ret (c, [])) : blksOf ((storeR n (.ep b e i o) v).reads s) = [b] := by
  simp only [storeR, RM.reads, blksOf]
  cases s.sto[b]? with
  | none => rfl
  | some B =>
    cases B with
    | arr w z rows =>
      cases w with
      | false => rfl
      | true =>
        simp only []
        split
        · cases rows[i]? with
          | none => rfl
          | some row =>
            simp only [hv, rd_bind, RM.reads, blksOf, run_ret, rb, List.nil_append]
            split
            · cases spl row o c <;> rfl
            · rfl
        · rfl
    | _ => rfl

theorem str_ep_p (s : St) (n b e i o : Nat) (c : PV) : blksOf ((storeR n (.ep b e i o) (.p c)).reads s) = [b] := str_ep s n b e i o rfl
theorem str_ep_d (s : St) (n b e i o : Nat) (c : List PV) : blksOf ((storeR n (.ep b e i o) (.data c)).reads s) = [b] := str_ep s n b e i o rfl

theorem evs_reads (s : St) : ∀ args, blksOf ((evs args).reads s) = []
  | [] => rfl
  | x :: r => by
    simp only [evs, rd_ev]
    cases evv x s.env with
    | none => rfl
    | some v =>
      simp only [rb, rd_bind, evs_reads s r, List.nil_append]
      cases (evs r).run s <;> rfl

theorem call_reads (F : Orc) (g : FuncId) (args : List Opd) (n new : Nat) (s : St) : blksOf ((opR F (.call g args n) new).reads s) = rb ((evs args).run s) fun a => blksOf ((argsR a).reads s) ++ rb ((argsR a).run s) fun a => blksOf ((callR2 F g a n new).reads s) := by
  simp only [opR, rd_bind, evs_reads, List.nil_append, callR_2]

theorem rd_call0 (F : Orc) (new : Nat) (s : St) (g : FuncId) (args : List Opd) : rdO F (.call g args 0) new s = rb ((evs args).run s) fun a => blksOf ((argsR a).reads s) ++ rb ((argsR a).run s) fun a => blksOf ((callR2 F g a 0 new).reads s) := by
  rw [rdO_0 (h := rfl)]; exact call_reads ..

theorem rd_call1 (F : Orc) (new : Nat) (s : St) (g : FuncId) (args : List Opd) : rdO F (.call g args 1) new s = new :: rb (is1 s.sto[new]?) fun _ => rb ((evs args).run s) fun a => blksOf ((argsR a).reads s) ++ rb ((argsR a).run s) fun a => blksOf ((callR2 F g a 1 new).reads s) := by
  rw [rdO_1 (h := rfl)]; simp only [call_reads]

theorem arr_cons (s : St) {v : AV} (h : argR v = .ret (v, [])) (r : List AV) : blksOf ((argsR (v :: r)).reads s) = blksOf ((argsR r).reads s) := by
  simp only [argsR, h, rd_bind, RM.reads, blksOf, run_ret, rb, List.nil_append]
  cases (argsR r).run s <;> simp [RM.reads, blksOf]

theorem fz_slr_reads (s : St) (b n : Nat) : blksOf ((fz (.slr b 0 n)).reads s) = [b] := by
  simp only [fz, RM.reads, blksOf]
  cases s.sto[b]? with
  | none => rfl
  | some B =>
    cases B with
    | arr w z rows => simp only []; split <;> rfl
    | _ => rfl

theorem arr_slr (s : St) (b n : Nat) (r : List AV) : blksOf ((argsR (.slr b 0 n :: r)).reads s) = b :: rb ((argR (.slr b 0 n)).run s) fun _ => blksOf ((argsR r).reads s) := by
  have h1 : blksOf ((argR (.slr b 0 n)).reads s) = [b] := by
    simp only [argR, rd_bind, fz_slr_reads]
    cases (fz (.slr b 0 n)).run s with
    | none => rfl
    | some a =>
      simp only [rb]
      match a.1 with
      | [] => rfl
      | [_] => rfl
      | _ :: _ :: _ => rfl
  simp only [argsR, rd_bind, h1]
  cases (argR (.slr b 0 n)).run s with
  | none => rfl
  | some a => simp only [rb]; cases (argsR r).run s <;> simp [RM.reads, blksOf]

theorem callR2_reads_plain {F : Orc} {f : FuncId} {args : List AV} (hp : args.all plainA = true) (ws : List (Nat × Blk)) (k new : Nat) (s : St) : blksOf ((callR2 F f (args, ws) k new).reads s) = [] := by
  have e1 : entsOf.entsOfL args [] = [] := ents_plain hp
  simp only [callR2, e1, extE, rd_bind, RM.reads, blksOf, run_ret, rb, List.nil_append, List.map_nil, nodupB, if_true, ren_plain hp, blksIn]
  cases F f args [] with
  | none => rfl
  | some r =>
    simp only []
    split
    · simp only [List.length_nil, List.drop_zero]
      cases bk [] new r.1 with
      | none => rfl
      | some v =>
        cases blksNew [] new new r.2 with
        | none => rfl
        | some fr => simp only [blksOut, rd_bind, RM.reads, blksOf, run_ret, rb, List.nil_append]
    · rfl

theorem callR2_reads_ptr {F : Orc} {f : FuncId} {b o : Nat} {args : List AV} {cs : List AV} (hp : args.all plainA = true) (hc : cs.all plainA = true)
    (ws : List (Nat × Blk)) (k new : Nat) (s : St) (hb : (getB ws b).run s = some (.box cs)) : blksOf ((callR2 F f (.ptr b o :: args, ws) k new).reads s) = [b, b, b] := by
  have e1 : entsOf.entsOfL (.ptr b o :: args) [] = [.whole b] := by
    simp only [entsOf.entsOfL, entsOf, addEnt, List.any_nil, Bool.false_eq_true, if_false, List.nil_append]
    exact ents_plain hp
  have gr : blksOf ((getB ws b).reads s) = [b] := by
    simp only [getB, RM.reads, blksOf]
    cases s.sto[b]? with
    | none => rfl
    | some B => simp only []; cases lastW b ws <;> rfl
  have e2 : (extE ws [.whole b] [.whole b]).run s = some [.whole b] := by
    simp only [extE, run_bind, hb, Option.bind_some, ents_plain hc, run_ret]
  have g2 : blksOf ((extE ws [.whole b] [.whole b]).reads s) = [b] := by
    simp only [extE, rd_bind, gr, hb, rb, ents_plain hc, RM.reads, blksOf, List.append_nil]
  have n1 : nodupB ([Ent.whole b].map Ent.id) = true := rfl
  have e4 : ren.renL (fun e => entAt e [Ent.whole b] 0) (.ptr b o :: args) = some (.ptr 0 o :: args) := by
    simp [ren.renL, ren, entAt, ren_plain hp]
  have e3 : (blksIn ws (fun e => entAt e [Ent.whole b] 0) [Ent.whole b]).run s = some [.box cs] := by
    simp only [blksIn, run_bind, blkIn, hb, Option.bind_some, ren_plain hc, run_ret]
  have g3 : blksOf ((blksIn ws (fun e => entAt e [Ent.whole b] 0) [Ent.whole b]).reads s) = [b] := by
    simp only [blksIn, rd_bind, blkIn, gr, hb, rb, ren_plain hc, RM.reads, blksOf, run_ret, List.append_nil, run_bind, Option.bind_some]
  simp only [callR2, e1, rd_bind, g2, e2, rb, n1, if_true, e4, g3, e3]
  cases F f (.ptr 0 o :: args) [.box cs] with
  | none => simp [RM.reads, blksOf]
  | some r =>
    simp only []
    split
    · cases bk [Ent.whole b] new r.1 with
      | none => simp [RM.reads, blksOf]
      | some v =>
        cases blksNew [Ent.whole b] new new (r.2.drop [Ent.whole b].length) with
        | none => simp [RM.reads, blksOf]
        | some fr =>
          have g5 : blksOf ((blksOut ws [Ent.whole b] new [Ent.whole b] r.2).reads s) = [] := by
            cases r.2 with
            | nil => rfl
            | cons B l =>
              have g6 : blksOf ((blkOut ws [Ent.whole b] new (Ent.whole b) B).reads s) = [] := by
                cases B with
                | box cs => simp only [blkOut]; cases bk.bkL [Ent.whole b] new cs <;> rfl
                | _ => rfl
              simp only [blksOut, rd_bind, g6, List.nil_append]
              cases (blkOut ws [Ent.whole b] new (Ent.whole b) B).run s <;> simp [rb, RM.reads, blksOf, run_ret]
          simp only [rd_bind, g5, List.nil_append]
          cases (blksOut ws [Ent.whole b] new [Ent.whole b] r.2).run s <;> simp [rb, RM.reads, blksOf]
    · simp [RM.reads, blksOf]

theorem rest_lits (s : St) (o : Bool) (e n new : Nat) (z : List PV) (ps : List (Nat × Opd)) : blksOf ((ltR o e n z ps new).reads s) = blksOf ((fzs (ps.map (·.2))).reads s) := by
  simp only [ltR, rd_bind]
  cases (fzs (ps.map (·.2))).run s with
  | none => simp [rb]
  | some a =>
    simp only [rb]
    cases placeAll e ((ps.map (·.1)).zip a.1) (List.replicate n z) with
    | none => simp [RM.reads, blksOf]
    | some rows => cases o <;> simp [RM.reads, blksOf]

theorem rd_lits0 (F : Orc) (new : Nat) (s : St) (e n : Nat) (z : List PV) (ps : List (Nat × Opd)) : rdO F (.lits false e n z ps) new s = blksOf ((fzs (ps.map (·.2))).reads s) := by
  rw [rdO_0 (h := rfl)]; exact rest_lits ..
theorem rd_lits1 (F : Orc) (new : Nat) (s : St) (e n : Nat) (z : List PV) (ps : List (Nat × Opd)) : rdO F (.lits true e n z ps) new s = new :: rb (is1 s.sto[new]?) fun _ => blksOf ((fzs (ps.map (·.2))).reads s) := by
  rw [rdO_1 (h := rfl)]
  congr 2; funext _
  exact rest_lits ..
theorem fzs_rd (s : St) (x : Opd) (r : List Opd) : blksOf ((fzs (x :: r)).reads s) = rb (evv x s.env) fun v => blksOf ((fz v).reads s) ++ rb ((fz v).run s) fun _ => blksOf ((fzs r).reads s) := by
  have e0 : fzs (x :: r) = (ev x).bind fun v => (fz v).bind fun a => (fzs r).bind fun c => .ret (a.1 :: c.1, a.2 ++ c.2) := rfl
  rw [e0, rd_ev]
  cases evv x s.env with
  | none => rfl
  | some v =>
    dsimp only [rb]
    rw [rd_bind]
    cases (fz v).run s with
    | none => rfl
    | some a => 
      dsimp only [rb]
      rw [rd_bind]
      cases (fzs r).run s <;> simp [rb, RM.reads, blksOf]

theorem rd_conv0 (F : Orc) (new : Nat) (s : St) (x : Opd) : rdO F (.conv .toStr x) new s = rb (evv x s.env) fun a => blksOf ((rowsOf 1 a).reads s) := by
  rw [rdO_0 (h := rfl)]
  simp only [opR, rd_ev]
  congr 1; funext a
  simp only [rd_bind]
  cases (rowsOf 1 a).run s with
  | none => simp [rb]
  | some rows => simp only [rb]; cases bytesOf rows <;> simp [RM.reads, blksOf]
theorem ro_rd_slr (s : St) (e b n : Nat) : blksOf ((rowsOf e (.slr b 0 n)).reads s) = [b] := by
  simp only [rowsOf, RM.reads, blksOf]
  cases s.sto[b]? with
  | none => rfl
  | some B =>
    cases B with
    | arr w z rows => simp only []; split <;> rfl
    | _ => rfl
theorem ro_rd_sl (s : St) (e z : Nat) (rows : List (List PV)) : blksOf ((rowsOf e (.p (.sl z rows))).reads s) = [] := by
  simp only [rowsOf]; split <;> rfl
theorem rd_iaddr (F : Orc) (new : Nat) (s : St) (e : Nat) (x i : Opd) : rdO F (.iaddr e x i) new s = rb (evv x s.env) fun a => rb (evv i s.env) fun c => blksOf ((iaddrR e a c).reads s) := by
  rw [rdO_0 (h := rfl)]; simp only [opR, rd_ev]
theorem ia_rd_slr (s : St) (e b n : Nat) (k : IntKind) (i : Int) : blksOf ((iaddrR e (.slr b 0 n) (.p (.i k i))).reads s) = [b] := by
  simp only [iaddrR, RM.reads, blksOf]
  cases s.sto[b]? with
  | none => rfl
  | some B =>
    cases B with
    | arr w z rows => simp only []; split <;> rfl
    | _ => rfl
theorem ia_rd_sl (s : St) (e z : Nat) (rows : List (List PV)) (k : IntKind) (i : Int) : blksOf ((iaddrR e (.p (.sl z rows)) (.p (.i k i))).reads s) = [] := by
  simp only [iaddrR]
  split
  · cases rowAt rows i <;> rfl
  · rfl

theorem cv_t (env : List (Nat × AV)) (sto : List Blk) (l : List Int) (new : Nat) : (cvR .toStr (.p (.sl 1 (l.map (r_i .u8)))) new).run ⟨env, sto⟩ = some ⟨.p (.s (toStr l)), []⟩ := cv_t_aux ..

theorem cv_ob (n : Nat) (w : Bool) (l : List Int) : cvB n (.arr w 1 (l.map (r_i .u8))) = if n = l.length then some ⟨.p (.s (toStr l)), []⟩ else none := cvB_aux ..

theorem fr (b n z : Nat) (w : Bool) (rows : List (List PV)) : frz b n (.arr w z rows) = if n = rows.length then some (.p (.sl z rows), (b, .arr false z rows)) else none := rfl

theorem mk (o : Bool) (e b new : Nat) (z : List PV) (k k2 : IntKind) (n m : Int) : mkP o e b z (.p (.i k n)) (.p (.i k2 m)) new = if 0 ≤ n ∧ n ≤ m ∧ b * m ≤ 281474976710656 ∧ m ≤ 281474976710656 then some (if o then ⟨.slr new 0 n.toNat, [(new, .arr true e (List.replicate n.toNat z))]⟩ else ⟨.p (.sl e (List.replicate n.toNat z)), []⟩) else none := rfl

theorem cl (n : Nat) (live : List Nat) (env : List (Nat × AV)) (sto : List Blk) : clean n live ⟨env, sto⟩ = if sto.length = n then some ⟨restr live env, sto⟩ else (finE n sto (restr live env)).bind fun e => (finBs n [] sto (sto.take n)).bind fun l => some ⟨e, l⟩ := cl_aux ..

theorem c_a0 {α : Type} (l : List α) : [] ++ l = l := rfl

theorem c_an {α : Type} (l : List α) : l ++ [] = l := List.append_nil l

theorem c_ac {α : Type} (a : α) (l r : List α) : (a :: l) ++ r = a :: (l ++ r) := rfl

theorem c_m0 {α β : Type} (g : α → β) : List.map g [] = [] := rfl

theorem c_mc {α β : Type} (g : α → β) (a : α) (l : List α) : List.map g (a :: l) = g a :: List.map g l := rfl

theorem c_l0 {α : Type} : ([] : List α).length = 0 := rfl

theorem c_lc {α : Type} (a : α) (l : List α) : (a :: l).length = l.length + 1 := rfl

theorem c_ri (k : IntKind) (n : Int) : r_i k n = [.i k n] := rfl

theorem c_rb (x : Bool) : r_b x = [.b x] := rfl

theorem c_rs2 (x : List UInt8) : r_s x = [.s x] := rfl

theorem c_rl {α : Type} (e : Nat) (g : α → List PV) (l : List α) : r_sl e g l = [.sl e (l.map g)] := rfl

theorem s1 (a : PV) : sub [a] 0 1 = some [a] := rfl

/-! ### Equations that a run is evaluated by, from outside -/
set_option maxRecDepth 30000 in
theorem Da : (∀ T f m k s, rk T f m k (X T .skip s) = rk T f m k (some (.normal, s))) ∧
  (∀ T f m k a b s, rk T f m k (X T (.seq a b) s) = rk T f m (.sq b :: k) (X T a s)) ∧
  (∀ T f m k d ins env sto, rk T f m k (X T (.reg d [] ins) ⟨env, sto⟩) = rk T f m k (endG (runG (AF T) ins sto.length ⟨env, room (news ins) sto⟩ none))) ∧
  (∀ T f m k d q ps ins env sto, rk T f m k (X T (.reg d (q :: ps) ins) ⟨env, sto⟩) = rk T f m k (endP (q :: ps) (runG (AF T) ins sto.length ⟨env, room (news ins) sto⟩ (some [])))) ∧
  (∀ T f m k i c s, rk T f m k (X T (.block i c) s) = rk T f m (.bl i :: k) (X T c s)) ∧
  (∀ T f m k c s, rk T f m k (X T (.scope c) s) = rk T f m k (X T c s)) ∧
  (∀ T f m k i s, rk T f m k (X T (.exit i) s) = rk T f m k (some (.exit i, s))) ∧
  (∀ T f m k s, rk T f m k (X T .ret s) = rk T f m k (some (.ret, s))) ∧
  (∀ T f m k live c env sto, rk T f m k (X T (.keep live c) ⟨env, sto⟩) = rk T f m k (X T c ⟨restr live env, sto⟩)) ∧
  (∀ T f m k live c env sto, rk T f m k (X T (.tidy live c) ⟨env, sto⟩) = rk T f m (.td sto.length live :: k) (X T c ⟨env, sto⟩)) ∧
  (∀ T f m k live c env sto, rk T f m k (X T (.loop live c) ⟨env, sto⟩) = rk T f m k (X T (.lp sto.length live c) ⟨restr live env, sto⟩)) ∧
  (∀ T f m k x a b env sto, rk T f m k (X T (.cond x a b) ⟨env, sto⟩) = rk T f m k (cnd (evv x env) (hold (X T a ⟨env, sto⟩) (.mk _)) (hold (X T b ⟨env, sto⟩) (.mk _)) (hold (fun _ => same (X T a ⟨env, sto⟩) (X T b ⟨env, sto⟩)) (.mk _)))) ∧
  (∀ a b h c, cnd (some (.p (.b true))) (hold a h) b c = a) ∧
  (∀ a b h c, cnd (some (.p (.b false))) a (hold b h) c = b) ∧
  (∀ T f m k b s, rk T f m (.sq b :: k) (some (.normal, s)) = rk T f m k (X T b s)) ∧
  (∀ T f m k b i s, rk T f m (.sq b :: k) (some (.exit i, s)) = rk T f m k (some (.exit i, s))) ∧
  (∀ T f m k b s, rk T f m (.sq b :: k) (some (.ret, s)) = rk T f m k (some (.ret, s))) ∧
  (∀ T f m k i s, rk T f m (.bl i :: k) (some (.normal, s)) = rk T f m k (some (.normal, s))) ∧
  (∀ T f m k i j s, rk T f m (.bl i :: k) (some (.exit j, s)) = if j = i then rk T f m k (some (.normal, s)) else rk T f m k (some (.exit j, s))) ∧
  (∀ T f m k i s, rk T f m (.bl i :: k) (some (.ret, s)) = rk T f m k (some (.ret, s))) ∧
  (∀ T f m k n live e s, rk T f m (.td n live :: k) (some (e, s)) = rk T f m k (tdn e (clean n live s))) ∧
  (∀ e s, tdn e (some s) = some (e, s)) ∧
  (∀ T f m k n live c s, rk T f m (.lo n live c :: k) (some (.normal, s)) = rk T f m k (again T n live c (clean n live s))) ∧
  (∀ T n live c s, again T n live c (some s) = X T (.lp n live c) s) ∧
  (∀ T f m k n live c i s, rk T f m (.lo n live c :: k) (some (.exit i, s)) = rk T f m k (some (.exit i, s))) ∧
  (∀ T f m k n live c s, rk T f m (.lo n live c :: k) (some (.ret, s)) = rk T f m k (some (.ret, s))) ∧
  (∀ T f m s, rk T f m [] (some (.normal, s)) = fin1 f.res f.fresh m s) ∧
  (∀ T f m s, rk T f m [] (some (.ret, s)) = fin1 f.res f.fresh m s) ∧
  (∀ s l, endG (some (s, l)) = some (.normal, s)) ∧
  (∀ s l ps, endP ps (some (s, some l)) = if pairsOk l ps = true then some (.normal, s) else none) ∧
  (∀ l, pairsOk l [] = true) ∧
  (∀ l i j ps, pairsOk l ((i, j) :: ps) = (pkk l[i]? l[j]? && pairsOk l ps)) ∧
  (∀ a b, lgA none a b = none) ∧
  (∀ l a b, lgA (some l) a b = some (l ++ [(a, b)])) ∧
  (∀ {α : Type} (a : α) (l : List α), (a :: l)[0]? = some a) ∧
  (∀ {α : Type} (a : α) (l : List α) (n : Nat), (a :: l)[n + 1]? = l[n]?) ∧
  (∀ F new s lg, runG F [] new s lg = some (s, lg)) ∧
  (∀ F r new env sto lg d x, runG F (⟨.mv x, some d, none⟩ :: r) new ⟨env, sto⟩ lg = (evv x env).bind fun v => runG F r new ⟨(d, v) :: env, sto⟩ (lgA lg (rdO F (.mv x) new ⟨env, sto⟩) [])) ∧
  (∀ F r new env sto lg d c a b, runG F (⟨.pick c a b, some d, none⟩ :: r) new ⟨env, sto⟩ lg = (evv c env).bind fun u => pkh u (evv a env) (evv b env) (hold (fun v => runG F r new ⟨(d, v) :: env, sto⟩ (lgA lg (rdO F (.pick c a b) new ⟨env, sto⟩) [])) (.mk _))) ∧
  (∀ F r new env sto lg d op t x y, runG F (⟨.bin op t x y, some d, none⟩ :: r) new ⟨env, sto⟩ lg = (evv x env).bind fun a => (evv y env).bind fun c => (binP op t a c).bind fun v => runG F r new ⟨(d, v) :: env, sto⟩ (lgA lg (rdO F (.bin op t x y) new ⟨env, sto⟩) [])) ∧
  (∀ F r new env sto lg d op x, runG F (⟨.un op x, some d, none⟩ :: r) new ⟨env, sto⟩ lg = (evv x env).bind fun a => (unP op a).bind fun v => runG F r new ⟨(d, v) :: env, sto⟩ (lgA lg (rdO F (.un op x) new ⟨env, sto⟩) [])) ∧
  (∀ F r new env sto lg d g off n x, runG F (⟨.field g off n x, some d, none⟩ :: r) new ⟨env, sto⟩ lg = (evv x env).bind fun a => (fieldP g off n a).bind fun v => runG F r new ⟨(d, v) :: env, sto⟩ (lgA lg (rdO F (.field g off n x) new ⟨env, sto⟩) [])) ∧
  (∀ F r new env sto lg d off x, runG F (⟨.faddr off x, some d, none⟩ :: r) new ⟨env, sto⟩ lg = (evv x env).bind fun a => (faddrP off a).bind fun v => runG F r new ⟨(d, v) :: env, sto⟩ (lgA lg (rdO F (.faddr off x) new ⟨env, sto⟩) [])) ∧
  (∀ F r new env sto lg d x i, runG F (⟨.extr x i, some d, none⟩ :: r) new ⟨env, sto⟩ lg = (evv x env).bind fun a => (extrP i a).bind fun v => runG F r new ⟨(d, v) :: env, sto⟩ (lgA lg (rdO F (.extr x i) new ⟨env, sto⟩) [])) ∧
  (∀ F r new env sto lg d b x, runG F (⟨.len b x, some d, none⟩ :: r) new ⟨env, sto⟩ lg = (evv x env).bind fun a => (lenP b a).bind fun v => runG F r new ⟨(d, v) :: env, sto⟩ (lgA lg (rdO F (.len b x) new ⟨env, sto⟩) [])) ∧
  (∀ F r new env sto lg d n, runG F (⟨.alen n, some d, none⟩ :: r) new ⟨env, sto⟩ lg = runG F r new ⟨(d, .p (.i .i64 n)) :: env, sto⟩ (lgA lg (rdO F (.alen n) new ⟨env, sto⟩) [])) ∧
  (∀ F r new env sto lg d b x y, runG F (⟨.mm b x y, some d, none⟩ :: r) new ⟨env, sto⟩ lg = (evv x env).bind fun a => (evv y env).bind fun c => (mmP b a c).bind fun v => runG F r new ⟨(d, v) :: env, sto⟩ (lgA lg (rdO F (.mm b x y) new ⟨env, sto⟩) [])) ∧
  (∀ F r new env sto lg d n e x i, runG F (⟨.aaddr n e x i, some d, none⟩ :: r) new ⟨env, sto⟩ lg = (evv x env).bind fun a => (evv i env).bind fun c => (aaddrP n e a c).bind fun v => runG F r new ⟨(d, v) :: env, sto⟩ (lgA lg (rdO F (.aaddr n e x i) new ⟨env, sto⟩) [])) ∧
  (∀ F r new env sto lg d e x i, runG F (⟨.iaddr e x i, some d, none⟩ :: r) new ⟨env, sto⟩ lg = (evv x env).bind fun a => (evv i env).bind fun c => ((iaddrR e a c).run ⟨env, sto⟩).bind fun q => runG F r new ⟨(d, q.val) :: env, upd q.ws sto⟩ (lgA lg (rdO F (.iaddr e x i) new ⟨env, sto⟩) (q.ws.map (·.1)))) ∧
  (∀ F r new env sto lg d x i, runG F (⟨.sidx x i, some d, none⟩ :: r) new ⟨env, sto⟩ lg = (evv x env).bind fun a => (evv i env).bind fun c => (sidP a c).bind fun v => runG F r new ⟨(d, v) :: env, sto⟩ (lgA lg (rdO F (.sidx x i) new ⟨env, sto⟩) [])) ∧
  (∀ F r new env sto lg d g n e x i, runG F (⟨.aidx g n e x i, some d, none⟩ :: r) new ⟨env, sto⟩ lg = (evv x env).bind fun a => (evv i env).bind fun c => (aidP g n e a c).bind fun v => runG F r new ⟨(d, v) :: env, sto⟩ (lgA lg (rdO F (.aidx g n e x i) new ⟨env, sto⟩) [])) ∧
  (∀ F r new env sto lg d x, runG F (⟨.nilchk x, some d, none⟩ :: r) new ⟨env, sto⟩ lg = (evv x env).bind fun a => (nckP a).bind fun v => runG F r new ⟨(d, v) :: env, sto⟩ (lgA lg (rdO F (.nilchk x) new ⟨env, sto⟩) [])) ∧
  (∀ F r new env sto lg d g n x, runG F (⟨.load g n x, some d, none⟩ :: r) new ⟨env, sto⟩ lg = (evv x env).bind fun a => ((loadR g n a).run ⟨env, sto⟩).bind fun q => runG F r new ⟨(d, q.val) :: env, upd q.ws sto⟩ (lgA lg (rdO F (.load g n x) new ⟨env, sto⟩) (q.ws.map (·.1)))) ∧
  (∀ F r new env sto lg n x y, runG F (⟨.store n x y, none, none⟩ :: r) new ⟨env, sto⟩ lg = (evv x env).bind fun a => (evv y env).bind fun c => ((storeR n a c).run ⟨env, sto⟩).bind fun q => runG F r new ⟨env, upd q.ws sto⟩ (lgA lg (rdO F (.store n x y) new ⟨env, sto⟩) (q.ws.map (·.1)))) ∧
  (∀ F r new env sto lg d c x, runG F (⟨.conv c x, some d, none⟩ :: r) new ⟨env, sto⟩ lg = (evv x env).bind fun a => dds (newOf (.conv c x)) new sto (((cvR c a new).run ⟨env, sto⟩).bind fun e => runG F r (new + newOf (.conv c x)) ⟨(d, e.val) :: env, upd e.ws sto⟩ (lgA lg (rdO F (.conv c x) new ⟨env, sto⟩) (e.ws.map (·.1))))) ∧
  (∀ F r new env sto lg d z ps, runG F (⟨.build z ps, some d, none⟩ :: r) new ⟨env, sto⟩ lg = ((partsR ps).run ⟨env, sto⟩).bind fun l => (fillAll l (z.map .p)).bind fun cs => (ofCells true cs).bind fun v => runG F r new ⟨(d, v) :: env, sto⟩ (lgA lg (rdO F (.build z ps) new ⟨env, sto⟩) [])) ∧
  (∀ F r new env sto lg d s x lo hi mx, runG F (⟨.slice s x lo hi mx, some d, none⟩ :: r) new ⟨env, sto⟩ lg = (evv x env).bind fun a => (evo1 lo env).bind fun lo1 => (evo1 hi env).bind fun hi1 => (evo1 mx env).bind fun mx1 => ((slR s a lo1 hi1 mx1).run ⟨env, sto⟩).bind fun q => runG F r new ⟨(d, q.val) :: env, upd q.ws sto⟩ (lgA lg (rdO F (.slice s x lo hi mx) new ⟨env, sto⟩) (q.ws.map (·.1)))) ∧
  (∀ F r new env sto lg d e b z x y, runG F (⟨.app e b z x y, some d, none⟩ :: r) new ⟨env, sto⟩ lg = (evv x env).bind fun a => (evv y env).bind fun c => ((appR e b a c).run ⟨env, sto⟩).bind fun q => runG F r new ⟨(d, q.val) :: env, upd q.ws sto⟩ (lgA lg (rdO F (.app e b z x y) new ⟨env, sto⟩) (q.ws.map (·.1)))) ∧
  (∀ F r new env sto lg d g a c, runG F (⟨.mkfn g a c, some d, none⟩ :: r) new ⟨env, sto⟩ lg = ((evs a).run ⟨env, sto⟩).bind fun a1 => ((evs c).run ⟨env, sto⟩).bind fun c1 => runG F r new ⟨(d, .fn g a1 c1) :: env, sto⟩ (lgA lg (rdO F (.mkfn g a c) new ⟨env, sto⟩) [])) ∧
  (∀ F r new env sto lg d g args n, runG F (⟨.callv g args n, some d, none⟩ :: r) new ⟨env, sto⟩ lg = (evv g env).bind fun u => cvg u fun h a1 c1 => dds n new sto (((evs args).run ⟨env, sto⟩).bind fun a => ((argsR (a1 ++ a ++ c1)).run ⟨env, sto⟩).bind fun a => ((callR2 F h a n new).run ⟨env, sto⟩).bind fun q => runG F r (new + n) ⟨(d, q.val) :: env, upd q.ws sto⟩ (lgA lg (rdO F (.callv g args n) new ⟨env, sto⟩) (q.ws.map (·.1))))) ∧
  (∀ F r new env sto lg g args n, runG F (⟨.callv g args n, none, none⟩ :: r) new ⟨env, sto⟩ lg = (evv g env).bind fun u => cvg u fun h a1 c1 => dds n new sto (((evs args).run ⟨env, sto⟩).bind fun a => ((argsR (a1 ++ a ++ c1)).run ⟨env, sto⟩).bind fun a => ((callR2 F h a n new).run ⟨env, sto⟩).bind fun q => runG F r (new + n) ⟨env, upd q.ws sto⟩ (lgA lg (rdO F (.callv g args n) new ⟨env, sto⟩) (q.ws.map (·.1))))) ∧
  (∀ {α : Type} (f : FuncId) (a c : List AV) (k : FuncId → List AV → List AV → Option α), cvg (.fn f a c) k = k f a c) ∧
  (∀ F r new env sto lg d e b z y, runG F (⟨.appn e b z y, some d, none⟩ :: r) new ⟨env, sto⟩ lg = (evv y env).bind fun c => ((rowsOf e c).run ⟨env, sto⟩).bind fun rows => if roomy rows.length b = true then dds 1 new sto (runG F r (new + 1) ⟨(d, .slr new 0 rows.length) :: env, sto.set new (.arr true e rows)⟩ (lgA lg (rdO F (.appn e b z y) new ⟨env, sto⟩) [new])) else none) ∧
  (∀ F r new env sto lg d z, runG F (⟨.newbox z, some d, none⟩ :: r) new ⟨env, sto⟩ lg = dds 1 new sto (runG F r (new + 1) ⟨(d, .ptr new 0) :: env, sto.set new (.box (z.map .p))⟩ (lgA lg (rdO F (.newbox z) new ⟨env, sto⟩) [new]))) ∧
  (∀ F r new env sto lg d e x, runG F (⟨.mkarr e x, some d, none⟩ :: r) new ⟨env, sto⟩ lg = dds 1 new sto (runG F r (new + 1) ⟨(d, .slr new 0 0) :: env, sto.set new (.arr true e [])⟩ (lgA lg (rdO F (.mkarr e x) new ⟨env, sto⟩) [new]))) ∧
  (∀ F r new env sto lg d n x, runG F (⟨.box n x, some d, none⟩ :: r) new ⟨env, sto⟩ lg = (evv x env).bind fun a => (bxP n a).bind fun cs => dds 1 new sto (runG F r (new + 1) ⟨(d, .ptr new 0) :: env, sto.set new (.box cs)⟩ (lgA lg (rdO F (.box n x) new ⟨env, sto⟩) [new]))) ∧
  (∀ F r new env sto lg d o e n z ps, runG F (⟨.lits o e n z ps, some d, none⟩ :: r) new ⟨env, sto⟩ lg = dds (if o then 1 else 0) new sto (((ltR o e n z ps new).run ⟨env, sto⟩).bind fun x => runG F r (new + if o then 1 else 0) ⟨(d, x.val) :: env, upd x.ws sto⟩ (lgA lg (rdO F (.lits o e n z ps) new ⟨env, sto⟩) (x.ws.map (·.1))))) ∧
  (∀ F r new env sto lg d o e b z l c, runG F (⟨.mkslice o e b z l c, some d, none⟩ :: r) new ⟨env, sto⟩ lg = (evv l env).bind fun a => (evv c env).bind fun x => dds (if o then 1 else 0) new sto ((mkP o e b z a x new).bind fun x => runG F r (new + if o then 1 else 0) ⟨(d, x.val) :: env, upd x.ws sto⟩ (lgA lg (rdO F (.mkslice o e b z l c) new ⟨env, sto⟩) (x.ws.map (·.1))))) ∧
  (∀ F r new env sto lg d g args n, runG F (⟨.call g args n, some d, none⟩ :: r) new ⟨env, sto⟩ lg = dds n new sto (((evs args).run ⟨env, sto⟩).bind fun a => ((argsR a).run ⟨env, sto⟩).bind fun a => ((callR2 F g a n new).run ⟨env, sto⟩).bind fun e => runG F r (new + n) ⟨(d, e.val) :: env, upd e.ws sto⟩ (lgA lg (rdO F (.call g args n) new ⟨env, sto⟩) (e.ws.map (·.1))))) ∧
  (∀ F r new env sto lg g args n, runG F (⟨.call g args n, none, none⟩ :: r) new ⟨env, sto⟩ lg = dds n new sto (((evs args).run ⟨env, sto⟩).bind fun a => ((argsR a).run ⟨env, sto⟩).bind fun a => ((callR2 F g a n new).run ⟨env, sto⟩).bind fun e => runG F r (new + n) ⟨env, upd e.ws sto⟩ (lgA lg (rdO F (.call g args n) new ⟨env, sto⟩) (e.ws.map (·.1))))) ∧
  (∀ F r new env sto lg op d g w, runG F (⟨op, d, some (g, w)⟩ :: r) new ⟨env, sto⟩ lg = grd (lk g env) w (hold (runG F (⟨op, d, none⟩ :: r) new ⟨env, sto⟩ lg) (.mk _)) (hold (runG F r (new + newOf op) (put d ⟨undefV, []⟩ ⟨env, sto⟩) (lgA lg [] [])) (.mk _))) ∧
  (∀ {α : Type} (a b : Option α) (h : Dum a), grd (some (.p (.b true))) true (hold a h) b = a) ∧
  (∀ {α : Type} (a b : Option α) (h : Dum b), grd (some (.p (.b true))) false a (hold b h) = b) ∧
  (∀ {α : Type} (a b : Option α) (h : Dum b), grd (some (.p (.b false))) true a (hold b h) = b) ∧
  (∀ {α : Type} (a b : Option α) (h : Dum a), grd (some (.p (.b false))) false (hold a h) b = a) ∧
  (∀ {α : Type} (w : Bool) (a b : Option α) (h : Dum b), grd (some (.tup [])) w a (hold b h) = b) ∧
  (∀ {β : Type} (a b : Option AV) (K : AV → Option β) (h : Dum K), pkh (.p (.b true)) a b (hold K h) = a.bind K) ∧
  (∀ {β : Type} (a b : Option AV) (K : AV → Option β) (h : Dum K), pkh (.p (.b false)) a b (hold K h) = b.bind K) ∧
  (∀ {α β : Type} (a : α) (f : α → Option β), Option.bind (some a) f = f a) ∧
  (∀ {α : Type} (new : Nat) (sto : List Blk) (o : Option α), dds 0 new sto o = o) ∧
  (∀ {α : Type} (new : Nat) (sto : List Blk) (o : Option α), dds 1 new sto o = dd1 sto[new]? o) ∧
  (∀ {α : Type} (o : Option α), dd1 (some .dead) o = o) :=
  ⟨by intro T f m k s; exact rk_skip T f m k s,
  by intro T f m k a b s; exact rk_seq T f m k a b s,
  by intro T f m k d ins env sto; exact rk_regG T f m k d ins env sto,
  by intro T f m k d q ps ins env sto; exact rk_regP T f m k d q ps ins env sto,
  by intro T f m k i c s; exact rk_block T f m k i c s,
  by intro T f m k c s; exact rk_scope T f m k c s,
  by intro T f m k i s; exact rk_exit T f m k i s,
  by intro T f m k s; exact rk_ret T f m k s,
  by intro T f m k live c env sto; exact rk_keep T f m k live c env sto,
  by intro T f m k live c env sto; exact rk_tidy T f m k live c env sto,
  by intro T f m k live c env sto; exact rk_loop T f m k live c env sto,
  by intro T f m k x a b env sto; exact rk_cond T f m k x a b env sto,
  by intros; rfl,
  by intros; rfl,
  by intros; rfl,
  by intros; rfl,
  by intros; rfl,
  by intros; rfl,
  by intro T f m k i j s; exact rk_bl_e T f m k i j s,
  by intros; rfl,
  by intro T f m k n live e s; exact (rk_td T f m k n live e s).trans (by cases clean n live s <;> rfl),
  by intros; rfl,
  by intros; rfl,
  by intros; rfl,
  by intros; rfl,
  by intros; rfl,
  by intro T f m s; exact rk_fin1 T f m s,
  by intro T f m s; exact rk_fin1r T f m s,
  by intros; rfl,
  by intros; rfl,
  by intros; rfl,
  by intros; rfl,
  by intros; rfl,
  by intros; rfl,
  by intros; rfl,
  by intros; rfl,
  by intros; rfl,
  by intro F r new env sto lg d x; rw [st0 (h := rfl)]; simp only [opR, run_bind, run_ev]; exact mv_aux,
  by intro F r new env sto lg d c a b; rw [st0 (h := rfl)]; simp only [opR, run_bind, run_ev]; exact pick_aux,
  by intro F r new env sto lg d op t x y; rw [st0 (h := rfl)]; simp only [opR, run_bind, run_ev]; exact two_aux (g := fun a c => binP op t a c),
  by intro F r new env sto lg d op x; rw [st0 (h := rfl)]; simp only [opR, run_bind, run_ev]; exact one_aux (g := fun a => unP op a),
  by intro F r new env sto lg d g off n x; rw [st0 (h := rfl)]; simp only [opR, run_bind, run_ev]; exact one_aux (g := fun a => fieldP g off n a),
  by intro F r new env sto lg d off x; rw [st0 (h := rfl)]; simp only [opR, run_bind, run_ev]; exact one_aux (g := fun a => faddrP off a),
  by intro F r new env sto lg d x i; rw [st0 (h := rfl)]; simp only [opR, run_bind, run_ev]; exact one_aux (g := fun a => extrP i a),
  by intro F r new env sto lg d b x; rw [st0 (h := rfl)]; simp only [opR, run_bind, run_ev]; exact one_aux (g := fun a => lenP b a),
  by intro F r new env sto lg d n; rw [st0 (h := rfl)]; rfl,
  by intro F r new env sto lg d b x y; rw [st0 (h := rfl)]; simp only [opR, run_bind, run_ev]; exact two_aux (g := fun a c => mmP b a c),
  by intro F r new env sto lg d n e x i; rw [st0 (h := rfl)]; simp only [opR, run_bind, run_ev]; exact two_aux (g := fun a c => aaddrP n e a c),
  by intro F r new env sto lg d e x i; rw [st0 (h := rfl)]; simp only [opR, run_bind, run_ev]; exact two_aux2 (g := fun a c => (iaddrR e a c).run ⟨env, sto⟩),
  by intro F r new env sto lg d x i; rw [st0 (h := rfl)]; simp only [opR, run_bind, run_ev]; exact sid_aux,
  by intro F r new env sto lg d g n e x i; rw [st0 (h := rfl)]; simp only [opR, run_bind, run_ev]; exact aid_aux,
  by intro F r new env sto lg d x; rw [st0 (h := rfl)]; simp only [opR, run_bind, run_ev]; exact nck_aux,
  by intro F r new env sto lg d g n x; rw [st0 (h := rfl)]; simp only [opR, run_bind, run_ev]; exact one_aux2 (g := fun a => (loadR g n a).run ⟨env, sto⟩),
  by intro F r new env sto lg n x y; rw [st0n (h := rfl)]; simp only [opR, run_bind, run_ev]; exact two_aux2 (g := fun a c => (storeR n a c).run ⟨env, sto⟩),
  by intro F r new env sto lg d c x; exact conv_aux,
  by intro F r new env sto lg d z ps; exact build_aux,
  by intro F r new env sto lg d s x lo hi mx; exact slice_aux,
  by intro F r new env sto lg d e b z x y; rw [st0 (h := rfl)]; simp only [opR, run_bind, run_ev]; exact two_aux2 (g := fun a c => (appR e b a c).run ⟨env, sto⟩),
  by intro F r new env sto lg d g a c; exact mkfn_aux,
  by intro F r new env sto lg d g args n; exact callv_aux,
  by intro F r new env sto lg g args n; exact callvn_aux,
  by intros; rfl,
  by intro F r new env sto lg d e b z y; exact appn_aux,
  by intro F r new env sto lg d z; exact newbox_aux,
  by intro F r new env sto lg d e x; exact mkarr_aux,
  by intro F r new env sto lg d n x; exact box_aux,
  by intro F r new env sto lg d o e n z ps; exact lits_aux,
  by intro F r new env sto lg d o e b z l c; exact mkslice_aux,
  by intro F r new env sto lg d g args n; exact call_aux,
  by intro F r new env sto lg g args n; exact calln_aux,
  by intro F r new env sto lg op d g w; exact grd_aux ..,
  by intros; rfl,
  by intros; rfl,
  by intros; rfl,
  by intros; rfl,
  by intros; rfl,
  by intros; rfl,
  by intros; rfl,
  by intros; rfl,
  by intros; rfl,
  by intro α new sto o; exact dds1 ..,
  by intros; rfl⟩

/-! ### Equations that a run is evaluated by -/
set_option maxRecDepth 30000 in
theorem Ua : (∀ n m v r, lk n ((m, v) :: r) = if n = m then some v else lk n r) ∧
  (∀ n env, evv (.t n) env = lk n env) ∧
  (∀ v env, evv (.c v) env = some v) ∧
  (∀ a b, pk (.p (.b true)) a b = a) ∧
  (∀ a b, pk (.p (.b false)) a b = b) ∧
  (∀ env, restr [] env = []) ∧
  (∀ k l env, restr (k :: l) env = rcons k (lk k env) (restr l env)) ∧
  (∀ k v l, rcons k (some v) l = (k, v) :: l) ∧
  (∀ k l, rcons k none l = l) ∧
  (∀ n, lk n [] = none) ∧
  (news [] = 0) ∧
  (∀ i r, news (i :: r) = newOf i.op + news r) ∧
  (∀ x, newOf (.mv x) = 0) ∧
  (∀ e x, newOf (.mkarr e x) = 1) ∧
  (∀ a b c, newOf (.pick a b c) = 0) ∧
  (∀ z, newOf (.newbox z) = 1) ∧
  (∀ n x, newOf (.box n x) = 1) ∧
  (∀ z ps, newOf (.build z ps) = 0) ∧
  (∀ o e n z ps, newOf (.lits o e n z ps) = if o then 1 else 0) ∧
  (∀ g n x, newOf (.load g n x) = 0) ∧
  (∀ n x y, newOf (.store n x y) = 0) ∧
  (∀ x, newOf (.nilchk x) = 0) ∧
  (∀ op t x y, newOf (.bin op t x y) = 0) ∧
  (∀ op x, newOf (.un op x) = 0) ∧
  (∀ c x, newOf (.conv (.int c) x) = 0) ∧
  (∀ x, newOf (.conv .same x) = 0) ∧
  (∀ x, newOf (.conv .toStr x) = 0) ∧
  (∀ o x, newOf (.conv (.toBytes o) x) = if o then 1 else 0) ∧
  (∀ o e b z l c, newOf (.mkslice o e b z l c) = if o then 1 else 0) ∧
  (∀ s x lo hi mx, newOf (.slice s x lo hi mx) = 0) ∧
  (∀ off x, newOf (.faddr off x) = 0) ∧
  (∀ g off n x, newOf (.field g off n x) = 0) ∧
  (∀ e x i, newOf (.iaddr e x i) = 0) ∧
  (∀ n e x i, newOf (.aaddr n e x i) = 0) ∧
  (∀ x i, newOf (.sidx x i) = 0) ∧
  (∀ g n e x i, newOf (.aidx g n e x i) = 0) ∧
  (∀ x i, newOf (.extr x i) = 0) ∧
  (∀ g args n, newOf (.call g args n) = n) ∧
  (∀ g args n, newOf (.callv g args n) = n) ∧
  (∀ b x, newOf (.len b x) = 0) ∧
  (∀ n, newOf (.alen n) = 0) ∧
  (∀ e b z x y, newOf (.app e b z x y) = 0) ∧
  (∀ e b z y, newOf (.appn e b z y) = 1) ∧
  (∀ b x y, newOf (.mm b x y) = 0) ∧
  (∀ g a c, newOf (.mkfn g a c) = 0) ∧
  (∀ sto, room 0 sto = sto) ∧
  (∀ n sto, room (n + 1) sto = sto ++ .dead :: List.replicate n .dead) ∧
  (∀ sto, upd [] sto = sto) ∧
  (∀ b x ws sto, upd ((b, x) :: ws) sto = upd ws (sto.set b x)) ∧
  (∀ d v ws env sto, put (some d) ⟨v, ws⟩ ⟨env, sto⟩ = ⟨(d, v) :: env, upd ws sto⟩) ∧
  (∀ v ws env sto, put none ⟨v, ws⟩ ⟨env, sto⟩ = ⟨env, upd ws sto⟩) ∧
  (undefV = .tup []) ∧
  (∀ {α β : Type} (a : α) (f : α → β), Option.map f (some a) = some (f a)) ∧
  (∀ k x y, binP .add .plain (.p (.i k x)) (.p (.i k y)) = some (.p (.i k (k.wrap (x + y))))) ∧
  (∀ k x y, binP .sub .plain (.p (.i k x)) (.p (.i k y)) = some (.p (.i k (k.wrap (x - y))))) ∧
  (∀ k x y, binP .mul .plain (.p (.i k x)) (.p (.i k y)) = some (.p (.i k (k.wrap (x * y))))) ∧
  (∀ k x y, binP .and .plain (.p (.i k x)) (.p (.i k y)) = some (.p (.i k (andI k x y)))) ∧
  (∀ k x y, binP .or .plain (.p (.i k x)) (.p (.i k y)) = some (.p (.i k (orI k x y)))) ∧
  (∀ k x y, binP .xor .plain (.p (.i k x)) (.p (.i k y)) = some (.p (.i k (xorI k x y)))) ∧
  (∀ k x y, binP .eql .plain (.p (.i k x)) (.p (.i k y)) = some (.p (.b (x == y)))) ∧
  (∀ k x y, binP .neq .plain (.p (.i k x)) (.p (.i k y)) = some (.p (.b (x != y)))) ∧
  (∀ k x y, binP .lss .plain (.p (.i k x)) (.p (.i k y)) = some (.p (.b (decide (x < y))))) ∧
  (∀ k x y, binP .leq .plain (.p (.i k x)) (.p (.i k y)) = some (.p (.b (decide (x ≤ y))))) ∧
  (∀ k x y, binP .gtr .plain (.p (.i k x)) (.p (.i k y)) = some (.p (.b (decide (x > y))))) ∧
  (∀ k x y, binP .geq .plain (.p (.i k x)) (.p (.i k y)) = some (.p (.b (decide (x ≥ y))))) ∧
  (∀ k x y, binP .quo .plain (.p (.i k x)) (.p (.i k y)) = (quoS k x y).map fun z => .p (.i k z)) ∧
  (∀ k x y, binP .rem .plain (.p (.i k x)) (.p (.i k y)) = (remS x y).map fun z => .p (.i k z)) ∧
  (∀ k k2 x y, binP .shl .plain (.p (.i k x)) (.p (.i k2 y)) = (shlS k x y).map fun z => .p (.i k z)) ∧
  (∀ k k2 x y, binP .shr .plain (.p (.i k x)) (.p (.i k2 y)) = (shrS k x y).map fun z => .p (.i k z)) ∧
  (∀ x y, binP .add .plain (.p (.s x)) (.p (.s y)) = (catS x y).map fun z => .p (.s z)) ∧
  (∀ x y, binP .eql .plain (.p (.s x)) (.p (.s y)) = some (.p (.b (x == y)))) ∧
  (∀ x y, binP .neq .plain (.p (.s x)) (.p (.s y)) = some (.p (.b (!(x == y))))) ∧
  (∀ x y, binP .lss .plain (.p (.s x)) (.p (.s y)) = some (.p (.b (Op.bytesLess x y)))) ∧
  (∀ x y, binP .leq .plain (.p (.s x)) (.p (.s y)) = some (.p (.b (Op.bytesLess x y || x == y)))) ∧
  (∀ x y, binP .gtr .plain (.p (.s x)) (.p (.s y)) = some (.p (.b (!(Op.bytesLess x y || x == y))))) ∧
  (∀ x y, binP .geq .plain (.p (.s x)) (.p (.s y)) = some (.p (.b (!Op.bytesLess x y)))) ∧
  (∀ x y, binP .eql .bool (.p (.b x)) (.p (.b y)) = some (.p (.b (x == y)))) ∧
  (∀ x y, binP .neq .bool (.p (.b x)) (.p (.b y)) = some (.p (.b (!(x == y))))) ∧
  (∀ ks a c, binP .eql (.flat ks) (.data a) (.data c) = (cmpL ks a c).map fun x => .p (.b x)) ∧
  (∀ ks a c, binP .neq (.flat ks) (.data a) (.data c) = (cmpL ks a c).map fun x => .p (.b (!x))) ∧
  (∀ b o y, binP .eql .nilp (.ptr b o) y = some (.p (.b false))) ∧
  (∀ b o y, binP .neq .nilp (.ptr b o) y = some (.p (.b true))) ∧
  (∀ k n, unP .neg (.p (.i k n)) = some (.p (.i k (k.wrap (0 - n))))) ∧
  (∀ k n, unP .xor (.p (.i k n)) = some (.p (.i k (notI k n)))) ∧
  (∀ x, unP .not (.p (.b x)) = some (.p (.b (!x)))) ∧
  ((!true) = false) ∧
  ((!false) = true) ∧
  (∀ k x y, mmP true (.p (.i k x)) (.p (.i k y)) = some (.p (.i k (maxI x y)))) ∧
  (∀ k x y, mmP false (.p (.i k x)) (.p (.i k y)) = some (.p (.i k (minI x y)))) ∧
  (∀ off b o, faddrP off (.ptr b o) = some (.ptr b (o + off))) ∧
  (∀ off o cs, faddrP off (.cp cs o) = some (.cp cs (o + off))) ∧
  (∀ off b e i o, faddrP off (.ep b e i o) = some (.ep b e i (o + off))) ∧
  (∀ g off n cs, fieldP g off n (.data cs) = (sub cs off n).bind (ofPCells g)) ∧
  (∀ g off n c cs, fieldP g off n (.agg (c :: cs)) = (sub (c :: cs) off n).bind (ofCells g)) ∧
  (∀ cs, ofPCells true cs = some (.data cs)) ∧
  (∀ c, ofPCells false [c] = some (.p c)) ∧
  (∀ cs, ofCells true (cs.map AV.p) = some (.data cs)) ∧
  (∀ c cs, ofCells true (c :: cs) = some (aggV (c :: cs) (unp (c :: cs)))) ∧
  (∀ c, ofCells false [c] = some c) ∧
  (∀ cs l, aggV cs (some l) = .data l) ∧
  (∀ c, Option.map (fun l => c :: l) (none : Option (List PV)) = none) ∧
  (∀ cs, aggV cs none = .agg cs) ∧
  (unp [] = some []) ∧
  (∀ c r, unp (.p c :: r) = (unp r).map fun l => c :: l) ∧
  (∀ b i n r, unp (.slr b i n :: r) = none) ∧
  (∀ b i r, unp (.ptr b i :: r) = none) ∧
  (∀ b e i o r, unp (.ep b e i o :: r) = none) ∧
  (∀ i vs, extrP i (.tup vs) = vs[i]?) ∧
  (∀ l, lenP true (.p (.s l)) = some (.p (.i .i64 l.length))) ∧
  (∀ e rows, lenP false (.p (.sl e rows)) = some (.p (.i .i64 rows.length))) ∧
  (∀ b i n, lenP false (.slr b i n) = some (.p (.i .i64 n))) ∧
  (∀ {α β : Type} (g : α → β) (l : List α), (l.map g).length = l.length) ∧
  (∀ b o, nckP (.ptr b o) = some (.ptr b o)) ∧
  (∀ cs o, nckP (.cp cs o) = some (.cp cs o)) ∧
  (∀ b e i o, nckP (.ep b e i o) = some (.ep b e i o)) ∧
  (∀ env sto g n cs off, (loadR g n (.cp cs off)).run ⟨env, sto⟩ = (sub cs off n).bind fun l => (ofPCells g l).map fun v => ⟨v, []⟩) ∧
  (∀ env sto g n b off, (loadR g n (.ptr b off)).run ⟨env, sto⟩ = sto[b]?.bind fun B => ldB g n off B) ∧
  (∀ env sto g n b e i off, (loadR g n (.ep b e i off)).run ⟨env, sto⟩ = sto[b]?.bind fun B => ldE g n e i off B) ∧
  (∀ g n off cs, ldB g n off (.box (cs.map AV.p)) = (sub cs off n).bind fun l => (ofPCells g l).map fun v => ⟨v, []⟩) ∧
  (∀ g n off c cs, ldB g n off (.box (c :: cs)) = (sub (c :: cs) off n).bind fun l => (ofCells g l).map fun v => ⟨v, []⟩) ∧
  (∀ g n e i off z w rows, ldE g n e i off (.arr w z rows) = if e = rows.length then rows[i]?.bind fun row => (sub row off n).bind fun l => (ofPCells g l).map fun v => ⟨v, []⟩ else none) ∧
  (∀ env sto n b off v, (storeR n (.ptr b off) v).run ⟨env, sto⟩ = sto[b]?.bind fun B => (cellsOf v).bind fun l => stB n b off l B) ∧
  (∀ n b off cs vs, stB n b off (vs.map AV.p) (.box (cs.map AV.p)) = if vs.length = n then (spl cs off vs).map fun cs => ⟨undefV, [(b, .box (cs.map AV.p))]⟩ else none) ∧
  (∀ b off cs v, stB 1 b off [AV.p v] (.box (cs.map AV.p)) = (spl cs off [v]).map fun cs => ⟨undefV, [(b, .box (cs.map AV.p))]⟩) ∧
  (∀ env sto n b e i off v, (storeR n (.ep b e i off) v).run ⟨env, sto⟩ = sto[b]?.bind fun B => stE n b e i off v B ⟨env, sto⟩) ∧
  (∀ n b e i off z c rows s, stE n b e i off (.p c) (.arr true z rows) s = if e = rows.length then rows[i]?.bind fun row => if 1 = n then (spl row off [c]).map fun row => ⟨undefV, [(b, .arr true z (rows.set i row))]⟩ else none else none) ∧
  (∀ n b e i off z cs rows s, stE n b e i off (.data cs) (.arr true z rows) s = if e = rows.length then rows[i]?.bind fun row => if cs.length = n then (spl row off cs).map fun row => ⟨undefV, [(b, .arr true z (rows.set i row))]⟩ else none else none) ∧
  (∀ c, cellsOf (.p c) = some [.p c]) ∧
  (∀ cs, cellsOf (.data cs) = some (cs.map AV.p)) ∧
  (∀ cs, cellsOf (.agg cs) = some cs) ∧
  (∀ b i n, cellsOf (.slr b i n) = some [.slr b i n]) ∧
  (∀ b o, cellsOf (.ptr b o) = some [.ptr b o]) ∧
  (∀ c, bxP 1 (.p c) = some [.p c]) ∧
  (∀ n cs, bxP n (.data cs) = if cs.length = n then some (cs.map AV.p) else none) ∧
  (∀ n cs, bxP n (.agg cs) = if cs.length = n then some cs else none) ∧
  (∀ b i n, bxP 1 (.slr b i n) = some [.slr b i n]) ∧
  (∀ env sto e rows k n, (iaddrR e (.p (.sl e rows)) (.p (.i k n))).run ⟨env, sto⟩ = (rowAt rows n).map fun row => ⟨.cp row 0, []⟩) ∧
  (∀ env sto e b m k n, (iaddrR e (.slr b 0 m) (.p (.i k n))).run ⟨env, sto⟩ = sto[b]?.bind fun B => iaB e b m n B) ∧
  (∀ e b m n w rows, iaB e b m n (.arr w e rows) = if m = rows.length ∧ 0 ≤ n ∧ n < m then some ⟨.ep b rows.length n.toNat 0, []⟩ else none) ∧
  (∀ n e b off k i, aaddrP n e (.ptr b off) (.p (.i k i)) = if 0 ≤ i ∧ i < n then some (.ptr b (off + i.toNat * e)) else none) ∧
  (∀ n e off cs k i, aaddrP n e (.cp cs off) (.p (.i k i)) = if 0 ≤ i ∧ i < n then some (.cp cs (off + i.toNat * e)) else none) ∧
  (∀ n e b x j off k i, aaddrP n e (.ep b x j off) (.p (.i k i)) = if 0 ≤ i ∧ i < n then some (.ep b x j (off + i.toNat * e)) else none) ∧
  (∀ l k n, sidP (.p (.s l)) (.p (.i k n)) = (sidS l n).map fun v => .p (.i .u8 v)) ∧
  (∀ g n e cs k i, aidP g n e (.data cs) (.p (.i k i)) = if 0 ≤ i ∧ i < n then (sub cs (i.toNat * e) e).bind (ofPCells g) else none) ∧
  (∀ env sto c k n new, (cvR (.int c) (.p (.i k n)) new).run ⟨env, sto⟩ = some ⟨.p (.i c (c.wrap n)), []⟩) ∧
  (∀ env sto l new, (cvR .same (.p (.s l)) new).run ⟨env, sto⟩ = some ⟨.p (.s l), []⟩) ∧
  (∀ env sto l new, (cvR .toStr (.p (.sl 1 (l.map (r_i .u8)))) new).run ⟨env, sto⟩ = some ⟨.p (.s (toStr l)), []⟩) ∧
  (∀ env sto b n new, (cvR .toStr (.slr b 0 n) new).run ⟨env, sto⟩ = sto[b]?.bind fun B => cvB n B) ∧
  (∀ n w l, cvB n (.arr w 1 (l.map (r_i .u8))) = if n = l.length then some ⟨.p (.s (toStr l)), []⟩ else none) ∧
  (∀ env sto l new, (cvR (.toBytes false) (.p (.s l)) new).run ⟨env, sto⟩ = some ⟨.p (.sl 1 ((toByt l).map (r_i .u8))), []⟩) ∧
  (∀ env sto l new, (cvR (.toBytes true) (.p (.s l)) new).run ⟨env, sto⟩ = some ⟨.slr new 0 (toByt l).length, [(new, .arr true 1 ((toByt l).map (r_i .u8)))]⟩) ∧
  (∀ env sto, (partsR []).run ⟨env, sto⟩ = some []) ∧
  (∀ env sto off size x r, (partsR ((off, size, x) :: r)).run ⟨env, sto⟩ = (evv x env).bind fun v => (cellsOf v).bind fun cs => ((partsR r).run ⟨env, sto⟩).bind fun l => some ((off, size, cs) :: l)) ∧
  (∀ cs, fillAll [] cs = some cs) ∧
  (∀ off size vs cs r, fillAll ((off, size, vs.map AV.p) :: r) (cs.map AV.p) = if vs.length = size then (spl cs off vs).bind fun cs => fillAll r (cs.map AV.p) else none) ∧
  (∀ off v cs r, fillAll ((off, 1, [AV.p v]) :: r) (cs.map AV.p) = (spl cs off [v]).bind fun cs => fillAll r (cs.map AV.p)) ∧
  (∀ env sto, (evs []).run ⟨env, sto⟩ = some []) ∧
  (∀ env sto x r, (evs (x :: r)).run ⟨env, sto⟩ = (evv x env).bind fun v => ((evs r).run ⟨env, sto⟩).bind fun vs => some (v :: vs)) ∧
  (∀ env sto, (argsR []).run ⟨env, sto⟩ = some ([], [])) ∧
  (∀ env sto c r, (argsR (.p c :: r)).run ⟨env, sto⟩ = ((argsR r).run ⟨env, sto⟩).bind fun a => some (.p c :: a.1, a.2)) ∧
  (∀ env sto c r, (argsR (.data c :: r)).run ⟨env, sto⟩ = ((argsR r).run ⟨env, sto⟩).bind fun a => some (.data c :: a.1, a.2)) ∧
  (∀ env sto b o r, (argsR (.ptr b o :: r)).run ⟨env, sto⟩ = ((argsR r).run ⟨env, sto⟩).bind fun a => some (.ptr b o :: a.1, a.2)) ∧
  (∀ env sto c o r, (argsR (.cp c o :: r)).run ⟨env, sto⟩ = ((argsR r).run ⟨env, sto⟩).bind fun a => some (.cp c o :: a.1, a.2)) ∧
  (∀ env sto b x i o r, (argsR (.ep b x i o :: r)).run ⟨env, sto⟩ = ((argsR r).run ⟨env, sto⟩).bind fun a => some (.ep b x i o :: a.1, a.2)) ∧
  (∀ env sto b n r, (argsR (.slr b 0 n :: r)).run ⟨env, sto⟩ = sto[b]?.bind fun B => (frz b n B).bind fun x => ((argsR r).run ⟨env, sto⟩).bind fun a => some (x.1 :: a.1, x.2 :: a.2)) ∧
  (∀ env sto cs r, (argsR (.agg cs :: r)).run ⟨env, sto⟩ = ((fz.fzL cs).run ⟨env, sto⟩).bind fun x => ((argsR r).run ⟨env, sto⟩).bind fun a => some (.data x.1 :: a.1, x.2 ++ a.2)) ∧
  (∀ b n z w rows, frz b n (.arr w z rows) = if n = rows.length then some (.p (.sl z rows), (b, .arr false z rows)) else none) ∧
  (∀ env sto, (fz.fzL []).run ⟨env, sto⟩ = some ([], [])) ∧
  (∀ env sto c r, (fz.fzL (.p c :: r)).run ⟨env, sto⟩ = ((fz.fzL r).run ⟨env, sto⟩).bind fun a => some (c :: a.1, a.2)) ∧
  (∀ env sto b n r, (fz.fzL (.slr b 0 n :: r)).run ⟨env, sto⟩ = sto[b]?.bind fun B => (frp b n B).bind fun x => ((fz.fzL r).run ⟨env, sto⟩).bind fun a => some (x.1 :: a.1, x.2 :: a.2)) ∧
  (∀ b n z w rows, frp b n (.arr w z rows) = if n = rows.length then some (.sl z rows, (b, .arr false z rows)) else none) ∧
  (∀ env sto f a c r, (argsR (.fn f a c :: r)).run ⟨env, sto⟩ = ((argsR r).run ⟨env, sto⟩).bind fun x => some (.fn f a c :: x.1, x.2)) ∧
  (∀ m ids sto f a c, fin m ids sto (.fn f a c) = (fin.finL m ids sto a).bind fun a1 => (fin.finL m ids sto c).bind fun c1 => some (.fn f a1 c1)) ∧
  (∀ f a c l, entsOf (.fn f a c) l = entsOf.entsOfL c (entsOf.entsOfL a l)) ∧
  (∀ ws s, boxesAt ws s [] [] = True) ∧
  (∀ ws s b bs cs css, boxesAt ws s (b :: bs) (cs :: css) = ((getB ws b).run s = some (.box cs) ∧ boxesAt ws s bs css)) ∧
  (∀ env sto b c x ws, (getB ((c, x) :: ws) b).run ⟨env, sto⟩ = sto[b]?.bind fun y => some ((lastW b ((c, x) :: ws)).getD y)) ∧
  (∀ b, lastW b [] = none) ∧
  (∀ b c x r, lastW b ((c, x) :: r) = lwO (lastW b r) (if c = b then some x else none)) ∧
  (∀ x y, lwO (some x) y = some x) ∧
  (∀ y, lwO none y = y) ∧
  (∀ {α : Type} (a b : α), (some a).getD b = a) ∧
  (∀ {α : Type} (b : α), (none : Option α).getD b = b) ∧
  (∀ env sto b, (getB [] b).run ⟨env, sto⟩ = sto[b]?) ∧
  (∀ env sto e rows, (rowsOf e (.p (.sl e rows))).run ⟨env, sto⟩ = some rows) ∧
  (∀ env sto l, (rowsOf 1 (.p (.s l))).run ⟨env, sto⟩ = some ((toByt l).map (r_i .u8))) ∧
  (∀ env sto e b n, (rowsOf e (.slr b 0 n)).run ⟨env, sto⟩ = sto[b]?.bind fun B => roB e n B) ∧
  (∀ e n w rows, roB e n (.arr w e rows) = if n = rows.length then some rows else none) ∧
  (∀ env sto o e n new z ps, (ltR o e n z ps new).run ⟨env, sto⟩ = ((fzs (ps.map (·.2))).run ⟨env, sto⟩).bind fun a => (placeAll e ((ps.map (·.1)).zip a.1) (List.replicate n z)).map fun rows => if o then ⟨.slr new 0 n, a.2 ++ [(new, .arr true e rows)]⟩ else ⟨.p (.sl e rows), a.2⟩) ∧
  (∀ env sto, (fzs []).run ⟨env, sto⟩ = some ([], [])) ∧
  (∀ env sto x r, (fzs (x :: r)).run ⟨env, sto⟩ = (evv x env).bind fun v => ((fz v).run ⟨env, sto⟩).bind fun a => ((fzs r).run ⟨env, sto⟩).bind fun c => some (a.1 :: c.1, a.2 ++ c.2)) ∧
  (∀ env sto c, (fz (.p c)).run ⟨env, sto⟩ = some ([c], [])) ∧
  (∀ env sto cs, (fz (.data cs)).run ⟨env, sto⟩ = some (cs, [])) ∧
  (∀ env sto cs, (fz (.agg cs)).run ⟨env, sto⟩ = (fz.fzL cs).run ⟨env, sto⟩) ∧
  (∀ env sto b n, (fz (.slr b 0 n)).run ⟨env, sto⟩ = sto[b]?.bind fun B => (frp b n B).bind fun x => some ([x.1], [x.2])) ∧
  (∀ e rows, placeAll e [] rows = some rows) ∧
  (∀ e i c r rows, placeAll e ((i, c) :: r) rows = if c.length = e ∧ i < rows.length then placeAll e r (rows.set i c) else none) ∧
  (∀ o e b new z k k2 n m, mkP o e b z (.p (.i k n)) (.p (.i k2 m)) new = if 0 ≤ n ∧ n ≤ m ∧ b * m ≤ 281474976710656 ∧ m ≤ 281474976710656 then some (if o then ⟨.slr new 0 n.toNat, [(new, .arr true e (List.replicate n.toNat z))]⟩ else ⟨.p (.sl e (List.replicate n.toNat z)), []⟩) else none) ∧
  (∀ env, evo1 none env = some none) ∧
  (∀ x env, evo1 (some x) env = (evv x env).map some) ∧
  (∀ env sto s c lo hi, (slR s (.p c) lo hi none).run ⟨env, sto⟩ = (slX s (.p c) lo hi).map fun v => ⟨v, []⟩) ∧
  (∀ env sto s b n lo hi, (slR s (.slr b 0 n) lo hi none).run ⟨env, sto⟩ = sto[b]?.bind fun B => (frz b n B).bind fun x => (slX s x.1 lo hi).map fun v => ⟨v, [x.2]⟩) ∧
  (∀ x lo hi, slX .str x lo hi = sliceS x lo hi) ∧
  (∀ e x lo hi, slX (.sl e) x lo hi = sliceL e x lo hi) ∧
  (∀ n live env sto, clean n live ⟨env, sto⟩ = if sto.length = n then some ⟨restr live env, sto⟩ else (finE n sto (restr live env)).bind fun e => (finBs n [] sto (sto.take n)).bind fun l => some ⟨e, l⟩) ∧
  (∀ m sto, finE m sto [] = some []) ∧
  (∀ m k sto x r, finE m sto ((k, x) :: r) = (fin m [] sto x).bind fun y => (finE m sto r).bind fun l => some ((k, y) :: l)) ∧
  (∀ m ids sto, finBs m ids sto [] = some []) ∧
  (∀ m ids sto x r, finBs m ids sto (x :: r) = (finB m ids sto x).bind fun y => (finBs m ids sto r).bind fun l => some (y :: l)) ∧
  (∀ m ids sto, finB m ids sto .dead = some .dead) ∧
  (∀ m ids sto w z rows, finB m ids sto (.arr w z rows) = some (.arr w z rows)) ∧
  (∀ m ids sto cs, finB m ids sto (.box cs) = (fin.finL m ids sto cs).map .box) ∧
  (∀ (m : Nat) (ids : List Nat) (sto : List Blk) (l : List PV), fin.finL m ids sto (l.map AV.p) = some (l.map AV.p)) ∧
  (∀ m ids sto, fin.finL m ids sto [] = some []) ∧
  (∀ m ids sto x r, fin.finL m ids sto (x :: r) = (fin m ids sto x).bind fun y => (fin.finL m ids sto r).bind fun l => some (y :: l)) ∧
  (∀ m ids sto c, fin m ids sto (.p c) = some (.p c)) ∧
  (∀ m ids sto c, fin m ids sto (.data c) = some (.data c)) ∧
  (∀ m ids sto c o, fin m ids sto (.cp c o) = some (.cp c o)) ∧
  (∀ m ids sto, fin m ids sto (.tup []) = some (.tup [])) ∧
  (∀ m ids sto b off, fin m ids sto (.ptr b off) = if b < m then some (.ptr b off) else (idxN b ids m).map fun k => .ptr k off) ∧
  (∀ m ids sto b n, fin m ids sto (.slr b 0 n) = if b < m then some (.slr b 0 n) else fsl (idxN b ids m) n sto[b]?) ∧
  (∀ k n o, fsl (some k) n o = some (.slr k 0 n)) ∧
  (∀ n z w rows, fsl none n (some (.arr w z rows)) = if n = rows.length then some (.p (.sl z rows)) else none) ∧
  (∀ m ids sto cs, fin m ids sto (.agg cs) = (fin.finL m ids sto cs).bind fun l => some (aggV l (unp l))) ∧
  (∀ m ids sto x cs, fin m ids sto (.tup (x :: cs)) = (fin.finL m ids sto (x :: cs)).map .tup) ∧
  (∀ b k, idxN b [] k = none) ∧
  (∀ b x k r, idxN b (x :: r) k = if x = b then some k else idxN b r (k + 1)) ∧
  (∀ res fresh m env sto, fin1 res fresh m ⟨env, sto⟩ = ((resR res).run ⟨env, sto⟩).bind fun vs => if sto.length = m then some (one vs, sto) else fin2 fresh m vs sto (outIds m fresh sto (entsB sto (entsOf.entsOfL vs []) (entsOf.entsOfL vs [])))) ∧
  (∀ fresh m vs sto ids, fin2 fresh m vs sto ids = if nodupB ids = true then (fin.finL m ids sto vs).bind fun ws => (finBs m ids sto (sto.take m)).bind fun l => (pickB sto ids).bind fun q => (finBs m ids sto q).bind fun q => some (one ws, l ++ q) else none) ∧
  (∀ env sto, (resR []).run ⟨env, sto⟩ = some []) ∧
  (∀ env sto t r, (resR (.tmp t :: r)).run ⟨env, sto⟩ = (lk t env).bind fun v => ((resR r).run ⟨env, sto⟩).bind fun l => some (v :: l)) ∧
  (∀ env sto t n g r, (resR (.cell t g n :: r)).run ⟨env, sto⟩ = (lk t env).bind fun v => ((loadR g n v).run ⟨env, sto⟩).bind fun e => ((resR r).run ⟨env, sto⟩).bind fun l => some (e.val :: l)) ∧
  (∀ x, one [x] = x) ∧
  (one [] = .tup []) ∧
  (∀ x y r, one (x :: y :: r) = .tup (x :: y :: r)) ∧
  (∀ m fresh sto, outIds m fresh sto [] = []) ∧
  (∀ m b sto r, outIds m false sto (.whole b :: r) = if b < m then outIds m false sto r else oid b sto[b]? (outIds m false sto r)) ∧
  (∀ b cs l, oid b (some (.box cs)) l = b :: l) ∧
  (∀ b z w rows l, oid b (some (.arr w z rows)) l = l) ∧
  (∀ sto acc, entsB sto [] acc = acc) ∧
  (∀ sto b r acc, entsB sto (.whole b :: r) acc = entsB sto r (ebb sto[b]? acc)) ∧
  (∀ cs acc, ebb (some (.box cs)) acc = entsOf.entsOfL cs acc) ∧
  (∀ z w rows acc, ebb (some (.arr w z rows)) acc = acc) ∧
  (∀ l, entsOf.entsOfL [] l = l) ∧
  (∀ x r l, entsOf.entsOfL (x :: r) l = entsOf.entsOfL r (entsOf x l)) ∧
  (∀ (cs : List PV) (l : List Ent), entsOf.entsOfL (cs.map AV.p) l = l) ∧
  (∀ c l, entsOf (.p c) l = l) ∧
  (∀ c l, entsOf (.data c) l = l) ∧
  (∀ c o l, entsOf (.cp c o) l = l) ∧
  (∀ b o l, entsOf (.ptr b o) l = addEnt (.whole b) l) ∧
  (∀ b i n l, entsOf (.slr b i n) l = addEnt (.whole b) l) ∧
  (∀ cs l, entsOf (.agg cs) l = entsOf.entsOfL cs l) ∧
  (∀ cs l, entsOf (.tup cs) l = entsOf.entsOfL cs l) ∧
  (∀ e, addEnt e [] = [e]) ∧
  (∀ b c r, addEnt (.whole b) (.whole c :: r) = if c = b then .whole c :: r else .whole c :: addEnt (.whole b) r) ∧
  (nodupB [] = true) ∧
  (∀ x, nodupB [x] = true) ∧
  (∀ sto, pickB sto [] = some []) ∧
  (∀ sto b r, pickB sto (b :: r) = sto[b]?.bind fun x => (pickB sto r).bind fun l => some (x :: l)) ∧
  (∀ {α : Type} (a : α) (l : List α), (a :: l)[0]? = some a) ∧
  (∀ {α : Type} (a : α) (l : List α) (n : Nat), (a :: l)[n + 1]? = l[n]?) ∧
  (∀ {α : Type} (n : Nat), ([] : List α)[n]? = none) ∧
  (∀ {α : Type} (a b : α) (l : List α), (a :: l).set 0 b = b :: l) ∧
  (∀ {α : Type} (a b : α) (l : List α) (n : Nat), (a :: l).set (n + 1) b = a :: l.set n b) ∧
  (∀ {α : Type} (l : List α), [] ++ l = l) ∧
  (∀ {α : Type} (l : List α), l ++ [] = l) ∧
  (∀ {α : Type} (a : α) (l r : List α), (a :: l) ++ r = a :: (l ++ r)) ∧
  (∀ {α : Type} (a : α), List.replicate 0 a = []) ∧
  (∀ {α : Type} (a : α) (n : Nat), List.replicate (n + 1) a = a :: List.replicate n a) ∧
  (∀ {α β : Type} (g : α → β), List.map g [] = []) ∧
  (∀ {α β : Type} (g : α → β) (a : α) (l : List α), List.map g (a :: l) = g a :: List.map g l) ∧
  (∀ {α : Type}, ([] : List α).length = 0) ∧
  (∀ {α : Type} (a : α) (l : List α), (a :: l).length = l.length + 1) ∧
  (∀ {α : Type} (l : List α), l.take 0 = []) ∧
  (∀ {α : Type} (a : α) (l : List α) (n : Nat), (a :: l).take (n + 1) = a :: l.take n) ∧
  (∀ {α β : Type} (l : List β), ([] : List α).zip l = []) ∧
  (∀ {α β : Type} (a : α) (b : β) (l : List α) (r : List β), (a :: l).zip (b :: r) = (a, b) :: l.zip r) ∧
  (∀ n, 0 + n = n) ∧
  (∀ n, n + 0 = n) ∧
  (∀ k n, r_i k n = [.i k n]) ∧
  (∀ x, r_b x = [.b x]) ∧
  (∀ x, r_s x = [.s x]) ∧
  (∀ {α : Type} (e : Nat) (g : α → List PV) (l : List α), r_sl e g l = [.sl e (l.map g)]) ∧
  (∀ (a : PV), sub [a] 0 1 = some [a]) ∧
  (∀ (a b : PV), spl [a] 0 [b] = some [b]) ∧
  (∀ {α : Type} (cs : List α), sub cs 0 0 = some []) ∧
  (∀ {α : Type} (a : α) (cs : List α) (n : Nat), sub (a :: cs) 0 (n + 1) = (sub cs 0 n).map (a :: ·)) ∧
  (∀ {α : Type} (a : α) (cs : List α) (n m : Nat), sub (a :: cs) (n + 1) m = sub cs n m) ∧
  (∀ {α : Type} (cs : List α), spl cs 0 [] = some cs) ∧
  (∀ {α : Type} (a b : α) (cs vs : List α), spl (a :: cs) 0 (b :: vs) = (spl cs 0 vs).map (b :: ·)) ∧
  (∀ {α : Type} (a : α) (cs : List α) (n : Nat) (vs : List α), spl (a :: cs) (n + 1) vs = (spl cs n vs).map (a :: ·)) ∧
  (∀ n b off l c cs, stB n b off l (.box (c :: cs)) = if l.length = n then (spl (c :: cs) off l).map fun cs => ⟨undefV, [(b, .box cs)]⟩ else none) ∧
  (∀ off size c a cs r, fillAll ((off, size, c) :: r) (a :: cs) = if c.length = size then (spl (a :: cs) off c).bind fun cs => fillAll r cs else none) ∧
  (∀ {α : Type} (a b : α), (if True then a else b) = a) ∧
  (∀ {α : Type} (a b : α), (if False then a else b) = b) ∧
  (∀ {α : Type} (a b : α), (if true = true then a else b) = a) ∧
  (∀ {α : Type} (a b : α), (if false = true then a else b) = b) ∧
  (∀ a, (True ∧ a) = a) ∧
  (∀ a, (a ∧ True) = a) ∧
  (∀ {α : Type} (a : α), (a = a) = True) ∧
  (∀ {α β : Type} (a : α) (b : β), (a, b).1 = a) ∧
  (∀ {α β : Type} (a : α) (b : β), (a, b).2 = b) :=
  ⟨by intros; rfl,
  by intros; rfl,
  by intros; rfl,
  by intros; rfl,
  by intros; rfl,
  by intros; rfl,
  by intros; rfl,
  by intros; rfl,
  by intros; rfl,
  by intros; rfl,
  rfl,
  by intros; rfl,
  by intros; rfl,
  by intros; rfl,
  by intros; rfl,
  by intros; rfl,
  by intros; rfl,
  by intros; rfl,
  by intros; rfl,
  by intros; rfl,
  by intros; rfl,
  by intros; rfl,
  by intros; rfl,
  by intros; rfl,
  by intros; rfl,
  by intros; rfl,
  by intros; rfl,
  by intros; rfl,
  by intros; rfl,
  by intros; rfl,
  by intros; rfl,
  by intros; rfl,
  by intros; rfl,
  by intros; rfl,
  by intros; rfl,
  by intros; rfl,
  by intros; rfl,
  by intros; rfl,
  by intros; rfl,
  by intros; rfl,
  by intros; rfl,
  by intros; rfl,
  by intros; rfl,
  by intros; rfl,
  by intros; rfl,
  by intros; rfl,
  by intros; rfl,
  by intros; rfl,
  by intros; rfl,
  by intros; rfl,
  by intros; rfl,
  rfl,
  by intros; rfl,
  by intro k x y; simp only [binP, if_true, intP, Option.map_some]; try rfl,
  by intro k x y; simp only [binP, if_true, intP, Option.map_some]; try rfl,
  by intro k x y; simp only [binP, if_true, intP, Option.map_some]; try rfl,
  by intro k x y; simp only [binP, if_true, intP, Option.map_some]; try rfl,
  by intro k x y; simp only [binP, if_true, intP, Option.map_some]; try rfl,
  by intro k x y; simp only [binP, if_true, intP, Option.map_some]; try rfl,
  by intro k x y; simp only [binP, if_true, intP, Option.map_some]; try rfl,
  by intro k x y; simp only [binP, if_true, intP, Option.map_some]; try rfl,
  by intro k x y; simp only [binP, if_true, intP, Option.map_some]; try rfl,
  by intro k x y; simp only [binP, if_true, intP, Option.map_some]; try rfl,
  by intro k x y; simp only [binP, if_true, intP, Option.map_some]; try rfl,
  by intro k x y; simp only [binP, if_true, intP, Option.map_some]; try rfl,
  by intro k x y; simp only [binP, if_true, intP, quoS]; split <;> rfl,
  by intro k x y; simp only [binP, if_true, intP, remS]; split <;> rfl,
  by intro k k2 x y; simp only [binP, shiftP, shlS]; split <;> rfl,
  by intro k k2 x y; simp only [binP, shiftP, shrS]; split <;> rfl,
  by intro x y; simp only [binP, strP, catS]; split <;> rfl,
  by intro x y; rfl,
  by intro x y; rfl,
  by intro x y; rfl,
  by intro x y; rfl,
  by intro x y; rfl,
  by intro x y; rfl,
  by intros; rfl,
  by intros; rfl,
  by intro ks a c; simp only [binP, negB]; cases cmpL ks a c <;> rfl,
  by intro ks a c; simp only [binP, negB]; cases cmpL ks a c <;> rfl,
  by intros; rfl,
  by intros; rfl,
  by intros; rfl,
  by intros; rfl,
  by intros; rfl,
  rfl,
  rfl,
  by intros; rfl,
  by intros; rfl,
  by intros; rfl,
  by intros; rfl,
  by intros; rfl,
  by intro g off n cs; simp only [fieldP]; cases sub cs off n <;> rfl,
  by intro g off n c cs; simp only [fieldP]; cases sub (c :: cs) off n <;> rfl,
  by intros; rfl,
  by intros; rfl,
  by intro cs; exact ofCells_agg cs,
  by intro c cs; simp only [ofCells, if_true]; cases unp (c :: cs) <;> rfl,
  by intros; rfl,
  by intros; rfl,
  by intros; rfl,
  by intros; rfl,
  rfl,
  by intro c r; simp only [unp]; cases unp r <;> rfl,
  by intros; rfl,
  by intros; rfl,
  by intros; rfl,
  by intros; rfl,
  by intros; rfl,
  by intros; rfl,
  by intros; rfl,
  by intro α β g l; simp,
  by intros; rfl,
  by intros; rfl,
  by intros; rfl,
  by intro env sto g n cs off; exact ldC_aux ..,
  by intro env sto g n b off; exact ldB_aux ..,
  by intro env sto g n b e i off; exact ldE_aux ..,
  by intro g n off cs; exact ldB_m ..,
  by intros; rfl,
  by intros; rfl,
  by intro env sto n b off v; exact stB_aux ..,
  by intro n b off cs vs; exact stB_m ..,
  by intro b off cs v; exact stB_1 ..,
  by intro env sto n b e i off v; exact stE_aux ..,
  by intro n b e i off z c rows s; exact stE_p ..,
  by intro n b e i off z cs rows s; exact stE_d ..,
  by intros; rfl,
  by intros; rfl,
  by intros; rfl,
  by intros; rfl,
  by intros; rfl,
  by intros; rfl,
  by intro n cs; exact bx_aux ..,
  by intros; rfl,
  by intros; rfl,
  by intro env sto e rows k n; exact ia_c_aux ..,
  by intro env sto e b m k n; exact ia_o_aux ..,
  by intro e b m n w rows; exact iab_aux ..,
  by intros; rfl,
  by intros; rfl,
  by intros; rfl,
  by intro l k n; exact sid_ok ..,
  by intro g n e cs k i; exact ai_aux ..,
  by intros; rfl,
  by intros; rfl,
  @cv_t,
  by intro env sto b n new; exact cv_o_aux ..,
  @cv_ob,
  by intro env sto l new; exact cv_b_aux ..,
  by intro env sto l new; exact cv_bo_aux ..,
  by intros; rfl,
  by intro env sto off size x r; exact pa_aux ..,
  by intros; rfl,
  by intro off size vs cs r; exact fi_m_aux ..,
  by intro off v cs r; exact fi_1_aux ..,
  by intros; rfl,
  by intro env sto x r; exact es_aux ..,
  by intros; rfl,
  by intro env sto c r; exact ar_aux _ _ rfl ..,
  by intro env sto c r; exact ar_aux _ _ rfl ..,
  by intro env sto b o r; exact ar_aux _ _ rfl ..,
  by intro env sto c o r; exact ar_aux _ _ rfl ..,
  by intro env sto b x i o r; exact ar_aux _ _ rfl ..,
  by intro env sto b n r; exact ar_s_aux ..,
  by intro env sto cs r; exact ar_a_aux ..,
  @fr,
  by intros; rfl,
  by intro env sto c r; exact fz_p_aux ..,
  by intro env sto b n r; exact fz_s_aux ..,
  by intros; rfl,
  by intro env sto f a c r; exact ar_aux _ _ rfl ..,
  by intro m ids sto f a c; exact fnf_aux ..,
  by intros; rfl,
  by intros; rfl,
  by intros; rfl,
  by intro env sto b c x ws; exact gbc_aux ..,
  by intros; rfl,
  by intro b c x r; exact lw_aux ..,
  by intros; rfl,
  by intros; rfl,
  by intros; rfl,
  by intros; rfl,
  by intro env sto b; exact gb_aux ..,
  by intro env sto e rows; exact ro_s_aux ..,
  by intro env sto l; exact ro_t_aux ..,
  by intro env sto e b n; exact ro_o_aux ..,
  by intro e n w rows; exact ro_b_aux ..,
  by intro env sto o e n new z ps; exact lt_aux ..,
  by intros; rfl,
  by intro env sto x r; exact fs_aux ..,
  by intros; rfl,
  by intros; rfl,
  by intros; rfl,
  by intro env sto b n; exact fzv_s_aux ..,
  by intros; rfl,
  by intros; rfl,
  @mk,
  by intros; rfl,
  by intros; rfl,
  by intro env sto s c lo hi; exact sl_p_aux ..,
  by intro env sto s b n lo hi; exact sl_o_aux ..,
  by intros; rfl,
  by intros; rfl,
  @cl,
  by intros; rfl,
  by intro m k sto x r; exact fe_aux ..,
  by intros; rfl,
  by intro m ids sto x r; exact fb_aux ..,
  by intros; rfl,
  by intros; rfl,
  by intro m ids sto cs; exact fbb_aux ..,
  by intro m ids sto l; exact finL_mapp m ids sto l,
  by intros; rfl,
  by intro m ids sto x r; exact fl_aux ..,
  by intros; rfl,
  by intros; rfl,
  by intros; rfl,
  by intros; rfl,
  by intros; rfl,
  by intro m ids sto b n; exact fsl_aux ..,
  by intros; rfl,
  by intros; rfl,
  by intro m ids sto cs; exact fna_aux ..,
  by intro m ids sto x cs; exact fnt_aux ..,
  by intros; rfl,
  by intros; rfl,
  by intros; rfl,
  by intros; rfl,
  by intros; rfl,
  by intro env sto t r; exact rs_t_aux ..,
  by intro env sto t n g r; exact rs_c_aux ..,
  by intros; rfl,
  rfl,
  by intros; rfl,
  by intros; rfl,
  by intro m b sto r; exact oi_aux ..,
  by intros; rfl,
  by intros; rfl,
  by intros; rfl,
  by intro sto b r acc; exact eb_aux ..,
  by intros; rfl,
  by intros; rfl,
  by intros; rfl,
  by intros; rfl,
  by intro cs l; exact ents_mapp cs l,
  by intros; rfl,
  by intros; rfl,
  by intros; rfl,
  by intros; rfl,
  by intros; rfl,
  by intros; rfl,
  by intros; rfl,
  by intros; rfl,
  by intro b c r; exact ae_aux ..,
  rfl,
  by intros; rfl,
  by intros; rfl,
  by intro sto b r; exact pb_aux ..,
  by intros; rfl,
  by intros; rfl,
  by intros; rfl,
  by intros; rfl,
  by intros; rfl,
  @c_a0,
  @c_an,
  @c_ac,
  by intros; rfl,
  by intros; rfl,
  @c_m0,
  @c_mc,
  @c_l0,
  @c_lc,
  by intros; rfl,
  by intros; rfl,
  by intros; rfl,
  by intros; rfl,
  by intro n; exact Nat.zero_add n,
  by intros; rfl,
  @c_ri,
  @c_rb,
  @c_rs2,
  @c_rl,
  @s1,
  by intros; rfl,
  by intro α cs; rw [sub_def]; simp,
  by intro α a cs n; exact subz_aux ..,
  by intro α a cs n m; exact subs_aux ..,
  by intro α cs; rw [spl_def]; simp,
  by intro α a b cs vs; exact splz_aux ..,
  by intro α a cs n vs; exact spls_aux ..,
  by intros; rfl,
  by intro off size c a cs r; exact fi_r_aux ..,
  by intros; rfl,
  by intros; rfl,
  by intros; rfl,
  by intros; rfl,
  by intro a; simp,
  by intro a; simp,
  by intro α a; simp,
  by intros; rfl,
  by intros; rfl⟩

/-! ### Normal forms -/
set_option maxRecDepth 30000 in
theorem Nf : (∀ {α : Type} (l : List α), [] ++ l = l) ∧
  (∀ {α : Type} (l : List α), l ++ [] = l) ∧
  (∀ {α : Type} (a : α) (l r : List α), (a :: l) ++ r = a :: (l ++ r)) ∧
  (∀ {α β : Type} (g : α → β), List.map g [] = []) ∧
  (∀ {α β : Type} (g : α → β) (a : α) (l : List α), List.map g (a :: l) = g a :: List.map g l) ∧
  (∀ {α : Type}, ([] : List α).length = 0) ∧
  (∀ {α : Type} (a : α) (l : List α), (a :: l).length = l.length + 1) ∧
  (∀ k n, r_i k n = [.i k n]) ∧
  (∀ x, r_b x = [.b x]) ∧
  (∀ x, r_s x = [.s x]) ∧
  (∀ {α : Type} (e : Nat) (g : α → List PV) (l : List α), r_sl e g l = [.sl e (l.map g)]) :=
  ⟨@c_a0,
  @c_an,
  @c_ac,
  @c_m0,
  @c_mc,
  @c_l0,
  @c_lc,
  @c_ri,
  @c_rb,
  @c_rs2,
  @c_rl⟩

/-! ### What operations read -/
set_option maxRecDepth 30000 in
theorem Ra : (∀ F new env sto g n x, rdO F (.load g n x) new ⟨env, sto⟩ = rb (evv x env) fun a => blksOf ((loadR g n a).reads ⟨env, sto⟩)) ∧
  (∀ s g n b o, blksOf ((loadR g n (.ptr b o)).reads s) = [b]) ∧
  (∀ s g n o cs, blksOf ((loadR g n (.cp cs o)).reads s) = []) ∧
  (∀ s g n b e i o, blksOf ((loadR g n (.ep b e i o)).reads s) = [b]) ∧
  (∀ F new s z, rdO F (.newbox z) new s = [new]) ∧
  (∀ F new env sto n x y, rdO F (.store n x y) new ⟨env, sto⟩ = rb (evv x env) fun a => rb (evv y env) fun c => blksOf ((storeR n a c).reads ⟨env, sto⟩)) ∧
  (∀ s n b o v, blksOf ((storeR n (.ptr b o) v).reads s) = [b]) ∧
  (∀ s n b e i o c, blksOf ((storeR n (.ep b e i o) (.p c)).reads s) = [b]) ∧
  (∀ s n b e i o c, blksOf ((storeR n (.ep b e i o) (.data c)).reads s) = [b]) ∧
  (∀ F new env sto g args, rdO F (.call g args 0) new ⟨env, sto⟩ = rb ((evs args).run ⟨env, sto⟩) fun a => blksOf ((argsR a).reads ⟨env, sto⟩) ++ rb ((argsR a).run ⟨env, sto⟩) fun a => blksOf ((callR2 F g a 0 new).reads ⟨env, sto⟩)) ∧
  (∀ F new env sto g args, rdO F (.call g args 1) new ⟨env, sto⟩ = new :: rb (is1 sto[new]?) fun _ => rb ((evs args).run ⟨env, sto⟩) fun a => blksOf ((argsR a).reads ⟨env, sto⟩) ++ rb ((argsR a).run ⟨env, sto⟩) fun a => blksOf ((callR2 F g a 1 new).reads ⟨env, sto⟩)) ∧
  (is1 (some .dead) = some ()) ∧
  (∀ {α β : Type} (a : α) (f : α → List β), rb (some a) f = f a) ∧
  (∀ s, blksOf ((argsR []).reads s) = []) ∧
  (∀ s c r, blksOf ((argsR (.p c :: r)).reads s) = blksOf ((argsR r).reads s)) ∧
  (∀ s c r, blksOf ((argsR (.data c :: r)).reads s) = blksOf ((argsR r).reads s)) ∧
  (∀ s b o r, blksOf ((argsR (.ptr b o :: r)).reads s) = blksOf ((argsR r).reads s)) ∧
  (∀ s c o r, blksOf ((argsR (.cp c o :: r)).reads s) = blksOf ((argsR r).reads s)) ∧
  (∀ s b x i o r, blksOf ((argsR (.ep b x i o :: r)).reads s) = blksOf ((argsR r).reads s)) ∧
  (∀ s b n r, blksOf ((argsR (.slr b 0 n :: r)).reads s) = b :: rb ((argR (.slr b 0 n)).run s) fun _ => blksOf ((argsR r).reads s)) ∧
  (∀ F new s e n z ps, rdO F (.lits false e n z ps) new s = blksOf ((fzs (ps.map (·.2))).reads s)) ∧
  (∀ F new env sto e n z ps, rdO F (.lits true e n z ps) new ⟨env, sto⟩ = new :: rb (is1 sto[new]?) fun _ => blksOf ((fzs (ps.map (·.2))).reads ⟨env, sto⟩)) ∧
  (∀ s, blksOf ((fzs []).reads s) = []) ∧
  (∀ env sto x r, blksOf ((fzs (x :: r)).reads ⟨env, sto⟩) = rb (evv x env) fun v => blksOf ((fz v).reads ⟨env, sto⟩) ++ rb ((fz v).run ⟨env, sto⟩) fun _ => blksOf ((fzs r).reads ⟨env, sto⟩)) ∧
  (∀ s c, blksOf ((fz (.p c)).reads s) = []) ∧
  (∀ s c, blksOf ((fz (.data c)).reads s) = []) ∧
  (∀ s b n, blksOf ((fz (.slr b 0 n)).reads s) = [b]) ∧
  (∀ F new env sto x, rdO F (.conv .toStr x) new ⟨env, sto⟩ = rb (evv x env) fun a => blksOf ((rowsOf 1 a).reads ⟨env, sto⟩)) ∧
  (∀ s e b n, blksOf ((rowsOf e (.slr b 0 n)).reads s) = [b]) ∧
  (∀ s e z rows, blksOf ((rowsOf e (.p (.sl z rows))).reads s) = []) ∧
  (∀ F new env sto e x i, rdO F (.iaddr e x i) new ⟨env, sto⟩ = rb (evv x env) fun a => rb (evv i env) fun c => blksOf ((iaddrR e a c).reads ⟨env, sto⟩)) ∧
  (∀ s e b n k i, blksOf ((iaddrR e (.slr b 0 n) (.p (.i k i))).reads s) = [b]) ∧
  (∀ s e z rows k i, blksOf ((iaddrR e (.p (.sl z rows)) (.p (.i k i))).reads s) = []) ∧
  (∀ a b c d, pkk (some (a, b)) (some (c, d)) = (disj b c && disj b d && disj a d)) ∧
  (∀ b, disj [] b = true) ∧
  (∀ x a b, disj (x :: a) b = (!(b.contains x) && disj a b)) ∧
  (∀ x, ([] : List Nat).contains x = false) ∧
  (∀ (x y : Nat) (l : List Nat), (y :: l).contains x = (x == y || l.contains x)) ∧
  (∀ a, (true && a) = a) ∧
  (∀ a, (false && a) = false) ∧
  (∀ a, (true || a) = true) ∧
  (∀ a, (false || a) = a) :=
  ⟨by intro F new env sto g n x; exact rd_load ..,
  by intro s g n b o; exact ldr_ptr ..,
  by intro s g n o cs; exact ldr_cp ..,
  by intro s g n b e i o; exact ldr_ep ..,
  by intro F new s z; exact rd_newbox ..,
  by intro F new env sto n x y; exact rd_store ..,
  by intro s n b o v; exact str_ptr ..,
  by intro s n b e i o c; exact str_ep_p ..,
  by intro s n b e i o c; exact str_ep_d ..,
  by intro F new env sto g args; exact rd_call0 ..,
  by intro F new env sto g args; exact rd_call1 ..,
  rfl,
  by intros; rfl,
  by intros; rfl,
  by intro s c r; exact arr_cons s rfl r,
  by intro s c r; exact arr_cons s rfl r,
  by intro s b o r; exact arr_cons s rfl r,
  by intro s c o r; exact arr_cons s rfl r,
  by intro s b x i o r; exact arr_cons s rfl r,
  by intro s b n r; exact arr_slr ..,
  by intro F new s e n z ps; exact rd_lits0 ..,
  by intro F new env sto e n z ps; exact rd_lits1 ..,
  by intros; rfl,
  by intro env sto x r; exact fzs_rd ..,
  by intros; rfl,
  by intros; rfl,
  by intro s b n; exact fz_slr_reads ..,
  by intro F new env sto x; exact rd_conv0 ..,
  by intro s e b n; exact ro_rd_slr ..,
  by intro s e z rows; exact ro_rd_sl ..,
  by intro F new env sto e x i; exact rd_iaddr ..,
  by intro s e b n k i; exact ia_rd_slr ..,
  by intro s e z rows k i; exact ia_rd_sl ..,
  by intros; rfl,
  by intros; rfl,
  by intro x a b; simp [disj],
  by intros; rfl,
  by intro x y l; rw [List.contains_cons],
  by intro a; simp,
  by intro a; simp,
  by intro a; simp,
  by intro a; simp⟩


end Go.Am
end

