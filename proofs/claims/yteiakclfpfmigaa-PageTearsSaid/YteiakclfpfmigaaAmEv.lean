/-
  The abstract machine: equations by which runs are evaluated, one for each operation. Written by a program of mine.
-/
import Derived.Test.YteiakclfpfmigaaAmTy
set_option linter.unusedSimpArgs false
set_option linter.unusedVariables false
namespace Go.Am

@[congr] theorem rk_congr {T : Tabl} {f : AFn} {m : Nat} {k : List Fr} {o o' : Option Out} (h : o = o') : rk T f m k o = rk T f m k o' := by rw [h]

def tdn (e : AX) (o : Option St) : Option Out := match o with
  | some s => some (e, s)
  | none => none

def fin2 (fresh : Bool) (m : Nat) (vs : List AV) (sto : List Blk) (ids : List Nat) : Option Res :=
  if nodupB ids = true then (fin.finL m ids sto vs).bind fun ws => (finBs m ids sto (sto.take m)).bind fun l => (pickB sto ids).bind fun q => (finBs m ids sto q).bind fun q => some (one ws, l ++ q) else none

def fin1 (res : List ARes) (fresh : Bool) (m : Nat) (s : St) : Option Res :=
  ((resR res).run s).bind fun vs => if s.sto.length = m then some (one vs, s.sto) else fin2 fresh m vs s.sto (outIds m fresh s.sto (entsB s.sto (entsOf.entsOfL vs []) (entsOf.entsOfL vs [])))

theorem finish_fin1 (res : List ARes) (fresh : Bool) (m : Nat) (s : St) : finish ⟨0, 0, .skip, res, fresh⟩ m s = fin1 res fresh m s := by
  unfold finish fin1
  dsimp only
  cases (resR res).run s with
  | none => rfl
  | some vs =>
    simp only [Option.bind_some]
    split
    · rfl
    · unfold fin2
      split
      · generalize outIds m fresh s.sto _ = ids
        cases fin.finL m ids s.sto vs <;> cases finBs m ids s.sto (s.sto.take m) <;> cases pickB s.sto ids <;> try rfl
        rename_i q
        simp only [Option.bind_some]
        cases finBs m ids s.sto q <;> rfl
      · rfl

theorem rk_fin1 (T : Tabl) (f : AFn) (m : Nat) (s : St) : rk T f m [] (some (.normal, s)) = fin1 f.res f.fresh m s := (rk_nil_n T f m s).trans (finish_fin1 ..)
theorem rk_fin1r (T : Tabl) (f : AFn) (m : Nat) (s : St) : rk T f m [] (some (.ret, s)) = fin1 f.res f.fresh m s := (rk_nil_r T f m s).trans (finish_fin1 ..)

def dds {α : Type} (n new : Nat) (sto : List Blk) (o : Option α) : Option α := match (deadR new n).run ⟨[], sto⟩ with
  | some _ => o
  | none => none

def dd1 {α : Type} (b : Option Blk) (o : Option α) : Option α := match b with
  | some .dead => o
  | _ => none

@[congr] theorem dd1_congr {α : Type} {b b' : Option Blk} {o : Option α} (h : b = b') : dd1 b o = dd1 b' o := by rw [h]

theorem dds1 {α : Type} (new : Nat) (sto : List Blk) (o : Option α) : dds 1 new sto o = dd1 sto[new]? o := by
  unfold dds dd1
  simp only [deadR, RM.run]
  cases sto[new]? with
  | none => rfl
  | some b => cases b <;> rfl

section
variable {F : Orc} {r : List AIns} {new d : Nat} {env : List (Nat × AV)} {sto : List Blk}

theorem dead_env (n : Nat) : ∀ new, (deadR new n).run ⟨env, sto⟩ = (deadR new n).run ⟨[], sto⟩ := by
  induction n with
  | zero => intro new; rfl
  | succ n ih =>
    intro new
    simp only [deadR, RM.run]
    cases sto[new]? with
    | none => rfl
    | some b => cases b <;> first | exact ih _ | rfl

def lgA (l : Option Log) (a b : List Nat) : Option Log := l.map (· ++ [(a, b)])

/-- The blocks that an operation reads. -/
def rdO (F : Orc) (op : AOp) (new : Nat) (s : St) : List Nat := blksOf ((opD F op new).reads s)

abbrev GR := Option (St × Option Log)

/-- A region, with a log of what was read and written where one is kept. -/
def runG (F : Orc) : List AIns → Nat → St → Option Log → GR
  | [], _, s, l => some (s, l)
  | i :: r, new, s, l => match (insR F i new).run s with
    | some e => runG F r (new + newOf i.op) (put i.dst e s) (lgA l (blksOf ((insR F i new).reads s)) (e.ws.map (·.1)))
    | none => none

theorem runG_none (F : Orc) (ins : List AIns) : ∀ new s, runG F ins new s none = (runIns F ins new s).map fun s => (s, none) := by
  induction ins with
  | nil => intro new s; rfl
  | cons i r ih =>
    intro new s
    simp only [runG, runIns]
    cases (insR F i new).run s with
    | none => rfl
    | some e => exact ih _ _

theorem runG_log (F : Orc) (ins : List AIns) : ∀ new s l, runG F ins new s (some l) = (runLog F ins new s l).map fun x => (x.1, some x.2) := by
  induction ins with
  | nil => intro new s l; rfl
  | cons i r ih =>
    intro new s l
    simp only [runG, runLog]
    cases (insR F i new).run s with
    | none => rfl
    | some e => exact ih _ _ _

def endG (o : GR) : Option Out := match o with
  | some (s, _) => some (.normal, s)
  | none => none

def endP (ps : List (Nat × Nat)) (o : GR) : Option Out := match o with
  | some (s, some l) => if pairsOk l ps = true then some (.normal, s) else none
  | _ => none

theorem rk_regG (T : Tabl) (f : AFn) (m : Nat) (k : List Fr) (d ins env sto) : rk T f m k (X T (.reg d [] ins) ⟨env, sto⟩) = rk T f m k (endG (runG (AF T) ins sto.length ⟨env, room (news ins) sto⟩ none)) := by
  rw [rk_reg, runG_none]
  cases runIns (AF T) ins sto.length ⟨env, room (news ins) sto⟩ <;> rfl

theorem rk_regP (T : Tabl) (f : AFn) (m : Nat) (k : List Fr) (d p ps ins env sto) : rk T f m k (X T (.reg d (p :: ps) ins) ⟨env, sto⟩) = rk T f m k (endP (p :: ps) (runG (AF T) ins sto.length ⟨env, room (news ins) sto⟩ (some []))) := by
  rw [X_reg, runG_log]
  simp only [region]
  cases runLog (AF T) ins sto.length ⟨env, room (news ins) sto⟩ [] with
  | none => rfl
  | some x =>
    obtain ⟨s, l⟩ := x
    simp only [Option.map_some, endP]
    split <;> rfl

theorem stD {lg : Option Log} (op : AOp) : runG F (⟨op, some d, none⟩ :: r) new ⟨env, sto⟩ lg = dds (newOf op) new sto (((opR F op new).run ⟨env, sto⟩).bind fun e => runG F r (new + newOf op) ⟨(d, e.val) :: env, upd e.ws sto⟩ (lgA lg (rdO F op new ⟨env, sto⟩) (e.ws.map (·.1)))) := by
  have e0 : (insR F ⟨op, some d, none⟩ new).run ⟨env, sto⟩ = dds (newOf op) new sto ((opR F op new).run ⟨env, sto⟩) := by
    simp only [insR, opD, run_bind, dead_env (env := env)]
    unfold dds
    cases (deadR new (newOf op)).run ⟨[], sto⟩ <;> rfl
  simp only [runG, e0]
  unfold dds
  cases (deadR new (newOf op)).run ⟨[], sto⟩ with
  | none => rfl
  | some u => simp only []; cases (opR F op new).run ⟨env, sto⟩ <;> rfl

theorem stDn {lg : Option Log} (op : AOp) : runG F (⟨op, none, none⟩ :: r) new ⟨env, sto⟩ lg = dds (newOf op) new sto (((opR F op new).run ⟨env, sto⟩).bind fun e => runG F r (new + newOf op) ⟨env, upd e.ws sto⟩ (lgA lg (rdO F op new ⟨env, sto⟩) (e.ws.map (·.1)))) := by
  have e0 : (insR F ⟨op, none, none⟩ new).run ⟨env, sto⟩ = dds (newOf op) new sto ((opR F op new).run ⟨env, sto⟩) := by
    simp only [insR, opD, run_bind, dead_env (env := env)]
    unfold dds
    cases (deadR new (newOf op)).run ⟨[], sto⟩ <;> rfl
  simp only [runG, e0]
  unfold dds
  cases (deadR new (newOf op)).run ⟨[], sto⟩ with
  | none => rfl
  | some u => simp only []; cases (opR F op new).run ⟨env, sto⟩ <;> rfl

theorem st0 {lg : Option Log} {op : AOp} (h : newOf op = 0) : runG F (⟨op, some d, none⟩ :: r) new ⟨env, sto⟩ lg = ((opR F op new).run ⟨env, sto⟩).bind fun e => runG F r new ⟨(d, e.val) :: env, upd e.ws sto⟩ (lgA lg (rdO F op new ⟨env, sto⟩) (e.ws.map (·.1))) := by
  rw [stD, h]; rfl

theorem st0n {lg : Option Log} {op : AOp} (h : newOf op = 0) : runG F (⟨op, none, none⟩ :: r) new ⟨env, sto⟩ lg = ((opR F op new).run ⟨env, sto⟩).bind fun e => runG F r new ⟨env, upd e.ws sto⟩ (lgA lg (rdO F op new ⟨env, sto⟩) (e.ws.map (·.1))) := by
  rw [stDn, h]; rfl

def pk (u : AV) (a b : Option AV) : Option AV := match u with
  | .p (.b x) => if x = true then a else b
  | _ => none

@[congr] theorem dds_congr {α : Type} {n n' new new' : Nat} {sto : List Blk} {o : Option α} (h : n = n') (h' : new = new') : dds n new sto o = dds n' new' sto o := by rw [h, h']

theorem dds_none {α : Type} (n new : Nat) (sto : List Blk) : dds n new sto (none : Option α) = none := by
  unfold dds; split <;> rfl

theorem dds_bind {α β : Type} (n new : Nat) (sto : List Blk) (o : Option α) (g : α → Option β) : dds n new sto (o.bind g) = o.bind fun a => dds n new sto (g a) := by
  cases o with
  | none => exact dds_none ..
  | some a => rfl

theorem mv_aux {β : Type} {K : Eff → Option β} {o : Option AV} : ((o.bind fun v => some ⟨v, []⟩).bind K) = o.bind fun v => K ⟨v, []⟩ := by cases o <;> rfl

def pkk (a b : Option (List Nat × List Nat)) : Bool := match a, b with
  | some a, some b => disj a.2 b.1 && disj a.2 b.2 && disj a.1 b.2
  | _, _ => false

theorem pick_aux {β : Type} {K : Eff → Option β} {a b : Opd} {o : Option AV} : ((o.bind fun u => RM.run (match u with
    | .p (.b x) => if x = true then (ev a).bind fun v => .ret ⟨v, []⟩ else (ev b).bind fun v => .ret ⟨v, []⟩
    | _ => .fail) ⟨env, sto⟩).bind K) = o.bind fun u => (pk u (evv a env) (evv b env)).bind fun v => K ⟨v, []⟩ := by
  cases o with
  | none => rfl
  | some u =>
    simp only [Option.bind_some]
    cases u with
    | p c =>
      cases c with
      | b x =>
        cases x with
        | true => simp only [if_true, run_bind, run_ev, pk]; cases evv a env <;> rfl
        | false => simp only [Bool.false_eq_true, if_false, run_bind, run_ev, pk]; cases evv b env <;> rfl
      | _ => rfl
    | _ => rfl

theorem one_aux {β : Type} {K : Eff → Option β} {o : Option AV} (g : AV → Option AV) : ((o.bind fun a => (Go.Am.val (g a)).run ⟨env, sto⟩).bind K) = o.bind fun a => (g a).bind fun v => K ⟨v, []⟩ := by
  cases o with
  | none => rfl
  | some a => simp only [Option.bind_some]; cases g a <;> rfl

theorem two_aux {β : Type} {K : Eff → Option β} {o o' : Option AV} (g : AV → AV → Option AV) : ((o.bind fun a => o'.bind fun c => (Go.Am.val (g a c)).run ⟨env, sto⟩).bind K) = o.bind fun a => o'.bind fun c => (g a c).bind fun v => K ⟨v, []⟩ := by
  cases o with
  | none => rfl
  | some a =>
    cases o' with
    | none => rfl
    | some c => simp only [Option.bind_some]; cases g a c <;> rfl

theorem one_aux2 {β : Type} {o : Option AV} (g : AV → Option Eff) {k : Eff → Option β} : ((o.bind fun a => g a).bind k) = o.bind fun a => (g a).bind k := by
  cases o <;> rfl

theorem two_aux2 {β : Type} {o o' : Option AV} (g : AV → AV → Option Eff) {k : Eff → Option β} : ((o.bind fun a => o'.bind fun c => g a c).bind k) = o.bind fun a => o'.bind fun c => (g a c).bind k := by
  cases o <;> cases o' <;> rfl

def sidP (a c : AV) : Option AV := match a, c with
  | .p (.s l), .p (.i _ n) => if 0 ≤ n then
      match l[n.toNat]? with
      | some u => some (.p (.i .u8 u.toNat))
      | none => none
    else none
  | _, _ => none

theorem sid_aux {β : Type} {K : Eff → Option β} {o o' : Option AV} : ((o.bind fun a => o'.bind fun c => RM.run (match a, c with
    | .p (.s l), .p (.i _ n) => if 0 ≤ n then
        match l[n.toNat]? with
        | some u => .ret ⟨.p (.i .u8 u.toNat), []⟩
        | none => .fail
      else .fail
    | _, _ => .fail) ⟨env, sto⟩).bind K) = o.bind fun a => o'.bind fun c => (sidP a c).bind fun v => K ⟨v, []⟩ := by
  cases o with
  | none => rfl
  | some a =>
    cases o' with
    | none => rfl
    | some c =>
      simp only [Option.bind_some, sidP]
      split
      · split
        · split <;> rfl
        · rfl
      · rfl

theorem sid_ok (l : List UInt8) (k : IntKind) (n : Int) : sidP (.p (.s l)) (.p (.i k n)) = (sidS l n).map fun v => .p (.i .u8 v) := by
  simp only [sidP, sidS]
  by_cases h : 0 ≤ n
  · simp only [if_pos h]; cases l[n.toNat]? <;> rfl
  · simp only [if_neg h]; rfl

def aidP (g : Bool) (n e : Nat) (a c : AV) : Option AV := match c with
  | .p (.i _ i) => if 0 ≤ i ∧ i < n then fieldP g (i.toNat * e) e a else none
  | _ => none

theorem aid_aux {β : Type} {K : Eff → Option β} {g : Bool} {n e : Nat} {o o' : Option AV} : ((o.bind fun a => o'.bind fun c => RM.run (match c with
    | .p (.i _ i) => if 0 ≤ i ∧ i < n then Go.Am.val (fieldP g (i.toNat * e) e a) else .fail
    | _ => .fail) ⟨env, sto⟩).bind K) = o.bind fun a => o'.bind fun c => (aidP g n e a c).bind fun v => K ⟨v, []⟩ := by
  cases o with
  | none => rfl
  | some a =>
    cases o' with
    | none => rfl
    | some c =>
      simp only [Option.bind_some, aidP]
      split
      · split
        · cases fieldP g _ e a <;> rfl
        · rfl
      · rfl

theorem ai_aux (g : Bool) (n e : Nat) (cs : List PV) (k : IntKind) (i : Int) : aidP g n e (.data cs) (.p (.i k i)) = if 0 ≤ i ∧ i < n then (sub cs (i.toNat * e) e).bind (ofPCells g) else none := by
  simp only [aidP, fieldP]
  split
  · cases sub cs (i.toNat * e) e <;> rfl
  · rfl

def nckP : AV → Option AV
  | .ptr b o => some (.ptr b o)
  | .cp cs o => some (.cp cs o)
  | .ep b e i o => some (.ep b e i o)
  | .fn f u c => some (.fn f u c)
  | _ => none

theorem nck_aux {β : Type} {K : Eff → Option β} {o : Option AV} : ((o.bind fun a => RM.run (match a with
    | .ptr b o => .ret ⟨.ptr b o, []⟩
    | .cp cs o => .ret ⟨.cp cs o, []⟩
    | .ep b e i o => .ret ⟨.ep b e i o, []⟩
    | .fn f u c => .ret ⟨.fn f u c, []⟩
    | _ => .fail) ⟨env, sto⟩).bind K) = o.bind fun a => (nckP a).bind fun v => K ⟨v, []⟩ := by
  cases o with
  | none => rfl
  | some a => cases a <;> rfl

def cvR (k : CK) (a : AV) (new : Nat) : RM Eff := match k, a with
  | .int k, .p (.i _ n) => .ret ⟨.p (.i k (k.wrap n)), []⟩
  | .same, .p (.s l) => .ret ⟨.p (.s l), []⟩
  | .toStr, a => (rowsOf 1 a).bind fun rows => match bytesOf rows with
    | some l => .ret ⟨.p (.s l), []⟩
    | none => .fail
  | .toBytes own, .p (.s l) => if own then .ret ⟨.slr new 0 l.length, [(new, .arr true 1 (l.map byteRow))]⟩ else .ret ⟨.p (.sl 1 (l.map byteRow)), []⟩
  | _, _ => .fail

theorem conv_aux {lg : Option Log} {c : CK} {x : Opd} : runG F (⟨.conv c x, some d, none⟩ :: r) new ⟨env, sto⟩ lg = (evv x env).bind fun a => dds (newOf (.conv c x)) new sto (((cvR c a new).run ⟨env, sto⟩).bind fun e => runG F r (new + newOf (.conv c x)) ⟨(d, e.val) :: env, upd e.ws sto⟩ (lgA lg (rdO F (.conv c x) new ⟨env, sto⟩) (e.ws.map (·.1)))) := by
  rw [stD]
  have : (opR F (.conv c x) new).run ⟨env, sto⟩ = (evv x env).bind fun a => (cvR c a new).run ⟨env, sto⟩ := by
    simp only [opR, run_bind, run_ev]; rfl
  rw [this, one_aux2 (fun a => (cvR c a new).run ⟨env, sto⟩), dds_bind]

theorem build_aux {lg : Option Log} {z : List PV} {ps : List (Nat × Nat × Opd)} : runG F (⟨.build z ps, some d, none⟩ :: r) new ⟨env, sto⟩ lg = ((partsR ps).run ⟨env, sto⟩).bind fun l => (fillAll l (z.map .p)).bind fun cs => (ofCells true cs).bind fun v => runG F r new ⟨(d, v) :: env, sto⟩ (lgA lg (rdO F (.build z ps) new ⟨env, sto⟩) []) := by
  rw [st0 (h := rfl)]
  simp only [opR, run_bind]
  cases (partsR ps).run ⟨env, sto⟩ with
  | none => rfl
  | some l =>
    simp only [Option.bind_some]
    cases fillAll l (z.map .p) with
    | none => rfl
    | some cs => simp only [Option.bind_some]; cases ofCells true cs <;> rfl

def evo1 (x : Option Opd) (env : List (Nat × AV)) : Option (Option AV) := match x with
  | none => some none
  | some x => (evv x env).map some

theorem evo_run (x : Option Opd) : (evo x).run ⟨env, sto⟩ = evo1 x env := by
  cases x with
  | none => rfl
  | some x => simp only [evo, run_bind, run_ev, evo1]; cases evv x env <;> rfl

def slR (s : SK) (a : AV) (lo hi mx : Option AV) : RM Eff := match a with
  | .slr b i n => (fz (.slr b i n)).bind fun y => match y.1 with
    | [c] => match sliceP s (.p c) lo hi mx with
      | some v => .ret ⟨v, y.2⟩
      | none => .fail
    | _ => .fail
  | a => Go.Am.val (sliceP s a lo hi mx)

theorem slice_aux {lg : Option Log} {s : SK} {x : Opd} {lo hi mx : Option Opd} : runG F (⟨.slice s x lo hi mx, some d, none⟩ :: r) new ⟨env, sto⟩ lg = (evv x env).bind fun a => (evo1 lo env).bind fun lo1 => (evo1 hi env).bind fun hi1 => (evo1 mx env).bind fun mx1 => ((slR s a lo1 hi1 mx1).run ⟨env, sto⟩).bind fun e => runG F r new ⟨(d, e.val) :: env, upd e.ws sto⟩ (lgA lg (rdO F (.slice s x lo hi mx) new ⟨env, sto⟩) (e.ws.map (·.1))) := by
  rw [st0 (h := rfl)]
  have : (opR F (.slice s x lo hi mx) new).run ⟨env, sto⟩ = (evv x env).bind fun a => (evo1 lo env).bind fun lo => (evo1 hi env).bind fun hi => (evo1 mx env).bind fun mx => (slR s a lo hi mx).run ⟨env, sto⟩ := by
    simp only [opR, run_bind, run_ev, evo_run]; rfl
  rw [this]
  cases evv x env with
  | none => rfl
  | some a =>
    cases evo1 lo env with
    | none => rfl
    | some lo =>
      cases evo1 hi env with
      | none => rfl
      | some hi => cases evo1 mx env <;> rfl

def slX (s : SK) (x : AV) (lo hi : Option AV) : Option AV := sliceP s x lo hi none

theorem newbox_aux {lg : Option Log} {z : List PV} : runG F (⟨.newbox z, some d, none⟩ :: r) new ⟨env, sto⟩ lg = dds 1 new sto (runG F r (new + 1) ⟨(d, .ptr new 0) :: env, sto.set new (.box (z.map .p))⟩ (lgA lg (rdO F (.newbox z) new ⟨env, sto⟩) [new])) := by
  rw [stD]; rfl
theorem appn_aux {lg : Option Log} {e b : Nat} {z : List PV} {y : Opd} : runG F (⟨.appn e b z y, some d, none⟩ :: r) new ⟨env, sto⟩ lg = (evv y env).bind fun c => ((rowsOf e c).run ⟨env, sto⟩).bind fun rows => if roomy rows.length b = true then dds 1 new sto (runG F r (new + 1) ⟨(d, .slr new 0 rows.length) :: env, sto.set new (.arr true e rows)⟩ (lgA lg (rdO F (.appn e b z y) new ⟨env, sto⟩) [new])) else none := by
  rw [stD]
  simp only [opR, run_bind, run_ev, newOf]
  cases evv y env with
  | none => exact dds_none ..
  | some c =>
    simp only [Option.bind_some]
    cases (rowsOf e c).run ⟨env, sto⟩ with
    | none => exact dds_none ..
    | some rows =>
      simp only [Option.bind_some]
      split
      · rfl
      · exact dds_none ..

theorem mkarr_aux {lg : Option Log} {e : Nat} {x : Opd} : runG F (⟨.mkarr e x, some d, none⟩ :: r) new ⟨env, sto⟩ lg = dds 1 new sto (runG F r (new + 1) ⟨(d, .slr new 0 0) :: env, sto.set new (.arr true e [])⟩ (lgA lg (rdO F (.mkarr e x) new ⟨env, sto⟩) [new])) := by
  rw [stD]; rfl

def bxP (n : Nat) (a : AV) : Option (List AV) := match cellsOf a with
  | some cs => if cs.length = n then some cs else none
  | none => none

theorem box_aux {lg : Option Log} {n : Nat} {x : Opd} : runG F (⟨.box n x, some d, none⟩ :: r) new ⟨env, sto⟩ lg = (evv x env).bind fun a => (bxP n a).bind fun cs => dds 1 new sto (runG F r (new + 1) ⟨(d, .ptr new 0) :: env, sto.set new (.box cs)⟩ (lgA lg (rdO F (.box n x) new ⟨env, sto⟩) [new])) := by
  rw [stD]
  simp only [opR, run_bind, run_ev, newOf]
  cases evv x env with
  | none => exact dds_none ..
  | some a =>
    simp only [Option.bind_some, bxP]
    cases cellsOf a with
    | none => exact dds_none ..
    | some cs =>
      dsimp only
      split
      · rfl
      · exact dds_none ..

def ltR (o : Bool) (e n : Nat) (z : List PV) (ps : List (Nat × Opd)) (new : Nat) : RM Eff := (fzs (ps.map (·.2))).bind fun a =>
    match placeAll e ((ps.map (·.1)).zip a.1) (List.replicate n z) with
    | some rows => if o then .ret ⟨.slr new 0 n, a.2 ++ [(new, .arr true e rows)]⟩ else .ret ⟨.p (.sl e rows), a.2⟩
    | none => .fail

theorem lits_aux {lg : Option Log} {o : Bool} {e n : Nat} {z : List PV} {ps : List (Nat × Opd)} : runG F (⟨.lits o e n z ps, some d, none⟩ :: r) new ⟨env, sto⟩ lg = dds (if o then 1 else 0) new sto (((ltR o e n z ps new).run ⟨env, sto⟩).bind fun x => runG F r (new + if o then 1 else 0) ⟨(d, x.val) :: env, upd x.ws sto⟩ (lgA lg (rdO F (.lits o e n z ps) new ⟨env, sto⟩) (x.ws.map (·.1)))) := by
  rw [stD]; rfl

theorem lt_aux (env : List (Nat × AV)) (sto : List Blk) (o : Bool) (e n new : Nat) (z : List PV) (ps : List (Nat × Opd)) : (ltR o e n z ps new).run ⟨env, sto⟩ = ((fzs (ps.map (·.2))).run ⟨env, sto⟩).bind fun a => (placeAll e ((ps.map (·.1)).zip a.1) (List.replicate n z)).map fun rows => if o then ⟨.slr new 0 n, a.2 ++ [(new, .arr true e rows)]⟩ else ⟨.p (.sl e rows), a.2⟩ := by
  simp only [ltR, run_bind]
  cases (fzs (ps.map (·.2))).run ⟨env, sto⟩ with
  | none => rfl
  | some a =>
    simp only [Option.bind_some]
    cases placeAll e ((ps.map (·.1)).zip a.1) (List.replicate n z) with
    | none => rfl
    | some rows => cases o <;> rfl

def mkP (o : Bool) (e b : Nat) (z : List PV) (a c : AV) (new : Nat) : Option Eff := match a, c with
  | .p (.i _ n), .p (.i _ m) =>
    if 0 ≤ n ∧ n ≤ m ∧ b * m ≤ 281474976710656 ∧ m ≤ 281474976710656 then
      some (if o then ⟨.slr new 0 n.toNat, [(new, .arr true e (List.replicate n.toNat z))]⟩ else ⟨.p (.sl e (List.replicate n.toNat z)), []⟩)
    else none
  | _, _ => none

theorem mk_run (o : Bool) (e b : Nat) (z : List PV) (a c : AV) (new : Nat) (s : St) : RM.run (match a, c with
    | .p (.i _ n), .p (.i _ m) =>
      if 0 ≤ n ∧ n ≤ m ∧ b * m ≤ 281474976710656 ∧ m ≤ 281474976710656 then
        if o then .ret ⟨.slr new 0 n.toNat, [(new, .arr true e (List.replicate n.toNat z))]⟩
        else .ret ⟨.p (.sl e (List.replicate n.toNat z)), []⟩
      else .fail
    | _, _ => .fail) s = mkP o e b z a c new := by
  unfold mkP
  split
  · rename_i k n k2 m
    by_cases h : 0 ≤ n ∧ n ≤ m ∧ b * m ≤ 281474976710656 ∧ m ≤ 281474976710656
    · simp only [if_pos h]; cases o <;> rfl
    · simp only [if_neg h]; rfl
  · rfl

theorem mkslice_aux {lg : Option Log} {o : Bool} {e b : Nat} {z : List PV} {l c : Opd} : runG F (⟨.mkslice o e b z l c, some d, none⟩ :: r) new ⟨env, sto⟩ lg = (evv l env).bind fun a => (evv c env).bind fun x => dds (if o then 1 else 0) new sto ((mkP o e b z a x new).bind fun x => runG F r (new + if o then 1 else 0) ⟨(d, x.val) :: env, upd x.ws sto⟩ (lgA lg (rdO F (.mkslice o e b z l c) new ⟨env, sto⟩) (x.ws.map (·.1)))) := by
  rw [stD]
  simp only [opR, run_bind, run_ev, newOf]
  cases evv l env with
  | none => exact dds_none ..
  | some a =>
    cases evv c env with
    | none => exact dds_none ..
    | some x =>
      simp only [Option.bind_some]
      exact congrArg (fun y => dds (if o then 1 else 0) new sto (y.bind fun x => runG F r (new + if o then 1 else 0) ⟨(d, x.val) :: env, upd x.ws sto⟩ (lgA lg (rdO F (.mkslice o e b z l c) new ⟨env, sto⟩) (x.ws.map (·.1))))) (mk_run o e b z a x new ⟨env, sto⟩)

theorem call_aux {lg : Option Log} {g : FuncId} {args : List Opd} {n : Nat} : runG F (⟨.call g args n, some d, none⟩ :: r) new ⟨env, sto⟩ lg = dds n new sto (((evs args).run ⟨env, sto⟩).bind fun a => ((argsR a).run ⟨env, sto⟩).bind fun a => ((callR2 F g a n new).run ⟨env, sto⟩).bind fun e => runG F r (new + n) ⟨(d, e.val) :: env, upd e.ws sto⟩ (lgA lg (rdO F (.call g args n) new ⟨env, sto⟩) (e.ws.map (·.1)))) := by
  rw [stD]
  simp only [opR, run_bind, newOf, callR_2]
  cases (evs args).run ⟨env, sto⟩ with
  | none => rfl
  | some a => simp only [Option.bind_some]; cases (argsR a).run ⟨env, sto⟩ <;> rfl

theorem calln_aux {lg : Option Log} {g : FuncId} {args : List Opd} {n : Nat} : runG F (⟨.call g args n, none, none⟩ :: r) new ⟨env, sto⟩ lg = dds n new sto (((evs args).run ⟨env, sto⟩).bind fun a => ((argsR a).run ⟨env, sto⟩).bind fun a => ((callR2 F g a n new).run ⟨env, sto⟩).bind fun e => runG F r (new + n) ⟨env, upd e.ws sto⟩ (lgA lg (rdO F (.call g args n) new ⟨env, sto⟩) (e.ws.map (·.1)))) := by
  rw [stDn]
  simp only [opR, run_bind, newOf, callR_2]
  cases (evs args).run ⟨env, sto⟩ with
  | none => rfl
  | some a => simp only [Option.bind_some]; cases (argsR a).run ⟨env, sto⟩ <;> rfl

def cvg {α : Type} (u : AV) (k : FuncId → List AV → List AV → Option α) : Option α := match u with
  | .fn f a c => k f a c
  | _ => none

theorem mkfn_aux {lg : Option Log} {g : FuncId} {a c : List Opd} : runG F (⟨.mkfn g a c, some d, none⟩ :: r) new ⟨env, sto⟩ lg = ((evs a).run ⟨env, sto⟩).bind fun a1 => ((evs c).run ⟨env, sto⟩).bind fun c1 => runG F r new ⟨(d, .fn g a1 c1) :: env, sto⟩ (lgA lg (rdO F (.mkfn g a c) new ⟨env, sto⟩) []) := by
  rw [st0 (h := rfl)]
  simp only [opR, run_bind]
  cases (evs a).run ⟨env, sto⟩ with
  | none => rfl
  | some a1 => simp only [Option.bind_some]; cases (evs c).run ⟨env, sto⟩ <;> rfl

theorem callv_aux {lg : Option Log} {g : Opd} {args : List Opd} {n : Nat} : runG F (⟨.callv g args n, some d, none⟩ :: r) new ⟨env, sto⟩ lg = (evv g env).bind fun u => cvg u fun h a1 c1 => dds n new sto (((evs args).run ⟨env, sto⟩).bind fun a => ((argsR (a1 ++ a ++ c1)).run ⟨env, sto⟩).bind fun a => ((callR2 F h a n new).run ⟨env, sto⟩).bind fun q => runG F r (new + n) ⟨(d, q.val) :: env, upd q.ws sto⟩ (lgA lg (rdO F (.callv g args n) new ⟨env, sto⟩) (q.ws.map (·.1)))) := by
  rw [stD]
  simp only [opR, run_bind, run_ev, newOf]
  cases evv g env with
  | none => exact dds_none ..
  | some u =>
    simp only [Option.bind_some]
    cases u with
    | fn h a1 c1 =>
      simp only [cvg, run_bind, callR_2]
      cases (evs args).run ⟨env, sto⟩ with
      | none => rfl
      | some a => simp only [Option.bind_some]; cases (argsR (a1 ++ a ++ c1)).run ⟨env, sto⟩ <;> rfl
    | _ => exact dds_none ..

theorem callvn_aux {lg : Option Log} {g : Opd} {args : List Opd} {n : Nat} : runG F (⟨.callv g args n, none, none⟩ :: r) new ⟨env, sto⟩ lg = (evv g env).bind fun u => cvg u fun h a1 c1 => dds n new sto (((evs args).run ⟨env, sto⟩).bind fun a => ((argsR (a1 ++ a ++ c1)).run ⟨env, sto⟩).bind fun a => ((callR2 F h a n new).run ⟨env, sto⟩).bind fun q => runG F r (new + n) ⟨env, upd q.ws sto⟩ (lgA lg (rdO F (.callv g args n) new ⟨env, sto⟩) (q.ws.map (·.1)))) := by
  rw [stDn]
  simp only [opR, run_bind, run_ev, newOf]
  cases evv g env with
  | none => exact dds_none ..
  | some u =>
    simp only [Option.bind_some]
    cases u with
    | fn h a1 c1 =>
      simp only [cvg, run_bind, callR_2]
      cases (evs args).run ⟨env, sto⟩ with
      | none => rfl
      | some a => simp only [Option.bind_some]; cases (argsR (a1 ++ a ++ c1)).run ⟨env, sto⟩ <;> rfl
    | _ => exact dds_none ..

def grd {α : Type} (x : Option AV) (w : Bool) (a b : Option α) : Option α := match x with
  | some (.p (.b x)) => if x = w then a else b
  | some (.tup []) => b
  | _ => none

end

@[congr] theorem grd_congr {α : Type} {x x' : Option AV} {w : Bool} {a b : Option α} (h : x = x') : grd x w a b = grd x' w a b := by rw [h]

theorem grd_aux (F : Orc) (r : List AIns) (new : Nat) (env : List (Nat × AV)) (sto : List Blk) (lg : Option Log) (op : AOp) (d : Option Nat) (g : Nat) (w : Bool) :
    runG F (⟨op, d, some (g, w)⟩ :: r) new ⟨env, sto⟩ lg = grd (lk g env) w (runG F (⟨op, d, none⟩ :: r) new ⟨env, sto⟩ lg) (runG F r (new + newOf op) (put d ⟨undefV, []⟩ ⟨env, sto⟩) (lgA lg [] [])) := by
  simp only [runG, insR, RM.run, RM.reads]
  cases lk g env with
  | none => rfl
  | some v =>
    dsimp only
    cases v with
    | p c =>
      cases c with
      | b x =>
        simp only [grd]
        by_cases h : x = w
        · subst h; simp only [if_true]; rfl
        · simp only [if_neg h]; rfl
      | _ => rfl
    | tup l => cases l <;> rfl
    | _ => rfl

def rcons (k : Nat) (v : Option AV) (l : List (Nat × AV)) : List (Nat × AV) := match v with
  | some v => (k, v) :: l
  | none => l

def aggV (cs : List AV) (l : Option (List PV)) : AV := match l with
  | some l => .data l
  | none => .agg cs

def ldB (g : Bool) (n off : Nat) (B : Blk) : Option Eff := match B with
  | .box cs => (sub cs off n).bind fun l => (ofCells g l).map fun v => ⟨v, []⟩
  | _ => none

def ldE (g : Bool) (n e i off : Nat) (B : Blk) : Option Eff := match B with
  | .arr _ _ rows => if e = rows.length then rows[i]?.bind fun row => (sub row off n).bind fun l => (ofPCells g l).map fun v => ⟨v, []⟩ else none
  | _ => none

theorem ldC_aux (env : List (Nat × AV)) (sto : List Blk) (g : Bool) (n : Nat) (cs : List PV) (off : Nat) : (loadR g n (.cp cs off)).run ⟨env, sto⟩ = (sub cs off n).bind fun l => (ofPCells g l).map fun v => ⟨v, []⟩ := by
  simp only [loadR]
  cases sub cs off n with
  | none => rfl
  | some l => simp only [Option.bind_some]; cases ofPCells g l <;> rfl

theorem ldB_aux (env : List (Nat × AV)) (sto : List Blk) (g : Bool) (n b off : Nat) : (loadR g n (.ptr b off)).run ⟨env, sto⟩ = sto[b]?.bind fun B => ldB g n off B := by
  simp only [loadR, run_blk]
  cases sto[b]? with
  | none => rfl
  | some B =>
    cases B with
    | box cs =>
      simp only [Option.bind_some, ldB]
      cases sub cs off n with
      | none => rfl
      | some l => simp only [Option.bind_some]; cases ofCells g l <;> rfl
    | _ => rfl

theorem ldB_m (g : Bool) (n off : Nat) (cs : List PV) : ldB g n off (.box (cs.map AV.p)) = (sub cs off n).bind fun l => (ofPCells g l).map fun v => ⟨v, []⟩ := by
  simp only [ldB, sub_mapp]
  cases sub cs off n with
  | none => rfl
  | some l =>
    simp only [Option.map_some, Option.bind_some]
    cases g with
    | true => rw [ofCells_agg]; rfl
    | false => match l with
      | [] => rfl
      | [_] => rfl
      | _ :: _ :: _ => rfl

theorem ldE_aux (env : List (Nat × AV)) (sto : List Blk) (g : Bool) (n b e i off : Nat) : (loadR g n (.ep b e i off)).run ⟨env, sto⟩ = sto[b]?.bind fun B => ldE g n e i off B := by
  simp only [loadR, run_blk]
  cases sto[b]? with
  | none => rfl
  | some B =>
    cases B with
    | arr w z rows =>
      simp only [Option.bind_some, ldE]
      split
      · cases rows[i]? with
        | none => rfl
        | some row =>
          simp only [Option.bind_some]
          cases sub row off n with
          | none => rfl
          | some l => simp only [Option.bind_some]; cases ofPCells g l <;> rfl
      · rfl
    | _ => rfl

def stB (n b off : Nat) (l : List AV) (B : Blk) : Option Eff := match B with
  | .box cs => if l.length = n then (spl cs off l).map fun cs => ⟨undefV, [(b, .box cs)]⟩ else none
  | _ => none

theorem stB_aux (env : List (Nat × AV)) (sto : List Blk) (n b off : Nat) (v : AV) : (storeR n (.ptr b off) v).run ⟨env, sto⟩ = sto[b]?.bind fun B => (cellsOf v).bind fun l => stB n b off l B := by
  simp only [storeR, run_blk]
  cases sto[b]? with
  | none => rfl
  | some B =>
    simp only [Option.bind_some]
    cases B with
    | box cs =>
      dsimp only
      cases cellsOf v with
      | none => rfl
      | some l =>
        simp only [Option.bind_some, stB]
        split
        · cases spl cs off l <;> rfl
        · rfl
    | dead => cases cellsOf v <;> rfl
    | arr w z rows => cases cellsOf v <;> rfl

theorem stB_m (n b off : Nat) (cs vs : List PV) : stB n b off (vs.map AV.p) (.box (cs.map AV.p)) = if vs.length = n then (spl cs off vs).map fun cs => ⟨undefV, [(b, .box (cs.map AV.p))]⟩ else none := by
  simp only [stB, List.length_map, spl_mapp]
  split
  · cases spl cs off vs <;> rfl
  · rfl

theorem stB_1 (b off : Nat) (cs : List PV) (v : PV) : stB 1 b off [AV.p v] (.box (cs.map AV.p)) = (spl cs off [v]).map fun cs => ⟨undefV, [(b, .box (cs.map AV.p))]⟩ := by
  have := stB_m 1 b off cs [v]
  simpa using this

def stE (n b e i off : Nat) (v : AV) (B : Blk) (s : St) : Option Eff := match B with
  | .arr true z rows => if e = rows.length then
      match rows[i]? with
      | some row => ((fz v).run s).bind fun a =>
        if a.1.length = n ∧ (a.2.all fun y => y.1 != b) = true then
          match spl row off a.1 with
          | some row' => some ⟨undefV, a.2 ++ [(b, .arr true z (rows.set i row'))]⟩
          | none => none
        else none
      | none => none
    else none
  | _ => none

theorem stE_aux (env : List (Nat × AV)) (sto : List Blk) (n b e i off : Nat) (v : AV) : (storeR n (.ep b e i off) v).run ⟨env, sto⟩ = sto[b]?.bind fun B => stE n b e i off v B ⟨env, sto⟩ := by
  simp only [storeR, run_blk]
  cases sto[b]? with
  | none => rfl
  | some B =>
    simp only [Option.bind_some]
    cases B with
    | arr w z rows =>
      cases w with
      | false => rfl
      | true =>
        simp only [stE]
        split
        · cases rows[i]? with
          | none => rfl
          | some row =>
            simp only [run_bind]
            cases (fz v).run ⟨env, sto⟩ with
            | none => rfl
            | some a =>
              simp only [Option.bind_some]
              split
              · cases spl row off a.1 <;> rfl
              · rfl
        · rfl
    | _ => rfl

theorem stE_p (n b e i off z : Nat) (c : PV) (rows : List (List PV)) (s : St) : stE n b e i off (.p c) (.arr true z rows) s = if e = rows.length then rows[i]?.bind fun row => if 1 = n then (spl row off [c]).map fun row => ⟨undefV, [(b, .arr true z (rows.set i row))]⟩ else none else none := by
  simp only [stE, fz, run_ret, Option.bind_some]
  split
  · cases rows[i]? with
    | none => rfl
    | some row =>
      simp only [Option.bind_some, List.length_cons, List.length_nil, List.all_nil, and_true]
      simp only [Nat.zero_add]
      split
      · cases spl row off [c] <;> rfl
      · rfl
  · rfl

theorem stE_d (n b e i off z : Nat) (cs : List PV) (rows : List (List PV)) (s : St) : stE n b e i off (.data cs) (.arr true z rows) s = if e = rows.length then rows[i]?.bind fun row => if cs.length = n then (spl row off cs).map fun row => ⟨undefV, [(b, .arr true z (rows.set i row))]⟩ else none else none := by
  simp only [stE, fz, run_ret, Option.bind_some]
  split
  · cases rows[i]? with
    | none => rfl
    | some row =>
      simp only [Option.bind_some, List.all_nil, and_true]
      split
      · cases spl row off cs <;> rfl
      · rfl
  · rfl

theorem bx_aux (n : Nat) (cs : List PV) : bxP n (.data cs) = if cs.length = n then some (cs.map AV.p) else none := by simp [bxP, cellsOf]

theorem ia_c_aux (env : List (Nat × AV)) (sto : List Blk) (e : Nat) (rows : List (List PV)) (k : IntKind) (n : Int) : (iaddrR e (.p (.sl e rows)) (.p (.i k n))).run ⟨env, sto⟩ = (rowAt rows n).map fun row => ⟨.cp row 0, []⟩ := by
  simp only [iaddrR, if_true]
  cases rowAt rows n <;> rfl

def iaB (e b m : Nat) (n : Int) (B : Blk) : Option Eff := match B with
  | .arr _ esz' rows => if e = esz' ∧ 0 + m = rows.length ∧ 0 ≤ n ∧ n < m then some ⟨.ep b rows.length (0 + n.toNat) 0, []⟩ else none
  | _ => none

theorem ia_o_aux (env : List (Nat × AV)) (sto : List Blk) (e b m : Nat) (k : IntKind) (n : Int) : (iaddrR e (.slr b 0 m) (.p (.i k n))).run ⟨env, sto⟩ = sto[b]?.bind fun B => iaB e b m n B := by
  simp only [iaddrR, run_blk]
  cases sto[b]? with
  | none => rfl
  | some B =>
    cases B with
    | arr w z rows => simp only [Option.bind_some, iaB]; split <;> rfl
    | _ => rfl

theorem iab_aux (e b m : Nat) (n : Int) (w : Bool) (rows : List (List PV)) : iaB e b m n (.arr w e rows) = if m = rows.length ∧ 0 ≤ n ∧ n < m then some ⟨.ep b rows.length n.toNat 0, []⟩ else none := by
  simp [iaB]

theorem cv_t_aux (env : List (Nat × AV)) (sto : List Blk) (l : List Int) (new : Nat) : (cvR .toStr (.p (.sl 1 (l.map (r_i .u8)))) new).run ⟨env, sto⟩ = some ⟨.p (.s (toStr l)), []⟩ := by
  simp only [cvR, rowsOf, if_true, run_bind, run_ret, Option.bind_some, bytesOf_ok]

def cvB (n : Nat) (B : Blk) : Option Eff := match B with
  | .arr _ z rows => if 1 = z ∧ 0 + n = rows.length then
      match bytesOf (rows.drop 0) with
      | some l => some ⟨.p (.s l), []⟩
      | none => none
    else none
  | _ => none

theorem cv_o_aux (env : List (Nat × AV)) (sto : List Blk) (b n new : Nat) : (cvR .toStr (.slr b 0 n) new).run ⟨env, sto⟩ = sto[b]?.bind fun B => cvB n B := by
  simp only [cvR, rowsOf, run_bind, run_blk]
  cases sto[b]? with
  | none => rfl
  | some B =>
    cases B with
    | arr w z rows =>
      simp only [Option.bind_some, cvB]
      split
      · simp only [run_ret, Option.bind_some]; cases bytesOf (rows.drop 0) <;> rfl
      · rfl
    | _ => rfl

theorem cvB_aux (n : Nat) (w : Bool) (l : List Int) : cvB n (.arr w 1 (l.map (r_i .u8))) = if n = l.length then some ⟨.p (.s (toStr l)), []⟩ else none := by
  simp only [cvB, List.drop_zero, bytesOf_ok, List.length_map, Nat.zero_add, true_and]

theorem cv_b_aux (env : List (Nat × AV)) (sto : List Blk) (l : List UInt8) (new : Nat) : (cvR (.toBytes false) (.p (.s l)) new).run ⟨env, sto⟩ = some ⟨.p (.sl 1 ((toByt l).map (r_i .u8))), []⟩ := by
  simp [cvR, byteRows]

theorem cv_bo_aux (env : List (Nat × AV)) (sto : List Blk) (l : List UInt8) (new : Nat) : (cvR (.toBytes true) (.p (.s l)) new).run ⟨env, sto⟩ = some ⟨.slr new 0 (toByt l).length, [(new, .arr true 1 ((toByt l).map (r_i .u8)))]⟩ := by
  have : (toByt l).length = l.length := by simp [toByt]
  simp [cvR, byteRows, this]

theorem pa_aux (env : List (Nat × AV)) (sto : List Blk) (off size : Nat) (x : Opd) (r : List (Nat × Nat × Opd)) : (partsR ((off, size, x) :: r)).run ⟨env, sto⟩ = (evv x env).bind fun v => (cellsOf v).bind fun cs => ((partsR r).run ⟨env, sto⟩).bind fun l => some ((off, size, cs) :: l) := by
  simp only [partsR, run_bind, run_ev]
  cases evv x env with
  | none => rfl
  | some v =>
    simp only [Option.bind_some]
    cases cellsOf v with
    | none => rfl
    | some cs => simp only [Option.bind_some, run_bind]; cases (partsR r).run ⟨env, sto⟩ <;> rfl

theorem fi_m_aux (off size : Nat) (vs cs : List PV) (r : List (Nat × Nat × List AV)) : fillAll ((off, size, vs.map AV.p) :: r) (cs.map AV.p) = if vs.length = size then (spl cs off vs).bind fun cs => fillAll r (cs.map AV.p) else none := by
  simp only [fillAll, List.length_map, spl_mapp]
  split
  · cases spl cs off vs <;> rfl
  · rfl

theorem fi_1_aux (off : Nat) (v : PV) (cs : List PV) (r : List (Nat × Nat × List AV)) : fillAll ((off, 1, [AV.p v]) :: r) (cs.map AV.p) = (spl cs off [v]).bind fun cs => fillAll r (cs.map AV.p) := by
  have := fi_m_aux off 1 [v] cs r
  simpa using this

theorem es_aux (env : List (Nat × AV)) (sto : List Blk) (x : Opd) (r : List Opd) : (evs (x :: r)).run ⟨env, sto⟩ = (evv x env).bind fun v => ((evs r).run ⟨env, sto⟩).bind fun vs => some (v :: vs) := by
  simp only [evs, run_bind, run_ev]; rfl

theorem ar_aux (env : List (Nat × AV)) (sto : List Blk) {v : AV} (h : argR v = .ret (v, [])) (r : List AV) : (argsR (v :: r)).run ⟨env, sto⟩ = ((argsR r).run ⟨env, sto⟩).bind fun a => some (v :: a.1, a.2) := by
  simp only [argsR, h, run_bind, run_ret, Option.bind_some, List.nil_append]

def frz (b n : Nat) (B : Blk) : Option (AV × (Nat × Blk)) := match B with
  | .arr _ z rows => if n = rows.length then some (.p (.sl z rows), (b, .arr false z rows)) else none
  | _ => none

def frp (b n : Nat) (B : Blk) : Option (PV × (Nat × Blk)) := match B with
  | .arr _ z rows => if n = rows.length then some (.sl z rows, (b, .arr false z rows)) else none
  | _ => none

theorem fz_slr (env : List (Nat × AV)) (sto : List Blk) (b n : Nat) : (fz (.slr b 0 n)).run ⟨env, sto⟩ = sto[b]?.bind fun B => (frp b n B).bind fun x => some ([x.1], [x.2]) := by
  simp only [fz, run_blk]
  cases sto[b]? with
  | none => rfl
  | some B =>
    cases B with
    | arr w z rows =>
      simp only [Option.bind_some, frp, Nat.zero_add, List.drop_zero]
      split <;> rfl
    | _ => rfl

theorem fz1_slr (env : List (Nat × AV)) (sto : List Blk) (b n : Nat) : (fz.fz1 (.slr b 0 n)).run ⟨env, sto⟩ = sto[b]?.bind fun B => (frp b n B).bind fun x => some ([x.1], [x.2]) := by
  simp only [fz.fz1, run_blk]
  cases sto[b]? with
  | none => rfl
  | some B =>
    cases B with
    | arr w z rows =>
      simp only [Option.bind_some, frp, Nat.zero_add, List.drop_zero]
      split <;> rfl
    | _ => rfl

theorem ar_s_aux (env : List (Nat × AV)) (sto : List Blk) (b n : Nat) (r : List AV) : (argsR (.slr b 0 n :: r)).run ⟨env, sto⟩ = sto[b]?.bind fun B => (frz b n B).bind fun x => ((argsR r).run ⟨env, sto⟩).bind fun a => some (x.1 :: a.1, x.2 :: a.2) := by
  simp only [argsR, argR, run_bind, fz_slr]
  cases sto[b]? with
  | none => rfl
  | some B =>
    cases B with
    | arr w z rows =>
      simp only [Option.bind_some, frp, frz]
      split
      · simp only [Option.bind_some, run_ret]; cases (argsR r).run ⟨env, sto⟩ <;> rfl
      · rfl
    | _ => rfl

theorem ar_a_aux (env : List (Nat × AV)) (sto : List Blk) (cs : List AV) (r : List AV) : (argsR (.agg cs :: r)).run ⟨env, sto⟩ = ((fz.fzL cs).run ⟨env, sto⟩).bind fun x => ((argsR r).run ⟨env, sto⟩).bind fun a => some (.data x.1 :: a.1, x.2 ++ a.2) := by
  simp only [argsR, argR, run_bind, fz]
  cases (fz.fzL cs).run ⟨env, sto⟩ with
  | none => rfl
  | some x => simp only [Option.bind_some, run_ret]

theorem fz_p_aux (env : List (Nat × AV)) (sto : List Blk) (c : PV) (r : List AV) : (fz.fzL (.p c :: r)).run ⟨env, sto⟩ = ((fz.fzL r).run ⟨env, sto⟩).bind fun a => some (c :: a.1, a.2) := by
  simp only [fz.fzL, fz.fz1, run_bind, run_ret, Option.bind_some]; rfl

theorem fz_s_aux (env : List (Nat × AV)) (sto : List Blk) (b n : Nat) (r : List AV) : (fz.fzL (.slr b 0 n :: r)).run ⟨env, sto⟩ = sto[b]?.bind fun B => (frp b n B).bind fun x => ((fz.fzL r).run ⟨env, sto⟩).bind fun a => some (x.1 :: a.1, x.2 :: a.2) := by
  simp only [fz.fzL, run_bind, fz1_slr]
  cases sto[b]? with
  | none => rfl
  | some B =>
    simp only [Option.bind_some]
    cases frp b n B with
    | none => rfl
    | some x => simp only [Option.bind_some]; cases (fz.fzL r).run ⟨env, sto⟩ <;> rfl

theorem gb_aux (env : List (Nat × AV)) (sto : List Blk) (b : Nat) : (getB [] b).run ⟨env, sto⟩ = sto[b]? := by
  simp only [getB, run_blk]
  cases sto[b]? <;> rfl

theorem ro_s_aux (env : List (Nat × AV)) (sto : List Blk) (e : Nat) (rows : List (List PV)) : (rowsOf e (.p (.sl e rows))).run ⟨env, sto⟩ = some rows := by simp [rowsOf]
theorem ro_t_aux (env : List (Nat × AV)) (sto : List Blk) (l : List UInt8) : (rowsOf 1 (.p (.s l))).run ⟨env, sto⟩ = some ((toByt l).map (r_i .u8)) := by simp [rowsOf, byteRows]

def roB (e n : Nat) (B : Blk) : Option (List (List PV)) := match B with
  | .arr _ z rows => if e = z ∧ 0 + n = rows.length then some (rows.drop 0) else none
  | _ => none
theorem ro_o_aux (env : List (Nat × AV)) (sto : List Blk) (e b n : Nat) : (rowsOf e (.slr b 0 n)).run ⟨env, sto⟩ = sto[b]?.bind fun B => roB e n B := by
  simp only [rowsOf, run_blk]
  cases sto[b]? with
  | none => rfl
  | some B =>
    cases B with
    | arr w z rows => simp only [Option.bind_some, roB]; split <;> rfl
    | _ => rfl
theorem ro_b_aux (e n : Nat) (w : Bool) (rows : List (List PV)) : roB e n (.arr w e rows) = if n = rows.length then some rows else none := by simp [roB]

theorem fs_aux (env : List (Nat × AV)) (sto : List Blk) (x : Opd) (r : List Opd) : (fzs (x :: r)).run ⟨env, sto⟩ = (evv x env).bind fun v => ((fz v).run ⟨env, sto⟩).bind fun a => ((fzs r).run ⟨env, sto⟩).bind fun c => some (a.1 :: c.1, a.2 ++ c.2) := by
  simp only [fzs, run_bind, run_ev]; rfl

theorem fzv_s_aux (env : List (Nat × AV)) (sto : List Blk) (b n : Nat) : (fz (.slr b 0 n)).run ⟨env, sto⟩ = sto[b]?.bind fun B => (frp b n B).bind fun x => some ([x.1], [x.2]) := fz_slr ..

theorem sl_p_aux (env : List (Nat × AV)) (sto : List Blk) (s : SK) (c : PV) (lo hi : Option AV) : (slR s (.p c) lo hi none).run ⟨env, sto⟩ = (slX s (.p c) lo hi).map fun v => ⟨v, []⟩ := by
  simp only [slR, slX]
  cases sliceP s (.p c) lo hi none <;> rfl

theorem sl_o_aux (env : List (Nat × AV)) (sto : List Blk) (s : SK) (b n : Nat) (lo hi : Option AV) : (slR s (.slr b 0 n) lo hi none).run ⟨env, sto⟩ = sto[b]?.bind fun B => (frz b n B).bind fun x => (slX s x.1 lo hi).map fun v => ⟨v, [x.2]⟩ := by
  simp only [slR, run_bind, fz_slr]
  cases sto[b]? with
  | none => rfl
  | some B =>
    cases B with
    | arr w z rows =>
      simp only [Option.bind_some, frp, frz]
      split
      · simp only [Option.bind_some, slX]; cases sliceP s (.p (.sl z rows)) lo hi none <;> rfl
      · rfl
    | _ => rfl

theorem cl_aux (n : Nat) (live : List Nat) (env : List (Nat × AV)) (sto : List Blk) : clean n live ⟨env, sto⟩ = if sto.length = n then some ⟨restr live env, sto⟩ else (finE n sto (restr live env)).bind fun e => (finBs n [] sto (sto.take n)).bind fun l => some ⟨e, l⟩ := by
  simp only [clean]
  split
  · rfl
  · cases finE n sto (restr live env) with
    | none => rfl
    | some e => cases finBs n [] sto (sto.take n) <;> rfl

theorem fe_aux (m k : Nat) (sto : List Blk) (x : AV) (r : List (Nat × AV)) : finE m sto ((k, x) :: r) = (fin m [] sto x).bind fun y => (finE m sto r).bind fun l => some ((k, y) :: l) := by
  simp only [finE]
  cases fin m [] sto x with
  | none => rfl
  | some y => cases finE m sto r <;> rfl

theorem fb_aux (m : Nat) (ids : List Nat) (sto : List Blk) (x : Blk) (r : List Blk) : finBs m ids sto (x :: r) = (finB m ids sto x).bind fun y => (finBs m ids sto r).bind fun l => some (y :: l) := by
  simp only [finBs]
  cases finB m ids sto x with
  | none => rfl
  | some y => cases finBs m ids sto r <;> rfl

theorem fbb_aux (m : Nat) (ids : List Nat) (sto : List Blk) (cs : List AV) : finB m ids sto (.box cs) = (fin.finL m ids sto cs).map .box := by
  simp only [finB]
  cases fin.finL m ids sto cs <;> rfl

theorem fl_aux (m : Nat) (ids : List Nat) (sto : List Blk) (x : AV) (r : List AV) : fin.finL m ids sto (x :: r) = (fin m ids sto x).bind fun y => (fin.finL m ids sto r).bind fun l => some (y :: l) := by
  simp only [fin.finL]
  cases fin m ids sto x with
  | none => rfl
  | some y => cases fin.finL m ids sto r <;> rfl

def fsl (k : Option Nat) (n : Nat) (B : Option Blk) : Option AV := match k with
  | some k => some (.slr k 0 n)
  | none => match B with
    | some (.arr _ z rows) => if n = rows.length then some (.p (.sl z rows)) else none
    | _ => none

theorem fsl_aux (m : Nat) (ids : List Nat) (sto : List Blk) (b n : Nat) : fin m ids sto (.slr b 0 n) = if b < m then some (.slr b 0 n) else fsl (idxN b ids m) n sto[b]? := by
  simp only [fin]
  split
  · rfl
  · cases idxN b ids m with
    | some k => rfl
    | none =>
      simp only [fsl]
      cases sto[b]? with
      | none => rfl
      | some B => cases B <;> simp

theorem fna_aux (m : Nat) (ids : List Nat) (sto : List Blk) (cs : List AV) : fin m ids sto (.agg cs) = (fin.finL m ids sto cs).bind fun l => some (aggV l (unp l)) := by
  simp only [fin]
  cases fin.finL m ids sto cs with
  | none => rfl
  | some l => simp only [Option.bind_some]; cases unp l <;> rfl

theorem fnt_aux (m : Nat) (ids : List Nat) (sto : List Blk) (x : AV) (cs : List AV) : fin m ids sto (.tup (x :: cs)) = (fin.finL m ids sto (x :: cs)).map .tup := by
  simp only [fin]
  cases fin.finL m ids sto (x :: cs) <;> rfl

theorem rs_t_aux (env : List (Nat × AV)) (sto : List Blk) (t : Nat) (r : List ARes) : (resR (.tmp t :: r)).run ⟨env, sto⟩ = (lk t env).bind fun v => ((resR r).run ⟨env, sto⟩).bind fun l => some (v :: l) := by
  simp only [resR, run_bind, run_slot, run_ret]
  cases lk t env <;> rfl

theorem rs_c_aux (env : List (Nat × AV)) (sto : List Blk) (t n : Nat) (g : Bool) (r : List ARes) : (resR (.cell t g n :: r)).run ⟨env, sto⟩ = (lk t env).bind fun v => ((loadR g n v).run ⟨env, sto⟩).bind fun e => ((resR r).run ⟨env, sto⟩).bind fun l => some (e.val :: l) := by
  simp only [resR, run_bind, run_slot, run_ret]
  cases lk t env <;> rfl

def oid (b : Nat) (B : Option Blk) (l : List Nat) : List Nat := match B with
  | some (.box _) => b :: l
  | _ => l

theorem oi_aux (m b : Nat) (sto : List Blk) (r : List Ent) : outIds m false sto (.whole b :: r) = if b < m then outIds m false sto r else oid b sto[b]? (outIds m false sto r) := by
  simp only [outIds]
  split
  · rfl
  · unfold oid
    cases sto[b]? with
    | none => rfl
    | some B => cases B <;> simp

def ebb (B : Option Blk) (acc : List Ent) : List Ent := match B with
  | some (.box cs) => entsOf.entsOfL cs acc
  | _ => acc

theorem eb_aux (sto : List Blk) (b : Nat) (r : List Ent) (acc : List Ent) : entsB sto (.whole b :: r) acc = entsB sto r (ebb sto[b]? acc) := by
  simp only [entsB, ebb]
  cases sto[b]? with
  | none => rfl
  | some B => cases B <;> rfl

theorem ae_aux (b c : Nat) (r : List Ent) : addEnt (.whole b) (.whole c :: r) = if c = b then .whole c :: r else .whole c :: addEnt (.whole b) r := by
  simp only [addEnt, List.any_cons]
  by_cases h : c = b
  · subst h; simp
  · simp [h]
    split <;> simp_all

theorem pb_aux (sto : List Blk) (b : Nat) (r : List Nat) : pickB sto (b :: r) = sto[b]?.bind fun x => (pickB sto r).bind fun l => some (x :: l) := by
  simp only [pickB]
  cases sto[b]? with
  | none => rfl
  | some x => cases pickB sto r <;> rfl


theorem subz_aux {α : Type} (a : α) (cs : List α) (n : Nat) : sub (a :: cs) 0 (n + 1) = (sub cs 0 n).map (a :: ·) := by
  rw [sub_def, sub_def]
  by_cases h : n ≤ cs.length
  · rw [if_pos (by simp; omega), if_pos (by omega)]; simp
  · rw [if_neg (by simp; omega), if_neg (by omega)]; rfl

theorem subs_aux {α : Type} (a : α) (cs : List α) (n m : Nat) : sub (a :: cs) (n + 1) m = sub cs n m := by
  rw [sub_def, sub_def]
  by_cases h : n + m ≤ cs.length
  · rw [if_pos (by simp; omega), if_pos h]; simp
  · rw [if_neg (by simp; omega), if_neg h]

theorem splz_aux {α : Type} (a b : α) (cs vs : List α) : spl (a :: cs) 0 (b :: vs) = (spl cs 0 vs).map (b :: ·) := by
  rw [spl_def, spl_def]
  by_cases h : vs.length ≤ cs.length
  · rw [if_pos (by simp; omega), if_pos (by omega)]; simp
  · rw [if_neg (by simp; omega), if_neg (by omega)]; rfl

theorem spls_aux {α : Type} (a : α) (cs : List α) (n : Nat) (vs : List α) : spl (a :: cs) (n + 1) vs = (spl cs n vs).map (a :: ·) := by
  rw [spl_def, spl_def]
  by_cases h : n + vs.length ≤ cs.length
  · rw [if_pos (by simp; omega), if_pos h]
    rw [show n + 1 + vs.length = (n + vs.length) + 1 by omega]; simp
  · rw [if_neg (by simp; omega), if_neg h]; rfl

theorem fi_r_aux (off size : Nat) (c : List AV) (a : AV) (cs : List AV) (r : List (Nat × Nat × List AV)) : fillAll ((off, size, c) :: r) (a :: cs) = if c.length = size then (spl (a :: cs) off c).bind fun cs => fillAll r cs else none := by
  simp only [fillAll]
  split
  · cases spl (a :: cs) off c <;> rfl
  · rfl


theorem fnf_aux (m : Nat) (ids : List Nat) (sto : List Blk) (f : FuncId) (a c : List AV) : fin m ids sto (.fn f a c) = (fin.finL m ids sto a).bind fun a1 => (fin.finL m ids sto c).bind fun c1 => some (.fn f a1 c1) := by
  simp only [fin]
  cases fin.finL m ids sto a with
  | none => rfl
  | some a1 => cases fin.finL m ids sto c <;> rfl

def lwO (x y : Option Blk) : Option Blk := match x with
  | some x => some x
  | none => y

theorem lw_aux (b c : Nat) (x : Blk) (r : List (Nat × Blk)) : lastW b ((c, x) :: r) = lwO (lastW b r) (if c = b then some x else none) := by
  simp only [lastW]
  cases lastW b r <;> rfl

theorem gbc_aux (env : List (Nat × AV)) (sto : List Blk) (b c : Nat) (x : Blk) (ws : List (Nat × Blk)) : (getB ((c, x) :: ws) b).run ⟨env, sto⟩ = sto[b]?.bind fun y => some ((lastW b ((c, x) :: ws)).getD y) := by
  simp only [getB, run_blk]
  cases sto[b]? with
  | none => rfl
  | some y => simp only [Option.bind_some]; cases lastW b ((c, x) :: ws) <;> rfl

@[congr] theorem cvg_congr {α : Type} {u u' : AV} {k : FuncId → List AV → List AV → Option α} (h : u = u') : cvg u k = cvg u' k := by rw [h]

/-! ### What operations read -/

theorem ev_reads (x : Opd) (s : St) : blksOf ((ev x).reads s) = [] := by
  cases x with
  | t n => simp only [ev, RM.reads]; cases lk n s.env <;> rfl
  | c v => rfl

theorem blksOf_app (a b : List Loc) : blksOf (a ++ b) = blksOf a ++ blksOf b := by
  induction a with
  | nil => rfl
  | cons x r ih => cases x <;> simp [blksOf, ih]

def rb {α β : Type} (m : Option α) (f : α → List β) : List β := match m with
  | some a => f a
  | none => []

theorem rd_bind {α β : Type} (m : RM α) (f : α → RM β) (s : St) : blksOf ((m.bind f).reads s) = blksOf (m.reads s) ++ rb (m.run s) fun a => blksOf ((f a).reads s) := by
  rw [reads_bind, blksOf_app]
  cases m.run s <;> rfl

theorem rd_ev {β : Type} (x : Opd) (f : AV → RM β) (s : St) : blksOf (((ev x).bind f).reads s) = rb (evv x s.env) fun a => blksOf ((f a).reads s) := by
  rw [rd_bind, ev_reads, run_ev]; rfl

theorem val_reads (o : Option AV) (s : St) : blksOf ((Go.Am.val o).reads s) = [] := by cases o <;> rfl

section
variable (F : Orc) (new : Nat) (env : List (Nat × AV)) (sto : List Blk)

theorem rdO_0 {op : AOp} (h : newOf op = 0) (s : St) : rdO F op new s = blksOf ((opR F op new).reads s) := by
  unfold rdO opD
  rw [rd_bind, h]; rfl

def is1 (b : Option Blk) : Option Unit := match b with
  | some .dead => some ()
  | _ => none

theorem rdO_1 {op : AOp} (h : newOf op = 1) (s : St) : rdO F op new s = new :: rb (is1 s.sto[new]?) fun _ => blksOf ((opR F op new).reads s) := by
  unfold rdO opD
  rw [rd_bind, h]
  simp only [deadR, RM.reads, RM.run, blksOf]
  cases s.sto[new]? with
  | none => rfl
  | some b => cases b <;> rfl

end

theorem rb_nil {α β : Type} (m : Option α) : (rb m fun _ => ([] : List β)) = [] := by cases m <;> rfl

theorem rd_load (F : Orc) (new : Nat) (env : List (Nat × AV)) (sto : List Blk) (g : Bool) (n : Nat) (x : Opd) : rdO F (.load g n x) new ⟨env, sto⟩ = rb (evv x env) fun a => blksOf ((loadR g n a).reads ⟨env, sto⟩) := by
  rw [rdO_0 (h := rfl)]; exact rd_ev ..

theorem ldr_ptr (s : St) (g : Bool) (n b o : Nat) : blksOf ((loadR g n (.ptr b o)).reads s) = [b] := by
  simp only [loadR, RM.reads, blksOf]
  cases s.sto[b]? with
  | none => rfl
  | some B =>
    cases B with
    | box cs => simp only []; cases sub cs o n with
      | none => rfl
      | some l => simp only [val_reads]
    | _ => rfl

theorem ldr_cp (s : St) (g : Bool) (n o : Nat) (cs : List PV) : blksOf ((loadR g n (.cp cs o)).reads s) = [] := by
  simp only [loadR]
  cases sub cs o n with
  | none => rfl
  | some l => exact val_reads ..

theorem ldr_ep (s : St) (g : Bool) (n b e i o : Nat) : blksOf ((loadR g n (.ep b e i o)).reads s) = [b] := by
  simp only [loadR, RM.reads, blksOf]
  cases s.sto[b]? with
  | none => rfl
  | some B =>
    cases B with
    | arr w z rows =>
      simp only []
      split
      · cases rows[i]? with
        | none => rfl
        | some row =>
          simp only []
          cases sub row o n with
          | none => rfl
          | some l => simp only [val_reads]
      · rfl
    | _ => rfl

theorem rd_newbox (F : Orc) (new : Nat) (s : St) (z : List PV) : rdO F (.newbox z) new s = [new] := by
  rw [rdO_1 (h := rfl)]; simp only [opR, RM.reads, blksOf, rb_nil]

theorem rd_store (F : Orc) (new : Nat) (env : List (Nat × AV)) (sto : List Blk) (n : Nat) (x y : Opd) : rdO F (.store n x y) new ⟨env, sto⟩ = rb (evv x env) fun a => rb (evv y env) fun c => blksOf ((storeR n a c).reads ⟨env, sto⟩) := by
  rw [rdO_0 (h := rfl)]
  simp only [opR, rd_ev]

theorem str_ptr (s : St) (n b o : Nat) (v : AV) : blksOf ((storeR n (.ptr b o) v).reads s) = [b] := by
  simp only [storeR, RM.reads, blksOf]
  cases s.sto[b]? with
  | none => rfl
  | some B =>
    cases B with
    | box cs =>
      simp only []
      cases cellsOf v with
      | none => rfl
      | some l =>
        simp only []
        split
        · cases spl cs o l <;> rfl
        · rfl
    | _ => rfl

theorem str_ep (s : St) (n b e i o : Nat) {v : AV} {c : List PV} (hv : fz v = .ret (c, [])) : blksOf ((storeR n (.ep b e i o) v).reads s) = [b] := by
  simp only [storeR, RM.reads, blksOf]
  cases s.sto[b]? with
  | none => rfl
  | some B =>
    cases B with
    | arr w z rows =>
      cases w with
      | false => rfl
      | true =>
        simp only []
        split
        · cases rows[i]? with
          | none => rfl
          | some row =>
            simp only [hv, rd_bind, RM.reads, blksOf, run_ret, rb, List.nil_append]
            split
            · cases spl row o c <;> rfl
            · rfl
        · rfl
    | _ => rfl

theorem str_ep_p (s : St) (n b e i o : Nat) (c : PV) : blksOf ((storeR n (.ep b e i o) (.p c)).reads s) = [b] := str_ep s n b e i o rfl
theorem str_ep_d (s : St) (n b e i o : Nat) (c : List PV) : blksOf ((storeR n (.ep b e i o) (.data c)).reads s) = [b] := str_ep s n b e i o rfl

theorem evs_reads (s : St) : ∀ args, blksOf ((evs args).reads s) = []
  | [] => rfl
  | x :: r => by
    simp only [evs, rd_ev]
    cases evv x s.env with
    | none => rfl
    | some v =>
      simp only [rb, rd_bind, evs_reads s r, List.nil_append]
      cases (evs r).run s <;> rfl

theorem call_reads (F : Orc) (g : FuncId) (args : List Opd) (n new : Nat) (s : St) : blksOf ((opR F (.call g args n) new).reads s) = rb ((evs args).run s) fun a => blksOf ((argsR a).reads s) ++ rb ((argsR a).run s) fun a => blksOf ((callR2 F g a n new).reads s) := by
  simp only [opR, rd_bind, evs_reads, List.nil_append, callR_2]

theorem rd_call0 (F : Orc) (new : Nat) (s : St) (g : FuncId) (args : List Opd) : rdO F (.call g args 0) new s = rb ((evs args).run s) fun a => blksOf ((argsR a).reads s) ++ rb ((argsR a).run s) fun a => blksOf ((callR2 F g a 0 new).reads s) := by
  rw [rdO_0 (h := rfl)]; exact call_reads ..

theorem rd_call1 (F : Orc) (new : Nat) (s : St) (g : FuncId) (args : List Opd) : rdO F (.call g args 1) new s = new :: rb (is1 s.sto[new]?) fun _ => rb ((evs args).run s) fun a => blksOf ((argsR a).reads s) ++ rb ((argsR a).run s) fun a => blksOf ((callR2 F g a 1 new).reads s) := by
  rw [rdO_1 (h := rfl)]; simp only [call_reads]

theorem arr_cons (s : St) {v : AV} (h : argR v = .ret (v, [])) (r : List AV) : blksOf ((argsR (v :: r)).reads s) = blksOf ((argsR r).reads s) := by
  simp only [argsR, h, rd_bind, RM.reads, blksOf, run_ret, rb, List.nil_append]
  cases (argsR r).run s <;> simp [RM.reads, blksOf]

theorem fz_slr_reads (s : St) (b n : Nat) : blksOf ((fz (.slr b 0 n)).reads s) = [b] := by
  simp only [fz, RM.reads, blksOf]
  cases s.sto[b]? with
  | none => rfl
  | some B =>
    cases B with
    | arr w z rows => simp only []; split <;> rfl
    | _ => rfl

theorem arr_slr (s : St) (b n : Nat) (r : List AV) : blksOf ((argsR (.slr b 0 n :: r)).reads s) = b :: rb ((argR (.slr b 0 n)).run s) fun _ => blksOf ((argsR r).reads s) := by
  have h1 : blksOf ((argR (.slr b 0 n)).reads s) = [b] := by
    simp only [argR, rd_bind, fz_slr_reads]
    cases (fz (.slr b 0 n)).run s with
    | none => rfl
    | some a =>
      simp only [rb]
      match a.1 with
      | [] => rfl
      | [_] => rfl
      | _ :: _ :: _ => rfl
  simp only [argsR, rd_bind, h1]
  cases (argR (.slr b 0 n)).run s with
  | none => rfl
  | some a => simp only [rb]; cases (argsR r).run s <;> simp [RM.reads, blksOf]

theorem callR2_reads_plain {F : Orc} {f : FuncId} {args : List AV} (hp : args.all plainA = true) (ws : List (Nat × Blk)) (k new : Nat) (s : St) : blksOf ((callR2 F f (args, ws) k new).reads s) = [] := by
  have e1 : entsOf.entsOfL args [] = [] := ents_plain hp
  simp only [callR2, e1, extE, rd_bind, RM.reads, blksOf, run_ret, rb, List.nil_append, List.map_nil, nodupB, if_true, ren_plain hp, blksIn]
  cases F f args [] with
  | none => rfl
  | some r =>
    simp only []
    split
    · simp only [List.length_nil, List.drop_zero]
      cases bk [] new r.1 with
      | none => rfl
      | some v =>
        cases blksNew [] new new r.2 with
        | none => rfl
        | some fr => simp only [blksOut, rd_bind, RM.reads, blksOf, run_ret, rb, List.nil_append]
    · rfl

theorem callR2_reads_ptr {F : Orc} {f : FuncId} {b o : Nat} {args : List AV} {cs : List AV} (hp : args.all plainA = true) (hc : cs.all plainA = true)
    (ws : List (Nat × Blk)) (k new : Nat) (s : St) (hb : (getB ws b).run s = some (.box cs)) : blksOf ((callR2 F f (.ptr b o :: args, ws) k new).reads s) = [b, b, b] := by
  have e1 : entsOf.entsOfL (.ptr b o :: args) [] = [.whole b] := by
    simp only [entsOf.entsOfL, entsOf, addEnt, List.any_nil, Bool.false_eq_true, if_false, List.nil_append]
    exact ents_plain hp
  have gr : blksOf ((getB ws b).reads s) = [b] := by
    simp only [getB, RM.reads, blksOf]
    cases s.sto[b]? with
    | none => rfl
    | some B => simp only []; cases lastW b ws <;> rfl
  have e2 : (extE ws [.whole b] [.whole b]).run s = some [.whole b] := by
    simp only [extE, run_bind, hb, Option.bind_some, ents_plain hc, run_ret]
  have g2 : blksOf ((extE ws [.whole b] [.whole b]).reads s) = [b] := by
    simp only [extE, rd_bind, gr, hb, rb, ents_plain hc, RM.reads, blksOf, List.append_nil]
  have n1 : nodupB ([Ent.whole b].map Ent.id) = true := rfl
  have e4 : ren.renL (fun e => entAt e [Ent.whole b] 0) (.ptr b o :: args) = some (.ptr 0 o :: args) := by
    simp [ren.renL, ren, entAt, ren_plain hp]
  have e3 : (blksIn ws (fun e => entAt e [Ent.whole b] 0) [Ent.whole b]).run s = some [.box cs] := by
    simp only [blksIn, run_bind, blkIn, hb, Option.bind_some, ren_plain hc, run_ret]
  have g3 : blksOf ((blksIn ws (fun e => entAt e [Ent.whole b] 0) [Ent.whole b]).reads s) = [b] := by
    simp only [blksIn, rd_bind, blkIn, gr, hb, rb, ren_plain hc, RM.reads, blksOf, run_ret, List.append_nil, run_bind, Option.bind_some]
  simp only [callR2, e1, rd_bind, g2, e2, rb, n1, if_true, e4, g3, e3]
  cases F f (.ptr 0 o :: args) [.box cs] with
  | none => simp [RM.reads, blksOf]
  | some r =>
    simp only []
    split
    · cases bk [Ent.whole b] new r.1 with
      | none => simp [RM.reads, blksOf]
      | some v =>
        cases blksNew [Ent.whole b] new new (r.2.drop [Ent.whole b].length) with
        | none => simp [RM.reads, blksOf]
        | some fr =>
          have g5 : blksOf ((blksOut ws [Ent.whole b] new [Ent.whole b] r.2).reads s) = [] := by
            cases r.2 with
            | nil => rfl
            | cons B l =>
              have g6 : blksOf ((blkOut ws [Ent.whole b] new (Ent.whole b) B).reads s) = [] := by
                cases B with
                | box cs => simp only [blkOut]; cases bk.bkL [Ent.whole b] new cs <;> rfl
                | _ => rfl
              simp only [blksOut, rd_bind, g6, List.nil_append]
              cases (blkOut ws [Ent.whole b] new (Ent.whole b) B).run s <;> simp [rb, RM.reads, blksOf, run_ret]
          simp only [rd_bind, g5, List.nil_append]
          cases (blksOut ws [Ent.whole b] new [Ent.whole b] r.2).run s <;> simp [rb, RM.reads, blksOf]
    · simp [RM.reads, blksOf]

theorem rest_lits (s : St) (o : Bool) (e n new : Nat) (z : List PV) (ps : List (Nat × Opd)) : blksOf ((ltR o e n z ps new).reads s) = blksOf ((fzs (ps.map (·.2))).reads s) := by
  simp only [ltR, rd_bind]
  cases (fzs (ps.map (·.2))).run s with
  | none => simp [rb]
  | some a =>
    simp only [rb]
    cases placeAll e ((ps.map (·.1)).zip a.1) (List.replicate n z) with
    | none => simp [RM.reads, blksOf]
    | some rows => cases o <;> simp [RM.reads, blksOf]

theorem rd_lits0 (F : Orc) (new : Nat) (s : St) (e n : Nat) (z : List PV) (ps : List (Nat × Opd)) : rdO F (.lits false e n z ps) new s = blksOf ((fzs (ps.map (·.2))).reads s) := by
  rw [rdO_0 (h := rfl)]; exact rest_lits ..
theorem rd_lits1 (F : Orc) (new : Nat) (s : St) (e n : Nat) (z : List PV) (ps : List (Nat × Opd)) : rdO F (.lits true e n z ps) new s = new :: rb (is1 s.sto[new]?) fun _ => blksOf ((fzs (ps.map (·.2))).reads s) := by
  rw [rdO_1 (h := rfl)]
  congr 2; funext _
  exact rest_lits ..
theorem fzs_rd (s : St) (x : Opd) (r : List Opd) : blksOf ((fzs (x :: r)).reads s) = rb (evv x s.env) fun v => blksOf ((fz v).reads s) ++ rb ((fz v).run s) fun _ => blksOf ((fzs r).reads s) := by
  have e0 : fzs (x :: r) = (ev x).bind fun v => (fz v).bind fun a => (fzs r).bind fun c => .ret (a.1 :: c.1, a.2 ++ c.2) := rfl
  rw [e0, rd_ev]
  cases evv x s.env with
  | none => rfl
  | some v =>
    dsimp only [rb]
    rw [rd_bind]
    cases (fz v).run s with
    | none => rfl
    | some a => 
      dsimp only [rb]
      rw [rd_bind]
      cases (fzs r).run s <;> simp [rb, RM.reads, blksOf]

theorem rd_conv0 (F : Orc) (new : Nat) (s : St) (x : Opd) : rdO F (.conv .toStr x) new s = rb (evv x s.env) fun a => blksOf ((rowsOf 1 a).reads s) := by
  rw [rdO_0 (h := rfl)]
  simp only [opR, rd_ev]
  congr 1; funext a
  simp only [rd_bind]
  cases (rowsOf 1 a).run s with
  | none => simp [rb]
  | some rows => simp only [rb]; cases bytesOf rows <;> simp [RM.reads, blksOf]
theorem ro_rd_slr (s : St) (e b n : Nat) : blksOf ((rowsOf e (.slr b 0 n)).reads s) = [b] := by
  simp only [rowsOf, RM.reads, blksOf]
  cases s.sto[b]? with
  | none => rfl
  | some B =>
    cases B with
    | arr w z rows => simp only []; split <;> rfl
    | _ => rfl
theorem ro_rd_sl (s : St) (e z : Nat) (rows : List (List PV)) : blksOf ((rowsOf e (.p (.sl z rows))).reads s) = [] := by
  simp only [rowsOf]; split <;> rfl
theorem rd_iaddr (F : Orc) (new : Nat) (s : St) (e : Nat) (x i : Opd) : rdO F (.iaddr e x i) new s = rb (evv x s.env) fun a => rb (evv i s.env) fun c => blksOf ((iaddrR e a c).reads s) := by
  rw [rdO_0 (h := rfl)]; simp only [opR, rd_ev]
theorem ia_rd_slr (s : St) (e b n : Nat) (k : IntKind) (i : Int) : blksOf ((iaddrR e (.slr b 0 n) (.p (.i k i))).reads s) = [b] := by
  simp only [iaddrR, RM.reads, blksOf]
  cases s.sto[b]? with
  | none => rfl
  | some B =>
    cases B with
    | arr w z rows => simp only []; split <;> rfl
    | _ => rfl
theorem ia_rd_sl (s : St) (e z : Nat) (rows : List (List PV)) (k : IntKind) (i : Int) : blksOf ((iaddrR e (.p (.sl z rows)) (.p (.i k i))).reads s) = [] := by
  simp only [iaddrR]
  split
  · cases rowAt rows i <;> rfl
  · rfl

theorem v_skip (T : Tabl) (f : AFn) (m : Nat) (k : List Fr) (s : St) : rk T f m k (X T .skip s) = rk T f m k (some (.normal, s)) := rk_skip T f m k s

theorem v_seq (T : Tabl) (f : AFn) (m : Nat) (k : List Fr) (a b : ACode) (s : St) : rk T f m k (X T (.seq a b) s) = rk T f m (.sq b :: k) (X T a s) := rk_seq T f m k a b s

theorem v_reg (T : Tabl) (f : AFn) (m : Nat) (k : List Fr) (d : Bool) (ins : List AIns) (env : List (Nat × AV)) (sto : List Blk) : rk T f m k (X T (.reg d [] ins) ⟨env, sto⟩) = rk T f m k (endG (runG (AF T) ins sto.length ⟨env, room (news ins) sto⟩ none)) := rk_regG T f m k d ins env sto

theorem v_regp (T : Tabl) (f : AFn) (m : Nat) (k : List Fr) (d : Bool) (q : Nat × Nat) (ps : List (Nat × Nat)) (ins : List AIns) (env : List (Nat × AV)) (sto : List Blk) : rk T f m k (X T (.reg d (q :: ps) ins) ⟨env, sto⟩) = rk T f m k (endP (q :: ps) (runG (AF T) ins sto.length ⟨env, room (news ins) sto⟩ (some []))) := rk_regP T f m k d q ps ins env sto

theorem v_block (T : Tabl) (f : AFn) (m : Nat) (k : List Fr) (i : Nat) (c : ACode) (s : St) : rk T f m k (X T (.block i c) s) = rk T f m (.bl i :: k) (X T c s) := rk_block T f m k i c s

theorem v_scope (T : Tabl) (f : AFn) (m : Nat) (k : List Fr) (c : ACode) (s : St) : rk T f m k (X T (.scope c) s) = rk T f m k (X T c s) := rk_scope T f m k c s

theorem v_exit (T : Tabl) (f : AFn) (m : Nat) (k : List Fr) (i : Nat) (s : St) : rk T f m k (X T (.exit i) s) = rk T f m k (some (.exit i, s)) := rk_exit T f m k i s

theorem v_ret (T : Tabl) (f : AFn) (m : Nat) (k : List Fr) (s : St) : rk T f m k (X T .ret s) = rk T f m k (some (.ret, s)) := rk_ret T f m k s

theorem v_keep (T : Tabl) (f : AFn) (m : Nat) (k : List Fr) (live : List Nat) (c : ACode) (env : List (Nat × AV)) (sto : List Blk) : rk T f m k (X T (.keep live c) ⟨env, sto⟩) = rk T f m k (X T c ⟨restr live env, sto⟩) := rk_keep T f m k live c env sto

theorem v_tidy (T : Tabl) (f : AFn) (m : Nat) (k : List Fr) (live : List Nat) (c : ACode) (env : List (Nat × AV)) (sto : List Blk) : rk T f m k (X T (.tidy live c) ⟨env, sto⟩) = rk T f m (.td sto.length live :: k) (X T c ⟨env, sto⟩) := rk_tidy T f m k live c env sto

theorem v_loop (T : Tabl) (f : AFn) (m : Nat) (k : List Fr) (live : List Nat) (c : ACode) (env : List (Nat × AV)) (sto : List Blk) : rk T f m k (X T (.loop live c) ⟨env, sto⟩) = rk T f m k (X T (.lp sto.length live c) ⟨restr live env, sto⟩) := rk_loop T f m k live c env sto

theorem v_cond (T : Tabl) (f : AFn) (m : Nat) (k : List Fr) (x : Opd) (a b : ACode) (env : List (Nat × AV)) (sto : List Blk) : rk T f m k (X T (.cond x a b) ⟨env, sto⟩) = rk T f m k (cnd (evv x env) (X T a ⟨env, sto⟩) (X T b ⟨env, sto⟩) fun _ => same (X T a ⟨env, sto⟩) (X T b ⟨env, sto⟩)) := rk_cond T f m k x a b env sto

theorem v_cndt (a b : Option Out) (c : Unit → Option Out) : cnd (some (.p (.b true))) a b c = a := rfl

theorem v_cndf (a b : Option Out) (c : Unit → Option Out) : cnd (some (.p (.b false))) a b c = b := rfl

theorem v_sqn (T : Tabl) (f : AFn) (m : Nat) (k : List Fr) (b : ACode) (s : St) : rk T f m (.sq b :: k) (some (.normal, s)) = rk T f m k (X T b s) := rfl

theorem v_sqe (T : Tabl) (f : AFn) (m : Nat) (k : List Fr) (b : ACode) (i : Nat) (s : St) : rk T f m (.sq b :: k) (some (.exit i, s)) = rk T f m k (some (.exit i, s)) := rfl

theorem v_sqr (T : Tabl) (f : AFn) (m : Nat) (k : List Fr) (b : ACode) (s : St) : rk T f m (.sq b :: k) (some (.ret, s)) = rk T f m k (some (.ret, s)) := rfl

theorem v_bln (T : Tabl) (f : AFn) (m : Nat) (k : List Fr) (i : Nat) (s : St) : rk T f m (.bl i :: k) (some (.normal, s)) = rk T f m k (some (.normal, s)) := rfl

theorem v_ble (T : Tabl) (f : AFn) (m : Nat) (k : List Fr) (i j : Nat) (s : St) : rk T f m (.bl i :: k) (some (.exit j, s)) = if j = i then rk T f m k (some (.normal, s)) else rk T f m k (some (.exit j, s)) := rk_bl_e T f m k i j s

theorem v_blr (T : Tabl) (f : AFn) (m : Nat) (k : List Fr) (i : Nat) (s : St) : rk T f m (.bl i :: k) (some (.ret, s)) = rk T f m k (some (.ret, s)) := rfl

theorem v_td (T : Tabl) (f : AFn) (m : Nat) (k : List Fr) (n : Nat) (live : List Nat) (e : AX) (s : St) : rk T f m (.td n live :: k) (some (e, s)) = rk T f m k (tdn e (clean n live s)) := (rk_td T f m k n live e s).trans (by cases clean n live s <;> rfl)

theorem v_tdn (e : AX) (s : St) : tdn e (some s) = some (e, s) := rfl

theorem v_lon (T : Tabl) (f : AFn) (m : Nat) (k : List Fr) (n : Nat) (live : List Nat) (c : ACode) (s : St) : rk T f m (.lo n live c :: k) (some (.normal, s)) = rk T f m k (again T n live c (clean n live s)) := rfl

theorem v_again (T : Tabl) (n : Nat) (live : List Nat) (c : ACode) (s : St) : again T n live c (some s) = X T (.lp n live c) s := rfl

theorem v_loe (T : Tabl) (f : AFn) (m : Nat) (k : List Fr) (n : Nat) (live : List Nat) (c : ACode) (i : Nat) (s : St) : rk T f m (.lo n live c :: k) (some (.exit i, s)) = rk T f m k (some (.exit i, s)) := rfl

theorem v_lor (T : Tabl) (f : AFn) (m : Nat) (k : List Fr) (n : Nat) (live : List Nat) (c : ACode) (s : St) : rk T f m (.lo n live c :: k) (some (.ret, s)) = rk T f m k (some (.ret, s)) := rfl

theorem v_niln (T : Tabl) (f : AFn) (m : Nat) (s : St) : rk T f m [] (some (.normal, s)) = fin1 f.res f.fresh m s := rk_fin1 T f m s

theorem v_nilr (T : Tabl) (f : AFn) (m : Nat) (s : St) : rk T f m [] (some (.ret, s)) = fin1 f.res f.fresh m s := rk_fin1r T f m s

theorem v_endg (s : St) (l : Option Log) : endG (some (s, l)) = some (.normal, s) := rfl

theorem v_endp (s : St) (l : Log) (ps : List (Nat × Nat)) : endP ps (some (s, some l)) = if pairsOk l ps = true then some (.normal, s) else none := rfl

theorem v_pk0 (l : Log) : pairsOk l [] = true := rfl

theorem v_pkc (l : Log) (i j : Nat) (ps : List (Nat × Nat)) : pairsOk l ((i, j) :: ps) = (pkk l[i]? l[j]? && pairsOk l ps) := rfl

theorem v_lgn (a b : List Nat) : lgA none a b = none := rfl

theorem v_lgs (l : Log) (a b : List Nat) : lgA (some l) a b = some (l ++ [(a, b)]) := rfl

theorem v_q0 {α : Type} (a : α) (l : List α) : (a :: l)[0]? = some a := rfl

theorem v_qs {α : Type} (a : α) (l : List α) (n : Nat) : (a :: l)[n + 1]? = l[n]? := rfl

theorem i_nil (F : Orc) (new : Nat) (s : St) (lg : Option Log) : runG F [] new s lg = some (s, lg) := rfl

theorem i_mv (F : Orc) (r : List AIns) (new : Nat) (env : List (Nat × AV)) (sto : List Blk) (lg : Option Log) (d : Nat) (x : Opd) : runG F (⟨.mv x, some d, none⟩ :: r) new ⟨env, sto⟩ lg = (evv x env).bind fun v => runG F r new ⟨(d, v) :: env, sto⟩ (lgA lg (rdO F (.mv x) new ⟨env, sto⟩) []) := by rw [st0 (h := rfl)]; simp only [opR, run_bind, run_ev]; exact mv_aux

theorem i_pick (F : Orc) (r : List AIns) (new : Nat) (env : List (Nat × AV)) (sto : List Blk) (lg : Option Log) (d : Nat) (c a b : Opd) : runG F (⟨.pick c a b, some d, none⟩ :: r) new ⟨env, sto⟩ lg = (evv c env).bind fun u => (pk u (evv a env) (evv b env)).bind fun v => runG F r new ⟨(d, v) :: env, sto⟩ (lgA lg (rdO F (.pick c a b) new ⟨env, sto⟩) []) := by rw [st0 (h := rfl)]; simp only [opR, run_bind, run_ev]; exact pick_aux

theorem i_bin (F : Orc) (r : List AIns) (new : Nat) (env : List (Nat × AV)) (sto : List Blk) (lg : Option Log) (d : Nat) (op : BinOp) (t : BT) (x y : Opd) : runG F (⟨.bin op t x y, some d, none⟩ :: r) new ⟨env, sto⟩ lg = (evv x env).bind fun a => (evv y env).bind fun c => (binP op t a c).bind fun v => runG F r new ⟨(d, v) :: env, sto⟩ (lgA lg (rdO F (.bin op t x y) new ⟨env, sto⟩) []) := by rw [st0 (h := rfl)]; simp only [opR, run_bind, run_ev]; exact two_aux (g := fun a c => binP op t a c)

theorem i_un (F : Orc) (r : List AIns) (new : Nat) (env : List (Nat × AV)) (sto : List Blk) (lg : Option Log) (d : Nat) (op : UnOp) (x : Opd) : runG F (⟨.un op x, some d, none⟩ :: r) new ⟨env, sto⟩ lg = (evv x env).bind fun a => (unP op a).bind fun v => runG F r new ⟨(d, v) :: env, sto⟩ (lgA lg (rdO F (.un op x) new ⟨env, sto⟩) []) := by rw [st0 (h := rfl)]; simp only [opR, run_bind, run_ev]; exact one_aux (g := fun a => unP op a)

theorem i_field (F : Orc) (r : List AIns) (new : Nat) (env : List (Nat × AV)) (sto : List Blk) (lg : Option Log) (d : Nat) (g : Bool) (off n : Nat) (x : Opd) : runG F (⟨.field g off n x, some d, none⟩ :: r) new ⟨env, sto⟩ lg = (evv x env).bind fun a => (fieldP g off n a).bind fun v => runG F r new ⟨(d, v) :: env, sto⟩ (lgA lg (rdO F (.field g off n x) new ⟨env, sto⟩) []) := by rw [st0 (h := rfl)]; simp only [opR, run_bind, run_ev]; exact one_aux (g := fun a => fieldP g off n a)

theorem i_faddr (F : Orc) (r : List AIns) (new : Nat) (env : List (Nat × AV)) (sto : List Blk) (lg : Option Log) (d : Nat) (off : Nat) (x : Opd) : runG F (⟨.faddr off x, some d, none⟩ :: r) new ⟨env, sto⟩ lg = (evv x env).bind fun a => (faddrP off a).bind fun v => runG F r new ⟨(d, v) :: env, sto⟩ (lgA lg (rdO F (.faddr off x) new ⟨env, sto⟩) []) := by rw [st0 (h := rfl)]; simp only [opR, run_bind, run_ev]; exact one_aux (g := fun a => faddrP off a)

theorem i_extr (F : Orc) (r : List AIns) (new : Nat) (env : List (Nat × AV)) (sto : List Blk) (lg : Option Log) (d : Nat) (x : Opd) (i : Nat) : runG F (⟨.extr x i, some d, none⟩ :: r) new ⟨env, sto⟩ lg = (evv x env).bind fun a => (extrP i a).bind fun v => runG F r new ⟨(d, v) :: env, sto⟩ (lgA lg (rdO F (.extr x i) new ⟨env, sto⟩) []) := by rw [st0 (h := rfl)]; simp only [opR, run_bind, run_ev]; exact one_aux (g := fun a => extrP i a)

theorem i_len (F : Orc) (r : List AIns) (new : Nat) (env : List (Nat × AV)) (sto : List Blk) (lg : Option Log) (d : Nat) (b : Bool) (x : Opd) : runG F (⟨.len b x, some d, none⟩ :: r) new ⟨env, sto⟩ lg = (evv x env).bind fun a => (lenP b a).bind fun v => runG F r new ⟨(d, v) :: env, sto⟩ (lgA lg (rdO F (.len b x) new ⟨env, sto⟩) []) := by rw [st0 (h := rfl)]; simp only [opR, run_bind, run_ev]; exact one_aux (g := fun a => lenP b a)

theorem i_alen (F : Orc) (r : List AIns) (new : Nat) (env : List (Nat × AV)) (sto : List Blk) (lg : Option Log) (d : Nat) (n : Nat) : runG F (⟨.alen n, some d, none⟩ :: r) new ⟨env, sto⟩ lg = runG F r new ⟨(d, .p (.i .i64 n)) :: env, sto⟩ (lgA lg (rdO F (.alen n) new ⟨env, sto⟩) []) := by rw [st0 (h := rfl)]; rfl

theorem i_mm (F : Orc) (r : List AIns) (new : Nat) (env : List (Nat × AV)) (sto : List Blk) (lg : Option Log) (d : Nat) (b : Bool) (x y : Opd) : runG F (⟨.mm b x y, some d, none⟩ :: r) new ⟨env, sto⟩ lg = (evv x env).bind fun a => (evv y env).bind fun c => (mmP b a c).bind fun v => runG F r new ⟨(d, v) :: env, sto⟩ (lgA lg (rdO F (.mm b x y) new ⟨env, sto⟩) []) := by rw [st0 (h := rfl)]; simp only [opR, run_bind, run_ev]; exact two_aux (g := fun a c => mmP b a c)

theorem i_aaddr (F : Orc) (r : List AIns) (new : Nat) (env : List (Nat × AV)) (sto : List Blk) (lg : Option Log) (d : Nat) (n e : Nat) (x i : Opd) : runG F (⟨.aaddr n e x i, some d, none⟩ :: r) new ⟨env, sto⟩ lg = (evv x env).bind fun a => (evv i env).bind fun c => (aaddrP n e a c).bind fun v => runG F r new ⟨(d, v) :: env, sto⟩ (lgA lg (rdO F (.aaddr n e x i) new ⟨env, sto⟩) []) := by rw [st0 (h := rfl)]; simp only [opR, run_bind, run_ev]; exact two_aux (g := fun a c => aaddrP n e a c)

theorem i_iaddr (F : Orc) (r : List AIns) (new : Nat) (env : List (Nat × AV)) (sto : List Blk) (lg : Option Log) (d : Nat) (e : Nat) (x i : Opd) : runG F (⟨.iaddr e x i, some d, none⟩ :: r) new ⟨env, sto⟩ lg = (evv x env).bind fun a => (evv i env).bind fun c => ((iaddrR e a c).run ⟨env, sto⟩).bind fun q => runG F r new ⟨(d, q.val) :: env, upd q.ws sto⟩ (lgA lg (rdO F (.iaddr e x i) new ⟨env, sto⟩) (q.ws.map (·.1))) := by rw [st0 (h := rfl)]; simp only [opR, run_bind, run_ev]; exact two_aux2 (g := fun a c => (iaddrR e a c).run ⟨env, sto⟩)

theorem i_sidx (F : Orc) (r : List AIns) (new : Nat) (env : List (Nat × AV)) (sto : List Blk) (lg : Option Log) (d : Nat) (x i : Opd) : runG F (⟨.sidx x i, some d, none⟩ :: r) new ⟨env, sto⟩ lg = (evv x env).bind fun a => (evv i env).bind fun c => (sidP a c).bind fun v => runG F r new ⟨(d, v) :: env, sto⟩ (lgA lg (rdO F (.sidx x i) new ⟨env, sto⟩) []) := by rw [st0 (h := rfl)]; simp only [opR, run_bind, run_ev]; exact sid_aux

theorem i_aidx (F : Orc) (r : List AIns) (new : Nat) (env : List (Nat × AV)) (sto : List Blk) (lg : Option Log) (d : Nat) (g : Bool) (n e : Nat) (x i : Opd) : runG F (⟨.aidx g n e x i, some d, none⟩ :: r) new ⟨env, sto⟩ lg = (evv x env).bind fun a => (evv i env).bind fun c => (aidP g n e a c).bind fun v => runG F r new ⟨(d, v) :: env, sto⟩ (lgA lg (rdO F (.aidx g n e x i) new ⟨env, sto⟩) []) := by rw [st0 (h := rfl)]; simp only [opR, run_bind, run_ev]; exact aid_aux

theorem i_nilchk (F : Orc) (r : List AIns) (new : Nat) (env : List (Nat × AV)) (sto : List Blk) (lg : Option Log) (d : Nat) (x : Opd) : runG F (⟨.nilchk x, some d, none⟩ :: r) new ⟨env, sto⟩ lg = (evv x env).bind fun a => (nckP a).bind fun v => runG F r new ⟨(d, v) :: env, sto⟩ (lgA lg (rdO F (.nilchk x) new ⟨env, sto⟩) []) := by rw [st0 (h := rfl)]; simp only [opR, run_bind, run_ev]; exact nck_aux

theorem i_load (F : Orc) (r : List AIns) (new : Nat) (env : List (Nat × AV)) (sto : List Blk) (lg : Option Log) (d : Nat) (g : Bool) (n : Nat) (x : Opd) : runG F (⟨.load g n x, some d, none⟩ :: r) new ⟨env, sto⟩ lg = (evv x env).bind fun a => ((loadR g n a).run ⟨env, sto⟩).bind fun q => runG F r new ⟨(d, q.val) :: env, upd q.ws sto⟩ (lgA lg (rdO F (.load g n x) new ⟨env, sto⟩) (q.ws.map (·.1))) := by rw [st0 (h := rfl)]; simp only [opR, run_bind, run_ev]; exact one_aux2 (g := fun a => (loadR g n a).run ⟨env, sto⟩)

theorem i_store (F : Orc) (r : List AIns) (new : Nat) (env : List (Nat × AV)) (sto : List Blk) (lg : Option Log) (n : Nat) (x y : Opd) : runG F (⟨.store n x y, none, none⟩ :: r) new ⟨env, sto⟩ lg = (evv x env).bind fun a => (evv y env).bind fun c => ((storeR n a c).run ⟨env, sto⟩).bind fun q => runG F r new ⟨env, upd q.ws sto⟩ (lgA lg (rdO F (.store n x y) new ⟨env, sto⟩) (q.ws.map (·.1))) := by rw [st0n (h := rfl)]; simp only [opR, run_bind, run_ev]; exact two_aux2 (g := fun a c => (storeR n a c).run ⟨env, sto⟩)

theorem i_conv (F : Orc) (r : List AIns) (new : Nat) (env : List (Nat × AV)) (sto : List Blk) (lg : Option Log) (d : Nat) (c : CK) (x : Opd) : runG F (⟨.conv c x, some d, none⟩ :: r) new ⟨env, sto⟩ lg = (evv x env).bind fun a => dds (newOf (.conv c x)) new sto (((cvR c a new).run ⟨env, sto⟩).bind fun e => runG F r (new + newOf (.conv c x)) ⟨(d, e.val) :: env, upd e.ws sto⟩ (lgA lg (rdO F (.conv c x) new ⟨env, sto⟩) (e.ws.map (·.1)))) := by exact conv_aux

theorem i_build (F : Orc) (r : List AIns) (new : Nat) (env : List (Nat × AV)) (sto : List Blk) (lg : Option Log) (d : Nat) (z : List PV) (ps : List (Nat × Nat × Opd)) : runG F (⟨.build z ps, some d, none⟩ :: r) new ⟨env, sto⟩ lg = ((partsR ps).run ⟨env, sto⟩).bind fun l => (fillAll l (z.map .p)).bind fun cs => (ofCells true cs).bind fun v => runG F r new ⟨(d, v) :: env, sto⟩ (lgA lg (rdO F (.build z ps) new ⟨env, sto⟩) []) := by exact build_aux

theorem i_slice (F : Orc) (r : List AIns) (new : Nat) (env : List (Nat × AV)) (sto : List Blk) (lg : Option Log) (d : Nat) (s : SK) (x : Opd) (lo hi mx : Option Opd) : runG F (⟨.slice s x lo hi mx, some d, none⟩ :: r) new ⟨env, sto⟩ lg = (evv x env).bind fun a => (evo1 lo env).bind fun lo1 => (evo1 hi env).bind fun hi1 => (evo1 mx env).bind fun mx1 => ((slR s a lo1 hi1 mx1).run ⟨env, sto⟩).bind fun q => runG F r new ⟨(d, q.val) :: env, upd q.ws sto⟩ (lgA lg (rdO F (.slice s x lo hi mx) new ⟨env, sto⟩) (q.ws.map (·.1))) := by exact slice_aux

theorem i_app (F : Orc) (r : List AIns) (new : Nat) (env : List (Nat × AV)) (sto : List Blk) (lg : Option Log) (d : Nat) (e b : Nat) (z : List PV) (x y : Opd) : runG F (⟨.app e b z x y, some d, none⟩ :: r) new ⟨env, sto⟩ lg = (evv x env).bind fun a => (evv y env).bind fun c => ((appR e b a c).run ⟨env, sto⟩).bind fun q => runG F r new ⟨(d, q.val) :: env, upd q.ws sto⟩ (lgA lg (rdO F (.app e b z x y) new ⟨env, sto⟩) (q.ws.map (·.1))) := by rw [st0 (h := rfl)]; simp only [opR, run_bind, run_ev]; exact two_aux2 (g := fun a c => (appR e b a c).run ⟨env, sto⟩)

theorem i_mkfn (F : Orc) (r : List AIns) (new : Nat) (env : List (Nat × AV)) (sto : List Blk) (lg : Option Log) (d : Nat) (g : FuncId) (a c : List Opd) : runG F (⟨.mkfn g a c, some d, none⟩ :: r) new ⟨env, sto⟩ lg = ((evs a).run ⟨env, sto⟩).bind fun a1 => ((evs c).run ⟨env, sto⟩).bind fun c1 => runG F r new ⟨(d, .fn g a1 c1) :: env, sto⟩ (lgA lg (rdO F (.mkfn g a c) new ⟨env, sto⟩) []) := by exact mkfn_aux

theorem i_callv (F : Orc) (r : List AIns) (new : Nat) (env : List (Nat × AV)) (sto : List Blk) (lg : Option Log) (d : Nat) (g : Opd) (args : List Opd) (n : Nat) : runG F (⟨.callv g args n, some d, none⟩ :: r) new ⟨env, sto⟩ lg = (evv g env).bind fun u => cvg u fun h a1 c1 => dds n new sto (((evs args).run ⟨env, sto⟩).bind fun a => ((argsR (a1 ++ a ++ c1)).run ⟨env, sto⟩).bind fun a => ((callR2 F h a n new).run ⟨env, sto⟩).bind fun q => runG F r (new + n) ⟨(d, q.val) :: env, upd q.ws sto⟩ (lgA lg (rdO F (.callv g args n) new ⟨env, sto⟩) (q.ws.map (·.1)))) := by exact callv_aux

theorem i_callvn (F : Orc) (r : List AIns) (new : Nat) (env : List (Nat × AV)) (sto : List Blk) (lg : Option Log) (g : Opd) (args : List Opd) (n : Nat) : runG F (⟨.callv g args n, none, none⟩ :: r) new ⟨env, sto⟩ lg = (evv g env).bind fun u => cvg u fun h a1 c1 => dds n new sto (((evs args).run ⟨env, sto⟩).bind fun a => ((argsR (a1 ++ a ++ c1)).run ⟨env, sto⟩).bind fun a => ((callR2 F h a n new).run ⟨env, sto⟩).bind fun q => runG F r (new + n) ⟨env, upd q.ws sto⟩ (lgA lg (rdO F (.callv g args n) new ⟨env, sto⟩) (q.ws.map (·.1)))) := by exact callvn_aux

theorem i_cvg {α : Type} (f : FuncId) (a c : List AV) (k : FuncId → List AV → List AV → Option α) : cvg (.fn f a c) k = k f a c := rfl

theorem i_appn (F : Orc) (r : List AIns) (new : Nat) (env : List (Nat × AV)) (sto : List Blk) (lg : Option Log) (d : Nat) (e b : Nat) (z : List PV) (y : Opd) : runG F (⟨.appn e b z y, some d, none⟩ :: r) new ⟨env, sto⟩ lg = (evv y env).bind fun c => ((rowsOf e c).run ⟨env, sto⟩).bind fun rows => if roomy rows.length b = true then dds 1 new sto (runG F r (new + 1) ⟨(d, .slr new 0 rows.length) :: env, sto.set new (.arr true e rows)⟩ (lgA lg (rdO F (.appn e b z y) new ⟨env, sto⟩) [new])) else none := by exact appn_aux

theorem i_newbox (F : Orc) (r : List AIns) (new : Nat) (env : List (Nat × AV)) (sto : List Blk) (lg : Option Log) (d : Nat) (z : List PV) : runG F (⟨.newbox z, some d, none⟩ :: r) new ⟨env, sto⟩ lg = dds 1 new sto (runG F r (new + 1) ⟨(d, .ptr new 0) :: env, sto.set new (.box (z.map .p))⟩ (lgA lg (rdO F (.newbox z) new ⟨env, sto⟩) [new])) := by exact newbox_aux

theorem i_mkarr (F : Orc) (r : List AIns) (new : Nat) (env : List (Nat × AV)) (sto : List Blk) (lg : Option Log) (d : Nat) (e : Nat) (x : Opd) : runG F (⟨.mkarr e x, some d, none⟩ :: r) new ⟨env, sto⟩ lg = dds 1 new sto (runG F r (new + 1) ⟨(d, .slr new 0 0) :: env, sto.set new (.arr true e [])⟩ (lgA lg (rdO F (.mkarr e x) new ⟨env, sto⟩) [new])) := by exact mkarr_aux

theorem i_box (F : Orc) (r : List AIns) (new : Nat) (env : List (Nat × AV)) (sto : List Blk) (lg : Option Log) (d : Nat) (n : Nat) (x : Opd) : runG F (⟨.box n x, some d, none⟩ :: r) new ⟨env, sto⟩ lg = (evv x env).bind fun a => (bxP n a).bind fun cs => dds 1 new sto (runG F r (new + 1) ⟨(d, .ptr new 0) :: env, sto.set new (.box cs)⟩ (lgA lg (rdO F (.box n x) new ⟨env, sto⟩) [new])) := by exact box_aux

theorem i_lits (F : Orc) (r : List AIns) (new : Nat) (env : List (Nat × AV)) (sto : List Blk) (lg : Option Log) (d : Nat) (o : Bool) (e n : Nat) (z : List PV) (ps : List (Nat × Opd)) : runG F (⟨.lits o e n z ps, some d, none⟩ :: r) new ⟨env, sto⟩ lg = dds (if o then 1 else 0) new sto (((ltR o e n z ps new).run ⟨env, sto⟩).bind fun x => runG F r (new + if o then 1 else 0) ⟨(d, x.val) :: env, upd x.ws sto⟩ (lgA lg (rdO F (.lits o e n z ps) new ⟨env, sto⟩) (x.ws.map (·.1)))) := by exact lits_aux

theorem i_mkslice (F : Orc) (r : List AIns) (new : Nat) (env : List (Nat × AV)) (sto : List Blk) (lg : Option Log) (d : Nat) (o : Bool) (e b : Nat) (z : List PV) (l c : Opd) : runG F (⟨.mkslice o e b z l c, some d, none⟩ :: r) new ⟨env, sto⟩ lg = (evv l env).bind fun a => (evv c env).bind fun x => dds (if o then 1 else 0) new sto ((mkP o e b z a x new).bind fun x => runG F r (new + if o then 1 else 0) ⟨(d, x.val) :: env, upd x.ws sto⟩ (lgA lg (rdO F (.mkslice o e b z l c) new ⟨env, sto⟩) (x.ws.map (·.1)))) := by exact mkslice_aux

theorem i_call (F : Orc) (r : List AIns) (new : Nat) (env : List (Nat × AV)) (sto : List Blk) (lg : Option Log) (d : Nat) (g : FuncId) (args : List Opd) (n : Nat) : runG F (⟨.call g args n, some d, none⟩ :: r) new ⟨env, sto⟩ lg = dds n new sto (((evs args).run ⟨env, sto⟩).bind fun a => ((argsR a).run ⟨env, sto⟩).bind fun a => ((callR2 F g a n new).run ⟨env, sto⟩).bind fun e => runG F r (new + n) ⟨(d, e.val) :: env, upd e.ws sto⟩ (lgA lg (rdO F (.call g args n) new ⟨env, sto⟩) (e.ws.map (·.1)))) := by exact call_aux

theorem i_calln (F : Orc) (r : List AIns) (new : Nat) (env : List (Nat × AV)) (sto : List Blk) (lg : Option Log) (g : FuncId) (args : List Opd) (n : Nat) : runG F (⟨.call g args n, none, none⟩ :: r) new ⟨env, sto⟩ lg = dds n new sto (((evs args).run ⟨env, sto⟩).bind fun a => ((argsR a).run ⟨env, sto⟩).bind fun a => ((callR2 F g a n new).run ⟨env, sto⟩).bind fun e => runG F r (new + n) ⟨env, upd e.ws sto⟩ (lgA lg (rdO F (.call g args n) new ⟨env, sto⟩) (e.ws.map (·.1)))) := by exact calln_aux

theorem i_g (F : Orc) (r : List AIns) (new : Nat) (env : List (Nat × AV)) (sto : List Blk) (lg : Option Log) (op : AOp) (d : Option Nat) (g : Nat) (w : Bool) : runG F (⟨op, d, some (g, w)⟩ :: r) new ⟨env, sto⟩ lg = grd (lk g env) w (runG F (⟨op, d, none⟩ :: r) new ⟨env, sto⟩ lg) (runG F r (new + newOf op) (put d ⟨undefV, []⟩ ⟨env, sto⟩) (lgA lg [] [])) := grd_aux ..

theorem g_tt {α : Type} (a b : Option α) : grd (some (.p (.b true))) true a b = a := rfl

theorem g_tf {α : Type} (a b : Option α) : grd (some (.p (.b true))) false a b = b := rfl

theorem g_ft {α : Type} (a b : Option α) : grd (some (.p (.b false))) true a b = b := rfl

theorem g_ff {α : Type} (a b : Option α) : grd (some (.p (.b false))) false a b = a := rfl

theorem g_u {α : Type} (w : Bool) (a b : Option α) : grd (some (.tup [])) w a b = b := rfl

theorem b_bind {α β : Type} (a : α) (f : α → Option β) : Option.bind (some a) f = f a := rfl

theorem dz0 {α : Type} (new : Nat) (sto : List Blk) (o : Option α) : dds 0 new sto o = o := rfl

theorem dz1 {α : Type} (new : Nat) (sto : List Blk) (o : Option α) : dds 1 new sto o = dd1 sto[new]? o := dds1 ..

theorem dz1d {α : Type} (o : Option α) : dd1 (some .dead) o = o := rfl

theorem u_lkc (n m : Nat) (v : AV) (r : List (Nat × AV)) : lk n ((m, v) :: r) = if n = m then some v else lk n r := rfl

theorem u_evt (n : Nat) (env : List (Nat × AV)) : evv (.t n) env = lk n env := rfl

theorem u_evc (v : AV) (env : List (Nat × AV)) : evv (.c v) env = some v := rfl

theorem u_pkt (a b : Option AV) : pk (.p (.b true)) a b = a := rfl

theorem u_pkf (a b : Option AV) : pk (.p (.b false)) a b = b := rfl

theorem u_rs0 (env : List (Nat × AV)) : restr [] env = [] := rfl

theorem u_rsc (k : Nat) (l : List Nat) (env : List (Nat × AV)) : restr (k :: l) env = rcons k (lk k env) (restr l env) := rfl

theorem u_rcs (k : Nat) (v : AV) (l : List (Nat × AV)) : rcons k (some v) l = (k, v) :: l := rfl

theorem u_rcn (k : Nat) (l : List (Nat × AV)) : rcons k none l = l := rfl

theorem u_lkn (n : Nat) : lk n [] = none := rfl

theorem u_nw0 : news [] = 0 := rfl

theorem u_nwc (i : AIns) (r : List AIns) : news (i :: r) = newOf i.op + news r := rfl

theorem n_mv (x : Opd) : newOf (.mv x) = 0 := rfl

theorem n_mkarr (e : Nat) (x : Opd) : newOf (.mkarr e x) = 1 := rfl

theorem n_pick (a b c : Opd) : newOf (.pick a b c) = 0 := rfl

theorem n_newbox (z : List PV) : newOf (.newbox z) = 1 := rfl

theorem n_box (n : Nat) (x : Opd) : newOf (.box n x) = 1 := rfl

theorem n_build (z : List PV) (ps : List (Nat × Nat × Opd)) : newOf (.build z ps) = 0 := rfl

theorem n_lits (o : Bool) (e n : Nat) (z : List PV) (ps : List (Nat × Opd)) : newOf (.lits o e n z ps) = if o then 1 else 0 := rfl

theorem n_load (g : Bool) (n : Nat) (x : Opd) : newOf (.load g n x) = 0 := rfl

theorem n_store (n : Nat) (x y : Opd) : newOf (.store n x y) = 0 := rfl

theorem n_nilchk (x : Opd) : newOf (.nilchk x) = 0 := rfl

theorem n_bin (op : BinOp) (t : BT) (x y : Opd) : newOf (.bin op t x y) = 0 := rfl

theorem n_un (op : UnOp) (x : Opd) : newOf (.un op x) = 0 := rfl

theorem n_cvi (c : IntKind) (x : Opd) : newOf (.conv (.int c) x) = 0 := rfl

theorem n_cvs (x : Opd) : newOf (.conv .same x) = 0 := rfl

theorem n_cvt (x : Opd) : newOf (.conv .toStr x) = 0 := rfl

theorem n_cvb (o : Bool) (x : Opd) : newOf (.conv (.toBytes o) x) = if o then 1 else 0 := rfl

theorem n_mksl (o : Bool) (e b : Nat) (z : List PV) (l c : Opd) : newOf (.mkslice o e b z l c) = if o then 1 else 0 := rfl

theorem n_slice (s : SK) (x : Opd) (lo hi mx : Option Opd) : newOf (.slice s x lo hi mx) = 0 := rfl

theorem n_faddr (off : Nat) (x : Opd) : newOf (.faddr off x) = 0 := rfl

theorem n_field (g : Bool) (off n : Nat) (x : Opd) : newOf (.field g off n x) = 0 := rfl

theorem n_iaddr (e : Nat) (x i : Opd) : newOf (.iaddr e x i) = 0 := rfl

theorem n_aaddr (n e : Nat) (x i : Opd) : newOf (.aaddr n e x i) = 0 := rfl

theorem n_sidx (x i : Opd) : newOf (.sidx x i) = 0 := rfl

theorem n_aidx (g : Bool) (n e : Nat) (x i : Opd) : newOf (.aidx g n e x i) = 0 := rfl

theorem n_extr (x : Opd) (i : Nat) : newOf (.extr x i) = 0 := rfl

theorem n_call (g : FuncId) (args : List Opd) (n : Nat) : newOf (.call g args n) = n := rfl

theorem n_callv (g : Opd) (args : List Opd) (n : Nat) : newOf (.callv g args n) = n := rfl

theorem n_len (b : Bool) (x : Opd) : newOf (.len b x) = 0 := rfl

theorem n_alen (n : Nat) : newOf (.alen n) = 0 := rfl

theorem n_app (e b : Nat) (z : List PV) (x y : Opd) : newOf (.app e b z x y) = 0 := rfl

theorem n_appn (e b : Nat) (z : List PV) (y : Opd) : newOf (.appn e b z y) = 1 := rfl

theorem n_mm (b : Bool) (x y : Opd) : newOf (.mm b x y) = 0 := rfl

theorem n_mkfn (g : FuncId) (a c : List Opd) : newOf (.mkfn g a c) = 0 := rfl

theorem u_room0 (sto : List Blk) : room 0 sto = sto := rfl

theorem u_rooms (n : Nat) (sto : List Blk) : room (n + 1) sto = sto ++ .dead :: List.replicate n .dead := rfl

theorem u_upd0 (sto : List Blk) : upd [] sto = sto := rfl

theorem u_updc (b : Nat) (x : Blk) (ws : List (Nat × Blk)) (sto : List Blk) : upd ((b, x) :: ws) sto = upd ws (sto.set b x) := rfl

theorem u_put (d : Nat) (v : AV) (ws : List (Nat × Blk)) (env : List (Nat × AV)) (sto : List Blk) : put (some d) ⟨v, ws⟩ ⟨env, sto⟩ = ⟨(d, v) :: env, upd ws sto⟩ := rfl

theorem u_putn (v : AV) (ws : List (Nat × Blk)) (env : List (Nat × AV)) (sto : List Blk) : put none ⟨v, ws⟩ ⟨env, sto⟩ = ⟨env, upd ws sto⟩ := rfl

theorem u_undef : undefV = .tup [] := rfl

theorem u_some {α β : Type} (a : α) (f : α → β) : Option.map f (some a) = some (f a) := rfl

theorem b_add (k : IntKind) (x y : Int) : binP .add .plain (.p (.i k x)) (.p (.i k y)) = some (.p (.i k (k.wrap (x + y)))) := by simp only [binP, if_true, intP, Option.map_some]; try rfl

theorem b_sub (k : IntKind) (x y : Int) : binP .sub .plain (.p (.i k x)) (.p (.i k y)) = some (.p (.i k (k.wrap (x - y)))) := by simp only [binP, if_true, intP, Option.map_some]; try rfl

theorem b_mul (k : IntKind) (x y : Int) : binP .mul .plain (.p (.i k x)) (.p (.i k y)) = some (.p (.i k (k.wrap (x * y)))) := by simp only [binP, if_true, intP, Option.map_some]; try rfl

theorem b_and (k : IntKind) (x y : Int) : binP .and .plain (.p (.i k x)) (.p (.i k y)) = some (.p (.i k (andI k x y))) := by simp only [binP, if_true, intP, Option.map_some]; try rfl

theorem b_or (k : IntKind) (x y : Int) : binP .or .plain (.p (.i k x)) (.p (.i k y)) = some (.p (.i k (orI k x y))) := by simp only [binP, if_true, intP, Option.map_some]; try rfl

theorem b_xor (k : IntKind) (x y : Int) : binP .xor .plain (.p (.i k x)) (.p (.i k y)) = some (.p (.i k (xorI k x y))) := by simp only [binP, if_true, intP, Option.map_some]; try rfl

theorem b_eql (k : IntKind) (x y : Int) : binP .eql .plain (.p (.i k x)) (.p (.i k y)) = some (.p (.b (x == y))) := by simp only [binP, if_true, intP, Option.map_some]; try rfl

theorem b_neq (k : IntKind) (x y : Int) : binP .neq .plain (.p (.i k x)) (.p (.i k y)) = some (.p (.b (x != y))) := by simp only [binP, if_true, intP, Option.map_some]; try rfl

theorem b_lss (k : IntKind) (x y : Int) : binP .lss .plain (.p (.i k x)) (.p (.i k y)) = some (.p (.b (decide (x < y)))) := by simp only [binP, if_true, intP, Option.map_some]; try rfl

theorem b_leq (k : IntKind) (x y : Int) : binP .leq .plain (.p (.i k x)) (.p (.i k y)) = some (.p (.b (decide (x ≤ y)))) := by simp only [binP, if_true, intP, Option.map_some]; try rfl

theorem b_gtr (k : IntKind) (x y : Int) : binP .gtr .plain (.p (.i k x)) (.p (.i k y)) = some (.p (.b (decide (x > y)))) := by simp only [binP, if_true, intP, Option.map_some]; try rfl

theorem b_geq (k : IntKind) (x y : Int) : binP .geq .plain (.p (.i k x)) (.p (.i k y)) = some (.p (.b (decide (x ≥ y)))) := by simp only [binP, if_true, intP, Option.map_some]; try rfl

theorem b_quo (k : IntKind) (x y : Int) : binP .quo .plain (.p (.i k x)) (.p (.i k y)) = (quoS k x y).map fun z => .p (.i k z) := by simp only [binP, if_true, intP, quoS]; split <;> rfl

theorem b_rem (k : IntKind) (x y : Int) : binP .rem .plain (.p (.i k x)) (.p (.i k y)) = (remS x y).map fun z => .p (.i k z) := by simp only [binP, if_true, intP, remS]; split <;> rfl

theorem b_shl (k k2 : IntKind) (x y : Int) : binP .shl .plain (.p (.i k x)) (.p (.i k2 y)) = (shlS k x y).map fun z => .p (.i k z) := by simp only [binP, shiftP, shlS]; split <;> rfl

theorem b_shr (k k2 : IntKind) (x y : Int) : binP .shr .plain (.p (.i k x)) (.p (.i k2 y)) = (shrS k x y).map fun z => .p (.i k z) := by simp only [binP, shiftP, shrS]; split <;> rfl

theorem b_cat (x y : List UInt8) : binP .add .plain (.p (.s x)) (.p (.s y)) = (catS x y).map fun z => .p (.s z) := by simp only [binP, strP, catS]; split <;> rfl

theorem bs_eql (x y : List UInt8) : binP .eql .plain (.p (.s x)) (.p (.s y)) = some (.p (.b (x == y))) := by rfl

theorem bs_neq (x y : List UInt8) : binP .neq .plain (.p (.s x)) (.p (.s y)) = some (.p (.b (!(x == y)))) := by rfl

theorem bs_lss (x y : List UInt8) : binP .lss .plain (.p (.s x)) (.p (.s y)) = some (.p (.b (Op.bytesLess x y))) := by rfl

theorem bs_leq (x y : List UInt8) : binP .leq .plain (.p (.s x)) (.p (.s y)) = some (.p (.b (Op.bytesLess x y || x == y))) := by rfl

theorem bs_gtr (x y : List UInt8) : binP .gtr .plain (.p (.s x)) (.p (.s y)) = some (.p (.b (!(Op.bytesLess x y || x == y)))) := by rfl

theorem bs_geq (x y : List UInt8) : binP .geq .plain (.p (.s x)) (.p (.s y)) = some (.p (.b (!Op.bytesLess x y))) := by rfl

theorem bb_eql (x y : Bool) : binP .eql .bool (.p (.b x)) (.p (.b y)) = some (.p (.b (x == y))) := rfl

theorem bb_neq (x y : Bool) : binP .neq .bool (.p (.b x)) (.p (.b y)) = some (.p (.b (!(x == y)))) := rfl

theorem bf_eql (ks : List KD) (a c : List PV) : binP .eql (.flat ks) (.data a) (.data c) = (cmpL ks a c).map fun x => .p (.b x) := by simp only [binP, negB]; cases cmpL ks a c <;> rfl

theorem bf_neq (ks : List KD) (a c : List PV) : binP .neq (.flat ks) (.data a) (.data c) = (cmpL ks a c).map fun x => .p (.b (!x)) := by simp only [binP, negB]; cases cmpL ks a c <;> rfl

theorem bp_ptr (b o : Nat) (y : AV) : binP .eql .nilp (.ptr b o) y = some (.p (.b false)) := rfl

theorem bp_ptn (b o : Nat) (y : AV) : binP .neq .nilp (.ptr b o) y = some (.p (.b true)) := rfl

theorem u_neg (k : IntKind) (n : Int) : unP .neg (.p (.i k n)) = some (.p (.i k (k.wrap (0 - n)))) := rfl

theorem u_cpl (k : IntKind) (n : Int) : unP .xor (.p (.i k n)) = some (.p (.i k (notI k n))) := rfl

theorem u_not (x : Bool) : unP .not (.p (.b x)) = some (.p (.b (!x))) := rfl

theorem u_nt : (!true) = false := rfl

theorem u_nf : (!false) = true := rfl

theorem m_max (k : IntKind) (x y : Int) : mmP true (.p (.i k x)) (.p (.i k y)) = some (.p (.i k (maxI x y))) := rfl

theorem m_min (k : IntKind) (x y : Int) : mmP false (.p (.i k x)) (.p (.i k y)) = some (.p (.i k (minI x y))) := rfl

theorem f_ptr (off b o : Nat) : faddrP off (.ptr b o) = some (.ptr b (o + off)) := rfl

theorem f_cp (off o : Nat) (cs : List PV) : faddrP off (.cp cs o) = some (.cp cs (o + off)) := rfl

theorem f_ep (off b e i o : Nat) : faddrP off (.ep b e i o) = some (.ep b e i (o + off)) := rfl

theorem f_fd (g : Bool) (off n : Nat) (cs : List PV) : fieldP g off n (.data cs) = (sub cs off n).bind (ofPCells g) := by simp only [fieldP]; cases sub cs off n <;> rfl

theorem f_fa (g : Bool) (off n : Nat) (c : AV) (cs : List AV) : fieldP g off n (.agg (c :: cs)) = (sub (c :: cs) off n).bind (ofCells g) := by simp only [fieldP]; cases sub (c :: cs) off n <;> rfl

theorem o_pt (cs : List PV) : ofPCells true cs = some (.data cs) := rfl

theorem o_pf (c : PV) : ofPCells false [c] = some (.p c) := rfl

theorem o_am (cs : List PV) : ofCells true (cs.map AV.p) = some (.data cs) := ofCells_agg cs

theorem o_ac (c : AV) (cs : List AV) : ofCells true (c :: cs) = some (aggV (c :: cs) (unp (c :: cs))) := by simp only [ofCells, if_true]; cases unp (c :: cs) <;> rfl

theorem o_af (c : AV) : ofCells false [c] = some c := rfl

theorem a_vs (cs : List AV) (l : List PV) : aggV cs (some l) = .data l := rfl

theorem a_mn (c : PV) : Option.map (fun l => c :: l) (none : Option (List PV)) = none := rfl

theorem a_vn (cs : List AV) : aggV cs none = .agg cs := rfl

theorem a_u0 : unp [] = some [] := rfl

theorem a_up (c : PV) (r : List AV) : unp (.p c :: r) = (unp r).map fun l => c :: l := by simp only [unp]; cases unp r <;> rfl

theorem a_uslr (b i n : Nat) (r : List AV) : unp (.slr b i n :: r) = none := rfl

theorem a_uptr (b i : Nat) (r : List AV) : unp (.ptr b i :: r) = none := rfl

theorem a_uep (b e i o : Nat) (r : List AV) : unp (.ep b e i o :: r) = none := rfl

theorem x_tup (i : Nat) (vs : List AV) : extrP i (.tup vs) = vs[i]? := rfl

theorem l_s (l : List UInt8) : lenP true (.p (.s l)) = some (.p (.i .i64 l.length)) := rfl

theorem l_l (e : Nat) (rows : List (List PV)) : lenP false (.p (.sl e rows)) = some (.p (.i .i64 rows.length)) := rfl

theorem l_o (b i n : Nat) : lenP false (.slr b i n) = some (.p (.i .i64 n)) := rfl

theorem l_map {α β : Type} (g : α → β) (l : List α) : (l.map g).length = l.length := by simp

theorem c_ptr (b o : Nat) : nckP (.ptr b o) = some (.ptr b o) := rfl

theorem c_cp (cs : List PV) (o : Nat) : nckP (.cp cs o) = some (.cp cs o) := rfl

theorem c_ep (b e i o : Nat) : nckP (.ep b e i o) = some (.ep b e i o) := rfl

theorem ld_cp (env : List (Nat × AV)) (sto : List Blk) (g : Bool) (n : Nat) (cs : List PV) (off : Nat) : (loadR g n (.cp cs off)).run ⟨env, sto⟩ = (sub cs off n).bind fun l => (ofPCells g l).map fun v => ⟨v, []⟩ := ldC_aux ..

theorem ld_ptr (env : List (Nat × AV)) (sto : List Blk) (g : Bool) (n b off : Nat) : (loadR g n (.ptr b off)).run ⟨env, sto⟩ = sto[b]?.bind fun B => ldB g n off B := ldB_aux ..

theorem ld_ep (env : List (Nat × AV)) (sto : List Blk) (g : Bool) (n b e i off : Nat) : (loadR g n (.ep b e i off)).run ⟨env, sto⟩ = sto[b]?.bind fun B => ldE g n e i off B := ldE_aux ..

theorem ldb_m (g : Bool) (n off : Nat) (cs : List PV) : ldB g n off (.box (cs.map AV.p)) = (sub cs off n).bind fun l => (ofPCells g l).map fun v => ⟨v, []⟩ := ldB_m ..

theorem ldb_c (g : Bool) (n off : Nat) (c : AV) (cs : List AV) : ldB g n off (.box (c :: cs)) = (sub (c :: cs) off n).bind fun l => (ofCells g l).map fun v => ⟨v, []⟩ := rfl

theorem lde_a (g : Bool) (n e i off z : Nat) (w : Bool) (rows : List (List PV)) : ldE g n e i off (.arr w z rows) = if e = rows.length then rows[i]?.bind fun row => (sub row off n).bind fun l => (ofPCells g l).map fun v => ⟨v, []⟩ else none := rfl

theorem st_ptr (env : List (Nat × AV)) (sto : List Blk) (n b off : Nat) (v : AV) : (storeR n (.ptr b off) v).run ⟨env, sto⟩ = sto[b]?.bind fun B => (cellsOf v).bind fun l => stB n b off l B := stB_aux ..

theorem stb_m (n b off : Nat) (cs vs : List PV) : stB n b off (vs.map AV.p) (.box (cs.map AV.p)) = if vs.length = n then (spl cs off vs).map fun cs => ⟨undefV, [(b, .box (cs.map AV.p))]⟩ else none := stB_m ..

theorem stb_1 (b off : Nat) (cs : List PV) (v : PV) : stB 1 b off [AV.p v] (.box (cs.map AV.p)) = (spl cs off [v]).map fun cs => ⟨undefV, [(b, .box (cs.map AV.p))]⟩ := stB_1 ..

theorem st_ep (env : List (Nat × AV)) (sto : List Blk) (n b e i off : Nat) (v : AV) : (storeR n (.ep b e i off) v).run ⟨env, sto⟩ = sto[b]?.bind fun B => stE n b e i off v B ⟨env, sto⟩ := stE_aux ..

theorem ste_p (n b e i off z : Nat) (c : PV) (rows : List (List PV)) (s : St) : stE n b e i off (.p c) (.arr true z rows) s = if e = rows.length then rows[i]?.bind fun row => if 1 = n then (spl row off [c]).map fun row => ⟨undefV, [(b, .arr true z (rows.set i row))]⟩ else none else none := stE_p ..

theorem ste_d (n b e i off z : Nat) (cs : List PV) (rows : List (List PV)) (s : St) : stE n b e i off (.data cs) (.arr true z rows) s = if e = rows.length then rows[i]?.bind fun row => if cs.length = n then (spl row off cs).map fun row => ⟨undefV, [(b, .arr true z (rows.set i row))]⟩ else none else none := stE_d ..

theorem c_p (c : PV) : cellsOf (.p c) = some [.p c] := rfl

theorem c_d (cs : List PV) : cellsOf (.data cs) = some (cs.map AV.p) := rfl

theorem c_a (cs : List AV) : cellsOf (.agg cs) = some cs := rfl

theorem c_s (b i n : Nat) : cellsOf (.slr b i n) = some [.slr b i n] := rfl

theorem c_t (b o : Nat) : cellsOf (.ptr b o) = some [.ptr b o] := rfl

theorem bx_p (c : PV) : bxP 1 (.p c) = some [.p c] := rfl

theorem bx_d (n : Nat) (cs : List PV) : bxP n (.data cs) = if cs.length = n then some (cs.map AV.p) else none := bx_aux ..

theorem bx_a (n : Nat) (cs : List AV) : bxP n (.agg cs) = if cs.length = n then some cs else none := rfl

theorem bx_s (b i n : Nat) : bxP 1 (.slr b i n) = some [.slr b i n] := rfl

theorem ia_c (env : List (Nat × AV)) (sto : List Blk) (e : Nat) (rows : List (List PV)) (k : IntKind) (n : Int) : (iaddrR e (.p (.sl e rows)) (.p (.i k n))).run ⟨env, sto⟩ = (rowAt rows n).map fun row => ⟨.cp row 0, []⟩ := ia_c_aux ..

theorem ia_o (env : List (Nat × AV)) (sto : List Blk) (e b m : Nat) (k : IntKind) (n : Int) : (iaddrR e (.slr b 0 m) (.p (.i k n))).run ⟨env, sto⟩ = sto[b]?.bind fun B => iaB e b m n B := ia_o_aux ..

theorem iab (e b m : Nat) (n : Int) (w : Bool) (rows : List (List PV)) : iaB e b m n (.arr w e rows) = if m = rows.length ∧ 0 ≤ n ∧ n < m then some ⟨.ep b rows.length n.toNat 0, []⟩ else none := iab_aux ..

theorem aa_p (n e b off : Nat) (k : IntKind) (i : Int) : aaddrP n e (.ptr b off) (.p (.i k i)) = if 0 ≤ i ∧ i < n then some (.ptr b (off + i.toNat * e)) else none := rfl

theorem aa_c (n e off : Nat) (cs : List PV) (k : IntKind) (i : Int) : aaddrP n e (.cp cs off) (.p (.i k i)) = if 0 ≤ i ∧ i < n then some (.cp cs (off + i.toNat * e)) else none := rfl

theorem aa_e (n e b x j off : Nat) (k : IntKind) (i : Int) : aaddrP n e (.ep b x j off) (.p (.i k i)) = if 0 ≤ i ∧ i < n then some (.ep b x j (off + i.toNat * e)) else none := rfl

theorem si (l : List UInt8) (k : IntKind) (n : Int) : sidP (.p (.s l)) (.p (.i k n)) = (sidS l n).map fun v => .p (.i .u8 v) := sid_ok ..

theorem ai (g : Bool) (n e : Nat) (cs : List PV) (k : IntKind) (i : Int) : aidP g n e (.data cs) (.p (.i k i)) = if 0 ≤ i ∧ i < n then (sub cs (i.toNat * e) e).bind (ofPCells g) else none := ai_aux ..

theorem cv_i (env : List (Nat × AV)) (sto : List Blk) (c k : IntKind) (n : Int) (new : Nat) : (cvR (.int c) (.p (.i k n)) new).run ⟨env, sto⟩ = some ⟨.p (.i c (c.wrap n)), []⟩ := rfl

theorem cv_s (env : List (Nat × AV)) (sto : List Blk) (l : List UInt8) (new : Nat) : (cvR .same (.p (.s l)) new).run ⟨env, sto⟩ = some ⟨.p (.s l), []⟩ := rfl

theorem cv_t (env : List (Nat × AV)) (sto : List Blk) (l : List Int) (new : Nat) : (cvR .toStr (.p (.sl 1 (l.map (r_i .u8)))) new).run ⟨env, sto⟩ = some ⟨.p (.s (toStr l)), []⟩ := cv_t_aux ..

theorem cv_o (env : List (Nat × AV)) (sto : List Blk) (b n new : Nat) : (cvR .toStr (.slr b 0 n) new).run ⟨env, sto⟩ = sto[b]?.bind fun B => cvB n B := cv_o_aux ..

theorem cv_ob (n : Nat) (w : Bool) (l : List Int) : cvB n (.arr w 1 (l.map (r_i .u8))) = if n = l.length then some ⟨.p (.s (toStr l)), []⟩ else none := cvB_aux ..

theorem cv_b (env : List (Nat × AV)) (sto : List Blk) (l : List UInt8) (new : Nat) : (cvR (.toBytes false) (.p (.s l)) new).run ⟨env, sto⟩ = some ⟨.p (.sl 1 ((toByt l).map (r_i .u8))), []⟩ := cv_b_aux ..

theorem cv_bo (env : List (Nat × AV)) (sto : List Blk) (l : List UInt8) (new : Nat) : (cvR (.toBytes true) (.p (.s l)) new).run ⟨env, sto⟩ = some ⟨.slr new 0 (toByt l).length, [(new, .arr true 1 ((toByt l).map (r_i .u8)))]⟩ := cv_bo_aux ..

theorem pa_0 (env : List (Nat × AV)) (sto : List Blk)  : (partsR []).run ⟨env, sto⟩ = some [] := rfl

theorem pa_c (env : List (Nat × AV)) (sto : List Blk) (off size : Nat) (x : Opd) (r : List (Nat × Nat × Opd)) : (partsR ((off, size, x) :: r)).run ⟨env, sto⟩ = (evv x env).bind fun v => (cellsOf v).bind fun cs => ((partsR r).run ⟨env, sto⟩).bind fun l => some ((off, size, cs) :: l) := pa_aux ..

theorem fi_0 (cs : List AV) : fillAll [] cs = some cs := rfl

theorem fi_m (off size : Nat) (vs cs : List PV) (r : List (Nat × Nat × List AV)) : fillAll ((off, size, vs.map AV.p) :: r) (cs.map AV.p) = if vs.length = size then (spl cs off vs).bind fun cs => fillAll r (cs.map AV.p) else none := fi_m_aux ..

theorem fi_1 (off : Nat) (v : PV) (cs : List PV) (r : List (Nat × Nat × List AV)) : fillAll ((off, 1, [AV.p v]) :: r) (cs.map AV.p) = (spl cs off [v]).bind fun cs => fillAll r (cs.map AV.p) := fi_1_aux ..

theorem es_0 (env : List (Nat × AV)) (sto : List Blk)  : (evs []).run ⟨env, sto⟩ = some [] := rfl

theorem es_c (env : List (Nat × AV)) (sto : List Blk) (x : Opd) (r : List Opd) : (evs (x :: r)).run ⟨env, sto⟩ = (evv x env).bind fun v => ((evs r).run ⟨env, sto⟩).bind fun vs => some (v :: vs) := es_aux ..

theorem ar_0 (env : List (Nat × AV)) (sto : List Blk)  : (argsR []).run ⟨env, sto⟩ = some ([], []) := rfl

theorem ar_p (env : List (Nat × AV)) (sto : List Blk) (c : PV) (r : List AV) : (argsR (.p c :: r)).run ⟨env, sto⟩ = ((argsR r).run ⟨env, sto⟩).bind fun a => some (.p c :: a.1, a.2) := ar_aux _ _ rfl ..

theorem ar_d (env : List (Nat × AV)) (sto : List Blk) (c : List PV) (r : List AV) : (argsR (.data c :: r)).run ⟨env, sto⟩ = ((argsR r).run ⟨env, sto⟩).bind fun a => some (.data c :: a.1, a.2) := ar_aux _ _ rfl ..

theorem ar_t (env : List (Nat × AV)) (sto : List Blk) (b o : Nat) (r : List AV) : (argsR (.ptr b o :: r)).run ⟨env, sto⟩ = ((argsR r).run ⟨env, sto⟩).bind fun a => some (.ptr b o :: a.1, a.2) := ar_aux _ _ rfl ..

theorem ar_c (env : List (Nat × AV)) (sto : List Blk) (c : List PV) (o : Nat) (r : List AV) : (argsR (.cp c o :: r)).run ⟨env, sto⟩ = ((argsR r).run ⟨env, sto⟩).bind fun a => some (.cp c o :: a.1, a.2) := ar_aux _ _ rfl ..

theorem ar_e (env : List (Nat × AV)) (sto : List Blk) (b x i o : Nat) (r : List AV) : (argsR (.ep b x i o :: r)).run ⟨env, sto⟩ = ((argsR r).run ⟨env, sto⟩).bind fun a => some (.ep b x i o :: a.1, a.2) := ar_aux _ _ rfl ..

theorem ar_s (env : List (Nat × AV)) (sto : List Blk) (b n : Nat) (r : List AV) : (argsR (.slr b 0 n :: r)).run ⟨env, sto⟩ = sto[b]?.bind fun B => (frz b n B).bind fun x => ((argsR r).run ⟨env, sto⟩).bind fun a => some (x.1 :: a.1, x.2 :: a.2) := ar_s_aux ..

theorem ar_a (env : List (Nat × AV)) (sto : List Blk) (cs : List AV) (r : List AV) : (argsR (.agg cs :: r)).run ⟨env, sto⟩ = ((fz.fzL cs).run ⟨env, sto⟩).bind fun x => ((argsR r).run ⟨env, sto⟩).bind fun a => some (.data x.1 :: a.1, x.2 ++ a.2) := ar_a_aux ..

theorem fr (b n z : Nat) (w : Bool) (rows : List (List PV)) : frz b n (.arr w z rows) = if n = rows.length then some (.p (.sl z rows), (b, .arr false z rows)) else none := rfl

theorem fz_0 (env : List (Nat × AV)) (sto : List Blk)  : (fz.fzL []).run ⟨env, sto⟩ = some ([], []) := rfl

theorem fz_p (env : List (Nat × AV)) (sto : List Blk) (c : PV) (r : List AV) : (fz.fzL (.p c :: r)).run ⟨env, sto⟩ = ((fz.fzL r).run ⟨env, sto⟩).bind fun a => some (c :: a.1, a.2) := fz_p_aux ..

theorem fz_s (env : List (Nat × AV)) (sto : List Blk) (b n : Nat) (r : List AV) : (fz.fzL (.slr b 0 n :: r)).run ⟨env, sto⟩ = sto[b]?.bind fun B => (frp b n B).bind fun x => ((fz.fzL r).run ⟨env, sto⟩).bind fun a => some (x.1 :: a.1, x.2 :: a.2) := fz_s_aux ..

theorem frpq (b n z : Nat) (w : Bool) (rows : List (List PV)) : frp b n (.arr w z rows) = if n = rows.length then some (.sl z rows, (b, .arr false z rows)) else none := rfl

theorem ar_fn (env : List (Nat × AV)) (sto : List Blk) (f : FuncId) (a c : List AV) (r : List AV) : (argsR (.fn f a c :: r)).run ⟨env, sto⟩ = ((argsR r).run ⟨env, sto⟩).bind fun x => some (.fn f a c :: x.1, x.2) := ar_aux _ _ rfl ..

theorem fn_fn (m : Nat) (ids : List Nat) (sto : List Blk) (f : FuncId) (a c : List AV) : fin m ids sto (.fn f a c) = (fin.finL m ids sto a).bind fun a1 => (fin.finL m ids sto c).bind fun c1 => some (.fn f a1 c1) := fnf_aux ..

theorem eo_fn (f : FuncId) (a c : List AV) (l : List Ent) : entsOf (.fn f a c) l = entsOf.entsOfL c (entsOf.entsOfL a l) := rfl

theorem ba_0 (ws : List (Nat × Blk)) (s : St) : boxesAt ws s [] [] = True := rfl

theorem ba_c (ws : List (Nat × Blk)) (s : St) (b : Nat) (bs : List Nat) (cs : List AV) (css : List (List AV)) : boxesAt ws s (b :: bs) (cs :: css) = ((getB ws b).run s = some (.box cs) ∧ boxesAt ws s bs css) := rfl

theorem gb_c (env : List (Nat × AV)) (sto : List Blk) (b c : Nat) (x : Blk) (ws : List (Nat × Blk)) : (getB ((c, x) :: ws) b).run ⟨env, sto⟩ = sto[b]?.bind fun y => some ((lastW b ((c, x) :: ws)).getD y) := gbc_aux ..

theorem lw_0 (b : Nat) : lastW b [] = none := rfl

theorem lw_c (b c : Nat) (x : Blk) (r : List (Nat × Blk)) : lastW b ((c, x) :: r) = lwO (lastW b r) (if c = b then some x else none) := lw_aux ..

theorem lw_s (x : Blk) (y : Option Blk) : lwO (some x) y = some x := rfl

theorem lw_n (y : Option Blk) : lwO none y = y := rfl

theorem gd_s {α : Type} (a b : α) : (some a).getD b = a := rfl

theorem gd_n {α : Type} (b : α) : (none : Option α).getD b = b := rfl

theorem gb_0 (env : List (Nat × AV)) (sto : List Blk) (b : Nat) : (getB [] b).run ⟨env, sto⟩ = sto[b]? := gb_aux ..

theorem ro_s (env : List (Nat × AV)) (sto : List Blk) (e : Nat) (rows : List (List PV)) : (rowsOf e (.p (.sl e rows))).run ⟨env, sto⟩ = some rows := ro_s_aux ..

theorem ro_t (env : List (Nat × AV)) (sto : List Blk) (l : List UInt8) : (rowsOf 1 (.p (.s l))).run ⟨env, sto⟩ = some ((toByt l).map (r_i .u8)) := ro_t_aux ..

theorem ro_o (env : List (Nat × AV)) (sto : List Blk) (e b n : Nat) : (rowsOf e (.slr b 0 n)).run ⟨env, sto⟩ = sto[b]?.bind fun B => roB e n B := ro_o_aux ..

theorem ro_b (e n : Nat) (w : Bool) (rows : List (List PV)) : roB e n (.arr w e rows) = if n = rows.length then some rows else none := ro_b_aux ..

theorem lt_0 (env : List (Nat × AV)) (sto : List Blk) (o : Bool) (e n new : Nat) (z : List PV) (ps : List (Nat × Opd)) : (ltR o e n z ps new).run ⟨env, sto⟩ = ((fzs (ps.map (·.2))).run ⟨env, sto⟩).bind fun a => (placeAll e ((ps.map (·.1)).zip a.1) (List.replicate n z)).map fun rows => if o then ⟨.slr new 0 n, a.2 ++ [(new, .arr true e rows)]⟩ else ⟨.p (.sl e rows), a.2⟩ := lt_aux ..

theorem fs_0 (env : List (Nat × AV)) (sto : List Blk)  : (fzs []).run ⟨env, sto⟩ = some ([], []) := rfl

theorem fs_c (env : List (Nat × AV)) (sto : List Blk) (x : Opd) (r : List Opd) : (fzs (x :: r)).run ⟨env, sto⟩ = (evv x env).bind fun v => ((fz v).run ⟨env, sto⟩).bind fun a => ((fzs r).run ⟨env, sto⟩).bind fun c => some (a.1 :: c.1, a.2 ++ c.2) := fs_aux ..

theorem fzv_p (env : List (Nat × AV)) (sto : List Blk) (c : PV) : (fz (.p c)).run ⟨env, sto⟩ = some ([c], []) := rfl

theorem fzv_d (env : List (Nat × AV)) (sto : List Blk) (cs : List PV) : (fz (.data cs)).run ⟨env, sto⟩ = some (cs, []) := rfl

theorem fzv_a (env : List (Nat × AV)) (sto : List Blk) (cs : List AV) : (fz (.agg cs)).run ⟨env, sto⟩ = (fz.fzL cs).run ⟨env, sto⟩ := rfl

theorem fzv_s (env : List (Nat × AV)) (sto : List Blk) (b n : Nat) : (fz (.slr b 0 n)).run ⟨env, sto⟩ = sto[b]?.bind fun B => (frp b n B).bind fun x => some ([x.1], [x.2]) := fzv_s_aux ..

theorem pl_0 (e : Nat) (rows : List (List PV)) : placeAll e [] rows = some rows := rfl

theorem pl_c (e i : Nat) (c : List PV) (r : List (Nat × List PV)) (rows : List (List PV)) : placeAll e ((i, c) :: r) rows = if c.length = e ∧ i < rows.length then placeAll e r (rows.set i c) else none := rfl

theorem mk (o : Bool) (e b new : Nat) (z : List PV) (k k2 : IntKind) (n m : Int) : mkP o e b z (.p (.i k n)) (.p (.i k2 m)) new = if 0 ≤ n ∧ n ≤ m ∧ b * m ≤ 281474976710656 ∧ m ≤ 281474976710656 then some (if o then ⟨.slr new 0 n.toNat, [(new, .arr true e (List.replicate n.toNat z))]⟩ else ⟨.p (.sl e (List.replicate n.toNat z)), []⟩) else none := rfl

theorem ew_n (env : List (Nat × AV)) : evo1 none env = some none := rfl

theorem ew_s (x : Opd) (env : List (Nat × AV)) : evo1 (some x) env = (evv x env).map some := rfl

theorem sl_p (env : List (Nat × AV)) (sto : List Blk) (s : SK) (c : PV) (lo hi : Option AV) : (slR s (.p c) lo hi none).run ⟨env, sto⟩ = (slX s (.p c) lo hi).map fun v => ⟨v, []⟩ := sl_p_aux ..

theorem sl_o (env : List (Nat × AV)) (sto : List Blk) (s : SK) (b n : Nat) (lo hi : Option AV) : (slR s (.slr b 0 n) lo hi none).run ⟨env, sto⟩ = sto[b]?.bind fun B => (frz b n B).bind fun x => (slX s x.1 lo hi).map fun v => ⟨v, [x.2]⟩ := sl_o_aux ..

theorem sx_s (x : AV) (lo hi : Option AV) : slX .str x lo hi = sliceS x lo hi := rfl

theorem sx_l (e : Nat) (x : AV) (lo hi : Option AV) : slX (.sl e) x lo hi = sliceL e x lo hi := rfl

theorem cl (n : Nat) (live : List Nat) (env : List (Nat × AV)) (sto : List Blk) : clean n live ⟨env, sto⟩ = if sto.length = n then some ⟨restr live env, sto⟩ else (finE n sto (restr live env)).bind fun e => (finBs n [] sto (sto.take n)).bind fun l => some ⟨e, l⟩ := cl_aux ..

theorem fe_0 (m : Nat) (sto : List Blk) : finE m sto [] = some [] := rfl

theorem fe_c (m k : Nat) (sto : List Blk) (x : AV) (r : List (Nat × AV)) : finE m sto ((k, x) :: r) = (fin m [] sto x).bind fun y => (finE m sto r).bind fun l => some ((k, y) :: l) := fe_aux ..

theorem fb_0 (m : Nat) (ids : List Nat) (sto : List Blk) : finBs m ids sto [] = some [] := rfl

theorem fb_c (m : Nat) (ids : List Nat) (sto : List Blk) (x : Blk) (r : List Blk) : finBs m ids sto (x :: r) = (finB m ids sto x).bind fun y => (finBs m ids sto r).bind fun l => some (y :: l) := fb_aux ..

theorem fb_d (m : Nat) (ids : List Nat) (sto : List Blk) : finB m ids sto .dead = some .dead := rfl

theorem fb_a (m : Nat) (ids : List Nat) (sto : List Blk) (w : Bool) (z : Nat) (rows : List (List PV)) : finB m ids sto (.arr w z rows) = some (.arr w z rows) := rfl

theorem fb_b (m : Nat) (ids : List Nat) (sto : List Blk) (cs : List AV) : finB m ids sto (.box cs) = (fin.finL m ids sto cs).map .box := fbb_aux ..

theorem fl_m (m : Nat) (ids : List Nat) (sto : List Blk) (l : List PV) : fin.finL m ids sto (l.map AV.p) = some (l.map AV.p) := finL_mapp m ids sto l

theorem fl_0 (m : Nat) (ids : List Nat) (sto : List Blk) : fin.finL m ids sto [] = some [] := rfl

theorem fl_c (m : Nat) (ids : List Nat) (sto : List Blk) (x : AV) (r : List AV) : fin.finL m ids sto (x :: r) = (fin m ids sto x).bind fun y => (fin.finL m ids sto r).bind fun l => some (y :: l) := fl_aux ..

theorem fn_p (m : Nat) (ids : List Nat) (sto : List Blk) (c : PV) : fin m ids sto (.p c) = some (.p c) := rfl

theorem fn_d (m : Nat) (ids : List Nat) (sto : List Blk) (c : List PV) : fin m ids sto (.data c) = some (.data c) := rfl

theorem fn_c (m : Nat) (ids : List Nat) (sto : List Blk) (c : List PV) (o : Nat) : fin m ids sto (.cp c o) = some (.cp c o) := rfl

theorem fn_u (m : Nat) (ids : List Nat) (sto : List Blk)  : fin m ids sto (.tup []) = some (.tup []) := rfl

theorem fn_t (m : Nat) (ids : List Nat) (sto : List Blk) (b off : Nat) : fin m ids sto (.ptr b off) = if b < m then some (.ptr b off) else (idxN b ids m).map fun k => .ptr k off := rfl

theorem fn_s (m : Nat) (ids : List Nat) (sto : List Blk) (b n : Nat) : fin m ids sto (.slr b 0 n) = if b < m then some (.slr b 0 n) else fsl (idxN b ids m) n sto[b]? := fsl_aux ..

theorem fs_i (k n : Nat) (o : Option Blk) : fsl (some k) n o = some (.slr k 0 n) := rfl

theorem fs_a (n z : Nat) (w : Bool) (rows : List (List PV)) : fsl none n (some (.arr w z rows)) = if n = rows.length then some (.p (.sl z rows)) else none := rfl

theorem fn_a (m : Nat) (ids : List Nat) (sto : List Blk) (cs : List AV) : fin m ids sto (.agg cs) = (fin.finL m ids sto cs).bind fun l => some (aggV l (unp l)) := fna_aux ..

theorem fn_tu (m : Nat) (ids : List Nat) (sto : List Blk) (x : AV) (cs : List AV) : fin m ids sto (.tup (x :: cs)) = (fin.finL m ids sto (x :: cs)).map .tup := fnt_aux ..

theorem in_0 (b k : Nat) : idxN b [] k = none := rfl

theorem in_c (b x k : Nat) (r : List Nat) : idxN b (x :: r) k = if x = b then some k else idxN b r (k + 1) := rfl

theorem e_fin1 (res : List ARes) (fresh : Bool) (m : Nat) (env : List (Nat × AV)) (sto : List Blk) : fin1 res fresh m ⟨env, sto⟩ = ((resR res).run ⟨env, sto⟩).bind fun vs => if sto.length = m then some (one vs, sto) else fin2 fresh m vs sto (outIds m fresh sto (entsB sto (entsOf.entsOfL vs []) (entsOf.entsOfL vs []))) := rfl

theorem e_fin2 (fresh : Bool) (m : Nat) (vs : List AV) (sto : List Blk) (ids : List Nat) : fin2 fresh m vs sto ids = if nodupB ids = true then (fin.finL m ids sto vs).bind fun ws => (finBs m ids sto (sto.take m)).bind fun l => (pickB sto ids).bind fun q => (finBs m ids sto q).bind fun q => some (one ws, l ++ q) else none := rfl

theorem rs_0 (env : List (Nat × AV)) (sto : List Blk)  : (resR []).run ⟨env, sto⟩ = some [] := rfl

theorem rs_t (env : List (Nat × AV)) (sto : List Blk) (t : Nat) (r : List ARes) : (resR (.tmp t :: r)).run ⟨env, sto⟩ = (lk t env).bind fun v => ((resR r).run ⟨env, sto⟩).bind fun l => some (v :: l) := rs_t_aux ..

theorem rs_c (env : List (Nat × AV)) (sto : List Blk) (t n : Nat) (g : Bool) (r : List ARes) : (resR (.cell t g n :: r)).run ⟨env, sto⟩ = (lk t env).bind fun v => ((loadR g n v).run ⟨env, sto⟩).bind fun e => ((resR r).run ⟨env, sto⟩).bind fun l => some (e.val :: l) := rs_c_aux ..

theorem on_1 (x : AV) : one [x] = x := rfl

theorem on_0 : one [] = .tup [] := rfl

theorem on_2 (x y : AV) (r : List AV) : one (x :: y :: r) = .tup (x :: y :: r) := rfl

theorem oi_0 (m : Nat) (fresh : Bool) (sto : List Blk) : outIds m fresh sto [] = [] := rfl

theorem oi_w (m b : Nat) (sto : List Blk) (r : List Ent) : outIds m false sto (.whole b :: r) = if b < m then outIds m false sto r else oid b sto[b]? (outIds m false sto r) := oi_aux ..

theorem oi_b (b : Nat) (cs : List AV) (l : List Nat) : oid b (some (.box cs)) l = b :: l := rfl

theorem oi_a (b z : Nat) (w : Bool) (rows : List (List PV)) (l : List Nat) : oid b (some (.arr w z rows)) l = l := rfl

theorem eb_0 (sto : List Blk) (acc : List Ent) : entsB sto [] acc = acc := rfl

theorem eb_w (sto : List Blk) (b : Nat) (r : List Ent) (acc : List Ent) : entsB sto (.whole b :: r) acc = entsB sto r (ebb sto[b]? acc) := eb_aux ..

theorem ebb_b (cs : List AV) (acc : List Ent) : ebb (some (.box cs)) acc = entsOf.entsOfL cs acc := rfl

theorem ebb_a (z : Nat) (w : Bool) (rows : List (List PV)) (acc : List Ent) : ebb (some (.arr w z rows)) acc = acc := rfl

theorem el_0 (l : List Ent) : entsOf.entsOfL [] l = l := rfl

theorem el_c (x : AV) (r : List AV) (l : List Ent) : entsOf.entsOfL (x :: r) l = entsOf.entsOfL r (entsOf x l) := rfl

theorem el_m (cs : List PV) (l : List Ent) : entsOf.entsOfL (cs.map AV.p) l = l := ents_mapp cs l

theorem eo_p (c : PV) (l : List Ent) : entsOf (.p c) l = l := rfl

theorem eo_d (c : List PV) (l : List Ent) : entsOf (.data c) l = l := rfl

theorem eo_c (c : List PV) (o : Nat) (l : List Ent) : entsOf (.cp c o) l = l := rfl

theorem eo_t (b o : Nat) (l : List Ent) : entsOf (.ptr b o) l = addEnt (.whole b) l := rfl

theorem eo_s (b i n : Nat) (l : List Ent) : entsOf (.slr b i n) l = addEnt (.whole b) l := rfl

theorem eo_a (cs : List AV) (l : List Ent) : entsOf (.agg cs) l = entsOf.entsOfL cs l := rfl

theorem eo_u (cs : List AV) (l : List Ent) : entsOf (.tup cs) l = entsOf.entsOfL cs l := rfl

theorem ae_0 (e : Ent) : addEnt e [] = [e] := rfl

theorem ae_c (b c : Nat) (r : List Ent) : addEnt (.whole b) (.whole c :: r) = if c = b then .whole c :: r else .whole c :: addEnt (.whole b) r := ae_aux ..

theorem nd_0 : nodupB [] = true := rfl

theorem nd_1 (x : Nat) : nodupB [x] = true := rfl

theorem pb_0 (sto : List Blk) : pickB sto [] = some [] := rfl

theorem pb_c (sto : List Blk) (b : Nat) (r : List Nat) : pickB sto (b :: r) = sto[b]?.bind fun x => (pickB sto r).bind fun l => some (x :: l) := pb_aux ..

theorem q_0 {α : Type} (a : α) (l : List α) : (a :: l)[0]? = some a := rfl

theorem q_s {α : Type} (a : α) (l : List α) (n : Nat) : (a :: l)[n + 1]? = l[n]? := rfl

theorem q_n {α : Type} (n : Nat) : ([] : List α)[n]? = none := rfl

theorem s_0 {α : Type} (a b : α) (l : List α) : (a :: l).set 0 b = b :: l := rfl

theorem s_s {α : Type} (a b : α) (l : List α) (n : Nat) : (a :: l).set (n + 1) b = a :: l.set n b := rfl

theorem c_a0 {α : Type} (l : List α) : [] ++ l = l := rfl

theorem c_an {α : Type} (l : List α) : l ++ [] = l := List.append_nil l

theorem c_ac {α : Type} (a : α) (l r : List α) : (a :: l) ++ r = a :: (l ++ r) := rfl

theorem c_r0 {α : Type} (a : α) : List.replicate 0 a = [] := rfl

theorem c_rs {α : Type} (a : α) (n : Nat) : List.replicate (n + 1) a = a :: List.replicate n a := rfl

theorem c_m0 {α β : Type} (g : α → β) : List.map g [] = [] := rfl

theorem c_mc {α β : Type} (g : α → β) (a : α) (l : List α) : List.map g (a :: l) = g a :: List.map g l := rfl

theorem c_l0 {α : Type} : ([] : List α).length = 0 := rfl

theorem c_lc {α : Type} (a : α) (l : List α) : (a :: l).length = l.length + 1 := rfl

theorem c_t0 {α : Type} (l : List α) : l.take 0 = [] := rfl

theorem c_ts {α : Type} (a : α) (l : List α) (n : Nat) : (a :: l).take (n + 1) = a :: l.take n := rfl

theorem c_z0 {α β : Type} (l : List β) : ([] : List α).zip l = [] := rfl

theorem c_zc {α β : Type} (a : α) (b : β) (l : List α) (r : List β) : (a :: l).zip (b :: r) = (a, b) :: l.zip r := rfl

theorem c_z (n : Nat) : 0 + n = n := Nat.zero_add n

theorem c_zz (n : Nat) : n + 0 = n := rfl

theorem c_ri (k : IntKind) (n : Int) : r_i k n = [.i k n] := rfl

theorem c_rb (x : Bool) : r_b x = [.b x] := rfl

theorem c_rs2 (x : List UInt8) : r_s x = [.s x] := rfl

theorem c_rl {α : Type} (e : Nat) (g : α → List PV) (l : List α) : r_sl e g l = [.sl e (l.map g)] := rfl

theorem s1 (a : PV) : sub [a] 0 1 = some [a] := rfl

theorem sp1 (a b : PV) : spl [a] 0 [b] = some [b] := rfl

theorem sub_0 {α : Type} (cs : List α) : sub cs 0 0 = some [] := by rw [sub_def]; simp

theorem sub_z {α : Type} (a : α) (cs : List α) (n : Nat) : sub (a :: cs) 0 (n + 1) = (sub cs 0 n).map (a :: ·) := subz_aux ..

theorem sub_s {α : Type} (a : α) (cs : List α) (n m : Nat) : sub (a :: cs) (n + 1) m = sub cs n m := subs_aux ..

theorem spl_n {α : Type} (cs : List α) : spl cs 0 [] = some cs := by rw [spl_def]; simp

theorem spl_z {α : Type} (a b : α) (cs vs : List α) : spl (a :: cs) 0 (b :: vs) = (spl cs 0 vs).map (b :: ·) := splz_aux ..

theorem spl_s {α : Type} (a : α) (cs : List α) (n : Nat) (vs : List α) : spl (a :: cs) (n + 1) vs = (spl cs n vs).map (a :: ·) := spls_aux ..

theorem stb_c (n b off : Nat) (l : List AV) (c : AV) (cs : List AV) : stB n b off l (.box (c :: cs)) = if l.length = n then (spl (c :: cs) off l).map fun cs => ⟨undefV, [(b, .box cs)]⟩ else none := rfl

theorem fi_r (off size : Nat) (c : List AV) (a : AV) (cs : List AV) (r : List (Nat × Nat × List AV)) : fillAll ((off, size, c) :: r) (a :: cs) = if c.length = size then (spl (a :: cs) off c).bind fun cs => fillAll r cs else none := fi_r_aux ..

theorem if_rt {α : Type} (a b : α) : (if True then a else b) = a := rfl

theorem if_rf {α : Type} (a b : α) : (if False then a else b) = b := rfl

theorem if_bt {α : Type} (a b : α) : (if true = true then a else b) = a := rfl

theorem if_bf {α : Type} (a b : α) : (if false = true then a else b) = b := rfl

theorem an_t (a : Prop) : (True ∧ a) = a := by simp

theorem an_r (a : Prop) : (a ∧ True) = a := by simp

theorem eq_s {α : Type} (a : α) : (a = a) = True := by simp

theorem fst_ {α β : Type} (a : α) (b : β) : (a, b).1 = a := rfl

theorem snd_ {α β : Type} (a : α) (b : β) : (a, b).2 = b := rfl

theorem w_load (F : Orc) (new : Nat) (env : List (Nat × AV)) (sto : List Blk) (g : Bool) (n : Nat) (x : Opd) : rdO F (.load g n x) new ⟨env, sto⟩ = rb (evv x env) fun a => blksOf ((loadR g n a).reads ⟨env, sto⟩) := rd_load ..

theorem w_ldp (s : St) (g : Bool) (n b o : Nat) : blksOf ((loadR g n (.ptr b o)).reads s) = [b] := ldr_ptr ..

theorem w_ldc (s : St) (g : Bool) (n o : Nat) (cs : List PV) : blksOf ((loadR g n (.cp cs o)).reads s) = [] := ldr_cp ..

theorem w_lde (s : St) (g : Bool) (n b e i o : Nat) : blksOf ((loadR g n (.ep b e i o)).reads s) = [b] := ldr_ep ..

theorem w_nb (F : Orc) (new : Nat) (s : St) (z : List PV) : rdO F (.newbox z) new s = [new] := rd_newbox ..

theorem w_st (F : Orc) (new : Nat) (env : List (Nat × AV)) (sto : List Blk) (n : Nat) (x y : Opd) : rdO F (.store n x y) new ⟨env, sto⟩ = rb (evv x env) fun a => rb (evv y env) fun c => blksOf ((storeR n a c).reads ⟨env, sto⟩) := rd_store ..

theorem w_stp (s : St) (n b o : Nat) (v : AV) : blksOf ((storeR n (.ptr b o) v).reads s) = [b] := str_ptr ..

theorem w_ste (s : St) (n b e i o : Nat) (c : PV) : blksOf ((storeR n (.ep b e i o) (.p c)).reads s) = [b] := str_ep_p ..

theorem w_std (s : St) (n b e i o : Nat) (c : List PV) : blksOf ((storeR n (.ep b e i o) (.data c)).reads s) = [b] := str_ep_d ..

theorem w_c0 (F : Orc) (new : Nat) (env : List (Nat × AV)) (sto : List Blk) (g : FuncId) (args : List Opd) : rdO F (.call g args 0) new ⟨env, sto⟩ = rb ((evs args).run ⟨env, sto⟩) fun a => blksOf ((argsR a).reads ⟨env, sto⟩) ++ rb ((argsR a).run ⟨env, sto⟩) fun a => blksOf ((callR2 F g a 0 new).reads ⟨env, sto⟩) := rd_call0 ..

theorem w_c1 (F : Orc) (new : Nat) (env : List (Nat × AV)) (sto : List Blk) (g : FuncId) (args : List Opd) : rdO F (.call g args 1) new ⟨env, sto⟩ = new :: rb (is1 sto[new]?) fun _ => rb ((evs args).run ⟨env, sto⟩) fun a => blksOf ((argsR a).reads ⟨env, sto⟩) ++ rb ((argsR a).run ⟨env, sto⟩) fun a => blksOf ((callR2 F g a 1 new).reads ⟨env, sto⟩) := rd_call1 ..

theorem w_is1 : is1 (some .dead) = some () := rfl

theorem w_rbs {α β : Type} (a : α) (f : α → List β) : rb (some a) f = f a := rfl

theorem w_a0 (s : St) : blksOf ((argsR []).reads s) = [] := rfl

theorem w_ap (s : St) (c : PV) (r : List AV) : blksOf ((argsR (.p c :: r)).reads s) = blksOf ((argsR r).reads s) := arr_cons s rfl r

theorem w_ad (s : St) (c : List PV) (r : List AV) : blksOf ((argsR (.data c :: r)).reads s) = blksOf ((argsR r).reads s) := arr_cons s rfl r

theorem w_at (s : St) (b o : Nat) (r : List AV) : blksOf ((argsR (.ptr b o :: r)).reads s) = blksOf ((argsR r).reads s) := arr_cons s rfl r

theorem w_ac (s : St) (c : List PV) (o : Nat) (r : List AV) : blksOf ((argsR (.cp c o :: r)).reads s) = blksOf ((argsR r).reads s) := arr_cons s rfl r

theorem w_ae (s : St) (b x i o : Nat) (r : List AV) : blksOf ((argsR (.ep b x i o :: r)).reads s) = blksOf ((argsR r).reads s) := arr_cons s rfl r

theorem w_as (s : St) (b n : Nat) (r : List AV) : blksOf ((argsR (.slr b 0 n :: r)).reads s) = b :: rb ((argR (.slr b 0 n)).run s) fun _ => blksOf ((argsR r).reads s) := arr_slr ..

theorem w_l0 (F : Orc) (new : Nat) (s : St) (e n : Nat) (z : List PV) (ps : List (Nat × Opd)) : rdO F (.lits false e n z ps) new s = blksOf ((fzs (ps.map (·.2))).reads s) := rd_lits0 ..

theorem w_l1 (F : Orc) (new : Nat) (env : List (Nat × AV)) (sto : List Blk) (e n : Nat) (z : List PV) (ps : List (Nat × Opd)) : rdO F (.lits true e n z ps) new ⟨env, sto⟩ = new :: rb (is1 sto[new]?) fun _ => blksOf ((fzs (ps.map (·.2))).reads ⟨env, sto⟩) := rd_lits1 ..

theorem w_f0 (s : St) : blksOf ((fzs []).reads s) = [] := rfl

theorem w_fc (env : List (Nat × AV)) (sto : List Blk) (x : Opd) (r : List Opd) : blksOf ((fzs (x :: r)).reads ⟨env, sto⟩) = rb (evv x env) fun v => blksOf ((fz v).reads ⟨env, sto⟩) ++ rb ((fz v).run ⟨env, sto⟩) fun _ => blksOf ((fzs r).reads ⟨env, sto⟩) := fzs_rd ..

theorem w_zp (s : St) (c : PV) : blksOf ((fz (.p c)).reads s) = [] := rfl

theorem w_zd (s : St) (c : List PV) : blksOf ((fz (.data c)).reads s) = [] := rfl

theorem w_zs (s : St) (b n : Nat) : blksOf ((fz (.slr b 0 n)).reads s) = [b] := fz_slr_reads ..

theorem w_cv (F : Orc) (new : Nat) (env : List (Nat × AV)) (sto : List Blk) (x : Opd) : rdO F (.conv .toStr x) new ⟨env, sto⟩ = rb (evv x env) fun a => blksOf ((rowsOf 1 a).reads ⟨env, sto⟩) := rd_conv0 ..

theorem w_ros (s : St) (e b n : Nat) : blksOf ((rowsOf e (.slr b 0 n)).reads s) = [b] := ro_rd_slr ..

theorem w_rol (s : St) (e z : Nat) (rows : List (List PV)) : blksOf ((rowsOf e (.p (.sl z rows))).reads s) = [] := ro_rd_sl ..

theorem w_ia (F : Orc) (new : Nat) (env : List (Nat × AV)) (sto : List Blk) (e : Nat) (x i : Opd) : rdO F (.iaddr e x i) new ⟨env, sto⟩ = rb (evv x env) fun a => rb (evv i env) fun c => blksOf ((iaddrR e a c).reads ⟨env, sto⟩) := rd_iaddr ..

theorem w_ias (s : St) (e b n : Nat) (k : IntKind) (i : Int) : blksOf ((iaddrR e (.slr b 0 n) (.p (.i k i))).reads s) = [b] := ia_rd_slr ..

theorem w_ial (s : St) (e z : Nat) (rows : List (List PV)) (k : IntKind) (i : Int) : blksOf ((iaddrR e (.p (.sl z rows)) (.p (.i k i))).reads s) = [] := ia_rd_sl ..

theorem w_pkk (a b c d : List Nat) : pkk (some (a, b)) (some (c, d)) = (disj b c && disj b d && disj a d) := rfl

theorem w_dj0 (b : List Nat) : disj [] b = true := rfl

theorem w_djc (x : Nat) (a b : List Nat) : disj (x :: a) b = (!(b.contains x) && disj a b) := by simp [disj]

theorem w_ct0 (x : Nat) : ([] : List Nat).contains x = false := rfl

theorem w_ctc (x y : Nat) (l : List Nat) : (y :: l).contains x = (x == y || l.contains x) := by rw [List.contains_cons]

theorem w_ant (a : Bool) : (true && a) = a := by simp

theorem w_anf (a : Bool) : (false && a) = false := by simp

theorem w_ort (a : Bool) : (true || a) = true := by simp

theorem w_orf (a : Bool) : (false || a) = a := by simp

/-! ### Equations that a run is evaluated by, from outside -/
theorem Da1 : (∀ (T : Tabl) (f : AFn) (m : Nat) (k : List Fr) (s : St), rk T f m k (X T .skip s) = rk T f m k (some (.normal, s))) ∧
  (∀ (T : Tabl) (f : AFn) (m : Nat) (k : List Fr) (a b : ACode) (s : St), rk T f m k (X T (.seq a b) s) = rk T f m (.sq b :: k) (X T a s)) ∧
  (∀ (T : Tabl) (f : AFn) (m : Nat) (k : List Fr) (d : Bool) (ins : List AIns) (env : List (Nat × AV)) (sto : List Blk), rk T f m k (X T (.reg d [] ins) ⟨env, sto⟩) = rk T f m k (endG (runG (AF T) ins sto.length ⟨env, room (news ins) sto⟩ none))) ∧
  (∀ (T : Tabl) (f : AFn) (m : Nat) (k : List Fr) (d : Bool) (q : Nat × Nat) (ps : List (Nat × Nat)) (ins : List AIns) (env : List (Nat × AV)) (sto : List Blk), rk T f m k (X T (.reg d (q :: ps) ins) ⟨env, sto⟩) = rk T f m k (endP (q :: ps) (runG (AF T) ins sto.length ⟨env, room (news ins) sto⟩ (some [])))) ∧
  (∀ (T : Tabl) (f : AFn) (m : Nat) (k : List Fr) (i : Nat) (c : ACode) (s : St), rk T f m k (X T (.block i c) s) = rk T f m (.bl i :: k) (X T c s)) ∧
  (∀ (T : Tabl) (f : AFn) (m : Nat) (k : List Fr) (c : ACode) (s : St), rk T f m k (X T (.scope c) s) = rk T f m k (X T c s)) ∧
  (∀ (T : Tabl) (f : AFn) (m : Nat) (k : List Fr) (i : Nat) (s : St), rk T f m k (X T (.exit i) s) = rk T f m k (some (.exit i, s))) ∧
  (∀ (T : Tabl) (f : AFn) (m : Nat) (k : List Fr) (s : St), rk T f m k (X T .ret s) = rk T f m k (some (.ret, s))) ∧
  (∀ (T : Tabl) (f : AFn) (m : Nat) (k : List Fr) (live : List Nat) (c : ACode) (env : List (Nat × AV)) (sto : List Blk), rk T f m k (X T (.keep live c) ⟨env, sto⟩) = rk T f m k (X T c ⟨restr live env, sto⟩)) ∧
  (∀ (T : Tabl) (f : AFn) (m : Nat) (k : List Fr) (live : List Nat) (c : ACode) (env : List (Nat × AV)) (sto : List Blk), rk T f m k (X T (.tidy live c) ⟨env, sto⟩) = rk T f m (.td sto.length live :: k) (X T c ⟨env, sto⟩)) ∧
  (∀ (T : Tabl) (f : AFn) (m : Nat) (k : List Fr) (live : List Nat) (c : ACode) (env : List (Nat × AV)) (sto : List Blk), rk T f m k (X T (.loop live c) ⟨env, sto⟩) = rk T f m k (X T (.lp sto.length live c) ⟨restr live env, sto⟩)) ∧
  (∀ (T : Tabl) (f : AFn) (m : Nat) (k : List Fr) (x : Opd) (a b : ACode) (env : List (Nat × AV)) (sto : List Blk), rk T f m k (X T (.cond x a b) ⟨env, sto⟩) = rk T f m k (cnd (evv x env) (X T a ⟨env, sto⟩) (X T b ⟨env, sto⟩) fun _ => same (X T a ⟨env, sto⟩) (X T b ⟨env, sto⟩))) ∧
  (∀ (a b : Option Out) (c : Unit → Option Out), cnd (some (.p (.b true))) a b c = a) ∧
  (∀ (a b : Option Out) (c : Unit → Option Out), cnd (some (.p (.b false))) a b c = b) ∧
  (∀ (T : Tabl) (f : AFn) (m : Nat) (k : List Fr) (b : ACode) (s : St), rk T f m (.sq b :: k) (some (.normal, s)) = rk T f m k (X T b s)) ∧
  (∀ (T : Tabl) (f : AFn) (m : Nat) (k : List Fr) (b : ACode) (i : Nat) (s : St), rk T f m (.sq b :: k) (some (.exit i, s)) = rk T f m k (some (.exit i, s))) ∧
  (∀ (T : Tabl) (f : AFn) (m : Nat) (k : List Fr) (b : ACode) (s : St), rk T f m (.sq b :: k) (some (.ret, s)) = rk T f m k (some (.ret, s))) ∧
  (∀ (T : Tabl) (f : AFn) (m : Nat) (k : List Fr) (i : Nat) (s : St), rk T f m (.bl i :: k) (some (.normal, s)) = rk T f m k (some (.normal, s))) ∧
  (∀ (T : Tabl) (f : AFn) (m : Nat) (k : List Fr) (i j : Nat) (s : St), rk T f m (.bl i :: k) (some (.exit j, s)) = if j = i then rk T f m k (some (.normal, s)) else rk T f m k (some (.exit j, s))) ∧
  (∀ (T : Tabl) (f : AFn) (m : Nat) (k : List Fr) (i : Nat) (s : St), rk T f m (.bl i :: k) (some (.ret, s)) = rk T f m k (some (.ret, s))) ∧
  (∀ (T : Tabl) (f : AFn) (m : Nat) (k : List Fr) (n : Nat) (live : List Nat) (e : AX) (s : St), rk T f m (.td n live :: k) (some (e, s)) = rk T f m k (tdn e (clean n live s))) ∧
  (∀ (e : AX) (s : St), tdn e (some s) = some (e, s)) ∧
  (∀ (T : Tabl) (f : AFn) (m : Nat) (k : List Fr) (n : Nat) (live : List Nat) (c : ACode) (s : St), rk T f m (.lo n live c :: k) (some (.normal, s)) = rk T f m k (again T n live c (clean n live s))) ∧
  (∀ (T : Tabl) (n : Nat) (live : List Nat) (c : ACode) (s : St), again T n live c (some s) = X T (.lp n live c) s) ∧
  (∀ (T : Tabl) (f : AFn) (m : Nat) (k : List Fr) (n : Nat) (live : List Nat) (c : ACode) (i : Nat) (s : St), rk T f m (.lo n live c :: k) (some (.exit i, s)) = rk T f m k (some (.exit i, s))) ∧
  (∀ (T : Tabl) (f : AFn) (m : Nat) (k : List Fr) (n : Nat) (live : List Nat) (c : ACode) (s : St), rk T f m (.lo n live c :: k) (some (.ret, s)) = rk T f m k (some (.ret, s))) ∧
  (∀ (T : Tabl) (f : AFn) (m : Nat) (s : St), rk T f m [] (some (.normal, s)) = fin1 f.res f.fresh m s) ∧
  (∀ (T : Tabl) (f : AFn) (m : Nat) (s : St), rk T f m [] (some (.ret, s)) = fin1 f.res f.fresh m s) ∧
  (∀ (s : St) (l : Option Log), endG (some (s, l)) = some (.normal, s)) ∧
  (∀ (s : St) (l : Log) (ps : List (Nat × Nat)), endP ps (some (s, some l)) = if pairsOk l ps = true then some (.normal, s) else none) :=
  ⟨@v_skip, @v_seq, @v_reg, @v_regp, @v_block, @v_scope, @v_exit, @v_ret, @v_keep, @v_tidy, @v_loop, @v_cond, @v_cndt, @v_cndf, @v_sqn, @v_sqe, @v_sqr, @v_bln, @v_ble, @v_blr, @v_td, @v_tdn, @v_lon, @v_again, @v_loe, @v_lor, @v_niln, @v_nilr, @v_endg, @v_endp⟩

theorem Da2 : (∀ (l : Log), pairsOk l [] = true) ∧
  (∀ (l : Log) (i j : Nat) (ps : List (Nat × Nat)), pairsOk l ((i, j) :: ps) = (pkk l[i]? l[j]? && pairsOk l ps)) ∧
  (∀ (a b : List Nat), lgA none a b = none) ∧
  (∀ (l : Log) (a b : List Nat), lgA (some l) a b = some (l ++ [(a, b)])) ∧
  (∀ {α : Type} (a : α) (l : List α), (a :: l)[0]? = some a) ∧
  (∀ {α : Type} (a : α) (l : List α) (n : Nat), (a :: l)[n + 1]? = l[n]?) ∧
  (∀ (F : Orc) (new : Nat) (s : St) (lg : Option Log), runG F [] new s lg = some (s, lg)) ∧
  (∀ (F : Orc) (r : List AIns) (new : Nat) (env : List (Nat × AV)) (sto : List Blk) (lg : Option Log) (d : Nat) (x : Opd), runG F (⟨.mv x, some d, none⟩ :: r) new ⟨env, sto⟩ lg = (evv x env).bind fun v => runG F r new ⟨(d, v) :: env, sto⟩ (lgA lg (rdO F (.mv x) new ⟨env, sto⟩) [])) ∧
  (∀ (F : Orc) (r : List AIns) (new : Nat) (env : List (Nat × AV)) (sto : List Blk) (lg : Option Log) (d : Nat) (c a b : Opd), runG F (⟨.pick c a b, some d, none⟩ :: r) new ⟨env, sto⟩ lg = (evv c env).bind fun u => (pk u (evv a env) (evv b env)).bind fun v => runG F r new ⟨(d, v) :: env, sto⟩ (lgA lg (rdO F (.pick c a b) new ⟨env, sto⟩) [])) ∧
  (∀ (F : Orc) (r : List AIns) (new : Nat) (env : List (Nat × AV)) (sto : List Blk) (lg : Option Log) (d : Nat) (op : BinOp) (t : BT) (x y : Opd), runG F (⟨.bin op t x y, some d, none⟩ :: r) new ⟨env, sto⟩ lg = (evv x env).bind fun a => (evv y env).bind fun c => (binP op t a c).bind fun v => runG F r new ⟨(d, v) :: env, sto⟩ (lgA lg (rdO F (.bin op t x y) new ⟨env, sto⟩) [])) ∧
  (∀ (F : Orc) (r : List AIns) (new : Nat) (env : List (Nat × AV)) (sto : List Blk) (lg : Option Log) (d : Nat) (op : UnOp) (x : Opd), runG F (⟨.un op x, some d, none⟩ :: r) new ⟨env, sto⟩ lg = (evv x env).bind fun a => (unP op a).bind fun v => runG F r new ⟨(d, v) :: env, sto⟩ (lgA lg (rdO F (.un op x) new ⟨env, sto⟩) [])) ∧
  (∀ (F : Orc) (r : List AIns) (new : Nat) (env : List (Nat × AV)) (sto : List Blk) (lg : Option Log) (d : Nat) (g : Bool) (off n : Nat) (x : Opd), runG F (⟨.field g off n x, some d, none⟩ :: r) new ⟨env, sto⟩ lg = (evv x env).bind fun a => (fieldP g off n a).bind fun v => runG F r new ⟨(d, v) :: env, sto⟩ (lgA lg (rdO F (.field g off n x) new ⟨env, sto⟩) [])) ∧
  (∀ (F : Orc) (r : List AIns) (new : Nat) (env : List (Nat × AV)) (sto : List Blk) (lg : Option Log) (d : Nat) (off : Nat) (x : Opd), runG F (⟨.faddr off x, some d, none⟩ :: r) new ⟨env, sto⟩ lg = (evv x env).bind fun a => (faddrP off a).bind fun v => runG F r new ⟨(d, v) :: env, sto⟩ (lgA lg (rdO F (.faddr off x) new ⟨env, sto⟩) [])) ∧
  (∀ (F : Orc) (r : List AIns) (new : Nat) (env : List (Nat × AV)) (sto : List Blk) (lg : Option Log) (d : Nat) (x : Opd) (i : Nat), runG F (⟨.extr x i, some d, none⟩ :: r) new ⟨env, sto⟩ lg = (evv x env).bind fun a => (extrP i a).bind fun v => runG F r new ⟨(d, v) :: env, sto⟩ (lgA lg (rdO F (.extr x i) new ⟨env, sto⟩) [])) ∧
  (∀ (F : Orc) (r : List AIns) (new : Nat) (env : List (Nat × AV)) (sto : List Blk) (lg : Option Log) (d : Nat) (b : Bool) (x : Opd), runG F (⟨.len b x, some d, none⟩ :: r) new ⟨env, sto⟩ lg = (evv x env).bind fun a => (lenP b a).bind fun v => runG F r new ⟨(d, v) :: env, sto⟩ (lgA lg (rdO F (.len b x) new ⟨env, sto⟩) [])) ∧
  (∀ (F : Orc) (r : List AIns) (new : Nat) (env : List (Nat × AV)) (sto : List Blk) (lg : Option Log) (d : Nat) (n : Nat), runG F (⟨.alen n, some d, none⟩ :: r) new ⟨env, sto⟩ lg = runG F r new ⟨(d, .p (.i .i64 n)) :: env, sto⟩ (lgA lg (rdO F (.alen n) new ⟨env, sto⟩) [])) ∧
  (∀ (F : Orc) (r : List AIns) (new : Nat) (env : List (Nat × AV)) (sto : List Blk) (lg : Option Log) (d : Nat) (b : Bool) (x y : Opd), runG F (⟨.mm b x y, some d, none⟩ :: r) new ⟨env, sto⟩ lg = (evv x env).bind fun a => (evv y env).bind fun c => (mmP b a c).bind fun v => runG F r new ⟨(d, v) :: env, sto⟩ (lgA lg (rdO F (.mm b x y) new ⟨env, sto⟩) [])) ∧
  (∀ (F : Orc) (r : List AIns) (new : Nat) (env : List (Nat × AV)) (sto : List Blk) (lg : Option Log) (d : Nat) (n e : Nat) (x i : Opd), runG F (⟨.aaddr n e x i, some d, none⟩ :: r) new ⟨env, sto⟩ lg = (evv x env).bind fun a => (evv i env).bind fun c => (aaddrP n e a c).bind fun v => runG F r new ⟨(d, v) :: env, sto⟩ (lgA lg (rdO F (.aaddr n e x i) new ⟨env, sto⟩) [])) ∧
  (∀ (F : Orc) (r : List AIns) (new : Nat) (env : List (Nat × AV)) (sto : List Blk) (lg : Option Log) (d : Nat) (e : Nat) (x i : Opd), runG F (⟨.iaddr e x i, some d, none⟩ :: r) new ⟨env, sto⟩ lg = (evv x env).bind fun a => (evv i env).bind fun c => ((iaddrR e a c).run ⟨env, sto⟩).bind fun q => runG F r new ⟨(d, q.val) :: env, upd q.ws sto⟩ (lgA lg (rdO F (.iaddr e x i) new ⟨env, sto⟩) (q.ws.map (·.1)))) ∧
  (∀ (F : Orc) (r : List AIns) (new : Nat) (env : List (Nat × AV)) (sto : List Blk) (lg : Option Log) (d : Nat) (x i : Opd), runG F (⟨.sidx x i, some d, none⟩ :: r) new ⟨env, sto⟩ lg = (evv x env).bind fun a => (evv i env).bind fun c => (sidP a c).bind fun v => runG F r new ⟨(d, v) :: env, sto⟩ (lgA lg (rdO F (.sidx x i) new ⟨env, sto⟩) [])) ∧
  (∀ (F : Orc) (r : List AIns) (new : Nat) (env : List (Nat × AV)) (sto : List Blk) (lg : Option Log) (d : Nat) (g : Bool) (n e : Nat) (x i : Opd), runG F (⟨.aidx g n e x i, some d, none⟩ :: r) new ⟨env, sto⟩ lg = (evv x env).bind fun a => (evv i env).bind fun c => (aidP g n e a c).bind fun v => runG F r new ⟨(d, v) :: env, sto⟩ (lgA lg (rdO F (.aidx g n e x i) new ⟨env, sto⟩) [])) ∧
  (∀ (F : Orc) (r : List AIns) (new : Nat) (env : List (Nat × AV)) (sto : List Blk) (lg : Option Log) (d : Nat) (x : Opd), runG F (⟨.nilchk x, some d, none⟩ :: r) new ⟨env, sto⟩ lg = (evv x env).bind fun a => (nckP a).bind fun v => runG F r new ⟨(d, v) :: env, sto⟩ (lgA lg (rdO F (.nilchk x) new ⟨env, sto⟩) [])) ∧
  (∀ (F : Orc) (r : List AIns) (new : Nat) (env : List (Nat × AV)) (sto : List Blk) (lg : Option Log) (d : Nat) (g : Bool) (n : Nat) (x : Opd), runG F (⟨.load g n x, some d, none⟩ :: r) new ⟨env, sto⟩ lg = (evv x env).bind fun a => ((loadR g n a).run ⟨env, sto⟩).bind fun q => runG F r new ⟨(d, q.val) :: env, upd q.ws sto⟩ (lgA lg (rdO F (.load g n x) new ⟨env, sto⟩) (q.ws.map (·.1)))) ∧
  (∀ (F : Orc) (r : List AIns) (new : Nat) (env : List (Nat × AV)) (sto : List Blk) (lg : Option Log) (n : Nat) (x y : Opd), runG F (⟨.store n x y, none, none⟩ :: r) new ⟨env, sto⟩ lg = (evv x env).bind fun a => (evv y env).bind fun c => ((storeR n a c).run ⟨env, sto⟩).bind fun q => runG F r new ⟨env, upd q.ws sto⟩ (lgA lg (rdO F (.store n x y) new ⟨env, sto⟩) (q.ws.map (·.1)))) ∧
  (∀ (F : Orc) (r : List AIns) (new : Nat) (env : List (Nat × AV)) (sto : List Blk) (lg : Option Log) (d : Nat) (c : CK) (x : Opd), runG F (⟨.conv c x, some d, none⟩ :: r) new ⟨env, sto⟩ lg = (evv x env).bind fun a => dds (newOf (.conv c x)) new sto (((cvR c a new).run ⟨env, sto⟩).bind fun e => runG F r (new + newOf (.conv c x)) ⟨(d, e.val) :: env, upd e.ws sto⟩ (lgA lg (rdO F (.conv c x) new ⟨env, sto⟩) (e.ws.map (·.1))))) ∧
  (∀ (F : Orc) (r : List AIns) (new : Nat) (env : List (Nat × AV)) (sto : List Blk) (lg : Option Log) (d : Nat) (z : List PV) (ps : List (Nat × Nat × Opd)), runG F (⟨.build z ps, some d, none⟩ :: r) new ⟨env, sto⟩ lg = ((partsR ps).run ⟨env, sto⟩).bind fun l => (fillAll l (z.map .p)).bind fun cs => (ofCells true cs).bind fun v => runG F r new ⟨(d, v) :: env, sto⟩ (lgA lg (rdO F (.build z ps) new ⟨env, sto⟩) [])) ∧
  (∀ (F : Orc) (r : List AIns) (new : Nat) (env : List (Nat × AV)) (sto : List Blk) (lg : Option Log) (d : Nat) (s : SK) (x : Opd) (lo hi mx : Option Opd), runG F (⟨.slice s x lo hi mx, some d, none⟩ :: r) new ⟨env, sto⟩ lg = (evv x env).bind fun a => (evo1 lo env).bind fun lo1 => (evo1 hi env).bind fun hi1 => (evo1 mx env).bind fun mx1 => ((slR s a lo1 hi1 mx1).run ⟨env, sto⟩).bind fun q => runG F r new ⟨(d, q.val) :: env, upd q.ws sto⟩ (lgA lg (rdO F (.slice s x lo hi mx) new ⟨env, sto⟩) (q.ws.map (·.1)))) ∧
  (∀ (F : Orc) (r : List AIns) (new : Nat) (env : List (Nat × AV)) (sto : List Blk) (lg : Option Log) (d : Nat) (e b : Nat) (z : List PV) (x y : Opd), runG F (⟨.app e b z x y, some d, none⟩ :: r) new ⟨env, sto⟩ lg = (evv x env).bind fun a => (evv y env).bind fun c => ((appR e b a c).run ⟨env, sto⟩).bind fun q => runG F r new ⟨(d, q.val) :: env, upd q.ws sto⟩ (lgA lg (rdO F (.app e b z x y) new ⟨env, sto⟩) (q.ws.map (·.1)))) ∧
  (∀ (F : Orc) (r : List AIns) (new : Nat) (env : List (Nat × AV)) (sto : List Blk) (lg : Option Log) (d : Nat) (g : FuncId) (a c : List Opd), runG F (⟨.mkfn g a c, some d, none⟩ :: r) new ⟨env, sto⟩ lg = ((evs a).run ⟨env, sto⟩).bind fun a1 => ((evs c).run ⟨env, sto⟩).bind fun c1 => runG F r new ⟨(d, .fn g a1 c1) :: env, sto⟩ (lgA lg (rdO F (.mkfn g a c) new ⟨env, sto⟩) [])) ∧
  (∀ (F : Orc) (r : List AIns) (new : Nat) (env : List (Nat × AV)) (sto : List Blk) (lg : Option Log) (d : Nat) (g : Opd) (args : List Opd) (n : Nat), runG F (⟨.callv g args n, some d, none⟩ :: r) new ⟨env, sto⟩ lg = (evv g env).bind fun u => cvg u fun h a1 c1 => dds n new sto (((evs args).run ⟨env, sto⟩).bind fun a => ((argsR (a1 ++ a ++ c1)).run ⟨env, sto⟩).bind fun a => ((callR2 F h a n new).run ⟨env, sto⟩).bind fun q => runG F r (new + n) ⟨(d, q.val) :: env, upd q.ws sto⟩ (lgA lg (rdO F (.callv g args n) new ⟨env, sto⟩) (q.ws.map (·.1))))) :=
  ⟨@v_pk0, @v_pkc, @v_lgn, @v_lgs, @v_q0, @v_qs, @i_nil, @i_mv, @i_pick, @i_bin, @i_un, @i_field, @i_faddr, @i_extr, @i_len, @i_alen, @i_mm, @i_aaddr, @i_iaddr, @i_sidx, @i_aidx, @i_nilchk, @i_load, @i_store, @i_conv, @i_build, @i_slice, @i_app, @i_mkfn, @i_callv⟩

theorem Da3 : (∀ (F : Orc) (r : List AIns) (new : Nat) (env : List (Nat × AV)) (sto : List Blk) (lg : Option Log) (g : Opd) (args : List Opd) (n : Nat), runG F (⟨.callv g args n, none, none⟩ :: r) new ⟨env, sto⟩ lg = (evv g env).bind fun u => cvg u fun h a1 c1 => dds n new sto (((evs args).run ⟨env, sto⟩).bind fun a => ((argsR (a1 ++ a ++ c1)).run ⟨env, sto⟩).bind fun a => ((callR2 F h a n new).run ⟨env, sto⟩).bind fun q => runG F r (new + n) ⟨env, upd q.ws sto⟩ (lgA lg (rdO F (.callv g args n) new ⟨env, sto⟩) (q.ws.map (·.1))))) ∧
  (∀ {α : Type} (f : FuncId) (a c : List AV) (k : FuncId → List AV → List AV → Option α), cvg (.fn f a c) k = k f a c) ∧
  (∀ (F : Orc) (r : List AIns) (new : Nat) (env : List (Nat × AV)) (sto : List Blk) (lg : Option Log) (d : Nat) (e b : Nat) (z : List PV) (y : Opd), runG F (⟨.appn e b z y, some d, none⟩ :: r) new ⟨env, sto⟩ lg = (evv y env).bind fun c => ((rowsOf e c).run ⟨env, sto⟩).bind fun rows => if roomy rows.length b = true then dds 1 new sto (runG F r (new + 1) ⟨(d, .slr new 0 rows.length) :: env, sto.set new (.arr true e rows)⟩ (lgA lg (rdO F (.appn e b z y) new ⟨env, sto⟩) [new])) else none) ∧
  (∀ (F : Orc) (r : List AIns) (new : Nat) (env : List (Nat × AV)) (sto : List Blk) (lg : Option Log) (d : Nat) (z : List PV), runG F (⟨.newbox z, some d, none⟩ :: r) new ⟨env, sto⟩ lg = dds 1 new sto (runG F r (new + 1) ⟨(d, .ptr new 0) :: env, sto.set new (.box (z.map .p))⟩ (lgA lg (rdO F (.newbox z) new ⟨env, sto⟩) [new]))) ∧
  (∀ (F : Orc) (r : List AIns) (new : Nat) (env : List (Nat × AV)) (sto : List Blk) (lg : Option Log) (d : Nat) (e : Nat) (x : Opd), runG F (⟨.mkarr e x, some d, none⟩ :: r) new ⟨env, sto⟩ lg = dds 1 new sto (runG F r (new + 1) ⟨(d, .slr new 0 0) :: env, sto.set new (.arr true e [])⟩ (lgA lg (rdO F (.mkarr e x) new ⟨env, sto⟩) [new]))) ∧
  (∀ (F : Orc) (r : List AIns) (new : Nat) (env : List (Nat × AV)) (sto : List Blk) (lg : Option Log) (d : Nat) (n : Nat) (x : Opd), runG F (⟨.box n x, some d, none⟩ :: r) new ⟨env, sto⟩ lg = (evv x env).bind fun a => (bxP n a).bind fun cs => dds 1 new sto (runG F r (new + 1) ⟨(d, .ptr new 0) :: env, sto.set new (.box cs)⟩ (lgA lg (rdO F (.box n x) new ⟨env, sto⟩) [new]))) ∧
  (∀ (F : Orc) (r : List AIns) (new : Nat) (env : List (Nat × AV)) (sto : List Blk) (lg : Option Log) (d : Nat) (o : Bool) (e n : Nat) (z : List PV) (ps : List (Nat × Opd)), runG F (⟨.lits o e n z ps, some d, none⟩ :: r) new ⟨env, sto⟩ lg = dds (if o then 1 else 0) new sto (((ltR o e n z ps new).run ⟨env, sto⟩).bind fun x => runG F r (new + if o then 1 else 0) ⟨(d, x.val) :: env, upd x.ws sto⟩ (lgA lg (rdO F (.lits o e n z ps) new ⟨env, sto⟩) (x.ws.map (·.1))))) ∧
  (∀ (F : Orc) (r : List AIns) (new : Nat) (env : List (Nat × AV)) (sto : List Blk) (lg : Option Log) (d : Nat) (o : Bool) (e b : Nat) (z : List PV) (l c : Opd), runG F (⟨.mkslice o e b z l c, some d, none⟩ :: r) new ⟨env, sto⟩ lg = (evv l env).bind fun a => (evv c env).bind fun x => dds (if o then 1 else 0) new sto ((mkP o e b z a x new).bind fun x => runG F r (new + if o then 1 else 0) ⟨(d, x.val) :: env, upd x.ws sto⟩ (lgA lg (rdO F (.mkslice o e b z l c) new ⟨env, sto⟩) (x.ws.map (·.1))))) ∧
  (∀ (F : Orc) (r : List AIns) (new : Nat) (env : List (Nat × AV)) (sto : List Blk) (lg : Option Log) (d : Nat) (g : FuncId) (args : List Opd) (n : Nat), runG F (⟨.call g args n, some d, none⟩ :: r) new ⟨env, sto⟩ lg = dds n new sto (((evs args).run ⟨env, sto⟩).bind fun a => ((argsR a).run ⟨env, sto⟩).bind fun a => ((callR2 F g a n new).run ⟨env, sto⟩).bind fun e => runG F r (new + n) ⟨(d, e.val) :: env, upd e.ws sto⟩ (lgA lg (rdO F (.call g args n) new ⟨env, sto⟩) (e.ws.map (·.1))))) ∧
  (∀ (F : Orc) (r : List AIns) (new : Nat) (env : List (Nat × AV)) (sto : List Blk) (lg : Option Log) (g : FuncId) (args : List Opd) (n : Nat), runG F (⟨.call g args n, none, none⟩ :: r) new ⟨env, sto⟩ lg = dds n new sto (((evs args).run ⟨env, sto⟩).bind fun a => ((argsR a).run ⟨env, sto⟩).bind fun a => ((callR2 F g a n new).run ⟨env, sto⟩).bind fun e => runG F r (new + n) ⟨env, upd e.ws sto⟩ (lgA lg (rdO F (.call g args n) new ⟨env, sto⟩) (e.ws.map (·.1))))) ∧
  (∀ (F : Orc) (r : List AIns) (new : Nat) (env : List (Nat × AV)) (sto : List Blk) (lg : Option Log) (op : AOp) (d : Option Nat) (g : Nat) (w : Bool), runG F (⟨op, d, some (g, w)⟩ :: r) new ⟨env, sto⟩ lg = grd (lk g env) w (runG F (⟨op, d, none⟩ :: r) new ⟨env, sto⟩ lg) (runG F r (new + newOf op) (put d ⟨undefV, []⟩ ⟨env, sto⟩) (lgA lg [] []))) ∧
  (∀ {α : Type} (a b : Option α), grd (some (.p (.b true))) true a b = a) ∧
  (∀ {α : Type} (a b : Option α), grd (some (.p (.b true))) false a b = b) ∧
  (∀ {α : Type} (a b : Option α), grd (some (.p (.b false))) true a b = b) ∧
  (∀ {α : Type} (a b : Option α), grd (some (.p (.b false))) false a b = a) ∧
  (∀ {α : Type} (w : Bool) (a b : Option α), grd (some (.tup [])) w a b = b) ∧
  (∀ {α β : Type} (a : α) (f : α → Option β), Option.bind (some a) f = f a) ∧
  (∀ {α : Type} (new : Nat) (sto : List Blk) (o : Option α), dds 0 new sto o = o) ∧
  (∀ {α : Type} (new : Nat) (sto : List Blk) (o : Option α), dds 1 new sto o = dd1 sto[new]? o) ∧
  (∀ {α : Type} (o : Option α), dd1 (some .dead) o = o) :=
  ⟨@i_callvn, @i_cvg, @i_appn, @i_newbox, @i_mkarr, @i_box, @i_lits, @i_mkslice, @i_call, @i_calln, @i_g, @g_tt, @g_tf, @g_ft, @g_ff, @g_u, @b_bind, @dz0, @dz1, @dz1d⟩

/-! ### Equations that a run is evaluated by -/
theorem Ua1 : (∀ (n m : Nat) (v : AV) (r : List (Nat × AV)), lk n ((m, v) :: r) = if n = m then some v else lk n r) ∧
  (∀ (n : Nat) (env : List (Nat × AV)), evv (.t n) env = lk n env) ∧
  (∀ (v : AV) (env : List (Nat × AV)), evv (.c v) env = some v) ∧
  (∀ (a b : Option AV), pk (.p (.b true)) a b = a) ∧
  (∀ (a b : Option AV), pk (.p (.b false)) a b = b) ∧
  (∀ (env : List (Nat × AV)), restr [] env = []) ∧
  (∀ (k : Nat) (l : List Nat) (env : List (Nat × AV)), restr (k :: l) env = rcons k (lk k env) (restr l env)) ∧
  (∀ (k : Nat) (v : AV) (l : List (Nat × AV)), rcons k (some v) l = (k, v) :: l) ∧
  (∀ (k : Nat) (l : List (Nat × AV)), rcons k none l = l) ∧
  (∀ (n : Nat), lk n [] = none) ∧
  (news [] = 0) ∧
  (∀ (i : AIns) (r : List AIns), news (i :: r) = newOf i.op + news r) ∧
  (∀ (x : Opd), newOf (.mv x) = 0) ∧
  (∀ (e : Nat) (x : Opd), newOf (.mkarr e x) = 1) ∧
  (∀ (a b c : Opd), newOf (.pick a b c) = 0) ∧
  (∀ (z : List PV), newOf (.newbox z) = 1) ∧
  (∀ (n : Nat) (x : Opd), newOf (.box n x) = 1) ∧
  (∀ (z : List PV) (ps : List (Nat × Nat × Opd)), newOf (.build z ps) = 0) ∧
  (∀ (o : Bool) (e n : Nat) (z : List PV) (ps : List (Nat × Opd)), newOf (.lits o e n z ps) = if o then 1 else 0) ∧
  (∀ (g : Bool) (n : Nat) (x : Opd), newOf (.load g n x) = 0) ∧
  (∀ (n : Nat) (x y : Opd), newOf (.store n x y) = 0) ∧
  (∀ (x : Opd), newOf (.nilchk x) = 0) ∧
  (∀ (op : BinOp) (t : BT) (x y : Opd), newOf (.bin op t x y) = 0) ∧
  (∀ (op : UnOp) (x : Opd), newOf (.un op x) = 0) ∧
  (∀ (c : IntKind) (x : Opd), newOf (.conv (.int c) x) = 0) ∧
  (∀ (x : Opd), newOf (.conv .same x) = 0) ∧
  (∀ (x : Opd), newOf (.conv .toStr x) = 0) ∧
  (∀ (o : Bool) (x : Opd), newOf (.conv (.toBytes o) x) = if o then 1 else 0) ∧
  (∀ (o : Bool) (e b : Nat) (z : List PV) (l c : Opd), newOf (.mkslice o e b z l c) = if o then 1 else 0) ∧
  (∀ (s : SK) (x : Opd) (lo hi mx : Option Opd), newOf (.slice s x lo hi mx) = 0) :=
  ⟨@u_lkc, @u_evt, @u_evc, @u_pkt, @u_pkf, @u_rs0, @u_rsc, @u_rcs, @u_rcn, @u_lkn, @u_nw0, @u_nwc, @n_mv, @n_mkarr, @n_pick, @n_newbox, @n_box, @n_build, @n_lits, @n_load, @n_store, @n_nilchk, @n_bin, @n_un, @n_cvi, @n_cvs, @n_cvt, @n_cvb, @n_mksl, @n_slice⟩

theorem Ua2 : (∀ (off : Nat) (x : Opd), newOf (.faddr off x) = 0) ∧
  (∀ (g : Bool) (off n : Nat) (x : Opd), newOf (.field g off n x) = 0) ∧
  (∀ (e : Nat) (x i : Opd), newOf (.iaddr e x i) = 0) ∧
  (∀ (n e : Nat) (x i : Opd), newOf (.aaddr n e x i) = 0) ∧
  (∀ (x i : Opd), newOf (.sidx x i) = 0) ∧
  (∀ (g : Bool) (n e : Nat) (x i : Opd), newOf (.aidx g n e x i) = 0) ∧
  (∀ (x : Opd) (i : Nat), newOf (.extr x i) = 0) ∧
  (∀ (g : FuncId) (args : List Opd) (n : Nat), newOf (.call g args n) = n) ∧
  (∀ (g : Opd) (args : List Opd) (n : Nat), newOf (.callv g args n) = n) ∧
  (∀ (b : Bool) (x : Opd), newOf (.len b x) = 0) ∧
  (∀ (n : Nat), newOf (.alen n) = 0) ∧
  (∀ (e b : Nat) (z : List PV) (x y : Opd), newOf (.app e b z x y) = 0) ∧
  (∀ (e b : Nat) (z : List PV) (y : Opd), newOf (.appn e b z y) = 1) ∧
  (∀ (b : Bool) (x y : Opd), newOf (.mm b x y) = 0) ∧
  (∀ (g : FuncId) (a c : List Opd), newOf (.mkfn g a c) = 0) ∧
  (∀ (sto : List Blk), room 0 sto = sto) ∧
  (∀ (n : Nat) (sto : List Blk), room (n + 1) sto = sto ++ .dead :: List.replicate n .dead) ∧
  (∀ (sto : List Blk), upd [] sto = sto) ∧
  (∀ (b : Nat) (x : Blk) (ws : List (Nat × Blk)) (sto : List Blk), upd ((b, x) :: ws) sto = upd ws (sto.set b x)) ∧
  (∀ (d : Nat) (v : AV) (ws : List (Nat × Blk)) (env : List (Nat × AV)) (sto : List Blk), put (some d) ⟨v, ws⟩ ⟨env, sto⟩ = ⟨(d, v) :: env, upd ws sto⟩) ∧
  (∀ (v : AV) (ws : List (Nat × Blk)) (env : List (Nat × AV)) (sto : List Blk), put none ⟨v, ws⟩ ⟨env, sto⟩ = ⟨env, upd ws sto⟩) ∧
  (undefV = .tup []) ∧
  (∀ {α β : Type} (a : α) (f : α → β), Option.map f (some a) = some (f a)) ∧
  (∀ (k : IntKind) (x y : Int), binP .add .plain (.p (.i k x)) (.p (.i k y)) = some (.p (.i k (k.wrap (x + y))))) ∧
  (∀ (k : IntKind) (x y : Int), binP .sub .plain (.p (.i k x)) (.p (.i k y)) = some (.p (.i k (k.wrap (x - y))))) ∧
  (∀ (k : IntKind) (x y : Int), binP .mul .plain (.p (.i k x)) (.p (.i k y)) = some (.p (.i k (k.wrap (x * y))))) ∧
  (∀ (k : IntKind) (x y : Int), binP .and .plain (.p (.i k x)) (.p (.i k y)) = some (.p (.i k (andI k x y)))) ∧
  (∀ (k : IntKind) (x y : Int), binP .or .plain (.p (.i k x)) (.p (.i k y)) = some (.p (.i k (orI k x y)))) ∧
  (∀ (k : IntKind) (x y : Int), binP .xor .plain (.p (.i k x)) (.p (.i k y)) = some (.p (.i k (xorI k x y)))) ∧
  (∀ (k : IntKind) (x y : Int), binP .eql .plain (.p (.i k x)) (.p (.i k y)) = some (.p (.b (x == y)))) :=
  ⟨@n_faddr, @n_field, @n_iaddr, @n_aaddr, @n_sidx, @n_aidx, @n_extr, @n_call, @n_callv, @n_len, @n_alen, @n_app, @n_appn, @n_mm, @n_mkfn, @u_room0, @u_rooms, @u_upd0, @u_updc, @u_put, @u_putn, @u_undef, @u_some, @b_add, @b_sub, @b_mul, @b_and, @b_or, @b_xor, @b_eql⟩

theorem Ua3 : (∀ (k : IntKind) (x y : Int), binP .neq .plain (.p (.i k x)) (.p (.i k y)) = some (.p (.b (x != y)))) ∧
  (∀ (k : IntKind) (x y : Int), binP .lss .plain (.p (.i k x)) (.p (.i k y)) = some (.p (.b (decide (x < y))))) ∧
  (∀ (k : IntKind) (x y : Int), binP .leq .plain (.p (.i k x)) (.p (.i k y)) = some (.p (.b (decide (x ≤ y))))) ∧
  (∀ (k : IntKind) (x y : Int), binP .gtr .plain (.p (.i k x)) (.p (.i k y)) = some (.p (.b (decide (x > y))))) ∧
  (∀ (k : IntKind) (x y : Int), binP .geq .plain (.p (.i k x)) (.p (.i k y)) = some (.p (.b (decide (x ≥ y))))) ∧
  (∀ (k : IntKind) (x y : Int), binP .quo .plain (.p (.i k x)) (.p (.i k y)) = (quoS k x y).map fun z => .p (.i k z)) ∧
  (∀ (k : IntKind) (x y : Int), binP .rem .plain (.p (.i k x)) (.p (.i k y)) = (remS x y).map fun z => .p (.i k z)) ∧
  (∀ (k k2 : IntKind) (x y : Int), binP .shl .plain (.p (.i k x)) (.p (.i k2 y)) = (shlS k x y).map fun z => .p (.i k z)) ∧
  (∀ (k k2 : IntKind) (x y : Int), binP .shr .plain (.p (.i k x)) (.p (.i k2 y)) = (shrS k x y).map fun z => .p (.i k z)) ∧
  (∀ (x y : List UInt8), binP .add .plain (.p (.s x)) (.p (.s y)) = (catS x y).map fun z => .p (.s z)) ∧
  (∀ (x y : List UInt8), binP .eql .plain (.p (.s x)) (.p (.s y)) = some (.p (.b (x == y)))) ∧
  (∀ (x y : List UInt8), binP .neq .plain (.p (.s x)) (.p (.s y)) = some (.p (.b (!(x == y))))) ∧
  (∀ (x y : List UInt8), binP .lss .plain (.p (.s x)) (.p (.s y)) = some (.p (.b (Op.bytesLess x y)))) ∧
  (∀ (x y : List UInt8), binP .leq .plain (.p (.s x)) (.p (.s y)) = some (.p (.b (Op.bytesLess x y || x == y)))) ∧
  (∀ (x y : List UInt8), binP .gtr .plain (.p (.s x)) (.p (.s y)) = some (.p (.b (!(Op.bytesLess x y || x == y))))) ∧
  (∀ (x y : List UInt8), binP .geq .plain (.p (.s x)) (.p (.s y)) = some (.p (.b (!Op.bytesLess x y)))) ∧
  (∀ (x y : Bool), binP .eql .bool (.p (.b x)) (.p (.b y)) = some (.p (.b (x == y)))) ∧
  (∀ (x y : Bool), binP .neq .bool (.p (.b x)) (.p (.b y)) = some (.p (.b (!(x == y))))) ∧
  (∀ (ks : List KD) (a c : List PV), binP .eql (.flat ks) (.data a) (.data c) = (cmpL ks a c).map fun x => .p (.b x)) ∧
  (∀ (ks : List KD) (a c : List PV), binP .neq (.flat ks) (.data a) (.data c) = (cmpL ks a c).map fun x => .p (.b (!x))) ∧
  (∀ (b o : Nat) (y : AV), binP .eql .nilp (.ptr b o) y = some (.p (.b false))) ∧
  (∀ (b o : Nat) (y : AV), binP .neq .nilp (.ptr b o) y = some (.p (.b true))) ∧
  (∀ (k : IntKind) (n : Int), unP .neg (.p (.i k n)) = some (.p (.i k (k.wrap (0 - n))))) ∧
  (∀ (k : IntKind) (n : Int), unP .xor (.p (.i k n)) = some (.p (.i k (notI k n)))) ∧
  (∀ (x : Bool), unP .not (.p (.b x)) = some (.p (.b (!x)))) ∧
  ((!true) = false) ∧
  ((!false) = true) ∧
  (∀ (k : IntKind) (x y : Int), mmP true (.p (.i k x)) (.p (.i k y)) = some (.p (.i k (maxI x y)))) ∧
  (∀ (k : IntKind) (x y : Int), mmP false (.p (.i k x)) (.p (.i k y)) = some (.p (.i k (minI x y)))) ∧
  (∀ (off b o : Nat), faddrP off (.ptr b o) = some (.ptr b (o + off))) :=
  ⟨@b_neq, @b_lss, @b_leq, @b_gtr, @b_geq, @b_quo, @b_rem, @b_shl, @b_shr, @b_cat, @bs_eql, @bs_neq, @bs_lss, @bs_leq, @bs_gtr, @bs_geq, @bb_eql, @bb_neq, @bf_eql, @bf_neq, @bp_ptr, @bp_ptn, @u_neg, @u_cpl, @u_not, @u_nt, @u_nf, @m_max, @m_min, @f_ptr⟩

theorem Ua4 : (∀ (off o : Nat) (cs : List PV), faddrP off (.cp cs o) = some (.cp cs (o + off))) ∧
  (∀ (off b e i o : Nat), faddrP off (.ep b e i o) = some (.ep b e i (o + off))) ∧
  (∀ (g : Bool) (off n : Nat) (cs : List PV), fieldP g off n (.data cs) = (sub cs off n).bind (ofPCells g)) ∧
  (∀ (g : Bool) (off n : Nat) (c : AV) (cs : List AV), fieldP g off n (.agg (c :: cs)) = (sub (c :: cs) off n).bind (ofCells g)) ∧
  (∀ (cs : List PV), ofPCells true cs = some (.data cs)) ∧
  (∀ (c : PV), ofPCells false [c] = some (.p c)) ∧
  (∀ (cs : List PV), ofCells true (cs.map AV.p) = some (.data cs)) ∧
  (∀ (c : AV) (cs : List AV), ofCells true (c :: cs) = some (aggV (c :: cs) (unp (c :: cs)))) ∧
  (∀ (c : AV), ofCells false [c] = some c) ∧
  (∀ (cs : List AV) (l : List PV), aggV cs (some l) = .data l) ∧
  (∀ (c : PV), Option.map (fun l => c :: l) (none : Option (List PV)) = none) ∧
  (∀ (cs : List AV), aggV cs none = .agg cs) ∧
  (unp [] = some []) ∧
  (∀ (c : PV) (r : List AV), unp (.p c :: r) = (unp r).map fun l => c :: l) ∧
  (∀ (b i n : Nat) (r : List AV), unp (.slr b i n :: r) = none) ∧
  (∀ (b i : Nat) (r : List AV), unp (.ptr b i :: r) = none) ∧
  (∀ (b e i o : Nat) (r : List AV), unp (.ep b e i o :: r) = none) ∧
  (∀ (i : Nat) (vs : List AV), extrP i (.tup vs) = vs[i]?) ∧
  (∀ (l : List UInt8), lenP true (.p (.s l)) = some (.p (.i .i64 l.length))) ∧
  (∀ (e : Nat) (rows : List (List PV)), lenP false (.p (.sl e rows)) = some (.p (.i .i64 rows.length))) ∧
  (∀ (b i n : Nat), lenP false (.slr b i n) = some (.p (.i .i64 n))) ∧
  (∀ {α β : Type} (g : α → β) (l : List α), (l.map g).length = l.length) ∧
  (∀ (b o : Nat), nckP (.ptr b o) = some (.ptr b o)) ∧
  (∀ (cs : List PV) (o : Nat), nckP (.cp cs o) = some (.cp cs o)) ∧
  (∀ (b e i o : Nat), nckP (.ep b e i o) = some (.ep b e i o)) ∧
  (∀ (env : List (Nat × AV)) (sto : List Blk) (g : Bool) (n : Nat) (cs : List PV) (off : Nat), (loadR g n (.cp cs off)).run ⟨env, sto⟩ = (sub cs off n).bind fun l => (ofPCells g l).map fun v => ⟨v, []⟩) ∧
  (∀ (env : List (Nat × AV)) (sto : List Blk) (g : Bool) (n b off : Nat), (loadR g n (.ptr b off)).run ⟨env, sto⟩ = sto[b]?.bind fun B => ldB g n off B) ∧
  (∀ (env : List (Nat × AV)) (sto : List Blk) (g : Bool) (n b e i off : Nat), (loadR g n (.ep b e i off)).run ⟨env, sto⟩ = sto[b]?.bind fun B => ldE g n e i off B) ∧
  (∀ (g : Bool) (n off : Nat) (cs : List PV), ldB g n off (.box (cs.map AV.p)) = (sub cs off n).bind fun l => (ofPCells g l).map fun v => ⟨v, []⟩) ∧
  (∀ (g : Bool) (n off : Nat) (c : AV) (cs : List AV), ldB g n off (.box (c :: cs)) = (sub (c :: cs) off n).bind fun l => (ofCells g l).map fun v => ⟨v, []⟩) :=
  ⟨@f_cp, @f_ep, @f_fd, @f_fa, @o_pt, @o_pf, @o_am, @o_ac, @o_af, @a_vs, @a_mn, @a_vn, @a_u0, @a_up, @a_uslr, @a_uptr, @a_uep, @x_tup, @l_s, @l_l, @l_o, @l_map, @c_ptr, @c_cp, @c_ep, @ld_cp, @ld_ptr, @ld_ep, @ldb_m, @ldb_c⟩

theorem Ua5 : (∀ (g : Bool) (n e i off z : Nat) (w : Bool) (rows : List (List PV)), ldE g n e i off (.arr w z rows) = if e = rows.length then rows[i]?.bind fun row => (sub row off n).bind fun l => (ofPCells g l).map fun v => ⟨v, []⟩ else none) ∧
  (∀ (env : List (Nat × AV)) (sto : List Blk) (n b off : Nat) (v : AV), (storeR n (.ptr b off) v).run ⟨env, sto⟩ = sto[b]?.bind fun B => (cellsOf v).bind fun l => stB n b off l B) ∧
  (∀ (n b off : Nat) (cs vs : List PV), stB n b off (vs.map AV.p) (.box (cs.map AV.p)) = if vs.length = n then (spl cs off vs).map fun cs => ⟨undefV, [(b, .box (cs.map AV.p))]⟩ else none) ∧
  (∀ (b off : Nat) (cs : List PV) (v : PV), stB 1 b off [AV.p v] (.box (cs.map AV.p)) = (spl cs off [v]).map fun cs => ⟨undefV, [(b, .box (cs.map AV.p))]⟩) ∧
  (∀ (env : List (Nat × AV)) (sto : List Blk) (n b e i off : Nat) (v : AV), (storeR n (.ep b e i off) v).run ⟨env, sto⟩ = sto[b]?.bind fun B => stE n b e i off v B ⟨env, sto⟩) ∧
  (∀ (n b e i off z : Nat) (c : PV) (rows : List (List PV)) (s : St), stE n b e i off (.p c) (.arr true z rows) s = if e = rows.length then rows[i]?.bind fun row => if 1 = n then (spl row off [c]).map fun row => ⟨undefV, [(b, .arr true z (rows.set i row))]⟩ else none else none) ∧
  (∀ (n b e i off z : Nat) (cs : List PV) (rows : List (List PV)) (s : St), stE n b e i off (.data cs) (.arr true z rows) s = if e = rows.length then rows[i]?.bind fun row => if cs.length = n then (spl row off cs).map fun row => ⟨undefV, [(b, .arr true z (rows.set i row))]⟩ else none else none) ∧
  (∀ (c : PV), cellsOf (.p c) = some [.p c]) ∧
  (∀ (cs : List PV), cellsOf (.data cs) = some (cs.map AV.p)) ∧
  (∀ (cs : List AV), cellsOf (.agg cs) = some cs) ∧
  (∀ (b i n : Nat), cellsOf (.slr b i n) = some [.slr b i n]) ∧
  (∀ (b o : Nat), cellsOf (.ptr b o) = some [.ptr b o]) ∧
  (∀ (c : PV), bxP 1 (.p c) = some [.p c]) ∧
  (∀ (n : Nat) (cs : List PV), bxP n (.data cs) = if cs.length = n then some (cs.map AV.p) else none) ∧
  (∀ (n : Nat) (cs : List AV), bxP n (.agg cs) = if cs.length = n then some cs else none) ∧
  (∀ (b i n : Nat), bxP 1 (.slr b i n) = some [.slr b i n]) ∧
  (∀ (env : List (Nat × AV)) (sto : List Blk) (e : Nat) (rows : List (List PV)) (k : IntKind) (n : Int), (iaddrR e (.p (.sl e rows)) (.p (.i k n))).run ⟨env, sto⟩ = (rowAt rows n).map fun row => ⟨.cp row 0, []⟩) ∧
  (∀ (env : List (Nat × AV)) (sto : List Blk) (e b m : Nat) (k : IntKind) (n : Int), (iaddrR e (.slr b 0 m) (.p (.i k n))).run ⟨env, sto⟩ = sto[b]?.bind fun B => iaB e b m n B) ∧
  (∀ (e b m : Nat) (n : Int) (w : Bool) (rows : List (List PV)), iaB e b m n (.arr w e rows) = if m = rows.length ∧ 0 ≤ n ∧ n < m then some ⟨.ep b rows.length n.toNat 0, []⟩ else none) ∧
  (∀ (n e b off : Nat) (k : IntKind) (i : Int), aaddrP n e (.ptr b off) (.p (.i k i)) = if 0 ≤ i ∧ i < n then some (.ptr b (off + i.toNat * e)) else none) ∧
  (∀ (n e off : Nat) (cs : List PV) (k : IntKind) (i : Int), aaddrP n e (.cp cs off) (.p (.i k i)) = if 0 ≤ i ∧ i < n then some (.cp cs (off + i.toNat * e)) else none) ∧
  (∀ (n e b x j off : Nat) (k : IntKind) (i : Int), aaddrP n e (.ep b x j off) (.p (.i k i)) = if 0 ≤ i ∧ i < n then some (.ep b x j (off + i.toNat * e)) else none) ∧
  (∀ (l : List UInt8) (k : IntKind) (n : Int), sidP (.p (.s l)) (.p (.i k n)) = (sidS l n).map fun v => .p (.i .u8 v)) ∧
  (∀ (g : Bool) (n e : Nat) (cs : List PV) (k : IntKind) (i : Int), aidP g n e (.data cs) (.p (.i k i)) = if 0 ≤ i ∧ i < n then (sub cs (i.toNat * e) e).bind (ofPCells g) else none) ∧
  (∀ (env : List (Nat × AV)) (sto : List Blk) (c k : IntKind) (n : Int) (new : Nat), (cvR (.int c) (.p (.i k n)) new).run ⟨env, sto⟩ = some ⟨.p (.i c (c.wrap n)), []⟩) ∧
  (∀ (env : List (Nat × AV)) (sto : List Blk) (l : List UInt8) (new : Nat), (cvR .same (.p (.s l)) new).run ⟨env, sto⟩ = some ⟨.p (.s l), []⟩) ∧
  (∀ (env : List (Nat × AV)) (sto : List Blk) (l : List Int) (new : Nat), (cvR .toStr (.p (.sl 1 (l.map (r_i .u8)))) new).run ⟨env, sto⟩ = some ⟨.p (.s (toStr l)), []⟩) ∧
  (∀ (env : List (Nat × AV)) (sto : List Blk) (b n new : Nat), (cvR .toStr (.slr b 0 n) new).run ⟨env, sto⟩ = sto[b]?.bind fun B => cvB n B) ∧
  (∀ (n : Nat) (w : Bool) (l : List Int), cvB n (.arr w 1 (l.map (r_i .u8))) = if n = l.length then some ⟨.p (.s (toStr l)), []⟩ else none) ∧
  (∀ (env : List (Nat × AV)) (sto : List Blk) (l : List UInt8) (new : Nat), (cvR (.toBytes false) (.p (.s l)) new).run ⟨env, sto⟩ = some ⟨.p (.sl 1 ((toByt l).map (r_i .u8))), []⟩) :=
  ⟨@lde_a, @st_ptr, @stb_m, @stb_1, @st_ep, @ste_p, @ste_d, @c_p, @c_d, @c_a, @c_s, @c_t, @bx_p, @bx_d, @bx_a, @bx_s, @ia_c, @ia_o, @iab, @aa_p, @aa_c, @aa_e, @si, @ai, @cv_i, @cv_s, @cv_t, @cv_o, @cv_ob, @cv_b⟩

theorem Ua6 : (∀ (env : List (Nat × AV)) (sto : List Blk) (l : List UInt8) (new : Nat), (cvR (.toBytes true) (.p (.s l)) new).run ⟨env, sto⟩ = some ⟨.slr new 0 (toByt l).length, [(new, .arr true 1 ((toByt l).map (r_i .u8)))]⟩) ∧
  (∀ (env : List (Nat × AV)) (sto : List Blk) , (partsR []).run ⟨env, sto⟩ = some []) ∧
  (∀ (env : List (Nat × AV)) (sto : List Blk) (off size : Nat) (x : Opd) (r : List (Nat × Nat × Opd)), (partsR ((off, size, x) :: r)).run ⟨env, sto⟩ = (evv x env).bind fun v => (cellsOf v).bind fun cs => ((partsR r).run ⟨env, sto⟩).bind fun l => some ((off, size, cs) :: l)) ∧
  (∀ (cs : List AV), fillAll [] cs = some cs) ∧
  (∀ (off size : Nat) (vs cs : List PV) (r : List (Nat × Nat × List AV)), fillAll ((off, size, vs.map AV.p) :: r) (cs.map AV.p) = if vs.length = size then (spl cs off vs).bind fun cs => fillAll r (cs.map AV.p) else none) ∧
  (∀ (off : Nat) (v : PV) (cs : List PV) (r : List (Nat × Nat × List AV)), fillAll ((off, 1, [AV.p v]) :: r) (cs.map AV.p) = (spl cs off [v]).bind fun cs => fillAll r (cs.map AV.p)) ∧
  (∀ (env : List (Nat × AV)) (sto : List Blk) , (evs []).run ⟨env, sto⟩ = some []) ∧
  (∀ (env : List (Nat × AV)) (sto : List Blk) (x : Opd) (r : List Opd), (evs (x :: r)).run ⟨env, sto⟩ = (evv x env).bind fun v => ((evs r).run ⟨env, sto⟩).bind fun vs => some (v :: vs)) ∧
  (∀ (env : List (Nat × AV)) (sto : List Blk) , (argsR []).run ⟨env, sto⟩ = some ([], [])) ∧
  (∀ (env : List (Nat × AV)) (sto : List Blk) (c : PV) (r : List AV), (argsR (.p c :: r)).run ⟨env, sto⟩ = ((argsR r).run ⟨env, sto⟩).bind fun a => some (.p c :: a.1, a.2)) ∧
  (∀ (env : List (Nat × AV)) (sto : List Blk) (c : List PV) (r : List AV), (argsR (.data c :: r)).run ⟨env, sto⟩ = ((argsR r).run ⟨env, sto⟩).bind fun a => some (.data c :: a.1, a.2)) ∧
  (∀ (env : List (Nat × AV)) (sto : List Blk) (b o : Nat) (r : List AV), (argsR (.ptr b o :: r)).run ⟨env, sto⟩ = ((argsR r).run ⟨env, sto⟩).bind fun a => some (.ptr b o :: a.1, a.2)) ∧
  (∀ (env : List (Nat × AV)) (sto : List Blk) (c : List PV) (o : Nat) (r : List AV), (argsR (.cp c o :: r)).run ⟨env, sto⟩ = ((argsR r).run ⟨env, sto⟩).bind fun a => some (.cp c o :: a.1, a.2)) ∧
  (∀ (env : List (Nat × AV)) (sto : List Blk) (b x i o : Nat) (r : List AV), (argsR (.ep b x i o :: r)).run ⟨env, sto⟩ = ((argsR r).run ⟨env, sto⟩).bind fun a => some (.ep b x i o :: a.1, a.2)) ∧
  (∀ (env : List (Nat × AV)) (sto : List Blk) (b n : Nat) (r : List AV), (argsR (.slr b 0 n :: r)).run ⟨env, sto⟩ = sto[b]?.bind fun B => (frz b n B).bind fun x => ((argsR r).run ⟨env, sto⟩).bind fun a => some (x.1 :: a.1, x.2 :: a.2)) ∧
  (∀ (env : List (Nat × AV)) (sto : List Blk) (cs : List AV) (r : List AV), (argsR (.agg cs :: r)).run ⟨env, sto⟩ = ((fz.fzL cs).run ⟨env, sto⟩).bind fun x => ((argsR r).run ⟨env, sto⟩).bind fun a => some (.data x.1 :: a.1, x.2 ++ a.2)) ∧
  (∀ (b n z : Nat) (w : Bool) (rows : List (List PV)), frz b n (.arr w z rows) = if n = rows.length then some (.p (.sl z rows), (b, .arr false z rows)) else none) ∧
  (∀ (env : List (Nat × AV)) (sto : List Blk) , (fz.fzL []).run ⟨env, sto⟩ = some ([], [])) ∧
  (∀ (env : List (Nat × AV)) (sto : List Blk) (c : PV) (r : List AV), (fz.fzL (.p c :: r)).run ⟨env, sto⟩ = ((fz.fzL r).run ⟨env, sto⟩).bind fun a => some (c :: a.1, a.2)) ∧
  (∀ (env : List (Nat × AV)) (sto : List Blk) (b n : Nat) (r : List AV), (fz.fzL (.slr b 0 n :: r)).run ⟨env, sto⟩ = sto[b]?.bind fun B => (frp b n B).bind fun x => ((fz.fzL r).run ⟨env, sto⟩).bind fun a => some (x.1 :: a.1, x.2 :: a.2)) ∧
  (∀ (b n z : Nat) (w : Bool) (rows : List (List PV)), frp b n (.arr w z rows) = if n = rows.length then some (.sl z rows, (b, .arr false z rows)) else none) ∧
  (∀ (env : List (Nat × AV)) (sto : List Blk) (f : FuncId) (a c : List AV) (r : List AV), (argsR (.fn f a c :: r)).run ⟨env, sto⟩ = ((argsR r).run ⟨env, sto⟩).bind fun x => some (.fn f a c :: x.1, x.2)) ∧
  (∀ (m : Nat) (ids : List Nat) (sto : List Blk) (f : FuncId) (a c : List AV), fin m ids sto (.fn f a c) = (fin.finL m ids sto a).bind fun a1 => (fin.finL m ids sto c).bind fun c1 => some (.fn f a1 c1)) ∧
  (∀ (f : FuncId) (a c : List AV) (l : List Ent), entsOf (.fn f a c) l = entsOf.entsOfL c (entsOf.entsOfL a l)) ∧
  (∀ (ws : List (Nat × Blk)) (s : St), boxesAt ws s [] [] = True) ∧
  (∀ (ws : List (Nat × Blk)) (s : St) (b : Nat) (bs : List Nat) (cs : List AV) (css : List (List AV)), boxesAt ws s (b :: bs) (cs :: css) = ((getB ws b).run s = some (.box cs) ∧ boxesAt ws s bs css)) ∧
  (∀ (env : List (Nat × AV)) (sto : List Blk) (b c : Nat) (x : Blk) (ws : List (Nat × Blk)), (getB ((c, x) :: ws) b).run ⟨env, sto⟩ = sto[b]?.bind fun y => some ((lastW b ((c, x) :: ws)).getD y)) ∧
  (∀ (b : Nat), lastW b [] = none) ∧
  (∀ (b c : Nat) (x : Blk) (r : List (Nat × Blk)), lastW b ((c, x) :: r) = lwO (lastW b r) (if c = b then some x else none)) ∧
  (∀ (x : Blk) (y : Option Blk), lwO (some x) y = some x) :=
  ⟨@cv_bo, @pa_0, @pa_c, @fi_0, @fi_m, @fi_1, @es_0, @es_c, @ar_0, @ar_p, @ar_d, @ar_t, @ar_c, @ar_e, @ar_s, @ar_a, @fr, @fz_0, @fz_p, @fz_s, @frpq, @ar_fn, @fn_fn, @eo_fn, @ba_0, @ba_c, @gb_c, @lw_0, @lw_c, @lw_s⟩

theorem Ua7 : (∀ (y : Option Blk), lwO none y = y) ∧
  (∀ {α : Type} (a b : α), (some a).getD b = a) ∧
  (∀ {α : Type} (b : α), (none : Option α).getD b = b) ∧
  (∀ (env : List (Nat × AV)) (sto : List Blk) (b : Nat), (getB [] b).run ⟨env, sto⟩ = sto[b]?) ∧
  (∀ (env : List (Nat × AV)) (sto : List Blk) (e : Nat) (rows : List (List PV)), (rowsOf e (.p (.sl e rows))).run ⟨env, sto⟩ = some rows) ∧
  (∀ (env : List (Nat × AV)) (sto : List Blk) (l : List UInt8), (rowsOf 1 (.p (.s l))).run ⟨env, sto⟩ = some ((toByt l).map (r_i .u8))) ∧
  (∀ (env : List (Nat × AV)) (sto : List Blk) (e b n : Nat), (rowsOf e (.slr b 0 n)).run ⟨env, sto⟩ = sto[b]?.bind fun B => roB e n B) ∧
  (∀ (e n : Nat) (w : Bool) (rows : List (List PV)), roB e n (.arr w e rows) = if n = rows.length then some rows else none) ∧
  (∀ (env : List (Nat × AV)) (sto : List Blk) (o : Bool) (e n new : Nat) (z : List PV) (ps : List (Nat × Opd)), (ltR o e n z ps new).run ⟨env, sto⟩ = ((fzs (ps.map (·.2))).run ⟨env, sto⟩).bind fun a => (placeAll e ((ps.map (·.1)).zip a.1) (List.replicate n z)).map fun rows => if o then ⟨.slr new 0 n, a.2 ++ [(new, .arr true e rows)]⟩ else ⟨.p (.sl e rows), a.2⟩) ∧
  (∀ (env : List (Nat × AV)) (sto : List Blk) , (fzs []).run ⟨env, sto⟩ = some ([], [])) ∧
  (∀ (env : List (Nat × AV)) (sto : List Blk) (x : Opd) (r : List Opd), (fzs (x :: r)).run ⟨env, sto⟩ = (evv x env).bind fun v => ((fz v).run ⟨env, sto⟩).bind fun a => ((fzs r).run ⟨env, sto⟩).bind fun c => some (a.1 :: c.1, a.2 ++ c.2)) ∧
  (∀ (env : List (Nat × AV)) (sto : List Blk) (c : PV), (fz (.p c)).run ⟨env, sto⟩ = some ([c], [])) ∧
  (∀ (env : List (Nat × AV)) (sto : List Blk) (cs : List PV), (fz (.data cs)).run ⟨env, sto⟩ = some (cs, [])) ∧
  (∀ (env : List (Nat × AV)) (sto : List Blk) (cs : List AV), (fz (.agg cs)).run ⟨env, sto⟩ = (fz.fzL cs).run ⟨env, sto⟩) ∧
  (∀ (env : List (Nat × AV)) (sto : List Blk) (b n : Nat), (fz (.slr b 0 n)).run ⟨env, sto⟩ = sto[b]?.bind fun B => (frp b n B).bind fun x => some ([x.1], [x.2])) ∧
  (∀ (e : Nat) (rows : List (List PV)), placeAll e [] rows = some rows) ∧
  (∀ (e i : Nat) (c : List PV) (r : List (Nat × List PV)) (rows : List (List PV)), placeAll e ((i, c) :: r) rows = if c.length = e ∧ i < rows.length then placeAll e r (rows.set i c) else none) ∧
  (∀ (o : Bool) (e b new : Nat) (z : List PV) (k k2 : IntKind) (n m : Int), mkP o e b z (.p (.i k n)) (.p (.i k2 m)) new = if 0 ≤ n ∧ n ≤ m ∧ b * m ≤ 281474976710656 ∧ m ≤ 281474976710656 then some (if o then ⟨.slr new 0 n.toNat, [(new, .arr true e (List.replicate n.toNat z))]⟩ else ⟨.p (.sl e (List.replicate n.toNat z)), []⟩) else none) ∧
  (∀ (env : List (Nat × AV)), evo1 none env = some none) ∧
  (∀ (x : Opd) (env : List (Nat × AV)), evo1 (some x) env = (evv x env).map some) ∧
  (∀ (env : List (Nat × AV)) (sto : List Blk) (s : SK) (c : PV) (lo hi : Option AV), (slR s (.p c) lo hi none).run ⟨env, sto⟩ = (slX s (.p c) lo hi).map fun v => ⟨v, []⟩) ∧
  (∀ (env : List (Nat × AV)) (sto : List Blk) (s : SK) (b n : Nat) (lo hi : Option AV), (slR s (.slr b 0 n) lo hi none).run ⟨env, sto⟩ = sto[b]?.bind fun B => (frz b n B).bind fun x => (slX s x.1 lo hi).map fun v => ⟨v, [x.2]⟩) ∧
  (∀ (x : AV) (lo hi : Option AV), slX .str x lo hi = sliceS x lo hi) ∧
  (∀ (e : Nat) (x : AV) (lo hi : Option AV), slX (.sl e) x lo hi = sliceL e x lo hi) ∧
  (∀ (n : Nat) (live : List Nat) (env : List (Nat × AV)) (sto : List Blk), clean n live ⟨env, sto⟩ = if sto.length = n then some ⟨restr live env, sto⟩ else (finE n sto (restr live env)).bind fun e => (finBs n [] sto (sto.take n)).bind fun l => some ⟨e, l⟩) ∧
  (∀ (m : Nat) (sto : List Blk), finE m sto [] = some []) ∧
  (∀ (m k : Nat) (sto : List Blk) (x : AV) (r : List (Nat × AV)), finE m sto ((k, x) :: r) = (fin m [] sto x).bind fun y => (finE m sto r).bind fun l => some ((k, y) :: l)) ∧
  (∀ (m : Nat) (ids : List Nat) (sto : List Blk), finBs m ids sto [] = some []) ∧
  (∀ (m : Nat) (ids : List Nat) (sto : List Blk) (x : Blk) (r : List Blk), finBs m ids sto (x :: r) = (finB m ids sto x).bind fun y => (finBs m ids sto r).bind fun l => some (y :: l)) ∧
  (∀ (m : Nat) (ids : List Nat) (sto : List Blk), finB m ids sto .dead = some .dead) :=
  ⟨@lw_n, @gd_s, @gd_n, @gb_0, @ro_s, @ro_t, @ro_o, @ro_b, @lt_0, @fs_0, @fs_c, @fzv_p, @fzv_d, @fzv_a, @fzv_s, @pl_0, @pl_c, @mk, @ew_n, @ew_s, @sl_p, @sl_o, @sx_s, @sx_l, @cl, @fe_0, @fe_c, @fb_0, @fb_c, @fb_d⟩

theorem Ua8 : (∀ (m : Nat) (ids : List Nat) (sto : List Blk) (w : Bool) (z : Nat) (rows : List (List PV)), finB m ids sto (.arr w z rows) = some (.arr w z rows)) ∧
  (∀ (m : Nat) (ids : List Nat) (sto : List Blk) (cs : List AV), finB m ids sto (.box cs) = (fin.finL m ids sto cs).map .box) ∧
  (∀ (m : Nat) (ids : List Nat) (sto : List Blk) (l : List PV), fin.finL m ids sto (l.map AV.p) = some (l.map AV.p)) ∧
  (∀ (m : Nat) (ids : List Nat) (sto : List Blk), fin.finL m ids sto [] = some []) ∧
  (∀ (m : Nat) (ids : List Nat) (sto : List Blk) (x : AV) (r : List AV), fin.finL m ids sto (x :: r) = (fin m ids sto x).bind fun y => (fin.finL m ids sto r).bind fun l => some (y :: l)) ∧
  (∀ (m : Nat) (ids : List Nat) (sto : List Blk) (c : PV), fin m ids sto (.p c) = some (.p c)) ∧
  (∀ (m : Nat) (ids : List Nat) (sto : List Blk) (c : List PV), fin m ids sto (.data c) = some (.data c)) ∧
  (∀ (m : Nat) (ids : List Nat) (sto : List Blk) (c : List PV) (o : Nat), fin m ids sto (.cp c o) = some (.cp c o)) ∧
  (∀ (m : Nat) (ids : List Nat) (sto : List Blk) , fin m ids sto (.tup []) = some (.tup [])) ∧
  (∀ (m : Nat) (ids : List Nat) (sto : List Blk) (b off : Nat), fin m ids sto (.ptr b off) = if b < m then some (.ptr b off) else (idxN b ids m).map fun k => .ptr k off) ∧
  (∀ (m : Nat) (ids : List Nat) (sto : List Blk) (b n : Nat), fin m ids sto (.slr b 0 n) = if b < m then some (.slr b 0 n) else fsl (idxN b ids m) n sto[b]?) ∧
  (∀ (k n : Nat) (o : Option Blk), fsl (some k) n o = some (.slr k 0 n)) ∧
  (∀ (n z : Nat) (w : Bool) (rows : List (List PV)), fsl none n (some (.arr w z rows)) = if n = rows.length then some (.p (.sl z rows)) else none) ∧
  (∀ (m : Nat) (ids : List Nat) (sto : List Blk) (cs : List AV), fin m ids sto (.agg cs) = (fin.finL m ids sto cs).bind fun l => some (aggV l (unp l))) ∧
  (∀ (m : Nat) (ids : List Nat) (sto : List Blk) (x : AV) (cs : List AV), fin m ids sto (.tup (x :: cs)) = (fin.finL m ids sto (x :: cs)).map .tup) ∧
  (∀ (b k : Nat), idxN b [] k = none) ∧
  (∀ (b x k : Nat) (r : List Nat), idxN b (x :: r) k = if x = b then some k else idxN b r (k + 1)) ∧
  (∀ (res : List ARes) (fresh : Bool) (m : Nat) (env : List (Nat × AV)) (sto : List Blk), fin1 res fresh m ⟨env, sto⟩ = ((resR res).run ⟨env, sto⟩).bind fun vs => if sto.length = m then some (one vs, sto) else fin2 fresh m vs sto (outIds m fresh sto (entsB sto (entsOf.entsOfL vs []) (entsOf.entsOfL vs [])))) ∧
  (∀ (fresh : Bool) (m : Nat) (vs : List AV) (sto : List Blk) (ids : List Nat), fin2 fresh m vs sto ids = if nodupB ids = true then (fin.finL m ids sto vs).bind fun ws => (finBs m ids sto (sto.take m)).bind fun l => (pickB sto ids).bind fun q => (finBs m ids sto q).bind fun q => some (one ws, l ++ q) else none) ∧
  (∀ (env : List (Nat × AV)) (sto : List Blk) , (resR []).run ⟨env, sto⟩ = some []) ∧
  (∀ (env : List (Nat × AV)) (sto : List Blk) (t : Nat) (r : List ARes), (resR (.tmp t :: r)).run ⟨env, sto⟩ = (lk t env).bind fun v => ((resR r).run ⟨env, sto⟩).bind fun l => some (v :: l)) ∧
  (∀ (env : List (Nat × AV)) (sto : List Blk) (t n : Nat) (g : Bool) (r : List ARes), (resR (.cell t g n :: r)).run ⟨env, sto⟩ = (lk t env).bind fun v => ((loadR g n v).run ⟨env, sto⟩).bind fun e => ((resR r).run ⟨env, sto⟩).bind fun l => some (e.val :: l)) ∧
  (∀ (x : AV), one [x] = x) ∧
  (one [] = .tup []) ∧
  (∀ (x y : AV) (r : List AV), one (x :: y :: r) = .tup (x :: y :: r)) ∧
  (∀ (m : Nat) (fresh : Bool) (sto : List Blk), outIds m fresh sto [] = []) ∧
  (∀ (m b : Nat) (sto : List Blk) (r : List Ent), outIds m false sto (.whole b :: r) = if b < m then outIds m false sto r else oid b sto[b]? (outIds m false sto r)) ∧
  (∀ (b : Nat) (cs : List AV) (l : List Nat), oid b (some (.box cs)) l = b :: l) ∧
  (∀ (b z : Nat) (w : Bool) (rows : List (List PV)) (l : List Nat), oid b (some (.arr w z rows)) l = l) ∧
  (∀ (sto : List Blk) (acc : List Ent), entsB sto [] acc = acc) :=
  ⟨@fb_a, @fb_b, @fl_m, @fl_0, @fl_c, @fn_p, @fn_d, @fn_c, @fn_u, @fn_t, @fn_s, @fs_i, @fs_a, @fn_a, @fn_tu, @in_0, @in_c, @e_fin1, @e_fin2, @rs_0, @rs_t, @rs_c, @on_1, @on_0, @on_2, @oi_0, @oi_w, @oi_b, @oi_a, @eb_0⟩

theorem Ua9 : (∀ (sto : List Blk) (b : Nat) (r : List Ent) (acc : List Ent), entsB sto (.whole b :: r) acc = entsB sto r (ebb sto[b]? acc)) ∧
  (∀ (cs : List AV) (acc : List Ent), ebb (some (.box cs)) acc = entsOf.entsOfL cs acc) ∧
  (∀ (z : Nat) (w : Bool) (rows : List (List PV)) (acc : List Ent), ebb (some (.arr w z rows)) acc = acc) ∧
  (∀ (l : List Ent), entsOf.entsOfL [] l = l) ∧
  (∀ (x : AV) (r : List AV) (l : List Ent), entsOf.entsOfL (x :: r) l = entsOf.entsOfL r (entsOf x l)) ∧
  (∀ (cs : List PV) (l : List Ent), entsOf.entsOfL (cs.map AV.p) l = l) ∧
  (∀ (c : PV) (l : List Ent), entsOf (.p c) l = l) ∧
  (∀ (c : List PV) (l : List Ent), entsOf (.data c) l = l) ∧
  (∀ (c : List PV) (o : Nat) (l : List Ent), entsOf (.cp c o) l = l) ∧
  (∀ (b o : Nat) (l : List Ent), entsOf (.ptr b o) l = addEnt (.whole b) l) ∧
  (∀ (b i n : Nat) (l : List Ent), entsOf (.slr b i n) l = addEnt (.whole b) l) ∧
  (∀ (cs : List AV) (l : List Ent), entsOf (.agg cs) l = entsOf.entsOfL cs l) ∧
  (∀ (cs : List AV) (l : List Ent), entsOf (.tup cs) l = entsOf.entsOfL cs l) ∧
  (∀ (e : Ent), addEnt e [] = [e]) ∧
  (∀ (b c : Nat) (r : List Ent), addEnt (.whole b) (.whole c :: r) = if c = b then .whole c :: r else .whole c :: addEnt (.whole b) r) ∧
  (nodupB [] = true) ∧
  (∀ (x : Nat), nodupB [x] = true) ∧
  (∀ (sto : List Blk), pickB sto [] = some []) ∧
  (∀ (sto : List Blk) (b : Nat) (r : List Nat), pickB sto (b :: r) = sto[b]?.bind fun x => (pickB sto r).bind fun l => some (x :: l)) ∧
  (∀ {α : Type} (a : α) (l : List α), (a :: l)[0]? = some a) ∧
  (∀ {α : Type} (a : α) (l : List α) (n : Nat), (a :: l)[n + 1]? = l[n]?) ∧
  (∀ {α : Type} (n : Nat), ([] : List α)[n]? = none) ∧
  (∀ {α : Type} (a b : α) (l : List α), (a :: l).set 0 b = b :: l) ∧
  (∀ {α : Type} (a b : α) (l : List α) (n : Nat), (a :: l).set (n + 1) b = a :: l.set n b) ∧
  (∀ {α : Type} (l : List α), [] ++ l = l) ∧
  (∀ {α : Type} (l : List α), l ++ [] = l) ∧
  (∀ {α : Type} (a : α) (l r : List α), (a :: l) ++ r = a :: (l ++ r)) ∧
  (∀ {α : Type} (a : α), List.replicate 0 a = []) ∧
  (∀ {α : Type} (a : α) (n : Nat), List.replicate (n + 1) a = a :: List.replicate n a) ∧
  (∀ {α β : Type} (g : α → β), List.map g [] = []) :=
  ⟨@eb_w, @ebb_b, @ebb_a, @el_0, @el_c, @el_m, @eo_p, @eo_d, @eo_c, @eo_t, @eo_s, @eo_a, @eo_u, @ae_0, @ae_c, @nd_0, @nd_1, @pb_0, @pb_c, @q_0, @q_s, @q_n, @s_0, @s_s, @c_a0, @c_an, @c_ac, @c_r0, @c_rs, @c_m0⟩

theorem Ua10 : (∀ {α β : Type} (g : α → β) (a : α) (l : List α), List.map g (a :: l) = g a :: List.map g l) ∧
  (∀ {α : Type}, ([] : List α).length = 0) ∧
  (∀ {α : Type} (a : α) (l : List α), (a :: l).length = l.length + 1) ∧
  (∀ {α : Type} (l : List α), l.take 0 = []) ∧
  (∀ {α : Type} (a : α) (l : List α) (n : Nat), (a :: l).take (n + 1) = a :: l.take n) ∧
  (∀ {α β : Type} (l : List β), ([] : List α).zip l = []) ∧
  (∀ {α β : Type} (a : α) (b : β) (l : List α) (r : List β), (a :: l).zip (b :: r) = (a, b) :: l.zip r) ∧
  (∀ (n : Nat), 0 + n = n) ∧
  (∀ (n : Nat), n + 0 = n) ∧
  (∀ (k : IntKind) (n : Int), r_i k n = [.i k n]) ∧
  (∀ (x : Bool), r_b x = [.b x]) ∧
  (∀ (x : List UInt8), r_s x = [.s x]) ∧
  (∀ {α : Type} (e : Nat) (g : α → List PV) (l : List α), r_sl e g l = [.sl e (l.map g)]) ∧
  (∀ (a : PV), sub [a] 0 1 = some [a]) ∧
  (∀ (a b : PV), spl [a] 0 [b] = some [b]) ∧
  (∀ {α : Type} (cs : List α), sub cs 0 0 = some []) ∧
  (∀ {α : Type} (a : α) (cs : List α) (n : Nat), sub (a :: cs) 0 (n + 1) = (sub cs 0 n).map (a :: ·)) ∧
  (∀ {α : Type} (a : α) (cs : List α) (n m : Nat), sub (a :: cs) (n + 1) m = sub cs n m) ∧
  (∀ {α : Type} (cs : List α), spl cs 0 [] = some cs) ∧
  (∀ {α : Type} (a b : α) (cs vs : List α), spl (a :: cs) 0 (b :: vs) = (spl cs 0 vs).map (b :: ·)) ∧
  (∀ {α : Type} (a : α) (cs : List α) (n : Nat) (vs : List α), spl (a :: cs) (n + 1) vs = (spl cs n vs).map (a :: ·)) ∧
  (∀ (n b off : Nat) (l : List AV) (c : AV) (cs : List AV), stB n b off l (.box (c :: cs)) = if l.length = n then (spl (c :: cs) off l).map fun cs => ⟨undefV, [(b, .box cs)]⟩ else none) ∧
  (∀ (off size : Nat) (c : List AV) (a : AV) (cs : List AV) (r : List (Nat × Nat × List AV)), fillAll ((off, size, c) :: r) (a :: cs) = if c.length = size then (spl (a :: cs) off c).bind fun cs => fillAll r cs else none) ∧
  (∀ {α : Type} (a b : α), (if True then a else b) = a) ∧
  (∀ {α : Type} (a b : α), (if False then a else b) = b) ∧
  (∀ {α : Type} (a b : α), (if true = true then a else b) = a) ∧
  (∀ {α : Type} (a b : α), (if false = true then a else b) = b) ∧
  (∀ (a : Prop), (True ∧ a) = a) ∧
  (∀ (a : Prop), (a ∧ True) = a) ∧
  (∀ {α : Type} (a : α), (a = a) = True) :=
  ⟨@c_mc, @c_l0, @c_lc, @c_t0, @c_ts, @c_z0, @c_zc, @c_z, @c_zz, @c_ri, @c_rb, @c_rs2, @c_rl, @s1, @sp1, @sub_0, @sub_z, @sub_s, @spl_n, @spl_z, @spl_s, @stb_c, @fi_r, @if_rt, @if_rf, @if_bt, @if_bf, @an_t, @an_r, @eq_s⟩

theorem Ua11 : (∀ {α β : Type} (a : α) (b : β), (a, b).1 = a) ∧
  (∀ {α β : Type} (a : α) (b : β), (a, b).2 = b) :=
  ⟨@fst_, @snd_⟩

/-! ### Normal forms -/
theorem Nf : (∀ {α : Type} (l : List α), [] ++ l = l) ∧
  (∀ {α : Type} (l : List α), l ++ [] = l) ∧
  (∀ {α : Type} (a : α) (l r : List α), (a :: l) ++ r = a :: (l ++ r)) ∧
  (∀ {α β : Type} (g : α → β), List.map g [] = []) ∧
  (∀ {α β : Type} (g : α → β) (a : α) (l : List α), List.map g (a :: l) = g a :: List.map g l) ∧
  (∀ {α : Type}, ([] : List α).length = 0) ∧
  (∀ {α : Type} (a : α) (l : List α), (a :: l).length = l.length + 1) ∧
  (∀ (k : IntKind) (n : Int), r_i k n = [.i k n]) ∧
  (∀ (x : Bool), r_b x = [.b x]) ∧
  (∀ (x : List UInt8), r_s x = [.s x]) ∧
  (∀ {α : Type} (e : Nat) (g : α → List PV) (l : List α), r_sl e g l = [.sl e (l.map g)]) :=
  ⟨@c_a0, @c_an, @c_ac, @c_m0, @c_mc, @c_l0, @c_lc, @c_ri, @c_rb, @c_rs2, @c_rl⟩

/-! ### What operations read -/
theorem Ra1 : (∀ (F : Orc) (new : Nat) (env : List (Nat × AV)) (sto : List Blk) (g : Bool) (n : Nat) (x : Opd), rdO F (.load g n x) new ⟨env, sto⟩ = rb (evv x env) fun a => blksOf ((loadR g n a).reads ⟨env, sto⟩)) ∧
  (∀ (s : St) (g : Bool) (n b o : Nat), blksOf ((loadR g n (.ptr b o)).reads s) = [b]) ∧
  (∀ (s : St) (g : Bool) (n o : Nat) (cs : List PV), blksOf ((loadR g n (.cp cs o)).reads s) = []) ∧
  (∀ (s : St) (g : Bool) (n b e i o : Nat), blksOf ((loadR g n (.ep b e i o)).reads s) = [b]) ∧
  (∀ (F : Orc) (new : Nat) (s : St) (z : List PV), rdO F (.newbox z) new s = [new]) ∧
  (∀ (F : Orc) (new : Nat) (env : List (Nat × AV)) (sto : List Blk) (n : Nat) (x y : Opd), rdO F (.store n x y) new ⟨env, sto⟩ = rb (evv x env) fun a => rb (evv y env) fun c => blksOf ((storeR n a c).reads ⟨env, sto⟩)) ∧
  (∀ (s : St) (n b o : Nat) (v : AV), blksOf ((storeR n (.ptr b o) v).reads s) = [b]) ∧
  (∀ (s : St) (n b e i o : Nat) (c : PV), blksOf ((storeR n (.ep b e i o) (.p c)).reads s) = [b]) ∧
  (∀ (s : St) (n b e i o : Nat) (c : List PV), blksOf ((storeR n (.ep b e i o) (.data c)).reads s) = [b]) ∧
  (∀ (F : Orc) (new : Nat) (env : List (Nat × AV)) (sto : List Blk) (g : FuncId) (args : List Opd), rdO F (.call g args 0) new ⟨env, sto⟩ = rb ((evs args).run ⟨env, sto⟩) fun a => blksOf ((argsR a).reads ⟨env, sto⟩) ++ rb ((argsR a).run ⟨env, sto⟩) fun a => blksOf ((callR2 F g a 0 new).reads ⟨env, sto⟩)) ∧
  (∀ (F : Orc) (new : Nat) (env : List (Nat × AV)) (sto : List Blk) (g : FuncId) (args : List Opd), rdO F (.call g args 1) new ⟨env, sto⟩ = new :: rb (is1 sto[new]?) fun _ => rb ((evs args).run ⟨env, sto⟩) fun a => blksOf ((argsR a).reads ⟨env, sto⟩) ++ rb ((argsR a).run ⟨env, sto⟩) fun a => blksOf ((callR2 F g a 1 new).reads ⟨env, sto⟩)) ∧
  (is1 (some .dead) = some ()) ∧
  (∀ {α β : Type} (a : α) (f : α → List β), rb (some a) f = f a) ∧
  (∀ (s : St), blksOf ((argsR []).reads s) = []) ∧
  (∀ (s : St) (c : PV) (r : List AV), blksOf ((argsR (.p c :: r)).reads s) = blksOf ((argsR r).reads s)) ∧
  (∀ (s : St) (c : List PV) (r : List AV), blksOf ((argsR (.data c :: r)).reads s) = blksOf ((argsR r).reads s)) ∧
  (∀ (s : St) (b o : Nat) (r : List AV), blksOf ((argsR (.ptr b o :: r)).reads s) = blksOf ((argsR r).reads s)) ∧
  (∀ (s : St) (c : List PV) (o : Nat) (r : List AV), blksOf ((argsR (.cp c o :: r)).reads s) = blksOf ((argsR r).reads s)) ∧
  (∀ (s : St) (b x i o : Nat) (r : List AV), blksOf ((argsR (.ep b x i o :: r)).reads s) = blksOf ((argsR r).reads s)) ∧
  (∀ (s : St) (b n : Nat) (r : List AV), blksOf ((argsR (.slr b 0 n :: r)).reads s) = b :: rb ((argR (.slr b 0 n)).run s) fun _ => blksOf ((argsR r).reads s)) ∧
  (∀ (F : Orc) (new : Nat) (s : St) (e n : Nat) (z : List PV) (ps : List (Nat × Opd)), rdO F (.lits false e n z ps) new s = blksOf ((fzs (ps.map (·.2))).reads s)) ∧
  (∀ (F : Orc) (new : Nat) (env : List (Nat × AV)) (sto : List Blk) (e n : Nat) (z : List PV) (ps : List (Nat × Opd)), rdO F (.lits true e n z ps) new ⟨env, sto⟩ = new :: rb (is1 sto[new]?) fun _ => blksOf ((fzs (ps.map (·.2))).reads ⟨env, sto⟩)) ∧
  (∀ (s : St), blksOf ((fzs []).reads s) = []) ∧
  (∀ (env : List (Nat × AV)) (sto : List Blk) (x : Opd) (r : List Opd), blksOf ((fzs (x :: r)).reads ⟨env, sto⟩) = rb (evv x env) fun v => blksOf ((fz v).reads ⟨env, sto⟩) ++ rb ((fz v).run ⟨env, sto⟩) fun _ => blksOf ((fzs r).reads ⟨env, sto⟩)) ∧
  (∀ (s : St) (c : PV), blksOf ((fz (.p c)).reads s) = []) ∧
  (∀ (s : St) (c : List PV), blksOf ((fz (.data c)).reads s) = []) ∧
  (∀ (s : St) (b n : Nat), blksOf ((fz (.slr b 0 n)).reads s) = [b]) ∧
  (∀ (F : Orc) (new : Nat) (env : List (Nat × AV)) (sto : List Blk) (x : Opd), rdO F (.conv .toStr x) new ⟨env, sto⟩ = rb (evv x env) fun a => blksOf ((rowsOf 1 a).reads ⟨env, sto⟩)) ∧
  (∀ (s : St) (e b n : Nat), blksOf ((rowsOf e (.slr b 0 n)).reads s) = [b]) ∧
  (∀ (s : St) (e z : Nat) (rows : List (List PV)), blksOf ((rowsOf e (.p (.sl z rows))).reads s) = []) :=
  ⟨@w_load, @w_ldp, @w_ldc, @w_lde, @w_nb, @w_st, @w_stp, @w_ste, @w_std, @w_c0, @w_c1, @w_is1, @w_rbs, @w_a0, @w_ap, @w_ad, @w_at, @w_ac, @w_ae, @w_as, @w_l0, @w_l1, @w_f0, @w_fc, @w_zp, @w_zd, @w_zs, @w_cv, @w_ros, @w_rol⟩

theorem Ra2 : (∀ (F : Orc) (new : Nat) (env : List (Nat × AV)) (sto : List Blk) (e : Nat) (x i : Opd), rdO F (.iaddr e x i) new ⟨env, sto⟩ = rb (evv x env) fun a => rb (evv i env) fun c => blksOf ((iaddrR e a c).reads ⟨env, sto⟩)) ∧
  (∀ (s : St) (e b n : Nat) (k : IntKind) (i : Int), blksOf ((iaddrR e (.slr b 0 n) (.p (.i k i))).reads s) = [b]) ∧
  (∀ (s : St) (e z : Nat) (rows : List (List PV)) (k : IntKind) (i : Int), blksOf ((iaddrR e (.p (.sl z rows)) (.p (.i k i))).reads s) = []) ∧
  (∀ (a b c d : List Nat), pkk (some (a, b)) (some (c, d)) = (disj b c && disj b d && disj a d)) ∧
  (∀ (b : List Nat), disj [] b = true) ∧
  (∀ (x : Nat) (a b : List Nat), disj (x :: a) b = (!(b.contains x) && disj a b)) ∧
  (∀ (x : Nat), ([] : List Nat).contains x = false) ∧
  (∀ (x y : Nat) (l : List Nat), (y :: l).contains x = (x == y || l.contains x)) ∧
  (∀ (a : Bool), (true && a) = a) ∧
  (∀ (a : Bool), (false && a) = false) ∧
  (∀ (a : Bool), (true || a) = true) ∧
  (∀ (a : Bool), (false || a) = a) :=
  ⟨@w_ia, @w_ias, @w_ial, @w_pkk, @w_dj0, @w_djc, @w_ct0, @w_ctc, @w_ant, @w_anf, @w_ort, @w_orf⟩


end Go.Am
