/-
  Parts of a proof.
-/
import Derived.Test.YtiallbcnaadmoaaM5
set_option linter.unusedSimpArgs false
set_option linter.unusedVariables false
section
namespace Go.Am
@[congr] theorem JxU {T : J5M} {f : AFn} {m : Nat} {k : List Fr} {o o' : Option Out} (h : o = o') : rk T f m k o = rk T f m k o' := by rw [h]
def tdn (e : AX) (o : Option St) : Option Out := match o with
 | some s => some (e, s)
 | none => none
def Jr2 (fresh : Bool) (m : Nat) (vs : List AV) (sto : List Blk) (ids : List Nat) : Option Res :=
 if J5s ids = true then (fin.finL m ids sto vs).bind fun ws => (J3K m ids sto (sto.take m)).bind fun l => (J7v sto ids).bind fun q => (J3K m ids sto q).bind fun q => some (one ws, l ++ q) else none
def JiF (res : List JcQ) (fresh : Bool) (m : Nat) (s : St) : Option Res :=
 ((J6v res).run s).bind fun vs => if s.sto.length = m then some (one vs, s.sto) else Jr2 fresh m vs s.sto (J12 m fresh s.sto (J86 s.sto (JY.entsOfL vs []) (JY.entsOfL vs [])))
theorem Ji0 (res : List JcQ) (fresh : Bool) (m : Nat) (s : St) : J4Y ⟨0, 0, .skip, res, fresh⟩ m s = JiF res fresh m s := by
 unfold J4Y JiF
 dsimp only
 cases (J6v res).run s with
 | none => rfl
 | some vs =>
  simp only [Option.bind_some]
  split
  ·rfl
  ·unfold Jr2
   split
   ·generalize J12 m fresh s.sto _ = ids
    cases fin.finL m ids s.sto vs <;> cases J3K m ids s.sto (s.sto.take m) <;> cases J7v s.sto ids <;> try rfl
    rename_i q
    simp only [Option.bind_some]
    cases J3K m ids s.sto q <;> rfl
   ·rfl
theorem JvD (T : J5M) (f : AFn) (m : Nat) (s : St) : rk T f m [] (some (.normal, s)) = JiF f.res f.fresh m s := (JtV T f m s).trans (Ji0 ..)
theorem Jue (T : J5M) (f : AFn) (m : Nat) (s : St) : rk T f m [] (some (.ret, s)) = JiF f.res f.fresh m s := (Jud T f m s).trans (Ji0 ..)
def dds {α : Type} (n new : Nat) (sto : List Blk) (o : Option α) : Option α := match (J7d new n).run ⟨[], sto⟩ with
 | some _ => o
 | none => none
def dd1 {α : Type} (b : Option Blk) (o : Option α) : Option α := match b with
 | some .dead => o
 | _ => none
@[congr] theorem JxP {α : Type} {b b' : Option Blk} {o : Option α} (h : b = b') : dd1 b o = dd1 b' o := by rw [h]
theorem JxT {α : Type} (new : Nat) (sto : List Blk) (o : Option α) : dds 1 new sto o = dd1 sto[new]? o := by
 unfold dds dd1
 simp only [J7d, RM.run]
 cases sto[new]? with
 | none => rfl
 | some b => cases b <;> rfl
section
variable {F : Orc} {r : List J0L} {new d : Nat} {env : List (Nat × AV)} {sto : List Blk}
theorem JnA (n : Nat) : ∀ new, (J7d new n).run ⟨env, sto⟩ = (J7d new n).run ⟨[], sto⟩ := by
 induction n with
 | zero => intro new; rfl
 | succ n ih =>
  intro new
  simp only [J7d, RM.run]
  cases sto[new]? with
  | none => rfl
  | some b => cases b <;> first | exact ih _ | rfl
def lgA (l : Option Log) (a b : List Nat) : Option Log := l.map (· ++ [(a, b)])
def rdO (F : Orc) (op : AOp) (new : Nat) (s : St) : List Nat := Jg ((opD F op new).reads s)
abbrev GR := Option (St × Option Log)
def Jq (F : Orc) : List J0L → Nat → St → Option Log → GR
 | [], _, s, l => some (s, l)
 | i :: r, new, s, l => match (J1L F i new).run s with
  | some e => Jq F r (new + JF i.op) (put i.dst e s) (lgA l (Jg ((J1L F i new).reads s)) (e.ws.map (·.1)))
  | none => none
theorem JrS (F : Orc) (ins : List J0L) : ∀ new s, Jq F ins new s none = (J2Q F ins new s).map fun s => (s, none) := by
 induction ins with
 | nil => intro new s; rfl
 | cons i r ih =>
  intro new s
  simp only [Jq, J2Q]
  cases (J1L F i new).run s with
  | none => rfl
  | some e => exact ih _ _
theorem Jtr (F : Orc) (ins : List J0L) : ∀ new s l, Jq F ins new s (some l) = (J5t F ins new s l).map fun x => (x.1, some x.2) := by
 induction ins with
 | nil => intro new s l; rfl
 | cons i r ih =>
  intro new s l
  simp only [Jq, J5t]
  cases (J1L F i new).run s with
  | none => rfl
  | some e => exact ih _ _ _
def Ju5 (o : GR) : Option Out := match o with
 | some (s, _) => some (.normal, s)
 | none => none
def Jrg (ps : List (Nat × Nat)) (o : GR) : Option Out := match o with
 | some (s, some l) => if J9i l ps = true then some (.normal, s) else none
 | _ => none
theorem JvP (T : J5M) (f : AFn) (m : Nat) (k : List Fr) (d ins env sto) : rk T f m k (X T (.reg d [] ins) ⟨env, sto⟩) = rk T f m k (Ju5 (Jq (AF T) ins sto.length ⟨env, room (news ins) sto⟩ none)) := by
 rw [Jwh, JrS]
 cases J2Q (AF T) ins sto.length ⟨env, room (news ins) sto⟩ <;> rfl
theorem JuY (T : J5M) (f : AFn) (m : Nat) (k : List Fr) (d p ps ins env sto) : rk T f m k (X T (.reg d (p :: ps) ins) ⟨env, sto⟩) = rk T f m k (Jrg (p :: ps) (Jq (AF T) ins sto.length ⟨env, room (news ins) sto⟩ (some []))) := by
 rw [Jup, Jtr]
 simp only [region]
 cases J5t (AF T) ins sto.length ⟨env, room (news ins) sto⟩ [] with
 | none => rfl
 | some x =>
  obtain ⟨s, l⟩ := x
  simp only [Option.map_some, Jrg]
  split <;> rfl
theorem stD {lg : Option Log} (op : AOp) : Jq F (⟨op, some d, none⟩ :: r) new ⟨env, sto⟩ lg = dds (JF op) new sto (((opR F op new).run ⟨env, sto⟩).bind fun e => Jq F r (new + JF op) ⟨(d, e.val) :: env, upd e.ws sto⟩ (lgA lg (rdO F op new ⟨env, sto⟩) (e.ws.map (·.1)))) := by
 have e0 : (J1L F ⟨op, some d, none⟩ new).run ⟨env, sto⟩ = dds (JF op) new sto ((opR F op new).run ⟨env, sto⟩) := by
  simp only [J1L, opD, run_bind, JnA (env := env)]
  unfold dds
  cases (J7d new (JF op)).run ⟨[], sto⟩ <;> rfl
 simp only [Jq, e0]
 unfold dds
 cases (J7d new (JF op)).run ⟨[], sto⟩ with
 | none => rfl
 | some u => simp only []; cases (opR F op new).run ⟨env, sto⟩ <;> rfl
theorem JnM {lg : Option Log} (op : AOp) : Jq F (⟨op, none, none⟩ :: r) new ⟨env, sto⟩ lg = dds (JF op) new sto (((opR F op new).run ⟨env, sto⟩).bind fun e => Jq F r (new + JF op) ⟨env, upd e.ws sto⟩ (lgA lg (rdO F op new ⟨env, sto⟩) (e.ws.map (·.1)))) := by
 have e0 : (J1L F ⟨op, none, none⟩ new).run ⟨env, sto⟩ = dds (JF op) new sto ((opR F op new).run ⟨env, sto⟩) := by
  simp only [J1L, opD, run_bind, JnA (env := env)]
  unfold dds
  cases (J7d new (JF op)).run ⟨[], sto⟩ <;> rfl
 simp only [Jq, e0]
 unfold dds
 cases (J7d new (JF op)).run ⟨[], sto⟩ with
 | none => rfl
 | some u => simp only []; cases (opR F op new).run ⟨env, sto⟩ <;> rfl
theorem st0 {lg : Option Log} {op : AOp} (h : JF op = 0) : Jq F (⟨op, some d, none⟩ :: r) new ⟨env, sto⟩ lg = ((opR F op new).run ⟨env, sto⟩).bind fun e => Jq F r new ⟨(d, e.val) :: env, upd e.ws sto⟩ (lgA lg (rdO F op new ⟨env, sto⟩) (e.ws.map (·.1))) := by
 rw [stD, h]; rfl
theorem JxY {lg : Option Log} {op : AOp} (h : JF op = 0) : Jq F (⟨op, none, none⟩ :: r) new ⟨env, sto⟩ lg = ((opR F op new).run ⟨env, sto⟩).bind fun e => Jq F r new ⟨env, upd e.ws sto⟩ (lgA lg (rdO F op new ⟨env, sto⟩) (e.ws.map (·.1))) := by
 rw [JnM, h]; rfl
def pk (u : AV) (a b : Option AV) : Option AV := match u with
 | .p (.b x) => if x = true then a else b
 | _ => none
@[congr] theorem JxO {α : Type} {n n' new new' : Nat} {sto : List Blk} {o : Option α} (h : n = n') (h' : new = new') : dds n new sto o = dds n' new' sto o := by rw [h, h']
theorem J1F {α : Type} (n new : Nat) (sto : List Blk) : dds n new sto (none : Option α) = none := by
 unfold dds; split <;> rfl
theorem JsW {α β : Type} (n new : Nat) (sto : List Blk) (o : Option α) (g : α → Option β) : dds n new sto (o.bind g) = o.bind fun a => dds n new sto (g a) := by
 cases o with
 | none => exact J1F ..
 | some a => rfl
theorem Jwo {β : Type} {K : Eff → Option β} {o : Option AV} : ((o.bind fun v => some ⟨v, []⟩).bind K) = o.bind fun v => K ⟨v, []⟩ := by cases o <;> rfl
def pkk (a b : Option (List Nat × List Nat)) : Bool := match a, b with
 | some a, some b => J5Y a.2 b.1 && J5Y a.2 b.2 && J5Y a.1 b.2
 | _, _ => false
theorem bi {α β : Type} {o : Option α} {f : α → Option β} {r : β} (h : Option.bind o f = some r) : ∃ x, o = some x ∧ f x = some r := Option.bind_eq_some_iff.1 h
theorem sj {α : Type} {a b : α} (h : some a = some b) : a = b := Option.some.inj h
theorem mi {α β : Type} {o : Option α} {f : α → β} {r : β} (h : Option.map f o = some r) : ∃ x, o = some x ∧ f x = r := Option.map_eq_some_iff.1 h
inductive Dum {α : Type} : α → Type where
 | mk (a : α) : Dum a
def hold {α : Type} (a : α) (_ : Dum a) : α := a
def pkh {β : Type} (u : AV) (a b : Option AV) (K : AV → Option β) : Option β := (pk u a b).bind K
theorem JsV {β : Type} {K : Eff → Option β} {a b : Opd} {o : Option AV} : ((o.bind fun u => RM.run (match u with
  | .p (.b x) => if x = true then (ev a).bind fun v => .ret ⟨v, []⟩ else (ev b).bind fun v => .ret ⟨v, []⟩
  | _ => .fail) ⟨env, sto⟩).bind K) = o.bind fun u => (pk u (evv a env) (evv b env)).bind fun v => K ⟨v, []⟩ := by
 cases o with
 | none => rfl
 | some u =>
  simp only [Option.bind_some]
  cases u with
  | p c =>
   cases c with
   | b x =>
    cases x with
    | true => simp only [if_true, run_bind, J0q, pk]; cases evv a env <;> rfl
    | false => simp only [Bool.false_eq_true, if_false, run_bind, J0q, pk]; cases evv b env <;> rfl
   | _ => rfl
  | _ => rfl
theorem Jel {β : Type} {K : Eff → Option β} {o : Option AV} (g : AV → Option AV) : ((o.bind fun a => (Go.Am.val (g a)).run ⟨env, sto⟩).bind K) = o.bind fun a => (g a).bind fun v => K ⟨v, []⟩ := by
 cases o with
 | none => rfl
 | some a => simp only [Option.bind_some]; cases g a <;> rfl
theorem Jl5 {β : Type} {K : Eff → Option β} {o o' : Option AV} (g : AV → AV → Option AV) : ((o.bind fun a => o'.bind fun c => (Go.Am.val (g a c)).run ⟨env, sto⟩).bind K) = o.bind fun a => o'.bind fun c => (g a c).bind fun v => K ⟨v, []⟩ := by
 cases o with
 | none => rfl
 | some a =>
  cases o' with
  | none => rfl
  | some c => simp only [Option.bind_some]; cases g a c <;> rfl
theorem Jor {β : Type} {o : Option AV} (g : AV → Option Eff) {k : Eff → Option β} : ((o.bind fun a => g a).bind k) = o.bind fun a => (g a).bind k := by
 cases o <;> rfl
theorem JrM {β : Type} {o o' : Option AV} {e b : Nat} {z : List PV} {s : St} {k : Eff → Option β} : ((o.bind fun a => o'.bind fun c => RM.run (match zrs e z c with
  | some c1 => J4t e b a c1
  | none => .fail) s).bind k) = o.bind fun a => o'.bind fun c => (zrs e z c).bind fun c1 => ((J4t e b a c1).run s).bind k := by
 cases o with
 | none => rfl
 | some a => cases o' with
  | none => rfl
  | some c =>
   simp only [Option.bind_some]
   cases zrs e z c <;> rfl
theorem JiA {β : Type} {o o' : Option AV} (g : AV → AV → Option Eff) {k : Eff → Option β} : ((o.bind fun a => o'.bind fun c => g a c).bind k) = o.bind fun a => o'.bind fun c => (g a c).bind k := by
 cases o <;> cases o' <;> rfl
def Jlq (a c : AV) : Option AV := match a, c with
 | .p (.s l), .p (.i _ n) => if 0 ≤ n then
   match l[n.toNat]? with
   | some u => some (.p (.i .u8 u.toNat))
   | none => none
  else none
 | _, _ => none
theorem Jvn {β : Type} {K : Eff → Option β} {o o' : Option AV} : ((o.bind fun a => o'.bind fun c => RM.run (match a, c with
  | .p (.s l), .p (.i _ n) => if 0 ≤ n then
    match l[n.toNat]? with
    | some u => .ret ⟨.p (.i .u8 u.toNat), []⟩
    | none => .fail
   else .fail
  | _, _ => .fail) ⟨env, sto⟩).bind K) = o.bind fun a => o'.bind fun c => (Jlq a c).bind fun v => K ⟨v, []⟩ := by
 cases o with
 | none => rfl
 | some a =>
  cases o' with
  | none => rfl
  | some c =>
   simp only [Option.bind_some, Jlq]
   split
   ·split
    ·split <;> rfl
    ·rfl
   ·rfl
theorem Jx3 (l : List UInt8) (k : IntKind) (n : Int) : Jlq (.p (.s l)) (.p (.i k n)) = (JcR l n).map fun v => .p (.i .u8 v) := by
 simp only [Jlq, JcR]
 by_cases h : 0 ≤ n
 ·simp only [if_pos h]; cases l[n.toNat]? <;> rfl
 ·simp only [if_neg h]; rfl
def Jij (g : Bool) (n e : Nat) (a c : AV) : Option AV := match c with
 | .p (.i _ i) => if 0 ≤ i ∧ i < n then J5W g (i.toNat * e) e a else none
 | _ => none
theorem JvL {β : Type} {K : Eff → Option β} {g : Bool} {n e : Nat} {o o' : Option AV} : ((o.bind fun a => o'.bind fun c => RM.run (match c with
  | .p (.i _ i) => if 0 ≤ i ∧ i < n then Go.Am.val (J5W g (i.toNat * e) e a) else .fail
  | _ => .fail) ⟨env, sto⟩).bind K) = o.bind fun a => o'.bind fun c => (Jij g n e a c).bind fun v => K ⟨v, []⟩ := by
 cases o with
 | none => rfl
 | some a =>
  cases o' with
  | none => rfl
  | some c =>
   simp only [Option.bind_some, Jij]
   split
   ·split
    ·cases J5W g _ e a <;> rfl
    ·rfl
   ·rfl
theorem JwP (g : Bool) (n e : Nat) (cs : List PV) (k : IntKind) (i : Int) : Jij g n e (.data cs) (.p (.i k i)) = if 0 ≤ i ∧ i < n then (sub cs (i.toNat * e) e).bind (J1V g) else none := by
 simp only [Jij, J5W]
 split
 ·cases sub cs (i.toNat * e) e <;> rfl
 ·rfl
def JnQ : AV → Option AV
 | .ptr b o => some (.ptr b o)
 | .cp cs o => some (.cp cs o)
 | .ep b e i o => some (.ep b e i o)
 | .fn f u c => some (.fn f u c)
 | _ => none
theorem JuO {β : Type} {K : Eff → Option β} {o : Option AV} : ((o.bind fun a => RM.run (match a with
  | .ptr b o => .ret ⟨.ptr b o, []⟩
  | .cp cs o => .ret ⟨.cp cs o, []⟩
  | .ep b e i o => .ret ⟨.ep b e i o, []⟩
  | .fn f u c => .ret ⟨.fn f u c, []⟩
  | _ => .fail) ⟨env, sto⟩).bind K) = o.bind fun a => (JnQ a).bind fun v => K ⟨v, []⟩ := by
 cases o with
 | none => rfl
 | some a => cases a <;> rfl
def cvR (k : CK) (a : AV) (new : Nat) : RM Eff := match k, a with
 | .int k, .p (.i _ n) => .ret ⟨.p (.i k (k.wrap n)), []⟩
 | .same, .p (.s l) => .ret ⟨.p (.s l), []⟩
 | .toStr, a => (JT 1 a).bind fun rows => match J6m rows with
  | some l => .ret ⟨.p (.s l), []⟩
  | none => .fail
 | .toBytes own, .p (.s l) => if own then .ret ⟨.slr new 0 l.length, [(new, .arr true 1 (l.map J4B))]⟩ else .ret ⟨.p (.sl 1 (l.map J4B)), []⟩
 | _, _ => .fail
theorem JtT {lg : Option Log} {c : CK} {x : Opd} : Jq F (⟨.conv c x, some d, none⟩ :: r) new ⟨env, sto⟩ lg = (evv x env).bind fun a => dds (JF (.conv c x)) new sto (((cvR c a new).run ⟨env, sto⟩).bind fun e => Jq F r (new + JF (.conv c x)) ⟨(d, e.val) :: env, upd e.ws sto⟩ (lgA lg (rdO F (.conv c x) new ⟨env, sto⟩) (e.ws.map (·.1)))) := by
 rw [stD]
 have : (opR F (.conv c x) new).run ⟨env, sto⟩ = (evv x env).bind fun a => (cvR c a new).run ⟨env, sto⟩ := by
  simp only [opR, run_bind, J0q]; rfl
 rw [this, Jor (fun a => (cvR c a new).run ⟨env, sto⟩), JsW]
theorem Jsg {lg : Option Log} {z : List PV} {ps : List (Nat × Nat × Opd)} : Jq F (⟨.build z ps, some d, none⟩ :: r) new ⟨env, sto⟩ lg = ((J2L ps).run ⟨env, sto⟩).bind fun l => (J0Y l (z.map .p)).bind fun cs => (J1J true cs).bind fun v => Jq F r new ⟨(d, v) :: env, sto⟩ (lgA lg (rdO F (.build z ps) new ⟨env, sto⟩) []) := by
 rw [st0 (h := rfl)]
 simp only [opR, run_bind]
 cases (J2L ps).run ⟨env, sto⟩ with
 | none => rfl
 | some l =>
  simp only [Option.bind_some]
  cases J0Y l (z.map .p) with
  | none => rfl
  | some cs => simp only [Option.bind_some]; cases J1J true cs <;> rfl
def J9A (x : Option Opd) (env : List (Nat × AV)) : Option (Option AV) := match x with
 | none => some none
 | some x => (evv x env).map some
theorem JuC (x : Option Opd) : (evo x).run ⟨env, sto⟩ = J9A x env := by
 cases x with
 | none => rfl
 | some x => simp only [evo, run_bind, J0q, J9A]; cases evv x env <;> rfl
def slR (s : SK) (a : AV) (lo hi mx : Option AV) : RM Eff := match a with
 | .slr b i n => (fz (.slr b i n)).bind fun y => match y.1 with
  | [c] => match J4Z s (.p c) lo hi mx with
   | some v => .ret ⟨v, y.2⟩
   | none => .fail
  | _ => .fail
 | a => Go.Am.val (J4Z s a lo hi mx)
theorem Jsk {lg : Option Log} {s : SK} {x : Opd} {lo hi mx : Option Opd} : Jq F (⟨.slice s x lo hi mx, some d, none⟩ :: r) new ⟨env, sto⟩ lg = (evv x env).bind fun a => (J9A lo env).bind fun lo1 => (J9A hi env).bind fun hi1 => (J9A mx env).bind fun mx1 => ((slR s a lo1 hi1 mx1).run ⟨env, sto⟩).bind fun e => Jq F r new ⟨(d, e.val) :: env, upd e.ws sto⟩ (lgA lg (rdO F (.slice s x lo hi mx) new ⟨env, sto⟩) (e.ws.map (·.1))) := by
 rw [st0 (h := rfl)]
 have : (opR F (.slice s x lo hi mx) new).run ⟨env, sto⟩ = (evv x env).bind fun a => (J9A lo env).bind fun lo => (J9A hi env).bind fun hi => (J9A mx env).bind fun mx => (slR s a lo hi mx).run ⟨env, sto⟩ := by
  simp only [opR, run_bind, J0q, JuC]; rfl
 rw [this]
 cases evv x env with
 | none => rfl
 | some a =>
  cases J9A lo env with
  | none => rfl
  | some lo =>
   cases J9A hi env with
   | none => rfl
   | some hi => cases J9A mx env <;> rfl
def slX (s : SK) (x : AV) (lo hi : Option AV) : Option AV := J4Z s x lo hi none
theorem JqU {lg : Option Log} {z : List PV} : Jq F (⟨.newbox z, some d, none⟩ :: r) new ⟨env, sto⟩ lg = dds 1 new sto (Jq F r (new + 1) ⟨(d, .ptr new 0) :: env, sto.set new (.box (z.map .p))⟩ (lgA lg (rdO F (.newbox z) new ⟨env, sto⟩) [new])) := by
 rw [stD]; rfl
def JoT (e b : Nat) (a : AV) (add : List (List PV)) : Option (List (List PV)) := match a with
 | .p (.slc e' rows) => if e = e' ∧ 0 < add.length ∧ J5n (rows.length + add.length) b = true then some (rows ++ add) else none
 | _ => none
theorem Ju3 {lg : Option Log} {e b : Nat} {z : List PV} {x y : Opd} : Jq F (⟨.appc e b z x y, some d, none⟩ :: r) new ⟨env, sto⟩ lg = (evv x env).bind fun a => (evv y env).bind fun c => ((JT e c).run ⟨env, sto⟩).bind fun add => (JoT e b a add).bind fun rows => dds 1 new sto (Jq F r (new + 1) ⟨(d, .slr new 0 rows.length) :: env, sto.set new (.arr true e rows)⟩ (lgA lg (rdO F (.appc e b z x y) new ⟨env, sto⟩) [new])) := by
 rw [stD]
 simp only [opR, run_bind, J0q, JF]
 cases evv x env with
 | none => exact J1F ..
 | some a =>
  simp only [Option.bind_some]
  cases evv y env with
  | none => exact J1F ..
  | some c =>
   simp only [Option.bind_some]
   cases hq : (JT e c).run ⟨env, sto⟩ with
   | none =>
    have : (JiQ e b a c new).run ⟨env, sto⟩ = none := by
     unfold JiQ; split
     ·simp only [run_bind, hq]; rfl
     ·rfl
    rw [this]; exact J1F ..
   | some add =>
    simp only [Option.bind_some]
    have : (JiQ e b a c new).run ⟨env, sto⟩ = (JoT e b a add).map fun rows => ⟨.slr new 0 rows.length, [(new, .arr true e rows)]⟩ := by
     cases a with
     | p q => cases q with
      | slc e' rows =>
       simp only [JiQ, JoT, run_bind, hq, Option.bind_some]
       split
       ·simp [J29]
       ·rfl
      | _ => rfl
     | _ => rfl
    rw [this]
    cases JoT e b a add with
    | none => exact J1F ..
    | some rows => rfl
theorem Ju8 {lg : Option Log} {e b : Nat} {z : List PV} {y : Opd} : Jq F (⟨.appn e b z y, some d, none⟩ :: r) new ⟨env, sto⟩ lg = (evv y env).bind fun c => ((JT e c).run ⟨env, sto⟩).bind fun rows => if J5n rows.length b = true then dds 1 new sto (Jq F r (new + 1) ⟨(d, .slr new 0 rows.length) :: env, sto.set new (.arr true e rows)⟩ (lgA lg (rdO F (.appn e b z y) new ⟨env, sto⟩) [new])) else none := by
 rw [stD]
 simp only [opR, run_bind, J0q, JF]
 cases evv y env with
 | none => exact J1F ..
 | some c =>
  simp only [Option.bind_some]
  cases (JT e c).run ⟨env, sto⟩ with
  | none => exact J1F ..
  | some rows =>
   simp only [Option.bind_some]
   split
   ·rfl
   ·exact J1F ..
theorem Jse {lg : Option Log} {e : Nat} {x : Opd} : Jq F (⟨.mkarr e x, some d, none⟩ :: r) new ⟨env, sto⟩ lg = dds 1 new sto (Jq F r (new + 1) ⟨(d, .slr new 0 0) :: env, sto.set new (.arr true e [])⟩ (lgA lg (rdO F (.mkarr e x) new ⟨env, sto⟩) [new])) := by
 rw [stD]; rfl
def bxP (n : Nat) (a : AV) : Option (List AV) := match cellsOf a with
 | some cs => if cs.length = n then some cs else none
 | none => none
theorem JuG {lg : Option Log} {n : Nat} {x : Opd} : Jq F (⟨.box n x, some d, none⟩ :: r) new ⟨env, sto⟩ lg = (evv x env).bind fun a => (bxP n a).bind fun cs => dds 1 new sto (Jq F r (new + 1) ⟨(d, .ptr new 0) :: env, sto.set new (.box cs)⟩ (lgA lg (rdO F (.box n x) new ⟨env, sto⟩) [new])) := by
 rw [stD]
 simp only [opR, run_bind, J0q, JF]
 cases evv x env with
 | none => exact J1F ..
 | some a =>
  simp only [Option.bind_some, bxP]
  cases cellsOf a with
  | none => exact J1F ..
  | some cs =>
   dsimp only
   split
   ·rfl
   ·exact J1F ..
def ltR (o : Bool) (e n : Nat) (z : List PV) (ps : List (Nat × Opd)) (new : Nat) : RM Eff := (fzs (ps.map (·.2))).bind fun a =>
  match J4n e ((ps.map (·.1)).zip a.1) (List.replicate n z) with
  | some rows => if o then .ret ⟨.slr new 0 n, a.2 ++ [(new, .arr true e rows)]⟩ else .ret ⟨.p (.sl e rows), a.2⟩
  | none => .fail
theorem Jtk {lg : Option Log} {o : Bool} {e n : Nat} {z : List PV} {ps : List (Nat × Opd)} : Jq F (⟨.lits o e n z ps, some d, none⟩ :: r) new ⟨env, sto⟩ lg = dds (if o then 1 else 0) new sto (((ltR o e n z ps new).run ⟨env, sto⟩).bind fun x => Jq F r (new + if o then 1 else 0) ⟨(d, x.val) :: env, upd x.ws sto⟩ (lgA lg (rdO F (.lits o e n z ps) new ⟨env, sto⟩) (x.ws.map (·.1)))) := by
 rw [stD]; rfl
theorem Jx1 (env : List (Nat × AV)) (sto : List Blk) (o : Bool) (e n new : Nat) (z : List PV) (ps : List (Nat × Opd)) : (ltR o e n z ps new).run ⟨env, sto⟩ = ((fzs (ps.map (·.2))).run ⟨env, sto⟩).bind fun a => (J4n e ((ps.map (·.1)).zip a.1) (List.replicate n z)).map fun rows => if o then ⟨.slr new 0 n, a.2 ++ [(new, .arr true e rows)]⟩ else ⟨.p (.sl e rows), a.2⟩ := by
 simp only [ltR, run_bind]
 cases (fzs (ps.map (·.2))).run ⟨env, sto⟩ with
 | none => rfl
 | some a =>
  simp only [Option.bind_some]
  cases J4n e ((ps.map (·.1)).zip a.1) (List.replicate n z) with
  | none => rfl
  | some rows => cases o <;> rfl
def mkP (o : Bool) (e b : Nat) (z : List PV) (a c : AV) (new : Nat) : Option Eff := match a, c with
 | .p (.i _ n), .p (.i _ m) =>
  if 0 ≤ n ∧ n ≤ m ∧ b * m ≤ 281474976710656 ∧ m ≤ 281474976710656 then
   some (if o then ⟨.slr new 0 n.toNat, [(new, .arr true e (List.replicate n.toNat z))]⟩ else ⟨.p (.sl e (List.replicate n.toNat z)), []⟩)
  else none
 | _, _ => none
theorem Jwb (o : Bool) (e b : Nat) (z : List PV) (a c : AV) (new : Nat) (s : St) : RM.run (match a, c with
  | .p (.i _ n), .p (.i _ m) =>
   if 0 ≤ n ∧ n ≤ m ∧ b * m ≤ 281474976710656 ∧ m ≤ 281474976710656 then
    if o then .ret ⟨.slr new 0 n.toNat, [(new, .arr true e (List.replicate n.toNat z))]⟩
    else .ret ⟨.p (.sl e (List.replicate n.toNat z)), []⟩
   else .fail
  | _, _ => .fail) s = mkP o e b z a c new := by
 unfold mkP
 split
 ·rename_i k n k2 m
  by_cases h : 0 ≤ n ∧ n ≤ m ∧ b * m ≤ 281474976710656 ∧ m ≤ 281474976710656
  ·simp only [if_pos h]; cases o <;> rfl
  ·simp only [if_neg h]; rfl
 ·rfl
theorem Jpl {lg : Option Log} {o : Bool} {e b : Nat} {z : List PV} {l c : Opd} : Jq F (⟨.mkslice o e b z l c, some d, none⟩ :: r) new ⟨env, sto⟩ lg = (evv l env).bind fun a => (evv c env).bind fun x => dds (if o then 1 else 0) new sto ((mkP o e b z a x new).bind fun x => Jq F r (new + if o then 1 else 0) ⟨(d, x.val) :: env, upd x.ws sto⟩ (lgA lg (rdO F (.mkslice o e b z l c) new ⟨env, sto⟩) (x.ws.map (·.1)))) := by
 rw [stD]
 simp only [opR, run_bind, J0q, JF]
 cases evv l env with
 | none => exact J1F ..
 | some a =>
  cases evv c env with
  | none => exact J1F ..
  | some x =>
   simp only [Option.bind_some]
   exact congrArg (fun y => dds (if o then 1 else 0) new sto (y.bind fun x => Jq F r (new + if o then 1 else 0) ⟨(d, x.val) :: env, upd x.ws sto⟩ (lgA lg (rdO F (.mkslice o e b z l c) new ⟨env, sto⟩) (x.ws.map (·.1))))) (Jwb o e b z a x new ⟨env, sto⟩)
def Jo9 (b : Nat) (B : Option Blk) (l : List Nat) : List Nat := match B with
 | some (.box _) => b :: l
 | some (.arr _ _ _) => b :: l
 | _ => l
theorem JvS (m b : Nat) (sto : List Blk) (r : List Ent) : J12 m true sto (.whole b :: r) = if b < m then J12 m true sto r else Jo9 b sto[b]? (J12 m true sto r) := by
 simp only [J12, Jo9]
 split
 ·rfl
 ·split <;> simp_all
theorem Jy0 {α : Type} (n new : Nat) (sto : List Blk) (o : Option α) : dds (n + 1) new sto o = dd1 sto[new]? (dds n (new + 1) sto o) := by
 unfold dds dd1
 simp only [J7d, RM.run]
 cases sto[new]? with
 | none => rfl
 | some b => cases b <;> rfl
theorem JpK {lg : Option Log} {z : List PV} {os : List (Nat × Nat)} : Jq F (⟨.newboxo z os, some d, none⟩ :: r) new ⟨env, sto⟩ lg =
  dds (os.length + 1) new sto (Jq F r (new + (os.length + 1)) ⟨(d, .ptr (new + os.length) 0) :: env, upd (J3p os new ++ [(new + os.length, .box (J7S os new (z.map .p)))]) sto⟩
   (lgA lg (rdO F (.newboxo z os) new ⟨env, sto⟩) ((J3p os new ++ [(new + os.length, Blk.box (J7S os new (z.map .p)))]).map (·.1)))) := by
 rw [stD]; rfl
theorem JqT {lg : Option Log} {e : Nat} {x : Opd} : Jq F (⟨.storen e x, none, none⟩ :: r) new ⟨env, sto⟩ lg =
  (evv x env).bind fun a => dds 1 new sto (((J1y 1 a (.slr new 0 0)).run ⟨env, sto⟩).bind fun q => Jq F r (new + 1) ⟨env, upd ((new, .arr true e []) :: q.ws) sto⟩ (lgA lg (rdO F (.storen e x) new ⟨env, sto⟩) (new :: q.ws.map (·.1)))) := by
 rw [JnM]
 simp only [opR, run_bind, J0q, JF]
 cases evv x env with
 | none => exact J1F ..
 | some a => simp only [Option.bind_some]; cases (J1y 1 a (.slr new 0 0)).run ⟨env, sto⟩ <;> rfl
theorem JqY {lg : Option Log} {z : List PV} {ps : List (Nat × Nat × Opd)} {os : List (Nat × Nat)} : Jq F (⟨.buildo z ps os, some d, none⟩ :: r) new ⟨env, sto⟩ lg =
  ((J2L ps).run ⟨env, sto⟩).bind fun l => (J0Y l (J7S os new (z.map .p))).bind fun cs => (J1J true cs).bind fun v =>
   dds os.length new sto (Jq F r (new + os.length) ⟨(d, v) :: env, upd (J3p os new) sto⟩ (lgA lg (rdO F (.buildo z ps os) new ⟨env, sto⟩) ((J3p os new).map (·.1)))) := by
 rw [stD]
 simp only [opR, run_bind, JF]
 cases (J2L ps).run ⟨env, sto⟩ with
 | none => exact J1F ..
 | some l =>
  simp only [Option.bind_some]
  cases J0Y l (J7S os new (z.map .p)) with
  | none => exact J1F ..
  | some cs =>
   simp only [Option.bind_some]
   cases J1J true cs with
   | none => exact J1F ..
   | some v => rfl
theorem JrQ {lg : Option Log} {g : FuncId} {kp : List Bool} {args : List Opd} {n : Nat} : Jq F (⟨.callo g kp args n, some d, none⟩ :: r) new ⟨env, sto⟩ lg = dds n new sto (((evs args).run ⟨env, sto⟩).bind fun a => ((J2u kp a).run ⟨env, sto⟩).bind fun a => ((J4W F g a n new).run ⟨env, sto⟩).bind fun e => Jq F r (new + n) ⟨(d, e.val) :: env, upd e.ws sto⟩ (lgA lg (rdO F (.callo g kp args n) new ⟨env, sto⟩) (e.ws.map (·.1)))) := by
 rw [stD]
 simp only [opR, run_bind, JF]
 cases (evs args).run ⟨env, sto⟩ with
 | none => rfl
 | some a => simp only [Option.bind_some]; cases (J2u kp a).run ⟨env, sto⟩ <;> rfl
theorem Jqz {lg : Option Log} {g : FuncId} {kp : List Bool} {args : List Opd} {n : Nat} : Jq F (⟨.callo g kp args n, none, none⟩ :: r) new ⟨env, sto⟩ lg = dds n new sto (((evs args).run ⟨env, sto⟩).bind fun a => ((J2u kp a).run ⟨env, sto⟩).bind fun a => ((J4W F g a n new).run ⟨env, sto⟩).bind fun e => Jq F r (new + n) ⟨env, upd e.ws sto⟩ (lgA lg (rdO F (.callo g kp args n) new ⟨env, sto⟩) (e.ws.map (·.1)))) := by
 rw [JnM]
 simp only [opR, run_bind, JF]
 cases (evs args).run ⟨env, sto⟩ with
 | none => rfl
 | some a => simp only [Option.bind_some]; cases (J2u kp a).run ⟨env, sto⟩ <;> rfl
theorem JlV : ∀ l : List AV, J2u [] l = JC l
 | [] => rfl
 | x :: r => by simp only [J2u, JC, JlV r]
theorem Jw2 (x : AV) (m : List Bool) (r : List AV) : (J2u (false :: m) (x :: r)).run ⟨env, sto⟩ = ((JC [x]).run ⟨env, sto⟩).bind fun a => ((J2u m r).run ⟨env, sto⟩).bind fun c => some (a.1 ++ c.1, a.2 ++ c.2) := by
 simp only [J2u, JC, run_bind]
 cases (J85 x).run ⟨env, sto⟩ with
 | none => rfl
 | some a => simp only [Option.bind_some, RM.run]; cases (J2u m r).run ⟨env, sto⟩ <;> simp
theorem Jvh (x : AV) (m : List Bool) (r : List AV) : (J2u (true :: m) (x :: r)).run ⟨env, sto⟩ = ((J2u m r).run ⟨env, sto⟩).bind fun c => some (x :: c.1, c.2) := by
 simp only [J2u, run_bind]
 cases (J2u m r).run ⟨env, sto⟩ <;> rfl
theorem JsF {lg : Option Log} {g : FuncId} {args : List Opd} {n : Nat} : Jq F (⟨.call g args n, some d, none⟩ :: r) new ⟨env, sto⟩ lg = dds n new sto (((evs args).run ⟨env, sto⟩).bind fun a => ((JC a).run ⟨env, sto⟩).bind fun a => ((Jm F g a n new).run ⟨env, sto⟩).bind fun e => Jq F r (new + n) ⟨(d, e.val) :: env, upd e.ws sto⟩ (lgA lg (rdO F (.call g args n) new ⟨env, sto⟩) (e.ws.map (·.1)))) := by
 rw [stD]
 simp only [opR, run_bind, JF, Jcs]
 cases (evs args).run ⟨env, sto⟩ with
 | none => rfl
 | some a => simp only [Option.bind_some]; cases (JC a).run ⟨env, sto⟩ <;> rfl
theorem Jsl {lg : Option Log} {g : FuncId} {args : List Opd} {n : Nat} : Jq F (⟨.call g args n, none, none⟩ :: r) new ⟨env, sto⟩ lg = dds n new sto (((evs args).run ⟨env, sto⟩).bind fun a => ((JC a).run ⟨env, sto⟩).bind fun a => ((Jm F g a n new).run ⟨env, sto⟩).bind fun e => Jq F r (new + n) ⟨env, upd e.ws sto⟩ (lgA lg (rdO F (.call g args n) new ⟨env, sto⟩) (e.ws.map (·.1)))) := by
 rw [JnM]
 simp only [opR, run_bind, JF, Jcs]
 cases (evs args).run ⟨env, sto⟩ with
 | none => rfl
 | some a => simp only [Option.bind_some]; cases (JC a).run ⟨env, sto⟩ <;> rfl
def cvg {α : Type} (u : AV) (k : FuncId → List AV → List AV → Option α) : Option α := match u with
 | .fn f a c => k f a c
 | _ => none
theorem JtW {lg : Option Log} {g : FuncId} {a c : List Opd} : Jq F (⟨.mkfn g a c, some d, none⟩ :: r) new ⟨env, sto⟩ lg = ((evs a).run ⟨env, sto⟩).bind fun a1 => ((evs c).run ⟨env, sto⟩).bind fun c1 => Jq F r new ⟨(d, .fn g a1 c1) :: env, sto⟩ (lgA lg (rdO F (.mkfn g a c) new ⟨env, sto⟩) []) := by
 rw [st0 (h := rfl)]
 simp only [opR, run_bind]
 cases (evs a).run ⟨env, sto⟩ with
 | none => rfl
 | some a1 => simp only [Option.bind_some]; cases (evs c).run ⟨env, sto⟩ <;> rfl
theorem Jsc {lg : Option Log} {g : Opd} {args : List Opd} {n : Nat} : Jq F (⟨.callv g args n, some d, none⟩ :: r) new ⟨env, sto⟩ lg = (evv g env).bind fun u => cvg u fun h a1 c1 => dds n new sto (((evs args).run ⟨env, sto⟩).bind fun a => ((JC (a1 ++ a ++ c1)).run ⟨env, sto⟩).bind fun a => ((Jm F h a n new).run ⟨env, sto⟩).bind fun q => Jq F r (new + n) ⟨(d, q.val) :: env, upd q.ws sto⟩ (lgA lg (rdO F (.callv g args n) new ⟨env, sto⟩) (q.ws.map (·.1)))) := by
 rw [stD]
 simp only [opR, run_bind, J0q, JF]
 cases evv g env with
 | none => exact J1F ..
 | some u =>
  simp only [Option.bind_some]
  cases u with
  | fn h a1 c1 =>
   simp only [cvg, run_bind, Jcs]
   cases (evs args).run ⟨env, sto⟩ with
   | none => rfl
   | some a => simp only [Option.bind_some]; cases (JC (a1 ++ a ++ c1)).run ⟨env, sto⟩ <;> rfl
  | _ => exact J1F ..
theorem Jqv {lg : Option Log} {g : Opd} {args : List Opd} {n : Nat} : Jq F (⟨.callv g args n, none, none⟩ :: r) new ⟨env, sto⟩ lg = (evv g env).bind fun u => cvg u fun h a1 c1 => dds n new sto (((evs args).run ⟨env, sto⟩).bind fun a => ((JC (a1 ++ a ++ c1)).run ⟨env, sto⟩).bind fun a => ((Jm F h a n new).run ⟨env, sto⟩).bind fun q => Jq F r (new + n) ⟨env, upd q.ws sto⟩ (lgA lg (rdO F (.callv g args n) new ⟨env, sto⟩) (q.ws.map (·.1)))) := by
 rw [JnM]
 simp only [opR, run_bind, J0q, JF]
 cases evv g env with
 | none => exact J1F ..
 | some u =>
  simp only [Option.bind_some]
  cases u with
  | fn h a1 c1 =>
   simp only [cvg, run_bind, Jcs]
   cases (evs args).run ⟨env, sto⟩ with
   | none => rfl
   | some a => simp only [Option.bind_some]; cases (JC (a1 ++ a ++ c1)).run ⟨env, sto⟩ <;> rfl
  | _ => exact J1F ..
def grd {α : Type} (x : Option AV) (w : Bool) (a b : Option α) : Option α := match x with
 | some (.p (.b x)) => if x = w then a else b
 | some (.tup []) => b
 | _ => none
end
@[congr] theorem JxL {α : Type} {x x' : Option AV} {w : Bool} {a b : Option α} (h : x = x') : grd x w a b = grd x' w a b := by rw [h]
theorem JuX (F : Orc) (r : List J0L) (new : Nat) (env : List (Nat × AV)) (sto : List Blk) (lg : Option Log) (op : AOp) (d : Option Nat) (g : Nat) (w : Bool) :
  Jq F (⟨op, d, some (g, w)⟩ :: r) new ⟨env, sto⟩ lg = grd (lk g env) w (Jq F (⟨op, d, none⟩ :: r) new ⟨env, sto⟩ lg) (Jq F r (new + JF op) (put d ⟨J0O, []⟩ ⟨env, sto⟩) (lgA lg [] [])) := by
 simp only [Jq, J1L, RM.run, RM.reads]
 cases lk g env with
 | none => rfl
 | some v =>
  dsimp only
  cases v with
  | p c =>
   cases c with
   | b x =>
    simp only [grd]
    by_cases h : x = w
    ·subst h; simp only [if_true]; rfl
    ·simp only [if_neg h]; rfl
   | _ => rfl
  | tup l => cases l <;> rfl
  | _ => rfl
def JqR (k : Nat) (v : Option AV) (l : List (Nat × AV)) : List (Nat × AV) := match v with
 | some v => (k, v) :: l
 | none => l
def Jo0 (cs : List AV) (l : Option (List PV)) : AV := match l with
 | some l => .data l
 | none => .agg cs
def ldB (g : Bool) (n off : Nat) (B : Blk) : Option Eff := match B with
 | .box cs => (sub cs off n).bind fun l => (J1J g l).map fun v => ⟨v, []⟩
 | _ => none
def ldE (g : Bool) (n e i off : Nat) (B : Blk) : Option Eff := match B with
 | .arr _ _ rows => if e = rows.length then rows[i]?.bind fun row => (sub row off n).bind fun l => (J1V g l).map fun v => ⟨v, []⟩ else none
 | _ => none
theorem Jv6 (env : List (Nat × AV)) (sto : List Blk) (g : Bool) (n : Nat) (cs : List PV) (off : Nat) : (J27 g n (.cp cs off)).run ⟨env, sto⟩ = (sub cs off n).bind fun l => (J1V g l).map fun v => ⟨v, []⟩ := by
 simp only [J27]
 cases sub cs off n with
 | none => rfl
 | some l => simp only [Option.bind_some]; cases J1V g l <;> rfl
theorem Jv0 (env : List (Nat × AV)) (sto : List Blk) (g : Bool) (n b off : Nat) : (J27 g n (.ptr b off)).run ⟨env, sto⟩ = sto[b]?.bind fun B => ldB g n off B := by
 simp only [J27, J6Z]
 cases sto[b]? with
 | none => rfl
 | some B =>
  cases B with
  | box cs =>
   simp only [Option.bind_some, ldB]
   cases sub cs off n with
   | none => rfl
   | some l => simp only [Option.bind_some]; cases J1J g l <;> rfl
  | _ => rfl
theorem Jxy (g : Bool) (n off : Nat) (cs : List PV) : ldB g n off (.box (cs.map AV.p)) = (sub cs off n).bind fun l => (J1V g l).map fun v => ⟨v, []⟩ := by
 simp only [ldB, JtA]
 cases sub cs off n with
 | none => rfl
 | some l =>
  simp only [Option.map_some, Option.bind_some]
  cases g with
  | true => rw [JhV]; rfl
  | false => match l with
   | [] => rfl
   | [_] => rfl
   | _ :: _ :: _ => rfl
theorem JuH (env : List (Nat × AV)) (sto : List Blk) (g : Bool) (n b e i off : Nat) : (J27 g n (.ep b e i off)).run ⟨env, sto⟩ = sto[b]?.bind fun B => ldE g n e i off B := by
 simp only [J27, J6Z]
 cases sto[b]? with
 | none => rfl
 | some B =>
  cases B with
  | arr w z rows =>
   simp only [Option.bind_some, ldE]
   split
   ·cases rows[i]? with
    | none => rfl
    | some row =>
     simp only [Option.bind_some]
     cases sub row off n with
     | none => rfl
     | some l => simp only [Option.bind_some]; cases J1V g l <;> rfl
   ·rfl
  | _ => rfl
def stB (n b off : Nat) (l : List AV) (B : Blk) : Option Eff := match B with
 | .box cs => if l.length = n then (spl cs off l).map fun cs => ⟨J0O, [(b, .box cs)]⟩ else none
 | _ => none
theorem JuI (env : List (Nat × AV)) (sto : List Blk) (n b off : Nat) (v : AV) : (J1y n (.ptr b off) v).run ⟨env, sto⟩ = sto[b]?.bind fun B => (cellsOf v).bind fun l => stB n b off l B := by
 simp only [J1y, J6Z]
 cases sto[b]? with
 | none => rfl
 | some B =>
  simp only [Option.bind_some]
  cases B with
  | box cs =>
   dsimp only
   cases cellsOf v with
   | none => rfl
   | some l =>
    simp only [Option.bind_some, stB]
    split
    ·cases spl cs off l <;> rfl
    ·rfl
  | dead => cases cellsOf v <;> rfl
  | arr w z rows => cases cellsOf v <;> rfl
theorem Juq (n b off : Nat) (cs vs : List PV) : stB n b off (vs.map AV.p) (.box (cs.map AV.p)) = if vs.length = n then (spl cs off vs).map fun cs => ⟨J0O, [(b, .box (cs.map AV.p))]⟩ else none := by
 simp only [stB, List.length_map, JnX]
 split
 ·cases spl cs off vs <;> rfl
 ·rfl
theorem Jxq (b off : Nat) (cs : List PV) (v : PV) : stB 1 b off [AV.p v] (.box (cs.map AV.p)) = (spl cs off [v]).map fun cs => ⟨J0O, [(b, .box (cs.map AV.p))]⟩ := by
 have := Juq 1 b off cs [v]
 simpa using this
def stE (n b e i off : Nat) (v : AV) (B : Blk) (s : St) : Option Eff := match B with
 | .arr true z rows => if e = rows.length then
   match rows[i]? with
   | some row => ((fz v).run s).bind fun a =>
    if a.1.length = n ∧ (a.2.all fun y => y.1 != b) = true then
     match spl row off a.1 with
     | some row' => some ⟨J0O, a.2 ++ [(b, .arr true z (rows.set i row'))]⟩
     | none => none
    else none
   | none => none
  else none
 | _ => none
theorem Jva (env : List (Nat × AV)) (sto : List Blk) (n b e i off : Nat) (v : AV) : (J1y n (.ep b e i off) v).run ⟨env, sto⟩ = sto[b]?.bind fun B => stE n b e i off v B ⟨env, sto⟩ := by
 simp only [J1y, J6Z]
 cases sto[b]? with
 | none => rfl
 | some B =>
  simp only [Option.bind_some]
  cases B with
  | arr w z rows =>
   cases w with
   | false => rfl
   | true =>
    simp only [stE]
    split
    ·cases rows[i]? with
     | none => rfl
     | some row =>
      simp only [run_bind]
      cases (fz v).run ⟨env, sto⟩ with
      | none => rfl
      | some a =>
       simp only [Option.bind_some]
       split
       ·cases spl row off a.1 <;> rfl
       ·rfl
    ·rfl
  | _ => rfl
theorem Jxp (n b e i off z : Nat) (c : PV) (rows : List (List PV)) (s : St) : stE n b e i off (.p c) (.arr true z rows) s = if e = rows.length then rows[i]?.bind fun row => if 1 = n then (spl row off [c]).map fun row => ⟨J0O, [(b, .arr true z (rows.set i row))]⟩ else none else none := by
 simp only [stE, fz, J29, Option.bind_some]
 split
 ·cases rows[i]? with
  | none => rfl
  | some row =>
   simp only [Option.bind_some, List.length_cons, List.length_nil, List.all_nil, and_true]
   simp only [Nat.zero_add]
   split
   ·cases spl row off [c] <;> rfl
   ·rfl
 ·rfl
theorem Jxv (n b e i off z : Nat) (cs : List PV) (rows : List (List PV)) (s : St) : stE n b e i off (.data cs) (.arr true z rows) s = if e = rows.length then rows[i]?.bind fun row => if cs.length = n then (spl row off cs).map fun row => ⟨J0O, [(b, .arr true z (rows.set i row))]⟩ else none else none := by
 simp only [stE, fz, J29, Option.bind_some]
 split
 ·cases rows[i]? with
  | none => rfl
  | some row =>
   simp only [Option.bind_some, List.all_nil, and_true]
   split
   ·cases spl row off cs <;> rfl
   ·rfl
 ·rfl
theorem JwU (n : Nat) (cs : List PV) : bxP n (.data cs) = if cs.length = n then some (cs.map AV.p) else none := by simp [bxP, cellsOf]
theorem Jte (env : List (Nat × AV)) (sto : List Blk) (e : Nat) (rows : List (List PV)) (k : IntKind) (n : Int) : (J3d e (.p (.sl e rows)) (.p (.i k n))).run ⟨env, sto⟩ = (Jcc rows n).map fun row => ⟨.cp row 0, []⟩ := by
 simp only [J3d, if_true]
 cases Jcc rows n <;> rfl
def iaB (e b m : Nat) (n : Int) (B : Blk) : Option Eff := match B with
 | .arr _ esz' rows => if e = esz' ∧ 0 + m = rows.length ∧ 0 ≤ n ∧ n < m then some ⟨.ep b rows.length (0 + n.toNat) 0, []⟩ else none
 | _ => none
theorem Jtn (env : List (Nat × AV)) (sto : List Blk) (e b m : Nat) (k : IntKind) (n : Int) : (J3d e (.slr b 0 m) (.p (.i k n))).run ⟨env, sto⟩ = sto[b]?.bind fun B => iaB e b m n B := by
 simp only [J3d, J6Z]
 cases sto[b]? with
 | none => rfl
 | some B =>
  cases B with
  | arr w z rows => simp only [Option.bind_some, iaB]; split <;> rfl
  | _ => rfl
theorem Jw3 (e b m : Nat) (n : Int) (w : Bool) (rows : List (List PV)) : iaB e b m n (.arr w e rows) = if m = rows.length ∧ 0 ≤ n ∧ n < m then some ⟨.ep b rows.length n.toNat 0, []⟩ else none := by
 simp [iaB]
theorem Jtl (env : List (Nat × AV)) (sto : List Blk) (l : List Int) (new : Nat) : (cvR .toStr (.p (.sl 1 (l.map (r_i .u8)))) new).run ⟨env, sto⟩ = some ⟨.p (.s (toStr l)), []⟩ := by
 simp only [cvR, JT, if_true, run_bind, J29, Option.bind_some, Jf2]
def cvB (n : Nat) (B : Blk) : Option Eff := match B with
 | .arr _ z rows => if 1 = z ∧ 0 + n = rows.length then
   match J6m (rows.drop 0) with
   | some l => some ⟨.p (.s l), []⟩
   | none => none
  else none
 | _ => none
theorem JtH (env : List (Nat × AV)) (sto : List Blk) (b n new : Nat) : (cvR .toStr (.slr b 0 n) new).run ⟨env, sto⟩ = sto[b]?.bind fun B => cvB n B := by
 simp only [cvR, JT, run_bind, J6Z]
 cases sto[b]? with
 | none => rfl
 | some B =>
  cases B with
  | arr w z rows =>
   simp only [Option.bind_some, cvB]
   split
   ·simp only [J29, Option.bind_some]; cases J6m (rows.drop 0) <;> rfl
   ·rfl
  | _ => rfl
theorem JvQ (n : Nat) (w : Bool) (l : List Int) : cvB n (.arr w 1 (l.map (r_i .u8))) = if n = l.length then some ⟨.p (.s (toStr l)), []⟩ else none := by
 simp only [cvB, List.drop_zero, Jf2, List.length_map, Nat.zero_add, true_and]
theorem JsM (env : List (Nat × AV)) (sto : List Blk) (l : List UInt8) (new : Nat) : (cvR (.toBytes false) (.p (.s l)) new).run ⟨env, sto⟩ = some ⟨.p (.sl 1 ((J9S l).map (r_i .u8))), []⟩ := by
 simp [cvR, Jj9]
theorem JrP (env : List (Nat × AV)) (sto : List Blk) (l : List UInt8) (new : Nat) : (cvR (.toBytes true) (.p (.s l)) new).run ⟨env, sto⟩ = some ⟨.slr new 0 (J9S l).length, [(new, .arr true 1 ((J9S l).map (r_i .u8)))]⟩ := by
 have : (J9S l).length = l.length := by simp [J9S]
 simp [cvR, Jj9, this]
theorem Jw9 (env : List (Nat × AV)) (sto : List Blk) (off size : Nat) (x : Opd) (r : List (Nat × Nat × Opd)) : (J2L ((off, size, x) :: r)).run ⟨env, sto⟩ = (evv x env).bind fun v => (cellsOf v).bind fun cs => ((J2L r).run ⟨env, sto⟩).bind fun l => some ((off, size, cs) :: l) := by
 simp only [J2L, run_bind, J0q]
 cases evv x env with
 | none => rfl
 | some v =>
  simp only [Option.bind_some]
  cases cellsOf v with
  | none => rfl
  | some cs => simp only [Option.bind_some, run_bind]; cases (J2L r).run ⟨env, sto⟩ <;> rfl
theorem Jo8 (off size : Nat) (vs cs : List PV) (r : List (Nat × Nat × List AV)) : J0Y ((off, size, vs.map AV.p) :: r) (cs.map AV.p) = if vs.length = size then (spl cs off vs).bind fun cs => J0Y r (cs.map AV.p) else none := by
 simp only [J0Y, List.length_map, JnX]
 split
 ·cases spl cs off vs <;> rfl
 ·rfl
theorem JsR (off : Nat) (v : PV) (cs : List PV) (r : List (Nat × Nat × List AV)) : J0Y ((off, 1, [AV.p v]) :: r) (cs.map AV.p) = (spl cs off [v]).bind fun cs => J0Y r (cs.map AV.p) := by
 have := Jo8 off 1 [v] cs r
 simpa using this
theorem Jx8 (env : List (Nat × AV)) (sto : List Blk) (x : Opd) (r : List Opd) : (evs (x :: r)).run ⟨env, sto⟩ = (evv x env).bind fun v => ((evs r).run ⟨env, sto⟩).bind fun vs => some (v :: vs) := by
 simp only [evs, run_bind, J0q]; rfl
theorem Je2 (env : List (Nat × AV)) (sto : List Blk) {v : AV} (h : J85 v = .ret (v, [])) (r : List AV) : (JC (v :: r)).run ⟨env, sto⟩ = ((JC r).run ⟨env, sto⟩).bind fun a => some (v :: a.1, a.2) := by
 simp only [JC, h, run_bind, J29, Option.bind_some, List.nil_append]
def frz (b n : Nat) (B : Blk) : Option (AV × (Nat × Blk)) := match B with
 | .arr _ z rows => if n = rows.length then some (.p (.sl z rows), (b, .arr false z rows)) else none
 | _ => none
def frp (b n : Nat) (B : Blk) : Option (PV × (Nat × Blk)) := match B with
 | .arr _ z rows => if n = rows.length then some (.sl z rows, (b, .arr false z rows)) else none
 | _ => none
theorem Jom (env : List (Nat × AV)) (sto : List Blk) (b n : Nat) : (fz (.slr b 0 n)).run ⟨env, sto⟩ = sto[b]?.bind fun B => (frp b n B).bind fun x => some ([x.1], [x.2]) := by
 simp only [fz, J6Z]
 cases sto[b]? with
 | none => rfl
 | some B =>
  cases B with
  | arr w z rows =>
   simp only [Option.bind_some, frp, Nat.zero_add, List.drop_zero]
   split <;> rfl
  | _ => rfl
theorem Jvo (env : List (Nat × AV)) (sto : List Blk) (b n : Nat) : (fz.fz1 (.slr b 0 n)).run ⟨env, sto⟩ = sto[b]?.bind fun B => (frp b n B).bind fun x => some ([x.1], [x.2]) := by
 simp only [fz.fz1, J6Z]
 cases sto[b]? with
 | none => rfl
 | some B =>
  cases B with
  | arr w z rows =>
   simp only [Option.bind_some, frp, Nat.zero_add, List.drop_zero]
   split <;> rfl
  | _ => rfl
theorem Juf (env : List (Nat × AV)) (sto : List Blk) (b n : Nat) (r : List AV) : (JC (.slr b 0 n :: r)).run ⟨env, sto⟩ = sto[b]?.bind fun B => (frz b n B).bind fun x => ((JC r).run ⟨env, sto⟩).bind fun a => some (x.1 :: a.1, x.2 :: a.2) := by
 simp only [JC, J85, run_bind, Jom]
 cases sto[b]? with
 | none => rfl
 | some B =>
  cases B with
  | arr w z rows =>
   simp only [Option.bind_some, frp, frz]
   split
   ·simp only [Option.bind_some, J29]; cases (JC r).run ⟨env, sto⟩ <;> rfl
   ·rfl
  | _ => rfl
theorem Ju1 (env : List (Nat × AV)) (sto : List Blk) (cs r : List AV) : (JC (.agg cs :: r)).run ⟨env, sto⟩ = ((fz.fzL cs).run ⟨env, sto⟩).bind fun x => ((JC r).run ⟨env, sto⟩).bind fun a => some (.data x.1 :: a.1, x.2 ++ a.2) := by
 simp only [JC, J85, run_bind, fz]
 cases (fz.fzL cs).run ⟨env, sto⟩ with
 | none => rfl
 | some x => simp only [Option.bind_some, J29]
theorem Ju9 (env : List (Nat × AV)) (sto : List Blk) (c : PV) (r : List AV) : (fz.fzL (.p c :: r)).run ⟨env, sto⟩ = ((fz.fzL r).run ⟨env, sto⟩).bind fun a => some (c :: a.1, a.2) := by
 simp only [fz.fzL, fz.fz1, run_bind, J29, Option.bind_some]; rfl
theorem Jtu (env : List (Nat × AV)) (sto : List Blk) (b n : Nat) (r : List AV) : (fz.fzL (.slr b 0 n :: r)).run ⟨env, sto⟩ = sto[b]?.bind fun B => (frp b n B).bind fun x => ((fz.fzL r).run ⟨env, sto⟩).bind fun a => some (x.1 :: a.1, x.2 :: a.2) := by
 simp only [fz.fzL, run_bind, Jvo]
 cases sto[b]? with
 | none => rfl
 | some B =>
  simp only [Option.bind_some]
  cases frp b n B with
  | none => rfl
  | some x => simp only [Option.bind_some]; cases (fz.fzL r).run ⟨env, sto⟩ <;> rfl
theorem JwG (env : List (Nat × AV)) (sto : List Blk) (b : Nat) : (J9d [] b).run ⟨env, sto⟩ = sto[b]? := by
 simp only [J9d, J6Z]
 cases sto[b]? <;> rfl
theorem Jta (env : List (Nat × AV)) (sto : List Blk) (e : Nat) (rows : List (List PV)) : (JT e (.p (.sl e rows))).run ⟨env, sto⟩ = some rows := by simp [JT]
theorem JtF (env : List (Nat × AV)) (sto : List Blk) (l : List UInt8) : (JT 1 (.p (.s l))).run ⟨env, sto⟩ = some ((J9S l).map (r_i .u8)) := by simp [JT, Jj9]
def roB (e n : Nat) (B : Blk) : Option (List (List PV)) := match B with
 | .arr _ z rows => if e = z ∧ 0 + n = rows.length then some (rows.drop 0) else none
 | _ => none
theorem JsJ (env : List (Nat × AV)) (sto : List Blk) (e b n : Nat) : (JT e (.slr b 0 n)).run ⟨env, sto⟩ = sto[b]?.bind fun B => roB e n B := by
 simp only [JT, J6Z]
 cases sto[b]? with
 | none => rfl
 | some B =>
  cases B with
  | arr w z rows => simp only [Option.bind_some, roB]; split <;> rfl
  | _ => rfl
theorem Jto (e n : Nat) (w : Bool) (rows : List (List PV)) : roB e n (.arr w e rows) = if n = rows.length then some rows else none := by simp [roB]
theorem Jwp (env : List (Nat × AV)) (sto : List Blk) (x : Opd) (r : List Opd) : (fzs (x :: r)).run ⟨env, sto⟩ = (evv x env).bind fun v => ((fz v).run ⟨env, sto⟩).bind fun a => ((fzs r).run ⟨env, sto⟩).bind fun c => some (a.1 :: c.1, a.2 ++ c.2) := by
 simp only [fzs, run_bind, J0q]; rfl
theorem JrX (env : List (Nat × AV)) (sto : List Blk) (b n : Nat) : (fz (.slr b 0 n)).run ⟨env, sto⟩ = sto[b]?.bind fun B => (frp b n B).bind fun x => some ([x.1], [x.2]) := Jom ..
theorem Ju4 (env : List (Nat × AV)) (sto : List Blk) (s : SK) (c : PV) (lo hi : Option AV) : (slR s (.p c) lo hi none).run ⟨env, sto⟩ = (slX s (.p c) lo hi).map fun v => ⟨v, []⟩ := by
 simp only [slR, slX]
 cases J4Z s (.p c) lo hi none <;> rfl
theorem JtZ (env : List (Nat × AV)) (sto : List Blk) (s : SK) (b n : Nat) (lo hi : Option AV) : (slR s (.slr b 0 n) lo hi none).run ⟨env, sto⟩ = sto[b]?.bind fun B => (frz b n B).bind fun x => (slX s x.1 lo hi).map fun v => ⟨v, [x.2]⟩ := by
 simp only [slR, run_bind, Jom]
 cases sto[b]? with
 | none => rfl
 | some B =>
  cases B with
  | arr w z rows =>
   simp only [Option.bind_some, frp, frz]
   split
   ·simp only [Option.bind_some, slX]; cases J4Z s (.p (.sl z rows)) lo hi none <;> rfl
   ·rfl
  | _ => rfl
theorem Jwu (n : Nat) (live : List Nat) (env : List (Nat × AV)) (sto : List Blk) : J61 n live ⟨env, sto⟩ = if sto.length = n then some ⟨restr live env, sto⟩ else (J92 n sto (restr live env)).bind fun e => (J3K n [] sto (sto.take n)).bind fun l => some ⟨e, l⟩ := by
 simp only [J61]
 split
 ·rfl
 ·cases J92 n sto (restr live env) with
  | none => rfl
  | some e => cases J3K n [] sto (sto.take n) <;> rfl
theorem Jwi (m k : Nat) (sto : List Blk) (x : AV) (r : List (Nat × AV)) : J92 m sto ((k, x) :: r) = (fin m [] sto x).bind fun y => (J92 m sto r).bind fun l => some ((k, y) :: l) := by
 simp only [J92]
 cases fin m [] sto x with
 | none => rfl
 | some y => cases J92 m sto r <;> rfl
theorem Jx6 (m : Nat) (ids : List Nat) (sto : List Blk) (x : Blk) (r : List Blk) : J3K m ids sto (x :: r) = (J4T m ids sto x).bind fun y => (J3K m ids sto r).bind fun l => some (y :: l) := by
 simp only [J3K]
 cases J4T m ids sto x with
 | none => rfl
 | some y => cases J3K m ids sto r <;> rfl
theorem JuP (m : Nat) (ids : List Nat) (sto : List Blk) (cs : List AV) : J4T m ids sto (.box cs) = (fin.finL m ids sto cs).map .box := by
 simp only [J4T]
 cases fin.finL m ids sto cs <;> rfl
theorem JwO (m : Nat) (ids : List Nat) (sto : List Blk) (x : AV) (r : List AV) : fin.finL m ids sto (x :: r) = (fin m ids sto x).bind fun y => (fin.finL m ids sto r).bind fun l => some (y :: l) := by
 simp only [fin.finL]
 cases fin m ids sto x with
 | none => rfl
 | some y => cases fin.finL m ids sto r <;> rfl
def fsl (k : Option Nat) (n : Nat) (B : Option Blk) : Option AV := match k with
 | some k => some (.slr k 0 n)
 | none => match B with
  | some (.arr _ z rows) => if n = rows.length then some (.p (.sl z rows)) else none
  | _ => none
theorem JuV (m : Nat) (ids : List Nat) (sto : List Blk) (b n : Nat) : fin m ids sto (.slr b 0 n) = if b < m then some (.slr b 0 n) else fsl (J8T b ids m) n sto[b]? := by
 simp only [fin]
 split
 ·rfl
 ·cases J8T b ids m with
  | some k => rfl
  | none =>
   simp only [fsl]
   cases sto[b]? with
   | none => rfl
   | some B => cases B <;> simp
theorem Jvr (m : Nat) (ids : List Nat) (sto : List Blk) (cs : List AV) : fin m ids sto (.agg cs) = (fin.finL m ids sto cs).bind fun l => some (Jo0 l (unp l)) := by
 simp only [fin]
 cases fin.finL m ids sto cs with
 | none => rfl
 | some l => simp only [Option.bind_some]; cases unp l <;> rfl
theorem Jv5 (m : Nat) (ids : List Nat) (sto : List Blk) (x : AV) (cs : List AV) : fin m ids sto (.tup (x :: cs)) = (fin.finL m ids sto (x :: cs)).map .tup := by
 simp only [fin]
 cases fin.finL m ids sto (x :: cs) <;> rfl
theorem JsA (env : List (Nat × AV)) (sto : List Blk) (t : Nat) (r : List JcQ) : (J6v (.tmp t :: r)).run ⟨env, sto⟩ = (lk t env).bind fun v => ((J6v r).run ⟨env, sto⟩).bind fun l => some (v :: l) := by
 simp only [J6v, run_bind, JnC, J29]
 cases lk t env <;> rfl
theorem Jth (env : List (Nat × AV)) (sto : List Blk) (t n : Nat) (g : Bool) (r : List JcQ) : (J6v (.cell t g n :: r)).run ⟨env, sto⟩ = (lk t env).bind fun v => ((J27 g n v).run ⟨env, sto⟩).bind fun e => ((J6v r).run ⟨env, sto⟩).bind fun l => some (e.val :: l) := by
 simp only [J6v, run_bind, JnC, J29]
 cases lk t env <;> rfl
def oid (b : Nat) (B : Option Blk) (l : List Nat) : List Nat := match B with
 | some (.box _) => b :: l
 | _ => l
theorem JwD (m b : Nat) (sto : List Blk) (r : List Ent) : J12 m false sto (.whole b :: r) = if b < m then J12 m false sto r else oid b sto[b]? (J12 m false sto r) := by
 simp only [J12]
 split
 ·rfl
 ·unfold oid
  cases sto[b]? with
  | none => rfl
  | some B => cases B <;> simp
def ebb (B : Option Blk) (acc : List Ent) : List Ent := match B with
 | some (.box cs) => JY.entsOfL cs acc
 | _ => acc
theorem Jwn (sto : List Blk) (b : Nat) (r acc : List Ent) : J86 sto (.whole b :: r) acc = J86 sto r (ebb sto[b]? acc) := by
 simp only [J86, ebb]
 cases sto[b]? with
 | none => rfl
 | some B => cases B <;> rfl
theorem JwY (b c : Nat) (r : List Ent) : J8k (.whole b) (.whole c :: r) = if c = b then .whole c :: r else .whole c :: J8k (.whole b) r := by
 simp only [J8k, List.any_cons]
 by_cases h : c = b
 ·subst h; simp
 ·simp [h]
  split <;> simp_all
theorem JwM (sto : List Blk) (b : Nat) (r : List Nat) : J7v sto (b :: r) = sto[b]?.bind fun x => (J7v sto r).bind fun l => some (x :: l) := by
 simp only [J7v]
 cases sto[b]? with
 | none => rfl
 | some x => cases J7v sto r <;> rfl
theorem Jtc {α : Type} (a : α) (cs : List α) (n : Nat) : sub (a :: cs) 0 (n + 1) = (sub cs 0 n).map (a :: ·) := by
 rw [J6E, J6E]
 by_cases h : n ≤ cs.length
 ·rw [if_pos (by simp; omega), if_pos (by omega)]; simp
 ·rw [if_neg (by simp; omega), if_neg (by omega)]; rfl
theorem JsZ {α : Type} (a : α) (cs : List α) (n m : Nat) : sub (a :: cs) (n + 1) m = sub cs n m := by
 rw [J6E, J6E]
 by_cases h : n + m ≤ cs.length
 ·rw [if_pos (by simp; omega), if_pos h]; simp
 ·rw [if_neg (by simp; omega), if_neg h]
theorem Jtd {α : Type} (a b : α) (cs vs : List α) : spl (a :: cs) 0 (b :: vs) = (spl cs 0 vs).map (b :: ·) := by
 rw [J7D, J7D]
 by_cases h : vs.length ≤ cs.length
 ·rw [if_pos (by simp; omega), if_pos (by omega)]; simp
 ·rw [if_neg (by simp; omega), if_neg (by omega)]; rfl
theorem JsC {α : Type} (a : α) (cs : List α) (n : Nat) (vs : List α) : spl (a :: cs) (n + 1) vs = (spl cs n vs).map (a :: ·) := by
 rw [J7D, J7D]
 by_cases h : n + vs.length ≤ cs.length
 ·rw [if_pos (by simp; omega), if_pos h]
  rw [show n + 1 + vs.length = (n + vs.length) + 1 by omega]; simp
 ·rw [if_neg (by simp; omega), if_neg h]; rfl
theorem JsE (off size : Nat) (c : List AV) (a : AV) (cs : List AV) (r : List (Nat × Nat × List AV)) : J0Y ((off, size, c) :: r) (a :: cs) = if c.length = size then (spl (a :: cs) off c).bind fun cs => J0Y r cs else none := by
 simp only [J0Y]
 split
 ·cases spl (a :: cs) off c <;> rfl
 ·rfl
theorem Jvg (m : Nat) (ids : List Nat) (sto : List Blk) (f : FuncId) (a c : List AV) : fin m ids sto (.fn f a c) = (fin.finL m ids sto a).bind fun a1 => (fin.finL m ids sto c).bind fun c1 => some (.fn f a1 c1) := by
 simp only [fin]
 cases fin.finL m ids sto a with
 | none => rfl
 | some a1 => cases fin.finL m ids sto c <;> rfl
def lwO (x y : Option Blk) : Option Blk := match x with
 | some x => some x
 | none => y
theorem Jwr (b c : Nat) (x : Blk) (r : List (Nat × Blk)) : J2v b ((c, x) :: r) = lwO (J2v b r) (if c = b then some x else none) := by
 simp only [J2v]
 cases J2v b r <;> rfl
theorem Jvy (env : List (Nat × AV)) (sto : List Blk) (b c : Nat) (x : Blk) (ws : List (Nat × Blk)) : (J9d ((c, x) :: ws) b).run ⟨env, sto⟩ = sto[b]?.bind fun y => some ((J2v b ((c, x) :: ws)).getD y) := by
 simp only [J9d, J6Z]
 cases sto[b]? with
 | none => rfl
 | some y => simp only [Option.bind_some]; cases J2v b ((c, x) :: ws) <;> rfl
@[congr] theorem JxN {α : Type} {u u' : AV} {k : FuncId → List AV → List AV → Option α} (h : u = u') : cvg u k = cvg u' k := by rw [h]
theorem JiL (x : Opd) (s : St) : Jg ((ev x).reads s) = [] := by
 cases x with
 | t n => simp only [ev, RM.reads]; cases lk n s.env <;> rfl
 | c v => rfl
theorem JqQ (a b : List Loc) : Jg (a ++ b) = Jg a ++ Jg b := by
 induction a with
 | nil => rfl
 | cons x r ih => cases x <;> simp [Jg, ih]
def rb {α β : Type} (m : Option α) (f : α → List β) : List β := match m with
 | some a => f a
 | none => []
theorem J17 {α β : Type} (m : RM α) (f : α → RM β) (s : St) : Jg ((m.bind f).reads s) = Jg (m.reads s) ++ rb (m.run s) fun a => Jg ((f a).reads s) := by
 rw [JaH, JqQ]
 cases m.run s <;> rfl
theorem Jch {β : Type} (x : Opd) (f : AV → RM β) (s : St) : Jg (((ev x).bind f).reads s) = rb (evv x s.env) fun a => Jg ((f a).reads s) := by
 rw [J17, JiL, J0q]; rfl
theorem Jdq (o : Option AV) (s : St) : Jg ((Go.Am.val o).reads s) = [] := by cases o <;> rfl
section
variable (F : Orc) (new : Nat) (env : List (Nat × AV)) (sto : List Blk)
theorem Jck {op : AOp} (h : JF op = 0) (s : St) : rdO F op new s = Jg ((opR F op new).reads s) := by
 unfold rdO opD
 rw [J17, h]; rfl
def is1 (b : Option Blk) : Option Unit := match b with
 | some .dead => some ()
 | _ => none
theorem Jnn {op : AOp} (h : JF op = 1) (s : St) : rdO F op new s = new :: rb (is1 s.sto[new]?) fun _ => Jg ((opR F op new).reads s) := by
 unfold rdO opD
 rw [J17, h]
 simp only [J7d, RM.reads, RM.run, Jg]
 cases s.sto[new]? with
 | none => rfl
 | some b => cases b <;> rfl
end
theorem JnZ {α β : Type} (m : Option α) : (rb m fun _ => ([] : List β)) = [] := by cases m <;> rfl
theorem JuN (F : Orc) (new : Nat) (env : List (Nat × AV)) (sto : List Blk) (g : Bool) (n : Nat) (x : Opd) : rdO F (.load g n x) new ⟨env, sto⟩ = rb (evv x env) fun a => Jg ((J27 g n a).reads ⟨env, sto⟩) := by
 rw [Jck (h := rfl)]; exact Jch ..
theorem JvJ (s : St) (g : Bool) (n b o : Nat) : Jg ((J27 g n (.ptr b o)).reads s) = [b] := by
 simp only [J27, RM.reads, Jg]
 cases s.sto[b]? with
 | none => rfl
 | some B =>
  cases B with
  | box cs => simp only []; cases sub cs o n with
   | none => rfl
   | some l => simp only [Jdq]
  | _ => rfl
theorem JwI (s : St) (g : Bool) (n o : Nat) (cs : List PV) : Jg ((J27 g n (.cp cs o)).reads s) = [] := by
 simp only [J27]
 cases sub cs o n with
 | none => rfl
 | some l => exact Jdq ..
theorem Jw8 (s : St) (g : Bool) (n b e i o : Nat) : Jg ((J27 g n (.ep b e i o)).reads s) = [b] := by
 simp only [J27, RM.reads, Jg]
 cases s.sto[b]? with
 | none => rfl
 | some B =>
  cases B with
  | arr w z rows =>
   simp only []
   split
   ·cases rows[i]? with
    | none => rfl
    | some row =>
     simp only []
     cases sub row o n with
     | none => rfl
     | some l => simp only [Jdq]
   ·rfl
  | _ => rfl
theorem Js8 (F : Orc) (new : Nat) (s : St) (z : List PV) : rdO F (.newbox z) new s = [new] := by
 rw [Jnn (h := rfl)]; simp only [opR, RM.reads, Jg, JnZ]
theorem Jt3 (F : Orc) (new : Nat) (env : List (Nat × AV)) (sto : List Blk) (n : Nat) (x y : Opd) : rdO F (.store n x y) new ⟨env, sto⟩ = rb (evv x env) fun a => rb (evv y env) fun c => Jg ((J1y n a c).reads ⟨env, sto⟩) := by
 rw [Jck (h := rfl)]
 simp only [opR, Jch]
theorem JvG (s : St) (n b o : Nat) (v : AV) : Jg ((J1y n (.ptr b o) v).reads s) = [b] := by
 simp only [J1y, RM.reads, Jg]
 cases s.sto[b]? with
 | none => rfl
 | some B =>
  cases B with
  | box cs =>
   simp only []
   cases cellsOf v with
   | none => rfl
   | some l =>
    simp only []
    split
    ·cases spl cs o l <;> rfl
    ·rfl
  | _ => rfl
theorem Jrp (s : St) (n b e i o : Nat) {v : AV} {c : List PV} (hv : fz v = .ret (c, [])) : Jg ((J1y n (.ep b e i o) v).reads s) = [b] := by
 simp only [J1y, RM.reads, Jg]
 cases s.sto[b]? with
 | none => rfl
 | some B =>
  cases B with
  | arr w z rows =>
   cases w with
   | false => rfl
   | true =>
    simp only []
    split
    ·cases rows[i]? with
     | none => rfl
     | some row =>
      simp only [hv, J17, RM.reads, Jg, J29, rb, List.nil_append]
      split
      ·cases spl row o c <;> rfl
      ·rfl
    ·rfl
  | _ => rfl
theorem JsQ (s : St) (n b e i o : Nat) (c : PV) : Jg ((J1y n (.ep b e i o) (.p c)).reads s) = [b] := Jrp s n b e i o rfl
theorem Jt4 (s : St) (n b e i o : Nat) (c : List PV) : Jg ((J1y n (.ep b e i o) (.data c)).reads s) = [b] := Jrp s n b e i o rfl
theorem JgE (s : St) : ∀ args, Jg ((evs args).reads s) = []
 | [] => rfl
 | x :: r => by
  simp only [evs, Jch]
  cases evv x s.env with
  | none => rfl
  | some v =>
   simp only [rb, J17, JgE s r, List.nil_append]
   cases (evs r).run s <;> rfl
theorem Jjw (F : Orc) (g : FuncId) (args : List Opd) (n new : Nat) (s : St) : Jg ((opR F (.call g args n) new).reads s) = rb ((evs args).run s) fun a => Jg ((JC a).reads s) ++ rb ((JC a).run s) fun a => Jg ((Jm F g a n new).reads s) := by
 simp only [opR, J17, JgE, List.nil_append, Jcs]
theorem JtS (F : Orc) (new : Nat) (s : St) (g : FuncId) (args : List Opd) : rdO F (.call g args 0) new s = rb ((evs args).run s) fun a => Jg ((JC a).reads s) ++ rb ((JC a).run s) fun a => Jg ((Jm F g a 0 new).reads s) := by
 rw [Jck (h := rfl)]; exact Jjw ..
theorem Jt2 (F : Orc) (new : Nat) (s : St) (g : FuncId) (args : List Opd) : rdO F (.call g args 1) new s = new :: rb (is1 s.sto[new]?) fun _ => rb ((evs args).run s) fun a => Jg ((JC a).reads s) ++ rb ((JC a).run s) fun a => Jg ((Jm F g a 1 new).reads s) := by
 rw [Jnn (h := rfl)]; simp only [Jjw]
theorem Jcy (s : St) {v : AV} (h : J85 v = .ret (v, [])) (r : List AV) : Jg ((JC (v :: r)).reads s) = Jg ((JC r).reads s) := by
 simp only [JC, h, J17, RM.reads, Jg, J29, rb, List.nil_append]
 cases (JC r).run s <;> simp [RM.reads, Jg]
theorem Jg2 (s : St) (b n : Nat) : Jg ((fz (.slr b 0 n)).reads s) = [b] := by
 simp only [fz, RM.reads, Jg]
 cases s.sto[b]? with
 | none => rfl
 | some B =>
  cases B with
  | arr w z rows => simp only []; split <;> rfl
  | _ => rfl
theorem Juz (s : St) (b n : Nat) (r : List AV) : Jg ((JC (.slr b 0 n :: r)).reads s) = b :: rb ((J85 (.slr b 0 n)).run s) fun _ => Jg ((JC r).reads s) := by
 have h1 : Jg ((J85 (.slr b 0 n)).reads s) = [b] := by
  simp only [J85, J17, Jg2]
  cases (fz (.slr b 0 n)).run s with
  | none => rfl
  | some a =>
   simp only [rb]
   match a.1 with
   | [] => rfl
   | [_] => rfl
   | _ :: _ :: _ => rfl
 simp only [JC, J17, h1]
 cases (J85 (.slr b 0 n)).run s with
 | none => rfl
 | some a => simp only [rb]; cases (JC r).run s <;> simp [RM.reads, Jg]
theorem J05 {F : Orc} {f : FuncId} {args : List AV} (hp : args.all J4V = true) (ws : List (Nat × Blk)) (k new : Nat) (s : St) : Jg ((Jm F f (args, ws) k new).reads s) = [] := by
 have e1 : JY.entsOfL args [] = [] := J83 hp
 simp only [Jm, e1, J9e, J17, RM.reads, Jg, J29, rb, List.nil_append, List.map_nil, J5s, if_true, Jap hp, J6y]
 cases F f args [] with
 | none => rfl
 | some r =>
  simp only []
  split
  ·simp only [List.length_nil, List.drop_zero]
   cases bk [] new r.1 with
   | none => rfl
   | some v =>
    cases J5h [] new new r.2 with
    | none => rfl
    | some fr => simp only [J42, J17, RM.reads, Jg, J29, rb, List.nil_append]
  ·rfl
def cvl {α : Type} (u : AV) (k : FuncId → List AV → List AV → List α) : List α := match u with
 | .fn f a c => k f a c
 | _ => []
theorem Jkd (ws : List (Nat × Blk)) (b : Nat) (s : St) : Jg ((J9d ws b).reads s) = [b] := by
 simp only [J9d, RM.reads, Jg]
 cases s.sto[b]? with
 | none => rfl
 | some B => simp only []; cases J2v b ws <;> rfl
theorem Jmf {ws : List (Nat × Blk)} {s : St} : ∀ {bs : List Nat} {css : List (List AV)} {acc : List Ent}, JG ws s bs css → Jl css = true → Jg ((J9e ws (bs.map .whole) acc).reads s) = bs
 | [], [], _, _, _ => rfl
 | b :: bs, cs :: css, acc, h, hp => by
  simp only [Jl, List.all_cons, Bool.and_eq_true] at hp
  simp only [List.map_cons, J9e, J17, Jkd, h.1, rb, J83 hp.1]
  rw [Jmf (bs := bs) (css := css) h.2 hp.2]
  rfl
theorem Jox {ws : List (Nat × Blk)} {s : St} {ρ : Ent → Option Nat} : ∀ {bs : List Nat} {css : List (List AV)}, JG ws s bs css → Jl css = true → Jg ((J6y ws ρ (bs.map .whole)).reads s) = bs
 | [], [], _, _ => rfl
 | b :: bs, cs :: css, h, hp => by
  simp only [Jl, List.all_cons, Bool.and_eq_true] at hp
  have h2 := Jox (ρ := ρ) (bs := bs) (css := css) h.2 hp.2
  have h3 := Jfa (ρ := ρ) (bs := bs) (css := css) h.2 hp.2
  simp only [List.map_cons, J6y, J17, JeI, Jkd, h.1, rb, Jap hp.1, RM.reads, Jg, run_bind, Option.bind_some, J29, h2, h3, List.append_nil]
  rfl
theorem Jmi {ws : List (Nat × Blk)} {s : St} {es : List Ent} {new : Nat} : ∀ (bs : List Nat) (xs : List Blk), Jg ((J42 ws es new (bs.map .whole) xs).reads s) = []
 | [], _ => rfl
 | b :: bs, [] => rfl
 | b :: bs, B :: l => by
  have g6 : Jg ((JaU ws es new (Ent.whole b) B).reads s) = [] := by
   cases B with
   | box cs => simp only [JaU]; cases bk.bkL es new cs <;> rfl
   | _ => rfl
  simp only [List.map_cons, J42, J17, g6, List.nil_append]
  cases (JaU ws es new (Ent.whole b) B).run s with
  | none => rfl
  | some y =>
   simp only [rb, Jmi bs l, List.nil_append]
   cases (J42 ws es new (bs.map .whole) l).run s <;> rfl
theorem J9C {F : Orc} {f : FuncId} {args args' : List AV} {bs : List Nat} {css : List (List AV)} (he : JY.entsOfL args [] = bs.map .whole) (hn : J5s bs = true)
  (hr : ren.renL (fun e => J4U e (bs.map .whole) 0) args = some args') (hp : Jl css = true) (ws : List (Nat × Blk)) (k new : Nat) (s : St) (hb : JG ws s bs css) :
  Jg ((Jm F f (args, ws) k new).reads s) = bs ++ (bs ++ bs) := by
 have e0 : (bs.map Ent.whole).map Ent.id = bs := by rw [List.map_map]; exact List.map_id bs
 simp only [Jm, he, J17, Jmf hb hp, JgG hb hp, rb, e0, hn, if_true, hr, Jox hb hp, Jfa hb hp]
 congr 2
 cases F f args' (css.map .box) with
 | none => simp [RM.reads, Jg]
 | some r =>
  simp only []
  split
  ·cases bk (bs.map Ent.whole) new r.1 with
   | none => simp [RM.reads, Jg]
   | some v =>
    cases J5h (bs.map Ent.whole) new new (r.2.drop (bs.map Ent.whole).length) with
    | none => simp [RM.reads, Jg]
    | some fr =>
     simp only [J17, Jmi, List.nil_append]
     cases (J42 ws (bs.map Ent.whole) new (bs.map Ent.whole) r.2).run s <;> simp [rb, RM.reads, Jg]
  ·simp [RM.reads, Jg]
theorem Jrm (F : Orc) (new : Nat) (env : List (Nat × AV)) (sto : List Blk) (g : Opd) (args : List Opd) : rdO F (.callv g args 0) new ⟨env, sto⟩ = rb (evv g env) fun u => cvl u fun h a1 c1 => rb ((evs args).run ⟨env, sto⟩) fun a => Jg ((JC (a1 ++ a ++ c1)).reads ⟨env, sto⟩) ++ rb ((JC (a1 ++ a ++ c1)).run ⟨env, sto⟩) fun a => Jg ((Jm F h a 0 new).reads ⟨env, sto⟩) := by
 rw [Jck (h := rfl)]
 simp only [opR, J17, JiL, J0q, List.nil_append]
 cases evv g env with
 | none => rfl
 | some u =>
  simp only [rb]
  cases u <;> first | rfl | skip
  simp only [cvl, J17, JgE, List.nil_append]
  cases (evs args).run ⟨env, sto⟩ with
  | none => rfl
  | some a => simp only [rb, Jcs, J17]
theorem Jm5 (s : St) (o : Bool) (e n new : Nat) (z : List PV) (ps : List (Nat × Opd)) : Jg ((ltR o e n z ps new).reads s) = Jg ((fzs (ps.map (·.2))).reads s) := by
 simp only [ltR, J17]
 cases (fzs (ps.map (·.2))).run s with
 | none => simp [rb]
 | some a =>
  simp only [rb]
  cases J4n e ((ps.map (·.1)).zip a.1) (List.replicate n z) with
  | none => simp [RM.reads, Jg]
  | some rows => cases o <;> simp [RM.reads, Jg]
theorem JtI (F : Orc) (new : Nat) (s : St) (e n : Nat) (z : List PV) (ps : List (Nat × Opd)) : rdO F (.lits false e n z ps) new s = Jg ((fzs (ps.map (·.2))).reads s) := by
 rw [Jck (h := rfl)]; exact Jm5 ..
theorem JtB (F : Orc) (new : Nat) (s : St) (e n : Nat) (z : List PV) (ps : List (Nat × Opd)) : rdO F (.lits true e n z ps) new s = new :: rb (is1 s.sto[new]?) fun _ => Jg ((fzs (ps.map (·.2))).reads s) := by
 rw [Jnn (h := rfl)]
 congr 2; funext _
 exact Jm5 ..
theorem JwX (s : St) (x : Opd) (r : List Opd) : Jg ((fzs (x :: r)).reads s) = rb (evv x s.env) fun v => Jg ((fz v).reads s) ++ rb ((fz v).run s) fun _ => Jg ((fzs r).reads s) := by
 have e0 : fzs (x :: r) = (ev x).bind fun v => (fz v).bind fun a => (fzs r).bind fun c => .ret (a.1 :: c.1, a.2 ++ c.2) := rfl
 rw [e0, Jch]
 cases evv x s.env with
 | none => rfl
 | some v =>
  dsimp only [rb]
  rw [J17]
  cases (fz v).run s with
  | none => rfl
  | some a =>
   dsimp only [rb]
   rw [J17]
   cases (fzs r).run s <;> simp [rb, RM.reads, Jg]
theorem Juc (F : Orc) (new : Nat) (s : St) (x : Opd) : rdO F (.conv .toStr x) new s = rb (evv x s.env) fun a => Jg ((JT 1 a).reads s) := by
 rw [Jck (h := rfl)]
 simp only [opR, Jch]
 congr 1; funext a
 simp only [J17]
 cases (JT 1 a).run s with
 | none => simp [rb]
 | some rows => simp only [rb]; cases J6m rows <;> simp [RM.reads, Jg]
theorem JrI (s : St) (e b n : Nat) : Jg ((JT e (.slr b 0 n)).reads s) = [b] := by
 simp only [JT, RM.reads, Jg]
 cases s.sto[b]? with
 | none => rfl
 | some B =>
  cases B with
  | arr w z rows => simp only []; split <;> rfl
  | _ => rfl
theorem JnH (s : St) (e z : Nat) (rows : List (List PV)) : Jg ((JT e (.p (.sl z rows))).reads s) = [] := by
 simp only [JT]; split <;> rfl
theorem Jub (F : Orc) (new : Nat) (s : St) (e : Nat) (x i : Opd) : rdO F (.iaddr e x i) new s = rb (evv x s.env) fun a => rb (evv i s.env) fun c => Jg ((J3d e a c).reads s) := by
 rw [Jck (h := rfl)]; simp only [opR, Jch]
theorem Jru (s : St) (e b n : Nat) (k : IntKind) (i : Int) : Jg ((J3d e (.slr b 0 n) (.p (.i k i))).reads s) = [b] := by
 simp only [J3d, RM.reads, Jg]
 cases s.sto[b]? with
 | none => rfl
 | some B =>
  cases B with
  | arr w z rows => simp only []; split <;> rfl
  | _ => rfl
theorem Jtw (s : St) (e z : Nat) (rows : List (List PV)) (k : IntKind) (i : Int) : Jg ((J3d e (.p (.sl z rows)) (.p (.i k i))).reads s) = [] := by
 simp only [J3d]
 split
 ·cases Jcc rows i <;> rfl
 ·rfl
def slT (k : SK) (lo hi mx : Option Opd) (a : AV) : RM Eff := (evo lo).bind fun lo => (evo hi).bind fun hi => (evo mx).bind fun mx =>
  match a with
  | .slr b i n => (fz (.slr b i n)).bind fun y => match y.1 with
   | [c] => match J4Z k (.p c) lo hi mx with
    | some v => .ret ⟨v, y.2⟩
    | none => .fail
   | _ => .fail
  | a => val (J4Z k a lo hi mx)
theorem Jrv (x : Option Opd) (s : St) : Jg ((evo x).reads s) = [] := by
 cases x with
 | none => rfl
 | some x =>
  simp only [evo, J17, JiL, List.nil_append]
  cases (ev x).run s <;> rfl
theorem Jrt (F : Orc) (new : Nat) (s : St) (k : SK) (x : Opd) (lo hi mx : Option Opd) : rdO F (.slice k x lo hi mx) new s = rb (evv x s.env) fun a => Jg ((slT k lo hi mx a).reads s) := by
 rw [Jck (h := rfl)]
 simp only [opR, Jch]
 rfl
theorem JuW (s : St) (k : SK) (lo hi mx : Option Opd) (c : PV) : Jg ((slT k lo hi mx (.p c)).reads s) = [] := by
 simp only [slT, J17, Jrv, List.nil_append, Jdq, JnZ]
theorem JuR (F : Orc) (new : Nat) (s : St) (e b : Nat) (z : List PV) (y : Opd) : rdO F (.appn e b z y) new s = new :: rb (is1 s.sto[new]?) fun _ => rb (evv y s.env) fun a => Jg ((JT e a).reads s) := by
 rw [Jnn (h := rfl)]
 simp only [opR, Jch]
 refine congrArg (List.cons new) (congrArg (rb _) (funext fun _ => congrArg (rb _) (funext fun a => ?_)))
 simp only [J17]
 have : ∀ rows : List (List PV), Jg ((if J5n rows.length b then (.ret ⟨.slr new 0 rows.length, [(new, .arr true e rows)]⟩ : RM Eff) else .fail).reads s) = [] := fun rows => by split <;> rfl
 simp only [this, JnZ, List.append_nil]
theorem Jw6 (F : Orc) (new : Nat) (s : St) (e b : Nat) (z : List PV) (x y : Opd) : rdO F (.app e b z x y) new s = rb (evv x s.env) fun a => rb (evv y s.env) fun c => Jg ((J4t e b a c).reads s) := by
 rw [Jck (h := rfl)]; simp only [opR, Jch]
theorem JuQ (s : St) (e bytes b i n : Nat) (c : PV) (hc : ∀ s, Jg ((JT e (.p c)).reads s) = []) : Jg ((J4t e bytes (.slr b i n) (.p c)).reads s) = [b] := by
 simp only [J4t, RM.reads, Jg]
 cases s.sto[b]? with
 | none => rfl
 | some B =>
  cases B with
  | arr w z rows =>
   simp only [J17, hc, List.nil_append]
   congr 1
   cases (JT e (.p c)).run s with
   | none => rfl
   | some new => simp only [rb]; split <;> rfl
  | _ => rfl
theorem Jt0 (s : St) (e bytes b n z : Nat) (rows : List (List PV)) : Jg ((J4t e bytes (.slr b 0 n) (.p (.sl z rows))).reads s) = [b] := JuQ s e bytes b 0 n (.sl z rows) fun s => JnH s e z rows
theorem Jon (env : List (Nat × AV)) (sto : List Blk) (l : List Int) (new : Nat) : (cvR .toStr (.p (.sl 1 (l.map (r_i .u8)))) new).run ⟨env, sto⟩ = some ⟨.p (.s (toStr l)), []⟩ := Jtl ..
theorem Jxn (n : Nat) (w : Bool) (l : List Int) : cvB n (.arr w 1 (l.map (r_i .u8))) = if n = l.length then some ⟨.p (.s (toStr l)), []⟩ else none := JvQ ..
theorem fr (b n z : Nat) (w : Bool) (rows : List (List PV)) : frz b n (.arr w z rows) = if n = rows.length then some (.p (.sl z rows), (b, .arr false z rows)) else none := rfl
theorem mk (o : Bool) (e b new : Nat) (z : List PV) (k k2 : IntKind) (n m : Int) : mkP o e b z (.p (.i k n)) (.p (.i k2 m)) new = if 0 ≤ n ∧ n ≤ m ∧ b * m ≤ 281474976710656 ∧ m ≤ 281474976710656 then some (if o then ⟨.slr new 0 n.toNat, [(new, .arr true e (List.replicate n.toNat z))]⟩ else ⟨.p (.sl e (List.replicate n.toNat z)), []⟩) else none := rfl
theorem cl (n : Nat) (live : List Nat) (env : List (Nat × AV)) (sto : List Blk) : J61 n live ⟨env, sto⟩ = if sto.length = n then some ⟨restr live env, sto⟩ else (J92 n sto (restr live env)).bind fun e => (J3K n [] sto (sto.take n)).bind fun l => some ⟨e, l⟩ := Jwu ..
theorem Jxa {α : Type} (l : List α) : [] ++ l = l := rfl
theorem JwC {α : Type} (l : List α) : l ++ [] = l := List.append_nil l
theorem JwV {α : Type} (a : α) (l r : List α) : (a :: l) ++ r = a :: (l ++ r) := rfl
theorem Jwe {α β : Type} (g : α → β) : List.map g [] = [] := rfl
theorem JwZ {α β : Type} (g : α → β) (a : α) (l : List α) : List.map g (a :: l) = g a :: List.map g l := rfl
theorem JwW {α : Type} : ([] : List α).length = 0 := rfl
theorem JwH {α : Type} (a : α) (l : List α) : (a :: l).length = l.length + 1 := rfl
theorem Jww (k : IntKind) (n : Int) : r_i k n = [.i k n] := rfl
theorem JwR (x : Bool) : r_b x = [.b x] := rfl
theorem Jut (x : List UInt8) : r_s x = [.s x] := rfl
theorem Jwg {α : Type} (e : Nat) (g : α → List PV) (l : List α) : JkU e g l = [.sl e (l.map g)] := rfl
theorem s1 (a : PV) : sub [a] 0 1 = some [a] := rfl
set_option maxRecDepth 30000 in
theorem Da : (∀ T f m k s, rk T f m k (X T .skip s) = rk T f m k (some (.normal, s))) ∧
 (∀ T f m k a b s, rk T f m k (X T (.seq a b) s) = rk T f m (.sq b :: k) (X T a s)) ∧
 (∀ T f m k d ins env sto, rk T f m k (X T (.reg d [] ins) ⟨env, sto⟩) = rk T f m k (Ju5 (Jq (AF T) ins sto.length ⟨env, room (news ins) sto⟩ none))) ∧
 (∀ T f m k d q ps ins env sto, rk T f m k (X T (.reg d (q :: ps) ins) ⟨env, sto⟩) = rk T f m k (Jrg (q :: ps) (Jq (AF T) ins sto.length ⟨env, room (news ins) sto⟩ (some [])))) ∧
 (∀ T f m k i c s, rk T f m k (X T (.block i c) s) = rk T f m (.bl i :: k) (X T c s)) ∧
 (∀ T f m k c s, rk T f m k (X T (.scope c) s) = rk T f m k (X T c s)) ∧
 (∀ T f m k i s, rk T f m k (X T (.exit i) s) = rk T f m k (some (.exit i, s))) ∧
 (∀ T f m k s, rk T f m k (X T .ret s) = rk T f m k (some (.ret, s))) ∧
 (∀ T f m k live c env sto, rk T f m k (X T (.keep live c) ⟨env, sto⟩) = rk T f m k (X T c ⟨restr live env, sto⟩)) ∧
 (∀ T f m k live c env sto, rk T f m k (X T (.tidy live c) ⟨env, sto⟩) = rk T f m (.td sto.length live :: k) (X T c ⟨env, sto⟩)) ∧
 (∀ T f m k live c env sto, rk T f m k (X T (.loop live c) ⟨env, sto⟩) = rk T f m k (X T (.lp sto.length live c) ⟨restr live env, sto⟩)) ∧
 (∀ T f m k x a b env sto, rk T f m k (X T (.cond x a b) ⟨env, sto⟩) = rk T f m k (cnd (evv x env) (hold (X T a ⟨env, sto⟩) (.mk _)) (hold (X T b ⟨env, sto⟩) (.mk _)) (hold (fun _ => same (X T a ⟨env, sto⟩) (X T b ⟨env, sto⟩)) (.mk _)))) ∧
 (∀ a b h c, cnd (some (.p (.b true))) (hold a h) b c = a) ∧
 (∀ a b h c, cnd (some (.p (.b false))) a (hold b h) c = b) ∧
 (∀ T f m k b s, rk T f m (.sq b :: k) (some (.normal, s)) = rk T f m k (X T b s)) ∧
 (∀ T f m k b i s, rk T f m (.sq b :: k) (some (.exit i, s)) = rk T f m k (some (.exit i, s))) ∧
 (∀ T f m k b s, rk T f m (.sq b :: k) (some (.ret, s)) = rk T f m k (some (.ret, s))) ∧
 (∀ T f m k i s, rk T f m (.bl i :: k) (some (.normal, s)) = rk T f m k (some (.normal, s))) ∧
 (∀ T f m k i j s, rk T f m (.bl i :: k) (some (.exit j, s)) = if j = i then rk T f m k (some (.normal, s)) else rk T f m k (some (.exit j, s))) ∧
 (∀ T f m k i s, rk T f m (.bl i :: k) (some (.ret, s)) = rk T f m k (some (.ret, s))) ∧
 (∀ T f m k n live e s, rk T f m (.td n live :: k) (some (e, s)) = rk T f m k (tdn e (J61 n live s))) ∧
 (∀ e s, tdn e (some s) = some (e, s)) ∧
 (∀ T f m k n live c s, rk T f m (.lo n live c :: k) (some (.normal, s)) = rk T f m k (again T n live c (J61 n live s))) ∧
 (∀ T n live c s, again T n live c (some s) = X T (.lp n live c) s) ∧
 (∀ T f m k n live c i s, rk T f m (.lo n live c :: k) (some (.exit i, s)) = rk T f m k (some (.exit i, s))) ∧
 (∀ T f m k n live c s, rk T f m (.lo n live c :: k) (some (.ret, s)) = rk T f m k (some (.ret, s))) ∧
 (∀ T f m s, rk T f m [] (some (.normal, s)) = JiF f.res f.fresh m s) ∧
 (∀ T f m s, rk T f m [] (some (.ret, s)) = JiF f.res f.fresh m s) ∧
 (∀ s l, Ju5 (some (s, l)) = some (.normal, s)) ∧
 (∀ s l ps, Jrg ps (some (s, some l)) = if J9i l ps = true then some (.normal, s) else none) ∧
 (∀ l, J9i l [] = true) ∧
 (∀ l i j ps, J9i l ((i, j) :: ps) = (pkk l[i]? l[j]? && J9i l ps)) ∧
 (∀ a b, lgA none a b = none) ∧
 (∀ l a b, lgA (some l) a b = some (l ++ [(a, b)])) ∧
 (∀ {α : Type} (a : α) (l : List α), (a :: l)[0]? = some a) ∧
 (∀ {α : Type} (a : α) (l : List α) (n : Nat), (a :: l)[n + 1]? = l[n]?) ∧
 (∀ F new s lg, Jq F [] new s lg = some (s, lg)) ∧
 (∀ F r new env sto lg d x, Jq F (⟨.mv x, some d, none⟩ :: r) new ⟨env, sto⟩ lg = (evv x env).bind fun v => Jq F r new ⟨(d, v) :: env, sto⟩ (lgA lg (rdO F (.mv x) new ⟨env, sto⟩) [])) ∧
 (∀ F r new env sto lg d c a b, Jq F (⟨.pick c a b, some d, none⟩ :: r) new ⟨env, sto⟩ lg = (evv c env).bind fun u => pkh u (evv a env) (evv b env) (hold (fun v => Jq F r new ⟨(d, v) :: env, sto⟩ (lgA lg (rdO F (.pick c a b) new ⟨env, sto⟩) [])) (.mk _))) ∧
 (∀ F r new env sto lg d op t x y, Jq F (⟨.bin op t x y, some d, none⟩ :: r) new ⟨env, sto⟩ lg = (evv x env).bind fun a => (evv y env).bind fun c => (J0p op t a c).bind fun v => Jq F r new ⟨(d, v) :: env, sto⟩ (lgA lg (rdO F (.bin op t x y) new ⟨env, sto⟩) [])) ∧
 (∀ F r new env sto lg d op x, Jq F (⟨.un op x, some d, none⟩ :: r) new ⟨env, sto⟩ lg = (evv x env).bind fun a => (unP op a).bind fun v => Jq F r new ⟨(d, v) :: env, sto⟩ (lgA lg (rdO F (.un op x) new ⟨env, sto⟩) [])) ∧
 (∀ F r new env sto lg d g off n x, Jq F (⟨.field g off n x, some d, none⟩ :: r) new ⟨env, sto⟩ lg = (evv x env).bind fun a => (J5W g off n a).bind fun v => Jq F r new ⟨(d, v) :: env, sto⟩ (lgA lg (rdO F (.field g off n x) new ⟨env, sto⟩) [])) ∧
 (∀ F r new env sto lg d off x, Jq F (⟨.faddr off x, some d, none⟩ :: r) new ⟨env, sto⟩ lg = (evv x env).bind fun a => (JbG off a).bind fun v => Jq F r new ⟨(d, v) :: env, sto⟩ (lgA lg (rdO F (.faddr off x) new ⟨env, sto⟩) [])) ∧
 (∀ F r new env sto lg d x i, Jq F (⟨.extr x i, some d, none⟩ :: r) new ⟨env, sto⟩ lg = (evv x env).bind fun a => (Jh7 i a).bind fun v => Jq F r new ⟨(d, v) :: env, sto⟩ (lgA lg (rdO F (.extr x i) new ⟨env, sto⟩) [])) ∧
 (∀ F r new env sto lg d b x, Jq F (⟨.len b x, some d, none⟩ :: r) new ⟨env, sto⟩ lg = (evv x env).bind fun a => (JgB b a).bind fun v => Jq F r new ⟨(d, v) :: env, sto⟩ (lgA lg (rdO F (.len b x) new ⟨env, sto⟩) [])) ∧
 (∀ F r new env sto lg d n, Jq F (⟨.alen n, some d, none⟩ :: r) new ⟨env, sto⟩ lg = Jq F r new ⟨(d, .p (.i .i64 n)) :: env, sto⟩ (lgA lg (rdO F (.alen n) new ⟨env, sto⟩) [])) ∧
 (∀ F r new env sto lg d b x y, Jq F (⟨.mm b x y, some d, none⟩ :: r) new ⟨env, sto⟩ lg = (evv x env).bind fun a => (evv y env).bind fun c => (mmP b a c).bind fun v => Jq F r new ⟨(d, v) :: env, sto⟩ (lgA lg (rdO F (.mm b x y) new ⟨env, sto⟩) [])) ∧
 (∀ F r new env sto lg d n e x i, Jq F (⟨.aaddr n e x i, some d, none⟩ :: r) new ⟨env, sto⟩ lg = (evv x env).bind fun a => (evv i env).bind fun c => (JbF n e a c).bind fun v => Jq F r new ⟨(d, v) :: env, sto⟩ (lgA lg (rdO F (.aaddr n e x i) new ⟨env, sto⟩) [])) ∧
 (∀ F r new env sto lg d e x i, Jq F (⟨.iaddr e x i, some d, none⟩ :: r) new ⟨env, sto⟩ lg = (evv x env).bind fun a => (evv i env).bind fun c => ((J3d e a c).run ⟨env, sto⟩).bind fun q => Jq F r new ⟨(d, q.val) :: env, upd q.ws sto⟩ (lgA lg (rdO F (.iaddr e x i) new ⟨env, sto⟩) (q.ws.map (·.1)))) ∧
 (∀ F r new env sto lg d x i, Jq F (⟨.sidx x i, some d, none⟩ :: r) new ⟨env, sto⟩ lg = (evv x env).bind fun a => (evv i env).bind fun c => (Jlq a c).bind fun v => Jq F r new ⟨(d, v) :: env, sto⟩ (lgA lg (rdO F (.sidx x i) new ⟨env, sto⟩) [])) ∧
 (∀ F r new env sto lg d g n e x i, Jq F (⟨.aidx g n e x i, some d, none⟩ :: r) new ⟨env, sto⟩ lg = (evv x env).bind fun a => (evv i env).bind fun c => (Jij g n e a c).bind fun v => Jq F r new ⟨(d, v) :: env, sto⟩ (lgA lg (rdO F (.aidx g n e x i) new ⟨env, sto⟩) [])) ∧
 (∀ F r new env sto lg d x, Jq F (⟨.nilchk x, some d, none⟩ :: r) new ⟨env, sto⟩ lg = (evv x env).bind fun a => (JnQ a).bind fun v => Jq F r new ⟨(d, v) :: env, sto⟩ (lgA lg (rdO F (.nilchk x) new ⟨env, sto⟩) [])) ∧
 (∀ F r new env sto lg d g n x, Jq F (⟨.load g n x, some d, none⟩ :: r) new ⟨env, sto⟩ lg = (evv x env).bind fun a => ((J27 g n a).run ⟨env, sto⟩).bind fun q => Jq F r new ⟨(d, q.val) :: env, upd q.ws sto⟩ (lgA lg (rdO F (.load g n x) new ⟨env, sto⟩) (q.ws.map (·.1)))) ∧
 (∀ F r new env sto lg n x y, Jq F (⟨.store n x y, none, none⟩ :: r) new ⟨env, sto⟩ lg = (evv x env).bind fun a => (evv y env).bind fun c => ((J1y n a c).run ⟨env, sto⟩).bind fun q => Jq F r new ⟨env, upd q.ws sto⟩ (lgA lg (rdO F (.store n x y) new ⟨env, sto⟩) (q.ws.map (·.1)))) ∧
 (∀ F r new env sto lg d c x, Jq F (⟨.conv c x, some d, none⟩ :: r) new ⟨env, sto⟩ lg = (evv x env).bind fun a => dds (JF (.conv c x)) new sto (((cvR c a new).run ⟨env, sto⟩).bind fun e => Jq F r (new + JF (.conv c x)) ⟨(d, e.val) :: env, upd e.ws sto⟩ (lgA lg (rdO F (.conv c x) new ⟨env, sto⟩) (e.ws.map (·.1))))) ∧
 (∀ F r new env sto lg d z ps, Jq F (⟨.build z ps, some d, none⟩ :: r) new ⟨env, sto⟩ lg = ((J2L ps).run ⟨env, sto⟩).bind fun l => (J0Y l (z.map .p)).bind fun cs => (J1J true cs).bind fun v => Jq F r new ⟨(d, v) :: env, sto⟩ (lgA lg (rdO F (.build z ps) new ⟨env, sto⟩) [])) ∧
 (∀ F r new env sto lg d s x lo hi mx, Jq F (⟨.slice s x lo hi mx, some d, none⟩ :: r) new ⟨env, sto⟩ lg = (evv x env).bind fun a => (J9A lo env).bind fun lo1 => (J9A hi env).bind fun hi1 => (J9A mx env).bind fun mx1 => ((slR s a lo1 hi1 mx1).run ⟨env, sto⟩).bind fun q => Jq F r new ⟨(d, q.val) :: env, upd q.ws sto⟩ (lgA lg (rdO F (.slice s x lo hi mx) new ⟨env, sto⟩) (q.ws.map (·.1)))) ∧
 (∀ F r new env sto lg d e b z x y, Jq F (⟨.app e b z x y, some d, none⟩ :: r) new ⟨env, sto⟩ lg = (evv x env).bind fun a => (evv y env).bind fun c => ((J4t e b a c).run ⟨env, sto⟩).bind fun q => Jq F r new ⟨(d, q.val) :: env, upd q.ws sto⟩ (lgA lg (rdO F (.app e b z x y) new ⟨env, sto⟩) (q.ws.map (·.1)))) ∧
 (∀ F r new env sto lg d e b z x y, Jq F (⟨.appz e b z x y, some d, none⟩ :: r) new ⟨env, sto⟩ lg = (evv x env).bind fun a => (evv y env).bind fun c => (zrs e z c).bind fun c1 => ((J4t e b a c1).run ⟨env, sto⟩).bind fun q => Jq F r new ⟨(d, q.val) :: env, upd q.ws sto⟩ (lgA lg (rdO F (.appz e b z x y) new ⟨env, sto⟩) (q.ws.map (·.1)))) ∧
 (∀ F r new env sto lg d g a c, Jq F (⟨.mkfn g a c, some d, none⟩ :: r) new ⟨env, sto⟩ lg = ((evs a).run ⟨env, sto⟩).bind fun a1 => ((evs c).run ⟨env, sto⟩).bind fun c1 => Jq F r new ⟨(d, .fn g a1 c1) :: env, sto⟩ (lgA lg (rdO F (.mkfn g a c) new ⟨env, sto⟩) [])) ∧
 (∀ F r new env sto lg d g args n, Jq F (⟨.callv g args n, some d, none⟩ :: r) new ⟨env, sto⟩ lg = (evv g env).bind fun u => cvg u fun h a1 c1 => dds n new sto (((evs args).run ⟨env, sto⟩).bind fun a => ((JC (a1 ++ a ++ c1)).run ⟨env, sto⟩).bind fun a => ((Jm F h a n new).run ⟨env, sto⟩).bind fun q => Jq F r (new + n) ⟨(d, q.val) :: env, upd q.ws sto⟩ (lgA lg (rdO F (.callv g args n) new ⟨env, sto⟩) (q.ws.map (·.1))))) ∧
 (∀ F r new env sto lg g args n, Jq F (⟨.callv g args n, none, none⟩ :: r) new ⟨env, sto⟩ lg = (evv g env).bind fun u => cvg u fun h a1 c1 => dds n new sto (((evs args).run ⟨env, sto⟩).bind fun a => ((JC (a1 ++ a ++ c1)).run ⟨env, sto⟩).bind fun a => ((Jm F h a n new).run ⟨env, sto⟩).bind fun q => Jq F r (new + n) ⟨env, upd q.ws sto⟩ (lgA lg (rdO F (.callv g args n) new ⟨env, sto⟩) (q.ws.map (·.1))))) ∧
 (∀ {α : Type} (f : FuncId) (a c : List AV) (k : FuncId → List AV → List AV → Option α), cvg (.fn f a c) k = k f a c) ∧
 (∀ F r new env sto lg d e b z y, Jq F (⟨.appn e b z y, some d, none⟩ :: r) new ⟨env, sto⟩ lg = (evv y env).bind fun c => ((JT e c).run ⟨env, sto⟩).bind fun rows => if J5n rows.length b = true then dds 1 new sto (Jq F r (new + 1) ⟨(d, .slr new 0 rows.length) :: env, sto.set new (.arr true e rows)⟩ (lgA lg (rdO F (.appn e b z y) new ⟨env, sto⟩) [new])) else none) ∧
 (∀ F r new env sto lg d e b z x y, Jq F (⟨.appc e b z x y, some d, none⟩ :: r) new ⟨env, sto⟩ lg = (evv x env).bind fun a => (evv y env).bind fun c => ((JT e c).run ⟨env, sto⟩).bind fun add => (JoT e b a add).bind fun rows => dds 1 new sto (Jq F r (new + 1) ⟨(d, .slr new 0 rows.length) :: env, sto.set new (.arr true e rows)⟩ (lgA lg (rdO F (.appc e b z x y) new ⟨env, sto⟩) [new]))) ∧
 (∀ F r new env sto lg d z, Jq F (⟨.newbox z, some d, none⟩ :: r) new ⟨env, sto⟩ lg = dds 1 new sto (Jq F r (new + 1) ⟨(d, .ptr new 0) :: env, sto.set new (.box (z.map .p))⟩ (lgA lg (rdO F (.newbox z) new ⟨env, sto⟩) [new]))) ∧
 (∀ F r new env sto lg d e x, Jq F (⟨.mkarr e x, some d, none⟩ :: r) new ⟨env, sto⟩ lg = dds 1 new sto (Jq F r (new + 1) ⟨(d, .slr new 0 0) :: env, sto.set new (.arr true e [])⟩ (lgA lg (rdO F (.mkarr e x) new ⟨env, sto⟩) [new]))) ∧
 (∀ F r new env sto lg d n x, Jq F (⟨.box n x, some d, none⟩ :: r) new ⟨env, sto⟩ lg = (evv x env).bind fun a => (bxP n a).bind fun cs => dds 1 new sto (Jq F r (new + 1) ⟨(d, .ptr new 0) :: env, sto.set new (.box cs)⟩ (lgA lg (rdO F (.box n x) new ⟨env, sto⟩) [new]))) ∧
 (∀ F r new env sto lg d o e n z ps, Jq F (⟨.lits o e n z ps, some d, none⟩ :: r) new ⟨env, sto⟩ lg = dds (if o then 1 else 0) new sto (((ltR o e n z ps new).run ⟨env, sto⟩).bind fun x => Jq F r (new + if o then 1 else 0) ⟨(d, x.val) :: env, upd x.ws sto⟩ (lgA lg (rdO F (.lits o e n z ps) new ⟨env, sto⟩) (x.ws.map (·.1))))) ∧
 (∀ F r new env sto lg d o e b z l c, Jq F (⟨.mkslice o e b z l c, some d, none⟩ :: r) new ⟨env, sto⟩ lg = (evv l env).bind fun a => (evv c env).bind fun x => dds (if o then 1 else 0) new sto ((mkP o e b z a x new).bind fun x => Jq F r (new + if o then 1 else 0) ⟨(d, x.val) :: env, upd x.ws sto⟩ (lgA lg (rdO F (.mkslice o e b z l c) new ⟨env, sto⟩) (x.ws.map (·.1))))) ∧
 (∀ F r new env sto lg d g args n, Jq F (⟨.call g args n, some d, none⟩ :: r) new ⟨env, sto⟩ lg = dds n new sto (((evs args).run ⟨env, sto⟩).bind fun a => ((JC a).run ⟨env, sto⟩).bind fun a => ((Jm F g a n new).run ⟨env, sto⟩).bind fun e => Jq F r (new + n) ⟨(d, e.val) :: env, upd e.ws sto⟩ (lgA lg (rdO F (.call g args n) new ⟨env, sto⟩) (e.ws.map (·.1))))) ∧
 (∀ F r new env sto lg g args n, Jq F (⟨.call g args n, none, none⟩ :: r) new ⟨env, sto⟩ lg = dds n new sto (((evs args).run ⟨env, sto⟩).bind fun a => ((JC a).run ⟨env, sto⟩).bind fun a => ((Jm F g a n new).run ⟨env, sto⟩).bind fun e => Jq F r (new + n) ⟨env, upd e.ws sto⟩ (lgA lg (rdO F (.call g args n) new ⟨env, sto⟩) (e.ws.map (·.1))))) ∧
 (∀ F r new env sto lg d z os, Jq F (⟨.newboxo z os, some d, none⟩ :: r) new ⟨env, sto⟩ lg = dds (os.length + 1) new sto (Jq F r (new + (os.length + 1)) ⟨(d, .ptr (new + os.length) 0) :: env, upd (J3p os new ++ [(new + os.length, .box (J7S os new (z.map .p)))]) sto⟩ (lgA lg (rdO F (.newboxo z os) new ⟨env, sto⟩) ((J3p os new ++ [(new + os.length, Blk.box (J7S os new (z.map .p)))]).map (·.1))))) ∧
 (∀ F r new env sto lg e x, Jq F (⟨.storen e x, none, none⟩ :: r) new ⟨env, sto⟩ lg = (evv x env).bind fun a => dds 1 new sto (((J1y 1 a (.slr new 0 0)).run ⟨env, sto⟩).bind fun q => Jq F r (new + 1) ⟨env, upd ((new, .arr true e []) :: q.ws) sto⟩ (lgA lg (rdO F (.storen e x) new ⟨env, sto⟩) (new :: q.ws.map (·.1))))) ∧
 (∀ F r new env sto lg d z ps os, Jq F (⟨.buildo z ps os, some d, none⟩ :: r) new ⟨env, sto⟩ lg = ((J2L ps).run ⟨env, sto⟩).bind fun l => (J0Y l (J7S os new (z.map .p))).bind fun cs => (J1J true cs).bind fun v => dds os.length new sto (Jq F r (new + os.length) ⟨(d, v) :: env, upd (J3p os new) sto⟩ (lgA lg (rdO F (.buildo z ps os) new ⟨env, sto⟩) ((J3p os new).map (·.1))))) ∧
 (∀ F r new env sto lg d g kp args n, Jq F (⟨.callo g kp args n, some d, none⟩ :: r) new ⟨env, sto⟩ lg = dds n new sto (((evs args).run ⟨env, sto⟩).bind fun a => ((J2u kp a).run ⟨env, sto⟩).bind fun a => ((J4W F g a n new).run ⟨env, sto⟩).bind fun e => Jq F r (new + n) ⟨(d, e.val) :: env, upd e.ws sto⟩ (lgA lg (rdO F (.callo g kp args n) new ⟨env, sto⟩) (e.ws.map (·.1))))) ∧
 (∀ F r new env sto lg g kp args n, Jq F (⟨.callo g kp args n, none, none⟩ :: r) new ⟨env, sto⟩ lg = dds n new sto (((evs args).run ⟨env, sto⟩).bind fun a => ((J2u kp a).run ⟨env, sto⟩).bind fun a => ((J4W F g a n new).run ⟨env, sto⟩).bind fun e => Jq F r (new + n) ⟨env, upd e.ws sto⟩ (lgA lg (rdO F (.callo g kp args n) new ⟨env, sto⟩) (e.ws.map (·.1))))) ∧
 (∀ {α : Type} (n new : Nat) (sto : List Blk) (o : Option α), dds (n + 1) new sto o = dd1 sto[new]? (dds n (new + 1) sto o)) ∧
 (∀ F r new env sto lg op d g w, Jq F (⟨op, d, some (g, w)⟩ :: r) new ⟨env, sto⟩ lg = grd (lk g env) w (hold (Jq F (⟨op, d, none⟩ :: r) new ⟨env, sto⟩ lg) (.mk _)) (hold (Jq F r (new + JF op) (put d ⟨J0O, []⟩ ⟨env, sto⟩) (lgA lg [] [])) (.mk _))) ∧
 (∀ {α : Type} (a b : Option α) (h : Dum a), grd (some (.p (.b true))) true (hold a h) b = a) ∧
 (∀ {α : Type} (a b : Option α) (h : Dum b), grd (some (.p (.b true))) false a (hold b h) = b) ∧
 (∀ {α : Type} (a b : Option α) (h : Dum b), grd (some (.p (.b false))) true a (hold b h) = b) ∧
 (∀ {α : Type} (a b : Option α) (h : Dum a), grd (some (.p (.b false))) false (hold a h) b = a) ∧
 (∀ {α : Type} (w : Bool) (a b : Option α) (h : Dum b), grd (some (.tup [])) w a (hold b h) = b) ∧
 (∀ {β : Type} (a b : Option AV) (K : AV → Option β) (h : Dum K), pkh (.p (.b true)) a b (hold K h) = a.bind K) ∧
 (∀ {β : Type} (a b : Option AV) (K : AV → Option β) (h : Dum K), pkh (.p (.b false)) a b (hold K h) = b.bind K) ∧
 (∀ {α β : Type} (a : α) (f : α → Option β), Option.bind (some a) f = f a) ∧
 (∀ {α : Type} (new : Nat) (sto : List Blk) (o : Option α), dds 0 new sto o = o) ∧
 (∀ {α : Type} (new : Nat) (sto : List Blk) (o : Option α), dds 1 new sto o = dd1 sto[new]? o) ∧
 (∀ {α : Type} (o : Option α), dd1 (some .dead) o = o) :=
 ⟨by intro T f m k s; exact JuM T f m k s,
 by intro T f m k a b s; exact JwL T f m k a b s,
 by intro T f m k d ins env sto; exact JvP T f m k d ins env sto,
 by intro T f m k d q ps ins env sto; exact JuY T f m k d q ps ins env sto,
 by intro T f m k i c s; exact JsD T f m k i c s,
 by intro T f m k c s; exact Jt5 T f m k c s,
 by intro T f m k i s; exact Jvj T f m k i s,
 by intro T f m k s; exact Jwl T f m k s,
 by intro T f m k live c env sto; exact Jve T f m k live c env sto,
 by intro T f m k live c env sto; exact JvF T f m k live c env sto,
 by intro T f m k live c env sto; exact Jv3 T f m k live c env sto,
 by intro T f m k x a b env sto; exact JvK T f m k x a b env sto,
 by intros; rfl,
 by intros; rfl,
 by intros; rfl,
 by intros; rfl,
 by intros; rfl,
 by intros; rfl,
 by intro T f m k i j s; exact JuB T f m k i j s,
 by intros; rfl,
 by intro T f m k n live e s; exact (Jxo T f m k n live e s).trans (by cases J61 n live s <;> rfl),
 by intros; rfl,
 by intros; rfl,
 by intros; rfl,
 by intros; rfl,
 by intros; rfl,
 by intro T f m s; exact JvD T f m s,
 by intro T f m s; exact Jue T f m s,
 by intros; rfl,
 by intros; rfl,
 by intros; rfl,
 by intros; rfl,
 by intros; rfl,
 by intros; rfl,
 by intros; rfl,
 by intros; rfl,
 by intros; rfl,
 by intro F r new env sto lg d x; rw [st0 (h := rfl)]; simp only [opR, run_bind, J0q]; exact Jwo,
 by intro F r new env sto lg d c a b; rw [st0 (h := rfl)]; simp only [opR, run_bind, J0q]; exact JsV,
 by intro F r new env sto lg d op t x y; rw [st0 (h := rfl)]; simp only [opR, run_bind, J0q]; exact Jl5 (g := fun a c => J0p op t a c),
 by intro F r new env sto lg d op x; rw [st0 (h := rfl)]; simp only [opR, run_bind, J0q]; exact Jel (g := fun a => unP op a),
 by intro F r new env sto lg d g off n x; rw [st0 (h := rfl)]; simp only [opR, run_bind, J0q]; exact Jel (g := fun a => J5W g off n a),
 by intro F r new env sto lg d off x; rw [st0 (h := rfl)]; simp only [opR, run_bind, J0q]; exact Jel (g := fun a => JbG off a),
 by intro F r new env sto lg d x i; rw [st0 (h := rfl)]; simp only [opR, run_bind, J0q]; exact Jel (g := fun a => Jh7 i a),
 by intro F r new env sto lg d b x; rw [st0 (h := rfl)]; simp only [opR, run_bind, J0q]; exact Jel (g := fun a => JgB b a),
 by intro F r new env sto lg d n; rw [st0 (h := rfl)]; rfl,
 by intro F r new env sto lg d b x y; rw [st0 (h := rfl)]; simp only [opR, run_bind, J0q]; exact Jl5 (g := fun a c => mmP b a c),
 by intro F r new env sto lg d n e x i; rw [st0 (h := rfl)]; simp only [opR, run_bind, J0q]; exact Jl5 (g := fun a c => JbF n e a c),
 by intro F r new env sto lg d e x i; rw [st0 (h := rfl)]; simp only [opR, run_bind, J0q]; exact JiA (g := fun a c => (J3d e a c).run ⟨env, sto⟩),
 by intro F r new env sto lg d x i; rw [st0 (h := rfl)]; simp only [opR, run_bind, J0q]; exact Jvn,
 by intro F r new env sto lg d g n e x i; rw [st0 (h := rfl)]; simp only [opR, run_bind, J0q]; exact JvL,
 by intro F r new env sto lg d x; rw [st0 (h := rfl)]; simp only [opR, run_bind, J0q]; exact JuO,
 by intro F r new env sto lg d g n x; rw [st0 (h := rfl)]; simp only [opR, run_bind, J0q]; exact Jor (g := fun a => (J27 g n a).run ⟨env, sto⟩),
 by intro F r new env sto lg n x y; rw [JxY (h := rfl)]; simp only [opR, run_bind, J0q]; exact JiA (g := fun a c => (J1y n a c).run ⟨env, sto⟩),
 by intro F r new env sto lg d c x; exact JtT,
 by intro F r new env sto lg d z ps; exact Jsg,
 by intro F r new env sto lg d s x lo hi mx; exact Jsk,
 by intro F r new env sto lg d e b z x y; rw [st0 (h := rfl)]; simp only [opR, run_bind, J0q]; exact JiA (g := fun a c => (J4t e b a c).run ⟨env, sto⟩),
 by intro F r new env sto lg d e b z x y; rw [st0 (h := rfl)]; simp only [opR, run_bind, J0q]; exact JrM,
 by intro F r new env sto lg d g a c; exact JtW,
 by intro F r new env sto lg d g args n; exact Jsc,
 by intro F r new env sto lg g args n; exact Jqv,
 by intros; rfl,
 by intro F r new env sto lg d e b z y; exact Ju8,
 by intro F r new env sto lg d e b z x y; exact Ju3,
 by intro F r new env sto lg d z; exact JqU,
 by intro F r new env sto lg d e x; exact Jse,
 by intro F r new env sto lg d n x; exact JuG,
 by intro F r new env sto lg d o e n z ps; exact Jtk,
 by intro F r new env sto lg d o e b z l c; exact Jpl,
 by intro F r new env sto lg d g args n; exact JsF,
 by intro F r new env sto lg g args n; exact Jsl,
 by intro F r new env sto lg d z os; exact JpK,
 by intro F r new env sto lg e x; exact JqT,
 by intro F r new env sto lg d z ps os; exact JqY,
 by intro F r new env sto lg d g kp args n; exact JrQ,
 by intro F r new env sto lg g kp args n; exact Jqz,
 by intro α n new sto o; exact Jy0 ..,
 by intro F r new env sto lg op d g w; exact JuX ..,
 by intros; rfl,
 by intros; rfl,
 by intros; rfl,
 by intros; rfl,
 by intros; rfl,
 by intros; rfl,
 by intros; rfl,
 by intros; rfl,
 by intros; rfl,
 by intro α new sto o; exact JxT ..,
 by intros; rfl⟩
set_option maxRecDepth 30000 in
theorem Ua : (∀ n m v r, lk n ((m, v) :: r) = if n = m then some v else lk n r) ∧
 (∀ n env, evv (.t n) env = lk n env) ∧
 (∀ v env, evv (.c v) env = some v) ∧
 (∀ a b, pk (.p (.b true)) a b = a) ∧
 (∀ a b, pk (.p (.b false)) a b = b) ∧
 (∀ env, restr [] env = []) ∧
 (∀ k l env, restr (k :: l) env = JqR k (lk k env) (restr l env)) ∧
 (∀ k v l, JqR k (some v) l = (k, v) :: l) ∧
 (∀ k l, JqR k none l = l) ∧
 (∀ n, lk n [] = none) ∧
 (news [] = 0) ∧
 (∀ i r, news (i :: r) = JF i.op + news r) ∧
 (∀ x, JF (.mv x) = 0) ∧
 (∀ e x, JF (.mkarr e x) = 1) ∧
 (∀ a b c, JF (.pick a b c) = 0) ∧
 (∀ z, JF (.newbox z) = 1) ∧
 (∀ n x, JF (.box n x) = 1) ∧
 (∀ z ps, JF (.build z ps) = 0) ∧
 (∀ o e n z ps, JF (.lits o e n z ps) = if o then 1 else 0) ∧
 (∀ g n x, JF (.load g n x) = 0) ∧
 (∀ n x y, JF (.store n x y) = 0) ∧
 (∀ x, JF (.nilchk x) = 0) ∧
 (∀ op t x y, JF (.bin op t x y) = 0) ∧
 (∀ op x, JF (.un op x) = 0) ∧
 (∀ c x, JF (.conv (.int c) x) = 0) ∧
 (∀ x, JF (.conv .same x) = 0) ∧
 (∀ x, JF (.conv .toStr x) = 0) ∧
 (∀ o x, JF (.conv (.toBytes o) x) = if o then 1 else 0) ∧
 (∀ o e b z l c, JF (.mkslice o e b z l c) = if o then 1 else 0) ∧
 (∀ s x lo hi mx, JF (.slice s x lo hi mx) = 0) ∧
 (∀ off x, JF (.faddr off x) = 0) ∧
 (∀ g off n x, JF (.field g off n x) = 0) ∧
 (∀ e x i, JF (.iaddr e x i) = 0) ∧
 (∀ n e x i, JF (.aaddr n e x i) = 0) ∧
 (∀ x i, JF (.sidx x i) = 0) ∧
 (∀ g n e x i, JF (.aidx g n e x i) = 0) ∧
 (∀ x i, JF (.extr x i) = 0) ∧
 (∀ g args n, JF (.call g args n) = n) ∧
 (∀ g args n, JF (.callv g args n) = n) ∧
 (∀ b x, JF (.len b x) = 0) ∧
 (∀ n, JF (.alen n) = 0) ∧
 (∀ e b z x y, JF (.app e b z x y) = 0) ∧
 (∀ e b z x y, JF (.appz e b z x y) = 0) ∧
 (∀ e b z y, JF (.appn e b z y) = 1) ∧
 (∀ e b z x y, JF (.appc e b z x y) = 1) ∧
 (∀ b x y, JF (.mm b x y) = 0) ∧
 (∀ g a c, JF (.mkfn g a c) = 0) ∧
 (∀ z os, JF (.newboxo z os) = os.length + 1) ∧
 (∀ z ps os, JF (.buildo z ps os) = os.length) ∧
 (∀ e x, JF (.storen e x) = 1) ∧
 (∀ g kp args n, JF (.callo g kp args n) = n) ∧
 (∀ sto, room 0 sto = sto) ∧
 (∀ n sto, room (n + 1) sto = sto ++ .dead :: List.replicate n .dead) ∧
 (∀ sto, upd [] sto = sto) ∧
 (∀ b x ws sto, upd ((b, x) :: ws) sto = upd ws (sto.set b x)) ∧
 (∀ d v ws env sto, put (some d) ⟨v, ws⟩ ⟨env, sto⟩ = ⟨(d, v) :: env, upd ws sto⟩) ∧
 (∀ v ws env sto, put none ⟨v, ws⟩ ⟨env, sto⟩ = ⟨env, upd ws sto⟩) ∧
 (J0O = .tup []) ∧
 (∀ {α β : Type} (a : α) (f : α → β), Option.map f (some a) = some (f a)) ∧
 (∀ k x y, J0p .add .plain (.p (.i k x)) (.p (.i k y)) = some (.p (.i k (k.wrap (x + y))))) ∧
 (∀ k x y, J0p .sub .plain (.p (.i k x)) (.p (.i k y)) = some (.p (.i k (k.wrap (x - y))))) ∧
 (∀ k x y, J0p .mul .plain (.p (.i k x)) (.p (.i k y)) = some (.p (.i k (k.wrap (x * y))))) ∧
 (∀ k x y, J0p .and .plain (.p (.i k x)) (.p (.i k y)) = some (.p (.i k (J5e k x y)))) ∧
 (∀ k x y, J0p .or .plain (.p (.i k x)) (.p (.i k y)) = some (.p (.i k (orI k x y)))) ∧
 (∀ k x y, J0p .xor .plain (.p (.i k x)) (.p (.i k y)) = some (.p (.i k (J5J k x y)))) ∧
 (∀ k x y, J0p .eql .plain (.p (.i k x)) (.p (.i k y)) = some (.p (.b (x == y)))) ∧
 (∀ k x y, J0p .neq .plain (.p (.i k x)) (.p (.i k y)) = some (.p (.b (x != y)))) ∧
 (∀ k x y, J0p .lss .plain (.p (.i k x)) (.p (.i k y)) = some (.p (.b (decide (x < y))))) ∧
 (∀ k x y, J0p .leq .plain (.p (.i k x)) (.p (.i k y)) = some (.p (.b (decide (x ≤ y))))) ∧
 (∀ k x y, J0p .gtr .plain (.p (.i k x)) (.p (.i k y)) = some (.p (.b (decide (x > y))))) ∧
 (∀ k x y, J0p .geq .plain (.p (.i k x)) (.p (.i k y)) = some (.p (.b (decide (x ≥ y))))) ∧
 (∀ k x y, J0p .quo .plain (.p (.i k x)) (.p (.i k y)) = (JqB k x y).map fun z => .p (.i k z)) ∧
 (∀ k x y, J0p .rem .plain (.p (.i k x)) (.p (.i k y)) = (Jl0 x y).map fun z => .p (.i k z)) ∧
 (∀ k k2 x y, J0p .shl .plain (.p (.i k x)) (.p (.i k2 y)) = (JdR k x y).map fun z => .p (.i k z)) ∧
 (∀ k k2 x y, J0p .shr .plain (.p (.i k x)) (.p (.i k2 y)) = (J8O k x y).map fun z => .p (.i k z)) ∧
 (∀ x y, J0p .add .plain (.p (.s x)) (.p (.s y)) = (J1Z x y).map fun z => .p (.s z)) ∧
 (∀ x y, J0p .eql .plain (.p (.s x)) (.p (.s y)) = some (.p (.b (x == y)))) ∧
 (∀ x y, J0p .neq .plain (.p (.s x)) (.p (.s y)) = some (.p (.b (!(x == y))))) ∧
 (∀ x y, J0p .lss .plain (.p (.s x)) (.p (.s y)) = some (.p (.b (Op.bytesLess x y)))) ∧
 (∀ x y, J0p .leq .plain (.p (.s x)) (.p (.s y)) = some (.p (.b (Op.bytesLess x y || x == y)))) ∧
 (∀ x y, J0p .gtr .plain (.p (.s x)) (.p (.s y)) = some (.p (.b (!(Op.bytesLess x y || x == y))))) ∧
 (∀ x y, J0p .geq .plain (.p (.s x)) (.p (.s y)) = some (.p (.b (!Op.bytesLess x y)))) ∧
 (∀ x y, J0p .eql .bool (.p (.b x)) (.p (.b y)) = some (.p (.b (x == y)))) ∧
 (∀ x y, J0p .neq .bool (.p (.b x)) (.p (.b y)) = some (.p (.b (!(x == y))))) ∧
 (∀ ks a c, J0p .eql (.flat ks) (.data a) (.data c) = (J1E ks a c).map fun x => .p (.b x)) ∧
 (∀ ks a c, J0p .neq (.flat ks) (.data a) (.data c) = (J1E ks a c).map fun x => .p (.b (!x))) ∧
 (∀ b o y, J0p .eql .nilp (.ptr b o) y = some (.p (.b false))) ∧
 (∀ b o y, J0p .neq .nilp (.ptr b o) y = some (.p (.b true))) ∧
 (∀ k n, unP .neg (.p (.i k n)) = some (.p (.i k (k.wrap (0 - n))))) ∧
 (∀ k n, unP .xor (.p (.i k n)) = some (.p (.i k (Jr6 k n)))) ∧
 (∀ x, unP .not (.p (.b x)) = some (.p (.b (!x)))) ∧
 ((!true) = false) ∧
 ((!false) = true) ∧
 (∀ k x y, mmP true (.p (.i k x)) (.p (.i k y)) = some (.p (.i k (JxW x y)))) ∧
 (∀ k x y, mmP false (.p (.i k x)) (.p (.i k y)) = some (.p (.i k (Jji x y)))) ∧
 (∀ off b o, JbG off (.ptr b o) = some (.ptr b (o + off))) ∧
 (∀ off o cs, JbG off (.cp cs o) = some (.cp cs (o + off))) ∧
 (∀ off b e i o, JbG off (.ep b e i o) = some (.ep b e i (o + off))) ∧
 (∀ g off n cs, J5W g off n (.data cs) = (sub cs off n).bind (J1V g)) ∧
 (∀ g off n c cs, J5W g off n (.agg (c :: cs)) = (sub (c :: cs) off n).bind (J1J g)) ∧
 (∀ cs, J1V true cs = some (.data cs)) ∧
 (∀ c, J1V false [c] = some (.p c)) ∧
 (∀ cs, J1J true (cs.map AV.p) = some (.data cs)) ∧
 (∀ c cs, J1J true (c :: cs) = some (Jo0 (c :: cs) (unp (c :: cs)))) ∧
 (∀ c, J1J false [c] = some c) ∧
 (∀ cs l, Jo0 cs (some l) = .data l) ∧
 (∀ c, Option.map (fun l => c :: l) (none : Option (List PV)) = none) ∧
 (∀ cs, Jo0 cs none = .agg cs) ∧
 (unp [] = some []) ∧
 (∀ c r, unp (.p c :: r) = (unp r).map fun l => c :: l) ∧
 (∀ b i n r, unp (.slr b i n :: r) = none) ∧
 (∀ b i r, unp (.ptr b i :: r) = none) ∧
 (∀ b e i o r, unp (.ep b e i o :: r) = none) ∧
 (∀ f a c r, unp (.fn f a c :: r) = none) ∧
 (∀ i vs, Jh7 i (.tup vs) = vs[i]?) ∧
 (∀ l, JgB true (.p (.s l)) = some (.p (.i .i64 l.length))) ∧
 (∀ e rows, JgB false (.p (.sl e rows)) = some (.p (.i .i64 rows.length))) ∧
 (∀ b i n, JgB false (.slr b i n) = some (.p (.i .i64 n))) ∧
 (∀ {α β : Type} (g : α → β) (l : List α), (l.map g).length = l.length) ∧
 (∀ b o, JnQ (.ptr b o) = some (.ptr b o)) ∧
 (∀ cs o, JnQ (.cp cs o) = some (.cp cs o)) ∧
 (∀ b e i o, JnQ (.ep b e i o) = some (.ep b e i o)) ∧
 (∀ env sto g n cs off, (J27 g n (.cp cs off)).run ⟨env, sto⟩ = (sub cs off n).bind fun l => (J1V g l).map fun v => ⟨v, []⟩) ∧
 (∀ env sto g n b off, (J27 g n (.ptr b off)).run ⟨env, sto⟩ = sto[b]?.bind fun B => ldB g n off B) ∧
 (∀ env sto g n b e i off, (J27 g n (.ep b e i off)).run ⟨env, sto⟩ = sto[b]?.bind fun B => ldE g n e i off B) ∧
 (∀ g n off cs, ldB g n off (.box (cs.map AV.p)) = (sub cs off n).bind fun l => (J1V g l).map fun v => ⟨v, []⟩) ∧
 (∀ g n off c cs, ldB g n off (.box (c :: cs)) = (sub (c :: cs) off n).bind fun l => (J1J g l).map fun v => ⟨v, []⟩) ∧
 (∀ g n e i off z w rows, ldE g n e i off (.arr w z rows) = if e = rows.length then rows[i]?.bind fun row => (sub row off n).bind fun l => (J1V g l).map fun v => ⟨v, []⟩ else none) ∧
 (∀ env sto n b off v, (J1y n (.ptr b off) v).run ⟨env, sto⟩ = sto[b]?.bind fun B => (cellsOf v).bind fun l => stB n b off l B) ∧
 (∀ n b off cs vs, stB n b off (vs.map AV.p) (.box (cs.map AV.p)) = if vs.length = n then (spl cs off vs).map fun cs => ⟨J0O, [(b, .box (cs.map AV.p))]⟩ else none) ∧
 (∀ b off cs v, stB 1 b off [AV.p v] (.box (cs.map AV.p)) = (spl cs off [v]).map fun cs => ⟨J0O, [(b, .box (cs.map AV.p))]⟩) ∧
 (∀ env sto n b e i off v, (J1y n (.ep b e i off) v).run ⟨env, sto⟩ = sto[b]?.bind fun B => stE n b e i off v B ⟨env, sto⟩) ∧
 (∀ n b e i off z c rows s, stE n b e i off (.p c) (.arr true z rows) s = if e = rows.length then rows[i]?.bind fun row => if 1 = n then (spl row off [c]).map fun row => ⟨J0O, [(b, .arr true z (rows.set i row))]⟩ else none else none) ∧
 (∀ n b e i off z cs rows s, stE n b e i off (.data cs) (.arr true z rows) s = if e = rows.length then rows[i]?.bind fun row => if cs.length = n then (spl row off cs).map fun row => ⟨J0O, [(b, .arr true z (rows.set i row))]⟩ else none else none) ∧
 (∀ c, cellsOf (.p c) = some [.p c]) ∧
 (∀ cs, cellsOf (.data cs) = some (cs.map AV.p)) ∧
 (∀ cs, cellsOf (.agg cs) = some cs) ∧
 (∀ f a c, cellsOf (.fn f a c) = some [.fn f a c]) ∧
 (∀ b i n, cellsOf (.slr b i n) = some [.slr b i n]) ∧
 (∀ b o, cellsOf (.ptr b o) = some [.ptr b o]) ∧
 (∀ c, bxP 1 (.p c) = some [.p c]) ∧
 (∀ n cs, bxP n (.data cs) = if cs.length = n then some (cs.map AV.p) else none) ∧
 (∀ n cs, bxP n (.agg cs) = if cs.length = n then some cs else none) ∧
 (∀ b i n, bxP 1 (.slr b i n) = some [.slr b i n]) ∧
 (∀ env sto e rows k n, (J3d e (.p (.sl e rows)) (.p (.i k n))).run ⟨env, sto⟩ = (Jcc rows n).map fun row => ⟨.cp row 0, []⟩) ∧
 (∀ env sto e b m k n, (J3d e (.slr b 0 m) (.p (.i k n))).run ⟨env, sto⟩ = sto[b]?.bind fun B => iaB e b m n B) ∧
 (∀ e b m n w rows, iaB e b m n (.arr w e rows) = if m = rows.length ∧ 0 ≤ n ∧ n < m then some ⟨.ep b rows.length n.toNat 0, []⟩ else none) ∧
 (∀ n e b off k i, JbF n e (.ptr b off) (.p (.i k i)) = if 0 ≤ i ∧ i < n then some (.ptr b (off + i.toNat * e)) else none) ∧
 (∀ n e off cs k i, JbF n e (.cp cs off) (.p (.i k i)) = if 0 ≤ i ∧ i < n then some (.cp cs (off + i.toNat * e)) else none) ∧
 (∀ n e b x j off k i, JbF n e (.ep b x j off) (.p (.i k i)) = if 0 ≤ i ∧ i < n then some (.ep b x j (off + i.toNat * e)) else none) ∧
 (∀ l k n, Jlq (.p (.s l)) (.p (.i k n)) = (JcR l n).map fun v => .p (.i .u8 v)) ∧
 (∀ g n e cs k i, Jij g n e (.agg cs) (.p (.i k i)) = if 0 ≤ i ∧ i < n then J5W g (i.toNat * e) e (.agg cs) else none) ∧
 (∀ g n e cs k i, Jij g n e (.data cs) (.p (.i k i)) = if 0 ≤ i ∧ i < n then (sub cs (i.toNat * e) e).bind (J1V g) else none) ∧
 (∀ env sto c k n new, (cvR (.int c) (.p (.i k n)) new).run ⟨env, sto⟩ = some ⟨.p (.i c (c.wrap n)), []⟩) ∧
 (∀ env sto l new, (cvR .same (.p (.s l)) new).run ⟨env, sto⟩ = some ⟨.p (.s l), []⟩) ∧
 (∀ env sto l new, (cvR .toStr (.p (.sl 1 (l.map (r_i .u8)))) new).run ⟨env, sto⟩ = some ⟨.p (.s (toStr l)), []⟩) ∧
 (∀ env sto b n new, (cvR .toStr (.slr b 0 n) new).run ⟨env, sto⟩ = sto[b]?.bind fun B => cvB n B) ∧
 (∀ n w l, cvB n (.arr w 1 (l.map (r_i .u8))) = if n = l.length then some ⟨.p (.s (toStr l)), []⟩ else none) ∧
 (∀ env sto l new, (cvR (.toBytes false) (.p (.s l)) new).run ⟨env, sto⟩ = some ⟨.p (.sl 1 ((J9S l).map (r_i .u8))), []⟩) ∧
 (∀ env sto l new, (cvR (.toBytes true) (.p (.s l)) new).run ⟨env, sto⟩ = some ⟨.slr new 0 (J9S l).length, [(new, .arr true 1 ((J9S l).map (r_i .u8)))]⟩) ∧
 (∀ env sto, (J2L []).run ⟨env, sto⟩ = some []) ∧
 (∀ env sto off size x r, (J2L ((off, size, x) :: r)).run ⟨env, sto⟩ = (evv x env).bind fun v => (cellsOf v).bind fun cs => ((J2L r).run ⟨env, sto⟩).bind fun l => some ((off, size, cs) :: l)) ∧
 (∀ cs, J0Y [] cs = some cs) ∧
 (∀ off size vs cs r, J0Y ((off, size, vs.map AV.p) :: r) (cs.map AV.p) = if vs.length = size then (spl cs off vs).bind fun cs => J0Y r (cs.map AV.p) else none) ∧
 (∀ off v cs r, J0Y ((off, 1, [AV.p v]) :: r) (cs.map AV.p) = (spl cs off [v]).bind fun cs => J0Y r (cs.map AV.p)) ∧
 (∀ env sto, (evs []).run ⟨env, sto⟩ = some []) ∧
 (∀ env sto x r, (evs (x :: r)).run ⟨env, sto⟩ = (evv x env).bind fun v => ((evs r).run ⟨env, sto⟩).bind fun vs => some (v :: vs)) ∧
 (∀ n, J3p [] n = []) ∧
 (∀ o e r n, J3p ((o, e) :: r) n = (n, .arr true e []) :: J3p r (n + 1)) ∧
 (∀ n cs, J7S [] n cs = cs) ∧
 (∀ o e r n cs, J7S ((o, e) :: r) n cs = J7S r (n + 1) (cs.set o (.slr n 0 0))) ∧
 (∀ env sto m, (J2u m []).run ⟨env, sto⟩ = some ([], [])) ∧
 (∀ env sto l, (J2u [] l).run ⟨env, sto⟩ = (JC l).run ⟨env, sto⟩) ∧
 (∀ env sto x m r, (J2u (true :: m) (x :: r)).run ⟨env, sto⟩ = ((J2u m r).run ⟨env, sto⟩).bind fun c => some (x :: c.1, c.2)) ∧
 (∀ env sto x m r, (J2u (false :: m) (x :: r)).run ⟨env, sto⟩ = ((JC [x]).run ⟨env, sto⟩).bind fun a => ((J2u m r).run ⟨env, sto⟩).bind fun c => some (a.1 ++ c.1, a.2 ++ c.2)) ∧
 (∀ env sto, (JC []).run ⟨env, sto⟩ = some ([], [])) ∧
 (∀ env sto c r, (JC (.p c :: r)).run ⟨env, sto⟩ = ((JC r).run ⟨env, sto⟩).bind fun a => some (.p c :: a.1, a.2)) ∧
 (∀ env sto c r, (JC (.data c :: r)).run ⟨env, sto⟩ = ((JC r).run ⟨env, sto⟩).bind fun a => some (.data c :: a.1, a.2)) ∧
 (∀ env sto b o r, (JC (.ptr b o :: r)).run ⟨env, sto⟩ = ((JC r).run ⟨env, sto⟩).bind fun a => some (.ptr b o :: a.1, a.2)) ∧
 (∀ env sto c o r, (JC (.cp c o :: r)).run ⟨env, sto⟩ = ((JC r).run ⟨env, sto⟩).bind fun a => some (.cp c o :: a.1, a.2)) ∧
 (∀ env sto b x i o r, (JC (.ep b x i o :: r)).run ⟨env, sto⟩ = ((JC r).run ⟨env, sto⟩).bind fun a => some (.ep b x i o :: a.1, a.2)) ∧
 (∀ env sto b n r, (JC (.slr b 0 n :: r)).run ⟨env, sto⟩ = sto[b]?.bind fun B => (frz b n B).bind fun x => ((JC r).run ⟨env, sto⟩).bind fun a => some (x.1 :: a.1, x.2 :: a.2)) ∧
 (∀ env sto cs r, (JC (.agg cs :: r)).run ⟨env, sto⟩ = ((fz.fzL cs).run ⟨env, sto⟩).bind fun x => ((JC r).run ⟨env, sto⟩).bind fun a => some (.data x.1 :: a.1, x.2 ++ a.2)) ∧
 (∀ b n z w rows, frz b n (.arr w z rows) = if n = rows.length then some (.p (.sl z rows), (b, .arr false z rows)) else none) ∧
 (∀ env sto, (fz.fzL []).run ⟨env, sto⟩ = some ([], [])) ∧
 (∀ env sto c r, (fz.fzL (.p c :: r)).run ⟨env, sto⟩ = ((fz.fzL r).run ⟨env, sto⟩).bind fun a => some (c :: a.1, a.2)) ∧
 (∀ env sto b n r, (fz.fzL (.slr b 0 n :: r)).run ⟨env, sto⟩ = sto[b]?.bind fun B => (frp b n B).bind fun x => ((fz.fzL r).run ⟨env, sto⟩).bind fun a => some (x.1 :: a.1, x.2 :: a.2)) ∧
 (∀ b n z w rows, frp b n (.arr w z rows) = if n = rows.length then some (.sl z rows, (b, .arr false z rows)) else none) ∧
 (∀ env sto f a c r, (JC (.fn f a c :: r)).run ⟨env, sto⟩ = ((JC r).run ⟨env, sto⟩).bind fun x => some (.fn f a c :: x.1, x.2)) ∧
 (∀ m ids sto f a c, fin m ids sto (.fn f a c) = (fin.finL m ids sto a).bind fun a1 => (fin.finL m ids sto c).bind fun c1 => some (.fn f a1 c1)) ∧
 (∀ f a c l, JY (.fn f a c) l = JY.entsOfL c (JY.entsOfL a l)) ∧
 (∀ ws s, JG ws s [] [] = True) ∧
 (∀ ws s b bs cs css, JG ws s (b :: bs) (cs :: css) = ((J9d ws b).run s = some (.box cs) ∧ JG ws s bs css)) ∧
 (∀ env sto b c x ws, (J9d ((c, x) :: ws) b).run ⟨env, sto⟩ = sto[b]?.bind fun y => some ((J2v b ((c, x) :: ws)).getD y)) ∧
 (∀ b, J2v b [] = none) ∧
 (∀ b c x r, J2v b ((c, x) :: r) = lwO (J2v b r) (if c = b then some x else none)) ∧
 (∀ x y, lwO (some x) y = some x) ∧
 (∀ y, lwO none y = y) ∧
 (∀ {α : Type} (a b : α), (some a).getD b = a) ∧
 (∀ {α : Type} (b : α), (none : Option α).getD b = b) ∧
 (∀ env sto b, (J9d [] b).run ⟨env, sto⟩ = sto[b]?) ∧
 (∀ env sto e rows, (JT e (.p (.sl e rows))).run ⟨env, sto⟩ = some rows) ∧
 (∀ env sto l, (JT 1 (.p (.s l))).run ⟨env, sto⟩ = some ((J9S l).map (r_i .u8))) ∧
 (∀ env sto e b n, (JT e (.slr b 0 n)).run ⟨env, sto⟩ = sto[b]?.bind fun B => roB e n B) ∧
 (∀ e n w rows, roB e n (.arr w e rows) = if n = rows.length then some rows else none) ∧
 (∀ env sto o e n new z ps, (ltR o e n z ps new).run ⟨env, sto⟩ = ((fzs (ps.map (·.2))).run ⟨env, sto⟩).bind fun a => (J4n e ((ps.map (·.1)).zip a.1) (List.replicate n z)).map fun rows => if o then ⟨.slr new 0 n, a.2 ++ [(new, .arr true e rows)]⟩ else ⟨.p (.sl e rows), a.2⟩) ∧
 (∀ env sto, (fzs []).run ⟨env, sto⟩ = some ([], [])) ∧
 (∀ env sto x r, (fzs (x :: r)).run ⟨env, sto⟩ = (evv x env).bind fun v => ((fz v).run ⟨env, sto⟩).bind fun a => ((fzs r).run ⟨env, sto⟩).bind fun c => some (a.1 :: c.1, a.2 ++ c.2)) ∧
 (∀ env sto c, (fz (.p c)).run ⟨env, sto⟩ = some ([c], [])) ∧
 (∀ env sto cs, (fz (.data cs)).run ⟨env, sto⟩ = some (cs, [])) ∧
 (∀ env sto cs, (fz (.agg cs)).run ⟨env, sto⟩ = (fz.fzL cs).run ⟨env, sto⟩) ∧
 (∀ env sto b n, (fz (.slr b 0 n)).run ⟨env, sto⟩ = sto[b]?.bind fun B => (frp b n B).bind fun x => some ([x.1], [x.2])) ∧
 (∀ e rows, J4n e [] rows = some rows) ∧
 (∀ e i c r rows, J4n e ((i, c) :: r) rows = if c.length = e ∧ i < rows.length then J4n e r (rows.set i c) else none) ∧
 (∀ o e b new z k k2 n m, mkP o e b z (.p (.i k n)) (.p (.i k2 m)) new = if 0 ≤ n ∧ n ≤ m ∧ b * m ≤ 281474976710656 ∧ m ≤ 281474976710656 then some (if o then ⟨.slr new 0 n.toNat, [(new, .arr true e (List.replicate n.toNat z))]⟩ else ⟨.p (.sl e (List.replicate n.toNat z)), []⟩) else none) ∧
 (∀ env, J9A none env = some none) ∧
 (∀ x env, J9A (some x) env = (evv x env).map some) ∧
 (∀ env sto s c lo hi, (slR s (.p c) lo hi none).run ⟨env, sto⟩ = (slX s (.p c) lo hi).map fun v => ⟨v, []⟩) ∧
 (∀ env sto s b n lo hi, (slR s (.slr b 0 n) lo hi none).run ⟨env, sto⟩ = sto[b]?.bind fun B => (frz b n B).bind fun x => (slX s x.1 lo hi).map fun v => ⟨v, [x.2]⟩) ∧
 (∀ x lo hi, slX .str x lo hi = J13 x lo hi) ∧
 (∀ e x lo hi, slX (.sl e) x lo hi = J8Z e x lo hi) ∧
 (∀ n live env sto, J61 n live ⟨env, sto⟩ = if sto.length = n then some ⟨restr live env, sto⟩ else (J92 n sto (restr live env)).bind fun e => (J3K n [] sto (sto.take n)).bind fun l => some ⟨e, l⟩) ∧
 (∀ m sto, J92 m sto [] = some []) ∧
 (∀ m k sto x r, J92 m sto ((k, x) :: r) = (fin m [] sto x).bind fun y => (J92 m sto r).bind fun l => some ((k, y) :: l)) ∧
 (∀ m ids sto, J3K m ids sto [] = some []) ∧
 (∀ m ids sto x r, J3K m ids sto (x :: r) = (J4T m ids sto x).bind fun y => (J3K m ids sto r).bind fun l => some (y :: l)) ∧
 (∀ m ids sto, J4T m ids sto .dead = some .dead) ∧
 (∀ m ids sto w z rows, J4T m ids sto (.arr w z rows) = some (.arr w z rows)) ∧
 (∀ m ids sto cs, J4T m ids sto (.box cs) = (fin.finL m ids sto cs).map .box) ∧
 (∀ (m : Nat) (ids : List Nat) (sto : List Blk) (l : List PV), fin.finL m ids sto (l.map AV.p) = some (l.map AV.p)) ∧
 (∀ m ids sto, fin.finL m ids sto [] = some []) ∧
 (∀ m ids sto x r, fin.finL m ids sto (x :: r) = (fin m ids sto x).bind fun y => (fin.finL m ids sto r).bind fun l => some (y :: l)) ∧
 (∀ m ids sto c, fin m ids sto (.p c) = some (.p c)) ∧
 (∀ m ids sto c, fin m ids sto (.data c) = some (.data c)) ∧
 (∀ m ids sto c o, fin m ids sto (.cp c o) = some (.cp c o)) ∧
 (∀ m ids sto, fin m ids sto (.tup []) = some (.tup [])) ∧
 (∀ m ids sto b off, fin m ids sto (.ptr b off) = if b < m then some (.ptr b off) else (J8T b ids m).map fun k => .ptr k off) ∧
 (∀ m ids sto b n, fin m ids sto (.slr b 0 n) = if b < m then some (.slr b 0 n) else fsl (J8T b ids m) n sto[b]?) ∧
 (∀ k n o, fsl (some k) n o = some (.slr k 0 n)) ∧
 (∀ n z w rows, fsl none n (some (.arr w z rows)) = if n = rows.length then some (.p (.sl z rows)) else none) ∧
 (∀ m ids sto cs, fin m ids sto (.agg cs) = (fin.finL m ids sto cs).bind fun l => some (Jo0 l (unp l))) ∧
 (∀ m ids sto x cs, fin m ids sto (.tup (x :: cs)) = (fin.finL m ids sto (x :: cs)).map .tup) ∧
 (∀ b k, J8T b [] k = none) ∧
 (∀ b x k r, J8T b (x :: r) k = if x = b then some k else J8T b r (k + 1)) ∧
 (∀ res fresh m env sto, JiF res fresh m ⟨env, sto⟩ = ((J6v res).run ⟨env, sto⟩).bind fun vs => if sto.length = m then some (one vs, sto) else Jr2 fresh m vs sto (J12 m fresh sto (J86 sto (JY.entsOfL vs []) (JY.entsOfL vs [])))) ∧
 (∀ fresh m vs sto ids, Jr2 fresh m vs sto ids = if J5s ids = true then (fin.finL m ids sto vs).bind fun ws => (J3K m ids sto (sto.take m)).bind fun l => (J7v sto ids).bind fun q => (J3K m ids sto q).bind fun q => some (one ws, l ++ q) else none) ∧
 (∀ env sto, (J6v []).run ⟨env, sto⟩ = some []) ∧
 (∀ env sto t r, (J6v (.tmp t :: r)).run ⟨env, sto⟩ = (lk t env).bind fun v => ((J6v r).run ⟨env, sto⟩).bind fun l => some (v :: l)) ∧
 (∀ env sto t n g r, (J6v (.cell t g n :: r)).run ⟨env, sto⟩ = (lk t env).bind fun v => ((J27 g n v).run ⟨env, sto⟩).bind fun e => ((J6v r).run ⟨env, sto⟩).bind fun l => some (e.val :: l)) ∧
 (∀ x, one [x] = x) ∧
 (one [] = .tup []) ∧
 (∀ x y r, one (x :: y :: r) = .tup (x :: y :: r)) ∧
 (∀ m fresh sto, J12 m fresh sto [] = []) ∧
 (∀ m b sto r, J12 m false sto (.whole b :: r) = if b < m then J12 m false sto r else oid b sto[b]? (J12 m false sto r)) ∧
 (∀ m b sto r, J12 m true sto (.whole b :: r) = if b < m then J12 m true sto r else Jo9 b sto[b]? (J12 m true sto r)) ∧
 (∀ b cs l, Jo9 b (some (.box cs)) l = b :: l) ∧
 (∀ b z w rows l, Jo9 b (some (.arr w z rows)) l = b :: l) ∧
 (∀ b cs l, oid b (some (.box cs)) l = b :: l) ∧
 (∀ b z w rows l, oid b (some (.arr w z rows)) l = l) ∧
 (∀ sto acc, J86 sto [] acc = acc) ∧
 (∀ sto b r acc, J86 sto (.whole b :: r) acc = J86 sto r (ebb sto[b]? acc)) ∧
 (∀ cs acc, ebb (some (.box cs)) acc = JY.entsOfL cs acc) ∧
 (∀ z w rows acc, ebb (some (.arr w z rows)) acc = acc) ∧
 (∀ l, JY.entsOfL [] l = l) ∧
 (∀ x r l, JY.entsOfL (x :: r) l = JY.entsOfL r (JY x l)) ∧
 (∀ (cs : List PV) (l : List Ent), JY.entsOfL (cs.map AV.p) l = l) ∧
 (∀ c l, JY (.p c) l = l) ∧
 (∀ c l, JY (.data c) l = l) ∧
 (∀ c o l, JY (.cp c o) l = l) ∧
 (∀ b o l, JY (.ptr b o) l = J8k (.whole b) l) ∧
 (∀ b i n l, JY (.slr b i n) l = J8k (.whole b) l) ∧
 (∀ cs l, JY (.agg cs) l = JY.entsOfL cs l) ∧
 (∀ cs l, JY (.tup cs) l = JY.entsOfL cs l) ∧
 (∀ e, J8k e [] = [e]) ∧
 (∀ b c r, J8k (.whole b) (.whole c :: r) = if c = b then .whole c :: r else .whole c :: J8k (.whole b) r) ∧
 (J5s [] = true) ∧
 (∀ x, J5s [x] = true) ∧
 (∀ sto, J7v sto [] = some []) ∧
 (∀ sto b r, J7v sto (b :: r) = sto[b]?.bind fun x => (J7v sto r).bind fun l => some (x :: l)) ∧
 (∀ {α : Type} (a : α) (l : List α), (a :: l)[0]? = some a) ∧
 (∀ {α : Type} (a : α) (l : List α) (n : Nat), (a :: l)[n + 1]? = l[n]?) ∧
 (∀ {α : Type} (n : Nat), ([] : List α)[n]? = none) ∧
 (∀ {α : Type} (a b : α) (l : List α), (a :: l).set 0 b = b :: l) ∧
 (∀ {α : Type} (a b : α) (l : List α) (n : Nat), (a :: l).set (n + 1) b = a :: l.set n b) ∧
 (∀ {α : Type} (l : List α), [] ++ l = l) ∧
 (∀ {α : Type} (l : List α), l ++ [] = l) ∧
 (∀ {α : Type} (a : α) (l r : List α), (a :: l) ++ r = a :: (l ++ r)) ∧
 (∀ {α : Type} (a : α), List.replicate 0 a = []) ∧
 (∀ {α : Type} (a : α) (n : Nat), List.replicate (n + 1) a = a :: List.replicate n a) ∧
 (∀ {α β : Type} (g : α → β), List.map g [] = []) ∧
 (∀ {α β : Type} (g : α → β) (a : α) (l : List α), List.map g (a :: l) = g a :: List.map g l) ∧
 (∀ {α : Type}, ([] : List α).length = 0) ∧
 (∀ {α : Type} (a : α) (l : List α), (a :: l).length = l.length + 1) ∧
 (∀ {α : Type} (l : List α), l.take 0 = []) ∧
 (∀ {α : Type} (a : α) (l : List α) (n : Nat), (a :: l).take (n + 1) = a :: l.take n) ∧
 (∀ {α β : Type} (l : List β), ([] : List α).zip l = []) ∧
 (∀ {α β : Type} (a : α) (b : β) (l : List α) (r : List β), (a :: l).zip (b :: r) = (a, b) :: l.zip r) ∧
 (∀ n, 0 + n = n) ∧
 (∀ n, n + 0 = n) ∧
 (∀ k n, r_i k n = [.i k n]) ∧
 (∀ x, r_b x = [.b x]) ∧
 (∀ x, r_s x = [.s x]) ∧
 (∀ {α : Type} (e : Nat) (g : α → List PV) (l : List α), JkU e g l = [.sl e (l.map g)]) ∧
 (∀ (a : PV), sub [a] 0 1 = some [a]) ∧
 (∀ (a b : PV), spl [a] 0 [b] = some [b]) ∧
 (∀ {α : Type} (cs : List α), sub cs 0 0 = some []) ∧
 (∀ {α : Type} (a : α) (cs : List α) (n : Nat), sub (a :: cs) 0 (n + 1) = (sub cs 0 n).map (a :: ·)) ∧
 (∀ {α : Type} (a : α) (cs : List α) (n m : Nat), sub (a :: cs) (n + 1) m = sub cs n m) ∧
 (∀ {α : Type} (cs : List α), spl cs 0 [] = some cs) ∧
 (∀ {α : Type} (a b : α) (cs vs : List α), spl (a :: cs) 0 (b :: vs) = (spl cs 0 vs).map (b :: ·)) ∧
 (∀ {α : Type} (a : α) (cs : List α) (n : Nat) (vs : List α), spl (a :: cs) (n + 1) vs = (spl cs n vs).map (a :: ·)) ∧
 (∀ n b off l c cs, stB n b off l (.box (c :: cs)) = if l.length = n then (spl (c :: cs) off l).map fun cs => ⟨J0O, [(b, .box cs)]⟩ else none) ∧
 (∀ off size c a cs r, J0Y ((off, size, c) :: r) (a :: cs) = if c.length = size then (spl (a :: cs) off c).bind fun cs => J0Y r cs else none) ∧
 (∀ {α : Type} (a b : α), (if True then a else b) = a) ∧
 (∀ {α : Type} (a b : α), (if False then a else b) = b) ∧
 (∀ {α : Type} (a b : α), (if true = true then a else b) = a) ∧
 (∀ {α : Type} (a b : α), (if false = true then a else b) = b) ∧
 (∀ a, (True ∧ a) = a) ∧
 (∀ a, (a ∧ True) = a) ∧
 (∀ {α : Type} (a : α), (a = a) = True) ∧
 (∀ {α β : Type} (a : α) (b : β), (a, b).1 = a) ∧
 (∀ {α β : Type} (a : α) (b : β), (a, b).2 = b) :=
 ⟨by intros; rfl,
 by intros; rfl,
 by intros; rfl,
 by intros; rfl,
 by intros; rfl,
 by intros; rfl,
 by intros; rfl,
 by intros; rfl,
 by intros; rfl,
 by intros; rfl,
 rfl,
 by intros; rfl,
 by intros; rfl,
 by intros; rfl,
 by intros; rfl,
 by intros; rfl,
 by intros; rfl,
 by intros; rfl,
 by intros; rfl,
 by intros; rfl,
 by intros; rfl,
 by intros; rfl,
 by intros; rfl,
 by intros; rfl,
 by intros; rfl,
 by intros; rfl,
 by intros; rfl,
 by intros; rfl,
 by intros; rfl,
 by intros; rfl,
 by intros; rfl,
 by intros; rfl,
 by intros; rfl,
 by intros; rfl,
 by intros; rfl,
 by intros; rfl,
 by intros; rfl,
 by intros; rfl,
 by intros; rfl,
 by intros; rfl,
 by intros; rfl,
 by intros; rfl,
 by intros; rfl,
 by intros; rfl,
 by intros; rfl,
 by intros; rfl,
 by intros; rfl,
 by intros; rfl,
 by intros; rfl,
 by intros; rfl,
 by intros; rfl,
 by intros; rfl,
 by intros; rfl,
 by intros; rfl,
 by intros; rfl,
 by intros; rfl,
 by intros; rfl,
 rfl,
 by intros; rfl,
 by intro k x y; simp only [J0p, if_true, J8M, Option.map_some]; try rfl,
 by intro k x y; simp only [J0p, if_true, J8M, Option.map_some]; try rfl,
 by intro k x y; simp only [J0p, if_true, J8M, Option.map_some]; try rfl,
 by intro k x y; simp only [J0p, if_true, J8M, Option.map_some]; try rfl,
 by intro k x y; simp only [J0p, if_true, J8M, Option.map_some]; try rfl,
 by intro k x y; simp only [J0p, if_true, J8M, Option.map_some]; try rfl,
 by intro k x y; simp only [J0p, if_true, J8M, Option.map_some]; try rfl,
 by intro k x y; simp only [J0p, if_true, J8M, Option.map_some]; try rfl,
 by intro k x y; simp only [J0p, if_true, J8M, Option.map_some]; try rfl,
 by intro k x y; simp only [J0p, if_true, J8M, Option.map_some]; try rfl,
 by intro k x y; simp only [J0p, if_true, J8M, Option.map_some]; try rfl,
 by intro k x y; simp only [J0p, if_true, J8M, Option.map_some]; try rfl,
 by intro k x y; simp only [J0p, if_true, J8M, JqB]; split <;> rfl,
 by intro k x y; simp only [J0p, if_true, J8M, Jl0]; split <;> rfl,
 by intro k k2 x y; simp only [J0p, JcU, JdR]; split <;> rfl,
 by intro k k2 x y; simp only [J0p, JcU, J8O]; split <;> rfl,
 by intro x y; simp only [J0p, Jnr, J1Z]; split <;> rfl,
 by intro x y; rfl,
 by intro x y; rfl,
 by intro x y; rfl,
 by intro x y; rfl,
 by intro x y; rfl,
 by intro x y; rfl,
 by intros; rfl,
 by intros; rfl,
 by intro ks a c; simp only [J0p, J9a]; cases J1E ks a c <;> rfl,
 by intro ks a c; simp only [J0p, J9a]; cases J1E ks a c <;> rfl,
 by intros; rfl,
 by intros; rfl,
 by intros; rfl,
 by intros; rfl,
 by intros; rfl,
 rfl,
 rfl,
 by intros; rfl,
 by intros; rfl,
 by intros; rfl,
 by intros; rfl,
 by intros; rfl,
 by intro g off n cs; simp only [J5W]; cases sub cs off n <;> rfl,
 by intro g off n c cs; simp only [J5W]; cases sub (c :: cs) off n <;> rfl,
 by intros; rfl,
 by intros; rfl,
 by intro cs; exact JhV cs,
 by intro c cs; simp only [J1J, if_true]; cases unp (c :: cs) <;> rfl,
 by intros; rfl,
 by intros; rfl,
 by intros; rfl,
 by intros; rfl,
 rfl,
 by intro c r; simp only [unp]; cases unp r <;> rfl,
 by intros; rfl,
 by intros; rfl,
 by intros; rfl,
 by intros; rfl,
 by intros; rfl,
 by intros; rfl,
 by intros; rfl,
 by intros; rfl,
 by intro α β g l; simp,
 by intros; rfl,
 by intros; rfl,
 by intros; rfl,
 by intro env sto g n cs off; exact Jv6 ..,
 by intro env sto g n b off; exact Jv0 ..,
 by intro env sto g n b e i off; exact JuH ..,
 by intro g n off cs; exact Jxy ..,
 by intros; rfl,
 by intros; rfl,
 by intro env sto n b off v; exact JuI ..,
 by intro n b off cs vs; exact Juq ..,
 by intro b off cs v; exact Jxq ..,
 by intro env sto n b e i off v; exact Jva ..,
 by intro n b e i off z c rows s; exact Jxp ..,
 by intro n b e i off z cs rows s; exact Jxv ..,
 by intros; rfl,
 by intros; rfl,
 by intros; rfl,
 by intros; rfl,
 by intros; rfl,
 by intros; rfl,
 by intros; rfl,
 by intro n cs; exact JwU ..,
 by intros; rfl,
 by intros; rfl,
 by intro env sto e rows k n; exact Jte ..,
 by intro env sto e b m k n; exact Jtn ..,
 by intro e b m n w rows; exact Jw3 ..,
 by intros; rfl,
 by intros; rfl,
 by intros; rfl,
 by intro l k n; exact Jx3 ..,
 by intros; rfl,
 by intro g n e cs k i; exact JwP ..,
 by intros; rfl,
 by intros; rfl,
 @Jon,
 by intro env sto b n new; exact JtH ..,
 @Jxn,
 by intro env sto l new; exact JsM ..,
 by intro env sto l new; exact JrP ..,
 by intros; rfl,
 by intro env sto off size x r; exact Jw9 ..,
 by intros; rfl,
 by intro off size vs cs r; exact Jo8 ..,
 by intro off v cs r; exact JsR ..,
 by intros; rfl,
 by intro env sto x r; exact Jx8 ..,
 by intros; rfl,
 by intros; rfl,
 by intros; rfl,
 by intros; rfl,
 by intro env sto m; cases m <;> rfl,
 by intro env sto l; rw [JlV],
 by intro env sto x m r; exact Jvh ..,
 by intro env sto x m r; exact Jw2 ..,
 by intros; rfl,
 by intro env sto c r; exact Je2 _ _ rfl ..,
 by intro env sto c r; exact Je2 _ _ rfl ..,
 by intro env sto b o r; exact Je2 _ _ rfl ..,
 by intro env sto c o r; exact Je2 _ _ rfl ..,
 by intro env sto b x i o r; exact Je2 _ _ rfl ..,
 by intro env sto b n r; exact Juf ..,
 by intro env sto cs r; exact Ju1 ..,
 @fr,
 by intros; rfl,
 by intro env sto c r; exact Ju9 ..,
 by intro env sto b n r; exact Jtu ..,
 by intros; rfl,
 by intro env sto f a c r; exact Je2 _ _ rfl ..,
 by intro m ids sto f a c; exact Jvg ..,
 by intros; rfl,
 by intros; rfl,
 by intros; rfl,
 by intro env sto b c x ws; exact Jvy ..,
 by intros; rfl,
 by intro b c x r; exact Jwr ..,
 by intros; rfl,
 by intros; rfl,
 by intros; rfl,
 by intros; rfl,
 by intro env sto b; exact JwG ..,
 by intro env sto e rows; exact Jta ..,
 by intro env sto l; exact JtF ..,
 by intro env sto e b n; exact JsJ ..,
 by intro e n w rows; exact Jto ..,
 by intro env sto o e n new z ps; exact Jx1 ..,
 by intros; rfl,
 by intro env sto x r; exact Jwp ..,
 by intros; rfl,
 by intros; rfl,
 by intros; rfl,
 by intro env sto b n; exact JrX ..,
 by intros; rfl,
 by intros; rfl,
 @mk,
 by intros; rfl,
 by intros; rfl,
 by intro env sto s c lo hi; exact Ju4 ..,
 by intro env sto s b n lo hi; exact JtZ ..,
 by intros; rfl,
 by intros; rfl,
 @cl,
 by intros; rfl,
 by intro m k sto x r; exact Jwi ..,
 by intros; rfl,
 by intro m ids sto x r; exact Jx6 ..,
 by intros; rfl,
 by intros; rfl,
 by intro m ids sto cs; exact JuP ..,
 by intro m ids sto l; exact JlY m ids sto l,
 by intros; rfl,
 by intro m ids sto x r; exact JwO ..,
 by intros; rfl,
 by intros; rfl,
 by intros; rfl,
 by intros; rfl,
 by intros; rfl,
 by intro m ids sto b n; exact JuV ..,
 by intros; rfl,
 by intros; rfl,
 by intro m ids sto cs; exact Jvr ..,
 by intro m ids sto x cs; exact Jv5 ..,
 by intros; rfl,
 by intros; rfl,
 by intros; rfl,
 by intros; rfl,
 by intros; rfl,
 by intro env sto t r; exact JsA ..,
 by intro env sto t n g r; exact Jth ..,
 by intros; rfl,
 rfl,
 by intros; rfl,
 by intros; rfl,
 by intro m b sto r; exact JwD ..,
 by intro m b sto r; exact JvS ..,
 by intros; rfl,
 by intros; rfl,
 by intros; rfl,
 by intros; rfl,
 by intros; rfl,
 by intro sto b r acc; exact Jwn ..,
 by intros; rfl,
 by intros; rfl,
 by intros; rfl,
 by intros; rfl,
 by intro cs l; exact JrY cs l,
 by intros; rfl,
 by intros; rfl,
 by intros; rfl,
 by intros; rfl,
 by intros; rfl,
 by intros; rfl,
 by intros; rfl,
 by intros; rfl,
 by intro b c r; exact JwY ..,
 rfl,
 by intros; rfl,
 by intros; rfl,
 by intro sto b r; exact JwM ..,
 by intros; rfl,
 by intros; rfl,
 by intros; rfl,
 by intros; rfl,
 by intros; rfl,
 @Jxa,
 @JwC,
 @JwV,
 by intros; rfl,
 by intros; rfl,
 @Jwe,
 @JwZ,
 @JwW,
 @JwH,
 by intros; rfl,
 by intros; rfl,
 by intros; rfl,
 by intros; rfl,
 by intro n; exact Nat.zero_add n,
 by intros; rfl,
 @Jww,
 @JwR,
 @Jut,
 @Jwg,
 @s1,
 by intros; rfl,
 by intro α cs; rw [J6E]; simp,
 by intro α a cs n; exact Jtc ..,
 by intro α a cs n m; exact JsZ ..,
 by intro α cs; rw [J7D]; simp,
 by intro α a b cs vs; exact Jtd ..,
 by intro α a cs n vs; exact JsC ..,
 by intros; rfl,
 by intro off size c a cs r; exact JsE ..,
 by intros; rfl,
 by intros; rfl,
 by intros; rfl,
 by intros; rfl,
 by intro a; simp,
 by intro a; simp,
 by intro α a; simp,
 by intros; rfl,
 by intros; rfl⟩
set_option maxRecDepth 30000 in
theorem Nf : (∀ {α : Type} (l : List α), [] ++ l = l) ∧
 (∀ {α : Type} (l : List α), l ++ [] = l) ∧
 (∀ {α : Type} (a : α) (l r : List α), (a :: l) ++ r = a :: (l ++ r)) ∧
 (∀ {α β : Type} (g : α → β), List.map g [] = []) ∧
 (∀ {α β : Type} (g : α → β) (a : α) (l : List α), List.map g (a :: l) = g a :: List.map g l) ∧
 (∀ {α : Type}, ([] : List α).length = 0) ∧
 (∀ {α : Type} (a : α) (l : List α), (a :: l).length = l.length + 1) ∧
 (∀ k n, r_i k n = [.i k n]) ∧
 (∀ x, r_b x = [.b x]) ∧
 (∀ x, r_s x = [.s x]) ∧
 (∀ {α : Type} (e : Nat) (g : α → List PV) (l : List α), JkU e g l = [.sl e (l.map g)]) :=
 ⟨@Jxa,
 @JwC,
 @JwV,
 @Jwe,
 @JwZ,
 @JwW,
 @JwH,
 @Jww,
 @JwR,
 @Jut,
 @Jwg⟩
set_option maxRecDepth 30000 in
theorem Ra : (∀ F new env sto g n x, rdO F (.load g n x) new ⟨env, sto⟩ = rb (evv x env) fun a => Jg ((J27 g n a).reads ⟨env, sto⟩)) ∧
 (∀ s g n b o, Jg ((J27 g n (.ptr b o)).reads s) = [b]) ∧
 (∀ s g n o cs, Jg ((J27 g n (.cp cs o)).reads s) = []) ∧
 (∀ s g n b e i o, Jg ((J27 g n (.ep b e i o)).reads s) = [b]) ∧
 (∀ F new s z, rdO F (.newbox z) new s = [new]) ∧
 (∀ F new env sto n x y, rdO F (.store n x y) new ⟨env, sto⟩ = rb (evv x env) fun a => rb (evv y env) fun c => Jg ((J1y n a c).reads ⟨env, sto⟩)) ∧
 (∀ s n b o v, Jg ((J1y n (.ptr b o) v).reads s) = [b]) ∧
 (∀ s n b e i o c, Jg ((J1y n (.ep b e i o) (.p c)).reads s) = [b]) ∧
 (∀ s n b e i o c, Jg ((J1y n (.ep b e i o) (.data c)).reads s) = [b]) ∧
 (∀ F new env sto g args, rdO F (.call g args 0) new ⟨env, sto⟩ = rb ((evs args).run ⟨env, sto⟩) fun a => Jg ((JC a).reads ⟨env, sto⟩) ++ rb ((JC a).run ⟨env, sto⟩) fun a => Jg ((Jm F g a 0 new).reads ⟨env, sto⟩)) ∧
 (∀ F new env sto g args, rdO F (.call g args 1) new ⟨env, sto⟩ = new :: rb (is1 sto[new]?) fun _ => rb ((evs args).run ⟨env, sto⟩) fun a => Jg ((JC a).reads ⟨env, sto⟩) ++ rb ((JC a).run ⟨env, sto⟩) fun a => Jg ((Jm F g a 1 new).reads ⟨env, sto⟩)) ∧
 (is1 (some .dead) = some ()) ∧
 (∀ {α β : Type} (a : α) (f : α → List β), rb (some a) f = f a) ∧
 (∀ F new env sto g args, rdO F (.callv g args 0) new ⟨env, sto⟩ = rb (evv g env) fun u => cvl u fun h a1 c1 => rb ((evs args).run ⟨env, sto⟩) fun a => Jg ((JC (a1 ++ a ++ c1)).reads ⟨env, sto⟩) ++ rb ((JC (a1 ++ a ++ c1)).run ⟨env, sto⟩) fun a => Jg ((Jm F h a 0 new).reads ⟨env, sto⟩)) ∧
 (∀ {α : Type} (f : FuncId) (a c : List AV) (k : FuncId → List AV → List AV → List α), cvl (.fn f a c) k = k f a c) ∧
 (∀ s, Jg ((JC []).reads s) = []) ∧
 (∀ s c r, Jg ((JC (.p c :: r)).reads s) = Jg ((JC r).reads s)) ∧
 (∀ s c r, Jg ((JC (.data c :: r)).reads s) = Jg ((JC r).reads s)) ∧
 (∀ s b o r, Jg ((JC (.ptr b o :: r)).reads s) = Jg ((JC r).reads s)) ∧
 (∀ s c o r, Jg ((JC (.cp c o :: r)).reads s) = Jg ((JC r).reads s)) ∧
 (∀ s b x i o r, Jg ((JC (.ep b x i o :: r)).reads s) = Jg ((JC r).reads s)) ∧
 (∀ s b n r, Jg ((JC (.slr b 0 n :: r)).reads s) = b :: rb ((J85 (.slr b 0 n)).run s) fun _ => Jg ((JC r).reads s)) ∧
 (∀ F new s e n z ps, rdO F (.lits false e n z ps) new s = Jg ((fzs (ps.map (·.2))).reads s)) ∧
 (∀ F new env sto e n z ps, rdO F (.lits true e n z ps) new ⟨env, sto⟩ = new :: rb (is1 sto[new]?) fun _ => Jg ((fzs (ps.map (·.2))).reads ⟨env, sto⟩)) ∧
 (∀ s, Jg ((fzs []).reads s) = []) ∧
 (∀ env sto x r, Jg ((fzs (x :: r)).reads ⟨env, sto⟩) = rb (evv x env) fun v => Jg ((fz v).reads ⟨env, sto⟩) ++ rb ((fz v).run ⟨env, sto⟩) fun _ => Jg ((fzs r).reads ⟨env, sto⟩)) ∧
 (∀ s c, Jg ((fz (.p c)).reads s) = []) ∧
 (∀ s c, Jg ((fz (.data c)).reads s) = []) ∧
 (∀ s b n, Jg ((fz (.slr b 0 n)).reads s) = [b]) ∧
 (∀ F new env sto x, rdO F (.conv .toStr x) new ⟨env, sto⟩ = rb (evv x env) fun a => Jg ((JT 1 a).reads ⟨env, sto⟩)) ∧
 (∀ s e b n, Jg ((JT e (.slr b 0 n)).reads s) = [b]) ∧
 (∀ s e z rows, Jg ((JT e (.p (.sl z rows))).reads s) = []) ∧
 (∀ F new env sto e x i, rdO F (.iaddr e x i) new ⟨env, sto⟩ = rb (evv x env) fun a => rb (evv i env) fun c => Jg ((J3d e a c).reads ⟨env, sto⟩)) ∧
 (∀ s e b n k i, Jg ((J3d e (.slr b 0 n) (.p (.i k i))).reads s) = [b]) ∧
 (∀ s e z rows k i, Jg ((J3d e (.p (.sl z rows)) (.p (.i k i))).reads s) = []) ∧
 (∀ F new env sto k x lo hi mx, rdO F (.slice k x lo hi mx) new ⟨env, sto⟩ = rb (evv x env) fun a => Jg ((slT k lo hi mx a).reads ⟨env, sto⟩)) ∧
 (∀ s k lo hi mx c, Jg ((slT k lo hi mx (.p c)).reads s) = []) ∧
 (∀ F new env sto e b z y, rdO F (.appn e b z y) new ⟨env, sto⟩ = new :: rb (is1 sto[new]?) fun _ => rb (evv y env) fun a => Jg ((JT e a).reads ⟨env, sto⟩)) ∧
 (∀ F new env sto e b z x y, rdO F (.app e b z x y) new ⟨env, sto⟩ = rb (evv x env) fun a => rb (evv y env) fun c => Jg ((J4t e b a c).reads ⟨env, sto⟩)) ∧
 (∀ s e y b n z rows, Jg ((J4t e y (.slr b 0 n) (.p (.sl z rows))).reads s) = [b]) ∧
 (∀ a b c d, pkk (some (a, b)) (some (c, d)) = (J5Y b c && J5Y b d && J5Y a d)) ∧
 (∀ b, J5Y [] b = true) ∧
 (∀ x a b, J5Y (x :: a) b = (!(b.contains x) && J5Y a b)) ∧
 (∀ x, ([] : List Nat).contains x = false) ∧
 (∀ (x y : Nat) (l : List Nat), (y :: l).contains x = (x == y || l.contains x)) ∧
 (∀ a, (true && a) = a) ∧
 (∀ a, (false && a) = false) ∧
 (∀ a, (true || a) = true) ∧
 (∀ a, (false || a) = a) :=
 ⟨by intro F new env sto g n x; exact JuN ..,
 by intro s g n b o; exact JvJ ..,
 by intro s g n o cs; exact JwI ..,
 by intro s g n b e i o; exact Jw8 ..,
 by intro F new s z; exact Js8 ..,
 by intro F new env sto n x y; exact Jt3 ..,
 by intro s n b o v; exact JvG ..,
 by intro s n b e i o c; exact JsQ ..,
 by intro s n b e i o c; exact Jt4 ..,
 by intro F new env sto g args; exact JtS ..,
 by intro F new env sto g args; exact Jt2 ..,
 rfl,
 by intros; rfl,
 by intro F new env sto g args; exact Jrm ..,
 by intros; rfl,
 by intros; rfl,
 by intro s c r; exact Jcy s rfl r,
 by intro s c r; exact Jcy s rfl r,
 by intro s b o r; exact Jcy s rfl r,
 by intro s c o r; exact Jcy s rfl r,
 by intro s b x i o r; exact Jcy s rfl r,
 by intro s b n r; exact Juz ..,
 by intro F new s e n z ps; exact JtI ..,
 by intro F new env sto e n z ps; exact JtB ..,
 by intros; rfl,
 by intro env sto x r; exact JwX ..,
 by intros; rfl,
 by intros; rfl,
 by intro s b n; exact Jg2 ..,
 by intro F new env sto x; exact Juc ..,
 by intro s e b n; exact JrI ..,
 by intro s e z rows; exact JnH ..,
 by intro F new env sto e x i; exact Jub ..,
 by intro s e b n k i; exact Jru ..,
 by intro s e z rows k i; exact Jtw ..,
 by intro F new env sto k x lo hi mx; exact Jrt ..,
 by intro s k lo hi mx c; exact JuW ..,
 by intro F new env sto e b z y; exact JuR ..,
 by intro F new env sto e b z x y; exact Jw6 ..,
 by intro s e y b n z rows; exact Jt0 ..,
 by intros; rfl,
 by intros; rfl,
 by intro x a b; simp [J5Y],
 by intros; rfl,
 by intro x y l; rw [List.contains_cons],
 by intro a; simp,
 by intro a; simp,
 by intro a; simp,
 by intro a; simp⟩
end Go.Am
end
