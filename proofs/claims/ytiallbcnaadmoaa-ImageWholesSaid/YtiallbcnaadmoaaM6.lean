/-
  Parts of a proof.
-/
import Derived.Test.YtiallbcnaadmoaaM5
set_option linter.unusedSimpArgs false
set_option linter.unusedVariables false
section
namespace Go.Am
@[congr] theorem JtM {T : J49} {f : AFn} {m : Nat} {k : List Fr} {o o' : Option Out} (h : o = o') : rk T f m k o = rk T f m k o' := by rw [h]
def tdn (e : AX) (o : Option St) : Option Out := match o with
 | some s => some (e, s)
 | none => none
def JmA (fresh : Bool) (m : Nat) (vs : List AV) (sto : List Blk) (ids : List Nat) : Option Res :=
 if J3f ids = true then (fin.finL m ids sto vs).bind fun ws => (J2R m ids sto (sto.take m)).bind fun l => (J5M sto ids).bind fun q => (J2R m ids sto q).bind fun q => some (one ws, l ++ q) else none
def Jfw (res : List Jas) (fresh : Bool) (m : Nat) (s : St) : Option Res :=
 ((J4N res).run s).bind fun vs => if s.sto.length = m then some (one vs, s.sto) else JmA fresh m vs s.sto (J0W m fresh s.sto (J6e s.sto (JV.entsOfL vs []) (JV.entsOfL vs [])))
theorem JeX (res : List Jas) (fresh : Bool) (m : Nat) (s : St) : J3H ⟨0, 0, .skip, res, fresh⟩ m s = Jfw res fresh m s := by
 unfold J3H Jfw
 dsimp only
 cases (J4N res).run s with
 | none => rfl
 | some vs =>
  simp only [Option.bind_some]
  split
  ·rfl
  ·unfold JmA
   split
   ·generalize J0W m fresh s.sto _ = ids
    cases fin.finL m ids s.sto vs <;> cases J2R m ids s.sto (s.sto.take m) <;> cases J5M s.sto ids <;> try rfl
    rename_i q
    simp only [Option.bind_some]
    cases J2R m ids s.sto q <;> rfl
   ·rfl
theorem Jrt (T : J49) (f : AFn) (m : Nat) (s : St) : rk T f m [] (some (.normal, s)) = Jfw f.res f.fresh m s := (JoX T f m s).trans (JeX ..)
theorem Jp3 (T : J49) (f : AFn) (m : Nat) (s : St) : rk T f m [] (some (.ret, s)) = Jfw f.res f.fresh m s := (Jqc T f m s).trans (JeX ..)
def dds {α : Type} (n new : Nat) (sto : List Blk) (o : Option α) : Option α := match (J5o new n).run ⟨[], sto⟩ with
 | some _ => o
 | none => none
def dd1 {α : Type} (b : Option Blk) (o : Option α) : Option α := match b with
 | some .dead => o
 | _ => none
@[congr] theorem JtB {α : Type} {b b' : Option Blk} {o : Option α} (h : b = b') : dd1 b o = dd1 b' o := by rw [h]
theorem JtY {α : Type} (new : Nat) (sto : List Blk) (o : Option α) : dds 1 new sto o = dd1 sto[new]? o := by
 unfold dds dd1
 simp only [J5o, RM.run]
 cases sto[new]? with
 | none => rfl
 | some b => cases b <;> rfl
section
variable {F : Orc} {r : List J0F} {new d : Nat} {env : List (Nat × AV)} {sto : List Blk}
theorem Jk6 (n : Nat) : ∀ new, (J5o new n).run ⟨env, sto⟩ = (J5o new n).run ⟨[], sto⟩ := by
 induction n with
 | zero => intro new; rfl
 | succ n ih =>
  intro new
  simp only [J5o, RM.run]
  cases sto[new]? with
  | none => rfl
  | some b => cases b <;> first | exact ih _ | rfl
def lgA (l : Option Log) (a b : List Nat) : Option Log := l.map (· ++ [(a, b)])
def rdO (F : Orc) (op : AOp) (new : Nat) (s : St) : List Nat := Ja ((opD F op new).reads s)
abbrev GR := Option (St × Option Log)
def Jj (F : Orc) : List J0F → Nat → St → Option Log → GR
 | [], _, s, l => some (s, l)
 | i :: r, new, s, l => match (J1r F i new).run s with
  | some e => Jj F r (new + JC i.op) (put i.dst e s) (lgA l (Ja ((J1r F i new).reads s)) (e.ws.map (·.1)))
  | none => none
theorem Jo1 (F : Orc) (ins : List J0F) : ∀ new s, Jj F ins new s none = (J26 F ins new s).map fun s => (s, none) := by
 induction ins with
 | nil => intro new s; rfl
 | cons i r ih =>
  intro new s
  simp only [Jj, J26]
  cases (J1r F i new).run s with
  | none => rfl
  | some e => exact ih _ _
theorem JoN (F : Orc) (ins : List J0F) : ∀ new s l, Jj F ins new s (some l) = (J3X F ins new s l).map fun x => (x.1, some x.2) := by
 induction ins with
 | nil => intro new s l; rfl
 | cons i r ih =>
  intro new s l
  simp only [Jj, J3X]
  cases (J1r F i new).run s with
  | none => rfl
  | some e => exact ih _ _ _
def Jpe (o : GR) : Option Out := match o with
 | some (s, _) => some (.normal, s)
 | none => none
def JmT (ps : List (Nat × Nat)) (o : GR) : Option Out := match o with
 | some (s, some l) => if J7o l ps = true then some (.normal, s) else none
 | _ => none
theorem Jr8 (T : J49) (f : AFn) (m : Nat) (k : List Fr) (d ins env sto) : rk T f m k (X T (.reg d [] ins) ⟨env, sto⟩) = rk T f m k (Jpe (Jj (AF T) ins sto.length ⟨env, room (news ins) sto⟩ none)) := by
 rw [JsT, Jo1]
 cases J26 (AF T) ins sto.length ⟨env, room (news ins) sto⟩ <;> rfl
theorem Jr3 (T : J49) (f : AFn) (m : Nat) (k : List Fr) (d p ps ins env sto) : rk T f m k (X T (.reg d (p :: ps) ins) ⟨env, sto⟩) = rk T f m k (JmT (p :: ps) (Jj (AF T) ins sto.length ⟨env, room (news ins) sto⟩ (some []))) := by
 rw [Jqp, JoN]
 simp only [region]
 cases J3X (AF T) ins sto.length ⟨env, room (news ins) sto⟩ [] with
 | none => rfl
 | some x =>
  obtain ⟨s, l⟩ := x
  simp only [Option.map_some, JmT]
  split <;> rfl
theorem stD {lg : Option Log} (op : AOp) : Jj F (⟨op, some d, none⟩ :: r) new ⟨env, sto⟩ lg = dds (JC op) new sto (((opR F op new).run ⟨env, sto⟩).bind fun e => Jj F r (new + JC op) ⟨(d, e.val) :: env, upd e.ws sto⟩ (lgA lg (rdO F op new ⟨env, sto⟩) (e.ws.map (·.1)))) := by
 have e0 : (J1r F ⟨op, some d, none⟩ new).run ⟨env, sto⟩ = dds (JC op) new sto ((opR F op new).run ⟨env, sto⟩) := by
  simp only [J1r, opD, run_bind, Jk6 (env := env)]
  unfold dds
  cases (J5o new (JC op)).run ⟨[], sto⟩ <;> rfl
 simp only [Jj, e0]
 unfold dds
 cases (J5o new (JC op)).run ⟨[], sto⟩ with
 | none => rfl
 | some u => simp only []; cases (opR F op new).run ⟨env, sto⟩ <;> rfl
theorem Jk1 {lg : Option Log} (op : AOp) : Jj F (⟨op, none, none⟩ :: r) new ⟨env, sto⟩ lg = dds (JC op) new sto (((opR F op new).run ⟨env, sto⟩).bind fun e => Jj F r (new + JC op) ⟨env, upd e.ws sto⟩ (lgA lg (rdO F op new ⟨env, sto⟩) (e.ws.map (·.1)))) := by
 have e0 : (J1r F ⟨op, none, none⟩ new).run ⟨env, sto⟩ = dds (JC op) new sto ((opR F op new).run ⟨env, sto⟩) := by
  simp only [J1r, opD, run_bind, Jk6 (env := env)]
  unfold dds
  cases (J5o new (JC op)).run ⟨[], sto⟩ <;> rfl
 simp only [Jj, e0]
 unfold dds
 cases (J5o new (JC op)).run ⟨[], sto⟩ with
 | none => rfl
 | some u => simp only []; cases (opR F op new).run ⟨env, sto⟩ <;> rfl
theorem st0 {lg : Option Log} {op : AOp} (h : JC op = 0) : Jj F (⟨op, some d, none⟩ :: r) new ⟨env, sto⟩ lg = ((opR F op new).run ⟨env, sto⟩).bind fun e => Jj F r new ⟨(d, e.val) :: env, upd e.ws sto⟩ (lgA lg (rdO F op new ⟨env, sto⟩) (e.ws.map (·.1))) := by
 rw [stD, h]; rfl
theorem JtV {lg : Option Log} {op : AOp} (h : JC op = 0) : Jj F (⟨op, none, none⟩ :: r) new ⟨env, sto⟩ lg = ((opR F op new).run ⟨env, sto⟩).bind fun e => Jj F r new ⟨env, upd e.ws sto⟩ (lgA lg (rdO F op new ⟨env, sto⟩) (e.ws.map (·.1))) := by
 rw [Jk1, h]; rfl
def pk (u : AV) (a b : Option AV) : Option AV := match u with
 | .p (.b x) => if x = true then a else b
 | _ => none
@[congr] theorem JtK {α : Type} {n n' new new' : Nat} {sto : List Blk} {o : Option α} (h : n = n') (h' : new = new') : dds n new sto o = dds n' new' sto o := by rw [h, h']
theorem J1l {α : Type} (n new : Nat) (sto : List Blk) : dds n new sto (none : Option α) = none := by
 unfold dds; split <;> rfl
theorem Jp2 {α β : Type} (n new : Nat) (sto : List Blk) (o : Option α) (g : α → Option β) : dds n new sto (o.bind g) = o.bind fun a => dds n new sto (g a) := by
 cases o with
 | none => exact J1l ..
 | some a => rfl
theorem Js3 {β : Type} {K : Eff → Option β} {o : Option AV} : ((o.bind fun v => some ⟨v, []⟩).bind K) = o.bind fun v => K ⟨v, []⟩ := by cases o <;> rfl
def pkk (a b : Option (List Nat × List Nat)) : Bool := match a, b with
 | some a, some b => J4x a.2 b.1 && J4x a.2 b.2 && J4x a.1 b.2
 | _, _ => false
theorem bi {α β : Type} {o : Option α} {f : α → Option β} {r : β} (h : Option.bind o f = some r) : ∃ x, o = some x ∧ f x = some r := Option.bind_eq_some_iff.1 h
theorem sj {α : Type} {a b : α} (h : some a = some b) : a = b := Option.some.inj h
theorem mi {α β : Type} {o : Option α} {f : α → β} {r : β} (h : Option.map f o = some r) : ∃ x, o = some x ∧ f x = r := Option.map_eq_some_iff.1 h
inductive Dum {α : Type} : α → Type where
 | mk (a : α) : Dum a
def hold {α : Type} (a : α) (_ : Dum a) : α := a
def pkh {β : Type} (u : AV) (a b : Option AV) (K : AV → Option β) : Option β := (pk u a b).bind K
theorem Jqe {β : Type} {K : Eff → Option β} {a b : Opd} {o : Option AV} : ((o.bind fun u => RM.run (match u with
  | .p (.b x) => if x = true then (ev a).bind fun v => .ret ⟨v, []⟩ else (ev b).bind fun v => .ret ⟨v, []⟩
  | _ => .fail) ⟨env, sto⟩).bind K) = o.bind fun u => (pk u (evv a env) (evv b env)).bind fun v => K ⟨v, []⟩ := by
 cases o with
 | none => rfl
 | some u =>
  simp only [Option.bind_some]
  cases u with
  | p c =>
   cases c with
   | b x =>
    cases x with
    | true => simp only [if_true, run_bind, J0p, pk]; cases evv a env <;> rfl
    | false => simp only [Bool.false_eq_true, if_false, run_bind, J0p, pk]; cases evv b env <;> rfl
   | _ => rfl
  | _ => rfl
theorem JbE {β : Type} {K : Eff → Option β} {o : Option AV} (g : AV → Option AV) : ((o.bind fun a => (Go.Am.val (g a)).run ⟨env, sto⟩).bind K) = o.bind fun a => (g a).bind fun v => K ⟨v, []⟩ := by
 cases o with
 | none => rfl
 | some a => simp only [Option.bind_some]; cases g a <;> rfl
theorem Jhm {β : Type} {K : Eff → Option β} {o o' : Option AV} (g : AV → AV → Option AV) : ((o.bind fun a => o'.bind fun c => (Go.Am.val (g a c)).run ⟨env, sto⟩).bind K) = o.bind fun a => o'.bind fun c => (g a c).bind fun v => K ⟨v, []⟩ := by
 cases o with
 | none => rfl
 | some a =>
  cases o' with
  | none => rfl
  | some c => simp only [Option.bind_some]; cases g a c <;> rfl
theorem JkX {β : Type} {o : Option AV} (g : AV → Option Eff) {k : Eff → Option β} : ((o.bind fun a => g a).bind k) = o.bind fun a => (g a).bind k := by
 cases o <;> rfl
theorem Jog {β : Type} {o o' : Option AV} {e b : Nat} {z : List PV} {s : St} {k : Eff → Option β} : ((o.bind fun a => o'.bind fun c => RM.run (match zrs e z c with
  | some c1 => J4w e b a c1
  | none => .fail) s).bind k) = o.bind fun a => o'.bind fun c => (zrs e z c).bind fun c1 => ((J4w e b a c1).run s).bind k := by
 cases o with
 | none => rfl
 | some a => cases o' with
  | none => rfl
  | some c =>
   simp only [Option.bind_some]
   cases zrs e z c <;> rfl
theorem Jfq {β : Type} {o o' : Option AV} (g : AV → AV → Option Eff) {k : Eff → Option β} : ((o.bind fun a => o'.bind fun c => g a c).bind k) = o.bind fun a => o'.bind fun c => (g a c).bind k := by
 cases o <;> cases o' <;> rfl
def Jhu (a c : AV) : Option AV := match a, c with
 | .p (.s l), .p (.i _ n) => if 0 ≤ n then
   match l[n.toNat]? with
   | some u => some (.p (.i .u8 u.toNat))
   | none => none
  else none
 | _, _ => none
theorem JqA {β : Type} {K : Eff → Option β} {o o' : Option AV} : ((o.bind fun a => o'.bind fun c => RM.run (match a, c with
  | .p (.s l), .p (.i _ n) => if 0 ≤ n then
    match l[n.toNat]? with
    | some u => .ret ⟨.p (.i .u8 u.toNat), []⟩
    | none => .fail
   else .fail
  | _, _ => .fail) ⟨env, sto⟩).bind K) = o.bind fun a => o'.bind fun c => (Jhu a c).bind fun v => K ⟨v, []⟩ := by
 cases o with
 | none => rfl
 | some a =>
  cases o' with
  | none => rfl
  | some c =>
   simp only [Option.bind_some, Jhu]
   split
   ·split
    ·split <;> rfl
    ·rfl
   ·rfl
theorem JsM (l : List UInt8) (k : IntKind) (n : Int) : Jhu (.p (.s l)) (.p (.i k n)) = (Jb0 l n).map fun v => .p (.i .u8 v) := by
 simp only [Jhu, Jb0]
 by_cases h : 0 ≤ n
 ·simp only [if_pos h]; cases l[n.toNat]? <;> rfl
 ·simp only [if_neg h]; rfl
def JfW (g : Bool) (n e : Nat) (a c : AV) : Option AV := match c with
 | .p (.i _ i) => if 0 ≤ i ∧ i < n then J4s g (i.toNat * e) e a else none
 | _ => none
theorem JqT {β : Type} {K : Eff → Option β} {g : Bool} {n e : Nat} {o o' : Option AV} : ((o.bind fun a => o'.bind fun c => RM.run (match c with
  | .p (.i _ i) => if 0 ≤ i ∧ i < n then Go.Am.val (J4s g (i.toNat * e) e a) else .fail
  | _ => .fail) ⟨env, sto⟩).bind K) = o.bind fun a => o'.bind fun c => (JfW g n e a c).bind fun v => K ⟨v, []⟩ := by
 cases o with
 | none => rfl
 | some a =>
  cases o' with
  | none => rfl
  | some c =>
   simp only [Option.bind_some, JfW]
   split
   ·split
    ·cases J4s g _ e a <;> rfl
    ·rfl
   ·rfl
theorem Jsz (g : Bool) (n e : Nat) (cs : List PV) (k : IntKind) (i : Int) : JfW g n e (.data cs) (.p (.i k i)) = if 0 ≤ i ∧ i < n then (sub cs (i.toNat * e) e).bind (J1B g) else none := by
 simp only [JfW, J4s]
 split
 ·cases sub cs (i.toNat * e) e <;> rfl
 ·rfl
def Jkz : AV → Option AV
 | .ptr b o => some (.ptr b o)
 | .cp cs o => some (.cp cs o)
 | .ep b e i o => some (.ep b e i o)
 | .fn f u c => some (.fn f u c)
 | _ => none
theorem Jrx {β : Type} {K : Eff → Option β} {o : Option AV} : ((o.bind fun a => RM.run (match a with
  | .ptr b o => .ret ⟨.ptr b o, []⟩
  | .cp cs o => .ret ⟨.cp cs o, []⟩
  | .ep b e i o => .ret ⟨.ep b e i o, []⟩
  | .fn f u c => .ret ⟨.fn f u c, []⟩
  | _ => .fail) ⟨env, sto⟩).bind K) = o.bind fun a => (Jkz a).bind fun v => K ⟨v, []⟩ := by
 cases o with
 | none => rfl
 | some a => cases a <;> rfl
def cvR (k : CK) (a : AV) (new : Nat) : RM Eff := match k, a with
 | .int k, .p (.i _ n) => .ret ⟨.p (.i k (k.wrap n)), []⟩
 | .same, .p (.s l) => .ret ⟨.p (.s l), []⟩
 | .toStr, a => (J00 1 a).bind fun rows => match J4F rows with
  | some l => .ret ⟨.p (.s l), []⟩
  | none => .fail
 | .toBytes own, .p (.s l) => if own then .ret ⟨.slr new 0 l.length, [(new, .arr true 1 (l.map J3w))]⟩ else .ret ⟨.p (.sl 1 (l.map J3w)), []⟩
 | _, _ => .fail
theorem Jpz {lg : Option Log} {c : CK} {x : Opd} : Jj F (⟨.conv c x, some d, none⟩ :: r) new ⟨env, sto⟩ lg = (evv x env).bind fun a => dds (JC (.conv c x)) new sto (((cvR c a new).run ⟨env, sto⟩).bind fun e => Jj F r (new + JC (.conv c x)) ⟨(d, e.val) :: env, upd e.ws sto⟩ (lgA lg (rdO F (.conv c x) new ⟨env, sto⟩) (e.ws.map (·.1)))) := by
 rw [stD]
 have : (opR F (.conv c x) new).run ⟨env, sto⟩ = (evv x env).bind fun a => (cvR c a new).run ⟨env, sto⟩ := by
  simp only [opR, run_bind, J0p]; rfl
 rw [this, JkX (fun a => (cvR c a new).run ⟨env, sto⟩), Jp2]
theorem Jop {lg : Option Log} {z : List PV} {ps : List (Nat × Nat × Opd)} : Jj F (⟨.build z ps, some d, none⟩ :: r) new ⟨env, sto⟩ lg = ((J23 ps).run ⟨env, sto⟩).bind fun l => (J0P l (z.map .p)).bind fun cs => (J1n true cs).bind fun v => Jj F r new ⟨(d, v) :: env, sto⟩ (lgA lg (rdO F (.build z ps) new ⟨env, sto⟩) []) := by
 rw [st0 (h := rfl)]
 simp only [opR, run_bind]
 cases (J23 ps).run ⟨env, sto⟩ with
 | none => rfl
 | some l =>
  simp only [Option.bind_some]
  cases J0P l (z.map .p) with
  | none => rfl
  | some cs => simp only [Option.bind_some]; cases J1n true cs <;> rfl
def J7v (x : Option Opd) (env : List (Nat × AV)) : Option (Option AV) := match x with
 | none => some none
 | some x => (evv x env).map some
theorem JrQ (x : Option Opd) : (evo x).run ⟨env, sto⟩ = J7v x env := by
 cases x with
 | none => rfl
 | some x => simp only [evo, run_bind, J0p, J7v]; cases evv x env <;> rfl
def slR (s : SK) (a : AV) (lo hi mx : Option AV) : RM Eff := match a with
 | .slr b i n => (fz (.slr b i n)).bind fun y => match y.1 with
  | [c] => match J3F s (.p c) lo hi mx with
   | some v => .ret ⟨v, y.2⟩
   | none => .fail
  | _ => .fail
 | a => Go.Am.val (J3F s a lo hi mx)
theorem JnP {lg : Option Log} {s : SK} {x : Opd} {lo hi mx : Option Opd} : Jj F (⟨.slice s x lo hi mx, some d, none⟩ :: r) new ⟨env, sto⟩ lg = (evv x env).bind fun a => (J7v lo env).bind fun lo1 => (J7v hi env).bind fun hi1 => (J7v mx env).bind fun mx1 => ((slR s a lo1 hi1 mx1).run ⟨env, sto⟩).bind fun e => Jj F r new ⟨(d, e.val) :: env, upd e.ws sto⟩ (lgA lg (rdO F (.slice s x lo hi mx) new ⟨env, sto⟩) (e.ws.map (·.1))) := by
 rw [st0 (h := rfl)]
 have : (opR F (.slice s x lo hi mx) new).run ⟨env, sto⟩ = (evv x env).bind fun a => (J7v lo env).bind fun lo => (J7v hi env).bind fun hi => (J7v mx env).bind fun mx => (slR s a lo hi mx).run ⟨env, sto⟩ := by
  simp only [opR, run_bind, J0p, JrQ]; rfl
 rw [this]
 cases evv x env with
 | none => rfl
 | some a =>
  cases J7v lo env with
  | none => rfl
  | some lo =>
   cases J7v hi env with
   | none => rfl
   | some hi => cases J7v mx env <;> rfl
def slX (s : SK) (x : AV) (lo hi : Option AV) : Option AV := J3F s x lo hi none
theorem JmF {lg : Option Log} {z : List PV} : Jj F (⟨.newbox z, some d, none⟩ :: r) new ⟨env, sto⟩ lg = dds 1 new sto (Jj F r (new + 1) ⟨(d, .ptr new 0) :: env, sto.set new (.box (z.map .p))⟩ (lgA lg (rdO F (.newbox z) new ⟨env, sto⟩) [new])) := by
 rw [stD]; rfl
def JkW (e b : Nat) (a : AV) (add : List (List PV)) : Option (List (List PV)) := match a with
 | .p (.slc e' rows) => if e = e' ∧ 0 < add.length ∧ J4S (rows.length + add.length) b = true then some (rows ++ add) else none
 | _ => none
theorem JoJ {lg : Option Log} {e b : Nat} {z : List PV} {x y : Opd} : Jj F (⟨.appc e b z x y, some d, none⟩ :: r) new ⟨env, sto⟩ lg = (evv x env).bind fun a => (evv y env).bind fun c => ((J00 e c).run ⟨env, sto⟩).bind fun add => (JkW e b a add).bind fun rows => dds 1 new sto (Jj F r (new + 1) ⟨(d, .slr new 0 rows.length) :: env, sto.set new (.arr true e rows)⟩ (lgA lg (rdO F (.appc e b z x y) new ⟨env, sto⟩) [new])) := by
 rw [stD]
 simp only [opR, run_bind, J0p, JC]
 cases evv x env with
 | none => exact J1l ..
 | some a =>
  simp only [Option.bind_some]
  cases evv y env with
  | none => exact J1l ..
  | some c =>
   simp only [Option.bind_some]
   cases hq : (J00 e c).run ⟨env, sto⟩ with
   | none =>
    have : (JfG e b a c new).run ⟨env, sto⟩ = none := by
     unfold JfG; split
     ·simp only [run_bind, hq]; rfl
     ·rfl
    rw [this]; exact J1l ..
   | some add =>
    simp only [Option.bind_some]
    have : (JfG e b a c new).run ⟨env, sto⟩ = (JkW e b a add).map fun rows => ⟨.slr new 0 rows.length, [(new, .arr true e rows)]⟩ := by
     cases a with
     | p q => cases q with
      | slc e' rows =>
       simp only [JfG, JkW, run_bind, hq, Option.bind_some]
       split
       ·simp [J1b]
       ·rfl
      | _ => rfl
     | _ => rfl
    rw [this]
    cases JkW e b a add with
    | none => exact J1l ..
    | some rows => rfl
theorem Jpj {lg : Option Log} {e b : Nat} {z : List PV} {y : Opd} : Jj F (⟨.appn e b z y, some d, none⟩ :: r) new ⟨env, sto⟩ lg = (evv y env).bind fun c => ((J00 e c).run ⟨env, sto⟩).bind fun rows => if J4S rows.length b = true then dds 1 new sto (Jj F r (new + 1) ⟨(d, .slr new 0 rows.length) :: env, sto.set new (.arr true e rows)⟩ (lgA lg (rdO F (.appn e b z y) new ⟨env, sto⟩) [new])) else none := by
 rw [stD]
 simp only [opR, run_bind, J0p, JC]
 cases evv y env with
 | none => exact J1l ..
 | some c =>
  simp only [Option.bind_some]
  cases (J00 e c).run ⟨env, sto⟩ with
  | none => exact J1l ..
  | some rows =>
   simp only [Option.bind_some]
   split
   ·rfl
   ·exact J1l ..
theorem Jnw {lg : Option Log} {e : Nat} {x : Opd} : Jj F (⟨.mkarr e x, some d, none⟩ :: r) new ⟨env, sto⟩ lg = dds 1 new sto (Jj F r (new + 1) ⟨(d, .slr new 0 0) :: env, sto.set new (.arr true e [])⟩ (lgA lg (rdO F (.mkarr e x) new ⟨env, sto⟩) [new])) := by
 rw [stD]; rfl
def bxP (n : Nat) (a : AV) : Option (List AV) := match cellsOf a with
 | some cs => if cs.length = n then some cs else none
 | none => none
theorem JqW {lg : Option Log} {n : Nat} {x : Opd} : Jj F (⟨.box n x, some d, none⟩ :: r) new ⟨env, sto⟩ lg = (evv x env).bind fun a => (bxP n a).bind fun cs => dds 1 new sto (Jj F r (new + 1) ⟨(d, .ptr new 0) :: env, sto.set new (.box cs)⟩ (lgA lg (rdO F (.box n x) new ⟨env, sto⟩) [new])) := by
 rw [stD]
 simp only [opR, run_bind, J0p, JC]
 cases evv x env with
 | none => exact J1l ..
 | some a =>
  simp only [Option.bind_some, bxP]
  cases cellsOf a with
  | none => exact J1l ..
  | some cs =>
   dsimp only
   split
   ·rfl
   ·exact J1l ..
def ltR (o : Bool) (e n : Nat) (z : List PV) (ps : List (Nat × Opd)) (new : Nat) : RM Eff := (fzs (ps.map (·.2))).bind fun a =>
  match J38 e ((ps.map (·.1)).zip a.1) (List.replicate n z) with
  | some rows => if o then .ret ⟨.slr new 0 n, a.2 ++ [(new, .arr true e rows)]⟩ else .ret ⟨.p (.sl e rows), a.2⟩
  | none => .fail
theorem Jp7 {lg : Option Log} {o : Bool} {e n : Nat} {z : List PV} {ps : List (Nat × Opd)} : Jj F (⟨.lits o e n z ps, some d, none⟩ :: r) new ⟨env, sto⟩ lg = dds (if o then 1 else 0) new sto (((ltR o e n z ps new).run ⟨env, sto⟩).bind fun x => Jj F r (new + if o then 1 else 0) ⟨(d, x.val) :: env, upd x.ws sto⟩ (lgA lg (rdO F (.lits o e n z ps) new ⟨env, sto⟩) (x.ws.map (·.1)))) := by
 rw [stD]; rfl
theorem Jsq (env : List (Nat × AV)) (sto : List Blk) (o : Bool) (e n new : Nat) (z : List PV) (ps : List (Nat × Opd)) : (ltR o e n z ps new).run ⟨env, sto⟩ = ((fzs (ps.map (·.2))).run ⟨env, sto⟩).bind fun a => (J38 e ((ps.map (·.1)).zip a.1) (List.replicate n z)).map fun rows => if o then ⟨.slr new 0 n, a.2 ++ [(new, .arr true e rows)]⟩ else ⟨.p (.sl e rows), a.2⟩ := by
 simp only [ltR, run_bind]
 cases (fzs (ps.map (·.2))).run ⟨env, sto⟩ with
 | none => rfl
 | some a =>
  simp only [Option.bind_some]
  cases J38 e ((ps.map (·.1)).zip a.1) (List.replicate n z) with
  | none => rfl
  | some rows => cases o <;> rfl
def mkP (o : Bool) (e b : Nat) (z : List PV) (a c : AV) (new : Nat) : Option Eff := match a, c with
 | .p (.i _ n), .p (.i _ m) =>
  if 0 ≤ n ∧ n ≤ m ∧ b * m ≤ 281474976710656 ∧ m ≤ 281474976710656 then
   some (if o then ⟨.slr new 0 n.toNat, [(new, .arr true e (List.replicate n.toNat z))]⟩ else ⟨.p (.sl e (List.replicate n.toNat z)), []⟩)
  else none
 | _, _ => none
theorem Jse (o : Bool) (e b : Nat) (z : List PV) (a c : AV) (new : Nat) (s : St) : RM.run (match a, c with
  | .p (.i _ n), .p (.i _ m) =>
   if 0 ≤ n ∧ n ≤ m ∧ b * m ≤ 281474976710656 ∧ m ≤ 281474976710656 then
    if o then .ret ⟨.slr new 0 n.toNat, [(new, .arr true e (List.replicate n.toNat z))]⟩
    else .ret ⟨.p (.sl e (List.replicate n.toNat z)), []⟩
   else .fail
  | _, _ => .fail) s = mkP o e b z a c new := by
 unfold mkP
 split
 ·rename_i k n k2 m
  by_cases h : 0 ≤ n ∧ n ≤ m ∧ b * m ≤ 281474976710656 ∧ m ≤ 281474976710656
  ·simp only [if_pos h]; cases o <;> rfl
  ·simp only [if_neg h]; rfl
 ·rfl
theorem JlB {lg : Option Log} {o : Bool} {e b : Nat} {z : List PV} {l c : Opd} : Jj F (⟨.mkslice o e b z l c, some d, none⟩ :: r) new ⟨env, sto⟩ lg = (evv l env).bind fun a => (evv c env).bind fun x => dds (if o then 1 else 0) new sto ((mkP o e b z a x new).bind fun x => Jj F r (new + if o then 1 else 0) ⟨(d, x.val) :: env, upd x.ws sto⟩ (lgA lg (rdO F (.mkslice o e b z l c) new ⟨env, sto⟩) (x.ws.map (·.1)))) := by
 rw [stD]
 simp only [opR, run_bind, J0p, JC]
 cases evv l env with
 | none => exact J1l ..
 | some a =>
  cases evv c env with
  | none => exact J1l ..
  | some x =>
   simp only [Option.bind_some]
   exact congrArg (fun y => dds (if o then 1 else 0) new sto (y.bind fun x => Jj F r (new + if o then 1 else 0) ⟨(d, x.val) :: env, upd x.ws sto⟩ (lgA lg (rdO F (.mkslice o e b z l c) new ⟨env, sto⟩) (x.ws.map (·.1))))) (Jse o e b z a x new ⟨env, sto⟩)
theorem JlN {F : Orc} {f : FuncId} {args args' : List AV} {b c e e2 : Nat} {rows rows' rows2 rows2' : List (List PV)} {w w' w2 w2' : Bool} {v v' : AV} (he : JV.entsOfL args [] = [.whole b, .whole c]) (hn : J3f [b, c] = true) (hr : ren.renL (fun x => J34 x [Ent.whole b, .whole c] 0) args = some args')
  (hF : F f args' [.arr w e rows, .arr w2 e2 rows2] = some (v, [.arr w' e rows', .arr w2' e2 rows2'])) (hb : ∀ new, bk [.whole b, .whole c] new v = some v') (ws : List (Nat × Blk)) (new : Nat) (s : St) (hB : (J6d ws b).run s = some (.arr w e rows)) (hC : (J6d ws c).run s = some (.arr w2 e2 rows2)) :
  (J2E F f (args, ws) 0 new).run s = some ⟨v', ws ++ [(b, .arr w' e rows'), (c, .arr w2' e2 rows2')]⟩ := by
 have x2 : ∀ acc, (J6N ws [.whole b, .whole c] acc).run s = some acc := fun acc => by
  simp only [J6N, run_bind, hB, hC, Option.bind_some, J1b]
 have e3 : (J4r ws (fun x => J34 x [Ent.whole b, .whole c] 0) [Ent.whole b, .whole c]).run s = some [.arr w e rows, .arr w2 e2 rows2] := by
  simp only [J4r, run_bind, Jc1, hB, hC, Option.bind_some, J1b]
 have n1 : J3f ([Ent.whole b, .whole c].map Ent.id) = true := hn
 simp only [J2E, run_bind, he, x2, Option.bind_some, n1, if_true, hr, e3, hF]
 simp [hb, J3s, J3S, Jar, J1b, run_bind]
def Jkf (b : Nat) (B : Option Blk) (l : List Nat) : List Nat := match B with
 | some (.box _) => b :: l
 | some (.arr _ _ _) => b :: l
 | _ => l
theorem JrK (m b : Nat) (sto : List Blk) (r : List Ent) : J0W m true sto (.whole b :: r) = if b < m then J0W m true sto r else Jkf b sto[b]? (J0W m true sto r) := by
 simp only [J0W, Jkf]
 split
 ·rfl
 ·split <;> simp_all
theorem JtT {α : Type} (n new : Nat) (sto : List Blk) (o : Option α) : dds (n + 1) new sto o = dd1 sto[new]? (dds n (new + 1) sto o) := by
 unfold dds dd1
 simp only [J5o, RM.run]
 cases sto[new]? with
 | none => rfl
 | some b => cases b <;> rfl
theorem JlA {lg : Option Log} {z : List PV} {os : List (Nat × Nat)} : Jj F (⟨.newboxo z os, some d, none⟩ :: r) new ⟨env, sto⟩ lg =
  dds (os.length + 1) new sto (Jj F r (new + (os.length + 1)) ⟨(d, .ptr (new + os.length) 0) :: env, upd (J2q os new ++ [(new + os.length, .box (J66 os new (z.map .p)))]) sto⟩
   (lgA lg (rdO F (.newboxo z os) new ⟨env, sto⟩) ((J2q os new ++ [(new + os.length, Blk.box (J66 os new (z.map .p)))]).map (·.1)))) := by
 rw [stD]; rfl
theorem Jn7 {lg : Option Log} {e : Nat} {x : Opd} : Jj F (⟨.storen e x, none, none⟩ :: r) new ⟨env, sto⟩ lg =
  (evv x env).bind fun a => dds 1 new sto (((J1g 1 a (.slr new 0 0)).run ⟨env, sto⟩).bind fun q => Jj F r (new + 1) ⟨env, upd ((new, .arr true e []) :: q.ws) sto⟩ (lgA lg (rdO F (.storen e x) new ⟨env, sto⟩) (new :: q.ws.map (·.1)))) := by
 rw [Jk1]
 simp only [opR, run_bind, J0p, JC]
 cases evv x env with
 | none => exact J1l ..
 | some a => simp only [Option.bind_some]; cases (J1g 1 a (.slr new 0 0)).run ⟨env, sto⟩ <;> rfl
theorem JmR {lg : Option Log} {z : List PV} {ps : List (Nat × Nat × Opd)} {os : List (Nat × Nat)} : Jj F (⟨.buildo z ps os, some d, none⟩ :: r) new ⟨env, sto⟩ lg =
  ((J23 ps).run ⟨env, sto⟩).bind fun l => (J0P l (J66 os new (z.map .p))).bind fun cs => (J1n true cs).bind fun v =>
   dds os.length new sto (Jj F r (new + os.length) ⟨(d, v) :: env, upd (J2q os new) sto⟩ (lgA lg (rdO F (.buildo z ps os) new ⟨env, sto⟩) ((J2q os new).map (·.1)))) := by
 rw [stD]
 simp only [opR, run_bind, JC]
 cases (J23 ps).run ⟨env, sto⟩ with
 | none => exact J1l ..
 | some l =>
  simp only [Option.bind_some]
  cases J0P l (J66 os new (z.map .p)) with
  | none => exact J1l ..
  | some cs =>
   simp only [Option.bind_some]
   cases J1n true cs with
   | none => exact J1l ..
   | some v => rfl
theorem Jo4 {lg : Option Log} {g : FuncId} {kp : List Bool} {args : List Opd} {n : Nat} : Jj F (⟨.callo g kp args n, some d, none⟩ :: r) new ⟨env, sto⟩ lg = dds n new sto (((evs args).run ⟨env, sto⟩).bind fun a => ((J1T kp a).run ⟨env, sto⟩).bind fun a => ((J2E F g a n new).run ⟨env, sto⟩).bind fun e => Jj F r (new + n) ⟨(d, e.val) :: env, upd e.ws sto⟩ (lgA lg (rdO F (.callo g kp args n) new ⟨env, sto⟩) (e.ws.map (·.1)))) := by
 rw [stD]
 simp only [opR, run_bind, JC]
 cases (evs args).run ⟨env, sto⟩ with
 | none => rfl
 | some a => simp only [Option.bind_some]; cases (J1T kp a).run ⟨env, sto⟩ <;> rfl
theorem Jn6 {lg : Option Log} {g : FuncId} {kp : List Bool} {args : List Opd} {n : Nat} : Jj F (⟨.callo g kp args n, none, none⟩ :: r) new ⟨env, sto⟩ lg = dds n new sto (((evs args).run ⟨env, sto⟩).bind fun a => ((J1T kp a).run ⟨env, sto⟩).bind fun a => ((J2E F g a n new).run ⟨env, sto⟩).bind fun e => Jj F r (new + n) ⟨env, upd e.ws sto⟩ (lgA lg (rdO F (.callo g kp args n) new ⟨env, sto⟩) (e.ws.map (·.1)))) := by
 rw [Jk1]
 simp only [opR, run_bind, JC]
 cases (evs args).run ⟨env, sto⟩ with
 | none => rfl
 | some a => simp only [Option.bind_some]; cases (J1T kp a).run ⟨env, sto⟩ <;> rfl
theorem Ji5 : ∀ l : List AV, J1T [] l = Jx l
 | [] => rfl
 | x :: r => by simp only [J1T, Jx, Ji5 r]
theorem JqX (x : AV) (m : List Bool) (r : List AV) : (J1T (false :: m) (x :: r)).run ⟨env, sto⟩ = ((Jx [x]).run ⟨env, sto⟩).bind fun a => ((J1T m r).run ⟨env, sto⟩).bind fun c => some (a.1 ++ c.1, a.2 ++ c.2) := by
 simp only [J1T, Jx, run_bind]
 cases (J6l x).run ⟨env, sto⟩ with
 | none => rfl
 | some a => simp only [Option.bind_some, RM.run]; cases (J1T m r).run ⟨env, sto⟩ <;> simp
theorem Jrk (x : AV) (m : List Bool) (r : List AV) : (J1T (true :: m) (x :: r)).run ⟨env, sto⟩ = ((J1T m r).run ⟨env, sto⟩).bind fun c => some (x :: c.1, c.2) := by
 simp only [J1T, run_bind]
 cases (J1T m r).run ⟨env, sto⟩ <;> rfl
theorem Jpr {lg : Option Log} {g : FuncId} {args : List Opd} {n : Nat} : Jj F (⟨.call g args n, some d, none⟩ :: r) new ⟨env, sto⟩ lg = dds n new sto (((evs args).run ⟨env, sto⟩).bind fun a => ((Jx a).run ⟨env, sto⟩).bind fun a => ((Jq F g a n new).run ⟨env, sto⟩).bind fun e => Jj F r (new + n) ⟨(d, e.val) :: env, upd e.ws sto⟩ (lgA lg (rdO F (.call g args n) new ⟨env, sto⟩) (e.ws.map (·.1)))) := by
 rw [stD]
 simp only [opR, run_bind, JC, Ja1]
 cases (evs args).run ⟨env, sto⟩ with
 | none => rfl
 | some a => simp only [Option.bind_some]; cases (Jx a).run ⟨env, sto⟩ <;> rfl
theorem Jok {lg : Option Log} {g : FuncId} {args : List Opd} {n : Nat} : Jj F (⟨.call g args n, none, none⟩ :: r) new ⟨env, sto⟩ lg = dds n new sto (((evs args).run ⟨env, sto⟩).bind fun a => ((Jx a).run ⟨env, sto⟩).bind fun a => ((Jq F g a n new).run ⟨env, sto⟩).bind fun e => Jj F r (new + n) ⟨env, upd e.ws sto⟩ (lgA lg (rdO F (.call g args n) new ⟨env, sto⟩) (e.ws.map (·.1)))) := by
 rw [Jk1]
 simp only [opR, run_bind, JC, Ja1]
 cases (evs args).run ⟨env, sto⟩ with
 | none => rfl
 | some a => simp only [Option.bind_some]; cases (Jx a).run ⟨env, sto⟩ <;> rfl
def cvg {α : Type} (u : AV) (k : FuncId → List AV → List AV → Option α) : Option α := match u with
 | .fn f a c => k f a c
 | _ => none
theorem Jpt {lg : Option Log} {g : FuncId} {a c : List Opd} : Jj F (⟨.mkfn g a c, some d, none⟩ :: r) new ⟨env, sto⟩ lg = ((evs a).run ⟨env, sto⟩).bind fun a1 => ((evs c).run ⟨env, sto⟩).bind fun c1 => Jj F r new ⟨(d, .fn g a1 c1) :: env, sto⟩ (lgA lg (rdO F (.mkfn g a c) new ⟨env, sto⟩) []) := by
 rw [st0 (h := rfl)]
 simp only [opR, run_bind]
 cases (evs a).run ⟨env, sto⟩ with
 | none => rfl
 | some a1 => simp only [Option.bind_some]; cases (evs c).run ⟨env, sto⟩ <;> rfl
theorem Jos {lg : Option Log} {g : Opd} {args : List Opd} {n : Nat} : Jj F (⟨.callv g args n, some d, none⟩ :: r) new ⟨env, sto⟩ lg = (evv g env).bind fun u => cvg u fun h a1 c1 => dds n new sto (((evs args).run ⟨env, sto⟩).bind fun a => ((Jx (a1 ++ a ++ c1)).run ⟨env, sto⟩).bind fun a => ((Jq F h a n new).run ⟨env, sto⟩).bind fun q => Jj F r (new + n) ⟨(d, q.val) :: env, upd q.ws sto⟩ (lgA lg (rdO F (.callv g args n) new ⟨env, sto⟩) (q.ws.map (·.1)))) := by
 rw [stD]
 simp only [opR, run_bind, J0p, JC]
 cases evv g env with
 | none => exact J1l ..
 | some u =>
  simp only [Option.bind_some]
  cases u with
  | fn h a1 c1 =>
   simp only [cvg, run_bind, Ja1]
   cases (evs args).run ⟨env, sto⟩ with
   | none => rfl
   | some a => simp only [Option.bind_some]; cases (Jx (a1 ++ a ++ c1)).run ⟨env, sto⟩ <;> rfl
  | _ => exact J1l ..
theorem Jnl {lg : Option Log} {g : Opd} {args : List Opd} {n : Nat} : Jj F (⟨.callv g args n, none, none⟩ :: r) new ⟨env, sto⟩ lg = (evv g env).bind fun u => cvg u fun h a1 c1 => dds n new sto (((evs args).run ⟨env, sto⟩).bind fun a => ((Jx (a1 ++ a ++ c1)).run ⟨env, sto⟩).bind fun a => ((Jq F h a n new).run ⟨env, sto⟩).bind fun q => Jj F r (new + n) ⟨env, upd q.ws sto⟩ (lgA lg (rdO F (.callv g args n) new ⟨env, sto⟩) (q.ws.map (·.1)))) := by
 rw [Jk1]
 simp only [opR, run_bind, J0p, JC]
 cases evv g env with
 | none => exact J1l ..
 | some u =>
  simp only [Option.bind_some]
  cases u with
  | fn h a1 c1 =>
   simp only [cvg, run_bind, Ja1]
   cases (evs args).run ⟨env, sto⟩ with
   | none => rfl
   | some a => simp only [Option.bind_some]; cases (Jx (a1 ++ a ++ c1)).run ⟨env, sto⟩ <;> rfl
  | _ => exact J1l ..
def grd {α : Type} (x : Option AV) (w : Bool) (a b : Option α) : Option α := match x with
 | some (.p (.b x)) => if x = w then a else b
 | some (.tup []) => b
 | _ => none
end
@[congr] theorem JtD {α : Type} {x x' : Option AV} {w : Bool} {a b : Option α} (h : x = x') : grd x w a b = grd x' w a b := by rw [h]
theorem JrV (F : Orc) (r : List J0F) (new : Nat) (env : List (Nat × AV)) (sto : List Blk) (lg : Option Log) (op : AOp) (d : Option Nat) (g : Nat) (w : Bool) :
  Jj F (⟨op, d, some (g, w)⟩ :: r) new ⟨env, sto⟩ lg = grd (lk g env) w (Jj F (⟨op, d, none⟩ :: r) new ⟨env, sto⟩ lg) (Jj F r (new + JC op) (put d ⟨J0I, []⟩ ⟨env, sto⟩) (lgA lg [] [])) := by
 simp only [Jj, J1r, RM.run, RM.reads]
 cases lk g env with
 | none => rfl
 | some v =>
  dsimp only
  cases v with
  | p c =>
   cases c with
   | b x =>
    simp only [grd]
    by_cases h : x = w
    ·subst h; simp only [if_true]; rfl
    ·simp only [if_neg h]; rfl
   | _ => rfl
  | tup l => cases l <;> rfl
  | _ => rfl
def Jn9 (k : Nat) (v : Option AV) (l : List (Nat × AV)) : List (Nat × AV) := match v with
 | some v => (k, v) :: l
 | none => l
def JkI (cs : List AV) (l : Option (List PV)) : AV := match l with
 | some l => .data l
 | none => .agg cs
def ldB (g : Bool) (n off : Nat) (B : Blk) : Option Eff := match B with
 | .box cs => (sub cs off n).bind fun l => (J1n g l).map fun v => ⟨v, []⟩
 | _ => none
def ldE (g : Bool) (n e i off : Nat) (B : Blk) : Option Eff := match B with
 | .arr _ _ rows => if e = rows.length then rows[i]?.bind fun row => (sub row off n).bind fun l => (J1B g l).map fun v => ⟨v, []⟩ else none
 | _ => none
theorem Jr7 (env : List (Nat × AV)) (sto : List Blk) (g : Bool) (n : Nat) (cs : List PV) (off : Nat) : (J1F g n (.cp cs off)).run ⟨env, sto⟩ = (sub cs off n).bind fun l => (J1B g l).map fun v => ⟨v, []⟩ := by
 simp only [J1F]
 cases sub cs off n with
 | none => rfl
 | some l => simp only [Option.bind_some]; cases J1B g l <;> rfl
theorem JqH (env : List (Nat × AV)) (sto : List Blk) (g : Bool) (n b off : Nat) : (J1F g n (.ptr b off)).run ⟨env, sto⟩ = sto[b]?.bind fun B => ldB g n off B := by
 simp only [J1F, J52]
 cases sto[b]? with
 | none => rfl
 | some B =>
  cases B with
  | box cs =>
   simp only [Option.bind_some, ldB]
   cases sub cs off n with
   | none => rfl
   | some l => simp only [Option.bind_some]; cases J1n g l <;> rfl
  | _ => rfl
theorem Jtj (g : Bool) (n off : Nat) (cs : List PV) : ldB g n off (.box (cs.map AV.p)) = (sub cs off n).bind fun l => (J1B g l).map fun v => ⟨v, []⟩ := by
 simp only [ldB, JoY]
 cases sub cs off n with
 | none => rfl
 | some l =>
  simp only [Option.map_some, Option.bind_some]
  cases g with
  | true => rw [JeM]; rfl
  | false => match l with
   | [] => rfl
   | [_] => rfl
   | _ :: _ :: _ => rfl
theorem Jr0 (env : List (Nat × AV)) (sto : List Blk) (g : Bool) (n b e i off : Nat) : (J1F g n (.ep b e i off)).run ⟨env, sto⟩ = sto[b]?.bind fun B => ldE g n e i off B := by
 simp only [J1F, J52]
 cases sto[b]? with
 | none => rfl
 | some B =>
  cases B with
  | arr w z rows =>
   simp only [Option.bind_some, ldE]
   split
   ·cases rows[i]? with
    | none => rfl
    | some row =>
     simp only [Option.bind_some]
     cases sub row off n with
     | none => rfl
     | some l => simp only [Option.bind_some]; cases J1B g l <;> rfl
   ·rfl
  | _ => rfl
def stB (n b off : Nat) (l : List AV) (B : Blk) : Option Eff := match B with
 | .box cs => if l.length = n then (spl cs off l).map fun cs => ⟨J0I, [(b, .box cs)]⟩ else none
 | _ => none
theorem JrL (env : List (Nat × AV)) (sto : List Blk) (n b off : Nat) (v : AV) : (J1g n (.ptr b off) v).run ⟨env, sto⟩ = sto[b]?.bind fun B => (cellsOf v).bind fun l => stB n b off l B := by
 simp only [J1g, J52]
 cases sto[b]? with
 | none => rfl
 | some B =>
  simp only [Option.bind_some]
  cases B with
  | box cs =>
   dsimp only
   cases cellsOf v with
   | none => rfl
   | some l =>
    simp only [Option.bind_some, stB]
    split
    ·cases spl cs off l <;> rfl
    ·rfl
  | dead => cases cellsOf v <;> rfl
  | arr w z rows => cases cellsOf v <;> rfl
theorem Jqs (n b off : Nat) (cs vs : List PV) : stB n b off (vs.map AV.p) (.box (cs.map AV.p)) = if vs.length = n then (spl cs off vs).map fun cs => ⟨J0I, [(b, .box (cs.map AV.p))]⟩ else none := by
 simp only [stB, List.length_map, Jkp]
 split
 ·cases spl cs off vs <;> rfl
 ·rfl
theorem Jtl (b off : Nat) (cs : List PV) (v : PV) : stB 1 b off [AV.p v] (.box (cs.map AV.p)) = (spl cs off [v]).map fun cs => ⟨J0I, [(b, .box (cs.map AV.p))]⟩ := by
 have := Jqs 1 b off cs [v]
 simpa using this
def stE (n b e i off : Nat) (v : AV) (B : Blk) (s : St) : Option Eff := match B with
 | .arr true z rows => if e = rows.length then
   match rows[i]? with
   | some row => ((fz v).run s).bind fun a =>
    if a.1.length = n ∧ (a.2.all fun y => y.1 != b) = true then
     match spl row off a.1 with
     | some row' => some ⟨J0I, a.2 ++ [(b, .arr true z (rows.set i row'))]⟩
     | none => none
    else none
   | none => none
  else none
 | _ => none
theorem JqO (env : List (Nat × AV)) (sto : List Blk) (n b e i off : Nat) (v : AV) : (J1g n (.ep b e i off) v).run ⟨env, sto⟩ = sto[b]?.bind fun B => stE n b e i off v B ⟨env, sto⟩ := by
 simp only [J1g, J52]
 cases sto[b]? with
 | none => rfl
 | some B =>
  simp only [Option.bind_some]
  cases B with
  | arr w z rows =>
   cases w with
   | false => rfl
   | true =>
    simp only [stE]
    split
    ·cases rows[i]? with
     | none => rfl
     | some row =>
      simp only [run_bind]
      cases (fz v).run ⟨env, sto⟩ with
      | none => rfl
      | some a =>
       simp only [Option.bind_some]
       split
       ·cases spl row off a.1 <;> rfl
       ·rfl
    ·rfl
  | _ => rfl
theorem Jtn (n b e i off z : Nat) (c : PV) (rows : List (List PV)) (s : St) : stE n b e i off (.p c) (.arr true z rows) s = if e = rows.length then rows[i]?.bind fun row => if 1 = n then (spl row off [c]).map fun row => ⟨J0I, [(b, .arr true z (rows.set i row))]⟩ else none else none := by
 simp only [stE, fz, J1b, Option.bind_some]
 split
 ·cases rows[i]? with
  | none => rfl
  | some row =>
   simp only [Option.bind_some, List.length_cons, List.length_nil, List.all_nil, and_true]
   simp only [Nat.zero_add]
   split
   ·cases spl row off [c] <;> rfl
   ·rfl
 ·rfl
theorem Jts (n b e i off z : Nat) (cs : List PV) (rows : List (List PV)) (s : St) : stE n b e i off (.data cs) (.arr true z rows) s = if e = rows.length then rows[i]?.bind fun row => if cs.length = n then (spl row off cs).map fun row => ⟨J0I, [(b, .arr true z (rows.set i row))]⟩ else none else none := by
 simp only [stE, fz, J1b, Option.bind_some]
 split
 ·cases rows[i]? with
  | none => rfl
  | some row =>
   simp only [Option.bind_some, List.all_nil, and_true]
   split
   ·cases spl row off cs <;> rfl
   ·rfl
 ·rfl
theorem Jsp (n : Nat) (cs : List PV) : bxP n (.data cs) = if cs.length = n then some (cs.map AV.p) else none := by simp [bxP, cellsOf]
theorem JpM (env : List (Nat × AV)) (sto : List Blk) (e : Nat) (rows : List (List PV)) (k : IntKind) (n : Int) : (J2h e (.p (.sl e rows)) (.p (.i k n))).run ⟨env, sto⟩ = (J9Q rows n).map fun row => ⟨.cp row 0, []⟩ := by
 simp only [J2h, if_true]
 cases J9Q rows n <;> rfl
def iaB (e b m : Nat) (n : Int) (B : Blk) : Option Eff := match B with
 | .arr _ esz' rows => if e = esz' ∧ 0 + m = rows.length ∧ 0 ≤ n ∧ n < m then some ⟨.ep b rows.length (0 + n.toNat) 0, []⟩ else none
 | _ => none
theorem JoR (env : List (Nat × AV)) (sto : List Blk) (e b m : Nat) (k : IntKind) (n : Int) : (J2h e (.slr b 0 m) (.p (.i k n))).run ⟨env, sto⟩ = sto[b]?.bind fun B => iaB e b m n B := by
 simp only [J2h, J52]
 cases sto[b]? with
 | none => rfl
 | some B =>
  cases B with
  | arr w z rows => simp only [Option.bind_some, iaB]; split <;> rfl
  | _ => rfl
theorem JqV (e b m : Nat) (n : Int) (w : Bool) (rows : List (List PV)) : iaB e b m n (.arr w e rows) = if m = rows.length ∧ 0 ≤ n ∧ n < m then some ⟨.ep b rows.length n.toNat 0, []⟩ else none := by
 simp [iaB]
theorem Jq7 (env : List (Nat × AV)) (sto : List Blk) (l : List Int) (new : Nat) : (cvR .toStr (.p (.sl 1 (l.map (r_i .u8)))) new).run ⟨env, sto⟩ = some ⟨.p (.s (toStr l)), []⟩ := by
 simp only [cvR, J00, if_true, run_bind, J1b, Option.bind_some, JbQ]
def cvB (n : Nat) (B : Blk) : Option Eff := match B with
 | .arr _ z rows => if 1 = z ∧ 0 + n = rows.length then
   match J4F (rows.drop 0) with
   | some l => some ⟨.p (.s l), []⟩
   | none => none
  else none
 | _ => none
theorem JoH (env : List (Nat × AV)) (sto : List Blk) (b n new : Nat) : (cvR .toStr (.slr b 0 n) new).run ⟨env, sto⟩ = sto[b]?.bind fun B => cvB n B := by
 simp only [cvR, J00, run_bind, J52]
 cases sto[b]? with
 | none => rfl
 | some B =>
  cases B with
  | arr w z rows =>
   simp only [Option.bind_some, cvB]
   split
   ·simp only [J1b, Option.bind_some]; cases J4F (rows.drop 0) <;> rfl
   ·rfl
  | _ => rfl
theorem JrA (n : Nat) (w : Bool) (l : List Int) : cvB n (.arr w 1 (l.map (r_i .u8))) = if n = l.length then some ⟨.p (.s (toStr l)), []⟩ else none := by
 simp only [cvB, List.drop_zero, JbQ, List.length_map, Nat.zero_add, true_and]
theorem JpC (env : List (Nat × AV)) (sto : List Blk) (l : List UInt8) (new : Nat) : (cvR (.toBytes false) (.p (.s l)) new).run ⟨env, sto⟩ = some ⟨.p (.sl 1 ((J7S l).map (r_i .u8))), []⟩ := by
 simp [cvR, JfI]
theorem Jom (env : List (Nat × AV)) (sto : List Blk) (l : List UInt8) (new : Nat) : (cvR (.toBytes true) (.p (.s l)) new).run ⟨env, sto⟩ = some ⟨.slr new 0 (J7S l).length, [(new, .arr true 1 ((J7S l).map (r_i .u8)))]⟩ := by
 have : (J7S l).length = l.length := by simp [J7S]
 simp [cvR, JfI, this]
theorem JsX (env : List (Nat × AV)) (sto : List Blk) (off size : Nat) (x : Opd) (r : List (Nat × Nat × Opd)) : (J23 ((off, size, x) :: r)).run ⟨env, sto⟩ = (evv x env).bind fun v => (cellsOf v).bind fun cs => ((J23 r).run ⟨env, sto⟩).bind fun l => some ((off, size, cs) :: l) := by
 simp only [J23, run_bind, J0p]
 cases evv x env with
 | none => rfl
 | some v =>
  simp only [Option.bind_some]
  cases cellsOf v with
  | none => rfl
  | some cs => simp only [Option.bind_some, run_bind]; cases (J23 r).run ⟨env, sto⟩ <;> rfl
theorem Jkx (off size : Nat) (vs cs : List PV) (r : List (Nat × Nat × List AV)) : J0P ((off, size, vs.map AV.p) :: r) (cs.map AV.p) = if vs.length = size then (spl cs off vs).bind fun cs => J0P r (cs.map AV.p) else none := by
 simp only [J0P, List.length_map, Jkp]
 split
 ·cases spl cs off vs <;> rfl
 ·rfl
theorem JpX (off : Nat) (v : PV) (cs : List PV) (r : List (Nat × Nat × List AV)) : J0P ((off, 1, [AV.p v]) :: r) (cs.map AV.p) = (spl cs off [v]).bind fun cs => J0P r (cs.map AV.p) := by
 have := Jkx off 1 [v] cs r
 simpa using this
theorem Jsa (env : List (Nat × AV)) (sto : List Blk) (x : Opd) (r : List Opd) : (evs (x :: r)).run ⟨env, sto⟩ = (evv x env).bind fun v => ((evs r).run ⟨env, sto⟩).bind fun vs => some (v :: vs) := by
 simp only [evs, run_bind, J0p]; rfl
theorem Jbh (env : List (Nat × AV)) (sto : List Blk) {v : AV} (h : J6l v = .ret (v, [])) (r : List AV) : (Jx (v :: r)).run ⟨env, sto⟩ = ((Jx r).run ⟨env, sto⟩).bind fun a => some (v :: a.1, a.2) := by
 simp only [Jx, h, run_bind, J1b, Option.bind_some, List.nil_append]
def frz (b n : Nat) (B : Blk) : Option (AV × (Nat × Blk)) := match B with
 | .arr _ z rows => if n = rows.length then some (.p (.sl z rows), (b, .arr false z rows)) else none
 | _ => none
def frp (b n : Nat) (B : Blk) : Option (PV × (Nat × Blk)) := match B with
 | .arr _ z rows => if n = rows.length then some (.sl z rows, (b, .arr false z rows)) else none
 | _ => none
theorem JjW (env : List (Nat × AV)) (sto : List Blk) (b n : Nat) : (fz (.slr b 0 n)).run ⟨env, sto⟩ = sto[b]?.bind fun B => (frp b n B).bind fun x => some ([x.1], [x.2]) := by
 simp only [fz, J52]
 cases sto[b]? with
 | none => rfl
 | some B =>
  cases B with
  | arr w z rows =>
   simp only [Option.bind_some, frp, Nat.zero_add, List.drop_zero]
   split <;> rfl
  | _ => rfl
theorem Jrj (env : List (Nat × AV)) (sto : List Blk) (b n : Nat) : (fz.fz1 (.slr b 0 n)).run ⟨env, sto⟩ = sto[b]?.bind fun B => (frp b n B).bind fun x => some ([x.1], [x.2]) := by
 simp only [fz.fz1, J52]
 cases sto[b]? with
 | none => rfl
 | some B =>
  cases B with
  | arr w z rows =>
   simp only [Option.bind_some, frp, Nat.zero_add, List.drop_zero]
   split <;> rfl
  | _ => rfl
theorem JpA (env : List (Nat × AV)) (sto : List Blk) (b n : Nat) (r : List AV) : (Jx (.slr b 0 n :: r)).run ⟨env, sto⟩ = sto[b]?.bind fun B => (frz b n B).bind fun x => ((Jx r).run ⟨env, sto⟩).bind fun a => some (x.1 :: a.1, x.2 :: a.2) := by
 simp only [Jx, J6l, run_bind, JjW]
 cases sto[b]? with
 | none => rfl
 | some B =>
  cases B with
  | arr w z rows =>
   simp only [Option.bind_some, frp, frz]
   split
   ·simp only [Option.bind_some, J1b]; cases (Jx r).run ⟨env, sto⟩ <;> rfl
   ·rfl
  | _ => rfl
theorem JoL (env : List (Nat × AV)) (sto : List Blk) (cs r : List AV) : (Jx (.agg cs :: r)).run ⟨env, sto⟩ = ((fz.fzL cs).run ⟨env, sto⟩).bind fun x => ((Jx r).run ⟨env, sto⟩).bind fun a => some (.data x.1 :: a.1, x.2 ++ a.2) := by
 simp only [Jx, J6l, run_bind, fz]
 cases (fz.fzL cs).run ⟨env, sto⟩ with
 | none => rfl
 | some x => simp only [Option.bind_some, J1b]
theorem JoG (env : List (Nat × AV)) (sto : List Blk) (c : PV) (r : List AV) : (fz.fzL (.p c :: r)).run ⟨env, sto⟩ = ((fz.fzL r).run ⟨env, sto⟩).bind fun a => some (c :: a.1, a.2) := by
 simp only [fz.fzL, fz.fz1, run_bind, J1b, Option.bind_some]; rfl
theorem JpE (env : List (Nat × AV)) (sto : List Blk) (b n : Nat) (r : List AV) : (fz.fzL (.slr b 0 n :: r)).run ⟨env, sto⟩ = sto[b]?.bind fun B => (frp b n B).bind fun x => ((fz.fzL r).run ⟨env, sto⟩).bind fun a => some (x.1 :: a.1, x.2 :: a.2) := by
 simp only [fz.fzL, run_bind, Jrj]
 cases sto[b]? with
 | none => rfl
 | some B =>
  simp only [Option.bind_some]
  cases frp b n B with
  | none => rfl
  | some x => simp only [Option.bind_some]; cases (fz.fzL r).run ⟨env, sto⟩ <;> rfl
theorem JsP (env : List (Nat × AV)) (sto : List Blk) (b : Nat) : (J6d [] b).run ⟨env, sto⟩ = sto[b]? := by
 simp only [J6d, J52]
 cases sto[b]? <;> rfl
theorem JpU (env : List (Nat × AV)) (sto : List Blk) (e : Nat) (rows : List (List PV)) : (J00 e (.p (.sl e rows))).run ⟨env, sto⟩ = some rows := by simp [J00]
theorem Jq9 (env : List (Nat × AV)) (sto : List Blk) (l : List UInt8) : (J00 1 (.p (.s l))).run ⟨env, sto⟩ = some ((J7S l).map (r_i .u8)) := by simp [J00, JfI]
def roB (e n : Nat) (B : Blk) : Option (List (List PV)) := match B with
 | .arr _ z rows => if e = z ∧ 0 + n = rows.length then some (rows.drop 0) else none
 | _ => none
theorem Jqi (env : List (Nat × AV)) (sto : List Blk) (e b n : Nat) : (J00 e (.slr b 0 n)).run ⟨env, sto⟩ = sto[b]?.bind fun B => roB e n B := by
 simp only [J00, J52]
 cases sto[b]? with
 | none => rfl
 | some B =>
  cases B with
  | arr w z rows => simp only [Option.bind_some, roB]; split <;> rfl
  | _ => rfl
theorem JoU (e n : Nat) (w : Bool) (rows : List (List PV)) : roB e n (.arr w e rows) = if n = rows.length then some rows else none := by simp [roB]
theorem Js7 (env : List (Nat × AV)) (sto : List Blk) (x : Opd) (r : List Opd) : (fzs (x :: r)).run ⟨env, sto⟩ = (evv x env).bind fun v => ((fz v).run ⟨env, sto⟩).bind fun a => ((fzs r).run ⟨env, sto⟩).bind fun c => some (a.1 :: c.1, a.2 ++ c.2) := by
 simp only [fzs, run_bind, J0p]; rfl
theorem Joq (env : List (Nat × AV)) (sto : List Blk) (b n : Nat) : (fz (.slr b 0 n)).run ⟨env, sto⟩ = sto[b]?.bind fun B => (frp b n B).bind fun x => some ([x.1], [x.2]) := JjW ..
theorem Jpq (env : List (Nat × AV)) (sto : List Blk) (s : SK) (c : PV) (lo hi : Option AV) : (slR s (.p c) lo hi none).run ⟨env, sto⟩ = (slX s (.p c) lo hi).map fun v => ⟨v, []⟩ := by
 simp only [slR, slX]
 cases J3F s (.p c) lo hi none <;> rfl
theorem JoW (env : List (Nat × AV)) (sto : List Blk) (s : SK) (b n : Nat) (lo hi : Option AV) : (slR s (.slr b 0 n) lo hi none).run ⟨env, sto⟩ = sto[b]?.bind fun B => (frz b n B).bind fun x => (slX s x.1 lo hi).map fun v => ⟨v, [x.2]⟩ := by
 simp only [slR, run_bind, JjW]
 cases sto[b]? with
 | none => rfl
 | some B =>
  cases B with
  | arr w z rows =>
   simp only [Option.bind_some, frp, frz]
   split
   ·simp only [Option.bind_some, slX]; cases J3F s (.p (.sl z rows)) lo hi none <;> rfl
   ·rfl
  | _ => rfl
theorem Jsi (n : Nat) (live : List Nat) (env : List (Nat × AV)) (sto : List Blk) : J4z n live ⟨env, sto⟩ = if sto.length = n then some ⟨restr live env, sto⟩ else (J7c n sto (restr live env)).bind fun e => (J2R n [] sto (sto.take n)).bind fun l => some ⟨e, l⟩ := by
 simp only [J4z]
 split
 ·rfl
 ·cases J7c n sto (restr live env) with
  | none => rfl
  | some e => cases J2R n [] sto (sto.take n) <;> rfl
theorem JsN (m k : Nat) (sto : List Blk) (x : AV) (r : List (Nat × AV)) : J7c m sto ((k, x) :: r) = (fin m [] sto x).bind fun y => (J7c m sto r).bind fun l => some ((k, y) :: l) := by
 simp only [J7c]
 cases fin m [] sto x with
 | none => rfl
 | some y => cases J7c m sto r <;> rfl
theorem JsC (m : Nat) (ids : List Nat) (sto : List Blk) (x : Blk) (r : List Blk) : J2R m ids sto (x :: r) = (J3D m ids sto x).bind fun y => (J2R m ids sto r).bind fun l => some (y :: l) := by
 simp only [J2R]
 cases J3D m ids sto x with
 | none => rfl
 | some y => cases J2R m ids sto r <;> rfl
theorem Jrw (m : Nat) (ids : List Nat) (sto : List Blk) (cs : List AV) : J3D m ids sto (.box cs) = (fin.finL m ids sto cs).map .box := by
 simp only [J3D]
 cases fin.finL m ids sto cs <;> rfl
theorem Jsc (m : Nat) (ids : List Nat) (sto : List Blk) (x : AV) (r : List AV) : fin.finL m ids sto (x :: r) = (fin m ids sto x).bind fun y => (fin.finL m ids sto r).bind fun l => some (y :: l) := by
 simp only [fin.finL]
 cases fin m ids sto x with
 | none => rfl
 | some y => cases fin.finL m ids sto r <;> rfl
def fsl (k : Option Nat) (n : Nat) (B : Option Blk) : Option AV := match k with
 | some k => some (.slr k 0 n)
 | none => match B with
  | some (.arr _ z rows) => if n = rows.length then some (.p (.sl z rows)) else none
  | _ => none
theorem JrW (m : Nat) (ids : List Nat) (sto : List Blk) (b n : Nat) : fin m ids sto (.slr b 0 n) = if b < m then some (.slr b 0 n) else fsl (J6K b ids m) n sto[b]? := by
 simp only [fin]
 split
 ·rfl
 ·cases J6K b ids m with
  | some k => rfl
  | none =>
   simp only [fsl]
   cases sto[b]? with
   | none => rfl
   | some B => cases B <;> simp
theorem Jr4 (m : Nat) (ids : List Nat) (sto : List Blk) (cs : List AV) : fin m ids sto (.agg cs) = (fin.finL m ids sto cs).bind fun l => some (JkI l (unp l)) := by
 simp only [fin]
 cases fin.finL m ids sto cs with
 | none => rfl
 | some l => simp only [Option.bind_some]; cases unp l <;> rfl
theorem JrS (m : Nat) (ids : List Nat) (sto : List Blk) (x : AV) (cs : List AV) : fin m ids sto (.tup (x :: cs)) = (fin.finL m ids sto (x :: cs)).map .tup := by
 simp only [fin]
 cases fin.finL m ids sto (x :: cs) <;> rfl
theorem Jpf (env : List (Nat × AV)) (sto : List Blk) (t : Nat) (r : List Jas) : (J4N (.tmp t :: r)).run ⟨env, sto⟩ = (lk t env).bind fun v => ((J4N r).run ⟨env, sto⟩).bind fun l => some (v :: l) := by
 simp only [J4N, run_bind, JjX, J1b]
 cases lk t env <;> rfl
theorem JpB (env : List (Nat × AV)) (sto : List Blk) (t n : Nat) (g : Bool) (r : List Jas) : (J4N (.cell t g n :: r)).run ⟨env, sto⟩ = (lk t env).bind fun v => ((J1F g n v).run ⟨env, sto⟩).bind fun e => ((J4N r).run ⟨env, sto⟩).bind fun l => some (e.val :: l) := by
 simp only [J4N, run_bind, JjX, J1b]
 cases lk t env <;> rfl
def oid (b : Nat) (B : Option Blk) (l : List Nat) : List Nat := match B with
 | some (.box _) => b :: l
 | _ => l
theorem Jt8 (m b : Nat) (sto : List Blk) (r : List Ent) : J0W m false sto (.whole b :: r) = if b < m then J0W m false sto r else oid b sto[b]? (J0W m false sto r) := by
 simp only [J0W]
 split
 ·rfl
 ·unfold oid
  cases sto[b]? with
  | none => rfl
  | some B => cases B <;> simp
def ebb (B : Option Blk) (acc : List Ent) : List Ent := match B with
 | some (.box cs) => JV.entsOfL cs acc
 | _ => acc
theorem JsY (sto : List Blk) (b : Nat) (r acc : List Ent) : J6e sto (.whole b :: r) acc = J6e sto r (ebb sto[b]? acc) := by
 simp only [J6e, ebb]
 cases sto[b]? with
 | none => rfl
 | some B => cases B <;> rfl
theorem Js4 (b c : Nat) (r : List Ent) : J6q (.whole b) (.whole c :: r) = if c = b then .whole c :: r else .whole c :: J6q (.whole b) r := by
 simp only [J6q, List.any_cons]
 by_cases h : c = b
 ·subst h; simp
 ·simp [h]
  split <;> simp_all
theorem Jsm (sto : List Blk) (b : Nat) (r : List Nat) : J5M sto (b :: r) = sto[b]?.bind fun x => (J5M sto r).bind fun l => some (x :: l) := by
 simp only [J5M]
 cases sto[b]? with
 | none => rfl
 | some x => cases J5M sto r <;> rfl
theorem Jpw {α : Type} (a : α) (cs : List α) (n : Nat) : sub (a :: cs) 0 (n + 1) = (sub cs 0 n).map (a :: ·) := by
 rw [J5f, J5f]
 by_cases h : n ≤ cs.length
 ·rw [if_pos (by simp; omega), if_pos (by omega)]; simp
 ·rw [if_neg (by simp; omega), if_neg (by omega)]; rfl
theorem JpG {α : Type} (a : α) (cs : List α) (n m : Nat) : sub (a :: cs) (n + 1) m = sub cs n m := by
 rw [J5f, J5f]
 by_cases h : n + m ≤ cs.length
 ·rw [if_pos (by simp; omega), if_pos h]; simp
 ·rw [if_neg (by simp; omega), if_neg h]
theorem Jpv {α : Type} (a b : α) (cs vs : List α) : spl (a :: cs) 0 (b :: vs) = (spl cs 0 vs).map (b :: ·) := by
 rw [J5R, J5R]
 by_cases h : vs.length ≤ cs.length
 ·rw [if_pos (by simp; omega), if_pos (by omega)]; simp
 ·rw [if_neg (by simp; omega), if_neg (by omega)]; rfl
theorem Jpu {α : Type} (a : α) (cs : List α) (n : Nat) (vs : List α) : spl (a :: cs) (n + 1) vs = (spl cs n vs).map (a :: ·) := by
 rw [J5R, J5R]
 by_cases h : n + vs.length ≤ cs.length
 ·rw [if_pos (by simp; omega), if_pos h]
  rw [show n + 1 + vs.length = (n + vs.length) + 1 by omega]; simp
 ·rw [if_neg (by simp; omega), if_neg h]; rfl
theorem Jpp (off size : Nat) (c : List AV) (a : AV) (cs : List AV) (r : List (Nat × Nat × List AV)) : J0P ((off, size, c) :: r) (a :: cs) = if c.length = size then (spl (a :: cs) off c).bind fun cs => J0P r cs else none := by
 simp only [J0P]
 split
 ·cases spl (a :: cs) off c <;> rfl
 ·rfl
theorem JrR (m : Nat) (ids : List Nat) (sto : List Blk) (f : FuncId) (a c : List AV) : fin m ids sto (.fn f a c) = (fin.finL m ids sto a).bind fun a1 => (fin.finL m ids sto c).bind fun c1 => some (.fn f a1 c1) := by
 simp only [fin]
 cases fin.finL m ids sto a with
 | none => rfl
 | some a1 => cases fin.finL m ids sto c <;> rfl
def lwO (x y : Option Blk) : Option Blk := match x with
 | some x => some x
 | none => y
theorem Jt1 (b c : Nat) (x : Blk) (r : List (Nat × Blk)) : J24 b ((c, x) :: r) = lwO (J24 b r) (if c = b then some x else none) := by
 simp only [J24]
 cases J24 b r <;> rfl
theorem JqE (env : List (Nat × AV)) (sto : List Blk) (b c : Nat) (x : Blk) (ws : List (Nat × Blk)) : (J6d ((c, x) :: ws) b).run ⟨env, sto⟩ = sto[b]?.bind fun y => some ((J24 b ((c, x) :: ws)).getD y) := by
 simp only [J6d, J52]
 cases sto[b]? with
 | none => rfl
 | some y => simp only [Option.bind_some]; cases J24 b ((c, x) :: ws) <;> rfl
@[congr] theorem JtI {α : Type} {u u' : AV} {k : FuncId → List AV → List AV → Option α} (h : u = u') : cvg u k = cvg u' k := by rw [h]
theorem Jfb (x : Opd) (s : St) : Ja ((ev x).reads s) = [] := by
 cases x with
 | t n => simp only [ev, RM.reads]; cases lk n s.env <;> rfl
 | c v => rfl
theorem JmQ (a b : List Loc) : Ja (a ++ b) = Ja a ++ Ja b := by
 induction a with
 | nil => rfl
 | cons x r ih => cases x <;> simp [Ja, ih]
def rb {α β : Type} (m : Option α) (f : α → List β) : List β := match m with
 | some a => f a
 | none => []
theorem J1I {α β : Type} (m : RM α) (f : α → RM β) (s : St) : Ja ((m.bind f).reads s) = Ja (m.reads s) ++ rb (m.run s) fun a => Ja ((f a).reads s) := by
 rw [J8B, JmQ]
 cases m.run s <;> rfl
theorem J9N {β : Type} (x : Opd) (f : AV → RM β) (s : St) : Ja (((ev x).bind f).reads s) = rb (evv x s.env) fun a => Ja ((f a).reads s) := by
 rw [J1I, Jfb, J0p]; rfl
theorem JaH (o : Option AV) (s : St) : Ja ((Go.Am.val o).reads s) = [] := by cases o <;> rfl
section
variable (F : Orc) (new : Nat) (env : List (Nat × AV)) (sto : List Blk)
theorem J9R {op : AOp} (h : JC op = 0) (s : St) : rdO F op new s = Ja ((opR F op new).reads s) := by
 unfold rdO opD
 rw [J1I, h]; rfl
def is1 (b : Option Blk) : Option Unit := match b with
 | some .dead => some ()
 | _ => none
theorem Jju {op : AOp} (h : JC op = 1) (s : St) : rdO F op new s = new :: rb (is1 s.sto[new]?) fun _ => Ja ((opR F op new).reads s) := by
 unfold rdO opD
 rw [J1I, h]
 simp only [J5o, RM.reads, RM.run, Ja]
 cases s.sto[new]? with
 | none => rfl
 | some b => cases b <;> rfl
end
theorem JkB {α β : Type} (m : Option α) : (rb m fun _ => ([] : List β)) = [] := by cases m <;> rfl
theorem Jrp (F : Orc) (new : Nat) (env : List (Nat × AV)) (sto : List Blk) (g : Bool) (n : Nat) (x : Opd) : rdO F (.load g n x) new ⟨env, sto⟩ = rb (evv x env) fun a => Ja ((J1F g n a).reads ⟨env, sto⟩) := by
 rw [J9R (h := rfl)]; exact J9N ..
theorem JqI (s : St) (g : Bool) (n b o : Nat) : Ja ((J1F g n (.ptr b o)).reads s) = [b] := by
 simp only [J1F, RM.reads, Ja]
 cases s.sto[b]? with
 | none => rfl
 | some B =>
  cases B with
  | box cs => simp only []; cases sub cs o n with
   | none => rfl
   | some l => simp only [JaH]
  | _ => rfl
theorem Jt2 (s : St) (g : Bool) (n o : Nat) (cs : List PV) : Ja ((J1F g n (.cp cs o)).reads s) = [] := by
 simp only [J1F]
 cases sub cs o n with
 | none => rfl
 | some l => exact JaH ..
theorem JsU (s : St) (g : Bool) (n b e i o : Nat) : Ja ((J1F g n (.ep b e i o)).reads s) = [b] := by
 simp only [J1F, RM.reads, Ja]
 cases s.sto[b]? with
 | none => rfl
 | some B =>
  cases B with
  | arr w z rows =>
   simp only []
   split
   ·cases rows[i]? with
    | none => rfl
    | some row =>
     simp only []
     cases sub row o n with
     | none => rfl
     | some l => simp only [JaH]
   ·rfl
  | _ => rfl
theorem JnM (F : Orc) (new : Nat) (s : St) (z : List PV) : rdO F (.newbox z) new s = [new] := by
 rw [Jju (h := rfl)]; simp only [opR, RM.reads, Ja, JkB]
theorem Jqb (F : Orc) (new : Nat) (env : List (Nat × AV)) (sto : List Blk) (n : Nat) (x y : Opd) : rdO F (.store n x y) new ⟨env, sto⟩ = rb (evv x env) fun a => rb (evv y env) fun c => Ja ((J1g n a c).reads ⟨env, sto⟩) := by
 rw [J9R (h := rfl)]
 simp only [opR, J9N]
theorem JqN (s : St) (n b o : Nat) (v : AV) : Ja ((J1g n (.ptr b o) v).reads s) = [b] := by
 simp only [J1g, RM.reads, Ja]
 cases s.sto[b]? with
 | none => rfl
 | some B =>
  cases B with
  | box cs =>
   simp only []
   cases cellsOf v with
   | none => rfl
   | some l =>
    simp only []
    split
    ·cases spl cs o l <;> rfl
    ·rfl
  | _ => rfl
theorem Jo5 (s : St) (n b e i o : Nat) {v : AV} {c : List PV} (hv : fz v = .ret (c, [])) : Ja ((J1g n (.ep b e i o) v).reads s) = [b] := by
 simp only [J1g, RM.reads, Ja]
 cases s.sto[b]? with
 | none => rfl
 | some B =>
  cases B with
  | arr w z rows =>
   cases w with
   | false => rfl
   | true =>
    simp only []
    split
    ·cases rows[i]? with
     | none => rfl
     | some row =>
      simp only [hv, J1I, RM.reads, Ja, J1b, rb, List.nil_append]
      split
      ·cases spl row o c <;> rfl
      ·rfl
    ·rfl
  | _ => rfl
theorem JpN (s : St) (n b e i o : Nat) (c : PV) : Ja ((J1g n (.ep b e i o) (.p c)).reads s) = [b] := Jo5 s n b e i o rfl
theorem Jp8 (s : St) (n b e i o : Nat) (c : List PV) : Ja ((J1g n (.ep b e i o) (.data c)).reads s) = [b] := Jo5 s n b e i o rfl
theorem Jde (s : St) : ∀ args, Ja ((evs args).reads s) = []
 | [] => rfl
 | x :: r => by
  simp only [evs, J9N]
  cases evv x s.env with
  | none => rfl
  | some v =>
   simp only [rb, J1I, Jde s r, List.nil_append]
   cases (evs r).run s <;> rfl
theorem JgS (F : Orc) (g : FuncId) (args : List Opd) (n new : Nat) (s : St) : Ja ((opR F (.call g args n) new).reads s) = rb ((evs args).run s) fun a => Ja ((Jx a).reads s) ++ rb ((Jx a).run s) fun a => Ja ((Jq F g a n new).reads s) := by
 simp only [opR, J1I, Jde, List.nil_append, Ja1]
theorem JpI (F : Orc) (new : Nat) (s : St) (g : FuncId) (args : List Opd) : rdO F (.call g args 0) new s = rb ((evs args).run s) fun a => Ja ((Jx a).reads s) ++ rb ((Jx a).run s) fun a => Ja ((Jq F g a 0 new).reads s) := by
 rw [J9R (h := rfl)]; exact JgS ..
theorem JoK (F : Orc) (new : Nat) (s : St) (g : FuncId) (args : List Opd) : rdO F (.call g args 1) new s = new :: rb (is1 s.sto[new]?) fun _ => rb ((evs args).run s) fun a => Ja ((Jx a).reads s) ++ rb ((Jx a).run s) fun a => Ja ((Jq F g a 1 new).reads s) := by
 rw [Jju (h := rfl)]; simp only [JgS]
theorem Jah (s : St) {v : AV} (h : J6l v = .ret (v, [])) (r : List AV) : Ja ((Jx (v :: r)).reads s) = Ja ((Jx r).reads s) := by
 simp only [Jx, h, J1I, RM.reads, Ja, J1b, rb, List.nil_append]
 cases (Jx r).run s <;> simp [RM.reads, Ja]
theorem JdQ (s : St) (b n : Nat) : Ja ((fz (.slr b 0 n)).reads s) = [b] := by
 simp only [fz, RM.reads, Ja]
 cases s.sto[b]? with
 | none => rfl
 | some B =>
  cases B with
  | arr w z rows => simp only []; split <;> rfl
  | _ => rfl
theorem JrJ (s : St) (b n : Nat) (r : List AV) : Ja ((Jx (.slr b 0 n :: r)).reads s) = b :: rb ((J6l (.slr b 0 n)).run s) fun _ => Ja ((Jx r).reads s) := by
 have h1 : Ja ((J6l (.slr b 0 n)).reads s) = [b] := by
  simp only [J6l, J1I, JdQ]
  cases (fz (.slr b 0 n)).run s with
  | none => rfl
  | some a =>
   simp only [rb]
   match a.1 with
   | [] => rfl
   | [_] => rfl
   | _ :: _ :: _ => rfl
 simp only [Jx, J1I, h1]
 cases (J6l (.slr b 0 n)).run s with
 | none => rfl
 | some a => simp only [rb]; cases (Jx r).run s <;> simp [RM.reads, Ja]
theorem J0V {F : Orc} {f : FuncId} {args : List AV} (hp : args.all J3j = true) (ws : List (Nat × Blk)) (k new : Nat) (s : St) : Ja ((Jq F f (args, ws) k new).reads s) = [] := by
 have e1 : JV.entsOfL args [] = [] := J6i hp
 simp only [Jq, e1, J6N, J1I, RM.reads, Ja, J1b, rb, List.nil_append, List.map_nil, J3f, if_true, J8a hp, J4r]
 cases F f args [] with
 | none => rfl
 | some r =>
  simp only []
  split
  ·simp only [List.length_nil, List.drop_zero]
   cases bk [] new r.1 with
   | none => rfl
   | some v =>
    cases J3s [] new new r.2 with
    | none => rfl
    | some fr => simp only [J3S, J1I, RM.reads, Ja, J1b, rb, List.nil_append]
  ·rfl
def cvl {α : Type} (u : AV) (k : FuncId → List AV → List AV → List α) : List α := match u with
 | .fn f a c => k f a c
 | _ => []
theorem Joc (F : Orc) (new : Nat) (env : List (Nat × AV)) (sto : List Blk) (g : Opd) (args : List Opd) : rdO F (.callv g args 0) new ⟨env, sto⟩ = rb (evv g env) fun u => cvl u fun h a1 c1 => rb ((evs args).run ⟨env, sto⟩) fun a => Ja ((Jx (a1 ++ a ++ c1)).reads ⟨env, sto⟩) ++ rb ((Jx (a1 ++ a ++ c1)).run ⟨env, sto⟩) fun a => Ja ((Jq F h a 0 new).reads ⟨env, sto⟩) := by
 rw [J9R (h := rfl)]
 simp only [opR, J1I, Jfb, J0p, List.nil_append]
 cases evv g env with
 | none => rfl
 | some u =>
  simp only [rb]
  cases u <;> first | rfl | skip
  simp only [cvl, J1I, Jde, List.nil_append]
  cases (evs args).run ⟨env, sto⟩ with
  | none => rfl
  | some a => simp only [rb, Ja1, J1I]
theorem JhU (s : St) (o : Bool) (e n new : Nat) (z : List PV) (ps : List (Nat × Opd)) : Ja ((ltR o e n z ps new).reads s) = Ja ((fzs (ps.map (·.2))).reads s) := by
 simp only [ltR, J1I]
 cases (fzs (ps.map (·.2))).run s with
 | none => simp [rb]
 | some a =>
  simp only [rb]
  cases J38 e ((ps.map (·.1)).zip a.1) (List.replicate n z) with
  | none => simp [RM.reads, Ja]
  | some rows => cases o <;> simp [RM.reads, Ja]
theorem Jpb (F : Orc) (new : Nat) (s : St) (e n : Nat) (z : List PV) (ps : List (Nat × Opd)) : rdO F (.lits false e n z ps) new s = Ja ((fzs (ps.map (·.2))).reads s) := by
 rw [J9R (h := rfl)]; exact JhU ..
theorem JoP (F : Orc) (new : Nat) (s : St) (e n : Nat) (z : List PV) (ps : List (Nat × Opd)) : rdO F (.lits true e n z ps) new s = new :: rb (is1 s.sto[new]?) fun _ => Ja ((fzs (ps.map (·.2))).reads s) := by
 rw [Jju (h := rfl)]
 congr 2; funext _
 exact JhU ..
theorem Jt6 (s : St) (x : Opd) (r : List Opd) : Ja ((fzs (x :: r)).reads s) = rb (evv x s.env) fun v => Ja ((fz v).reads s) ++ rb ((fz v).run s) fun _ => Ja ((fzs r).reads s) := by
 have e0 : fzs (x :: r) = (ev x).bind fun v => (fz v).bind fun a => (fzs r).bind fun c => .ret (a.1 :: c.1, a.2 ++ c.2) := rfl
 rw [e0, J9N]
 cases evv x s.env with
 | none => rfl
 | some v =>
  dsimp only [rb]
  rw [J1I]
  cases (fz v).run s with
  | none => rfl
  | some a =>
   dsimp only [rb]
   rw [J1I]
   cases (fzs r).run s <;> simp [rb, RM.reads, Ja]
theorem Jp4 (F : Orc) (new : Nat) (s : St) (x : Opd) : rdO F (.conv .toStr x) new s = rb (evv x s.env) fun a => Ja ((J00 1 a).reads s) := by
 rw [J9R (h := rfl)]
 simp only [opR, J9N]
 congr 1; funext a
 simp only [J1I]
 cases (J00 1 a).run s with
 | none => simp [rb]
 | some rows => simp only [rb]; cases J4F rows <;> simp [RM.reads, Ja]
theorem Jov (s : St) (e b n : Nat) : Ja ((J00 e (.slr b 0 n)).reads s) = [b] := by
 simp only [J00, RM.reads, Ja]
 cases s.sto[b]? with
 | none => rfl
 | some B =>
  cases B with
  | arr w z rows => simp only []; split <;> rfl
  | _ => rfl
theorem Jkn (s : St) (e z : Nat) (rows : List (List PV)) : Ja ((J00 e (.p (.sl z rows))).reads s) = [] := by
 simp only [J00]; split <;> rfl
theorem JoZ (F : Orc) (new : Nat) (s : St) (e : Nat) (x i : Opd) : rdO F (.iaddr e x i) new s = rb (evv x s.env) fun a => rb (evv i s.env) fun c => Ja ((J2h e a c).reads s) := by
 rw [J9R (h := rfl)]; simp only [opR, J9N]
theorem Joa (s : St) (e b n : Nat) (k : IntKind) (i : Int) : Ja ((J2h e (.slr b 0 n) (.p (.i k i))).reads s) = [b] := by
 simp only [J2h, RM.reads, Ja]
 cases s.sto[b]? with
 | none => rfl
 | some B =>
  cases B with
  | arr w z rows => simp only []; split <;> rfl
  | _ => rfl
theorem JpK (s : St) (e z : Nat) (rows : List (List PV)) (k : IntKind) (i : Int) : Ja ((J2h e (.p (.sl z rows)) (.p (.i k i))).reads s) = [] := by
 simp only [J2h]
 split
 ·cases J9Q rows i <;> rfl
 ·rfl
def slT (k : SK) (lo hi mx : Option Opd) (a : AV) : RM Eff := (evo lo).bind fun lo => (evo hi).bind fun hi => (evo mx).bind fun mx =>
  match a with
  | .slr b i n => (fz (.slr b i n)).bind fun y => match y.1 with
   | [c] => match J3F k (.p c) lo hi mx with
    | some v => .ret ⟨v, y.2⟩
    | none => .fail
   | _ => .fail
  | a => val (J3F k a lo hi mx)
theorem Jon (x : Option Opd) (s : St) : Ja ((evo x).reads s) = [] := by
 cases x with
 | none => rfl
 | some x =>
  simp only [evo, J1I, Jfb, List.nil_append]
  cases (ev x).run s <;> rfl
theorem Jol (F : Orc) (new : Nat) (s : St) (k : SK) (x : Opd) (lo hi mx : Option Opd) : rdO F (.slice k x lo hi mx) new s = rb (evv x s.env) fun a => Ja ((slT k lo hi mx a).reads s) := by
 rw [J9R (h := rfl)]
 simp only [opR, J9N]
 rfl
theorem Jrd (s : St) (k : SK) (lo hi mx : Option Opd) (c : PV) : Ja ((slT k lo hi mx (.p c)).reads s) = [] := by
 simp only [slT, J1I, Jon, List.nil_append, JaH, JkB]
theorem JqP (F : Orc) (new : Nat) (s : St) (e b : Nat) (z : List PV) (y : Opd) : rdO F (.appn e b z y) new s = new :: rb (is1 s.sto[new]?) fun _ => rb (evv y s.env) fun a => Ja ((J00 e a).reads s) := by
 rw [Jju (h := rfl)]
 simp only [opR, J9N]
 refine congrArg (List.cons new) (congrArg (rb _) (funext fun _ => congrArg (rb _) (funext fun a => ?_)))
 simp only [J1I]
 have : ∀ rows : List (List PV), Ja ((if J4S rows.length b then (.ret ⟨.slr new 0 rows.length, [(new, .arr true e rows)]⟩ : RM Eff) else .fail).reads s) = [] := fun rows => by split <;> rfl
 simp only [this, JkB, List.append_nil]
theorem Jsf (F : Orc) (new : Nat) (s : St) (e b : Nat) (z : List PV) (x y : Opd) : rdO F (.app e b z x y) new s = rb (evv x s.env) fun a => rb (evv y s.env) fun c => Ja ((J4w e b a c).reads s) := by
 rw [J9R (h := rfl)]; simp only [opR, J9N]
theorem Jr9 (s : St) (e bytes b i n : Nat) (c : PV) (hc : ∀ s, Ja ((J00 e (.p c)).reads s) = []) : Ja ((J4w e bytes (.slr b i n) (.p c)).reads s) = [b] := by
 simp only [J4w, RM.reads, Ja]
 cases s.sto[b]? with
 | none => rfl
 | some B =>
  cases B with
  | arr w z rows =>
   simp only [J1I, hc, List.nil_append]
   congr 1
   cases (J00 e (.p c)).run s with
   | none => rfl
   | some new => simp only [rb]; split <;> rfl
  | _ => rfl
theorem JpF (s : St) (e bytes b n z : Nat) (rows : List (List PV)) : Ja ((J4w e bytes (.slr b 0 n) (.p (.sl z rows))).reads s) = [b] := Jr9 s e bytes b 0 n (.sl z rows) fun s => Jkn s e z rows
theorem Jsy (env : List (Nat × AV)) (sto : List Blk) (l : List Int) (new : Nat) : (cvR .toStr (.p (.sl 1 (l.map (r_i .u8)))) new).run ⟨env, sto⟩ = some ⟨.p (.s (toStr l)), []⟩ := Jq7 ..
theorem Jth (n : Nat) (w : Bool) (l : List Int) : cvB n (.arr w 1 (l.map (r_i .u8))) = if n = l.length then some ⟨.p (.s (toStr l)), []⟩ else none := JrA ..
theorem fr (b n z : Nat) (w : Bool) (rows : List (List PV)) : frz b n (.arr w z rows) = if n = rows.length then some (.p (.sl z rows), (b, .arr false z rows)) else none := rfl
theorem mk (o : Bool) (e b new : Nat) (z : List PV) (k k2 : IntKind) (n m : Int) : mkP o e b z (.p (.i k n)) (.p (.i k2 m)) new = if 0 ≤ n ∧ n ≤ m ∧ b * m ≤ 281474976710656 ∧ m ≤ 281474976710656 then some (if o then ⟨.slr new 0 n.toNat, [(new, .arr true e (List.replicate n.toNat z))]⟩ else ⟨.p (.sl e (List.replicate n.toNat z)), []⟩) else none := rfl
theorem cl (n : Nat) (live : List Nat) (env : List (Nat × AV)) (sto : List Blk) : J4z n live ⟨env, sto⟩ = if sto.length = n then some ⟨restr live env, sto⟩ else (J7c n sto (restr live env)).bind fun e => (J2R n [] sto (sto.take n)).bind fun l => some ⟨e, l⟩ := Jsi ..
theorem JsW {α : Type} (l : List α) : [] ++ l = l := rfl
theorem Js8 {α : Type} (l : List α) : l ++ [] = l := List.append_nil l
theorem JsF {α : Type} (a : α) (l r : List α) : (a :: l) ++ r = a :: (l ++ r) := rfl
theorem Jsn {α β : Type} (g : α → β) : List.map g [] = [] := rfl
theorem JsS {α β : Type} (g : α → β) (a : α) (l : List α) : List.map g (a :: l) = g a :: List.map g l := rfl
theorem JsK {α : Type} : ([] : List α).length = 0 := rfl
theorem JsA {α : Type} (a : α) (l : List α) : (a :: l).length = l.length + 1 := rfl
theorem Jsh (k : IntKind) (n : Int) : r_i k n = [.i k n] := rfl
theorem Jt0 (x : Bool) : r_b x = [.b x] := rfl
theorem Jqm (x : List UInt8) : r_s x = [.s x] := rfl
theorem JsL {α : Type} (e : Nat) (g : α → List PV) (l : List α) : JhA e g l = [.sl e (l.map g)] := rfl
theorem s1 (a : PV) : sub [a] 0 1 = some [a] := rfl
set_option maxRecDepth 30000 in
theorem Da : (∀ T f m k s, rk T f m k (X T .skip s) = rk T f m k (some (.normal, s))) ∧
 (∀ T f m k a b s, rk T f m k (X T (.seq a b) s) = rk T f m (.sq b :: k) (X T a s)) ∧
 (∀ T f m k d ins env sto, rk T f m k (X T (.reg d [] ins) ⟨env, sto⟩) = rk T f m k (Jpe (Jj (AF T) ins sto.length ⟨env, room (news ins) sto⟩ none))) ∧
 (∀ T f m k d q ps ins env sto, rk T f m k (X T (.reg d (q :: ps) ins) ⟨env, sto⟩) = rk T f m k (JmT (q :: ps) (Jj (AF T) ins sto.length ⟨env, room (news ins) sto⟩ (some [])))) ∧
 (∀ T f m k i c s, rk T f m k (X T (.block i c) s) = rk T f m (.bl i :: k) (X T c s)) ∧
 (∀ T f m k c s, rk T f m k (X T (.scope c) s) = rk T f m k (X T c s)) ∧
 (∀ T f m k i s, rk T f m k (X T (.exit i) s) = rk T f m k (some (.exit i, s))) ∧
 (∀ T f m k s, rk T f m k (X T .ret s) = rk T f m k (some (.ret, s))) ∧
 (∀ T f m k live c env sto, rk T f m k (X T (.keep live c) ⟨env, sto⟩) = rk T f m k (X T c ⟨restr live env, sto⟩)) ∧
 (∀ T f m k live c env sto, rk T f m k (X T (.tidy live c) ⟨env, sto⟩) = rk T f m (.td sto.length live :: k) (X T c ⟨env, sto⟩)) ∧
 (∀ T f m k live c env sto, rk T f m k (X T (.loop live c) ⟨env, sto⟩) = rk T f m k (X T (.lp sto.length live c) ⟨restr live env, sto⟩)) ∧
 (∀ T f m k x a b env sto, rk T f m k (X T (.cond x a b) ⟨env, sto⟩) = rk T f m k (cnd (evv x env) (hold (X T a ⟨env, sto⟩) (.mk _)) (hold (X T b ⟨env, sto⟩) (.mk _)) (hold (fun _ => same (X T a ⟨env, sto⟩) (X T b ⟨env, sto⟩)) (.mk _)))) ∧
 (∀ a b h c, cnd (some (.p (.b true))) (hold a h) b c = a) ∧
 (∀ a b h c, cnd (some (.p (.b false))) a (hold b h) c = b) ∧
 (∀ T f m k b s, rk T f m (.sq b :: k) (some (.normal, s)) = rk T f m k (X T b s)) ∧
 (∀ T f m k b i s, rk T f m (.sq b :: k) (some (.exit i, s)) = rk T f m k (some (.exit i, s))) ∧
 (∀ T f m k b s, rk T f m (.sq b :: k) (some (.ret, s)) = rk T f m k (some (.ret, s))) ∧
 (∀ T f m k i s, rk T f m (.bl i :: k) (some (.normal, s)) = rk T f m k (some (.normal, s))) ∧
 (∀ T f m k i j s, rk T f m (.bl i :: k) (some (.exit j, s)) = if j = i then rk T f m k (some (.normal, s)) else rk T f m k (some (.exit j, s))) ∧
 (∀ T f m k i s, rk T f m (.bl i :: k) (some (.ret, s)) = rk T f m k (some (.ret, s))) ∧
 (∀ T f m k n live e s, rk T f m (.td n live :: k) (some (e, s)) = rk T f m k (tdn e (J4z n live s))) ∧
 (∀ e s, tdn e (some s) = some (e, s)) ∧
 (∀ T f m k n live c s, rk T f m (.lo n live c :: k) (some (.normal, s)) = rk T f m k (again T n live c (J4z n live s))) ∧
 (∀ T n live c s, again T n live c (some s) = X T (.lp n live c) s) ∧
 (∀ T f m k n live c i s, rk T f m (.lo n live c :: k) (some (.exit i, s)) = rk T f m k (some (.exit i, s))) ∧
 (∀ T f m k n live c s, rk T f m (.lo n live c :: k) (some (.ret, s)) = rk T f m k (some (.ret, s))) ∧
 (∀ T f m s, rk T f m [] (some (.normal, s)) = Jfw f.res f.fresh m s) ∧
 (∀ T f m s, rk T f m [] (some (.ret, s)) = Jfw f.res f.fresh m s) ∧
 (∀ s l, Jpe (some (s, l)) = some (.normal, s)) ∧
 (∀ s l ps, JmT ps (some (s, some l)) = if J7o l ps = true then some (.normal, s) else none) ∧
 (∀ l, J7o l [] = true) ∧
 (∀ l i j ps, J7o l ((i, j) :: ps) = (pkk l[i]? l[j]? && J7o l ps)) ∧
 (∀ a b, lgA none a b = none) ∧
 (∀ l a b, lgA (some l) a b = some (l ++ [(a, b)])) ∧
 (∀ {α : Type} (a : α) (l : List α), (a :: l)[0]? = some a) ∧
 (∀ {α : Type} (a : α) (l : List α) (n : Nat), (a :: l)[n + 1]? = l[n]?) ∧
 (∀ F new s lg, Jj F [] new s lg = some (s, lg)) ∧
 (∀ F r new env sto lg d x, Jj F (⟨.mv x, some d, none⟩ :: r) new ⟨env, sto⟩ lg = (evv x env).bind fun v => Jj F r new ⟨(d, v) :: env, sto⟩ (lgA lg (rdO F (.mv x) new ⟨env, sto⟩) [])) ∧
 (∀ F r new env sto lg d c a b, Jj F (⟨.pick c a b, some d, none⟩ :: r) new ⟨env, sto⟩ lg = (evv c env).bind fun u => pkh u (evv a env) (evv b env) (hold (fun v => Jj F r new ⟨(d, v) :: env, sto⟩ (lgA lg (rdO F (.pick c a b) new ⟨env, sto⟩) [])) (.mk _))) ∧
 (∀ F r new env sto lg d op t x y, Jj F (⟨.bin op t x y, some d, none⟩ :: r) new ⟨env, sto⟩ lg = (evv x env).bind fun a => (evv y env).bind fun c => (J0o op t a c).bind fun v => Jj F r new ⟨(d, v) :: env, sto⟩ (lgA lg (rdO F (.bin op t x y) new ⟨env, sto⟩) [])) ∧
 (∀ F r new env sto lg d op x, Jj F (⟨.un op x, some d, none⟩ :: r) new ⟨env, sto⟩ lg = (evv x env).bind fun a => (unP op a).bind fun v => Jj F r new ⟨(d, v) :: env, sto⟩ (lgA lg (rdO F (.un op x) new ⟨env, sto⟩) [])) ∧
 (∀ F r new env sto lg d g off n x, Jj F (⟨.field g off n x, some d, none⟩ :: r) new ⟨env, sto⟩ lg = (evv x env).bind fun a => (J4s g off n a).bind fun v => Jj F r new ⟨(d, v) :: env, sto⟩ (lgA lg (rdO F (.field g off n x) new ⟨env, sto⟩) [])) ∧
 (∀ F r new env sto lg d off x, Jj F (⟨.faddr off x, some d, none⟩ :: r) new ⟨env, sto⟩ lg = (evv x env).bind fun a => (J9c off a).bind fun v => Jj F r new ⟨(d, v) :: env, sto⟩ (lgA lg (rdO F (.faddr off x) new ⟨env, sto⟩) [])) ∧
 (∀ F r new env sto lg d x i, Jj F (⟨.extr x i, some d, none⟩ :: r) new ⟨env, sto⟩ lg = (evv x env).bind fun a => (Je7 i a).bind fun v => Jj F r new ⟨(d, v) :: env, sto⟩ (lgA lg (rdO F (.extr x i) new ⟨env, sto⟩) [])) ∧
 (∀ F r new env sto lg d b x, Jj F (⟨.len b x, some d, none⟩ :: r) new ⟨env, sto⟩ lg = (evv x env).bind fun a => (Jdd b a).bind fun v => Jj F r new ⟨(d, v) :: env, sto⟩ (lgA lg (rdO F (.len b x) new ⟨env, sto⟩) [])) ∧
 (∀ F r new env sto lg d n, Jj F (⟨.alen n, some d, none⟩ :: r) new ⟨env, sto⟩ lg = Jj F r new ⟨(d, .p (.i .i64 n)) :: env, sto⟩ (lgA lg (rdO F (.alen n) new ⟨env, sto⟩) [])) ∧
 (∀ F r new env sto lg d b x y, Jj F (⟨.mm b x y, some d, none⟩ :: r) new ⟨env, sto⟩ lg = (evv x env).bind fun a => (evv y env).bind fun c => (mmP b a c).bind fun v => Jj F r new ⟨(d, v) :: env, sto⟩ (lgA lg (rdO F (.mm b x y) new ⟨env, sto⟩) [])) ∧
 (∀ F r new env sto lg d n e x i, Jj F (⟨.aaddr n e x i, some d, none⟩ :: r) new ⟨env, sto⟩ lg = (evv x env).bind fun a => (evv i env).bind fun c => (J9g n e a c).bind fun v => Jj F r new ⟨(d, v) :: env, sto⟩ (lgA lg (rdO F (.aaddr n e x i) new ⟨env, sto⟩) [])) ∧
 (∀ F r new env sto lg d e x i, Jj F (⟨.iaddr e x i, some d, none⟩ :: r) new ⟨env, sto⟩ lg = (evv x env).bind fun a => (evv i env).bind fun c => ((J2h e a c).run ⟨env, sto⟩).bind fun q => Jj F r new ⟨(d, q.val) :: env, upd q.ws sto⟩ (lgA lg (rdO F (.iaddr e x i) new ⟨env, sto⟩) (q.ws.map (·.1)))) ∧
 (∀ F r new env sto lg d x i, Jj F (⟨.sidx x i, some d, none⟩ :: r) new ⟨env, sto⟩ lg = (evv x env).bind fun a => (evv i env).bind fun c => (Jhu a c).bind fun v => Jj F r new ⟨(d, v) :: env, sto⟩ (lgA lg (rdO F (.sidx x i) new ⟨env, sto⟩) [])) ∧
 (∀ F r new env sto lg d g n e x i, Jj F (⟨.aidx g n e x i, some d, none⟩ :: r) new ⟨env, sto⟩ lg = (evv x env).bind fun a => (evv i env).bind fun c => (JfW g n e a c).bind fun v => Jj F r new ⟨(d, v) :: env, sto⟩ (lgA lg (rdO F (.aidx g n e x i) new ⟨env, sto⟩) [])) ∧
 (∀ F r new env sto lg d x, Jj F (⟨.nilchk x, some d, none⟩ :: r) new ⟨env, sto⟩ lg = (evv x env).bind fun a => (Jkz a).bind fun v => Jj F r new ⟨(d, v) :: env, sto⟩ (lgA lg (rdO F (.nilchk x) new ⟨env, sto⟩) [])) ∧
 (∀ F r new env sto lg d g n x, Jj F (⟨.load g n x, some d, none⟩ :: r) new ⟨env, sto⟩ lg = (evv x env).bind fun a => ((J1F g n a).run ⟨env, sto⟩).bind fun q => Jj F r new ⟨(d, q.val) :: env, upd q.ws sto⟩ (lgA lg (rdO F (.load g n x) new ⟨env, sto⟩) (q.ws.map (·.1)))) ∧
 (∀ F r new env sto lg n x y, Jj F (⟨.store n x y, none, none⟩ :: r) new ⟨env, sto⟩ lg = (evv x env).bind fun a => (evv y env).bind fun c => ((J1g n a c).run ⟨env, sto⟩).bind fun q => Jj F r new ⟨env, upd q.ws sto⟩ (lgA lg (rdO F (.store n x y) new ⟨env, sto⟩) (q.ws.map (·.1)))) ∧
 (∀ F r new env sto lg d c x, Jj F (⟨.conv c x, some d, none⟩ :: r) new ⟨env, sto⟩ lg = (evv x env).bind fun a => dds (JC (.conv c x)) new sto (((cvR c a new).run ⟨env, sto⟩).bind fun e => Jj F r (new + JC (.conv c x)) ⟨(d, e.val) :: env, upd e.ws sto⟩ (lgA lg (rdO F (.conv c x) new ⟨env, sto⟩) (e.ws.map (·.1))))) ∧
 (∀ F r new env sto lg d z ps, Jj F (⟨.build z ps, some d, none⟩ :: r) new ⟨env, sto⟩ lg = ((J23 ps).run ⟨env, sto⟩).bind fun l => (J0P l (z.map .p)).bind fun cs => (J1n true cs).bind fun v => Jj F r new ⟨(d, v) :: env, sto⟩ (lgA lg (rdO F (.build z ps) new ⟨env, sto⟩) [])) ∧
 (∀ F r new env sto lg d s x lo hi mx, Jj F (⟨.slice s x lo hi mx, some d, none⟩ :: r) new ⟨env, sto⟩ lg = (evv x env).bind fun a => (J7v lo env).bind fun lo1 => (J7v hi env).bind fun hi1 => (J7v mx env).bind fun mx1 => ((slR s a lo1 hi1 mx1).run ⟨env, sto⟩).bind fun q => Jj F r new ⟨(d, q.val) :: env, upd q.ws sto⟩ (lgA lg (rdO F (.slice s x lo hi mx) new ⟨env, sto⟩) (q.ws.map (·.1)))) ∧
 (∀ F r new env sto lg d e b z x y, Jj F (⟨.app e b z x y, some d, none⟩ :: r) new ⟨env, sto⟩ lg = (evv x env).bind fun a => (evv y env).bind fun c => ((J4w e b a c).run ⟨env, sto⟩).bind fun q => Jj F r new ⟨(d, q.val) :: env, upd q.ws sto⟩ (lgA lg (rdO F (.app e b z x y) new ⟨env, sto⟩) (q.ws.map (·.1)))) ∧
 (∀ F r new env sto lg d e b z x y, Jj F (⟨.appz e b z x y, some d, none⟩ :: r) new ⟨env, sto⟩ lg = (evv x env).bind fun a => (evv y env).bind fun c => (zrs e z c).bind fun c1 => ((J4w e b a c1).run ⟨env, sto⟩).bind fun q => Jj F r new ⟨(d, q.val) :: env, upd q.ws sto⟩ (lgA lg (rdO F (.appz e b z x y) new ⟨env, sto⟩) (q.ws.map (·.1)))) ∧
 (∀ F r new env sto lg d g a c, Jj F (⟨.mkfn g a c, some d, none⟩ :: r) new ⟨env, sto⟩ lg = ((evs a).run ⟨env, sto⟩).bind fun a1 => ((evs c).run ⟨env, sto⟩).bind fun c1 => Jj F r new ⟨(d, .fn g a1 c1) :: env, sto⟩ (lgA lg (rdO F (.mkfn g a c) new ⟨env, sto⟩) [])) ∧
 (∀ F r new env sto lg d g args n, Jj F (⟨.callv g args n, some d, none⟩ :: r) new ⟨env, sto⟩ lg = (evv g env).bind fun u => cvg u fun h a1 c1 => dds n new sto (((evs args).run ⟨env, sto⟩).bind fun a => ((Jx (a1 ++ a ++ c1)).run ⟨env, sto⟩).bind fun a => ((Jq F h a n new).run ⟨env, sto⟩).bind fun q => Jj F r (new + n) ⟨(d, q.val) :: env, upd q.ws sto⟩ (lgA lg (rdO F (.callv g args n) new ⟨env, sto⟩) (q.ws.map (·.1))))) ∧
 (∀ F r new env sto lg g args n, Jj F (⟨.callv g args n, none, none⟩ :: r) new ⟨env, sto⟩ lg = (evv g env).bind fun u => cvg u fun h a1 c1 => dds n new sto (((evs args).run ⟨env, sto⟩).bind fun a => ((Jx (a1 ++ a ++ c1)).run ⟨env, sto⟩).bind fun a => ((Jq F h a n new).run ⟨env, sto⟩).bind fun q => Jj F r (new + n) ⟨env, upd q.ws sto⟩ (lgA lg (rdO F (.callv g args n) new ⟨env, sto⟩) (q.ws.map (·.1))))) ∧
 (∀ {α : Type} (f : FuncId) (a c : List AV) (k : FuncId → List AV → List AV → Option α), cvg (.fn f a c) k = k f a c) ∧
 (∀ F r new env sto lg d e b z y, Jj F (⟨.appn e b z y, some d, none⟩ :: r) new ⟨env, sto⟩ lg = (evv y env).bind fun c => ((J00 e c).run ⟨env, sto⟩).bind fun rows => if J4S rows.length b = true then dds 1 new sto (Jj F r (new + 1) ⟨(d, .slr new 0 rows.length) :: env, sto.set new (.arr true e rows)⟩ (lgA lg (rdO F (.appn e b z y) new ⟨env, sto⟩) [new])) else none) ∧
 (∀ F r new env sto lg d e b z x y, Jj F (⟨.appc e b z x y, some d, none⟩ :: r) new ⟨env, sto⟩ lg = (evv x env).bind fun a => (evv y env).bind fun c => ((J00 e c).run ⟨env, sto⟩).bind fun add => (JkW e b a add).bind fun rows => dds 1 new sto (Jj F r (new + 1) ⟨(d, .slr new 0 rows.length) :: env, sto.set new (.arr true e rows)⟩ (lgA lg (rdO F (.appc e b z x y) new ⟨env, sto⟩) [new]))) ∧
 (∀ F r new env sto lg d z, Jj F (⟨.newbox z, some d, none⟩ :: r) new ⟨env, sto⟩ lg = dds 1 new sto (Jj F r (new + 1) ⟨(d, .ptr new 0) :: env, sto.set new (.box (z.map .p))⟩ (lgA lg (rdO F (.newbox z) new ⟨env, sto⟩) [new]))) ∧
 (∀ F r new env sto lg d e x, Jj F (⟨.mkarr e x, some d, none⟩ :: r) new ⟨env, sto⟩ lg = dds 1 new sto (Jj F r (new + 1) ⟨(d, .slr new 0 0) :: env, sto.set new (.arr true e [])⟩ (lgA lg (rdO F (.mkarr e x) new ⟨env, sto⟩) [new]))) ∧
 (∀ F r new env sto lg d n x, Jj F (⟨.box n x, some d, none⟩ :: r) new ⟨env, sto⟩ lg = (evv x env).bind fun a => (bxP n a).bind fun cs => dds 1 new sto (Jj F r (new + 1) ⟨(d, .ptr new 0) :: env, sto.set new (.box cs)⟩ (lgA lg (rdO F (.box n x) new ⟨env, sto⟩) [new]))) ∧
 (∀ F r new env sto lg d o e n z ps, Jj F (⟨.lits o e n z ps, some d, none⟩ :: r) new ⟨env, sto⟩ lg = dds (if o then 1 else 0) new sto (((ltR o e n z ps new).run ⟨env, sto⟩).bind fun x => Jj F r (new + if o then 1 else 0) ⟨(d, x.val) :: env, upd x.ws sto⟩ (lgA lg (rdO F (.lits o e n z ps) new ⟨env, sto⟩) (x.ws.map (·.1))))) ∧
 (∀ F r new env sto lg d o e b z l c, Jj F (⟨.mkslice o e b z l c, some d, none⟩ :: r) new ⟨env, sto⟩ lg = (evv l env).bind fun a => (evv c env).bind fun x => dds (if o then 1 else 0) new sto ((mkP o e b z a x new).bind fun x => Jj F r (new + if o then 1 else 0) ⟨(d, x.val) :: env, upd x.ws sto⟩ (lgA lg (rdO F (.mkslice o e b z l c) new ⟨env, sto⟩) (x.ws.map (·.1))))) ∧
 (∀ F r new env sto lg d g args n, Jj F (⟨.call g args n, some d, none⟩ :: r) new ⟨env, sto⟩ lg = dds n new sto (((evs args).run ⟨env, sto⟩).bind fun a => ((Jx a).run ⟨env, sto⟩).bind fun a => ((Jq F g a n new).run ⟨env, sto⟩).bind fun e => Jj F r (new + n) ⟨(d, e.val) :: env, upd e.ws sto⟩ (lgA lg (rdO F (.call g args n) new ⟨env, sto⟩) (e.ws.map (·.1))))) ∧
 (∀ F r new env sto lg g args n, Jj F (⟨.call g args n, none, none⟩ :: r) new ⟨env, sto⟩ lg = dds n new sto (((evs args).run ⟨env, sto⟩).bind fun a => ((Jx a).run ⟨env, sto⟩).bind fun a => ((Jq F g a n new).run ⟨env, sto⟩).bind fun e => Jj F r (new + n) ⟨env, upd e.ws sto⟩ (lgA lg (rdO F (.call g args n) new ⟨env, sto⟩) (e.ws.map (·.1))))) ∧
 (∀ F r new env sto lg d z os, Jj F (⟨.newboxo z os, some d, none⟩ :: r) new ⟨env, sto⟩ lg = dds (os.length + 1) new sto (Jj F r (new + (os.length + 1)) ⟨(d, .ptr (new + os.length) 0) :: env, upd (J2q os new ++ [(new + os.length, .box (J66 os new (z.map .p)))]) sto⟩ (lgA lg (rdO F (.newboxo z os) new ⟨env, sto⟩) ((J2q os new ++ [(new + os.length, Blk.box (J66 os new (z.map .p)))]).map (·.1))))) ∧
 (∀ F r new env sto lg e x, Jj F (⟨.storen e x, none, none⟩ :: r) new ⟨env, sto⟩ lg = (evv x env).bind fun a => dds 1 new sto (((J1g 1 a (.slr new 0 0)).run ⟨env, sto⟩).bind fun q => Jj F r (new + 1) ⟨env, upd ((new, .arr true e []) :: q.ws) sto⟩ (lgA lg (rdO F (.storen e x) new ⟨env, sto⟩) (new :: q.ws.map (·.1))))) ∧
 (∀ F r new env sto lg d z ps os, Jj F (⟨.buildo z ps os, some d, none⟩ :: r) new ⟨env, sto⟩ lg = ((J23 ps).run ⟨env, sto⟩).bind fun l => (J0P l (J66 os new (z.map .p))).bind fun cs => (J1n true cs).bind fun v => dds os.length new sto (Jj F r (new + os.length) ⟨(d, v) :: env, upd (J2q os new) sto⟩ (lgA lg (rdO F (.buildo z ps os) new ⟨env, sto⟩) ((J2q os new).map (·.1))))) ∧
 (∀ F r new env sto lg d g kp args n, Jj F (⟨.callo g kp args n, some d, none⟩ :: r) new ⟨env, sto⟩ lg = dds n new sto (((evs args).run ⟨env, sto⟩).bind fun a => ((J1T kp a).run ⟨env, sto⟩).bind fun a => ((J2E F g a n new).run ⟨env, sto⟩).bind fun e => Jj F r (new + n) ⟨(d, e.val) :: env, upd e.ws sto⟩ (lgA lg (rdO F (.callo g kp args n) new ⟨env, sto⟩) (e.ws.map (·.1))))) ∧
 (∀ F r new env sto lg g kp args n, Jj F (⟨.callo g kp args n, none, none⟩ :: r) new ⟨env, sto⟩ lg = dds n new sto (((evs args).run ⟨env, sto⟩).bind fun a => ((J1T kp a).run ⟨env, sto⟩).bind fun a => ((J2E F g a n new).run ⟨env, sto⟩).bind fun e => Jj F r (new + n) ⟨env, upd e.ws sto⟩ (lgA lg (rdO F (.callo g kp args n) new ⟨env, sto⟩) (e.ws.map (·.1))))) ∧
 (∀ {α : Type} (n new : Nat) (sto : List Blk) (o : Option α), dds (n + 1) new sto o = dd1 sto[new]? (dds n (new + 1) sto o)) ∧
 (∀ F r new env sto lg op d g w, Jj F (⟨op, d, some (g, w)⟩ :: r) new ⟨env, sto⟩ lg = grd (lk g env) w (hold (Jj F (⟨op, d, none⟩ :: r) new ⟨env, sto⟩ lg) (.mk _)) (hold (Jj F r (new + JC op) (put d ⟨J0I, []⟩ ⟨env, sto⟩) (lgA lg [] [])) (.mk _))) ∧
 (∀ {α : Type} (a b : Option α) (h : Dum a), grd (some (.p (.b true))) true (hold a h) b = a) ∧
 (∀ {α : Type} (a b : Option α) (h : Dum b), grd (some (.p (.b true))) false a (hold b h) = b) ∧
 (∀ {α : Type} (a b : Option α) (h : Dum b), grd (some (.p (.b false))) true a (hold b h) = b) ∧
 (∀ {α : Type} (a b : Option α) (h : Dum a), grd (some (.p (.b false))) false (hold a h) b = a) ∧
 (∀ {α : Type} (w : Bool) (a b : Option α) (h : Dum b), grd (some (.tup [])) w a (hold b h) = b) ∧
 (∀ {β : Type} (a b : Option AV) (K : AV → Option β) (h : Dum K), pkh (.p (.b true)) a b (hold K h) = a.bind K) ∧
 (∀ {β : Type} (a b : Option AV) (K : AV → Option β) (h : Dum K), pkh (.p (.b false)) a b (hold K h) = b.bind K) ∧
 (∀ {α β : Type} (a : α) (f : α → Option β), Option.bind (some a) f = f a) ∧
 (∀ {α : Type} (new : Nat) (sto : List Blk) (o : Option α), dds 0 new sto o = o) ∧
 (∀ {α : Type} (new : Nat) (sto : List Blk) (o : Option α), dds 1 new sto o = dd1 sto[new]? o) ∧
 (∀ {α : Type} (o : Option α), dd1 (some .dead) o = o) :=
 ⟨by intro T f m k s; exact Jqy T f m k s,
 by intro T f m k a b s; exact Jsj T f m k a b s,
 by intro T f m k d ins env sto; exact Jr8 T f m k d ins env sto,
 by intro T f m k d q ps ins env sto; exact Jr3 T f m k d q ps ins env sto,
 by intro T f m k i c s; exact JpO T f m k i c s,
 by intro T f m k c s; exact Jpn T f m k c s,
 by intro T f m k i s; exact Jr6 T f m k i s,
 by intro T f m k s; exact Js0 T f m k s,
 by intro T f m k live c env sto; exact JqR T f m k live c env sto,
 by intro T f m k live c env sto; exact JqJ T f m k live c env sto,
 by intro T f m k live c env sto; exact Jrm T f m k live c env sto,
 by intro T f m k x a b env sto; exact JqB T f m k x a b env sto,
 by intros; rfl,
 by intros; rfl,
 by intros; rfl,
 by intros; rfl,
 by intros; rfl,
 by intros; rfl,
 by intro T f m k i j s; exact JrD T f m k i j s,
 by intros; rfl,
 by intro T f m k n live e s; exact (Jtg T f m k n live e s).trans (by cases J4z n live s <;> rfl),
 by intros; rfl,
 by intros; rfl,
 by intros; rfl,
 by intros; rfl,
 by intros; rfl,
 by intro T f m s; exact Jrt T f m s,
 by intro T f m s; exact Jp3 T f m s,
 by intros; rfl,
 by intros; rfl,
 by intros; rfl,
 by intros; rfl,
 by intros; rfl,
 by intros; rfl,
 by intros; rfl,
 by intros; rfl,
 by intros; rfl,
 by intro F r new env sto lg d x; rw [st0 (h := rfl)]; simp only [opR, run_bind, J0p]; exact Js3,
 by intro F r new env sto lg d c a b; rw [st0 (h := rfl)]; simp only [opR, run_bind, J0p]; exact Jqe,
 by intro F r new env sto lg d op t x y; rw [st0 (h := rfl)]; simp only [opR, run_bind, J0p]; exact Jhm (g := fun a c => J0o op t a c),
 by intro F r new env sto lg d op x; rw [st0 (h := rfl)]; simp only [opR, run_bind, J0p]; exact JbE (g := fun a => unP op a),
 by intro F r new env sto lg d g off n x; rw [st0 (h := rfl)]; simp only [opR, run_bind, J0p]; exact JbE (g := fun a => J4s g off n a),
 by intro F r new env sto lg d off x; rw [st0 (h := rfl)]; simp only [opR, run_bind, J0p]; exact JbE (g := fun a => J9c off a),
 by intro F r new env sto lg d x i; rw [st0 (h := rfl)]; simp only [opR, run_bind, J0p]; exact JbE (g := fun a => Je7 i a),
 by intro F r new env sto lg d b x; rw [st0 (h := rfl)]; simp only [opR, run_bind, J0p]; exact JbE (g := fun a => Jdd b a),
 by intro F r new env sto lg d n; rw [st0 (h := rfl)]; rfl,
 by intro F r new env sto lg d b x y; rw [st0 (h := rfl)]; simp only [opR, run_bind, J0p]; exact Jhm (g := fun a c => mmP b a c),
 by intro F r new env sto lg d n e x i; rw [st0 (h := rfl)]; simp only [opR, run_bind, J0p]; exact Jhm (g := fun a c => J9g n e a c),
 by intro F r new env sto lg d e x i; rw [st0 (h := rfl)]; simp only [opR, run_bind, J0p]; exact Jfq (g := fun a c => (J2h e a c).run ⟨env, sto⟩),
 by intro F r new env sto lg d x i; rw [st0 (h := rfl)]; simp only [opR, run_bind, J0p]; exact JqA,
 by intro F r new env sto lg d g n e x i; rw [st0 (h := rfl)]; simp only [opR, run_bind, J0p]; exact JqT,
 by intro F r new env sto lg d x; rw [st0 (h := rfl)]; simp only [opR, run_bind, J0p]; exact Jrx,
 by intro F r new env sto lg d g n x; rw [st0 (h := rfl)]; simp only [opR, run_bind, J0p]; exact JkX (g := fun a => (J1F g n a).run ⟨env, sto⟩),
 by intro F r new env sto lg n x y; rw [JtV (h := rfl)]; simp only [opR, run_bind, J0p]; exact Jfq (g := fun a c => (J1g n a c).run ⟨env, sto⟩),
 by intro F r new env sto lg d c x; exact Jpz,
 by intro F r new env sto lg d z ps; exact Jop,
 by intro F r new env sto lg d s x lo hi mx; exact JnP,
 by intro F r new env sto lg d e b z x y; rw [st0 (h := rfl)]; simp only [opR, run_bind, J0p]; exact Jfq (g := fun a c => (J4w e b a c).run ⟨env, sto⟩),
 by intro F r new env sto lg d e b z x y; rw [st0 (h := rfl)]; simp only [opR, run_bind, J0p]; exact Jog,
 by intro F r new env sto lg d g a c; exact Jpt,
 by intro F r new env sto lg d g args n; exact Jos,
 by intro F r new env sto lg g args n; exact Jnl,
 by intros; rfl,
 by intro F r new env sto lg d e b z y; exact Jpj,
 by intro F r new env sto lg d e b z x y; exact JoJ,
 by intro F r new env sto lg d z; exact JmF,
 by intro F r new env sto lg d e x; exact Jnw,
 by intro F r new env sto lg d n x; exact JqW,
 by intro F r new env sto lg d o e n z ps; exact Jp7,
 by intro F r new env sto lg d o e b z l c; exact JlB,
 by intro F r new env sto lg d g args n; exact Jpr,
 by intro F r new env sto lg g args n; exact Jok,
 by intro F r new env sto lg d z os; exact JlA,
 by intro F r new env sto lg e x; exact Jn7,
 by intro F r new env sto lg d z ps os; exact JmR,
 by intro F r new env sto lg d g kp args n; exact Jo4,
 by intro F r new env sto lg g kp args n; exact Jn6,
 by intro α n new sto o; exact JtT ..,
 by intro F r new env sto lg op d g w; exact JrV ..,
 by intros; rfl,
 by intros; rfl,
 by intros; rfl,
 by intros; rfl,
 by intros; rfl,
 by intros; rfl,
 by intros; rfl,
 by intros; rfl,
 by intros; rfl,
 by intro α new sto o; exact JtY ..,
 by intros; rfl⟩
set_option maxRecDepth 30000 in
theorem Ua : (∀ n m v r, lk n ((m, v) :: r) = if n = m then some v else lk n r) ∧
 (∀ n env, evv (.t n) env = lk n env) ∧
 (∀ v env, evv (.c v) env = some v) ∧
 (∀ a b, pk (.p (.b true)) a b = a) ∧
 (∀ a b, pk (.p (.b false)) a b = b) ∧
 (∀ env, restr [] env = []) ∧
 (∀ k l env, restr (k :: l) env = Jn9 k (lk k env) (restr l env)) ∧
 (∀ k v l, Jn9 k (some v) l = (k, v) :: l) ∧
 (∀ k l, Jn9 k none l = l) ∧
 (∀ n, lk n [] = none) ∧
 (news [] = 0) ∧
 (∀ i r, news (i :: r) = JC i.op + news r) ∧
 (∀ x, JC (.mv x) = 0) ∧
 (∀ e x, JC (.mkarr e x) = 1) ∧
 (∀ a b c, JC (.pick a b c) = 0) ∧
 (∀ z, JC (.newbox z) = 1) ∧
 (∀ n x, JC (.box n x) = 1) ∧
 (∀ z ps, JC (.build z ps) = 0) ∧
 (∀ o e n z ps, JC (.lits o e n z ps) = if o then 1 else 0) ∧
 (∀ g n x, JC (.load g n x) = 0) ∧
 (∀ n x y, JC (.store n x y) = 0) ∧
 (∀ x, JC (.nilchk x) = 0) ∧
 (∀ op t x y, JC (.bin op t x y) = 0) ∧
 (∀ op x, JC (.un op x) = 0) ∧
 (∀ c x, JC (.conv (.int c) x) = 0) ∧
 (∀ x, JC (.conv .same x) = 0) ∧
 (∀ x, JC (.conv .toStr x) = 0) ∧
 (∀ o x, JC (.conv (.toBytes o) x) = if o then 1 else 0) ∧
 (∀ o e b z l c, JC (.mkslice o e b z l c) = if o then 1 else 0) ∧
 (∀ s x lo hi mx, JC (.slice s x lo hi mx) = 0) ∧
 (∀ off x, JC (.faddr off x) = 0) ∧
 (∀ g off n x, JC (.field g off n x) = 0) ∧
 (∀ e x i, JC (.iaddr e x i) = 0) ∧
 (∀ n e x i, JC (.aaddr n e x i) = 0) ∧
 (∀ x i, JC (.sidx x i) = 0) ∧
 (∀ g n e x i, JC (.aidx g n e x i) = 0) ∧
 (∀ x i, JC (.extr x i) = 0) ∧
 (∀ g args n, JC (.call g args n) = n) ∧
 (∀ g args n, JC (.callv g args n) = n) ∧
 (∀ b x, JC (.len b x) = 0) ∧
 (∀ n, JC (.alen n) = 0) ∧
 (∀ e b z x y, JC (.app e b z x y) = 0) ∧
 (∀ e b z x y, JC (.appz e b z x y) = 0) ∧
 (∀ e b z y, JC (.appn e b z y) = 1) ∧
 (∀ e b z x y, JC (.appc e b z x y) = 1) ∧
 (∀ b x y, JC (.mm b x y) = 0) ∧
 (∀ g a c, JC (.mkfn g a c) = 0) ∧
 (∀ z os, JC (.newboxo z os) = os.length + 1) ∧
 (∀ z ps os, JC (.buildo z ps os) = os.length) ∧
 (∀ e x, JC (.storen e x) = 1) ∧
 (∀ g kp args n, JC (.callo g kp args n) = n) ∧
 (∀ sto, room 0 sto = sto) ∧
 (∀ n sto, room (n + 1) sto = sto ++ .dead :: List.replicate n .dead) ∧
 (∀ sto, upd [] sto = sto) ∧
 (∀ b x ws sto, upd ((b, x) :: ws) sto = upd ws (sto.set b x)) ∧
 (∀ d v ws env sto, put (some d) ⟨v, ws⟩ ⟨env, sto⟩ = ⟨(d, v) :: env, upd ws sto⟩) ∧
 (∀ v ws env sto, put none ⟨v, ws⟩ ⟨env, sto⟩ = ⟨env, upd ws sto⟩) ∧
 (J0I = .tup []) ∧
 (∀ {α β : Type} (a : α) (f : α → β), Option.map f (some a) = some (f a)) ∧
 (∀ k x y, J0o .add .plain (.p (.i k x)) (.p (.i k y)) = some (.p (.i k (k.wrap (x + y))))) ∧
 (∀ k x y, J0o .sub .plain (.p (.i k x)) (.p (.i k y)) = some (.p (.i k (k.wrap (x - y))))) ∧
 (∀ k x y, J0o .mul .plain (.p (.i k x)) (.p (.i k y)) = some (.p (.i k (k.wrap (x * y))))) ∧
 (∀ k x y, J0o .and .plain (.p (.i k x)) (.p (.i k y)) = some (.p (.i k (J3P k x y)))) ∧
 (∀ k x y, J0o .or .plain (.p (.i k x)) (.p (.i k y)) = some (.p (.i k (orI k x y)))) ∧
 (∀ k x y, J0o .xor .plain (.p (.i k x)) (.p (.i k y)) = some (.p (.i k (J4U k x y)))) ∧
 (∀ k x y, J0o .eql .plain (.p (.i k x)) (.p (.i k y)) = some (.p (.b (x == y)))) ∧
 (∀ k x y, J0o .neq .plain (.p (.i k x)) (.p (.i k y)) = some (.p (.b (x != y)))) ∧
 (∀ k x y, J0o .lss .plain (.p (.i k x)) (.p (.i k y)) = some (.p (.b (decide (x < y))))) ∧
 (∀ k x y, J0o .leq .plain (.p (.i k x)) (.p (.i k y)) = some (.p (.b (decide (x ≤ y))))) ∧
 (∀ k x y, J0o .gtr .plain (.p (.i k x)) (.p (.i k y)) = some (.p (.b (decide (x > y))))) ∧
 (∀ k x y, J0o .geq .plain (.p (.i k x)) (.p (.i k y)) = some (.p (.b (decide (x ≥ y))))) ∧
 (∀ k x y, J0o .quo .plain (.p (.i k x)) (.p (.i k y)) = (JsQ k x y).map fun z => .p (.i k z)) ∧
 (∀ k x y, J0o .rem .plain (.p (.i k x)) (.p (.i k y)) = (Jfh x y).map fun z => .p (.i k z)) ∧
 (∀ k k2 x y, J0o .shl .plain (.p (.i k x)) (.p (.i k2 y)) = (Jbb k x y).map fun z => .p (.i k z)) ∧
 (∀ k k2 x y, J0o .shr .plain (.p (.i k x)) (.p (.i k2 y)) = (J6P k x y).map fun z => .p (.i k z)) ∧
 (∀ x y, J0o .add .plain (.p (.s x)) (.p (.s y)) = (J3e x y).map fun z => .p (.s z)) ∧
 (∀ x y, J0o .eql .plain (.p (.s x)) (.p (.s y)) = some (.p (.b (x == y)))) ∧
 (∀ x y, J0o .neq .plain (.p (.s x)) (.p (.s y)) = some (.p (.b (!(x == y))))) ∧
 (∀ x y, J0o .lss .plain (.p (.s x)) (.p (.s y)) = some (.p (.b (Op.bytesLess x y)))) ∧
 (∀ x y, J0o .leq .plain (.p (.s x)) (.p (.s y)) = some (.p (.b (Op.bytesLess x y || x == y)))) ∧
 (∀ x y, J0o .gtr .plain (.p (.s x)) (.p (.s y)) = some (.p (.b (!(Op.bytesLess x y || x == y))))) ∧
 (∀ x y, J0o .geq .plain (.p (.s x)) (.p (.s y)) = some (.p (.b (!Op.bytesLess x y)))) ∧
 (∀ x y, J0o .eql .bool (.p (.b x)) (.p (.b y)) = some (.p (.b (x == y)))) ∧
 (∀ x y, J0o .neq .bool (.p (.b x)) (.p (.b y)) = some (.p (.b (!(x == y))))) ∧
 (∀ ks a c, J0o .eql (.flat ks) (.data a) (.data c) = (J3R ks a c).map fun x => .p (.b x)) ∧
 (∀ ks a c, J0o .neq (.flat ks) (.data a) (.data c) = (J3R ks a c).map fun x => .p (.b (!x))) ∧
 (∀ b o y, J0o .eql .nilp (.ptr b o) y = some (.p (.b false))) ∧
 (∀ b o y, J0o .neq .nilp (.ptr b o) y = some (.p (.b true))) ∧
 (∀ k n, unP .neg (.p (.i k n)) = some (.p (.i k (k.wrap (0 - n))))) ∧
 (∀ k n, unP .xor (.p (.i k n)) = some (.p (.i k (JhI k n)))) ∧
 (∀ x, unP .not (.p (.b x)) = some (.p (.b (!x)))) ∧
 ((!true) = false) ∧
 ((!false) = true) ∧
 (∀ k x y, mmP true (.p (.i k x)) (.p (.i k y)) = some (.p (.i k (JtW x y)))) ∧
 (∀ k x y, mmP false (.p (.i k x)) (.p (.i k y)) = some (.p (.i k (Jfc x y)))) ∧
 (∀ off b o, J9c off (.ptr b o) = some (.ptr b (o + off))) ∧
 (∀ off o cs, J9c off (.cp cs o) = some (.cp cs (o + off))) ∧
 (∀ off b e i o, J9c off (.ep b e i o) = some (.ep b e i (o + off))) ∧
 (∀ g off n cs, J4s g off n (.data cs) = (sub cs off n).bind (J1B g)) ∧
 (∀ g off n c cs, J4s g off n (.agg (c :: cs)) = (sub (c :: cs) off n).bind (J1n g)) ∧
 (∀ cs, J1B true cs = some (.data cs)) ∧
 (∀ c, J1B false [c] = some (.p c)) ∧
 (∀ cs, J1n true (cs.map AV.p) = some (.data cs)) ∧
 (∀ c cs, J1n true (c :: cs) = some (JkI (c :: cs) (unp (c :: cs)))) ∧
 (∀ c, J1n false [c] = some c) ∧
 (∀ cs l, JkI cs (some l) = .data l) ∧
 (∀ c, Option.map (fun l => c :: l) (none : Option (List PV)) = none) ∧
 (∀ cs, JkI cs none = .agg cs) ∧
 (unp [] = some []) ∧
 (∀ c r, unp (.p c :: r) = (unp r).map fun l => c :: l) ∧
 (∀ b i n r, unp (.slr b i n :: r) = none) ∧
 (∀ b i r, unp (.ptr b i :: r) = none) ∧
 (∀ b e i o r, unp (.ep b e i o :: r) = none) ∧
 (∀ f a c r, unp (.fn f a c :: r) = none) ∧
 (∀ i vs, Je7 i (.tup vs) = vs[i]?) ∧
 (∀ l, Jdd true (.p (.s l)) = some (.p (.i .i64 l.length))) ∧
 (∀ e rows, Jdd false (.p (.sl e rows)) = some (.p (.i .i64 rows.length))) ∧
 (∀ b i n, Jdd false (.slr b i n) = some (.p (.i .i64 n))) ∧
 (∀ {α β : Type} (g : α → β) (l : List α), (l.map g).length = l.length) ∧
 (∀ b o, Jkz (.ptr b o) = some (.ptr b o)) ∧
 (∀ cs o, Jkz (.cp cs o) = some (.cp cs o)) ∧
 (∀ b e i o, Jkz (.ep b e i o) = some (.ep b e i o)) ∧
 (∀ env sto g n cs off, (J1F g n (.cp cs off)).run ⟨env, sto⟩ = (sub cs off n).bind fun l => (J1B g l).map fun v => ⟨v, []⟩) ∧
 (∀ env sto g n b off, (J1F g n (.ptr b off)).run ⟨env, sto⟩ = sto[b]?.bind fun B => ldB g n off B) ∧
 (∀ env sto g n b e i off, (J1F g n (.ep b e i off)).run ⟨env, sto⟩ = sto[b]?.bind fun B => ldE g n e i off B) ∧
 (∀ g n off cs, ldB g n off (.box (cs.map AV.p)) = (sub cs off n).bind fun l => (J1B g l).map fun v => ⟨v, []⟩) ∧
 (∀ g n off c cs, ldB g n off (.box (c :: cs)) = (sub (c :: cs) off n).bind fun l => (J1n g l).map fun v => ⟨v, []⟩) ∧
 (∀ g n e i off z w rows, ldE g n e i off (.arr w z rows) = if e = rows.length then rows[i]?.bind fun row => (sub row off n).bind fun l => (J1B g l).map fun v => ⟨v, []⟩ else none) ∧
 (∀ env sto n b off v, (J1g n (.ptr b off) v).run ⟨env, sto⟩ = sto[b]?.bind fun B => (cellsOf v).bind fun l => stB n b off l B) ∧
 (∀ n b off cs vs, stB n b off (vs.map AV.p) (.box (cs.map AV.p)) = if vs.length = n then (spl cs off vs).map fun cs => ⟨J0I, [(b, .box (cs.map AV.p))]⟩ else none) ∧
 (∀ b off cs v, stB 1 b off [AV.p v] (.box (cs.map AV.p)) = (spl cs off [v]).map fun cs => ⟨J0I, [(b, .box (cs.map AV.p))]⟩) ∧
 (∀ env sto n b e i off v, (J1g n (.ep b e i off) v).run ⟨env, sto⟩ = sto[b]?.bind fun B => stE n b e i off v B ⟨env, sto⟩) ∧
 (∀ n b e i off z c rows s, stE n b e i off (.p c) (.arr true z rows) s = if e = rows.length then rows[i]?.bind fun row => if 1 = n then (spl row off [c]).map fun row => ⟨J0I, [(b, .arr true z (rows.set i row))]⟩ else none else none) ∧
 (∀ n b e i off z cs rows s, stE n b e i off (.data cs) (.arr true z rows) s = if e = rows.length then rows[i]?.bind fun row => if cs.length = n then (spl row off cs).map fun row => ⟨J0I, [(b, .arr true z (rows.set i row))]⟩ else none else none) ∧
 (∀ c, cellsOf (.p c) = some [.p c]) ∧
 (∀ cs, cellsOf (.data cs) = some (cs.map AV.p)) ∧
 (∀ cs, cellsOf (.agg cs) = some cs) ∧
 (∀ f a c, cellsOf (.fn f a c) = some [.fn f a c]) ∧
 (∀ b i n, cellsOf (.slr b i n) = some [.slr b i n]) ∧
 (∀ b o, cellsOf (.ptr b o) = some [.ptr b o]) ∧
 (∀ c, bxP 1 (.p c) = some [.p c]) ∧
 (∀ n cs, bxP n (.data cs) = if cs.length = n then some (cs.map AV.p) else none) ∧
 (∀ n cs, bxP n (.agg cs) = if cs.length = n then some cs else none) ∧
 (∀ b i n, bxP 1 (.slr b i n) = some [.slr b i n]) ∧
 (∀ env sto e rows k n, (J2h e (.p (.sl e rows)) (.p (.i k n))).run ⟨env, sto⟩ = (J9Q rows n).map fun row => ⟨.cp row 0, []⟩) ∧
 (∀ env sto e b m k n, (J2h e (.slr b 0 m) (.p (.i k n))).run ⟨env, sto⟩ = sto[b]?.bind fun B => iaB e b m n B) ∧
 (∀ e b m n w rows, iaB e b m n (.arr w e rows) = if m = rows.length ∧ 0 ≤ n ∧ n < m then some ⟨.ep b rows.length n.toNat 0, []⟩ else none) ∧
 (∀ n e b off k i, J9g n e (.ptr b off) (.p (.i k i)) = if 0 ≤ i ∧ i < n then some (.ptr b (off + i.toNat * e)) else none) ∧
 (∀ n e off cs k i, J9g n e (.cp cs off) (.p (.i k i)) = if 0 ≤ i ∧ i < n then some (.cp cs (off + i.toNat * e)) else none) ∧
 (∀ n e b x j off k i, J9g n e (.ep b x j off) (.p (.i k i)) = if 0 ≤ i ∧ i < n then some (.ep b x j (off + i.toNat * e)) else none) ∧
 (∀ l k n, Jhu (.p (.s l)) (.p (.i k n)) = (Jb0 l n).map fun v => .p (.i .u8 v)) ∧
 (∀ g n e cs k i, JfW g n e (.agg cs) (.p (.i k i)) = if 0 ≤ i ∧ i < n then J4s g (i.toNat * e) e (.agg cs) else none) ∧
 (∀ g n e cs k i, JfW g n e (.data cs) (.p (.i k i)) = if 0 ≤ i ∧ i < n then (sub cs (i.toNat * e) e).bind (J1B g) else none) ∧
 (∀ env sto c k n new, (cvR (.int c) (.p (.i k n)) new).run ⟨env, sto⟩ = some ⟨.p (.i c (c.wrap n)), []⟩) ∧
 (∀ env sto l new, (cvR .same (.p (.s l)) new).run ⟨env, sto⟩ = some ⟨.p (.s l), []⟩) ∧
 (∀ env sto l new, (cvR .toStr (.p (.sl 1 (l.map (r_i .u8)))) new).run ⟨env, sto⟩ = some ⟨.p (.s (toStr l)), []⟩) ∧
 (∀ env sto b n new, (cvR .toStr (.slr b 0 n) new).run ⟨env, sto⟩ = sto[b]?.bind fun B => cvB n B) ∧
 (∀ n w l, cvB n (.arr w 1 (l.map (r_i .u8))) = if n = l.length then some ⟨.p (.s (toStr l)), []⟩ else none) ∧
 (∀ env sto l new, (cvR (.toBytes false) (.p (.s l)) new).run ⟨env, sto⟩ = some ⟨.p (.sl 1 ((J7S l).map (r_i .u8))), []⟩) ∧
 (∀ env sto l new, (cvR (.toBytes true) (.p (.s l)) new).run ⟨env, sto⟩ = some ⟨.slr new 0 (J7S l).length, [(new, .arr true 1 ((J7S l).map (r_i .u8)))]⟩) ∧
 (∀ env sto, (J23 []).run ⟨env, sto⟩ = some []) ∧
 (∀ env sto off size x r, (J23 ((off, size, x) :: r)).run ⟨env, sto⟩ = (evv x env).bind fun v => (cellsOf v).bind fun cs => ((J23 r).run ⟨env, sto⟩).bind fun l => some ((off, size, cs) :: l)) ∧
 (∀ cs, J0P [] cs = some cs) ∧
 (∀ off size vs cs r, J0P ((off, size, vs.map AV.p) :: r) (cs.map AV.p) = if vs.length = size then (spl cs off vs).bind fun cs => J0P r (cs.map AV.p) else none) ∧
 (∀ off v cs r, J0P ((off, 1, [AV.p v]) :: r) (cs.map AV.p) = (spl cs off [v]).bind fun cs => J0P r (cs.map AV.p)) ∧
 (∀ env sto, (evs []).run ⟨env, sto⟩ = some []) ∧
 (∀ env sto x r, (evs (x :: r)).run ⟨env, sto⟩ = (evv x env).bind fun v => ((evs r).run ⟨env, sto⟩).bind fun vs => some (v :: vs)) ∧
 (∀ n, J2q [] n = []) ∧
 (∀ o e r n, J2q ((o, e) :: r) n = (n, .arr true e []) :: J2q r (n + 1)) ∧
 (∀ n cs, J66 [] n cs = cs) ∧
 (∀ o e r n cs, J66 ((o, e) :: r) n cs = J66 r (n + 1) (cs.set o (.slr n 0 0))) ∧
 (∀ env sto m, (J1T m []).run ⟨env, sto⟩ = some ([], [])) ∧
 (∀ env sto l, (J1T [] l).run ⟨env, sto⟩ = (Jx l).run ⟨env, sto⟩) ∧
 (∀ env sto x m r, (J1T (true :: m) (x :: r)).run ⟨env, sto⟩ = ((J1T m r).run ⟨env, sto⟩).bind fun c => some (x :: c.1, c.2)) ∧
 (∀ env sto x m r, (J1T (false :: m) (x :: r)).run ⟨env, sto⟩ = ((Jx [x]).run ⟨env, sto⟩).bind fun a => ((J1T m r).run ⟨env, sto⟩).bind fun c => some (a.1 ++ c.1, a.2 ++ c.2)) ∧
 (∀ env sto, (Jx []).run ⟨env, sto⟩ = some ([], [])) ∧
 (∀ env sto c r, (Jx (.p c :: r)).run ⟨env, sto⟩ = ((Jx r).run ⟨env, sto⟩).bind fun a => some (.p c :: a.1, a.2)) ∧
 (∀ env sto c r, (Jx (.data c :: r)).run ⟨env, sto⟩ = ((Jx r).run ⟨env, sto⟩).bind fun a => some (.data c :: a.1, a.2)) ∧
 (∀ env sto b o r, (Jx (.ptr b o :: r)).run ⟨env, sto⟩ = ((Jx r).run ⟨env, sto⟩).bind fun a => some (.ptr b o :: a.1, a.2)) ∧
 (∀ env sto c o r, (Jx (.cp c o :: r)).run ⟨env, sto⟩ = ((Jx r).run ⟨env, sto⟩).bind fun a => some (.cp c o :: a.1, a.2)) ∧
 (∀ env sto b x i o r, (Jx (.ep b x i o :: r)).run ⟨env, sto⟩ = ((Jx r).run ⟨env, sto⟩).bind fun a => some (.ep b x i o :: a.1, a.2)) ∧
 (∀ env sto b n r, (Jx (.slr b 0 n :: r)).run ⟨env, sto⟩ = sto[b]?.bind fun B => (frz b n B).bind fun x => ((Jx r).run ⟨env, sto⟩).bind fun a => some (x.1 :: a.1, x.2 :: a.2)) ∧
 (∀ env sto cs r, (Jx (.agg cs :: r)).run ⟨env, sto⟩ = ((fz.fzL cs).run ⟨env, sto⟩).bind fun x => ((Jx r).run ⟨env, sto⟩).bind fun a => some (.data x.1 :: a.1, x.2 ++ a.2)) ∧
 (∀ b n z w rows, frz b n (.arr w z rows) = if n = rows.length then some (.p (.sl z rows), (b, .arr false z rows)) else none) ∧
 (∀ env sto, (fz.fzL []).run ⟨env, sto⟩ = some ([], [])) ∧
 (∀ env sto c r, (fz.fzL (.p c :: r)).run ⟨env, sto⟩ = ((fz.fzL r).run ⟨env, sto⟩).bind fun a => some (c :: a.1, a.2)) ∧
 (∀ env sto b n r, (fz.fzL (.slr b 0 n :: r)).run ⟨env, sto⟩ = sto[b]?.bind fun B => (frp b n B).bind fun x => ((fz.fzL r).run ⟨env, sto⟩).bind fun a => some (x.1 :: a.1, x.2 :: a.2)) ∧
 (∀ b n z w rows, frp b n (.arr w z rows) = if n = rows.length then some (.sl z rows, (b, .arr false z rows)) else none) ∧
 (∀ env sto f a c r, (Jx (.fn f a c :: r)).run ⟨env, sto⟩ = ((Jx r).run ⟨env, sto⟩).bind fun x => some (.fn f a c :: x.1, x.2)) ∧
 (∀ m ids sto f a c, fin m ids sto (.fn f a c) = (fin.finL m ids sto a).bind fun a1 => (fin.finL m ids sto c).bind fun c1 => some (.fn f a1 c1)) ∧
 (∀ f a c l, JV (.fn f a c) l = JV.entsOfL c (JV.entsOfL a l)) ∧
 (∀ ws s, J1o ws s [] [] = True) ∧
 (∀ ws s b bs cs css, J1o ws s (b :: bs) (cs :: css) = ((J6d ws b).run s = some (.box cs) ∧ J1o ws s bs css)) ∧
 (∀ env sto b c x ws, (J6d ((c, x) :: ws) b).run ⟨env, sto⟩ = sto[b]?.bind fun y => some ((J24 b ((c, x) :: ws)).getD y)) ∧
 (∀ b, J24 b [] = none) ∧
 (∀ b c x r, J24 b ((c, x) :: r) = lwO (J24 b r) (if c = b then some x else none)) ∧
 (∀ x y, lwO (some x) y = some x) ∧
 (∀ y, lwO none y = y) ∧
 (∀ {α : Type} (a b : α), (some a).getD b = a) ∧
 (∀ {α : Type} (b : α), (none : Option α).getD b = b) ∧
 (∀ env sto b, (J6d [] b).run ⟨env, sto⟩ = sto[b]?) ∧
 (∀ env sto e rows, (J00 e (.p (.sl e rows))).run ⟨env, sto⟩ = some rows) ∧
 (∀ env sto l, (J00 1 (.p (.s l))).run ⟨env, sto⟩ = some ((J7S l).map (r_i .u8))) ∧
 (∀ env sto e b n, (J00 e (.slr b 0 n)).run ⟨env, sto⟩ = sto[b]?.bind fun B => roB e n B) ∧
 (∀ e n w rows, roB e n (.arr w e rows) = if n = rows.length then some rows else none) ∧
 (∀ env sto o e n new z ps, (ltR o e n z ps new).run ⟨env, sto⟩ = ((fzs (ps.map (·.2))).run ⟨env, sto⟩).bind fun a => (J38 e ((ps.map (·.1)).zip a.1) (List.replicate n z)).map fun rows => if o then ⟨.slr new 0 n, a.2 ++ [(new, .arr true e rows)]⟩ else ⟨.p (.sl e rows), a.2⟩) ∧
 (∀ env sto, (fzs []).run ⟨env, sto⟩ = some ([], [])) ∧
 (∀ env sto x r, (fzs (x :: r)).run ⟨env, sto⟩ = (evv x env).bind fun v => ((fz v).run ⟨env, sto⟩).bind fun a => ((fzs r).run ⟨env, sto⟩).bind fun c => some (a.1 :: c.1, a.2 ++ c.2)) ∧
 (∀ env sto c, (fz (.p c)).run ⟨env, sto⟩ = some ([c], [])) ∧
 (∀ env sto cs, (fz (.data cs)).run ⟨env, sto⟩ = some (cs, [])) ∧
 (∀ env sto cs, (fz (.agg cs)).run ⟨env, sto⟩ = (fz.fzL cs).run ⟨env, sto⟩) ∧
 (∀ env sto b n, (fz (.slr b 0 n)).run ⟨env, sto⟩ = sto[b]?.bind fun B => (frp b n B).bind fun x => some ([x.1], [x.2])) ∧
 (∀ e rows, J38 e [] rows = some rows) ∧
 (∀ e i c r rows, J38 e ((i, c) :: r) rows = if c.length = e ∧ i < rows.length then J38 e r (rows.set i c) else none) ∧
 (∀ o e b new z k k2 n m, mkP o e b z (.p (.i k n)) (.p (.i k2 m)) new = if 0 ≤ n ∧ n ≤ m ∧ b * m ≤ 281474976710656 ∧ m ≤ 281474976710656 then some (if o then ⟨.slr new 0 n.toNat, [(new, .arr true e (List.replicate n.toNat z))]⟩ else ⟨.p (.sl e (List.replicate n.toNat z)), []⟩) else none) ∧
 (∀ env, J7v none env = some none) ∧
 (∀ x env, J7v (some x) env = (evv x env).map some) ∧
 (∀ env sto s c lo hi, (slR s (.p c) lo hi none).run ⟨env, sto⟩ = (slX s (.p c) lo hi).map fun v => ⟨v, []⟩) ∧
 (∀ env sto s b n lo hi, (slR s (.slr b 0 n) lo hi none).run ⟨env, sto⟩ = sto[b]?.bind fun B => (frz b n B).bind fun x => (slX s x.1 lo hi).map fun v => ⟨v, [x.2]⟩) ∧
 (∀ x lo hi, slX .str x lo hi = J4L x lo hi) ∧
 (∀ e x lo hi, slX (.sl e) x lo hi = J7b e x lo hi) ∧
 (∀ n live env sto, J4z n live ⟨env, sto⟩ = if sto.length = n then some ⟨restr live env, sto⟩ else (J7c n sto (restr live env)).bind fun e => (J2R n [] sto (sto.take n)).bind fun l => some ⟨e, l⟩) ∧
 (∀ m sto, J7c m sto [] = some []) ∧
 (∀ m k sto x r, J7c m sto ((k, x) :: r) = (fin m [] sto x).bind fun y => (J7c m sto r).bind fun l => some ((k, y) :: l)) ∧
 (∀ m ids sto, J2R m ids sto [] = some []) ∧
 (∀ m ids sto x r, J2R m ids sto (x :: r) = (J3D m ids sto x).bind fun y => (J2R m ids sto r).bind fun l => some (y :: l)) ∧
 (∀ m ids sto, J3D m ids sto .dead = some .dead) ∧
 (∀ m ids sto w z rows, J3D m ids sto (.arr w z rows) = some (.arr w z rows)) ∧
 (∀ m ids sto cs, J3D m ids sto (.box cs) = (fin.finL m ids sto cs).map .box) ∧
 (∀ (m : Nat) (ids : List Nat) (sto : List Blk) (l : List PV), fin.finL m ids sto (l.map AV.p) = some (l.map AV.p)) ∧
 (∀ m ids sto, fin.finL m ids sto [] = some []) ∧
 (∀ m ids sto x r, fin.finL m ids sto (x :: r) = (fin m ids sto x).bind fun y => (fin.finL m ids sto r).bind fun l => some (y :: l)) ∧
 (∀ m ids sto c, fin m ids sto (.p c) = some (.p c)) ∧
 (∀ m ids sto c, fin m ids sto (.data c) = some (.data c)) ∧
 (∀ m ids sto c o, fin m ids sto (.cp c o) = some (.cp c o)) ∧
 (∀ m ids sto, fin m ids sto (.tup []) = some (.tup [])) ∧
 (∀ m ids sto b off, fin m ids sto (.ptr b off) = if b < m then some (.ptr b off) else (J6K b ids m).map fun k => .ptr k off) ∧
 (∀ m ids sto b n, fin m ids sto (.slr b 0 n) = if b < m then some (.slr b 0 n) else fsl (J6K b ids m) n sto[b]?) ∧
 (∀ k n o, fsl (some k) n o = some (.slr k 0 n)) ∧
 (∀ n z w rows, fsl none n (some (.arr w z rows)) = if n = rows.length then some (.p (.sl z rows)) else none) ∧
 (∀ m ids sto cs, fin m ids sto (.agg cs) = (fin.finL m ids sto cs).bind fun l => some (JkI l (unp l))) ∧
 (∀ m ids sto x cs, fin m ids sto (.tup (x :: cs)) = (fin.finL m ids sto (x :: cs)).map .tup) ∧
 (∀ b k, J6K b [] k = none) ∧
 (∀ b x k r, J6K b (x :: r) k = if x = b then some k else J6K b r (k + 1)) ∧
 (∀ res fresh m env sto, Jfw res fresh m ⟨env, sto⟩ = ((J4N res).run ⟨env, sto⟩).bind fun vs => if sto.length = m then some (one vs, sto) else JmA fresh m vs sto (J0W m fresh sto (J6e sto (JV.entsOfL vs []) (JV.entsOfL vs [])))) ∧
 (∀ fresh m vs sto ids, JmA fresh m vs sto ids = if J3f ids = true then (fin.finL m ids sto vs).bind fun ws => (J2R m ids sto (sto.take m)).bind fun l => (J5M sto ids).bind fun q => (J2R m ids sto q).bind fun q => some (one ws, l ++ q) else none) ∧
 (∀ env sto, (J4N []).run ⟨env, sto⟩ = some []) ∧
 (∀ env sto t r, (J4N (.tmp t :: r)).run ⟨env, sto⟩ = (lk t env).bind fun v => ((J4N r).run ⟨env, sto⟩).bind fun l => some (v :: l)) ∧
 (∀ env sto t n g r, (J4N (.cell t g n :: r)).run ⟨env, sto⟩ = (lk t env).bind fun v => ((J1F g n v).run ⟨env, sto⟩).bind fun e => ((J4N r).run ⟨env, sto⟩).bind fun l => some (e.val :: l)) ∧
 (∀ x, one [x] = x) ∧
 (one [] = .tup []) ∧
 (∀ x y r, one (x :: y :: r) = .tup (x :: y :: r)) ∧
 (∀ m fresh sto, J0W m fresh sto [] = []) ∧
 (∀ m b sto r, J0W m false sto (.whole b :: r) = if b < m then J0W m false sto r else oid b sto[b]? (J0W m false sto r)) ∧
 (∀ m b sto r, J0W m true sto (.whole b :: r) = if b < m then J0W m true sto r else Jkf b sto[b]? (J0W m true sto r)) ∧
 (∀ b cs l, Jkf b (some (.box cs)) l = b :: l) ∧
 (∀ b z w rows l, Jkf b (some (.arr w z rows)) l = b :: l) ∧
 (∀ b cs l, oid b (some (.box cs)) l = b :: l) ∧
 (∀ b z w rows l, oid b (some (.arr w z rows)) l = l) ∧
 (∀ sto acc, J6e sto [] acc = acc) ∧
 (∀ sto b r acc, J6e sto (.whole b :: r) acc = J6e sto r (ebb sto[b]? acc)) ∧
 (∀ cs acc, ebb (some (.box cs)) acc = JV.entsOfL cs acc) ∧
 (∀ z w rows acc, ebb (some (.arr w z rows)) acc = acc) ∧
 (∀ l, JV.entsOfL [] l = l) ∧
 (∀ x r l, JV.entsOfL (x :: r) l = JV.entsOfL r (JV x l)) ∧
 (∀ (cs : List PV) (l : List Ent), JV.entsOfL (cs.map AV.p) l = l) ∧
 (∀ c l, JV (.p c) l = l) ∧
 (∀ c l, JV (.data c) l = l) ∧
 (∀ c o l, JV (.cp c o) l = l) ∧
 (∀ b o l, JV (.ptr b o) l = J6q (.whole b) l) ∧
 (∀ b i n l, JV (.slr b i n) l = J6q (.whole b) l) ∧
 (∀ cs l, JV (.agg cs) l = JV.entsOfL cs l) ∧
 (∀ cs l, JV (.tup cs) l = JV.entsOfL cs l) ∧
 (∀ e, J6q e [] = [e]) ∧
 (∀ b c r, J6q (.whole b) (.whole c :: r) = if c = b then .whole c :: r else .whole c :: J6q (.whole b) r) ∧
 (J3f [] = true) ∧
 (∀ x, J3f [x] = true) ∧
 (∀ sto, J5M sto [] = some []) ∧
 (∀ sto b r, J5M sto (b :: r) = sto[b]?.bind fun x => (J5M sto r).bind fun l => some (x :: l)) ∧
 (∀ {α : Type} (a : α) (l : List α), (a :: l)[0]? = some a) ∧
 (∀ {α : Type} (a : α) (l : List α) (n : Nat), (a :: l)[n + 1]? = l[n]?) ∧
 (∀ {α : Type} (n : Nat), ([] : List α)[n]? = none) ∧
 (∀ {α : Type} (a b : α) (l : List α), (a :: l).set 0 b = b :: l) ∧
 (∀ {α : Type} (a b : α) (l : List α) (n : Nat), (a :: l).set (n + 1) b = a :: l.set n b) ∧
 (∀ {α : Type} (l : List α), [] ++ l = l) ∧
 (∀ {α : Type} (l : List α), l ++ [] = l) ∧
 (∀ {α : Type} (a : α) (l r : List α), (a :: l) ++ r = a :: (l ++ r)) ∧
 (∀ {α : Type} (a : α), List.replicate 0 a = []) ∧
 (∀ {α : Type} (a : α) (n : Nat), List.replicate (n + 1) a = a :: List.replicate n a) ∧
 (∀ {α β : Type} (g : α → β), List.map g [] = []) ∧
 (∀ {α β : Type} (g : α → β) (a : α) (l : List α), List.map g (a :: l) = g a :: List.map g l) ∧
 (∀ {α : Type}, ([] : List α).length = 0) ∧
 (∀ {α : Type} (a : α) (l : List α), (a :: l).length = l.length + 1) ∧
 (∀ {α : Type} (l : List α), l.take 0 = []) ∧
 (∀ {α : Type} (a : α) (l : List α) (n : Nat), (a :: l).take (n + 1) = a :: l.take n) ∧
 (∀ {α β : Type} (l : List β), ([] : List α).zip l = []) ∧
 (∀ {α β : Type} (a : α) (b : β) (l : List α) (r : List β), (a :: l).zip (b :: r) = (a, b) :: l.zip r) ∧
 (∀ n, 0 + n = n) ∧
 (∀ n, n + 0 = n) ∧
 (∀ k n, r_i k n = [.i k n]) ∧
 (∀ x, r_b x = [.b x]) ∧
 (∀ x, r_s x = [.s x]) ∧
 (∀ {α : Type} (e : Nat) (g : α → List PV) (l : List α), JhA e g l = [.sl e (l.map g)]) ∧
 (∀ (a : PV), sub [a] 0 1 = some [a]) ∧
 (∀ (a b : PV), spl [a] 0 [b] = some [b]) ∧
 (∀ {α : Type} (cs : List α), sub cs 0 0 = some []) ∧
 (∀ {α : Type} (a : α) (cs : List α) (n : Nat), sub (a :: cs) 0 (n + 1) = (sub cs 0 n).map (a :: ·)) ∧
 (∀ {α : Type} (a : α) (cs : List α) (n m : Nat), sub (a :: cs) (n + 1) m = sub cs n m) ∧
 (∀ {α : Type} (cs : List α), spl cs 0 [] = some cs) ∧
 (∀ {α : Type} (a b : α) (cs vs : List α), spl (a :: cs) 0 (b :: vs) = (spl cs 0 vs).map (b :: ·)) ∧
 (∀ {α : Type} (a : α) (cs : List α) (n : Nat) (vs : List α), spl (a :: cs) (n + 1) vs = (spl cs n vs).map (a :: ·)) ∧
 (∀ n b off l c cs, stB n b off l (.box (c :: cs)) = if l.length = n then (spl (c :: cs) off l).map fun cs => ⟨J0I, [(b, .box cs)]⟩ else none) ∧
 (∀ off size c a cs r, J0P ((off, size, c) :: r) (a :: cs) = if c.length = size then (spl (a :: cs) off c).bind fun cs => J0P r cs else none) ∧
 (∀ {α : Type} (a b : α), (if True then a else b) = a) ∧
 (∀ {α : Type} (a b : α), (if False then a else b) = b) ∧
 (∀ {α : Type} (a b : α), (if true = true then a else b) = a) ∧
 (∀ {α : Type} (a b : α), (if false = true then a else b) = b) ∧
 (∀ a, (True ∧ a) = a) ∧
 (∀ a, (a ∧ True) = a) ∧
 (∀ {α : Type} (a : α), (a = a) = True) ∧
 (∀ {α β : Type} (a : α) (b : β), (a, b).1 = a) ∧
 (∀ {α β : Type} (a : α) (b : β), (a, b).2 = b) :=
 ⟨by intros; rfl,
 by intros; rfl,
 by intros; rfl,
 by intros; rfl,
 by intros; rfl,
 by intros; rfl,
 by intros; rfl,
 by intros; rfl,
 by intros; rfl,
 by intros; rfl,
 rfl,
 by intros; rfl,
 by intros; rfl,
 by intros; rfl,
 by intros; rfl,
 by intros; rfl,
 by intros; rfl,
 by intros; rfl,
 by intros; rfl,
 by intros; rfl,
 by intros; rfl,
 by intros; rfl,
 by intros; rfl,
 by intros; rfl,
 by intros; rfl,
 by intros; rfl,
 by intros; rfl,
 by intros; rfl,
 by intros; rfl,
 by intros; rfl,
 by intros; rfl,
 by intros; rfl,
 by intros; rfl,
 by intros; rfl,
 by intros; rfl,
 by intros; rfl,
 by intros; rfl,
 by intros; rfl,
 by intros; rfl,
 by intros; rfl,
 by intros; rfl,
 by intros; rfl,
 by intros; rfl,
 by intros; rfl,
 by intros; rfl,
 by intros; rfl,
 by intros; rfl,
 by intros; rfl,
 by intros; rfl,
 by intros; rfl,
 by intros; rfl,
 by intros; rfl,
 by intros; rfl,
 by intros; rfl,
 by intros; rfl,
 by intros; rfl,
 by intros; rfl,
 rfl,
 by intros; rfl,
 by intro k x y; simp only [J0o, if_true, J6R, Option.map_some]; try rfl,
 by intro k x y; simp only [J0o, if_true, J6R, Option.map_some]; try rfl,
 by intro k x y; simp only [J0o, if_true, J6R, Option.map_some]; try rfl,
 by intro k x y; simp only [J0o, if_true, J6R, Option.map_some]; try rfl,
 by intro k x y; simp only [J0o, if_true, J6R, Option.map_some]; try rfl,
 by intro k x y; simp only [J0o, if_true, J6R, Option.map_some]; try rfl,
 by intro k x y; simp only [J0o, if_true, J6R, Option.map_some]; try rfl,
 by intro k x y; simp only [J0o, if_true, J6R, Option.map_some]; try rfl,
 by intro k x y; simp only [J0o, if_true, J6R, Option.map_some]; try rfl,
 by intro k x y; simp only [J0o, if_true, J6R, Option.map_some]; try rfl,
 by intro k x y; simp only [J0o, if_true, J6R, Option.map_some]; try rfl,
 by intro k x y; simp only [J0o, if_true, J6R, Option.map_some]; try rfl,
 by intro k x y; simp only [J0o, if_true, J6R, JsQ]; split <;> rfl,
 by intro k x y; simp only [J0o, if_true, J6R, Jfh]; split <;> rfl,
 by intro k k2 x y; simp only [J0o, Ja4, Jbb]; split <;> rfl,
 by intro k k2 x y; simp only [J0o, Ja4, J6P]; split <;> rfl,
 by intro x y; simp only [J0o, Jk4, J3e]; split <;> rfl,
 by intro x y; rfl,
 by intro x y; rfl,
 by intro x y; rfl,
 by intro x y; rfl,
 by intro x y; rfl,
 by intro x y; rfl,
 by intros; rfl,
 by intros; rfl,
 by intro ks a c; simp only [J0o, J6Z]; cases J3R ks a c <;> rfl,
 by intro ks a c; simp only [J0o, J6Z]; cases J3R ks a c <;> rfl,
 by intros; rfl,
 by intros; rfl,
 by intros; rfl,
 by intros; rfl,
 by intros; rfl,
 rfl,
 rfl,
 by intros; rfl,
 by intros; rfl,
 by intros; rfl,
 by intros; rfl,
 by intros; rfl,
 by intro g off n cs; simp only [J4s]; cases sub cs off n <;> rfl,
 by intro g off n c cs; simp only [J4s]; cases sub (c :: cs) off n <;> rfl,
 by intros; rfl,
 by intros; rfl,
 by intro cs; exact JeM cs,
 by intro c cs; simp only [J1n, if_true]; cases unp (c :: cs) <;> rfl,
 by intros; rfl,
 by intros; rfl,
 by intros; rfl,
 by intros; rfl,
 rfl,
 by intro c r; simp only [unp]; cases unp r <;> rfl,
 by intros; rfl,
 by intros; rfl,
 by intros; rfl,
 by intros; rfl,
 by intros; rfl,
 by intros; rfl,
 by intros; rfl,
 by intros; rfl,
 by intro α β g l; simp,
 by intros; rfl,
 by intros; rfl,
 by intros; rfl,
 by intro env sto g n cs off; exact Jr7 ..,
 by intro env sto g n b off; exact JqH ..,
 by intro env sto g n b e i off; exact Jr0 ..,
 by intro g n off cs; exact Jtj ..,
 by intros; rfl,
 by intros; rfl,
 by intro env sto n b off v; exact JrL ..,
 by intro n b off cs vs; exact Jqs ..,
 by intro b off cs v; exact Jtl ..,
 by intro env sto n b e i off v; exact JqO ..,
 by intro n b e i off z c rows s; exact Jtn ..,
 by intro n b e i off z cs rows s; exact Jts ..,
 by intros; rfl,
 by intros; rfl,
 by intros; rfl,
 by intros; rfl,
 by intros; rfl,
 by intros; rfl,
 by intros; rfl,
 by intro n cs; exact Jsp ..,
 by intros; rfl,
 by intros; rfl,
 by intro env sto e rows k n; exact JpM ..,
 by intro env sto e b m k n; exact JoR ..,
 by intro e b m n w rows; exact JqV ..,
 by intros; rfl,
 by intros; rfl,
 by intros; rfl,
 by intro l k n; exact JsM ..,
 by intros; rfl,
 by intro g n e cs k i; exact Jsz ..,
 by intros; rfl,
 by intros; rfl,
 @Jsy,
 by intro env sto b n new; exact JoH ..,
 @Jth,
 by intro env sto l new; exact JpC ..,
 by intro env sto l new; exact Jom ..,
 by intros; rfl,
 by intro env sto off size x r; exact JsX ..,
 by intros; rfl,
 by intro off size vs cs r; exact Jkx ..,
 by intro off v cs r; exact JpX ..,
 by intros; rfl,
 by intro env sto x r; exact Jsa ..,
 by intros; rfl,
 by intros; rfl,
 by intros; rfl,
 by intros; rfl,
 by intro env sto m; cases m <;> rfl,
 by intro env sto l; rw [Ji5],
 by intro env sto x m r; exact Jrk ..,
 by intro env sto x m r; exact JqX ..,
 by intros; rfl,
 by intro env sto c r; exact Jbh _ _ rfl ..,
 by intro env sto c r; exact Jbh _ _ rfl ..,
 by intro env sto b o r; exact Jbh _ _ rfl ..,
 by intro env sto c o r; exact Jbh _ _ rfl ..,
 by intro env sto b x i o r; exact Jbh _ _ rfl ..,
 by intro env sto b n r; exact JpA ..,
 by intro env sto cs r; exact JoL ..,
 @fr,
 by intros; rfl,
 by intro env sto c r; exact JoG ..,
 by intro env sto b n r; exact JpE ..,
 by intros; rfl,
 by intro env sto f a c r; exact Jbh _ _ rfl ..,
 by intro m ids sto f a c; exact JrR ..,
 by intros; rfl,
 by intros; rfl,
 by intros; rfl,
 by intro env sto b c x ws; exact JqE ..,
 by intros; rfl,
 by intro b c x r; exact Jt1 ..,
 by intros; rfl,
 by intros; rfl,
 by intros; rfl,
 by intros; rfl,
 by intro env sto b; exact JsP ..,
 by intro env sto e rows; exact JpU ..,
 by intro env sto l; exact Jq9 ..,
 by intro env sto e b n; exact Jqi ..,
 by intro e n w rows; exact JoU ..,
 by intro env sto o e n new z ps; exact Jsq ..,
 by intros; rfl,
 by intro env sto x r; exact Js7 ..,
 by intros; rfl,
 by intros; rfl,
 by intros; rfl,
 by intro env sto b n; exact Joq ..,
 by intros; rfl,
 by intros; rfl,
 @mk,
 by intros; rfl,
 by intros; rfl,
 by intro env sto s c lo hi; exact Jpq ..,
 by intro env sto s b n lo hi; exact JoW ..,
 by intros; rfl,
 by intros; rfl,
 @cl,
 by intros; rfl,
 by intro m k sto x r; exact JsN ..,
 by intros; rfl,
 by intro m ids sto x r; exact JsC ..,
 by intros; rfl,
 by intros; rfl,
 by intro m ids sto cs; exact Jrw ..,
 by intro m ids sto l; exact Ji2 m ids sto l,
 by intros; rfl,
 by intro m ids sto x r; exact Jsc ..,
 by intros; rfl,
 by intros; rfl,
 by intros; rfl,
 by intros; rfl,
 by intros; rfl,
 by intro m ids sto b n; exact JrW ..,
 by intros; rfl,
 by intros; rfl,
 by intro m ids sto cs; exact Jr4 ..,
 by intro m ids sto x cs; exact JrS ..,
 by intros; rfl,
 by intros; rfl,
 by intros; rfl,
 by intros; rfl,
 by intros; rfl,
 by intro env sto t r; exact Jpf ..,
 by intro env sto t n g r; exact JpB ..,
 by intros; rfl,
 rfl,
 by intros; rfl,
 by intros; rfl,
 by intro m b sto r; exact Jt8 ..,
 by intro m b sto r; exact JrK ..,
 by intros; rfl,
 by intros; rfl,
 by intros; rfl,
 by intros; rfl,
 by intros; rfl,
 by intro sto b r acc; exact JsY ..,
 by intros; rfl,
 by intros; rfl,
 by intros; rfl,
 by intros; rfl,
 by intro cs l; exact Jot cs l,
 by intros; rfl,
 by intros; rfl,
 by intros; rfl,
 by intros; rfl,
 by intros; rfl,
 by intros; rfl,
 by intros; rfl,
 by intros; rfl,
 by intro b c r; exact Js4 ..,
 rfl,
 by intros; rfl,
 by intros; rfl,
 by intro sto b r; exact Jsm ..,
 by intros; rfl,
 by intros; rfl,
 by intros; rfl,
 by intros; rfl,
 by intros; rfl,
 @JsW,
 @Js8,
 @JsF,
 by intros; rfl,
 by intros; rfl,
 @Jsn,
 @JsS,
 @JsK,
 @JsA,
 by intros; rfl,
 by intros; rfl,
 by intros; rfl,
 by intros; rfl,
 by intro n; exact Nat.zero_add n,
 by intros; rfl,
 @Jsh,
 @Jt0,
 @Jqm,
 @JsL,
 @s1,
 by intros; rfl,
 by intro α cs; rw [J5f]; simp,
 by intro α a cs n; exact Jpw ..,
 by intro α a cs n m; exact JpG ..,
 by intro α cs; rw [J5R]; simp,
 by intro α a b cs vs; exact Jpv ..,
 by intro α a cs n vs; exact Jpu ..,
 by intros; rfl,
 by intro off size c a cs r; exact Jpp ..,
 by intros; rfl,
 by intros; rfl,
 by intros; rfl,
 by intros; rfl,
 by intro a; simp,
 by intro a; simp,
 by intro α a; simp,
 by intros; rfl,
 by intros; rfl⟩
set_option maxRecDepth 30000 in
theorem Nf : (∀ {α : Type} (l : List α), [] ++ l = l) ∧
 (∀ {α : Type} (l : List α), l ++ [] = l) ∧
 (∀ {α : Type} (a : α) (l r : List α), (a :: l) ++ r = a :: (l ++ r)) ∧
 (∀ {α β : Type} (g : α → β), List.map g [] = []) ∧
 (∀ {α β : Type} (g : α → β) (a : α) (l : List α), List.map g (a :: l) = g a :: List.map g l) ∧
 (∀ {α : Type}, ([] : List α).length = 0) ∧
 (∀ {α : Type} (a : α) (l : List α), (a :: l).length = l.length + 1) ∧
 (∀ k n, r_i k n = [.i k n]) ∧
 (∀ x, r_b x = [.b x]) ∧
 (∀ x, r_s x = [.s x]) ∧
 (∀ {α : Type} (e : Nat) (g : α → List PV) (l : List α), JhA e g l = [.sl e (l.map g)]) :=
 ⟨@JsW,
 @Js8,
 @JsF,
 @Jsn,
 @JsS,
 @JsK,
 @JsA,
 @Jsh,
 @Jt0,
 @Jqm,
 @JsL⟩
set_option maxRecDepth 30000 in
theorem Ra : (∀ F new env sto g n x, rdO F (.load g n x) new ⟨env, sto⟩ = rb (evv x env) fun a => Ja ((J1F g n a).reads ⟨env, sto⟩)) ∧
 (∀ s g n b o, Ja ((J1F g n (.ptr b o)).reads s) = [b]) ∧
 (∀ s g n o cs, Ja ((J1F g n (.cp cs o)).reads s) = []) ∧
 (∀ s g n b e i o, Ja ((J1F g n (.ep b e i o)).reads s) = [b]) ∧
 (∀ F new s z, rdO F (.newbox z) new s = [new]) ∧
 (∀ F new env sto n x y, rdO F (.store n x y) new ⟨env, sto⟩ = rb (evv x env) fun a => rb (evv y env) fun c => Ja ((J1g n a c).reads ⟨env, sto⟩)) ∧
 (∀ s n b o v, Ja ((J1g n (.ptr b o) v).reads s) = [b]) ∧
 (∀ s n b e i o c, Ja ((J1g n (.ep b e i o) (.p c)).reads s) = [b]) ∧
 (∀ s n b e i o c, Ja ((J1g n (.ep b e i o) (.data c)).reads s) = [b]) ∧
 (∀ F new env sto g args, rdO F (.call g args 0) new ⟨env, sto⟩ = rb ((evs args).run ⟨env, sto⟩) fun a => Ja ((Jx a).reads ⟨env, sto⟩) ++ rb ((Jx a).run ⟨env, sto⟩) fun a => Ja ((Jq F g a 0 new).reads ⟨env, sto⟩)) ∧
 (∀ F new env sto g args, rdO F (.call g args 1) new ⟨env, sto⟩ = new :: rb (is1 sto[new]?) fun _ => rb ((evs args).run ⟨env, sto⟩) fun a => Ja ((Jx a).reads ⟨env, sto⟩) ++ rb ((Jx a).run ⟨env, sto⟩) fun a => Ja ((Jq F g a 1 new).reads ⟨env, sto⟩)) ∧
 (is1 (some .dead) = some ()) ∧
 (∀ {α β : Type} (a : α) (f : α → List β), rb (some a) f = f a) ∧
 (∀ F new env sto g args, rdO F (.callv g args 0) new ⟨env, sto⟩ = rb (evv g env) fun u => cvl u fun h a1 c1 => rb ((evs args).run ⟨env, sto⟩) fun a => Ja ((Jx (a1 ++ a ++ c1)).reads ⟨env, sto⟩) ++ rb ((Jx (a1 ++ a ++ c1)).run ⟨env, sto⟩) fun a => Ja ((Jq F h a 0 new).reads ⟨env, sto⟩)) ∧
 (∀ {α : Type} (f : FuncId) (a c : List AV) (k : FuncId → List AV → List AV → List α), cvl (.fn f a c) k = k f a c) ∧
 (∀ s, Ja ((Jx []).reads s) = []) ∧
 (∀ s c r, Ja ((Jx (.p c :: r)).reads s) = Ja ((Jx r).reads s)) ∧
 (∀ s c r, Ja ((Jx (.data c :: r)).reads s) = Ja ((Jx r).reads s)) ∧
 (∀ s b o r, Ja ((Jx (.ptr b o :: r)).reads s) = Ja ((Jx r).reads s)) ∧
 (∀ s c o r, Ja ((Jx (.cp c o :: r)).reads s) = Ja ((Jx r).reads s)) ∧
 (∀ s b x i o r, Ja ((Jx (.ep b x i o :: r)).reads s) = Ja ((Jx r).reads s)) ∧
 (∀ s b n r, Ja ((Jx (.slr b 0 n :: r)).reads s) = b :: rb ((J6l (.slr b 0 n)).run s) fun _ => Ja ((Jx r).reads s)) ∧
 (∀ F new s e n z ps, rdO F (.lits false e n z ps) new s = Ja ((fzs (ps.map (·.2))).reads s)) ∧
 (∀ F new env sto e n z ps, rdO F (.lits true e n z ps) new ⟨env, sto⟩ = new :: rb (is1 sto[new]?) fun _ => Ja ((fzs (ps.map (·.2))).reads ⟨env, sto⟩)) ∧
 (∀ s, Ja ((fzs []).reads s) = []) ∧
 (∀ env sto x r, Ja ((fzs (x :: r)).reads ⟨env, sto⟩) = rb (evv x env) fun v => Ja ((fz v).reads ⟨env, sto⟩) ++ rb ((fz v).run ⟨env, sto⟩) fun _ => Ja ((fzs r).reads ⟨env, sto⟩)) ∧
 (∀ s c, Ja ((fz (.p c)).reads s) = []) ∧
 (∀ s c, Ja ((fz (.data c)).reads s) = []) ∧
 (∀ s b n, Ja ((fz (.slr b 0 n)).reads s) = [b]) ∧
 (∀ F new env sto x, rdO F (.conv .toStr x) new ⟨env, sto⟩ = rb (evv x env) fun a => Ja ((J00 1 a).reads ⟨env, sto⟩)) ∧
 (∀ s e b n, Ja ((J00 e (.slr b 0 n)).reads s) = [b]) ∧
 (∀ s e z rows, Ja ((J00 e (.p (.sl z rows))).reads s) = []) ∧
 (∀ F new env sto e x i, rdO F (.iaddr e x i) new ⟨env, sto⟩ = rb (evv x env) fun a => rb (evv i env) fun c => Ja ((J2h e a c).reads ⟨env, sto⟩)) ∧
 (∀ s e b n k i, Ja ((J2h e (.slr b 0 n) (.p (.i k i))).reads s) = [b]) ∧
 (∀ s e z rows k i, Ja ((J2h e (.p (.sl z rows)) (.p (.i k i))).reads s) = []) ∧
 (∀ F new env sto k x lo hi mx, rdO F (.slice k x lo hi mx) new ⟨env, sto⟩ = rb (evv x env) fun a => Ja ((slT k lo hi mx a).reads ⟨env, sto⟩)) ∧
 (∀ s k lo hi mx c, Ja ((slT k lo hi mx (.p c)).reads s) = []) ∧
 (∀ F new env sto e b z y, rdO F (.appn e b z y) new ⟨env, sto⟩ = new :: rb (is1 sto[new]?) fun _ => rb (evv y env) fun a => Ja ((J00 e a).reads ⟨env, sto⟩)) ∧
 (∀ F new env sto e b z x y, rdO F (.app e b z x y) new ⟨env, sto⟩ = rb (evv x env) fun a => rb (evv y env) fun c => Ja ((J4w e b a c).reads ⟨env, sto⟩)) ∧
 (∀ s e y b n z rows, Ja ((J4w e y (.slr b 0 n) (.p (.sl z rows))).reads s) = [b]) ∧
 (∀ a b c d, pkk (some (a, b)) (some (c, d)) = (J4x b c && J4x b d && J4x a d)) ∧
 (∀ b, J4x [] b = true) ∧
 (∀ x a b, J4x (x :: a) b = (!(b.contains x) && J4x a b)) ∧
 (∀ x, ([] : List Nat).contains x = false) ∧
 (∀ (x y : Nat) (l : List Nat), (y :: l).contains x = (x == y || l.contains x)) ∧
 (∀ a, (true && a) = a) ∧
 (∀ a, (false && a) = false) ∧
 (∀ a, (true || a) = true) ∧
 (∀ a, (false || a) = a) :=
 ⟨by intro F new env sto g n x; exact Jrp ..,
 by intro s g n b o; exact JqI ..,
 by intro s g n o cs; exact Jt2 ..,
 by intro s g n b e i o; exact JsU ..,
 by intro F new s z; exact JnM ..,
 by intro F new env sto n x y; exact Jqb ..,
 by intro s n b o v; exact JqN ..,
 by intro s n b e i o c; exact JpN ..,
 by intro s n b e i o c; exact Jp8 ..,
 by intro F new env sto g args; exact JpI ..,
 by intro F new env sto g args; exact JoK ..,
 rfl,
 by intros; rfl,
 by intro F new env sto g args; exact Joc ..,
 by intros; rfl,
 by intros; rfl,
 by intro s c r; exact Jah s rfl r,
 by intro s c r; exact Jah s rfl r,
 by intro s b o r; exact Jah s rfl r,
 by intro s c o r; exact Jah s rfl r,
 by intro s b x i o r; exact Jah s rfl r,
 by intro s b n r; exact JrJ ..,
 by intro F new s e n z ps; exact Jpb ..,
 by intro F new env sto e n z ps; exact JoP ..,
 by intros; rfl,
 by intro env sto x r; exact Jt6 ..,
 by intros; rfl,
 by intros; rfl,
 by intro s b n; exact JdQ ..,
 by intro F new env sto x; exact Jp4 ..,
 by intro s e b n; exact Jov ..,
 by intro s e z rows; exact Jkn ..,
 by intro F new env sto e x i; exact JoZ ..,
 by intro s e b n k i; exact Joa ..,
 by intro s e z rows k i; exact JpK ..,
 by intro F new env sto k x lo hi mx; exact Jol ..,
 by intro s k lo hi mx c; exact Jrd ..,
 by intro F new env sto e b z y; exact JqP ..,
 by intro F new env sto e b z x y; exact Jsf ..,
 by intro s e y b n z rows; exact JpF ..,
 by intros; rfl,
 by intros; rfl,
 by intro x a b; simp [J4x],
 by intros; rfl,
 by intro x y l; rw [List.contains_cons],
 by intro a; simp,
 by intro a; simp,
 by intro a; simp,
 by intro a; simp⟩
end Go.Am
end
