/-
  Parts of a proof.
-/
import Derived.Test.YtiallbcnaadmoaaM5
set_option linter.unusedSimpArgs false
set_option linter.unusedVariables false
section
namespace Go.Am
@[congr] theorem JvP {T : J5g} {f : AFn} {m : Nat} {k : List Fr} {o o' : Option Out} (h : o = o') : rk T f m k o = rk T f m k o' := by rw [h]
def tdn (e : AX) (o : Option St) : Option Out := match o with
 | some s => some (e, s)
 | none => none
def Jp5 (fresh : Bool) (m : Nat) (vs : List AV) (sto : List Blk) (ids : List Nat) : Option Res :=
 if J3L ids = true then (fin.finL m ids sto vs).bind fun ws => (J3p m ids sto (sto.take m)).bind fun l => (J6L sto ids).bind fun q => (J3p m ids sto q).bind fun q => some (one ws, l ++ q) else none
def JgM (res : List JbD) (fresh : Bool) (m : Nat) (s : St) : Option Res :=
 ((J5J res).run s).bind fun vs => if s.sto.length = m then some (one vs, s.sto) else Jp5 fresh m vs s.sto (J1a m fresh s.sto (J7s s.sto (J03.entsOfL vs []) (J03.entsOfL vs [])))
theorem JgC (res : List JbD) (fresh : Bool) (m : Nat) (s : St) : J4v ⟨0, 0, .skip, res, fresh⟩ m s = JgM res fresh m s := by
 unfold J4v JgM
 dsimp only
 cases (J5J res).run s with
 | none => rfl
 | some vs =>
  simp only [Option.bind_some]
  split
  ·rfl
  ·unfold Jp5
   split
   ·generalize J1a m fresh s.sto _ = ids
    cases fin.finL m ids s.sto vs <;> cases J3p m ids s.sto (s.sto.take m) <;> cases J6L s.sto ids <;> try rfl
    rename_i q
    simp only [Option.bind_some]
    cases J3p m ids s.sto q <;> rfl
   ·rfl
theorem Jtz (T : J5g) (f : AFn) (m : Nat) (s : St) : rk T f m [] (some (.normal, s)) = JgM f.res f.fresh m s := (JrY T f m s).trans (JgC ..)
theorem JrJ (T : J5g) (f : AFn) (m : Nat) (s : St) : rk T f m [] (some (.ret, s)) = JgM f.res f.fresh m s := (Jri T f m s).trans (JgC ..)
def dds {α : Type} (n new : Nat) (sto : List Blk) (o : Option α) : Option α := match (J6l new n).run ⟨[], sto⟩ with
 | some _ => o
 | none => none
def dd1 {α : Type} (b : Option Blk) (o : Option α) : Option α := match b with
 | some .dead => o
 | _ => none
@[congr] theorem JvG {α : Type} {b b' : Option Blk} {o : Option α} (h : b = b') : dd1 b o = dd1 b' o := by rw [h]
theorem JvR {α : Type} (new : Nat) (sto : List Blk) (o : Option α) : dds 1 new sto o = dd1 sto[new]? o := by
 unfold dds dd1
 simp only [J6l, RM.run]
 cases sto[new]? with
 | none => rfl
 | some b => cases b <;> rfl
section
variable {F : Orc} {r : List J0X} {new d : Nat} {env : List (Nat × AV)} {sto : List Blk}
theorem JlN (n : Nat) : ∀ new, (J6l new n).run ⟨env, sto⟩ = (J6l new n).run ⟨[], sto⟩ := by
 induction n with
 | zero => intro new; rfl
 | succ n ih =>
  intro new
  simp only [J6l, RM.run]
  cases sto[new]? with
  | none => rfl
  | some b => cases b <;> first | exact ih _ | rfl
def lgA (l : Option Log) (a b : List Nat) : Option Log := l.map (· ++ [(a, b)])
def rdO (F : Orc) (op : AOp) (new : Nat) (s : St) : List Nat := Je ((opD F op new).reads s)
abbrev GR := Option (St × Option Log)
def Jn (F : Orc) : List J0X → Nat → St → Option Log → GR
 | [], _, s, l => some (s, l)
 | i :: r, new, s, l => match (J1N F i new).run s with
  | some e => Jn F r (new + JG i.op) (put i.dst e s) (lgA l (Je ((J1N F i new).reads s)) (e.ws.map (·.1)))
  | none => none
theorem Jql (F : Orc) (ins : List J0X) : ∀ new s, Jn F ins new s none = (J2G F ins new s).map fun s => (s, none) := by
 induction ins with
 | nil => intro new s; rfl
 | cons i r ih =>
  intro new s
  simp only [Jn, J2G]
  cases (J1N F i new).run s with
  | none => rfl
  | some e => exact ih _ _
theorem Jrh (F : Orc) (ins : List J0X) : ∀ new s l, Jn F ins new s (some l) = (J4Y F ins new s l).map fun x => (x.1, some x.2) := by
 induction ins with
 | nil => intro new s l; rfl
 | cons i r ih =>
  intro new s l
  simp only [Jn, J4Y]
  cases (J1N F i new).run s with
  | none => rfl
  | some e => exact ih _ _ _
def Jsd (o : GR) : Option Out := match o with
 | some (s, _) => some (.normal, s)
 | none => none
def JoH (ps : List (Nat × Nat)) (o : GR) : Option Out := match o with
 | some (s, some l) => if J8p l ps = true then some (.normal, s) else none
 | _ => none
theorem JsX (T : J5g) (f : AFn) (m : Nat) (k : List Fr) (d ins env sto) : rk T f m k (X T (.reg d [] ins) ⟨env, sto⟩) = rk T f m k (Jsd (Jn (AF T) ins sto.length ⟨env, room (news ins) sto⟩ none)) := by
 rw [Ju4, Jql]
 cases J2G (AF T) ins sto.length ⟨env, room (news ins) sto⟩ <;> rfl
theorem Jtc (T : J5g) (f : AFn) (m : Nat) (k : List Fr) (d p ps ins env sto) : rk T f m k (X T (.reg d (p :: ps) ins) ⟨env, sto⟩) = rk T f m k (JoH (p :: ps) (Jn (AF T) ins sto.length ⟨env, room (news ins) sto⟩ (some []))) := by
 rw [Jsm, Jrh]
 simp only [region]
 cases J4Y (AF T) ins sto.length ⟨env, room (news ins) sto⟩ [] with
 | none => rfl
 | some x =>
  obtain ⟨s, l⟩ := x
  simp only [Option.map_some, JoH]
  split <;> rfl
theorem stD {lg : Option Log} (op : AOp) : Jn F (⟨op, some d, none⟩ :: r) new ⟨env, sto⟩ lg = dds (JG op) new sto (((opR F op new).run ⟨env, sto⟩).bind fun e => Jn F r (new + JG op) ⟨(d, e.val) :: env, upd e.ws sto⟩ (lgA lg (rdO F op new ⟨env, sto⟩) (e.ws.map (·.1)))) := by
 have e0 : (J1N F ⟨op, some d, none⟩ new).run ⟨env, sto⟩ = dds (JG op) new sto ((opR F op new).run ⟨env, sto⟩) := by
  simp only [J1N, opD, run_bind, JlN (env := env)]
  unfold dds
  cases (J6l new (JG op)).run ⟨[], sto⟩ <;> rfl
 simp only [Jn, e0]
 unfold dds
 cases (J6l new (JG op)).run ⟨[], sto⟩ with
 | none => rfl
 | some u => simp only []; cases (opR F op new).run ⟨env, sto⟩ <;> rfl
theorem JlG {lg : Option Log} (op : AOp) : Jn F (⟨op, none, none⟩ :: r) new ⟨env, sto⟩ lg = dds (JG op) new sto (((opR F op new).run ⟨env, sto⟩).bind fun e => Jn F r (new + JG op) ⟨env, upd e.ws sto⟩ (lgA lg (rdO F op new ⟨env, sto⟩) (e.ws.map (·.1)))) := by
 have e0 : (J1N F ⟨op, none, none⟩ new).run ⟨env, sto⟩ = dds (JG op) new sto ((opR F op new).run ⟨env, sto⟩) := by
  simp only [J1N, opD, run_bind, JlN (env := env)]
  unfold dds
  cases (J6l new (JG op)).run ⟨[], sto⟩ <;> rfl
 simp only [Jn, e0]
 unfold dds
 cases (J6l new (JG op)).run ⟨[], sto⟩ with
 | none => rfl
 | some u => simp only []; cases (opR F op new).run ⟨env, sto⟩ <;> rfl
theorem st0 {lg : Option Log} {op : AOp} (h : JG op = 0) : Jn F (⟨op, some d, none⟩ :: r) new ⟨env, sto⟩ lg = ((opR F op new).run ⟨env, sto⟩).bind fun e => Jn F r new ⟨(d, e.val) :: env, upd e.ws sto⟩ (lgA lg (rdO F op new ⟨env, sto⟩) (e.ws.map (·.1))) := by
 rw [stD, h]; rfl
theorem JvZ {lg : Option Log} {op : AOp} (h : JG op = 0) : Jn F (⟨op, none, none⟩ :: r) new ⟨env, sto⟩ lg = ((opR F op new).run ⟨env, sto⟩).bind fun e => Jn F r new ⟨env, upd e.ws sto⟩ (lgA lg (rdO F op new ⟨env, sto⟩) (e.ws.map (·.1))) := by
 rw [JlG, h]; rfl
def pk (u : AV) (a b : Option AV) : Option AV := match u with
 | .p (.b x) => if x = true then a else b
 | _ => none
@[congr] theorem JvJ {α : Type} {n n' new new' : Nat} {sto : List Blk} {o : Option α} (h : n = n') (h' : new = new') : dds n new sto o = dds n' new' sto o := by rw [h, h']
theorem J1I {α : Type} (n new : Nat) (sto : List Blk) : dds n new sto (none : Option α) = none := by
 unfold dds; split <;> rfl
theorem JqZ {α β : Type} (n new : Nat) (sto : List Blk) (o : Option α) (g : α → Option β) : dds n new sto (o.bind g) = o.bind fun a => dds n new sto (g a) := by
 cases o with
 | none => exact J1I ..
 | some a => rfl
theorem JuO {β : Type} {K : Eff → Option β} {o : Option AV} : ((o.bind fun v => some ⟨v, []⟩).bind K) = o.bind fun v => K ⟨v, []⟩ := by cases o <;> rfl
def pkk (a b : Option (List Nat × List Nat)) : Bool := match a, b with
 | some a, some b => J5s a.2 b.1 && J5s a.2 b.2 && J5s a.1 b.2
 | _, _ => false
theorem bi {α β : Type} {o : Option α} {f : α → Option β} {r : β} (h : Option.bind o f = some r) : ∃ x, o = some x ∧ f x = some r := Option.bind_eq_some_iff.1 h
theorem sj {α : Type} {a b : α} (h : some a = some b) : a = b := Option.some.inj h
theorem mi {α β : Type} {o : Option α} {f : α → β} {r : β} (h : Option.map f o = some r) : ∃ x, o = some x ∧ f x = r := Option.map_eq_some_iff.1 h
inductive Dum {α : Type} : α → Type where
 | mk (a : α) : Dum a
def hold {α : Type} (a : α) (_ : Dum a) : α := a
def pkh {β : Type} (u : AV) (a b : Option AV) (K : AV → Option β) : Option β := (pk u a b).bind K
theorem JqB {β : Type} {K : Eff → Option β} {a b : Opd} {o : Option AV} : ((o.bind fun u => RM.run (match u with
  | .p (.b x) => if x = true then (ev a).bind fun v => .ret ⟨v, []⟩ else (ev b).bind fun v => .ret ⟨v, []⟩
  | _ => .fail) ⟨env, sto⟩).bind K) = o.bind fun u => (pk u (evv a env) (evv b env)).bind fun v => K ⟨v, []⟩ := by
 cases o with
 | none => rfl
 | some u =>
  simp only [Option.bind_some]
  cases u with
  | p c =>
   cases c with
   | b x =>
    cases x with
    | true => simp only [if_true, run_bind, J0B, pk]; cases evv a env <;> rfl
    | false => simp only [Bool.false_eq_true, if_false, run_bind, J0B, pk]; cases evv b env <;> rfl
   | _ => rfl
  | _ => rfl
theorem JcL {β : Type} {K : Eff → Option β} {o : Option AV} (g : AV → Option AV) : ((o.bind fun a => (Go.Am.val (g a)).run ⟨env, sto⟩).bind K) = o.bind fun a => (g a).bind fun v => K ⟨v, []⟩ := by
 cases o with
 | none => rfl
 | some a => simp only [Option.bind_some]; cases g a <;> rfl
theorem Jjo {β : Type} {K : Eff → Option β} {o o' : Option AV} (g : AV → AV → Option AV) : ((o.bind fun a => o'.bind fun c => (Go.Am.val (g a c)).run ⟨env, sto⟩).bind K) = o.bind fun a => o'.bind fun c => (g a c).bind fun v => K ⟨v, []⟩ := by
 cases o with
 | none => rfl
 | some a =>
  cases o' with
  | none => rfl
  | some c => simp only [Option.bind_some]; cases g a c <;> rfl
theorem Jme {β : Type} {o : Option AV} (g : AV → Option Eff) {k : Eff → Option β} : ((o.bind fun a => g a).bind k) = o.bind fun a => (g a).bind k := by
 cases o <;> rfl
theorem JpC {β : Type} {o o' : Option AV} {e b : Nat} {z : List PV} {s : St} {k : Eff → Option β} : ((o.bind fun a => o'.bind fun c => RM.run (match zrs e z c with
  | some c1 => J4L e b a c1
  | none => .fail) s).bind k) = o.bind fun a => o'.bind fun c => (zrs e z c).bind fun c1 => ((J4L e b a c1).run s).bind k := by
 cases o with
 | none => rfl
 | some a => cases o' with
  | none => rfl
  | some c =>
   simp only [Option.bind_some]
   cases zrs e z c <;> rfl
theorem Jha {β : Type} {o o' : Option AV} (g : AV → AV → Option Eff) {k : Eff → Option β} : ((o.bind fun a => o'.bind fun c => g a c).bind k) = o.bind fun a => o'.bind fun c => (g a c).bind k := by
 cases o <;> cases o' <;> rfl
def Jj0 (a c : AV) : Option AV := match a, c with
 | .p (.s l), .p (.i _ n) => if 0 ≤ n then
   match l[n.toNat]? with
   | some u => some (.p (.i .u8 u.toNat))
   | none => none
  else none
 | _, _ => none
theorem JsZ {β : Type} {K : Eff → Option β} {o o' : Option AV} : ((o.bind fun a => o'.bind fun c => RM.run (match a, c with
  | .p (.s l), .p (.i _ n) => if 0 ≤ n then
    match l[n.toNat]? with
    | some u => .ret ⟨.p (.i .u8 u.toNat), []⟩
    | none => .fail
   else .fail
  | _, _ => .fail) ⟨env, sto⟩).bind K) = o.bind fun a => o'.bind fun c => (Jj0 a c).bind fun v => K ⟨v, []⟩ := by
 cases o with
 | none => rfl
 | some a =>
  cases o' with
  | none => rfl
  | some c =>
   simp only [Option.bind_some, Jj0]
   split
   ·split
    ·split <;> rfl
    ·rfl
   ·rfl
theorem Ju3 (l : List UInt8) (k : IntKind) (n : Int) : Jj0 (.p (.s l)) (.p (.i k n)) = (Jcu l n).map fun v => .p (.i .u8 v) := by
 simp only [Jj0, Jcu]
 by_cases h : 0 ≤ n
 ·simp only [if_pos h]; cases l[n.toNat]? <;> rfl
 ·simp only [if_neg h]; rfl
def Jhx (g : Bool) (n e : Nat) (a c : AV) : Option AV := match c with
 | .p (.i _ i) => if 0 ≤ i ∧ i < n then J5p g (i.toNat * e) e a else none
 | _ => none
theorem JtI {β : Type} {K : Eff → Option β} {g : Bool} {n e : Nat} {o o' : Option AV} : ((o.bind fun a => o'.bind fun c => RM.run (match c with
  | .p (.i _ i) => if 0 ≤ i ∧ i < n then Go.Am.val (J5p g (i.toNat * e) e a) else .fail
  | _ => .fail) ⟨env, sto⟩).bind K) = o.bind fun a => o'.bind fun c => (Jhx g n e a c).bind fun v => K ⟨v, []⟩ := by
 cases o with
 | none => rfl
 | some a =>
  cases o' with
  | none => rfl
  | some c =>
   simp only [Option.bind_some, Jhx]
   split
   ·split
    ·cases J5p g _ e a <;> rfl
    ·rfl
   ·rfl
theorem JuU (g : Bool) (n e : Nat) (cs : List PV) (k : IntKind) (i : Int) : Jhx g n e (.data cs) (.p (.i k i)) = if 0 ≤ i ∧ i < n then (sub cs (i.toNat * e) e).bind (J1Z g) else none := by
 simp only [Jhx, J5p]
 split
 ·cases sub cs (i.toNat * e) e <;> rfl
 ·rfl
def Jmg : AV → Option AV
 | .ptr b o => some (.ptr b o)
 | .cp cs o => some (.cp cs o)
 | .ep b e i o => some (.ep b e i o)
 | .fn f u c => some (.fn f u c)
 | _ => none
theorem JtR {β : Type} {K : Eff → Option β} {o : Option AV} : ((o.bind fun a => RM.run (match a with
  | .ptr b o => .ret ⟨.ptr b o, []⟩
  | .cp cs o => .ret ⟨.cp cs o, []⟩
  | .ep b e i o => .ret ⟨.ep b e i o, []⟩
  | .fn f u c => .ret ⟨.fn f u c, []⟩
  | _ => .fail) ⟨env, sto⟩).bind K) = o.bind fun a => (Jmg a).bind fun v => K ⟨v, []⟩ := by
 cases o with
 | none => rfl
 | some a => cases a <;> rfl
def cvR (k : CK) (a : AV) (new : Nat) : RM Eff := match k, a with
 | .int k, .p (.i _ n) => .ret ⟨.p (.i k (k.wrap n)), []⟩
 | .same, .p (.s l) => .ret ⟨.p (.s l), []⟩
 | .toStr, a => (J02 1 a).bind fun rows => match J5C rows with
  | some l => .ret ⟨.p (.s l), []⟩
  | none => .fail
 | .toBytes own, .p (.s l) => if own then .ret ⟨.slr new 0 l.length, [(new, .arr true 1 (l.map J4e))]⟩ else .ret ⟨.p (.sl 1 (l.map J4e)), []⟩
 | _, _ => .fail
theorem Js4 {lg : Option Log} {c : CK} {x : Opd} : Jn F (⟨.conv c x, some d, none⟩ :: r) new ⟨env, sto⟩ lg = (evv x env).bind fun a => dds (JG (.conv c x)) new sto (((cvR c a new).run ⟨env, sto⟩).bind fun e => Jn F r (new + JG (.conv c x)) ⟨(d, e.val) :: env, upd e.ws sto⟩ (lgA lg (rdO F (.conv c x) new ⟨env, sto⟩) (e.ws.map (·.1)))) := by
 rw [stD]
 have : (opR F (.conv c x) new).run ⟨env, sto⟩ = (evv x env).bind fun a => (cvR c a new).run ⟨env, sto⟩ := by
  simp only [opR, run_bind, J0B]; rfl
 rw [this, Jme (fun a => (cvR c a new).run ⟨env, sto⟩), JqZ]
theorem Jq3 {lg : Option Log} {z : List PV} {ps : List (Nat × Nat × Opd)} : Jn F (⟨.build z ps, some d, none⟩ :: r) new ⟨env, sto⟩ lg = ((J2z ps).run ⟨env, sto⟩).bind fun l => (J17 l (z.map .p)).bind fun cs => (J1K true cs).bind fun v => Jn F r new ⟨(d, v) :: env, sto⟩ (lgA lg (rdO F (.build z ps) new ⟨env, sto⟩) []) := by
 rw [st0 (h := rfl)]
 simp only [opR, run_bind]
 cases (J2z ps).run ⟨env, sto⟩ with
 | none => rfl
 | some l =>
  simp only [Option.bind_some]
  cases J17 l (z.map .p) with
  | none => rfl
  | some cs => simp only [Option.bind_some]; cases J1K true cs <;> rfl
def J8K (x : Option Opd) (env : List (Nat × AV)) : Option (Option AV) := match x with
 | none => some none
 | some x => (evv x env).map some
theorem JtU (x : Option Opd) : (evo x).run ⟨env, sto⟩ = J8K x env := by
 cases x with
 | none => rfl
 | some x => simp only [evo, run_bind, J0B, J8K]; cases evv x env <;> rfl
def slR (s : SK) (a : AV) (lo hi mx : Option AV) : RM Eff := match a with
 | .slr b i n => (fz (.slr b i n)).bind fun y => match y.1 with
  | [c] => match J4x s (.p c) lo hi mx with
   | some v => .ret ⟨v, y.2⟩
   | none => .fail
  | _ => .fail
 | a => Go.Am.val (J4x s a lo hi mx)
theorem Jqh {lg : Option Log} {s : SK} {x : Opd} {lo hi mx : Option Opd} : Jn F (⟨.slice s x lo hi mx, some d, none⟩ :: r) new ⟨env, sto⟩ lg = (evv x env).bind fun a => (J8K lo env).bind fun lo1 => (J8K hi env).bind fun hi1 => (J8K mx env).bind fun mx1 => ((slR s a lo1 hi1 mx1).run ⟨env, sto⟩).bind fun e => Jn F r new ⟨(d, e.val) :: env, upd e.ws sto⟩ (lgA lg (rdO F (.slice s x lo hi mx) new ⟨env, sto⟩) (e.ws.map (·.1))) := by
 rw [st0 (h := rfl)]
 have : (opR F (.slice s x lo hi mx) new).run ⟨env, sto⟩ = (evv x env).bind fun a => (J8K lo env).bind fun lo => (J8K hi env).bind fun hi => (J8K mx env).bind fun mx => (slR s a lo hi mx).run ⟨env, sto⟩ := by
  simp only [opR, run_bind, J0B, JtU]; rfl
 rw [this]
 cases evv x env with
 | none => rfl
 | some a =>
  cases J8K lo env with
  | none => rfl
  | some lo =>
   cases J8K hi env with
   | none => rfl
   | some hi => cases J8K mx env <;> rfl
def slX (s : SK) (x : AV) (lo hi : Option AV) : Option AV := J4x s x lo hi none
theorem Jpf {lg : Option Log} {z : List PV} : Jn F (⟨.newbox z, some d, none⟩ :: r) new ⟨env, sto⟩ lg = dds 1 new sto (Jn F r (new + 1) ⟨(d, .ptr new 0) :: env, sto.set new (.box (z.map .p))⟩ (lgA lg (rdO F (.newbox z) new ⟨env, sto⟩) [new])) := by
 rw [stD]; rfl
def Jmh (e b : Nat) (a : AV) (add : List (List PV)) : Option (List (List PV)) := match a with
 | .p (.slc e' rows) => if e = e' ∧ 0 < add.length ∧ J5P (rows.length + add.length) b = true then some (rows ++ add) else none
 | _ => none
theorem Js3 {lg : Option Log} {e b : Nat} {z : List PV} {x y : Opd} : Jn F (⟨.appc e b z x y, some d, none⟩ :: r) new ⟨env, sto⟩ lg = (evv x env).bind fun a => (evv y env).bind fun c => ((J02 e c).run ⟨env, sto⟩).bind fun add => (Jmh e b a add).bind fun rows => dds 1 new sto (Jn F r (new + 1) ⟨(d, .slr new 0 rows.length) :: env, sto.set new (.arr true e rows)⟩ (lgA lg (rdO F (.appc e b z x y) new ⟨env, sto⟩) [new])) := by
 rw [stD]
 simp only [opR, run_bind, J0B, JG]
 cases evv x env with
 | none => exact J1I ..
 | some a =>
  simp only [Option.bind_some]
  cases evv y env with
  | none => exact J1I ..
  | some c =>
   simp only [Option.bind_some]
   cases hq : (J02 e c).run ⟨env, sto⟩ with
   | none =>
    have : (JgG e b a c new).run ⟨env, sto⟩ = none := by
     unfold JgG; split
     ·simp only [run_bind, hq]; rfl
     ·rfl
    rw [this]; exact J1I ..
   | some add =>
    simp only [Option.bind_some]
    have : (JgG e b a c new).run ⟨env, sto⟩ = (Jmh e b a add).map fun rows => ⟨.slr new 0 rows.length, [(new, .arr true e rows)]⟩ := by
     cases a with
     | p q => cases q with
      | slc e' rows =>
       simp only [JgG, Jmh, run_bind, hq, Option.bind_some]
       split
       ·simp [J1n]
       ·rfl
      | _ => rfl
     | _ => rfl
    rw [this]
    cases Jmh e b a add with
    | none => exact J1I ..
    | some rows => rfl
theorem Jrv {lg : Option Log} {e b : Nat} {z : List PV} {y : Opd} : Jn F (⟨.appn e b z y, some d, none⟩ :: r) new ⟨env, sto⟩ lg = (evv y env).bind fun c => ((J02 e c).run ⟨env, sto⟩).bind fun rows => if J5P rows.length b = true then dds 1 new sto (Jn F r (new + 1) ⟨(d, .slr new 0 rows.length) :: env, sto.set new (.arr true e rows)⟩ (lgA lg (rdO F (.appn e b z y) new ⟨env, sto⟩) [new])) else none := by
 rw [stD]
 simp only [opR, run_bind, J0B, JG]
 cases evv y env with
 | none => exact J1I ..
 | some c =>
  simp only [Option.bind_some]
  cases (J02 e c).run ⟨env, sto⟩ with
  | none => exact J1I ..
  | some rows =>
   simp only [Option.bind_some]
   split
   ·rfl
   ·exact J1I ..
theorem Jqv {lg : Option Log} {e : Nat} {x : Opd} : Jn F (⟨.mkarr e x, some d, none⟩ :: r) new ⟨env, sto⟩ lg = dds 1 new sto (Jn F r (new + 1) ⟨(d, .slr new 0 0) :: env, sto.set new (.arr true e [])⟩ (lgA lg (rdO F (.mkarr e x) new ⟨env, sto⟩) [new])) := by
 rw [stD]; rfl
def bxP (n : Nat) (a : AV) : Option (List AV) := match cellsOf a with
 | some cs => if cs.length = n then some cs else none
 | none => none
theorem Jsu {lg : Option Log} {n : Nat} {x : Opd} : Jn F (⟨.box n x, some d, none⟩ :: r) new ⟨env, sto⟩ lg = (evv x env).bind fun a => (bxP n a).bind fun cs => dds 1 new sto (Jn F r (new + 1) ⟨(d, .ptr new 0) :: env, sto.set new (.box cs)⟩ (lgA lg (rdO F (.box n x) new ⟨env, sto⟩) [new])) := by
 rw [stD]
 simp only [opR, run_bind, J0B, JG]
 cases evv x env with
 | none => exact J1I ..
 | some a =>
  simp only [Option.bind_some, bxP]
  cases cellsOf a with
  | none => exact J1I ..
  | some cs =>
   dsimp only
   split
   ·rfl
   ·exact J1I ..
def ltR (o : Bool) (e n : Nat) (z : List PV) (ps : List (Nat × Opd)) (new : Nat) : RM Eff := (fzs (ps.map (·.2))).bind fun a =>
  match J40 e ((ps.map (·.1)).zip a.1) (List.replicate n z) with
  | some rows => if o then .ret ⟨.slr new 0 n, a.2 ++ [(new, .arr true e rows)]⟩ else .ret ⟨.p (.sl e rows), a.2⟩
  | none => .fail
theorem Jrj {lg : Option Log} {o : Bool} {e n : Nat} {z : List PV} {ps : List (Nat × Opd)} : Jn F (⟨.lits o e n z ps, some d, none⟩ :: r) new ⟨env, sto⟩ lg = dds (if o then 1 else 0) new sto (((ltR o e n z ps new).run ⟨env, sto⟩).bind fun x => Jn F r (new + if o then 1 else 0) ⟨(d, x.val) :: env, upd x.ws sto⟩ (lgA lg (rdO F (.lits o e n z ps) new ⟨env, sto⟩) (x.ws.map (·.1)))) := by
 rw [stD]; rfl
theorem Jv1 (env : List (Nat × AV)) (sto : List Blk) (o : Bool) (e n new : Nat) (z : List PV) (ps : List (Nat × Opd)) : (ltR o e n z ps new).run ⟨env, sto⟩ = ((fzs (ps.map (·.2))).run ⟨env, sto⟩).bind fun a => (J40 e ((ps.map (·.1)).zip a.1) (List.replicate n z)).map fun rows => if o then ⟨.slr new 0 n, a.2 ++ [(new, .arr true e rows)]⟩ else ⟨.p (.sl e rows), a.2⟩ := by
 simp only [ltR, run_bind]
 cases (fzs (ps.map (·.2))).run ⟨env, sto⟩ with
 | none => rfl
 | some a =>
  simp only [Option.bind_some]
  cases J40 e ((ps.map (·.1)).zip a.1) (List.replicate n z) with
  | none => rfl
  | some rows => cases o <;> rfl
def mkP (o : Bool) (e b : Nat) (z : List PV) (a c : AV) (new : Nat) : Option Eff := match a, c with
 | .p (.i _ n), .p (.i _ m) =>
  if 0 ≤ n ∧ n ≤ m ∧ b * m ≤ 281474976710656 ∧ m ≤ 281474976710656 then
   some (if o then ⟨.slr new 0 n.toNat, [(new, .arr true e (List.replicate n.toNat z))]⟩ else ⟨.p (.sl e (List.replicate n.toNat z)), []⟩)
  else none
 | _, _ => none
theorem JuV (o : Bool) (e b : Nat) (z : List PV) (a c : AV) (new : Nat) (s : St) : RM.run (match a, c with
  | .p (.i _ n), .p (.i _ m) =>
   if 0 ≤ n ∧ n ≤ m ∧ b * m ≤ 281474976710656 ∧ m ≤ 281474976710656 then
    if o then .ret ⟨.slr new 0 n.toNat, [(new, .arr true e (List.replicate n.toNat z))]⟩
    else .ret ⟨.p (.sl e (List.replicate n.toNat z)), []⟩
   else .fail
  | _, _ => .fail) s = mkP o e b z a c new := by
 unfold mkP
 split
 ·rename_i k n k2 m
  by_cases h : 0 ≤ n ∧ n ≤ m ∧ b * m ≤ 281474976710656 ∧ m ≤ 281474976710656
  ·simp only [if_pos h]; cases o <;> rfl
  ·simp only [if_neg h]; rfl
 ·rfl
theorem Jna {lg : Option Log} {o : Bool} {e b : Nat} {z : List PV} {l c : Opd} : Jn F (⟨.mkslice o e b z l c, some d, none⟩ :: r) new ⟨env, sto⟩ lg = (evv l env).bind fun a => (evv c env).bind fun x => dds (if o then 1 else 0) new sto ((mkP o e b z a x new).bind fun x => Jn F r (new + if o then 1 else 0) ⟨(d, x.val) :: env, upd x.ws sto⟩ (lgA lg (rdO F (.mkslice o e b z l c) new ⟨env, sto⟩) (x.ws.map (·.1)))) := by
 rw [stD]
 simp only [opR, run_bind, J0B, JG]
 cases evv l env with
 | none => exact J1I ..
 | some a =>
  cases evv c env with
  | none => exact J1I ..
  | some x =>
   simp only [Option.bind_some]
   exact congrArg (fun y => dds (if o then 1 else 0) new sto (y.bind fun x => Jn F r (new + if o then 1 else 0) ⟨(d, x.val) :: env, upd x.ws sto⟩ (lgA lg (rdO F (.mkslice o e b z l c) new ⟨env, sto⟩) (x.ws.map (·.1))))) (JuV o e b z a x new ⟨env, sto⟩)
theorem JmX {F : Orc} {f : FuncId} {args args' : List AV} {b c e e2 : Nat} {rows rows' rows2 rows2' : List (List PV)} {w w' w2 w2' : Bool} {v v' : AV} (he : J03.entsOfL args [] = [.whole b, .whole c]) (hn : J3L [b, c] = true) (hr : ren.renL (fun x => J3m x [Ent.whole b, .whole c] 0) args = some args')
  (hF : F f args' [.arr w e rows, .arr w2 e2 rows2] = some (v, [.arr w' e rows', .arr w2' e2 rows2'])) (hb : ∀ new, bk [.whole b, .whole c] new v = some v') (ws : List (Nat × Blk)) (new : Nat) (s : St) (hB : (J6H ws b).run s = some (.arr w e rows)) (hC : (J6H ws c).run s = some (.arr w2 e2 rows2)) :
  (J3f F f (args, ws) 0 new).run s = some ⟨v', ws ++ [(b, .arr w' e rows'), (c, .arr w2' e2 rows2')]⟩ := by
 have x2 : ∀ acc, (J6S ws [.whole b, .whole c] acc).run s = some acc := fun acc => by
  simp only [J6S, run_bind, hB, hC, Option.bind_some, J1n]
 have e3 : (J4y ws (fun x => J3m x [Ent.whole b, .whole c] 0) [Ent.whole b, .whole c]).run s = some [.arr w e rows, .arr w2 e2 rows2] := by
  simp only [J4y, run_bind, Jci, hB, hC, Option.bind_some, J1n]
 have n1 : J3L ([Ent.whole b, .whole c].map Ent.id) = true := hn
 simp only [J3f, run_bind, he, x2, Option.bind_some, n1, if_true, hr, e3, hF]
 simp [hb, J3G, J2P, J8S, J1n, run_bind]
def JlW (b : Nat) (B : Option Blk) (l : List Nat) : List Nat := match B with
 | some (.box _) => b :: l
 | some (.arr _ _ _) => b :: l
 | _ => l
theorem JsM (m b : Nat) (sto : List Blk) (r : List Ent) : J1a m true sto (.whole b :: r) = if b < m then J1a m true sto r else JlW b sto[b]? (J1a m true sto r) := by
 simp only [J1a, JlW]
 split
 ·rfl
 ·split <;> simp_all
theorem Jw3 {α : Type} (n new : Nat) (sto : List Blk) (o : Option α) : dds (n + 1) new sto o = dd1 sto[new]? (dds n (new + 1) sto o) := by
 unfold dds dd1
 simp only [J6l, RM.run]
 cases sto[new]? with
 | none => rfl
 | some b => cases b <;> rfl
theorem Jn2 {lg : Option Log} {z : List PV} {os : List (Nat × Nat)} : Jn F (⟨.newboxo z os, some d, none⟩ :: r) new ⟨env, sto⟩ lg =
  dds (os.length + 1) new sto (Jn F r (new + (os.length + 1)) ⟨(d, .ptr (new + os.length) 0) :: env, upd (J34 os new ++ [(new + os.length, .box (J6T os new (z.map .p)))]) sto⟩
   (lgA lg (rdO F (.newboxo z os) new ⟨env, sto⟩) ((J34 os new ++ [(new + os.length, Blk.box (J6T os new (z.map .p)))]).map (·.1)))) := by
 rw [stD]; rfl
theorem Jpk {lg : Option Log} {e : Nat} {x : Opd} : Jn F (⟨.storen e x, none, none⟩ :: r) new ⟨env, sto⟩ lg =
  (evv x env).bind fun a => dds 1 new sto (((J1D 1 a (.slr new 0 0)).run ⟨env, sto⟩).bind fun q => Jn F r (new + 1) ⟨env, upd ((new, .arr true e []) :: q.ws) sto⟩ (lgA lg (rdO F (.storen e x) new ⟨env, sto⟩) (new :: q.ws.map (·.1)))) := by
 rw [JlG]
 simp only [opR, run_bind, J0B, JG]
 cases evv x env with
 | none => exact J1I ..
 | some a => simp only [Option.bind_some]; cases (J1D 1 a (.slr new 0 0)).run ⟨env, sto⟩ <;> rfl
theorem Jos {lg : Option Log} {z : List PV} {ps : List (Nat × Nat × Opd)} {os : List (Nat × Nat)} : Jn F (⟨.buildo z ps os, some d, none⟩ :: r) new ⟨env, sto⟩ lg =
  ((J2z ps).run ⟨env, sto⟩).bind fun l => (J17 l (J6T os new (z.map .p))).bind fun cs => (J1K true cs).bind fun v =>
   dds os.length new sto (Jn F r (new + os.length) ⟨(d, v) :: env, upd (J34 os new) sto⟩ (lgA lg (rdO F (.buildo z ps os) new ⟨env, sto⟩) ((J34 os new).map (·.1)))) := by
 rw [stD]
 simp only [opR, run_bind, JG]
 cases (J2z ps).run ⟨env, sto⟩ with
 | none => exact J1I ..
 | some l =>
  simp only [Option.bind_some]
  cases J17 l (J6T os new (z.map .p)) with
  | none => exact J1I ..
  | some cs =>
   simp only [Option.bind_some]
   cases J1K true cs with
   | none => exact J1I ..
   | some v => rfl
theorem Jqs {lg : Option Log} {g : FuncId} {kp : List Bool} {args : List Opd} {n : Nat} : Jn F (⟨.callo g kp args n, some d, none⟩ :: r) new ⟨env, sto⟩ lg = dds n new sto (((evs args).run ⟨env, sto⟩).bind fun a => ((J2o kp a).run ⟨env, sto⟩).bind fun a => ((J3f F g a n new).run ⟨env, sto⟩).bind fun e => Jn F r (new + n) ⟨(d, e.val) :: env, upd e.ws sto⟩ (lgA lg (rdO F (.callo g kp args n) new ⟨env, sto⟩) (e.ws.map (·.1)))) := by
 rw [stD]
 simp only [opR, run_bind, JG]
 cases (evs args).run ⟨env, sto⟩ with
 | none => rfl
 | some a => simp only [Option.bind_some]; cases (J2o kp a).run ⟨env, sto⟩ <;> rfl
theorem JoB {lg : Option Log} {g : FuncId} {kp : List Bool} {args : List Opd} {n : Nat} : Jn F (⟨.callo g kp args n, none, none⟩ :: r) new ⟨env, sto⟩ lg = dds n new sto (((evs args).run ⟨env, sto⟩).bind fun a => ((J2o kp a).run ⟨env, sto⟩).bind fun a => ((J3f F g a n new).run ⟨env, sto⟩).bind fun e => Jn F r (new + n) ⟨env, upd e.ws sto⟩ (lgA lg (rdO F (.callo g kp args n) new ⟨env, sto⟩) (e.ws.map (·.1)))) := by
 rw [JlG]
 simp only [opR, run_bind, JG]
 cases (evs args).run ⟨env, sto⟩ with
 | none => rfl
 | some a => simp only [Option.bind_some]; cases (J2o kp a).run ⟨env, sto⟩ <;> rfl
theorem Jkb : ∀ l : List AV, J2o [] l = JB l
 | [] => rfl
 | x :: r => by simp only [J2o, JB, Jkb r]
theorem Jti (x : AV) (m : List Bool) (r : List AV) : (J2o (false :: m) (x :: r)).run ⟨env, sto⟩ = ((JB [x]).run ⟨env, sto⟩).bind fun a => ((J2o m r).run ⟨env, sto⟩).bind fun c => some (a.1 ++ c.1, a.2 ++ c.2) := by
 simp only [J2o, JB, run_bind]
 cases (J7p x).run ⟨env, sto⟩ with
 | none => rfl
 | some a => simp only [Option.bind_some, RM.run]; cases (J2o m r).run ⟨env, sto⟩ <;> simp
theorem Jta (x : AV) (m : List Bool) (r : List AV) : (J2o (true :: m) (x :: r)).run ⟨env, sto⟩ = ((J2o m r).run ⟨env, sto⟩).bind fun c => some (x :: c.1, c.2) := by
 simp only [J2o, run_bind]
 cases (J2o m r).run ⟨env, sto⟩ <;> rfl
theorem Js6 {lg : Option Log} {g : FuncId} {args : List Opd} {n : Nat} : Jn F (⟨.call g args n, some d, none⟩ :: r) new ⟨env, sto⟩ lg = dds n new sto (((evs args).run ⟨env, sto⟩).bind fun a => ((JB a).run ⟨env, sto⟩).bind fun a => ((Jj F g a n new).run ⟨env, sto⟩).bind fun e => Jn F r (new + n) ⟨(d, e.val) :: env, upd e.ws sto⟩ (lgA lg (rdO F (.call g args n) new ⟨env, sto⟩) (e.ws.map (·.1)))) := by
 rw [stD]
 simp only [opR, run_bind, JG, Jbs]
 cases (evs args).run ⟨env, sto⟩ with
 | none => rfl
 | some a => simp only [Option.bind_some]; cases (JB a).run ⟨env, sto⟩ <;> rfl
theorem JpG {lg : Option Log} {g : FuncId} {args : List Opd} {n : Nat} : Jn F (⟨.call g args n, none, none⟩ :: r) new ⟨env, sto⟩ lg = dds n new sto (((evs args).run ⟨env, sto⟩).bind fun a => ((JB a).run ⟨env, sto⟩).bind fun a => ((Jj F g a n new).run ⟨env, sto⟩).bind fun e => Jn F r (new + n) ⟨env, upd e.ws sto⟩ (lgA lg (rdO F (.call g args n) new ⟨env, sto⟩) (e.ws.map (·.1)))) := by
 rw [JlG]
 simp only [opR, run_bind, JG, Jbs]
 cases (evs args).run ⟨env, sto⟩ with
 | none => rfl
 | some a => simp only [Option.bind_some]; cases (JB a).run ⟨env, sto⟩ <;> rfl
def cvg {α : Type} (u : AV) (k : FuncId → List AV → List AV → Option α) : Option α := match u with
 | .fn f a c => k f a c
 | _ => none
theorem JqX {lg : Option Log} {g : FuncId} {a c : List Opd} : Jn F (⟨.mkfn g a c, some d, none⟩ :: r) new ⟨env, sto⟩ lg = ((evs a).run ⟨env, sto⟩).bind fun a1 => ((evs c).run ⟨env, sto⟩).bind fun c1 => Jn F r new ⟨(d, .fn g a1 c1) :: env, sto⟩ (lgA lg (rdO F (.mkfn g a c) new ⟨env, sto⟩) []) := by
 rw [st0 (h := rfl)]
 simp only [opR, run_bind]
 cases (evs a).run ⟨env, sto⟩ with
 | none => rfl
 | some a1 => simp only [Option.bind_some]; cases (evs c).run ⟨env, sto⟩ <;> rfl
theorem JpK {lg : Option Log} {g : Opd} {args : List Opd} {n : Nat} : Jn F (⟨.callv g args n, some d, none⟩ :: r) new ⟨env, sto⟩ lg = (evv g env).bind fun u => cvg u fun h a1 c1 => dds n new sto (((evs args).run ⟨env, sto⟩).bind fun a => ((JB (a1 ++ a ++ c1)).run ⟨env, sto⟩).bind fun a => ((Jj F h a n new).run ⟨env, sto⟩).bind fun q => Jn F r (new + n) ⟨(d, q.val) :: env, upd q.ws sto⟩ (lgA lg (rdO F (.callv g args n) new ⟨env, sto⟩) (q.ws.map (·.1)))) := by
 rw [stD]
 simp only [opR, run_bind, J0B, JG]
 cases evv g env with
 | none => exact J1I ..
 | some u =>
  simp only [Option.bind_some]
  cases u with
  | fn h a1 c1 =>
   simp only [cvg, run_bind, Jbs]
   cases (evs args).run ⟨env, sto⟩ with
   | none => rfl
   | some a => simp only [Option.bind_some]; cases (JB (a1 ++ a ++ c1)).run ⟨env, sto⟩ <;> rfl
  | _ => exact J1I ..
theorem JoV {lg : Option Log} {g : Opd} {args : List Opd} {n : Nat} : Jn F (⟨.callv g args n, none, none⟩ :: r) new ⟨env, sto⟩ lg = (evv g env).bind fun u => cvg u fun h a1 c1 => dds n new sto (((evs args).run ⟨env, sto⟩).bind fun a => ((JB (a1 ++ a ++ c1)).run ⟨env, sto⟩).bind fun a => ((Jj F h a n new).run ⟨env, sto⟩).bind fun q => Jn F r (new + n) ⟨env, upd q.ws sto⟩ (lgA lg (rdO F (.callv g args n) new ⟨env, sto⟩) (q.ws.map (·.1)))) := by
 rw [JlG]
 simp only [opR, run_bind, J0B, JG]
 cases evv g env with
 | none => exact J1I ..
 | some u =>
  simp only [Option.bind_some]
  cases u with
  | fn h a1 c1 =>
   simp only [cvg, run_bind, Jbs]
   cases (evs args).run ⟨env, sto⟩ with
   | none => rfl
   | some a => simp only [Option.bind_some]; cases (JB (a1 ++ a ++ c1)).run ⟨env, sto⟩ <;> rfl
  | _ => exact J1I ..
def grd {α : Type} (x : Option AV) (w : Bool) (a b : Option α) : Option α := match x with
 | some (.p (.b x)) => if x = w then a else b
 | some (.tup []) => b
 | _ => none
end
@[congr] theorem JvL {α : Type} {x x' : Option AV} {w : Bool} {a b : Option α} (h : x = x') : grd x w a b = grd x' w a b := by rw [h]
theorem Jtv (F : Orc) (r : List J0X) (new : Nat) (env : List (Nat × AV)) (sto : List Blk) (lg : Option Log) (op : AOp) (d : Option Nat) (g : Nat) (w : Bool) :
  Jn F (⟨op, d, some (g, w)⟩ :: r) new ⟨env, sto⟩ lg = grd (lk g env) w (Jn F (⟨op, d, none⟩ :: r) new ⟨env, sto⟩ lg) (Jn F r (new + JG op) (put d ⟨J0Y, []⟩ ⟨env, sto⟩) (lgA lg [] [])) := by
 simp only [Jn, J1N, RM.run, RM.reads]
 cases lk g env with
 | none => rfl
 | some v =>
  dsimp only
  cases v with
  | p c =>
   cases c with
   | b x =>
    simp only [grd]
    by_cases h : x = w
    ·subst h; simp only [if_true]; rfl
    ·simp only [if_neg h]; rfl
   | _ => rfl
  | tup l => cases l <;> rfl
  | _ => rfl
def JoP (k : Nat) (v : Option AV) (l : List (Nat × AV)) : List (Nat × AV) := match v with
 | some v => (k, v) :: l
 | none => l
def JmS (cs : List AV) (l : Option (List PV)) : AV := match l with
 | some l => .data l
 | none => .agg cs
def ldB (g : Bool) (n off : Nat) (B : Blk) : Option Eff := match B with
 | .box cs => (sub cs off n).bind fun l => (J1K g l).map fun v => ⟨v, []⟩
 | _ => none
def ldE (g : Bool) (n e i off : Nat) (B : Blk) : Option Eff := match B with
 | .arr _ _ rows => if e = rows.length then rows[i]?.bind fun row => (sub row off n).bind fun l => (J1Z g l).map fun v => ⟨v, []⟩ else none
 | _ => none
theorem JtV (env : List (Nat × AV)) (sto : List Blk) (g : Bool) (n : Nat) (cs : List PV) (off : Nat) : (J27 g n (.cp cs off)).run ⟨env, sto⟩ = (sub cs off n).bind fun l => (J1Z g l).map fun v => ⟨v, []⟩ := by
 simp only [J27]
 cases sub cs off n with
 | none => rfl
 | some l => simp only [Option.bind_some]; cases J1Z g l <;> rfl
theorem Jth (env : List (Nat × AV)) (sto : List Blk) (g : Bool) (n b off : Nat) : (J27 g n (.ptr b off)).run ⟨env, sto⟩ = sto[b]?.bind fun B => ldB g n off B := by
 simp only [J27, J65]
 cases sto[b]? with
 | none => rfl
 | some B =>
  cases B with
  | box cs =>
   simp only [Option.bind_some, ldB]
   cases sub cs off n with
   | none => rfl
   | some l => simp only [Option.bind_some]; cases J1K g l <;> rfl
  | _ => rfl
theorem Jvg (g : Bool) (n off : Nat) (cs : List PV) : ldB g n off (.box (cs.map AV.p)) = (sub cs off n).bind fun l => (J1Z g l).map fun v => ⟨v, []⟩ := by
 simp only [ldB, JrH]
 cases sub cs off n with
 | none => rfl
 | some l =>
  simp only [Option.map_some, Option.bind_some]
  cases g with
  | true => rw [JgB]; rfl
  | false => match l with
   | [] => rfl
   | [_] => rfl
   | _ :: _ :: _ => rfl
theorem JtB (env : List (Nat × AV)) (sto : List Blk) (g : Bool) (n b e i off : Nat) : (J27 g n (.ep b e i off)).run ⟨env, sto⟩ = sto[b]?.bind fun B => ldE g n e i off B := by
 simp only [J27, J65]
 cases sto[b]? with
 | none => rfl
 | some B =>
  cases B with
  | arr w z rows =>
   simp only [Option.bind_some, ldE]
   split
   ·cases rows[i]? with
    | none => rfl
    | some row =>
     simp only [Option.bind_some]
     cases sub row off n with
     | none => rfl
     | some l => simp only [Option.bind_some]; cases J1Z g l <;> rfl
   ·rfl
  | _ => rfl
def stB (n b off : Nat) (l : List AV) (B : Blk) : Option Eff := match B with
 | .box cs => if l.length = n then (spl cs off l).map fun cs => ⟨J0Y, [(b, .box cs)]⟩ else none
 | _ => none
theorem Jtt (env : List (Nat × AV)) (sto : List Blk) (n b off : Nat) (v : AV) : (J1D n (.ptr b off) v).run ⟨env, sto⟩ = sto[b]?.bind fun B => (cellsOf v).bind fun l => stB n b off l B := by
 simp only [J1D, J65]
 cases sto[b]? with
 | none => rfl
 | some B =>
  simp only [Option.bind_some]
  cases B with
  | box cs =>
   dsimp only
   cases cellsOf v with
   | none => rfl
   | some l =>
    simp only [Option.bind_some, stB]
    split
    ·cases spl cs off l <;> rfl
    ·rfl
  | dead => cases cellsOf v <;> rfl
  | arr w z rows => cases cellsOf v <;> rfl
theorem Jsk (n b off : Nat) (cs vs : List PV) : stB n b off (vs.map AV.p) (.box (cs.map AV.p)) = if vs.length = n then (spl cs off vs).map fun cs => ⟨J0Y, [(b, .box (cs.map AV.p))]⟩ else none := by
 simp only [stB, List.length_map, Jm9]
 split
 ·cases spl cs off vs <;> rfl
 ·rfl
theorem Jvn (b off : Nat) (cs : List PV) (v : PV) : stB 1 b off [AV.p v] (.box (cs.map AV.p)) = (spl cs off [v]).map fun cs => ⟨J0Y, [(b, .box (cs.map AV.p))]⟩ := by
 have := Jsk 1 b off cs [v]
 simpa using this
def stE (n b e i off : Nat) (v : AV) (B : Blk) (s : St) : Option Eff := match B with
 | .arr true z rows => if e = rows.length then
   match rows[i]? with
   | some row => ((fz v).run s).bind fun a =>
    if a.1.length = n ∧ (a.2.all fun y => y.1 != b) = true then
     match spl row off a.1 with
     | some row' => some ⟨J0Y, a.2 ++ [(b, .arr true z (rows.set i row'))]⟩
     | none => none
    else none
   | none => none
  else none
 | _ => none
theorem JsY (env : List (Nat × AV)) (sto : List Blk) (n b e i off : Nat) (v : AV) : (J1D n (.ep b e i off) v).run ⟨env, sto⟩ = sto[b]?.bind fun B => stE n b e i off v B ⟨env, sto⟩ := by
 simp only [J1D, J65]
 cases sto[b]? with
 | none => rfl
 | some B =>
  simp only [Option.bind_some]
  cases B with
  | arr w z rows =>
   cases w with
   | false => rfl
   | true =>
    simp only [stE]
    split
    ·cases rows[i]? with
     | none => rfl
     | some row =>
      simp only [run_bind]
      cases (fz v).run ⟨env, sto⟩ with
      | none => rfl
      | some a =>
       simp only [Option.bind_some]
       split
       ·cases spl row off a.1 <;> rfl
       ·rfl
    ·rfl
  | _ => rfl
theorem Jvp (n b e i off z : Nat) (c : PV) (rows : List (List PV)) (s : St) : stE n b e i off (.p c) (.arr true z rows) s = if e = rows.length then rows[i]?.bind fun row => if 1 = n then (spl row off [c]).map fun row => ⟨J0Y, [(b, .arr true z (rows.set i row))]⟩ else none else none := by
 simp only [stE, fz, J1n, Option.bind_some]
 split
 ·cases rows[i]? with
  | none => rfl
  | some row =>
   simp only [Option.bind_some, List.length_cons, List.length_nil, List.all_nil, and_true]
   simp only [Nat.zero_add]
   split
   ·cases spl row off [c] <;> rfl
   ·rfl
 ·rfl
theorem Jvm (n b e i off z : Nat) (cs : List PV) (rows : List (List PV)) (s : St) : stE n b e i off (.data cs) (.arr true z rows) s = if e = rows.length then rows[i]?.bind fun row => if cs.length = n then (spl row off cs).map fun row => ⟨J0Y, [(b, .arr true z (rows.set i row))]⟩ else none else none := by
 simp only [stE, fz, J1n, Option.bind_some]
 split
 ·cases rows[i]? with
  | none => rfl
  | some row =>
   simp only [Option.bind_some, List.all_nil, and_true]
   split
   ·cases spl row off cs <;> rfl
   ·rfl
 ·rfl
theorem Jv2 (n : Nat) (cs : List PV) : bxP n (.data cs) = if cs.length = n then some (cs.map AV.p) else none := by simp [bxP, cellsOf]
theorem JqA (env : List (Nat × AV)) (sto : List Blk) (e : Nat) (rows : List (List PV)) (k : IntKind) (n : Int) : (J2T e (.p (.sl e rows)) (.p (.i k n))).run ⟨env, sto⟩ = (Jbl rows n).map fun row => ⟨.cp row 0, []⟩ := by
 simp only [J2T, if_true]
 cases Jbl rows n <;> rfl
def iaB (e b m : Nat) (n : Int) (B : Blk) : Option Eff := match B with
 | .arr _ esz' rows => if e = esz' ∧ 0 + m = rows.length ∧ 0 ≤ n ∧ n < m then some ⟨.ep b rows.length (0 + n.toNat) 0, []⟩ else none
 | _ => none
theorem Js7 (env : List (Nat × AV)) (sto : List Blk) (e b m : Nat) (k : IntKind) (n : Int) : (J2T e (.slr b 0 m) (.p (.i k n))).run ⟨env, sto⟩ = sto[b]?.bind fun B => iaB e b m n B := by
 simp only [J2T, J65]
 cases sto[b]? with
 | none => rfl
 | some B =>
  cases B with
  | arr w z rows => simp only [Option.bind_some, iaB]; split <;> rfl
  | _ => rfl
theorem Jtd (e b m : Nat) (n : Int) (w : Bool) (rows : List (List PV)) : iaB e b m n (.arr w e rows) = if m = rows.length ∧ 0 ≤ n ∧ n < m then some ⟨.ep b rows.length n.toNat 0, []⟩ else none := by
 simp [iaB]
theorem Jre (env : List (Nat × AV)) (sto : List Blk) (l : List Int) (new : Nat) : (cvR .toStr (.p (.sl 1 (l.map (r_i .u8)))) new).run ⟨env, sto⟩ = some ⟨.p (.s (toStr l)), []⟩ := by
 simp only [cvR, J02, if_true, run_bind, J1n, Option.bind_some, JdG]
def cvB (n : Nat) (B : Blk) : Option Eff := match B with
 | .arr _ z rows => if 1 = z ∧ 0 + n = rows.length then
   match J5C (rows.drop 0) with
   | some l => some ⟨.p (.s l), []⟩
   | none => none
  else none
 | _ => none
theorem Jsa (env : List (Nat × AV)) (sto : List Blk) (b n new : Nat) : (cvR .toStr (.slr b 0 n) new).run ⟨env, sto⟩ = sto[b]?.bind fun B => cvB n B := by
 simp only [cvR, J02, run_bind, J65]
 cases sto[b]? with
 | none => rfl
 | some B =>
  cases B with
  | arr w z rows =>
   simp only [Option.bind_some, cvB]
   split
   ·simp only [J1n, Option.bind_some]; cases J5C (rows.drop 0) <;> rfl
   ·rfl
  | _ => rfl
theorem JsQ (n : Nat) (w : Bool) (l : List Int) : cvB n (.arr w 1 (l.map (r_i .u8))) = if n = l.length then some ⟨.p (.s (toStr l)), []⟩ else none := by
 simp only [cvB, List.drop_zero, JdG, List.length_map, Nat.zero_add, true_and]
theorem Jsf (env : List (Nat × AV)) (sto : List Blk) (l : List UInt8) (new : Nat) : (cvR (.toBytes false) (.p (.s l)) new).run ⟨env, sto⟩ = some ⟨.p (.sl 1 ((J96 l).map (r_i .u8))), []⟩ := by
 simp [cvR, Jhh]
theorem JpF (env : List (Nat × AV)) (sto : List Blk) (l : List UInt8) (new : Nat) : (cvR (.toBytes true) (.p (.s l)) new).run ⟨env, sto⟩ = some ⟨.slr new 0 (J96 l).length, [(new, .arr true 1 ((J96 l).map (r_i .u8)))]⟩ := by
 have : (J96 l).length = l.length := by simp [J96]
 simp [cvR, Jhh, this]
theorem JuQ (env : List (Nat × AV)) (sto : List Blk) (off size : Nat) (x : Opd) (r : List (Nat × Nat × Opd)) : (J2z ((off, size, x) :: r)).run ⟨env, sto⟩ = (evv x env).bind fun v => (cellsOf v).bind fun cs => ((J2z r).run ⟨env, sto⟩).bind fun l => some ((off, size, cs) :: l) := by
 simp only [J2z, run_bind, J0B]
 cases evv x env with
 | none => rfl
 | some v =>
  simp only [Option.bind_some]
  cases cellsOf v with
  | none => rfl
  | some cs => simp only [Option.bind_some, run_bind]; cases (J2z r).run ⟨env, sto⟩ <;> rfl
theorem Jma (off size : Nat) (vs cs : List PV) (r : List (Nat × Nat × List AV)) : J17 ((off, size, vs.map AV.p) :: r) (cs.map AV.p) = if vs.length = size then (spl cs off vs).bind fun cs => J17 r (cs.map AV.p) else none := by
 simp only [J17, List.length_map, Jm9]
 split
 ·cases spl cs off vs <;> rfl
 ·rfl
theorem JqI (off : Nat) (v : PV) (cs : List PV) (r : List (Nat × Nat × List AV)) : J17 ((off, 1, [AV.p v]) :: r) (cs.map AV.p) = (spl cs off [v]).bind fun cs => J17 r (cs.map AV.p) := by
 have := Jma off 1 [v] cs r
 simpa using this
theorem Jun (env : List (Nat × AV)) (sto : List Blk) (x : Opd) (r : List Opd) : (evs (x :: r)).run ⟨env, sto⟩ = (evv x env).bind fun v => ((evs r).run ⟨env, sto⟩).bind fun vs => some (v :: vs) := by
 simp only [evs, run_bind, J0B]; rfl
theorem Jd5 (env : List (Nat × AV)) (sto : List Blk) {v : AV} (h : J7p v = .ret (v, [])) (r : List AV) : (JB (v :: r)).run ⟨env, sto⟩ = ((JB r).run ⟨env, sto⟩).bind fun a => some (v :: a.1, a.2) := by
 simp only [JB, h, run_bind, J1n, Option.bind_some, List.nil_append]
def frz (b n : Nat) (B : Blk) : Option (AV × (Nat × Blk)) := match B with
 | .arr _ z rows => if n = rows.length then some (.p (.sl z rows), (b, .arr false z rows)) else none
 | _ => none
def frp (b n : Nat) (B : Blk) : Option (PV × (Nat × Blk)) := match B with
 | .arr _ z rows => if n = rows.length then some (.sl z rows, (b, .arr false z rows)) else none
 | _ => none
theorem Jmv (env : List (Nat × AV)) (sto : List Blk) (b n : Nat) : (fz (.slr b 0 n)).run ⟨env, sto⟩ = sto[b]?.bind fun B => (frp b n B).bind fun x => some ([x.1], [x.2]) := by
 simp only [fz, J65]
 cases sto[b]? with
 | none => rfl
 | some B =>
  cases B with
  | arr w z rows =>
   simp only [Option.bind_some, frp, Nat.zero_add, List.drop_zero]
   split <;> rfl
  | _ => rfl
theorem JsH (env : List (Nat × AV)) (sto : List Blk) (b n : Nat) : (fz.fz1 (.slr b 0 n)).run ⟨env, sto⟩ = sto[b]?.bind fun B => (frp b n B).bind fun x => some ([x.1], [x.2]) := by
 simp only [fz.fz1, J65]
 cases sto[b]? with
 | none => rfl
 | some B =>
  cases B with
  | arr w z rows =>
   simp only [Option.bind_some, frp, Nat.zero_add, List.drop_zero]
   split <;> rfl
  | _ => rfl
theorem JrL (env : List (Nat × AV)) (sto : List Blk) (b n : Nat) (r : List AV) : (JB (.slr b 0 n :: r)).run ⟨env, sto⟩ = sto[b]?.bind fun B => (frz b n B).bind fun x => ((JB r).run ⟨env, sto⟩).bind fun a => some (x.1 :: a.1, x.2 :: a.2) := by
 simp only [JB, J7p, run_bind, Jmv]
 cases sto[b]? with
 | none => rfl
 | some B =>
  cases B with
  | arr w z rows =>
   simp only [Option.bind_some, frp, frz]
   split
   ·simp only [Option.bind_some, J1n]; cases (JB r).run ⟨env, sto⟩ <;> rfl
   ·rfl
  | _ => rfl
theorem JqG (env : List (Nat × AV)) (sto : List Blk) (cs r : List AV) : (JB (.agg cs :: r)).run ⟨env, sto⟩ = ((fz.fzL cs).run ⟨env, sto⟩).bind fun x => ((JB r).run ⟨env, sto⟩).bind fun a => some (.data x.1 :: a.1, x.2 ++ a.2) := by
 simp only [JB, J7p, run_bind, fz]
 cases (fz.fzL cs).run ⟨env, sto⟩ with
 | none => rfl
 | some x => simp only [Option.bind_some, J1n]
theorem Js0 (env : List (Nat × AV)) (sto : List Blk) (c : PV) (r : List AV) : (fz.fzL (.p c :: r)).run ⟨env, sto⟩ = ((fz.fzL r).run ⟨env, sto⟩).bind fun a => some (c :: a.1, a.2) := by
 simp only [fz.fzL, fz.fz1, run_bind, J1n, Option.bind_some]; rfl
theorem JqE (env : List (Nat × AV)) (sto : List Blk) (b n : Nat) (r : List AV) : (fz.fzL (.slr b 0 n :: r)).run ⟨env, sto⟩ = sto[b]?.bind fun B => (frp b n B).bind fun x => ((fz.fzL r).run ⟨env, sto⟩).bind fun a => some (x.1 :: a.1, x.2 :: a.2) := by
 simp only [fz.fzL, run_bind, JsH]
 cases sto[b]? with
 | none => rfl
 | some B =>
  simp only [Option.bind_some]
  cases frp b n B with
  | none => rfl
  | some x => simp only [Option.bind_some]; cases (fz.fzL r).run ⟨env, sto⟩ <;> rfl
theorem Jv9 (env : List (Nat × AV)) (sto : List Blk) (b : Nat) : (J6H [] b).run ⟨env, sto⟩ = sto[b]? := by
 simp only [J6H, J65]
 cases sto[b]? <;> rfl
theorem Jsj (env : List (Nat × AV)) (sto : List Blk) (e : Nat) (rows : List (List PV)) : (J02 e (.p (.sl e rows))).run ⟨env, sto⟩ = some rows := by simp [J02]
theorem JqM (env : List (Nat × AV)) (sto : List Blk) (l : List UInt8) : (J02 1 (.p (.s l))).run ⟨env, sto⟩ = some ((J96 l).map (r_i .u8)) := by simp [J02, Jhh]
def roB (e n : Nat) (B : Blk) : Option (List (List PV)) := match B with
 | .arr _ z rows => if e = z ∧ 0 + n = rows.length then some (rows.drop 0) else none
 | _ => none
theorem Jrn (env : List (Nat × AV)) (sto : List Blk) (e b n : Nat) : (J02 e (.slr b 0 n)).run ⟨env, sto⟩ = sto[b]?.bind fun B => roB e n B := by
 simp only [J02, J65]
 cases sto[b]? with
 | none => rfl
 | some B =>
  cases B with
  | arr w z rows => simp only [Option.bind_some, roB]; split <;> rfl
  | _ => rfl
theorem JqF (e n : Nat) (w : Bool) (rows : List (List PV)) : roB e n (.arr w e rows) = if n = rows.length then some rows else none := by simp [roB]
theorem Juc (env : List (Nat × AV)) (sto : List Blk) (x : Opd) (r : List Opd) : (fzs (x :: r)).run ⟨env, sto⟩ = (evv x env).bind fun v => ((fz v).run ⟨env, sto⟩).bind fun a => ((fzs r).run ⟨env, sto⟩).bind fun c => some (a.1 :: c.1, a.2 ++ c.2) := by
 simp only [fzs, run_bind, J0B]; rfl
theorem JpO (env : List (Nat × AV)) (sto : List Blk) (b n : Nat) : (fz (.slr b 0 n)).run ⟨env, sto⟩ = sto[b]?.bind fun B => (frp b n B).bind fun x => some ([x.1], [x.2]) := Jmv ..
theorem JqD (env : List (Nat × AV)) (sto : List Blk) (s : SK) (c : PV) (lo hi : Option AV) : (slR s (.p c) lo hi none).run ⟨env, sto⟩ = (slX s (.p c) lo hi).map fun v => ⟨v, []⟩ := by
 simp only [slR, slX]
 cases J4x s (.p c) lo hi none <;> rfl
theorem Js2 (env : List (Nat × AV)) (sto : List Blk) (s : SK) (b n : Nat) (lo hi : Option AV) : (slR s (.slr b 0 n) lo hi none).run ⟨env, sto⟩ = sto[b]?.bind fun B => (frz b n B).bind fun x => (slX s x.1 lo hi).map fun v => ⟨v, [x.2]⟩ := by
 simp only [slR, run_bind, Jmv]
 cases sto[b]? with
 | none => rfl
 | some B =>
  cases B with
  | arr w z rows =>
   simp only [Option.bind_some, frp, frz]
   split
   ·simp only [Option.bind_some, slX]; cases J4x s (.p (.sl z rows)) lo hi none <;> rfl
   ·rfl
  | _ => rfl
theorem JuA (n : Nat) (live : List Nat) (env : List (Nat × AV)) (sto : List Blk) : J5w n live ⟨env, sto⟩ = if sto.length = n then some ⟨restr live env, sto⟩ else (J8c n sto (restr live env)).bind fun e => (J3p n [] sto (sto.take n)).bind fun l => some ⟨e, l⟩ := by
 simp only [J5w]
 split
 ·rfl
 ·cases J8c n sto (restr live env) with
  | none => rfl
  | some e => cases J3p n [] sto (sto.take n) <;> rfl
theorem Jv4 (m k : Nat) (sto : List Blk) (x : AV) (r : List (Nat × AV)) : J8c m sto ((k, x) :: r) = (fin m [] sto x).bind fun y => (J8c m sto r).bind fun l => some ((k, y) :: l) := by
 simp only [J8c]
 cases fin m [] sto x with
 | none => rfl
 | some y => cases J8c m sto r <;> rfl
theorem Jud (m : Nat) (ids : List Nat) (sto : List Blk) (x : Blk) (r : List Blk) : J3p m ids sto (x :: r) = (J4u m ids sto x).bind fun y => (J3p m ids sto r).bind fun l => some (y :: l) := by
 simp only [J3p]
 cases J4u m ids sto x with
 | none => rfl
 | some y => cases J3p m ids sto r <;> rfl
theorem JsD (m : Nat) (ids : List Nat) (sto : List Blk) (cs : List AV) : J4u m ids sto (.box cs) = (fin.finL m ids sto cs).map .box := by
 simp only [J4u]
 cases fin.finL m ids sto cs <;> rfl
theorem Juu (m : Nat) (ids : List Nat) (sto : List Blk) (x : AV) (r : List AV) : fin.finL m ids sto (x :: r) = (fin m ids sto x).bind fun y => (fin.finL m ids sto r).bind fun l => some (y :: l) := by
 simp only [fin.finL]
 cases fin m ids sto x with
 | none => rfl
 | some y => cases fin.finL m ids sto r <;> rfl
def fsl (k : Option Nat) (n : Nat) (B : Option Blk) : Option AV := match k with
 | some k => some (.slr k 0 n)
 | none => match B with
  | some (.arr _ z rows) => if n = rows.length then some (.p (.sl z rows)) else none
  | _ => none
theorem Jtl (m : Nat) (ids : List Nat) (sto : List Blk) (b n : Nat) : fin m ids sto (.slr b 0 n) = if b < m then some (.slr b 0 n) else fsl (J82 b ids m) n sto[b]? := by
 simp only [fin]
 split
 ·rfl
 ·cases J82 b ids m with
  | some k => rfl
  | none =>
   simp only [fsl]
   cases sto[b]? with
   | none => rfl
   | some B => cases B <;> simp
theorem Jsz (m : Nat) (ids : List Nat) (sto : List Blk) (cs : List AV) : fin m ids sto (.agg cs) = (fin.finL m ids sto cs).bind fun l => some (JmS l (unp l)) := by
 simp only [fin]
 cases fin.finL m ids sto cs with
 | none => rfl
 | some l => simp only [Option.bind_some]; cases unp l <;> rfl
theorem Jst (m : Nat) (ids : List Nat) (sto : List Blk) (x : AV) (cs : List AV) : fin m ids sto (.tup (x :: cs)) = (fin.finL m ids sto (x :: cs)).map .tup := by
 simp only [fin]
 cases fin.finL m ids sto (x :: cs) <;> rfl
theorem JrQ (env : List (Nat × AV)) (sto : List Blk) (t : Nat) (r : List JbD) : (J5J (.tmp t :: r)).run ⟨env, sto⟩ = (lk t env).bind fun v => ((J5J r).run ⟨env, sto⟩).bind fun l => some (v :: l) := by
 simp only [J5J, run_bind, JmA, J1n]
 cases lk t env <;> rfl
theorem Jrk (env : List (Nat × AV)) (sto : List Blk) (t n : Nat) (g : Bool) (r : List JbD) : (J5J (.cell t g n :: r)).run ⟨env, sto⟩ = (lk t env).bind fun v => ((J27 g n v).run ⟨env, sto⟩).bind fun e => ((J5J r).run ⟨env, sto⟩).bind fun l => some (e.val :: l) := by
 simp only [J5J, run_bind, JmA, J1n]
 cases lk t env <;> rfl
def oid (b : Nat) (B : Option Blk) (l : List Nat) : List Nat := match B with
 | some (.box _) => b :: l
 | _ => l
theorem JuI (m b : Nat) (sto : List Blk) (r : List Ent) : J1a m false sto (.whole b :: r) = if b < m then J1a m false sto r else oid b sto[b]? (J1a m false sto r) := by
 simp only [J1a]
 split
 ·rfl
 ·unfold oid
  cases sto[b]? with
  | none => rfl
  | some B => cases B <;> simp
def ebb (B : Option Blk) (acc : List Ent) : List Ent := match B with
 | some (.box cs) => J03.entsOfL cs acc
 | _ => acc
theorem JuP (sto : List Blk) (b : Nat) (r acc : List Ent) : J7s sto (.whole b :: r) acc = J7s sto r (ebb sto[b]? acc) := by
 simp only [J7s, ebb]
 cases sto[b]? with
 | none => rfl
 | some B => cases B <;> rfl
theorem JuS (b c : Nat) (r : List Ent) : J7C (.whole b) (.whole c :: r) = if c = b then .whole c :: r else .whole c :: J7C (.whole b) r := by
 simp only [J7C, List.any_cons]
 by_cases h : c = b
 ·subst h; simp
 ·simp [h]
  split <;> simp_all
theorem Ju6 (sto : List Blk) (b : Nat) (r : List Nat) : J6L sto (b :: r) = sto[b]?.bind fun x => (J6L sto r).bind fun l => some (x :: l) := by
 simp only [J6L]
 cases sto[b]? with
 | none => rfl
 | some x => cases J6L sto r <;> rfl
theorem JqH {α : Type} (a : α) (cs : List α) (n : Nat) : sub (a :: cs) 0 (n + 1) = (sub cs 0 n).map (a :: ·) := by
 rw [J5U, J5U]
 by_cases h : n ≤ cs.length
 ·rw [if_pos (by simp; omega), if_pos (by omega)]; simp
 ·rw [if_neg (by simp; omega), if_neg (by omega)]; rfl
theorem JqL {α : Type} (a : α) (cs : List α) (n m : Nat) : sub (a :: cs) (n + 1) m = sub cs n m := by
 rw [J5U, J5U]
 by_cases h : n + m ≤ cs.length
 ·rw [if_pos (by simp; omega), if_pos h]; simp
 ·rw [if_neg (by simp; omega), if_neg h]
theorem Jrr {α : Type} (a b : α) (cs vs : List α) : spl (a :: cs) 0 (b :: vs) = (spl cs 0 vs).map (b :: ·) := by
 rw [J7d, J7d]
 by_cases h : vs.length ≤ cs.length
 ·rw [if_pos (by simp; omega), if_pos (by omega)]; simp
 ·rw [if_neg (by simp; omega), if_neg (by omega)]; rfl
theorem Jr3 {α : Type} (a : α) (cs : List α) (n : Nat) (vs : List α) : spl (a :: cs) (n + 1) vs = (spl cs n vs).map (a :: ·) := by
 rw [J7d, J7d]
 by_cases h : n + vs.length ≤ cs.length
 ·rw [if_pos (by simp; omega), if_pos h]
  rw [show n + 1 + vs.length = (n + vs.length) + 1 by omega]; simp
 ·rw [if_neg (by simp; omega), if_neg h]; rfl
theorem JrS (off size : Nat) (c : List AV) (a : AV) (cs : List AV) (r : List (Nat × Nat × List AV)) : J17 ((off, size, c) :: r) (a :: cs) = if c.length = size then (spl (a :: cs) off c).bind fun cs => J17 r cs else none := by
 simp only [J17]
 split
 ·cases spl (a :: cs) off c <;> rfl
 ·rfl
theorem Jt5 (m : Nat) (ids : List Nat) (sto : List Blk) (f : FuncId) (a c : List AV) : fin m ids sto (.fn f a c) = (fin.finL m ids sto a).bind fun a1 => (fin.finL m ids sto c).bind fun c1 => some (.fn f a1 c1) := by
 simp only [fin]
 cases fin.finL m ids sto a with
 | none => rfl
 | some a1 => cases fin.finL m ids sto c <;> rfl
def lwO (x y : Option Blk) : Option Blk := match x with
 | some x => some x
 | none => y
theorem Jv3 (b c : Nat) (x : Blk) (r : List (Nat × Blk)) : J2n b ((c, x) :: r) = lwO (J2n b r) (if c = b then some x else none) := by
 simp only [J2n]
 cases J2n b r <;> rfl
theorem Jtn (env : List (Nat × AV)) (sto : List Blk) (b c : Nat) (x : Blk) (ws : List (Nat × Blk)) : (J6H ((c, x) :: ws) b).run ⟨env, sto⟩ = sto[b]?.bind fun y => some ((J2n b ((c, x) :: ws)).getD y) := by
 simp only [J6H, J65]
 cases sto[b]? with
 | none => rfl
 | some y => simp only [Option.bind_some]; cases J2n b ((c, x) :: ws) <;> rfl
@[congr] theorem JvI {α : Type} {u u' : AV} {k : FuncId → List AV → List AV → Option α} (h : u = u') : cvg u k = cvg u' k := by rw [h]
theorem JgR (x : Opd) (s : St) : Je ((ev x).reads s) = [] := by
 cases x with
 | t n => simp only [ev, RM.reads]; cases lk n s.env <;> rfl
 | c v => rfl
theorem JoJ (a b : List Loc) : Je (a ++ b) = Je a ++ Je b := by
 induction a with
 | nil => rfl
 | cons x r ih => cases x <;> simp [Je, ih]
def rb {α β : Type} (m : Option α) (f : α → List β) : List β := match m with
 | some a => f a
 | none => []
theorem J1e {α β : Type} (m : RM α) (f : α → RM β) (s : St) : Je ((m.bind f).reads s) = Je (m.reads s) ++ rb (m.run s) fun a => Je ((f a).reads s) := by
 rw [J9R, JoJ]
 cases m.run s <;> rfl
theorem Jb9 {β : Type} (x : Opd) (f : AV → RM β) (s : St) : Je (((ev x).bind f).reads s) = rb (evv x s.env) fun a => Je ((f a).reads s) := by
 rw [J1e, JgR, J0B]; rfl
theorem Jc4 (o : Option AV) (s : St) : Je ((Go.Am.val o).reads s) = [] := by cases o <;> rfl
section
variable (F : Orc) (new : Nat) (env : List (Nat × AV)) (sto : List Blk)
theorem Jbg {op : AOp} (h : JG op = 0) (s : St) : rdO F op new s = Je ((opR F op new).reads s) := by
 unfold rdO opD
 rw [J1e, h]; rfl
def is1 (b : Option Blk) : Option Unit := match b with
 | some .dead => some ()
 | _ => none
theorem Jlj {op : AOp} (h : JG op = 1) (s : St) : rdO F op new s = new :: rb (is1 s.sto[new]?) fun _ => Je ((opR F op new).reads s) := by
 unfold rdO opD
 rw [J1e, h]
 simp only [J6l, RM.reads, RM.run, Je]
 cases s.sto[new]? with
 | none => rfl
 | some b => cases b <;> rfl
end
theorem Jlx {α β : Type} (m : Option α) : (rb m fun _ => ([] : List β)) = [] := by cases m <;> rfl
theorem Jt3 (F : Orc) (new : Nat) (env : List (Nat × AV)) (sto : List Blk) (g : Bool) (n : Nat) (x : Opd) : rdO F (.load g n x) new ⟨env, sto⟩ = rb (evv x env) fun a => Je ((J27 g n a).reads ⟨env, sto⟩) := by
 rw [Jbg (h := rfl)]; exact Jb9 ..
theorem Jt9 (s : St) (g : Bool) (n b o : Nat) : Je ((J27 g n (.ptr b o)).reads s) = [b] := by
 simp only [J27, RM.reads, Je]
 cases s.sto[b]? with
 | none => rfl
 | some B =>
  cases B with
  | box cs => simp only []; cases sub cs o n with
   | none => rfl
   | some l => simp only [Jc4]
  | _ => rfl
theorem Jv8 (s : St) (g : Bool) (n o : Nat) (cs : List PV) : Je ((J27 g n (.cp cs o)).reads s) = [] := by
 simp only [J27]
 cases sub cs o n with
 | none => rfl
 | some l => exact Jc4 ..
theorem JuJ (s : St) (g : Bool) (n b e i o : Nat) : Je ((J27 g n (.ep b e i o)).reads s) = [b] := by
 simp only [J27, RM.reads, Je]
 cases s.sto[b]? with
 | none => rfl
 | some B =>
  cases B with
  | arr w z rows =>
   simp only []
   split
   ·cases rows[i]? with
    | none => rfl
    | some row =>
     simp only []
     cases sub row o n with
     | none => rfl
     | some l => simp only [Jc4]
   ·rfl
  | _ => rfl
theorem JpM (F : Orc) (new : Nat) (s : St) (z : List PV) : rdO F (.newbox z) new s = [new] := by
 rw [Jlj (h := rfl)]; simp only [opR, RM.reads, Je, Jlx]
theorem Jr5 (F : Orc) (new : Nat) (env : List (Nat × AV)) (sto : List Blk) (n : Nat) (x y : Opd) : rdO F (.store n x y) new ⟨env, sto⟩ = rb (evv x env) fun a => rb (evv y env) fun c => Je ((J1D n a c).reads ⟨env, sto⟩) := by
 rw [Jbg (h := rfl)]
 simp only [opR, Jb9]
theorem Jtq (s : St) (n b o : Nat) (v : AV) : Je ((J1D n (.ptr b o) v).reads s) = [b] := by
 simp only [J1D, RM.reads, Je]
 cases s.sto[b]? with
 | none => rfl
 | some B =>
  cases B with
  | box cs =>
   simp only []
   cases cellsOf v with
   | none => rfl
   | some l =>
    simp only []
    split
    ·cases spl cs o l <;> rfl
    ·rfl
  | _ => rfl
theorem Jpn (s : St) (n b e i o : Nat) {v : AV} {c : List PV} (hv : fz v = .ret (c, [])) : Je ((J1D n (.ep b e i o) v).reads s) = [b] := by
 simp only [J1D, RM.reads, Je]
 cases s.sto[b]? with
 | none => rfl
 | some B =>
  cases B with
  | arr w z rows =>
   cases w with
   | false => rfl
   | true =>
    simp only []
    split
    ·cases rows[i]? with
     | none => rfl
     | some row =>
      simp only [hv, J1e, RM.reads, Je, J1n, rb, List.nil_append]
      split
      ·cases spl row o c <;> rfl
      ·rfl
    ·rfl
  | _ => rfl
theorem Jr0 (s : St) (n b e i o : Nat) (c : PV) : Je ((J1D n (.ep b e i o) (.p c)).reads s) = [b] := Jpn s n b e i o rfl
theorem JrT (s : St) (n b e i o : Nat) (c : List PV) : Je ((J1D n (.ep b e i o) (.data c)).reads s) = [b] := Jpn s n b e i o rfl
theorem Jez (s : St) : ∀ args, Je ((evs args).reads s) = []
 | [] => rfl
 | x :: r => by
  simp only [evs, Jb9]
  cases evv x s.env with
  | none => rfl
  | some v =>
   simp only [rb, J1e, Jez s r, List.nil_append]
   cases (evs r).run s <;> rfl
theorem JhL (F : Orc) (g : FuncId) (args : List Opd) (n new : Nat) (s : St) : Je ((opR F (.call g args n) new).reads s) = rb ((evs args).run s) fun a => Je ((JB a).reads s) ++ rb ((JB a).run s) fun a => Je ((Jj F g a n new).reads s) := by
 simp only [opR, J1e, Jez, List.nil_append, Jbs]
theorem JrC (F : Orc) (new : Nat) (s : St) (g : FuncId) (args : List Opd) : rdO F (.call g args 0) new s = rb ((evs args).run s) fun a => Je ((JB a).reads s) ++ rb ((JB a).run s) fun a => Je ((Jj F g a 0 new).reads s) := by
 rw [Jbg (h := rfl)]; exact JhL ..
theorem JqV (F : Orc) (new : Nat) (s : St) (g : FuncId) (args : List Opd) : rdO F (.call g args 1) new s = new :: rb (is1 s.sto[new]?) fun _ => rb ((evs args).run s) fun a => Je ((JB a).reads s) ++ rb ((JB a).run s) fun a => Je ((Jj F g a 1 new).reads s) := by
 rw [Jlj (h := rfl)]; simp only [JhL]
theorem JbM (s : St) {v : AV} (h : J7p v = .ret (v, [])) (r : List AV) : Je ((JB (v :: r)).reads s) = Je ((JB r).reads s) := by
 simp only [JB, h, J1e, RM.reads, Je, J1n, rb, List.nil_append]
 cases (JB r).run s <;> simp [RM.reads, Je]
theorem Jff (s : St) (b n : Nat) : Je ((fz (.slr b 0 n)).reads s) = [b] := by
 simp only [fz, RM.reads, Je]
 cases s.sto[b]? with
 | none => rfl
 | some B =>
  cases B with
  | arr w z rows => simp only []; split <;> rfl
  | _ => rfl
theorem JtS (s : St) (b n : Nat) (r : List AV) : Je ((JB (.slr b 0 n :: r)).reads s) = b :: rb ((J7p (.slr b 0 n)).run s) fun _ => Je ((JB r).reads s) := by
 have h1 : Je ((J7p (.slr b 0 n)).reads s) = [b] := by
  simp only [J7p, J1e, Jff]
  cases (fz (.slr b 0 n)).run s with
  | none => rfl
  | some a =>
   simp only [rb]
   match a.1 with
   | [] => rfl
   | [_] => rfl
   | _ :: _ :: _ => rfl
 simp only [JB, J1e, h1]
 cases (J7p (.slr b 0 n)).run s with
 | none => rfl
 | some a => simp only [rb]; cases (JB r).run s <;> simp [RM.reads, Je]
theorem J18 {F : Orc} {f : FuncId} {args : List AV} (hp : args.all J3X = true) (ws : List (Nat × Blk)) (k new : Nat) (s : St) : Je ((Jj F f (args, ws) k new).reads s) = [] := by
 have e1 : J03.entsOfL args [] = [] := J6A hp
 simp only [Jj, e1, J6S, J1e, RM.reads, Je, J1n, rb, List.nil_append, List.map_nil, J3L, if_true, J8a hp, J4y]
 cases F f args [] with
 | none => rfl
 | some r =>
  simp only []
  split
  ·simp only [List.length_nil, List.drop_zero]
   cases bk [] new r.1 with
   | none => rfl
   | some v =>
    cases J3G [] new new r.2 with
    | none => rfl
    | some fr => simp only [J2P, J1e, RM.reads, Je, J1n, rb, List.nil_append]
  ·rfl
def cvl {α : Type} (u : AV) (k : FuncId → List AV → List AV → List α) : List α := match u with
 | .fn f a c => k f a c
 | _ => []
theorem Jih (ws : List (Nat × Blk)) (b : Nat) (s : St) : Je ((J6H ws b).reads s) = [b] := by
 simp only [J6H, RM.reads, Je]
 cases s.sto[b]? with
 | none => rfl
 | some B => simp only []; cases J2n b ws <;> rfl
theorem JjL {ws : List (Nat × Blk)} {s : St} : ∀ {bs : List Nat} {css : List (List AV)} {acc : List Ent}, J07 ws s bs css → Jm css = true → Je ((J6S ws (bs.map .whole) acc).reads s) = bs
 | [], [], _, _, _ => rfl
 | b :: bs, cs :: css, acc, h, hp => by
  simp only [Jm, List.all_cons, Bool.and_eq_true] at hp
  simp only [List.map_cons, J6S, J1e, Jih, h.1, rb, J6A hp.1]
  rw [JjL (bs := bs) (css := css) h.2 hp.2]
  rfl
theorem Jmu {ws : List (Nat × Blk)} {s : St} {ρ : Ent → Option Nat} : ∀ {bs : List Nat} {css : List (List AV)}, J07 ws s bs css → Jm css = true → Je ((J4y ws ρ (bs.map .whole)).reads s) = bs
 | [], [], _, _ => rfl
 | b :: bs, cs :: css, h, hp => by
  simp only [Jm, List.all_cons, Bool.and_eq_true] at hp
  have h2 := Jmu (ρ := ρ) (bs := bs) (css := css) h.2 hp.2
  have h3 := Jds (ρ := ρ) (bs := bs) (css := css) h.2 hp.2
  simp only [List.map_cons, J4y, J1e, Jci, Jih, h.1, rb, J8a hp.1, RM.reads, Je, run_bind, Option.bind_some, J1n, h2, h3, List.append_nil]
  rfl
theorem JjD {ws : List (Nat × Blk)} {s : St} {es : List Ent} {new : Nat} : ∀ (bs : List Nat) (xs : List Blk), Je ((J2P ws es new (bs.map .whole) xs).reads s) = []
 | [], _ => rfl
 | b :: bs, [] => rfl
 | b :: bs, B :: l => by
  have g6 : Je ((J8S ws es new (Ent.whole b) B).reads s) = [] := by
   cases B with
   | box cs => simp only [J8S]; cases bk.bkL es new cs <;> rfl
   | _ => rfl
  simp only [List.map_cons, J2P, J1e, g6, List.nil_append]
  cases (J8S ws es new (Ent.whole b) B).run s with
  | none => rfl
  | some y =>
   simp only [rb, JjD bs l, List.nil_append]
   cases (J2P ws es new (bs.map .whole) l).run s <;> rfl
theorem J8O {F : Orc} {f : FuncId} {args args' : List AV} {bs : List Nat} {css : List (List AV)} (he : J03.entsOfL args [] = bs.map .whole) (hn : J3L bs = true)
  (hr : ren.renL (fun e => J3m e (bs.map .whole) 0) args = some args') (hp : Jm css = true) (ws : List (Nat × Blk)) (k new : Nat) (s : St) (hb : J07 ws s bs css) :
  Je ((Jj F f (args, ws) k new).reads s) = bs ++ (bs ++ bs) := by
 have e0 : (bs.map Ent.whole).map Ent.id = bs := by rw [List.map_map]; exact List.map_id bs
 simp only [Jj, he, J1e, JjL hb hp, Jfl hb hp, rb, e0, hn, if_true, hr, Jmu hb hp, Jds hb hp]
 congr 2
 cases F f args' (css.map .box) with
 | none => simp [RM.reads, Je]
 | some r =>
  simp only []
  split
  ·cases bk (bs.map Ent.whole) new r.1 with
   | none => simp [RM.reads, Je]
   | some v =>
    cases J3G (bs.map Ent.whole) new new (r.2.drop (bs.map Ent.whole).length) with
    | none => simp [RM.reads, Je]
    | some fr =>
     simp only [J1e, JjD, List.nil_append]
     cases (J2P ws (bs.map Ent.whole) new (bs.map Ent.whole) r.2).run s <;> simp [rb, RM.reads, Je]
  ·simp [RM.reads, Je]
theorem Jqu (F : Orc) (new : Nat) (env : List (Nat × AV)) (sto : List Blk) (g : Opd) (args : List Opd) : rdO F (.callv g args 0) new ⟨env, sto⟩ = rb (evv g env) fun u => cvl u fun h a1 c1 => rb ((evs args).run ⟨env, sto⟩) fun a => Je ((JB (a1 ++ a ++ c1)).reads ⟨env, sto⟩) ++ rb ((JB (a1 ++ a ++ c1)).run ⟨env, sto⟩) fun a => Je ((Jj F h a 0 new).reads ⟨env, sto⟩) := by
 rw [Jbg (h := rfl)]
 simp only [opR, J1e, JgR, J0B, List.nil_append]
 cases evv g env with
 | none => rfl
 | some u =>
  simp only [rb]
  cases u <;> first | rfl | skip
  simp only [cvl, J1e, Jez, List.nil_append]
  cases (evs args).run ⟨env, sto⟩ with
  | none => rfl
  | some a => simp only [rb, Jbs, J1e]
theorem JjQ (s : St) (o : Bool) (e n new : Nat) (z : List PV) (ps : List (Nat × Opd)) : Je ((ltR o e n z ps new).reads s) = Je ((fzs (ps.map (·.2))).reads s) := by
 simp only [ltR, J1e]
 cases (fzs (ps.map (·.2))).run s with
 | none => simp [rb]
 | some a =>
  simp only [rb]
  cases J40 e ((ps.map (·.1)).zip a.1) (List.replicate n z) with
  | none => simp [RM.reads, Je]
  | some rows => cases o <;> simp [RM.reads, Je]
theorem JrR (F : Orc) (new : Nat) (s : St) (e n : Nat) (z : List PV) (ps : List (Nat × Opd)) : rdO F (.lits false e n z ps) new s = Je ((fzs (ps.map (·.2))).reads s) := by
 rw [Jbg (h := rfl)]; exact JjQ ..
theorem Jrm (F : Orc) (new : Nat) (s : St) (e n : Nat) (z : List PV) (ps : List (Nat × Opd)) : rdO F (.lits true e n z ps) new s = new :: rb (is1 s.sto[new]?) fun _ => Je ((fzs (ps.map (·.2))).reads s) := by
 rw [Jlj (h := rfl)]
 congr 2; funext _
 exact JjQ ..
theorem Jup (s : St) (x : Opd) (r : List Opd) : Je ((fzs (x :: r)).reads s) = rb (evv x s.env) fun v => Je ((fz v).reads s) ++ rb ((fz v).run s) fun _ => Je ((fzs r).reads s) := by
 have e0 : fzs (x :: r) = (ev x).bind fun v => (fz v).bind fun a => (fzs r).bind fun c => .ret (a.1 :: c.1, a.2 ++ c.2) := rfl
 rw [e0, Jb9]
 cases evv x s.env with
 | none => rfl
 | some v =>
  dsimp only [rb]
  rw [J1e]
  cases (fz v).run s with
  | none => rfl
  | some a =>
   dsimp only [rb]
   rw [J1e]
   cases (fzs r).run s <;> simp [rb, RM.reads, Je]
theorem JrD (F : Orc) (new : Nat) (s : St) (x : Opd) : rdO F (.conv .toStr x) new s = rb (evv x s.env) fun a => Je ((J02 1 a).reads s) := by
 rw [Jbg (h := rfl)]
 simp only [opR, Jb9]
 congr 1; funext a
 simp only [J1e]
 cases (J02 1 a).run s with
 | none => simp [rb]
 | some rows => simp only [rb]; cases J5C rows <;> simp [RM.reads, Je]
theorem Jq5 (s : St) (e b n : Nat) : Je ((J02 e (.slr b 0 n)).reads s) = [b] := by
 simp only [J02, RM.reads, Je]
 cases s.sto[b]? with
 | none => rfl
 | some B =>
  cases B with
  | arr w z rows => simp only []; split <;> rfl
  | _ => rfl
theorem Jmz (s : St) (e z : Nat) (rows : List (List PV)) : Je ((J02 e (.p (.sl z rows))).reads s) = [] := by
 simp only [J02]; split <;> rfl
theorem Jrg (F : Orc) (new : Nat) (s : St) (e : Nat) (x i : Opd) : rdO F (.iaddr e x i) new s = rb (evv x s.env) fun a => rb (evv i s.env) fun c => Je ((J2T e a c).reads s) := by
 rw [Jbg (h := rfl)]; simp only [opR, Jb9]
theorem Jq4 (s : St) (e b n : Nat) (k : IntKind) (i : Int) : Je ((J2T e (.slr b 0 n) (.p (.i k i))).reads s) = [b] := by
 simp only [J2T, RM.reads, Je]
 cases s.sto[b]? with
 | none => rfl
 | some B =>
  cases B with
  | arr w z rows => simp only []; split <;> rfl
  | _ => rfl
theorem Jru (s : St) (e z : Nat) (rows : List (List PV)) (k : IntKind) (i : Int) : Je ((J2T e (.p (.sl z rows)) (.p (.i k i))).reads s) = [] := by
 simp only [J2T]
 split
 ·cases Jbl rows i <;> rfl
 ·rfl
def slT (k : SK) (lo hi mx : Option Opd) (a : AV) : RM Eff := (evo lo).bind fun lo => (evo hi).bind fun hi => (evo mx).bind fun mx =>
  match a with
  | .slr b i n => (fz (.slr b i n)).bind fun y => match y.1 with
   | [c] => match J4x k (.p c) lo hi mx with
    | some v => .ret ⟨v, y.2⟩
    | none => .fail
   | _ => .fail
  | a => val (J4x k a lo hi mx)
theorem Jpp (x : Option Opd) (s : St) : Je ((evo x).reads s) = [] := by
 cases x with
 | none => rfl
 | some x =>
  simp only [evo, J1e, JgR, List.nil_append]
  cases (ev x).run s <;> rfl
theorem JpL (F : Orc) (new : Nat) (s : St) (k : SK) (x : Opd) (lo hi mx : Option Opd) : rdO F (.slice k x lo hi mx) new s = rb (evv x s.env) fun a => Je ((slT k lo hi mx a).reads s) := by
 rw [Jbg (h := rfl)]
 simp only [opR, Jb9]
 rfl
theorem JtM (s : St) (k : SK) (lo hi mx : Option Opd) (c : PV) : Je ((slT k lo hi mx (.p c)).reads s) = [] := by
 simp only [slT, J1e, Jpp, List.nil_append, Jc4, Jlx]
theorem JtL (F : Orc) (new : Nat) (s : St) (e b : Nat) (z : List PV) (y : Opd) : rdO F (.appn e b z y) new s = new :: rb (is1 s.sto[new]?) fun _ => rb (evv y s.env) fun a => Je ((J02 e a).reads s) := by
 rw [Jlj (h := rfl)]
 simp only [opR, Jb9]
 refine congrArg (List.cons new) (congrArg (rb _) (funext fun _ => congrArg (rb _) (funext fun a => ?_)))
 simp only [J1e]
 have : ∀ rows : List (List PV), Je ((if J5P rows.length b then (.ret ⟨.slr new 0 rows.length, [(new, .arr true e rows)]⟩ : RM Eff) else .fail).reads s) = [] := fun rows => by split <;> rfl
 simp only [this, Jlx, List.append_nil]
theorem Ju9 (F : Orc) (new : Nat) (s : St) (e b : Nat) (z : List PV) (x y : Opd) : rdO F (.app e b z x y) new s = rb (evv x s.env) fun a => rb (evv y s.env) fun c => Je ((J4L e b a c).reads s) := by
 rw [Jbg (h := rfl)]; simp only [opR, Jb9]
theorem Jt7 (s : St) (e bytes b i n : Nat) (c : PV) (hc : ∀ s, Je ((J02 e (.p c)).reads s) = []) : Je ((J4L e bytes (.slr b i n) (.p c)).reads s) = [b] := by
 simp only [J4L, RM.reads, Je]
 cases s.sto[b]? with
 | none => rfl
 | some B =>
  cases B with
  | arr w z rows =>
   simp only [J1e, hc, List.nil_append]
   congr 1
   cases (J02 e (.p c)).run s with
   | none => rfl
   | some new => simp only [rb]; split <;> rfl
  | _ => rfl
theorem JqS (s : St) (e bytes b n z : Nat) (rows : List (List PV)) : Je ((J4L e bytes (.slr b 0 n) (.p (.sl z rows))).reads s) = [b] := Jt7 s e bytes b 0 n (.sl z rows) fun s => Jmz s e z rows
theorem JuE (env : List (Nat × AV)) (sto : List Blk) (l : List Int) (new : Nat) : (cvR .toStr (.p (.sl 1 (l.map (r_i .u8)))) new).run ⟨env, sto⟩ = some ⟨.p (.s (toStr l)), []⟩ := Jre ..
theorem Jvr (n : Nat) (w : Bool) (l : List Int) : cvB n (.arr w 1 (l.map (r_i .u8))) = if n = l.length then some ⟨.p (.s (toStr l)), []⟩ else none := JsQ ..
theorem fr (b n z : Nat) (w : Bool) (rows : List (List PV)) : frz b n (.arr w z rows) = if n = rows.length then some (.p (.sl z rows), (b, .arr false z rows)) else none := rfl
theorem mk (o : Bool) (e b new : Nat) (z : List PV) (k k2 : IntKind) (n m : Int) : mkP o e b z (.p (.i k n)) (.p (.i k2 m)) new = if 0 ≤ n ∧ n ≤ m ∧ b * m ≤ 281474976710656 ∧ m ≤ 281474976710656 then some (if o then ⟨.slr new 0 n.toNat, [(new, .arr true e (List.replicate n.toNat z))]⟩ else ⟨.p (.sl e (List.replicate n.toNat z)), []⟩) else none := rfl
theorem cl (n : Nat) (live : List Nat) (env : List (Nat × AV)) (sto : List Blk) : J5w n live ⟨env, sto⟩ = if sto.length = n then some ⟨restr live env, sto⟩ else (J8c n sto (restr live env)).bind fun e => (J3p n [] sto (sto.take n)).bind fun l => some ⟨e, l⟩ := JuA ..
theorem JuK {α : Type} (l : List α) : [] ++ l = l := rfl
theorem Jua {α : Type} (l : List α) : l ++ [] = l := List.append_nil l
theorem JuN {α : Type} (a : α) (l r : List α) : (a :: l) ++ r = a :: (l ++ r) := rfl
theorem JuT {α β : Type} (g : α → β) : List.map g [] = [] := rfl
theorem Juf {α β : Type} (g : α → β) (a : α) (l : List α) : List.map g (a :: l) = g a :: List.map g l := rfl
theorem Jv6 {α : Type} : ([] : List α).length = 0 := rfl
theorem Jv5 {α : Type} (a : α) (l : List α) : (a :: l).length = l.length + 1 := rfl
theorem Jul (k : IntKind) (n : Int) : r_i k n = [.i k n] := rfl
theorem Juj (x : Bool) : r_b x = [.b x] := rfl
theorem Jsp (x : List UInt8) : r_s x = [.s x] := rfl
theorem Jux {α : Type} (e : Nat) (g : α → List PV) (l : List α) : Jje e g l = [.sl e (l.map g)] := rfl
theorem s1 (a : PV) : sub [a] 0 1 = some [a] := rfl
set_option maxRecDepth 30000 in
theorem Da : (∀ T f m k s, rk T f m k (X T .skip s) = rk T f m k (some (.normal, s))) ∧
 (∀ T f m k a b s, rk T f m k (X T (.seq a b) s) = rk T f m (.sq b :: k) (X T a s)) ∧
 (∀ T f m k d ins env sto, rk T f m k (X T (.reg d [] ins) ⟨env, sto⟩) = rk T f m k (Jsd (Jn (AF T) ins sto.length ⟨env, room (news ins) sto⟩ none))) ∧
 (∀ T f m k d q ps ins env sto, rk T f m k (X T (.reg d (q :: ps) ins) ⟨env, sto⟩) = rk T f m k (JoH (q :: ps) (Jn (AF T) ins sto.length ⟨env, room (news ins) sto⟩ (some [])))) ∧
 (∀ T f m k i c s, rk T f m k (X T (.block i c) s) = rk T f m (.bl i :: k) (X T c s)) ∧
 (∀ T f m k c s, rk T f m k (X T (.scope c) s) = rk T f m k (X T c s)) ∧
 (∀ T f m k i s, rk T f m k (X T (.exit i) s) = rk T f m k (some (.exit i, s))) ∧
 (∀ T f m k s, rk T f m k (X T .ret s) = rk T f m k (some (.ret, s))) ∧
 (∀ T f m k live c env sto, rk T f m k (X T (.keep live c) ⟨env, sto⟩) = rk T f m k (X T c ⟨restr live env, sto⟩)) ∧
 (∀ T f m k live c env sto, rk T f m k (X T (.tidy live c) ⟨env, sto⟩) = rk T f m (.td sto.length live :: k) (X T c ⟨env, sto⟩)) ∧
 (∀ T f m k live c env sto, rk T f m k (X T (.loop live c) ⟨env, sto⟩) = rk T f m k (X T (.lp sto.length live c) ⟨restr live env, sto⟩)) ∧
 (∀ T f m k x a b env sto, rk T f m k (X T (.cond x a b) ⟨env, sto⟩) = rk T f m k (cnd (evv x env) (hold (X T a ⟨env, sto⟩) (.mk _)) (hold (X T b ⟨env, sto⟩) (.mk _)) (hold (fun _ => same (X T a ⟨env, sto⟩) (X T b ⟨env, sto⟩)) (.mk _)))) ∧
 (∀ a b h c, cnd (some (.p (.b true))) (hold a h) b c = a) ∧
 (∀ a b h c, cnd (some (.p (.b false))) a (hold b h) c = b) ∧
 (∀ T f m k b s, rk T f m (.sq b :: k) (some (.normal, s)) = rk T f m k (X T b s)) ∧
 (∀ T f m k b i s, rk T f m (.sq b :: k) (some (.exit i, s)) = rk T f m k (some (.exit i, s))) ∧
 (∀ T f m k b s, rk T f m (.sq b :: k) (some (.ret, s)) = rk T f m k (some (.ret, s))) ∧
 (∀ T f m k i s, rk T f m (.bl i :: k) (some (.normal, s)) = rk T f m k (some (.normal, s))) ∧
 (∀ T f m k i j s, rk T f m (.bl i :: k) (some (.exit j, s)) = if j = i then rk T f m k (some (.normal, s)) else rk T f m k (some (.exit j, s))) ∧
 (∀ T f m k i s, rk T f m (.bl i :: k) (some (.ret, s)) = rk T f m k (some (.ret, s))) ∧
 (∀ T f m k n live e s, rk T f m (.td n live :: k) (some (e, s)) = rk T f m k (tdn e (J5w n live s))) ∧
 (∀ e s, tdn e (some s) = some (e, s)) ∧
 (∀ T f m k n live c s, rk T f m (.lo n live c :: k) (some (.normal, s)) = rk T f m k (again T n live c (J5w n live s))) ∧
 (∀ T n live c s, again T n live c (some s) = X T (.lp n live c) s) ∧
 (∀ T f m k n live c i s, rk T f m (.lo n live c :: k) (some (.exit i, s)) = rk T f m k (some (.exit i, s))) ∧
 (∀ T f m k n live c s, rk T f m (.lo n live c :: k) (some (.ret, s)) = rk T f m k (some (.ret, s))) ∧
 (∀ T f m s, rk T f m [] (some (.normal, s)) = JgM f.res f.fresh m s) ∧
 (∀ T f m s, rk T f m [] (some (.ret, s)) = JgM f.res f.fresh m s) ∧
 (∀ s l, Jsd (some (s, l)) = some (.normal, s)) ∧
 (∀ s l ps, JoH ps (some (s, some l)) = if J8p l ps = true then some (.normal, s) else none) ∧
 (∀ l, J8p l [] = true) ∧
 (∀ l i j ps, J8p l ((i, j) :: ps) = (pkk l[i]? l[j]? && J8p l ps)) ∧
 (∀ a b, lgA none a b = none) ∧
 (∀ l a b, lgA (some l) a b = some (l ++ [(a, b)])) ∧
 (∀ {α : Type} (a : α) (l : List α), (a :: l)[0]? = some a) ∧
 (∀ {α : Type} (a : α) (l : List α) (n : Nat), (a :: l)[n + 1]? = l[n]?) ∧
 (∀ F new s lg, Jn F [] new s lg = some (s, lg)) ∧
 (∀ F r new env sto lg d x, Jn F (⟨.mv x, some d, none⟩ :: r) new ⟨env, sto⟩ lg = (evv x env).bind fun v => Jn F r new ⟨(d, v) :: env, sto⟩ (lgA lg (rdO F (.mv x) new ⟨env, sto⟩) [])) ∧
 (∀ F r new env sto lg d c a b, Jn F (⟨.pick c a b, some d, none⟩ :: r) new ⟨env, sto⟩ lg = (evv c env).bind fun u => pkh u (evv a env) (evv b env) (hold (fun v => Jn F r new ⟨(d, v) :: env, sto⟩ (lgA lg (rdO F (.pick c a b) new ⟨env, sto⟩) [])) (.mk _))) ∧
 (∀ F r new env sto lg d op t x y, Jn F (⟨.bin op t x y, some d, none⟩ :: r) new ⟨env, sto⟩ lg = (evv x env).bind fun a => (evv y env).bind fun c => (J0A op t a c).bind fun v => Jn F r new ⟨(d, v) :: env, sto⟩ (lgA lg (rdO F (.bin op t x y) new ⟨env, sto⟩) [])) ∧
 (∀ F r new env sto lg d op x, Jn F (⟨.un op x, some d, none⟩ :: r) new ⟨env, sto⟩ lg = (evv x env).bind fun a => (unP op a).bind fun v => Jn F r new ⟨(d, v) :: env, sto⟩ (lgA lg (rdO F (.un op x) new ⟨env, sto⟩) [])) ∧
 (∀ F r new env sto lg d g off n x, Jn F (⟨.field g off n x, some d, none⟩ :: r) new ⟨env, sto⟩ lg = (evv x env).bind fun a => (J5p g off n a).bind fun v => Jn F r new ⟨(d, v) :: env, sto⟩ (lgA lg (rdO F (.field g off n x) new ⟨env, sto⟩) [])) ∧
 (∀ F r new env sto lg d off x, Jn F (⟨.faddr off x, some d, none⟩ :: r) new ⟨env, sto⟩ lg = (evv x env).bind fun a => (JaL off a).bind fun v => Jn F r new ⟨(d, v) :: env, sto⟩ (lgA lg (rdO F (.faddr off x) new ⟨env, sto⟩) [])) ∧
 (∀ F r new env sto lg d x i, Jn F (⟨.extr x i, some d, none⟩ :: r) new ⟨env, sto⟩ lg = (evv x env).bind fun a => (JfA i a).bind fun v => Jn F r new ⟨(d, v) :: env, sto⟩ (lgA lg (rdO F (.extr x i) new ⟨env, sto⟩) [])) ∧
 (∀ F r new env sto lg d b x, Jn F (⟨.len b x, some d, none⟩ :: r) new ⟨env, sto⟩ lg = (evv x env).bind fun a => (JeT b a).bind fun v => Jn F r new ⟨(d, v) :: env, sto⟩ (lgA lg (rdO F (.len b x) new ⟨env, sto⟩) [])) ∧
 (∀ F r new env sto lg d n, Jn F (⟨.alen n, some d, none⟩ :: r) new ⟨env, sto⟩ lg = Jn F r new ⟨(d, .p (.i .i64 n)) :: env, sto⟩ (lgA lg (rdO F (.alen n) new ⟨env, sto⟩) [])) ∧
 (∀ F r new env sto lg d b x y, Jn F (⟨.mm b x y, some d, none⟩ :: r) new ⟨env, sto⟩ lg = (evv x env).bind fun a => (evv y env).bind fun c => (mmP b a c).bind fun v => Jn F r new ⟨(d, v) :: env, sto⟩ (lgA lg (rdO F (.mm b x y) new ⟨env, sto⟩) [])) ∧
 (∀ F r new env sto lg d n e x i, Jn F (⟨.aaddr n e x i, some d, none⟩ :: r) new ⟨env, sto⟩ lg = (evv x env).bind fun a => (evv i env).bind fun c => (JaI n e a c).bind fun v => Jn F r new ⟨(d, v) :: env, sto⟩ (lgA lg (rdO F (.aaddr n e x i) new ⟨env, sto⟩) [])) ∧
 (∀ F r new env sto lg d e x i, Jn F (⟨.iaddr e x i, some d, none⟩ :: r) new ⟨env, sto⟩ lg = (evv x env).bind fun a => (evv i env).bind fun c => ((J2T e a c).run ⟨env, sto⟩).bind fun q => Jn F r new ⟨(d, q.val) :: env, upd q.ws sto⟩ (lgA lg (rdO F (.iaddr e x i) new ⟨env, sto⟩) (q.ws.map (·.1)))) ∧
 (∀ F r new env sto lg d x i, Jn F (⟨.sidx x i, some d, none⟩ :: r) new ⟨env, sto⟩ lg = (evv x env).bind fun a => (evv i env).bind fun c => (Jj0 a c).bind fun v => Jn F r new ⟨(d, v) :: env, sto⟩ (lgA lg (rdO F (.sidx x i) new ⟨env, sto⟩) [])) ∧
 (∀ F r new env sto lg d g n e x i, Jn F (⟨.aidx g n e x i, some d, none⟩ :: r) new ⟨env, sto⟩ lg = (evv x env).bind fun a => (evv i env).bind fun c => (Jhx g n e a c).bind fun v => Jn F r new ⟨(d, v) :: env, sto⟩ (lgA lg (rdO F (.aidx g n e x i) new ⟨env, sto⟩) [])) ∧
 (∀ F r new env sto lg d x, Jn F (⟨.nilchk x, some d, none⟩ :: r) new ⟨env, sto⟩ lg = (evv x env).bind fun a => (Jmg a).bind fun v => Jn F r new ⟨(d, v) :: env, sto⟩ (lgA lg (rdO F (.nilchk x) new ⟨env, sto⟩) [])) ∧
 (∀ F r new env sto lg d g n x, Jn F (⟨.load g n x, some d, none⟩ :: r) new ⟨env, sto⟩ lg = (evv x env).bind fun a => ((J27 g n a).run ⟨env, sto⟩).bind fun q => Jn F r new ⟨(d, q.val) :: env, upd q.ws sto⟩ (lgA lg (rdO F (.load g n x) new ⟨env, sto⟩) (q.ws.map (·.1)))) ∧
 (∀ F r new env sto lg n x y, Jn F (⟨.store n x y, none, none⟩ :: r) new ⟨env, sto⟩ lg = (evv x env).bind fun a => (evv y env).bind fun c => ((J1D n a c).run ⟨env, sto⟩).bind fun q => Jn F r new ⟨env, upd q.ws sto⟩ (lgA lg (rdO F (.store n x y) new ⟨env, sto⟩) (q.ws.map (·.1)))) ∧
 (∀ F r new env sto lg d c x, Jn F (⟨.conv c x, some d, none⟩ :: r) new ⟨env, sto⟩ lg = (evv x env).bind fun a => dds (JG (.conv c x)) new sto (((cvR c a new).run ⟨env, sto⟩).bind fun e => Jn F r (new + JG (.conv c x)) ⟨(d, e.val) :: env, upd e.ws sto⟩ (lgA lg (rdO F (.conv c x) new ⟨env, sto⟩) (e.ws.map (·.1))))) ∧
 (∀ F r new env sto lg d z ps, Jn F (⟨.build z ps, some d, none⟩ :: r) new ⟨env, sto⟩ lg = ((J2z ps).run ⟨env, sto⟩).bind fun l => (J17 l (z.map .p)).bind fun cs => (J1K true cs).bind fun v => Jn F r new ⟨(d, v) :: env, sto⟩ (lgA lg (rdO F (.build z ps) new ⟨env, sto⟩) [])) ∧
 (∀ F r new env sto lg d s x lo hi mx, Jn F (⟨.slice s x lo hi mx, some d, none⟩ :: r) new ⟨env, sto⟩ lg = (evv x env).bind fun a => (J8K lo env).bind fun lo1 => (J8K hi env).bind fun hi1 => (J8K mx env).bind fun mx1 => ((slR s a lo1 hi1 mx1).run ⟨env, sto⟩).bind fun q => Jn F r new ⟨(d, q.val) :: env, upd q.ws sto⟩ (lgA lg (rdO F (.slice s x lo hi mx) new ⟨env, sto⟩) (q.ws.map (·.1)))) ∧
 (∀ F r new env sto lg d e b z x y, Jn F (⟨.app e b z x y, some d, none⟩ :: r) new ⟨env, sto⟩ lg = (evv x env).bind fun a => (evv y env).bind fun c => ((J4L e b a c).run ⟨env, sto⟩).bind fun q => Jn F r new ⟨(d, q.val) :: env, upd q.ws sto⟩ (lgA lg (rdO F (.app e b z x y) new ⟨env, sto⟩) (q.ws.map (·.1)))) ∧
 (∀ F r new env sto lg d e b z x y, Jn F (⟨.appz e b z x y, some d, none⟩ :: r) new ⟨env, sto⟩ lg = (evv x env).bind fun a => (evv y env).bind fun c => (zrs e z c).bind fun c1 => ((J4L e b a c1).run ⟨env, sto⟩).bind fun q => Jn F r new ⟨(d, q.val) :: env, upd q.ws sto⟩ (lgA lg (rdO F (.appz e b z x y) new ⟨env, sto⟩) (q.ws.map (·.1)))) ∧
 (∀ F r new env sto lg d g a c, Jn F (⟨.mkfn g a c, some d, none⟩ :: r) new ⟨env, sto⟩ lg = ((evs a).run ⟨env, sto⟩).bind fun a1 => ((evs c).run ⟨env, sto⟩).bind fun c1 => Jn F r new ⟨(d, .fn g a1 c1) :: env, sto⟩ (lgA lg (rdO F (.mkfn g a c) new ⟨env, sto⟩) [])) ∧
 (∀ F r new env sto lg d g args n, Jn F (⟨.callv g args n, some d, none⟩ :: r) new ⟨env, sto⟩ lg = (evv g env).bind fun u => cvg u fun h a1 c1 => dds n new sto (((evs args).run ⟨env, sto⟩).bind fun a => ((JB (a1 ++ a ++ c1)).run ⟨env, sto⟩).bind fun a => ((Jj F h a n new).run ⟨env, sto⟩).bind fun q => Jn F r (new + n) ⟨(d, q.val) :: env, upd q.ws sto⟩ (lgA lg (rdO F (.callv g args n) new ⟨env, sto⟩) (q.ws.map (·.1))))) ∧
 (∀ F r new env sto lg g args n, Jn F (⟨.callv g args n, none, none⟩ :: r) new ⟨env, sto⟩ lg = (evv g env).bind fun u => cvg u fun h a1 c1 => dds n new sto (((evs args).run ⟨env, sto⟩).bind fun a => ((JB (a1 ++ a ++ c1)).run ⟨env, sto⟩).bind fun a => ((Jj F h a n new).run ⟨env, sto⟩).bind fun q => Jn F r (new + n) ⟨env, upd q.ws sto⟩ (lgA lg (rdO F (.callv g args n) new ⟨env, sto⟩) (q.ws.map (·.1))))) ∧
 (∀ {α : Type} (f : FuncId) (a c : List AV) (k : FuncId → List AV → List AV → Option α), cvg (.fn f a c) k = k f a c) ∧
 (∀ F r new env sto lg d e b z y, Jn F (⟨.appn e b z y, some d, none⟩ :: r) new ⟨env, sto⟩ lg = (evv y env).bind fun c => ((J02 e c).run ⟨env, sto⟩).bind fun rows => if J5P rows.length b = true then dds 1 new sto (Jn F r (new + 1) ⟨(d, .slr new 0 rows.length) :: env, sto.set new (.arr true e rows)⟩ (lgA lg (rdO F (.appn e b z y) new ⟨env, sto⟩) [new])) else none) ∧
 (∀ F r new env sto lg d e b z x y, Jn F (⟨.appc e b z x y, some d, none⟩ :: r) new ⟨env, sto⟩ lg = (evv x env).bind fun a => (evv y env).bind fun c => ((J02 e c).run ⟨env, sto⟩).bind fun add => (Jmh e b a add).bind fun rows => dds 1 new sto (Jn F r (new + 1) ⟨(d, .slr new 0 rows.length) :: env, sto.set new (.arr true e rows)⟩ (lgA lg (rdO F (.appc e b z x y) new ⟨env, sto⟩) [new]))) ∧
 (∀ F r new env sto lg d z, Jn F (⟨.newbox z, some d, none⟩ :: r) new ⟨env, sto⟩ lg = dds 1 new sto (Jn F r (new + 1) ⟨(d, .ptr new 0) :: env, sto.set new (.box (z.map .p))⟩ (lgA lg (rdO F (.newbox z) new ⟨env, sto⟩) [new]))) ∧
 (∀ F r new env sto lg d e x, Jn F (⟨.mkarr e x, some d, none⟩ :: r) new ⟨env, sto⟩ lg = dds 1 new sto (Jn F r (new + 1) ⟨(d, .slr new 0 0) :: env, sto.set new (.arr true e [])⟩ (lgA lg (rdO F (.mkarr e x) new ⟨env, sto⟩) [new]))) ∧
 (∀ F r new env sto lg d n x, Jn F (⟨.box n x, some d, none⟩ :: r) new ⟨env, sto⟩ lg = (evv x env).bind fun a => (bxP n a).bind fun cs => dds 1 new sto (Jn F r (new + 1) ⟨(d, .ptr new 0) :: env, sto.set new (.box cs)⟩ (lgA lg (rdO F (.box n x) new ⟨env, sto⟩) [new]))) ∧
 (∀ F r new env sto lg d o e n z ps, Jn F (⟨.lits o e n z ps, some d, none⟩ :: r) new ⟨env, sto⟩ lg = dds (if o then 1 else 0) new sto (((ltR o e n z ps new).run ⟨env, sto⟩).bind fun x => Jn F r (new + if o then 1 else 0) ⟨(d, x.val) :: env, upd x.ws sto⟩ (lgA lg (rdO F (.lits o e n z ps) new ⟨env, sto⟩) (x.ws.map (·.1))))) ∧
 (∀ F r new env sto lg d o e b z l c, Jn F (⟨.mkslice o e b z l c, some d, none⟩ :: r) new ⟨env, sto⟩ lg = (evv l env).bind fun a => (evv c env).bind fun x => dds (if o then 1 else 0) new sto ((mkP o e b z a x new).bind fun x => Jn F r (new + if o then 1 else 0) ⟨(d, x.val) :: env, upd x.ws sto⟩ (lgA lg (rdO F (.mkslice o e b z l c) new ⟨env, sto⟩) (x.ws.map (·.1))))) ∧
 (∀ F r new env sto lg d g args n, Jn F (⟨.call g args n, some d, none⟩ :: r) new ⟨env, sto⟩ lg = dds n new sto (((evs args).run ⟨env, sto⟩).bind fun a => ((JB a).run ⟨env, sto⟩).bind fun a => ((Jj F g a n new).run ⟨env, sto⟩).bind fun e => Jn F r (new + n) ⟨(d, e.val) :: env, upd e.ws sto⟩ (lgA lg (rdO F (.call g args n) new ⟨env, sto⟩) (e.ws.map (·.1))))) ∧
 (∀ F r new env sto lg g args n, Jn F (⟨.call g args n, none, none⟩ :: r) new ⟨env, sto⟩ lg = dds n new sto (((evs args).run ⟨env, sto⟩).bind fun a => ((JB a).run ⟨env, sto⟩).bind fun a => ((Jj F g a n new).run ⟨env, sto⟩).bind fun e => Jn F r (new + n) ⟨env, upd e.ws sto⟩ (lgA lg (rdO F (.call g args n) new ⟨env, sto⟩) (e.ws.map (·.1))))) ∧
 (∀ F r new env sto lg d z os, Jn F (⟨.newboxo z os, some d, none⟩ :: r) new ⟨env, sto⟩ lg = dds (os.length + 1) new sto (Jn F r (new + (os.length + 1)) ⟨(d, .ptr (new + os.length) 0) :: env, upd (J34 os new ++ [(new + os.length, .box (J6T os new (z.map .p)))]) sto⟩ (lgA lg (rdO F (.newboxo z os) new ⟨env, sto⟩) ((J34 os new ++ [(new + os.length, Blk.box (J6T os new (z.map .p)))]).map (·.1))))) ∧
 (∀ F r new env sto lg e x, Jn F (⟨.storen e x, none, none⟩ :: r) new ⟨env, sto⟩ lg = (evv x env).bind fun a => dds 1 new sto (((J1D 1 a (.slr new 0 0)).run ⟨env, sto⟩).bind fun q => Jn F r (new + 1) ⟨env, upd ((new, .arr true e []) :: q.ws) sto⟩ (lgA lg (rdO F (.storen e x) new ⟨env, sto⟩) (new :: q.ws.map (·.1))))) ∧
 (∀ F r new env sto lg d z ps os, Jn F (⟨.buildo z ps os, some d, none⟩ :: r) new ⟨env, sto⟩ lg = ((J2z ps).run ⟨env, sto⟩).bind fun l => (J17 l (J6T os new (z.map .p))).bind fun cs => (J1K true cs).bind fun v => dds os.length new sto (Jn F r (new + os.length) ⟨(d, v) :: env, upd (J34 os new) sto⟩ (lgA lg (rdO F (.buildo z ps os) new ⟨env, sto⟩) ((J34 os new).map (·.1))))) ∧
 (∀ F r new env sto lg d g kp args n, Jn F (⟨.callo g kp args n, some d, none⟩ :: r) new ⟨env, sto⟩ lg = dds n new sto (((evs args).run ⟨env, sto⟩).bind fun a => ((J2o kp a).run ⟨env, sto⟩).bind fun a => ((J3f F g a n new).run ⟨env, sto⟩).bind fun e => Jn F r (new + n) ⟨(d, e.val) :: env, upd e.ws sto⟩ (lgA lg (rdO F (.callo g kp args n) new ⟨env, sto⟩) (e.ws.map (·.1))))) ∧
 (∀ F r new env sto lg g kp args n, Jn F (⟨.callo g kp args n, none, none⟩ :: r) new ⟨env, sto⟩ lg = dds n new sto (((evs args).run ⟨env, sto⟩).bind fun a => ((J2o kp a).run ⟨env, sto⟩).bind fun a => ((J3f F g a n new).run ⟨env, sto⟩).bind fun e => Jn F r (new + n) ⟨env, upd e.ws sto⟩ (lgA lg (rdO F (.callo g kp args n) new ⟨env, sto⟩) (e.ws.map (·.1))))) ∧
 (∀ {α : Type} (n new : Nat) (sto : List Blk) (o : Option α), dds (n + 1) new sto o = dd1 sto[new]? (dds n (new + 1) sto o)) ∧
 (∀ F r new env sto lg op d g w, Jn F (⟨op, d, some (g, w)⟩ :: r) new ⟨env, sto⟩ lg = grd (lk g env) w (hold (Jn F (⟨op, d, none⟩ :: r) new ⟨env, sto⟩ lg) (.mk _)) (hold (Jn F r (new + JG op) (put d ⟨J0Y, []⟩ ⟨env, sto⟩) (lgA lg [] [])) (.mk _))) ∧
 (∀ {α : Type} (a b : Option α) (h : Dum a), grd (some (.p (.b true))) true (hold a h) b = a) ∧
 (∀ {α : Type} (a b : Option α) (h : Dum b), grd (some (.p (.b true))) false a (hold b h) = b) ∧
 (∀ {α : Type} (a b : Option α) (h : Dum b), grd (some (.p (.b false))) true a (hold b h) = b) ∧
 (∀ {α : Type} (a b : Option α) (h : Dum a), grd (some (.p (.b false))) false (hold a h) b = a) ∧
 (∀ {α : Type} (w : Bool) (a b : Option α) (h : Dum b), grd (some (.tup [])) w a (hold b h) = b) ∧
 (∀ {β : Type} (a b : Option AV) (K : AV → Option β) (h : Dum K), pkh (.p (.b true)) a b (hold K h) = a.bind K) ∧
 (∀ {β : Type} (a b : Option AV) (K : AV → Option β) (h : Dum K), pkh (.p (.b false)) a b (hold K h) = b.bind K) ∧
 (∀ {α β : Type} (a : α) (f : α → Option β), Option.bind (some a) f = f a) ∧
 (∀ {α : Type} (new : Nat) (sto : List Blk) (o : Option α), dds 0 new sto o = o) ∧
 (∀ {α : Type} (new : Nat) (sto : List Blk) (o : Option α), dds 1 new sto o = dd1 sto[new]? o) ∧
 (∀ {α : Type} (o : Option α), dd1 (some .dead) o = o) :=
 ⟨by intro T f m k s; exact Jsy T f m k s,
 by intro T f m k a b s; exact Jum T f m k a b s,
 by intro T f m k d ins env sto; exact JsX T f m k d ins env sto,
 by intro T f m k d q ps ins env sto; exact Jtc T f m k d q ps ins env sto,
 by intro T f m k i c s; exact Jrt T f m k i c s,
 by intro T f m k c s; exact Jry T f m k c s,
 by intro T f m k i s; exact JsU T f m k i s,
 by intro T f m k s; exact JuZ T f m k s,
 by intro T f m k live c env sto; exact JsR T f m k live c env sto,
 by intro T f m k live c env sto; exact JtK T f m k live c env sto,
 by intro T f m k live c env sto; exact JsC T f m k live c env sto,
 by intro T f m k x a b env sto; exact Jsx T f m k x a b env sto,
 by intros; rfl,
 by intros; rfl,
 by intros; rfl,
 by intros; rfl,
 by intros; rfl,
 by intros; rfl,
 by intro T f m k i j s; exact Jsv T f m k i j s,
 by intros; rfl,
 by intro T f m k n live e s; exact (Jvu T f m k n live e s).trans (by cases J5w n live s <;> rfl),
 by intros; rfl,
 by intros; rfl,
 by intros; rfl,
 by intros; rfl,
 by intros; rfl,
 by intro T f m s; exact Jtz T f m s,
 by intro T f m s; exact JrJ T f m s,
 by intros; rfl,
 by intros; rfl,
 by intros; rfl,
 by intros; rfl,
 by intros; rfl,
 by intros; rfl,
 by intros; rfl,
 by intros; rfl,
 by intros; rfl,
 by intro F r new env sto lg d x; rw [st0 (h := rfl)]; simp only [opR, run_bind, J0B]; exact JuO,
 by intro F r new env sto lg d c a b; rw [st0 (h := rfl)]; simp only [opR, run_bind, J0B]; exact JqB,
 by intro F r new env sto lg d op t x y; rw [st0 (h := rfl)]; simp only [opR, run_bind, J0B]; exact Jjo (g := fun a c => J0A op t a c),
 by intro F r new env sto lg d op x; rw [st0 (h := rfl)]; simp only [opR, run_bind, J0B]; exact JcL (g := fun a => unP op a),
 by intro F r new env sto lg d g off n x; rw [st0 (h := rfl)]; simp only [opR, run_bind, J0B]; exact JcL (g := fun a => J5p g off n a),
 by intro F r new env sto lg d off x; rw [st0 (h := rfl)]; simp only [opR, run_bind, J0B]; exact JcL (g := fun a => JaL off a),
 by intro F r new env sto lg d x i; rw [st0 (h := rfl)]; simp only [opR, run_bind, J0B]; exact JcL (g := fun a => JfA i a),
 by intro F r new env sto lg d b x; rw [st0 (h := rfl)]; simp only [opR, run_bind, J0B]; exact JcL (g := fun a => JeT b a),
 by intro F r new env sto lg d n; rw [st0 (h := rfl)]; rfl,
 by intro F r new env sto lg d b x y; rw [st0 (h := rfl)]; simp only [opR, run_bind, J0B]; exact Jjo (g := fun a c => mmP b a c),
 by intro F r new env sto lg d n e x i; rw [st0 (h := rfl)]; simp only [opR, run_bind, J0B]; exact Jjo (g := fun a c => JaI n e a c),
 by intro F r new env sto lg d e x i; rw [st0 (h := rfl)]; simp only [opR, run_bind, J0B]; exact Jha (g := fun a c => (J2T e a c).run ⟨env, sto⟩),
 by intro F r new env sto lg d x i; rw [st0 (h := rfl)]; simp only [opR, run_bind, J0B]; exact JsZ,
 by intro F r new env sto lg d g n e x i; rw [st0 (h := rfl)]; simp only [opR, run_bind, J0B]; exact JtI,
 by intro F r new env sto lg d x; rw [st0 (h := rfl)]; simp only [opR, run_bind, J0B]; exact JtR,
 by intro F r new env sto lg d g n x; rw [st0 (h := rfl)]; simp only [opR, run_bind, J0B]; exact Jme (g := fun a => (J27 g n a).run ⟨env, sto⟩),
 by intro F r new env sto lg n x y; rw [JvZ (h := rfl)]; simp only [opR, run_bind, J0B]; exact Jha (g := fun a c => (J1D n a c).run ⟨env, sto⟩),
 by intro F r new env sto lg d c x; exact Js4,
 by intro F r new env sto lg d z ps; exact Jq3,
 by intro F r new env sto lg d s x lo hi mx; exact Jqh,
 by intro F r new env sto lg d e b z x y; rw [st0 (h := rfl)]; simp only [opR, run_bind, J0B]; exact Jha (g := fun a c => (J4L e b a c).run ⟨env, sto⟩),
 by intro F r new env sto lg d e b z x y; rw [st0 (h := rfl)]; simp only [opR, run_bind, J0B]; exact JpC,
 by intro F r new env sto lg d g a c; exact JqX,
 by intro F r new env sto lg d g args n; exact JpK,
 by intro F r new env sto lg g args n; exact JoV,
 by intros; rfl,
 by intro F r new env sto lg d e b z y; exact Jrv,
 by intro F r new env sto lg d e b z x y; exact Js3,
 by intro F r new env sto lg d z; exact Jpf,
 by intro F r new env sto lg d e x; exact Jqv,
 by intro F r new env sto lg d n x; exact Jsu,
 by intro F r new env sto lg d o e n z ps; exact Jrj,
 by intro F r new env sto lg d o e b z l c; exact Jna,
 by intro F r new env sto lg d g args n; exact Js6,
 by intro F r new env sto lg g args n; exact JpG,
 by intro F r new env sto lg d z os; exact Jn2,
 by intro F r new env sto lg e x; exact Jpk,
 by intro F r new env sto lg d z ps os; exact Jos,
 by intro F r new env sto lg d g kp args n; exact Jqs,
 by intro F r new env sto lg g kp args n; exact JoB,
 by intro α n new sto o; exact Jw3 ..,
 by intro F r new env sto lg op d g w; exact Jtv ..,
 by intros; rfl,
 by intros; rfl,
 by intros; rfl,
 by intros; rfl,
 by intros; rfl,
 by intros; rfl,
 by intros; rfl,
 by intros; rfl,
 by intros; rfl,
 by intro α new sto o; exact JvR ..,
 by intros; rfl⟩
set_option maxRecDepth 30000 in
theorem Ua : (∀ n m v r, lk n ((m, v) :: r) = if n = m then some v else lk n r) ∧
 (∀ n env, evv (.t n) env = lk n env) ∧
 (∀ v env, evv (.c v) env = some v) ∧
 (∀ a b, pk (.p (.b true)) a b = a) ∧
 (∀ a b, pk (.p (.b false)) a b = b) ∧
 (∀ env, restr [] env = []) ∧
 (∀ k l env, restr (k :: l) env = JoP k (lk k env) (restr l env)) ∧
 (∀ k v l, JoP k (some v) l = (k, v) :: l) ∧
 (∀ k l, JoP k none l = l) ∧
 (∀ n, lk n [] = none) ∧
 (news [] = 0) ∧
 (∀ i r, news (i :: r) = JG i.op + news r) ∧
 (∀ x, JG (.mv x) = 0) ∧
 (∀ e x, JG (.mkarr e x) = 1) ∧
 (∀ a b c, JG (.pick a b c) = 0) ∧
 (∀ z, JG (.newbox z) = 1) ∧
 (∀ n x, JG (.box n x) = 1) ∧
 (∀ z ps, JG (.build z ps) = 0) ∧
 (∀ o e n z ps, JG (.lits o e n z ps) = if o then 1 else 0) ∧
 (∀ g n x, JG (.load g n x) = 0) ∧
 (∀ n x y, JG (.store n x y) = 0) ∧
 (∀ x, JG (.nilchk x) = 0) ∧
 (∀ op t x y, JG (.bin op t x y) = 0) ∧
 (∀ op x, JG (.un op x) = 0) ∧
 (∀ c x, JG (.conv (.int c) x) = 0) ∧
 (∀ x, JG (.conv .same x) = 0) ∧
 (∀ x, JG (.conv .toStr x) = 0) ∧
 (∀ o x, JG (.conv (.toBytes o) x) = if o then 1 else 0) ∧
 (∀ o e b z l c, JG (.mkslice o e b z l c) = if o then 1 else 0) ∧
 (∀ s x lo hi mx, JG (.slice s x lo hi mx) = 0) ∧
 (∀ off x, JG (.faddr off x) = 0) ∧
 (∀ g off n x, JG (.field g off n x) = 0) ∧
 (∀ e x i, JG (.iaddr e x i) = 0) ∧
 (∀ n e x i, JG (.aaddr n e x i) = 0) ∧
 (∀ x i, JG (.sidx x i) = 0) ∧
 (∀ g n e x i, JG (.aidx g n e x i) = 0) ∧
 (∀ x i, JG (.extr x i) = 0) ∧
 (∀ g args n, JG (.call g args n) = n) ∧
 (∀ g args n, JG (.callv g args n) = n) ∧
 (∀ b x, JG (.len b x) = 0) ∧
 (∀ n, JG (.alen n) = 0) ∧
 (∀ e b z x y, JG (.app e b z x y) = 0) ∧
 (∀ e b z x y, JG (.appz e b z x y) = 0) ∧
 (∀ e b z y, JG (.appn e b z y) = 1) ∧
 (∀ e b z x y, JG (.appc e b z x y) = 1) ∧
 (∀ b x y, JG (.mm b x y) = 0) ∧
 (∀ g a c, JG (.mkfn g a c) = 0) ∧
 (∀ z os, JG (.newboxo z os) = os.length + 1) ∧
 (∀ z ps os, JG (.buildo z ps os) = os.length) ∧
 (∀ e x, JG (.storen e x) = 1) ∧
 (∀ g kp args n, JG (.callo g kp args n) = n) ∧
 (∀ sto, room 0 sto = sto) ∧
 (∀ n sto, room (n + 1) sto = sto ++ .dead :: List.replicate n .dead) ∧
 (∀ sto, upd [] sto = sto) ∧
 (∀ b x ws sto, upd ((b, x) :: ws) sto = upd ws (sto.set b x)) ∧
 (∀ d v ws env sto, put (some d) ⟨v, ws⟩ ⟨env, sto⟩ = ⟨(d, v) :: env, upd ws sto⟩) ∧
 (∀ v ws env sto, put none ⟨v, ws⟩ ⟨env, sto⟩ = ⟨env, upd ws sto⟩) ∧
 (J0Y = .tup []) ∧
 (∀ {α β : Type} (a : α) (f : α → β), Option.map f (some a) = some (f a)) ∧
 (∀ k x y, J0A .add .plain (.p (.i k x)) (.p (.i k y)) = some (.p (.i k (k.wrap (x + y))))) ∧
 (∀ k x y, J0A .sub .plain (.p (.i k x)) (.p (.i k y)) = some (.p (.i k (k.wrap (x - y))))) ∧
 (∀ k x y, J0A .mul .plain (.p (.i k x)) (.p (.i k y)) = some (.p (.i k (k.wrap (x * y))))) ∧
 (∀ k x y, J0A .and .plain (.p (.i k x)) (.p (.i k y)) = some (.p (.i k (J4G k x y)))) ∧
 (∀ k x y, J0A .or .plain (.p (.i k x)) (.p (.i k y)) = some (.p (.i k (orI k x y)))) ∧
 (∀ k x y, J0A .xor .plain (.p (.i k x)) (.p (.i k y)) = some (.p (.i k (J5S k x y)))) ∧
 (∀ k x y, J0A .eql .plain (.p (.i k x)) (.p (.i k y)) = some (.p (.b (x == y)))) ∧
 (∀ k x y, J0A .neq .plain (.p (.i k x)) (.p (.i k y)) = some (.p (.b (x != y)))) ∧
 (∀ k x y, J0A .lss .plain (.p (.i k x)) (.p (.i k y)) = some (.p (.b (decide (x < y))))) ∧
 (∀ k x y, J0A .leq .plain (.p (.i k x)) (.p (.i k y)) = some (.p (.b (decide (x ≤ y))))) ∧
 (∀ k x y, J0A .gtr .plain (.p (.i k x)) (.p (.i k y)) = some (.p (.b (decide (x > y))))) ∧
 (∀ k x y, J0A .geq .plain (.p (.i k x)) (.p (.i k y)) = some (.p (.b (decide (x ≥ y))))) ∧
 (∀ k x y, J0A .quo .plain (.p (.i k x)) (.p (.i k y)) = (JuD k x y).map fun z => .p (.i k z)) ∧
 (∀ k x y, J0A .rem .plain (.p (.i k x)) (.p (.i k y)) = (Jm0 x y).map fun z => .p (.i k z)) ∧
 (∀ k k2 x y, J0A .shl .plain (.p (.i k x)) (.p (.i k2 y)) = (JcF k x y).map fun z => .p (.i k z)) ∧
 (∀ k k2 x y, J0A .shr .plain (.p (.i k x)) (.p (.i k2 y)) = (J7V k x y).map fun z => .p (.i k z)) ∧
 (∀ x y, J0A .add .plain (.p (.s x)) (.p (.s y)) = (J46 x y).map fun z => .p (.s z)) ∧
 (∀ x y, J0A .eql .plain (.p (.s x)) (.p (.s y)) = some (.p (.b (x == y)))) ∧
 (∀ x y, J0A .neq .plain (.p (.s x)) (.p (.s y)) = some (.p (.b (!(x == y))))) ∧
 (∀ x y, J0A .lss .plain (.p (.s x)) (.p (.s y)) = some (.p (.b (Op.bytesLess x y)))) ∧
 (∀ x y, J0A .leq .plain (.p (.s x)) (.p (.s y)) = some (.p (.b (Op.bytesLess x y || x == y)))) ∧
 (∀ x y, J0A .gtr .plain (.p (.s x)) (.p (.s y)) = some (.p (.b (!(Op.bytesLess x y || x == y))))) ∧
 (∀ x y, J0A .geq .plain (.p (.s x)) (.p (.s y)) = some (.p (.b (!Op.bytesLess x y)))) ∧
 (∀ x y, J0A .eql .bool (.p (.b x)) (.p (.b y)) = some (.p (.b (x == y)))) ∧
 (∀ x y, J0A .neq .bool (.p (.b x)) (.p (.b y)) = some (.p (.b (!(x == y))))) ∧
 (∀ ks a c, J0A .eql (.flat ks) (.data a) (.data c) = (J1E ks a c).map fun x => .p (.b x)) ∧
 (∀ ks a c, J0A .neq (.flat ks) (.data a) (.data c) = (J1E ks a c).map fun x => .p (.b (!x))) ∧
 (∀ b o y, J0A .eql .nilp (.ptr b o) y = some (.p (.b false))) ∧
 (∀ b o y, J0A .neq .nilp (.ptr b o) y = some (.p (.b true))) ∧
 (∀ k n, unP .neg (.p (.i k n)) = some (.p (.i k (k.wrap (0 - n))))) ∧
 (∀ k n, unP .xor (.p (.i k n)) = some (.p (.i k (Jjy k n)))) ∧
 (∀ x, unP .not (.p (.b x)) = some (.p (.b (!x)))) ∧
 ((!true) = false) ∧
 ((!false) = true) ∧
 (∀ k x y, mmP true (.p (.i k x)) (.p (.i k y)) = some (.p (.i k (JvT x y)))) ∧
 (∀ k x y, mmP false (.p (.i k x)) (.p (.i k y)) = some (.p (.i k (Jh9 x y)))) ∧
 (∀ off b o, JaL off (.ptr b o) = some (.ptr b (o + off))) ∧
 (∀ off o cs, JaL off (.cp cs o) = some (.cp cs (o + off))) ∧
 (∀ off b e i o, JaL off (.ep b e i o) = some (.ep b e i (o + off))) ∧
 (∀ g off n cs, J5p g off n (.data cs) = (sub cs off n).bind (J1Z g)) ∧
 (∀ g off n c cs, J5p g off n (.agg (c :: cs)) = (sub (c :: cs) off n).bind (J1K g)) ∧
 (∀ cs, J1Z true cs = some (.data cs)) ∧
 (∀ c, J1Z false [c] = some (.p c)) ∧
 (∀ cs, J1K true (cs.map AV.p) = some (.data cs)) ∧
 (∀ c cs, J1K true (c :: cs) = some (JmS (c :: cs) (unp (c :: cs)))) ∧
 (∀ c, J1K false [c] = some c) ∧
 (∀ cs l, JmS cs (some l) = .data l) ∧
 (∀ c, Option.map (fun l => c :: l) (none : Option (List PV)) = none) ∧
 (∀ cs, JmS cs none = .agg cs) ∧
 (unp [] = some []) ∧
 (∀ c r, unp (.p c :: r) = (unp r).map fun l => c :: l) ∧
 (∀ b i n r, unp (.slr b i n :: r) = none) ∧
 (∀ b i r, unp (.ptr b i :: r) = none) ∧
 (∀ b e i o r, unp (.ep b e i o :: r) = none) ∧
 (∀ f a c r, unp (.fn f a c :: r) = none) ∧
 (∀ i vs, JfA i (.tup vs) = vs[i]?) ∧
 (∀ l, JeT true (.p (.s l)) = some (.p (.i .i64 l.length))) ∧
 (∀ e rows, JeT false (.p (.sl e rows)) = some (.p (.i .i64 rows.length))) ∧
 (∀ b i n, JeT false (.slr b i n) = some (.p (.i .i64 n))) ∧
 (∀ {α β : Type} (g : α → β) (l : List α), (l.map g).length = l.length) ∧
 (∀ b o, Jmg (.ptr b o) = some (.ptr b o)) ∧
 (∀ cs o, Jmg (.cp cs o) = some (.cp cs o)) ∧
 (∀ b e i o, Jmg (.ep b e i o) = some (.ep b e i o)) ∧
 (∀ env sto g n cs off, (J27 g n (.cp cs off)).run ⟨env, sto⟩ = (sub cs off n).bind fun l => (J1Z g l).map fun v => ⟨v, []⟩) ∧
 (∀ env sto g n b off, (J27 g n (.ptr b off)).run ⟨env, sto⟩ = sto[b]?.bind fun B => ldB g n off B) ∧
 (∀ env sto g n b e i off, (J27 g n (.ep b e i off)).run ⟨env, sto⟩ = sto[b]?.bind fun B => ldE g n e i off B) ∧
 (∀ g n off cs, ldB g n off (.box (cs.map AV.p)) = (sub cs off n).bind fun l => (J1Z g l).map fun v => ⟨v, []⟩) ∧
 (∀ g n off c cs, ldB g n off (.box (c :: cs)) = (sub (c :: cs) off n).bind fun l => (J1K g l).map fun v => ⟨v, []⟩) ∧
 (∀ g n e i off z w rows, ldE g n e i off (.arr w z rows) = if e = rows.length then rows[i]?.bind fun row => (sub row off n).bind fun l => (J1Z g l).map fun v => ⟨v, []⟩ else none) ∧
 (∀ env sto n b off v, (J1D n (.ptr b off) v).run ⟨env, sto⟩ = sto[b]?.bind fun B => (cellsOf v).bind fun l => stB n b off l B) ∧
 (∀ n b off cs vs, stB n b off (vs.map AV.p) (.box (cs.map AV.p)) = if vs.length = n then (spl cs off vs).map fun cs => ⟨J0Y, [(b, .box (cs.map AV.p))]⟩ else none) ∧
 (∀ b off cs v, stB 1 b off [AV.p v] (.box (cs.map AV.p)) = (spl cs off [v]).map fun cs => ⟨J0Y, [(b, .box (cs.map AV.p))]⟩) ∧
 (∀ env sto n b e i off v, (J1D n (.ep b e i off) v).run ⟨env, sto⟩ = sto[b]?.bind fun B => stE n b e i off v B ⟨env, sto⟩) ∧
 (∀ n b e i off z c rows s, stE n b e i off (.p c) (.arr true z rows) s = if e = rows.length then rows[i]?.bind fun row => if 1 = n then (spl row off [c]).map fun row => ⟨J0Y, [(b, .arr true z (rows.set i row))]⟩ else none else none) ∧
 (∀ n b e i off z cs rows s, stE n b e i off (.data cs) (.arr true z rows) s = if e = rows.length then rows[i]?.bind fun row => if cs.length = n then (spl row off cs).map fun row => ⟨J0Y, [(b, .arr true z (rows.set i row))]⟩ else none else none) ∧
 (∀ c, cellsOf (.p c) = some [.p c]) ∧
 (∀ cs, cellsOf (.data cs) = some (cs.map AV.p)) ∧
 (∀ cs, cellsOf (.agg cs) = some cs) ∧
 (∀ f a c, cellsOf (.fn f a c) = some [.fn f a c]) ∧
 (∀ b i n, cellsOf (.slr b i n) = some [.slr b i n]) ∧
 (∀ b o, cellsOf (.ptr b o) = some [.ptr b o]) ∧
 (∀ c, bxP 1 (.p c) = some [.p c]) ∧
 (∀ n cs, bxP n (.data cs) = if cs.length = n then some (cs.map AV.p) else none) ∧
 (∀ n cs, bxP n (.agg cs) = if cs.length = n then some cs else none) ∧
 (∀ b i n, bxP 1 (.slr b i n) = some [.slr b i n]) ∧
 (∀ env sto e rows k n, (J2T e (.p (.sl e rows)) (.p (.i k n))).run ⟨env, sto⟩ = (Jbl rows n).map fun row => ⟨.cp row 0, []⟩) ∧
 (∀ env sto e b m k n, (J2T e (.slr b 0 m) (.p (.i k n))).run ⟨env, sto⟩ = sto[b]?.bind fun B => iaB e b m n B) ∧
 (∀ e b m n w rows, iaB e b m n (.arr w e rows) = if m = rows.length ∧ 0 ≤ n ∧ n < m then some ⟨.ep b rows.length n.toNat 0, []⟩ else none) ∧
 (∀ n e b off k i, JaI n e (.ptr b off) (.p (.i k i)) = if 0 ≤ i ∧ i < n then some (.ptr b (off + i.toNat * e)) else none) ∧
 (∀ n e off cs k i, JaI n e (.cp cs off) (.p (.i k i)) = if 0 ≤ i ∧ i < n then some (.cp cs (off + i.toNat * e)) else none) ∧
 (∀ n e b x j off k i, JaI n e (.ep b x j off) (.p (.i k i)) = if 0 ≤ i ∧ i < n then some (.ep b x j (off + i.toNat * e)) else none) ∧
 (∀ l k n, Jj0 (.p (.s l)) (.p (.i k n)) = (Jcu l n).map fun v => .p (.i .u8 v)) ∧
 (∀ g n e cs k i, Jhx g n e (.agg cs) (.p (.i k i)) = if 0 ≤ i ∧ i < n then J5p g (i.toNat * e) e (.agg cs) else none) ∧
 (∀ g n e cs k i, Jhx g n e (.data cs) (.p (.i k i)) = if 0 ≤ i ∧ i < n then (sub cs (i.toNat * e) e).bind (J1Z g) else none) ∧
 (∀ env sto c k n new, (cvR (.int c) (.p (.i k n)) new).run ⟨env, sto⟩ = some ⟨.p (.i c (c.wrap n)), []⟩) ∧
 (∀ env sto l new, (cvR .same (.p (.s l)) new).run ⟨env, sto⟩ = some ⟨.p (.s l), []⟩) ∧
 (∀ env sto l new, (cvR .toStr (.p (.sl 1 (l.map (r_i .u8)))) new).run ⟨env, sto⟩ = some ⟨.p (.s (toStr l)), []⟩) ∧
 (∀ env sto b n new, (cvR .toStr (.slr b 0 n) new).run ⟨env, sto⟩ = sto[b]?.bind fun B => cvB n B) ∧
 (∀ n w l, cvB n (.arr w 1 (l.map (r_i .u8))) = if n = l.length then some ⟨.p (.s (toStr l)), []⟩ else none) ∧
 (∀ env sto l new, (cvR (.toBytes false) (.p (.s l)) new).run ⟨env, sto⟩ = some ⟨.p (.sl 1 ((J96 l).map (r_i .u8))), []⟩) ∧
 (∀ env sto l new, (cvR (.toBytes true) (.p (.s l)) new).run ⟨env, sto⟩ = some ⟨.slr new 0 (J96 l).length, [(new, .arr true 1 ((J96 l).map (r_i .u8)))]⟩) ∧
 (∀ env sto, (J2z []).run ⟨env, sto⟩ = some []) ∧
 (∀ env sto off size x r, (J2z ((off, size, x) :: r)).run ⟨env, sto⟩ = (evv x env).bind fun v => (cellsOf v).bind fun cs => ((J2z r).run ⟨env, sto⟩).bind fun l => some ((off, size, cs) :: l)) ∧
 (∀ cs, J17 [] cs = some cs) ∧
 (∀ off size vs cs r, J17 ((off, size, vs.map AV.p) :: r) (cs.map AV.p) = if vs.length = size then (spl cs off vs).bind fun cs => J17 r (cs.map AV.p) else none) ∧
 (∀ off v cs r, J17 ((off, 1, [AV.p v]) :: r) (cs.map AV.p) = (spl cs off [v]).bind fun cs => J17 r (cs.map AV.p)) ∧
 (∀ env sto, (evs []).run ⟨env, sto⟩ = some []) ∧
 (∀ env sto x r, (evs (x :: r)).run ⟨env, sto⟩ = (evv x env).bind fun v => ((evs r).run ⟨env, sto⟩).bind fun vs => some (v :: vs)) ∧
 (∀ n, J34 [] n = []) ∧
 (∀ o e r n, J34 ((o, e) :: r) n = (n, .arr true e []) :: J34 r (n + 1)) ∧
 (∀ n cs, J6T [] n cs = cs) ∧
 (∀ o e r n cs, J6T ((o, e) :: r) n cs = J6T r (n + 1) (cs.set o (.slr n 0 0))) ∧
 (∀ env sto m, (J2o m []).run ⟨env, sto⟩ = some ([], [])) ∧
 (∀ env sto l, (J2o [] l).run ⟨env, sto⟩ = (JB l).run ⟨env, sto⟩) ∧
 (∀ env sto x m r, (J2o (true :: m) (x :: r)).run ⟨env, sto⟩ = ((J2o m r).run ⟨env, sto⟩).bind fun c => some (x :: c.1, c.2)) ∧
 (∀ env sto x m r, (J2o (false :: m) (x :: r)).run ⟨env, sto⟩ = ((JB [x]).run ⟨env, sto⟩).bind fun a => ((J2o m r).run ⟨env, sto⟩).bind fun c => some (a.1 ++ c.1, a.2 ++ c.2)) ∧
 (∀ env sto, (JB []).run ⟨env, sto⟩ = some ([], [])) ∧
 (∀ env sto c r, (JB (.p c :: r)).run ⟨env, sto⟩ = ((JB r).run ⟨env, sto⟩).bind fun a => some (.p c :: a.1, a.2)) ∧
 (∀ env sto c r, (JB (.data c :: r)).run ⟨env, sto⟩ = ((JB r).run ⟨env, sto⟩).bind fun a => some (.data c :: a.1, a.2)) ∧
 (∀ env sto b o r, (JB (.ptr b o :: r)).run ⟨env, sto⟩ = ((JB r).run ⟨env, sto⟩).bind fun a => some (.ptr b o :: a.1, a.2)) ∧
 (∀ env sto c o r, (JB (.cp c o :: r)).run ⟨env, sto⟩ = ((JB r).run ⟨env, sto⟩).bind fun a => some (.cp c o :: a.1, a.2)) ∧
 (∀ env sto b x i o r, (JB (.ep b x i o :: r)).run ⟨env, sto⟩ = ((JB r).run ⟨env, sto⟩).bind fun a => some (.ep b x i o :: a.1, a.2)) ∧
 (∀ env sto b n r, (JB (.slr b 0 n :: r)).run ⟨env, sto⟩ = sto[b]?.bind fun B => (frz b n B).bind fun x => ((JB r).run ⟨env, sto⟩).bind fun a => some (x.1 :: a.1, x.2 :: a.2)) ∧
 (∀ env sto cs r, (JB (.agg cs :: r)).run ⟨env, sto⟩ = ((fz.fzL cs).run ⟨env, sto⟩).bind fun x => ((JB r).run ⟨env, sto⟩).bind fun a => some (.data x.1 :: a.1, x.2 ++ a.2)) ∧
 (∀ b n z w rows, frz b n (.arr w z rows) = if n = rows.length then some (.p (.sl z rows), (b, .arr false z rows)) else none) ∧
 (∀ env sto, (fz.fzL []).run ⟨env, sto⟩ = some ([], [])) ∧
 (∀ env sto c r, (fz.fzL (.p c :: r)).run ⟨env, sto⟩ = ((fz.fzL r).run ⟨env, sto⟩).bind fun a => some (c :: a.1, a.2)) ∧
 (∀ env sto b n r, (fz.fzL (.slr b 0 n :: r)).run ⟨env, sto⟩ = sto[b]?.bind fun B => (frp b n B).bind fun x => ((fz.fzL r).run ⟨env, sto⟩).bind fun a => some (x.1 :: a.1, x.2 :: a.2)) ∧
 (∀ b n z w rows, frp b n (.arr w z rows) = if n = rows.length then some (.sl z rows, (b, .arr false z rows)) else none) ∧
 (∀ env sto f a c r, (JB (.fn f a c :: r)).run ⟨env, sto⟩ = ((JB r).run ⟨env, sto⟩).bind fun x => some (.fn f a c :: x.1, x.2)) ∧
 (∀ m ids sto f a c, fin m ids sto (.fn f a c) = (fin.finL m ids sto a).bind fun a1 => (fin.finL m ids sto c).bind fun c1 => some (.fn f a1 c1)) ∧
 (∀ f a c l, J03 (.fn f a c) l = J03.entsOfL c (J03.entsOfL a l)) ∧
 (∀ ws s, J07 ws s [] [] = True) ∧
 (∀ ws s b bs cs css, J07 ws s (b :: bs) (cs :: css) = ((J6H ws b).run s = some (.box cs) ∧ J07 ws s bs css)) ∧
 (∀ env sto b c x ws, (J6H ((c, x) :: ws) b).run ⟨env, sto⟩ = sto[b]?.bind fun y => some ((J2n b ((c, x) :: ws)).getD y)) ∧
 (∀ b, J2n b [] = none) ∧
 (∀ b c x r, J2n b ((c, x) :: r) = lwO (J2n b r) (if c = b then some x else none)) ∧
 (∀ x y, lwO (some x) y = some x) ∧
 (∀ y, lwO none y = y) ∧
 (∀ {α : Type} (a b : α), (some a).getD b = a) ∧
 (∀ {α : Type} (b : α), (none : Option α).getD b = b) ∧
 (∀ env sto b, (J6H [] b).run ⟨env, sto⟩ = sto[b]?) ∧
 (∀ env sto e rows, (J02 e (.p (.sl e rows))).run ⟨env, sto⟩ = some rows) ∧
 (∀ env sto l, (J02 1 (.p (.s l))).run ⟨env, sto⟩ = some ((J96 l).map (r_i .u8))) ∧
 (∀ env sto e b n, (J02 e (.slr b 0 n)).run ⟨env, sto⟩ = sto[b]?.bind fun B => roB e n B) ∧
 (∀ e n w rows, roB e n (.arr w e rows) = if n = rows.length then some rows else none) ∧
 (∀ env sto o e n new z ps, (ltR o e n z ps new).run ⟨env, sto⟩ = ((fzs (ps.map (·.2))).run ⟨env, sto⟩).bind fun a => (J40 e ((ps.map (·.1)).zip a.1) (List.replicate n z)).map fun rows => if o then ⟨.slr new 0 n, a.2 ++ [(new, .arr true e rows)]⟩ else ⟨.p (.sl e rows), a.2⟩) ∧
 (∀ env sto, (fzs []).run ⟨env, sto⟩ = some ([], [])) ∧
 (∀ env sto x r, (fzs (x :: r)).run ⟨env, sto⟩ = (evv x env).bind fun v => ((fz v).run ⟨env, sto⟩).bind fun a => ((fzs r).run ⟨env, sto⟩).bind fun c => some (a.1 :: c.1, a.2 ++ c.2)) ∧
 (∀ env sto c, (fz (.p c)).run ⟨env, sto⟩ = some ([c], [])) ∧
 (∀ env sto cs, (fz (.data cs)).run ⟨env, sto⟩ = some (cs, [])) ∧
 (∀ env sto cs, (fz (.agg cs)).run ⟨env, sto⟩ = (fz.fzL cs).run ⟨env, sto⟩) ∧
 (∀ env sto b n, (fz (.slr b 0 n)).run ⟨env, sto⟩ = sto[b]?.bind fun B => (frp b n B).bind fun x => some ([x.1], [x.2])) ∧
 (∀ e rows, J40 e [] rows = some rows) ∧
 (∀ e i c r rows, J40 e ((i, c) :: r) rows = if c.length = e ∧ i < rows.length then J40 e r (rows.set i c) else none) ∧
 (∀ o e b new z k k2 n m, mkP o e b z (.p (.i k n)) (.p (.i k2 m)) new = if 0 ≤ n ∧ n ≤ m ∧ b * m ≤ 281474976710656 ∧ m ≤ 281474976710656 then some (if o then ⟨.slr new 0 n.toNat, [(new, .arr true e (List.replicate n.toNat z))]⟩ else ⟨.p (.sl e (List.replicate n.toNat z)), []⟩) else none) ∧
 (∀ env, J8K none env = some none) ∧
 (∀ x env, J8K (some x) env = (evv x env).map some) ∧
 (∀ env sto s c lo hi, (slR s (.p c) lo hi none).run ⟨env, sto⟩ = (slX s (.p c) lo hi).map fun v => ⟨v, []⟩) ∧
 (∀ env sto s b n lo hi, (slR s (.slr b 0 n) lo hi none).run ⟨env, sto⟩ = sto[b]?.bind fun B => (frz b n B).bind fun x => (slX s x.1 lo hi).map fun v => ⟨v, [x.2]⟩) ∧
 (∀ x lo hi, slX .str x lo hi = J3Y x lo hi) ∧
 (∀ e x lo hi, slX (.sl e) x lo hi = J89 e x lo hi) ∧
 (∀ n live env sto, J5w n live ⟨env, sto⟩ = if sto.length = n then some ⟨restr live env, sto⟩ else (J8c n sto (restr live env)).bind fun e => (J3p n [] sto (sto.take n)).bind fun l => some ⟨e, l⟩) ∧
 (∀ m sto, J8c m sto [] = some []) ∧
 (∀ m k sto x r, J8c m sto ((k, x) :: r) = (fin m [] sto x).bind fun y => (J8c m sto r).bind fun l => some ((k, y) :: l)) ∧
 (∀ m ids sto, J3p m ids sto [] = some []) ∧
 (∀ m ids sto x r, J3p m ids sto (x :: r) = (J4u m ids sto x).bind fun y => (J3p m ids sto r).bind fun l => some (y :: l)) ∧
 (∀ m ids sto, J4u m ids sto .dead = some .dead) ∧
 (∀ m ids sto w z rows, J4u m ids sto (.arr w z rows) = some (.arr w z rows)) ∧
 (∀ m ids sto cs, J4u m ids sto (.box cs) = (fin.finL m ids sto cs).map .box) ∧
 (∀ (m : Nat) (ids : List Nat) (sto : List Blk) (l : List PV), fin.finL m ids sto (l.map AV.p) = some (l.map AV.p)) ∧
 (∀ m ids sto, fin.finL m ids sto [] = some []) ∧
 (∀ m ids sto x r, fin.finL m ids sto (x :: r) = (fin m ids sto x).bind fun y => (fin.finL m ids sto r).bind fun l => some (y :: l)) ∧
 (∀ m ids sto c, fin m ids sto (.p c) = some (.p c)) ∧
 (∀ m ids sto c, fin m ids sto (.data c) = some (.data c)) ∧
 (∀ m ids sto c o, fin m ids sto (.cp c o) = some (.cp c o)) ∧
 (∀ m ids sto, fin m ids sto (.tup []) = some (.tup [])) ∧
 (∀ m ids sto b off, fin m ids sto (.ptr b off) = if b < m then some (.ptr b off) else (J82 b ids m).map fun k => .ptr k off) ∧
 (∀ m ids sto b n, fin m ids sto (.slr b 0 n) = if b < m then some (.slr b 0 n) else fsl (J82 b ids m) n sto[b]?) ∧
 (∀ k n o, fsl (some k) n o = some (.slr k 0 n)) ∧
 (∀ n z w rows, fsl none n (some (.arr w z rows)) = if n = rows.length then some (.p (.sl z rows)) else none) ∧
 (∀ m ids sto cs, fin m ids sto (.agg cs) = (fin.finL m ids sto cs).bind fun l => some (JmS l (unp l))) ∧
 (∀ m ids sto x cs, fin m ids sto (.tup (x :: cs)) = (fin.finL m ids sto (x :: cs)).map .tup) ∧
 (∀ b k, J82 b [] k = none) ∧
 (∀ b x k r, J82 b (x :: r) k = if x = b then some k else J82 b r (k + 1)) ∧
 (∀ res fresh m env sto, JgM res fresh m ⟨env, sto⟩ = ((J5J res).run ⟨env, sto⟩).bind fun vs => if sto.length = m then some (one vs, sto) else Jp5 fresh m vs sto (J1a m fresh sto (J7s sto (J03.entsOfL vs []) (J03.entsOfL vs [])))) ∧
 (∀ fresh m vs sto ids, Jp5 fresh m vs sto ids = if J3L ids = true then (fin.finL m ids sto vs).bind fun ws => (J3p m ids sto (sto.take m)).bind fun l => (J6L sto ids).bind fun q => (J3p m ids sto q).bind fun q => some (one ws, l ++ q) else none) ∧
 (∀ env sto, (J5J []).run ⟨env, sto⟩ = some []) ∧
 (∀ env sto t r, (J5J (.tmp t :: r)).run ⟨env, sto⟩ = (lk t env).bind fun v => ((J5J r).run ⟨env, sto⟩).bind fun l => some (v :: l)) ∧
 (∀ env sto t n g r, (J5J (.cell t g n :: r)).run ⟨env, sto⟩ = (lk t env).bind fun v => ((J27 g n v).run ⟨env, sto⟩).bind fun e => ((J5J r).run ⟨env, sto⟩).bind fun l => some (e.val :: l)) ∧
 (∀ x, one [x] = x) ∧
 (one [] = .tup []) ∧
 (∀ x y r, one (x :: y :: r) = .tup (x :: y :: r)) ∧
 (∀ m fresh sto, J1a m fresh sto [] = []) ∧
 (∀ m b sto r, J1a m false sto (.whole b :: r) = if b < m then J1a m false sto r else oid b sto[b]? (J1a m false sto r)) ∧
 (∀ m b sto r, J1a m true sto (.whole b :: r) = if b < m then J1a m true sto r else JlW b sto[b]? (J1a m true sto r)) ∧
 (∀ b cs l, JlW b (some (.box cs)) l = b :: l) ∧
 (∀ b z w rows l, JlW b (some (.arr w z rows)) l = b :: l) ∧
 (∀ b cs l, oid b (some (.box cs)) l = b :: l) ∧
 (∀ b z w rows l, oid b (some (.arr w z rows)) l = l) ∧
 (∀ sto acc, J7s sto [] acc = acc) ∧
 (∀ sto b r acc, J7s sto (.whole b :: r) acc = J7s sto r (ebb sto[b]? acc)) ∧
 (∀ cs acc, ebb (some (.box cs)) acc = J03.entsOfL cs acc) ∧
 (∀ z w rows acc, ebb (some (.arr w z rows)) acc = acc) ∧
 (∀ l, J03.entsOfL [] l = l) ∧
 (∀ x r l, J03.entsOfL (x :: r) l = J03.entsOfL r (J03 x l)) ∧
 (∀ (cs : List PV) (l : List Ent), J03.entsOfL (cs.map AV.p) l = l) ∧
 (∀ c l, J03 (.p c) l = l) ∧
 (∀ c l, J03 (.data c) l = l) ∧
 (∀ c o l, J03 (.cp c o) l = l) ∧
 (∀ b o l, J03 (.ptr b o) l = J7C (.whole b) l) ∧
 (∀ b i n l, J03 (.slr b i n) l = J7C (.whole b) l) ∧
 (∀ cs l, J03 (.agg cs) l = J03.entsOfL cs l) ∧
 (∀ cs l, J03 (.tup cs) l = J03.entsOfL cs l) ∧
 (∀ e, J7C e [] = [e]) ∧
 (∀ b c r, J7C (.whole b) (.whole c :: r) = if c = b then .whole c :: r else .whole c :: J7C (.whole b) r) ∧
 (J3L [] = true) ∧
 (∀ x, J3L [x] = true) ∧
 (∀ sto, J6L sto [] = some []) ∧
 (∀ sto b r, J6L sto (b :: r) = sto[b]?.bind fun x => (J6L sto r).bind fun l => some (x :: l)) ∧
 (∀ {α : Type} (a : α) (l : List α), (a :: l)[0]? = some a) ∧
 (∀ {α : Type} (a : α) (l : List α) (n : Nat), (a :: l)[n + 1]? = l[n]?) ∧
 (∀ {α : Type} (n : Nat), ([] : List α)[n]? = none) ∧
 (∀ {α : Type} (a b : α) (l : List α), (a :: l).set 0 b = b :: l) ∧
 (∀ {α : Type} (a b : α) (l : List α) (n : Nat), (a :: l).set (n + 1) b = a :: l.set n b) ∧
 (∀ {α : Type} (l : List α), [] ++ l = l) ∧
 (∀ {α : Type} (l : List α), l ++ [] = l) ∧
 (∀ {α : Type} (a : α) (l r : List α), (a :: l) ++ r = a :: (l ++ r)) ∧
 (∀ {α : Type} (a : α), List.replicate 0 a = []) ∧
 (∀ {α : Type} (a : α) (n : Nat), List.replicate (n + 1) a = a :: List.replicate n a) ∧
 (∀ {α β : Type} (g : α → β), List.map g [] = []) ∧
 (∀ {α β : Type} (g : α → β) (a : α) (l : List α), List.map g (a :: l) = g a :: List.map g l) ∧
 (∀ {α : Type}, ([] : List α).length = 0) ∧
 (∀ {α : Type} (a : α) (l : List α), (a :: l).length = l.length + 1) ∧
 (∀ {α : Type} (l : List α), l.take 0 = []) ∧
 (∀ {α : Type} (a : α) (l : List α) (n : Nat), (a :: l).take (n + 1) = a :: l.take n) ∧
 (∀ {α β : Type} (l : List β), ([] : List α).zip l = []) ∧
 (∀ {α β : Type} (a : α) (b : β) (l : List α) (r : List β), (a :: l).zip (b :: r) = (a, b) :: l.zip r) ∧
 (∀ n, 0 + n = n) ∧
 (∀ n, n + 0 = n) ∧
 (∀ k n, r_i k n = [.i k n]) ∧
 (∀ x, r_b x = [.b x]) ∧
 (∀ x, r_s x = [.s x]) ∧
 (∀ {α : Type} (e : Nat) (g : α → List PV) (l : List α), Jje e g l = [.sl e (l.map g)]) ∧
 (∀ (a : PV), sub [a] 0 1 = some [a]) ∧
 (∀ (a b : PV), spl [a] 0 [b] = some [b]) ∧
 (∀ {α : Type} (cs : List α), sub cs 0 0 = some []) ∧
 (∀ {α : Type} (a : α) (cs : List α) (n : Nat), sub (a :: cs) 0 (n + 1) = (sub cs 0 n).map (a :: ·)) ∧
 (∀ {α : Type} (a : α) (cs : List α) (n m : Nat), sub (a :: cs) (n + 1) m = sub cs n m) ∧
 (∀ {α : Type} (cs : List α), spl cs 0 [] = some cs) ∧
 (∀ {α : Type} (a b : α) (cs vs : List α), spl (a :: cs) 0 (b :: vs) = (spl cs 0 vs).map (b :: ·)) ∧
 (∀ {α : Type} (a : α) (cs : List α) (n : Nat) (vs : List α), spl (a :: cs) (n + 1) vs = (spl cs n vs).map (a :: ·)) ∧
 (∀ n b off l c cs, stB n b off l (.box (c :: cs)) = if l.length = n then (spl (c :: cs) off l).map fun cs => ⟨J0Y, [(b, .box cs)]⟩ else none) ∧
 (∀ off size c a cs r, J17 ((off, size, c) :: r) (a :: cs) = if c.length = size then (spl (a :: cs) off c).bind fun cs => J17 r cs else none) ∧
 (∀ {α : Type} (a b : α), (if True then a else b) = a) ∧
 (∀ {α : Type} (a b : α), (if False then a else b) = b) ∧
 (∀ {α : Type} (a b : α), (if true = true then a else b) = a) ∧
 (∀ {α : Type} (a b : α), (if false = true then a else b) = b) ∧
 (∀ a, (True ∧ a) = a) ∧
 (∀ a, (a ∧ True) = a) ∧
 (∀ {α : Type} (a : α), (a = a) = True) ∧
 (∀ {α β : Type} (a : α) (b : β), (a, b).1 = a) ∧
 (∀ {α β : Type} (a : α) (b : β), (a, b).2 = b) :=
 ⟨by intros; rfl,
 by intros; rfl,
 by intros; rfl,
 by intros; rfl,
 by intros; rfl,
 by intros; rfl,
 by intros; rfl,
 by intros; rfl,
 by intros; rfl,
 by intros; rfl,
 rfl,
 by intros; rfl,
 by intros; rfl,
 by intros; rfl,
 by intros; rfl,
 by intros; rfl,
 by intros; rfl,
 by intros; rfl,
 by intros; rfl,
 by intros; rfl,
 by intros; rfl,
 by intros; rfl,
 by intros; rfl,
 by intros; rfl,
 by intros; rfl,
 by intros; rfl,
 by intros; rfl,
 by intros; rfl,
 by intros; rfl,
 by intros; rfl,
 by intros; rfl,
 by intros; rfl,
 by intros; rfl,
 by intros; rfl,
 by intros; rfl,
 by intros; rfl,
 by intros; rfl,
 by intros; rfl,
 by intros; rfl,
 by intros; rfl,
 by intros; rfl,
 by intros; rfl,
 by intros; rfl,
 by intros; rfl,
 by intros; rfl,
 by intros; rfl,
 by intros; rfl,
 by intros; rfl,
 by intros; rfl,
 by intros; rfl,
 by intros; rfl,
 by intros; rfl,
 by intros; rfl,
 by intros; rfl,
 by intros; rfl,
 by intros; rfl,
 by intros; rfl,
 rfl,
 by intros; rfl,
 by intro k x y; simp only [J0A, if_true, J7Y, Option.map_some]; try rfl,
 by intro k x y; simp only [J0A, if_true, J7Y, Option.map_some]; try rfl,
 by intro k x y; simp only [J0A, if_true, J7Y, Option.map_some]; try rfl,
 by intro k x y; simp only [J0A, if_true, J7Y, Option.map_some]; try rfl,
 by intro k x y; simp only [J0A, if_true, J7Y, Option.map_some]; try rfl,
 by intro k x y; simp only [J0A, if_true, J7Y, Option.map_some]; try rfl,
 by intro k x y; simp only [J0A, if_true, J7Y, Option.map_some]; try rfl,
 by intro k x y; simp only [J0A, if_true, J7Y, Option.map_some]; try rfl,
 by intro k x y; simp only [J0A, if_true, J7Y, Option.map_some]; try rfl,
 by intro k x y; simp only [J0A, if_true, J7Y, Option.map_some]; try rfl,
 by intro k x y; simp only [J0A, if_true, J7Y, Option.map_some]; try rfl,
 by intro k x y; simp only [J0A, if_true, J7Y, Option.map_some]; try rfl,
 by intro k x y; simp only [J0A, if_true, J7Y, JuD]; split <;> rfl,
 by intro k x y; simp only [J0A, if_true, J7Y, Jm0]; split <;> rfl,
 by intro k k2 x y; simp only [J0A, JbL, JcF]; split <;> rfl,
 by intro k k2 x y; simp only [J0A, JbL, J7V]; split <;> rfl,
 by intro x y; simp only [J0A, Jlu, J46]; split <;> rfl,
 by intro x y; rfl,
 by intro x y; rfl,
 by intro x y; rfl,
 by intro x y; rfl,
 by intro x y; rfl,
 by intro x y; rfl,
 by intros; rfl,
 by intros; rfl,
 by intro ks a c; simp only [J0A, J8b]; cases J1E ks a c <;> rfl,
 by intro ks a c; simp only [J0A, J8b]; cases J1E ks a c <;> rfl,
 by intros; rfl,
 by intros; rfl,
 by intros; rfl,
 by intros; rfl,
 by intros; rfl,
 rfl,
 rfl,
 by intros; rfl,
 by intros; rfl,
 by intros; rfl,
 by intros; rfl,
 by intros; rfl,
 by intro g off n cs; simp only [J5p]; cases sub cs off n <;> rfl,
 by intro g off n c cs; simp only [J5p]; cases sub (c :: cs) off n <;> rfl,
 by intros; rfl,
 by intros; rfl,
 by intro cs; exact JgB cs,
 by intro c cs; simp only [J1K, if_true]; cases unp (c :: cs) <;> rfl,
 by intros; rfl,
 by intros; rfl,
 by intros; rfl,
 by intros; rfl,
 rfl,
 by intro c r; simp only [unp]; cases unp r <;> rfl,
 by intros; rfl,
 by intros; rfl,
 by intros; rfl,
 by intros; rfl,
 by intros; rfl,
 by intros; rfl,
 by intros; rfl,
 by intros; rfl,
 by intro α β g l; simp,
 by intros; rfl,
 by intros; rfl,
 by intros; rfl,
 by intro env sto g n cs off; exact JtV ..,
 by intro env sto g n b off; exact Jth ..,
 by intro env sto g n b e i off; exact JtB ..,
 by intro g n off cs; exact Jvg ..,
 by intros; rfl,
 by intros; rfl,
 by intro env sto n b off v; exact Jtt ..,
 by intro n b off cs vs; exact Jsk ..,
 by intro b off cs v; exact Jvn ..,
 by intro env sto n b e i off v; exact JsY ..,
 by intro n b e i off z c rows s; exact Jvp ..,
 by intro n b e i off z cs rows s; exact Jvm ..,
 by intros; rfl,
 by intros; rfl,
 by intros; rfl,
 by intros; rfl,
 by intros; rfl,
 by intros; rfl,
 by intros; rfl,
 by intro n cs; exact Jv2 ..,
 by intros; rfl,
 by intros; rfl,
 by intro env sto e rows k n; exact JqA ..,
 by intro env sto e b m k n; exact Js7 ..,
 by intro e b m n w rows; exact Jtd ..,
 by intros; rfl,
 by intros; rfl,
 by intros; rfl,
 by intro l k n; exact Ju3 ..,
 by intros; rfl,
 by intro g n e cs k i; exact JuU ..,
 by intros; rfl,
 by intros; rfl,
 @JuE,
 by intro env sto b n new; exact Jsa ..,
 @Jvr,
 by intro env sto l new; exact Jsf ..,
 by intro env sto l new; exact JpF ..,
 by intros; rfl,
 by intro env sto off size x r; exact JuQ ..,
 by intros; rfl,
 by intro off size vs cs r; exact Jma ..,
 by intro off v cs r; exact JqI ..,
 by intros; rfl,
 by intro env sto x r; exact Jun ..,
 by intros; rfl,
 by intros; rfl,
 by intros; rfl,
 by intros; rfl,
 by intro env sto m; cases m <;> rfl,
 by intro env sto l; rw [Jkb],
 by intro env sto x m r; exact Jta ..,
 by intro env sto x m r; exact Jti ..,
 by intros; rfl,
 by intro env sto c r; exact Jd5 _ _ rfl ..,
 by intro env sto c r; exact Jd5 _ _ rfl ..,
 by intro env sto b o r; exact Jd5 _ _ rfl ..,
 by intro env sto c o r; exact Jd5 _ _ rfl ..,
 by intro env sto b x i o r; exact Jd5 _ _ rfl ..,
 by intro env sto b n r; exact JrL ..,
 by intro env sto cs r; exact JqG ..,
 @fr,
 by intros; rfl,
 by intro env sto c r; exact Js0 ..,
 by intro env sto b n r; exact JqE ..,
 by intros; rfl,
 by intro env sto f a c r; exact Jd5 _ _ rfl ..,
 by intro m ids sto f a c; exact Jt5 ..,
 by intros; rfl,
 by intros; rfl,
 by intros; rfl,
 by intro env sto b c x ws; exact Jtn ..,
 by intros; rfl,
 by intro b c x r; exact Jv3 ..,
 by intros; rfl,
 by intros; rfl,
 by intros; rfl,
 by intros; rfl,
 by intro env sto b; exact Jv9 ..,
 by intro env sto e rows; exact Jsj ..,
 by intro env sto l; exact JqM ..,
 by intro env sto e b n; exact Jrn ..,
 by intro e n w rows; exact JqF ..,
 by intro env sto o e n new z ps; exact Jv1 ..,
 by intros; rfl,
 by intro env sto x r; exact Juc ..,
 by intros; rfl,
 by intros; rfl,
 by intros; rfl,
 by intro env sto b n; exact JpO ..,
 by intros; rfl,
 by intros; rfl,
 @mk,
 by intros; rfl,
 by intros; rfl,
 by intro env sto s c lo hi; exact JqD ..,
 by intro env sto s b n lo hi; exact Js2 ..,
 by intros; rfl,
 by intros; rfl,
 @cl,
 by intros; rfl,
 by intro m k sto x r; exact Jv4 ..,
 by intros; rfl,
 by intro m ids sto x r; exact Jud ..,
 by intros; rfl,
 by intros; rfl,
 by intro m ids sto cs; exact JsD ..,
 by intro m ids sto l; exact JjE m ids sto l,
 by intros; rfl,
 by intro m ids sto x r; exact Juu ..,
 by intros; rfl,
 by intros; rfl,
 by intros; rfl,
 by intros; rfl,
 by intros; rfl,
 by intro m ids sto b n; exact Jtl ..,
 by intros; rfl,
 by intros; rfl,
 by intro m ids sto cs; exact Jsz ..,
 by intro m ids sto x cs; exact Jst ..,
 by intros; rfl,
 by intros; rfl,
 by intros; rfl,
 by intros; rfl,
 by intros; rfl,
 by intro env sto t r; exact JrQ ..,
 by intro env sto t n g r; exact Jrk ..,
 by intros; rfl,
 rfl,
 by intros; rfl,
 by intros; rfl,
 by intro m b sto r; exact JuI ..,
 by intro m b sto r; exact JsM ..,
 by intros; rfl,
 by intros; rfl,
 by intros; rfl,
 by intros; rfl,
 by intros; rfl,
 by intro sto b r acc; exact JuP ..,
 by intros; rfl,
 by intros; rfl,
 by intros; rfl,
 by intros; rfl,
 by intro cs l; exact Jpm cs l,
 by intros; rfl,
 by intros; rfl,
 by intros; rfl,
 by intros; rfl,
 by intros; rfl,
 by intros; rfl,
 by intros; rfl,
 by intros; rfl,
 by intro b c r; exact JuS ..,
 rfl,
 by intros; rfl,
 by intros; rfl,
 by intro sto b r; exact Ju6 ..,
 by intros; rfl,
 by intros; rfl,
 by intros; rfl,
 by intros; rfl,
 by intros; rfl,
 @JuK,
 @Jua,
 @JuN,
 by intros; rfl,
 by intros; rfl,
 @JuT,
 @Juf,
 @Jv6,
 @Jv5,
 by intros; rfl,
 by intros; rfl,
 by intros; rfl,
 by intros; rfl,
 by intro n; exact Nat.zero_add n,
 by intros; rfl,
 @Jul,
 @Juj,
 @Jsp,
 @Jux,
 @s1,
 by intros; rfl,
 by intro α cs; rw [J5U]; simp,
 by intro α a cs n; exact JqH ..,
 by intro α a cs n m; exact JqL ..,
 by intro α cs; rw [J7d]; simp,
 by intro α a b cs vs; exact Jrr ..,
 by intro α a cs n vs; exact Jr3 ..,
 by intros; rfl,
 by intro off size c a cs r; exact JrS ..,
 by intros; rfl,
 by intros; rfl,
 by intros; rfl,
 by intros; rfl,
 by intro a; simp,
 by intro a; simp,
 by intro α a; simp,
 by intros; rfl,
 by intros; rfl⟩
set_option maxRecDepth 30000 in
theorem Nf : (∀ {α : Type} (l : List α), [] ++ l = l) ∧
 (∀ {α : Type} (l : List α), l ++ [] = l) ∧
 (∀ {α : Type} (a : α) (l r : List α), (a :: l) ++ r = a :: (l ++ r)) ∧
 (∀ {α β : Type} (g : α → β), List.map g [] = []) ∧
 (∀ {α β : Type} (g : α → β) (a : α) (l : List α), List.map g (a :: l) = g a :: List.map g l) ∧
 (∀ {α : Type}, ([] : List α).length = 0) ∧
 (∀ {α : Type} (a : α) (l : List α), (a :: l).length = l.length + 1) ∧
 (∀ k n, r_i k n = [.i k n]) ∧
 (∀ x, r_b x = [.b x]) ∧
 (∀ x, r_s x = [.s x]) ∧
 (∀ {α : Type} (e : Nat) (g : α → List PV) (l : List α), Jje e g l = [.sl e (l.map g)]) :=
 ⟨@JuK,
 @Jua,
 @JuN,
 @JuT,
 @Juf,
 @Jv6,
 @Jv5,
 @Jul,
 @Juj,
 @Jsp,
 @Jux⟩
set_option maxRecDepth 30000 in
theorem Ra : (∀ F new env sto g n x, rdO F (.load g n x) new ⟨env, sto⟩ = rb (evv x env) fun a => Je ((J27 g n a).reads ⟨env, sto⟩)) ∧
 (∀ s g n b o, Je ((J27 g n (.ptr b o)).reads s) = [b]) ∧
 (∀ s g n o cs, Je ((J27 g n (.cp cs o)).reads s) = []) ∧
 (∀ s g n b e i o, Je ((J27 g n (.ep b e i o)).reads s) = [b]) ∧
 (∀ F new s z, rdO F (.newbox z) new s = [new]) ∧
 (∀ F new env sto n x y, rdO F (.store n x y) new ⟨env, sto⟩ = rb (evv x env) fun a => rb (evv y env) fun c => Je ((J1D n a c).reads ⟨env, sto⟩)) ∧
 (∀ s n b o v, Je ((J1D n (.ptr b o) v).reads s) = [b]) ∧
 (∀ s n b e i o c, Je ((J1D n (.ep b e i o) (.p c)).reads s) = [b]) ∧
 (∀ s n b e i o c, Je ((J1D n (.ep b e i o) (.data c)).reads s) = [b]) ∧
 (∀ F new env sto g args, rdO F (.call g args 0) new ⟨env, sto⟩ = rb ((evs args).run ⟨env, sto⟩) fun a => Je ((JB a).reads ⟨env, sto⟩) ++ rb ((JB a).run ⟨env, sto⟩) fun a => Je ((Jj F g a 0 new).reads ⟨env, sto⟩)) ∧
 (∀ F new env sto g args, rdO F (.call g args 1) new ⟨env, sto⟩ = new :: rb (is1 sto[new]?) fun _ => rb ((evs args).run ⟨env, sto⟩) fun a => Je ((JB a).reads ⟨env, sto⟩) ++ rb ((JB a).run ⟨env, sto⟩) fun a => Je ((Jj F g a 1 new).reads ⟨env, sto⟩)) ∧
 (is1 (some .dead) = some ()) ∧
 (∀ {α β : Type} (a : α) (f : α → List β), rb (some a) f = f a) ∧
 (∀ F new env sto g args, rdO F (.callv g args 0) new ⟨env, sto⟩ = rb (evv g env) fun u => cvl u fun h a1 c1 => rb ((evs args).run ⟨env, sto⟩) fun a => Je ((JB (a1 ++ a ++ c1)).reads ⟨env, sto⟩) ++ rb ((JB (a1 ++ a ++ c1)).run ⟨env, sto⟩) fun a => Je ((Jj F h a 0 new).reads ⟨env, sto⟩)) ∧
 (∀ {α : Type} (f : FuncId) (a c : List AV) (k : FuncId → List AV → List AV → List α), cvl (.fn f a c) k = k f a c) ∧
 (∀ s, Je ((JB []).reads s) = []) ∧
 (∀ s c r, Je ((JB (.p c :: r)).reads s) = Je ((JB r).reads s)) ∧
 (∀ s c r, Je ((JB (.data c :: r)).reads s) = Je ((JB r).reads s)) ∧
 (∀ s b o r, Je ((JB (.ptr b o :: r)).reads s) = Je ((JB r).reads s)) ∧
 (∀ s c o r, Je ((JB (.cp c o :: r)).reads s) = Je ((JB r).reads s)) ∧
 (∀ s b x i o r, Je ((JB (.ep b x i o :: r)).reads s) = Je ((JB r).reads s)) ∧
 (∀ s b n r, Je ((JB (.slr b 0 n :: r)).reads s) = b :: rb ((J7p (.slr b 0 n)).run s) fun _ => Je ((JB r).reads s)) ∧
 (∀ F new s e n z ps, rdO F (.lits false e n z ps) new s = Je ((fzs (ps.map (·.2))).reads s)) ∧
 (∀ F new env sto e n z ps, rdO F (.lits true e n z ps) new ⟨env, sto⟩ = new :: rb (is1 sto[new]?) fun _ => Je ((fzs (ps.map (·.2))).reads ⟨env, sto⟩)) ∧
 (∀ s, Je ((fzs []).reads s) = []) ∧
 (∀ env sto x r, Je ((fzs (x :: r)).reads ⟨env, sto⟩) = rb (evv x env) fun v => Je ((fz v).reads ⟨env, sto⟩) ++ rb ((fz v).run ⟨env, sto⟩) fun _ => Je ((fzs r).reads ⟨env, sto⟩)) ∧
 (∀ s c, Je ((fz (.p c)).reads s) = []) ∧
 (∀ s c, Je ((fz (.data c)).reads s) = []) ∧
 (∀ s b n, Je ((fz (.slr b 0 n)).reads s) = [b]) ∧
 (∀ F new env sto x, rdO F (.conv .toStr x) new ⟨env, sto⟩ = rb (evv x env) fun a => Je ((J02 1 a).reads ⟨env, sto⟩)) ∧
 (∀ s e b n, Je ((J02 e (.slr b 0 n)).reads s) = [b]) ∧
 (∀ s e z rows, Je ((J02 e (.p (.sl z rows))).reads s) = []) ∧
 (∀ F new env sto e x i, rdO F (.iaddr e x i) new ⟨env, sto⟩ = rb (evv x env) fun a => rb (evv i env) fun c => Je ((J2T e a c).reads ⟨env, sto⟩)) ∧
 (∀ s e b n k i, Je ((J2T e (.slr b 0 n) (.p (.i k i))).reads s) = [b]) ∧
 (∀ s e z rows k i, Je ((J2T e (.p (.sl z rows)) (.p (.i k i))).reads s) = []) ∧
 (∀ F new env sto k x lo hi mx, rdO F (.slice k x lo hi mx) new ⟨env, sto⟩ = rb (evv x env) fun a => Je ((slT k lo hi mx a).reads ⟨env, sto⟩)) ∧
 (∀ s k lo hi mx c, Je ((slT k lo hi mx (.p c)).reads s) = []) ∧
 (∀ F new env sto e b z y, rdO F (.appn e b z y) new ⟨env, sto⟩ = new :: rb (is1 sto[new]?) fun _ => rb (evv y env) fun a => Je ((J02 e a).reads ⟨env, sto⟩)) ∧
 (∀ F new env sto e b z x y, rdO F (.app e b z x y) new ⟨env, sto⟩ = rb (evv x env) fun a => rb (evv y env) fun c => Je ((J4L e b a c).reads ⟨env, sto⟩)) ∧
 (∀ s e y b n z rows, Je ((J4L e y (.slr b 0 n) (.p (.sl z rows))).reads s) = [b]) ∧
 (∀ a b c d, pkk (some (a, b)) (some (c, d)) = (J5s b c && J5s b d && J5s a d)) ∧
 (∀ b, J5s [] b = true) ∧
 (∀ x a b, J5s (x :: a) b = (!(b.contains x) && J5s a b)) ∧
 (∀ x, ([] : List Nat).contains x = false) ∧
 (∀ (x y : Nat) (l : List Nat), (y :: l).contains x = (x == y || l.contains x)) ∧
 (∀ a, (true && a) = a) ∧
 (∀ a, (false && a) = false) ∧
 (∀ a, (true || a) = true) ∧
 (∀ a, (false || a) = a) :=
 ⟨by intro F new env sto g n x; exact Jt3 ..,
 by intro s g n b o; exact Jt9 ..,
 by intro s g n o cs; exact Jv8 ..,
 by intro s g n b e i o; exact JuJ ..,
 by intro F new s z; exact JpM ..,
 by intro F new env sto n x y; exact Jr5 ..,
 by intro s n b o v; exact Jtq ..,
 by intro s n b e i o c; exact Jr0 ..,
 by intro s n b e i o c; exact JrT ..,
 by intro F new env sto g args; exact JrC ..,
 by intro F new env sto g args; exact JqV ..,
 rfl,
 by intros; rfl,
 by intro F new env sto g args; exact Jqu ..,
 by intros; rfl,
 by intros; rfl,
 by intro s c r; exact JbM s rfl r,
 by intro s c r; exact JbM s rfl r,
 by intro s b o r; exact JbM s rfl r,
 by intro s c o r; exact JbM s rfl r,
 by intro s b x i o r; exact JbM s rfl r,
 by intro s b n r; exact JtS ..,
 by intro F new s e n z ps; exact JrR ..,
 by intro F new env sto e n z ps; exact Jrm ..,
 by intros; rfl,
 by intro env sto x r; exact Jup ..,
 by intros; rfl,
 by intros; rfl,
 by intro s b n; exact Jff ..,
 by intro F new env sto x; exact JrD ..,
 by intro s e b n; exact Jq5 ..,
 by intro s e z rows; exact Jmz ..,
 by intro F new env sto e x i; exact Jrg ..,
 by intro s e b n k i; exact Jq4 ..,
 by intro s e z rows k i; exact Jru ..,
 by intro F new env sto k x lo hi mx; exact JpL ..,
 by intro s k lo hi mx c; exact JtM ..,
 by intro F new env sto e b z y; exact JtL ..,
 by intro F new env sto e b z x y; exact Ju9 ..,
 by intro s e y b n z rows; exact JqS ..,
 by intros; rfl,
 by intros; rfl,
 by intro x a b; simp [J5s],
 by intros; rfl,
 by intro x y l; rw [List.contains_cons],
 by intro a; simp,
 by intro a; simp,
 by intro a; simp,
 by intro a; simp⟩
end Go.Am
end
