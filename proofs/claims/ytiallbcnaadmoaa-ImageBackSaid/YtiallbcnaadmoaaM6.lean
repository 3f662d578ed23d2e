/-
  Parts of a proof.
-/
import Derived.Test.YtiallbcnaadmoaaM5
set_option linter.unusedSimpArgs false
set_option linter.unusedVariables false
section
namespace Go.Am
@[congr] theorem JwE {T : J5f} {f : AFn} {m : Nat} {k : List Fr} {o o' : Option Out} (h : o = o') : rk T f m k o = rk T f m k o' := by rw [h]
def tdn (e : AX) (o : Option St) : Option Out := match o with
 | some s => some (e, s)
 | none => none
def JpV (fresh : Bool) (m : Nat) (vs : List AV) (sto : List Blk) (ids : List Nat) : Option Res :=
 if J4Y ids = true then (fin.finL m ids sto vs).bind fun ws => (J3m m ids sto (sto.take m)).bind fun l => (J6W sto ids).bind fun q => (J3m m ids sto q).bind fun q => some (one ws, l ++ q) else none
def Jig (res : List Jcj) (fresh : Bool) (m : Nat) (s : St) : Option Res :=
 ((J5Z res).run s).bind fun vs => if s.sto.length = m then some (one vs, s.sto) else JpV fresh m vs s.sto (J0Y m fresh s.sto (J7C s.sto (JW.entsOfL vs []) (JW.entsOfL vs [])))
theorem Jhf (res : List Jcj) (fresh : Bool) (m : Nat) (s : St) : J4A ⟨0, 0, .skip, res, fresh⟩ m s = Jig res fresh m s := by
 unfold J4A Jig
 dsimp only
 cases (J5Z res).run s with
 | none => rfl
 | some vs =>
  simp only [Option.bind_some]
  split
  ·rfl
  ·unfold JpV
   split
   ·generalize J0Y m fresh s.sto _ = ids
    cases fin.finL m ids s.sto vs <;> cases J3m m ids s.sto (s.sto.take m) <;> cases J6W s.sto ids <;> try rfl
    rename_i q
    simp only [Option.bind_some]
    cases J3m m ids s.sto q <;> rfl
   ·rfl
theorem Ju5 (T : J5f) (f : AFn) (m : Nat) (s : St) : rk T f m [] (some (.normal, s)) = Jig f.res f.fresh m s := (Jt3 T f m s).trans (Jhf ..)
theorem Jru (T : J5f) (f : AFn) (m : Nat) (s : St) : rk T f m [] (some (.ret, s)) = Jig f.res f.fresh m s := (Jsy T f m s).trans (Jhf ..)
def dds {α : Type} (n new : Nat) (sto : List Blk) (o : Option α) : Option α := match (J6E new n).run ⟨[], sto⟩ with
 | some _ => o
 | none => none
def dd1 {α : Type} (b : Option Blk) (o : Option α) : Option α := match b with
 | some .dead => o
 | _ => none
@[congr] theorem Jwx {α : Type} {b b' : Option Blk} {o : Option α} (h : b = b') : dd1 b o = dd1 b' o := by rw [h]
theorem JwF {α : Type} (new : Nat) (sto : List Blk) (o : Option α) : dds 1 new sto o = dd1 sto[new]? o := by
 unfold dds dd1
 simp only [J6E, RM.run]
 cases sto[new]? with
 | none => rfl
 | some b => cases b <;> rfl
section
variable {F : Orc} {r : List J0M} {new d : Nat} {env : List (Nat × AV)} {sto : List Blk}
theorem Jml (n : Nat) : ∀ new, (J6E new n).run ⟨env, sto⟩ = (J6E new n).run ⟨[], sto⟩ := by
 induction n with
 | zero => intro new; rfl
 | succ n ih =>
  intro new
  simp only [J6E, RM.run]
  cases sto[new]? with
  | none => rfl
  | some b => cases b <;> first | exact ih _ | rfl
def lgA (l : Option Log) (a b : List Nat) : Option Log := l.map (· ++ [(a, b)])
def rdO (F : Orc) (op : AOp) (new : Nat) (s : St) : List Nat := Jc ((opD F op new).reads s)
abbrev GR := Option (St × Option Log)
def Jo (F : Orc) : List J0M → Nat → St → Option Log → GR
 | [], _, s, l => some (s, l)
 | i :: r, new, s, l => match (J1E F i new).run s with
  | some e => Jo F r (new + JB i.op) (put i.dst e s) (lgA l (Jc ((J1E F i new).reads s)) (e.ws.map (·.1)))
  | none => none
theorem JqX (F : Orc) (ins : List J0M) : ∀ new s, Jo F ins new s none = (J2A F ins new s).map fun s => (s, none) := by
 induction ins with
 | nil => intro new s; rfl
 | cons i r ih =>
  intro new s
  simp only [Jo, J2A]
  cases (J1E F i new).run s with
  | none => rfl
  | some e => exact ih _ _
theorem Js3 (F : Orc) (ins : List J0M) : ∀ new s l, Jo F ins new s (some l) = (J4V F ins new s l).map fun x => (x.1, some x.2) := by
 induction ins with
 | nil => intro new s l; rfl
 | cons i r ih =>
  intro new s l
  simp only [Jo, J4V]
  cases (J1E F i new).run s with
  | none => rfl
  | some e => exact ih _ _ _
def Jt6 (o : GR) : Option Out := match o with
 | some (s, _) => some (.normal, s)
 | none => none
def Jpp (ps : List (Nat × Nat)) (o : GR) : Option Out := match o with
 | some (s, some l) => if J8N l ps = true then some (.normal, s) else none
 | _ => none
theorem JtL (T : J5f) (f : AFn) (m : Nat) (k : List Fr) (d ins env sto) : rk T f m k (X T (.reg d [] ins) ⟨env, sto⟩) = rk T f m k (Jt6 (Jo (AF T) ins sto.length ⟨env, room (news ins) sto⟩ none)) := by
 rw [JvV, JqX]
 cases J2A (AF T) ins sto.length ⟨env, room (news ins) sto⟩ <;> rfl
theorem JuH (T : J5f) (f : AFn) (m : Nat) (k : List Fr) (d p ps ins env sto) : rk T f m k (X T (.reg d (p :: ps) ins) ⟨env, sto⟩) = rk T f m k (Jpp (p :: ps) (Jo (AF T) ins sto.length ⟨env, room (news ins) sto⟩ (some []))) := by
 rw [Jt8, Js3]
 simp only [region]
 cases J4V (AF T) ins sto.length ⟨env, room (news ins) sto⟩ [] with
 | none => rfl
 | some x =>
  obtain ⟨s, l⟩ := x
  simp only [Option.map_some, Jpp]
  split <;> rfl
theorem stD {lg : Option Log} (op : AOp) : Jo F (⟨op, some d, none⟩ :: r) new ⟨env, sto⟩ lg = dds (JB op) new sto (((opR F op new).run ⟨env, sto⟩).bind fun e => Jo F r (new + JB op) ⟨(d, e.val) :: env, upd e.ws sto⟩ (lgA lg (rdO F op new ⟨env, sto⟩) (e.ws.map (·.1)))) := by
 have e0 : (J1E F ⟨op, some d, none⟩ new).run ⟨env, sto⟩ = dds (JB op) new sto ((opR F op new).run ⟨env, sto⟩) := by
  simp only [J1E, opD, run_bind, Jml (env := env)]
  unfold dds
  cases (J6E new (JB op)).run ⟨[], sto⟩ <;> rfl
 simp only [Jo, e0]
 unfold dds
 cases (J6E new (JB op)).run ⟨[], sto⟩ with
 | none => rfl
 | some u => simp only []; cases (opR F op new).run ⟨env, sto⟩ <;> rfl
theorem JmK {lg : Option Log} (op : AOp) : Jo F (⟨op, none, none⟩ :: r) new ⟨env, sto⟩ lg = dds (JB op) new sto (((opR F op new).run ⟨env, sto⟩).bind fun e => Jo F r (new + JB op) ⟨env, upd e.ws sto⟩ (lgA lg (rdO F op new ⟨env, sto⟩) (e.ws.map (·.1)))) := by
 have e0 : (J1E F ⟨op, none, none⟩ new).run ⟨env, sto⟩ = dds (JB op) new sto ((opR F op new).run ⟨env, sto⟩) := by
  simp only [J1E, opD, run_bind, Jml (env := env)]
  unfold dds
  cases (J6E new (JB op)).run ⟨[], sto⟩ <;> rfl
 simp only [Jo, e0]
 unfold dds
 cases (J6E new (JB op)).run ⟨[], sto⟩ with
 | none => rfl
 | some u => simp only []; cases (opR F op new).run ⟨env, sto⟩ <;> rfl
theorem st0 {lg : Option Log} {op : AOp} (h : JB op = 0) : Jo F (⟨op, some d, none⟩ :: r) new ⟨env, sto⟩ lg = ((opR F op new).run ⟨env, sto⟩).bind fun e => Jo F r new ⟨(d, e.val) :: env, upd e.ws sto⟩ (lgA lg (rdO F op new ⟨env, sto⟩) (e.ws.map (·.1))) := by
 rw [stD, h]; rfl
theorem JwP {lg : Option Log} {op : AOp} (h : JB op = 0) : Jo F (⟨op, none, none⟩ :: r) new ⟨env, sto⟩ lg = ((opR F op new).run ⟨env, sto⟩).bind fun e => Jo F r new ⟨env, upd e.ws sto⟩ (lgA lg (rdO F op new ⟨env, sto⟩) (e.ws.map (·.1))) := by
 rw [JmK, h]; rfl
def pk (u : AV) (a b : Option AV) : Option AV := match u with
 | .p (.b x) => if x = true then a else b
 | _ => none
@[congr] theorem Jwu {α : Type} {n n' new new' : Nat} {sto : List Blk} {o : Option α} (h : n = n') (h' : new = new') : dds n new sto o = dds n' new' sto o := by rw [h, h']
theorem J1A {α : Type} (n new : Nat) (sto : List Blk) : dds n new sto (none : Option α) = none := by
 unfold dds; split <;> rfl
theorem Jrx {α β : Type} (n new : Nat) (sto : List Blk) (o : Option α) (g : α → Option β) : dds n new sto (o.bind g) = o.bind fun a => dds n new sto (g a) := by
 cases o with
 | none => exact J1A ..
 | some a => rfl
theorem Jvo {β : Type} {K : Eff → Option β} {o : Option AV} : ((o.bind fun v => some ⟨v, []⟩).bind K) = o.bind fun v => K ⟨v, []⟩ := by cases o <;> rfl
def pkk (a b : Option (List Nat × List Nat)) : Bool := match a, b with
 | some a, some b => J5t a.2 b.1 && J5t a.2 b.2 && J5t a.1 b.2
 | _, _ => false
theorem bi {α β : Type} {o : Option α} {f : α → Option β} {r : β} (h : Option.bind o f = some r) : ∃ x, o = some x ∧ f x = some r := Option.bind_eq_some_iff.1 h
theorem sj {α : Type} {a b : α} (h : some a = some b) : a = b := Option.some.inj h
theorem mi {α β : Type} {o : Option α} {f : α → β} {r : β} (h : Option.map f o = some r) : ∃ x, o = some x ∧ f x = r := Option.map_eq_some_iff.1 h
inductive Dum {α : Type} : α → Type where
 | mk (a : α) : Dum a
def hold {α : Type} (a : α) (_ : Dum a) : α := a
def pkh {β : Type} (u : AV) (a b : Option AV) (K : AV → Option β) : Option β := (pk u a b).bind K
theorem Jro {β : Type} {K : Eff → Option β} {a b : Opd} {o : Option AV} : ((o.bind fun u => RM.run (match u with
  | .p (.b x) => if x = true then (ev a).bind fun v => .ret ⟨v, []⟩ else (ev b).bind fun v => .ret ⟨v, []⟩
  | _ => .fail) ⟨env, sto⟩).bind K) = o.bind fun u => (pk u (evv a env) (evv b env)).bind fun v => K ⟨v, []⟩ := by
 cases o with
 | none => rfl
 | some u =>
  simp only [Option.bind_some]
  cases u with
  | p c =>
   cases c with
   | b x =>
    cases x with
    | true => simp only [if_true, run_bind, J0o, pk]; cases evv a env <;> rfl
    | false => simp only [Bool.false_eq_true, if_false, run_bind, J0o, pk]; cases evv b env <;> rfl
   | _ => rfl
  | _ => rfl
theorem Jde {β : Type} {K : Eff → Option β} {o : Option AV} (g : AV → Option AV) : ((o.bind fun a => (Go.Am.val (g a)).run ⟨env, sto⟩).bind K) = o.bind fun a => (g a).bind fun v => K ⟨v, []⟩ := by
 cases o with
 | none => rfl
 | some a => simp only [Option.bind_some]; cases g a <;> rfl
theorem Jk2 {β : Type} {K : Eff → Option β} {o o' : Option AV} (g : AV → AV → Option AV) : ((o.bind fun a => o'.bind fun c => (Go.Am.val (g a c)).run ⟨env, sto⟩).bind K) = o.bind fun a => o'.bind fun c => (g a c).bind fun v => K ⟨v, []⟩ := by
 cases o with
 | none => rfl
 | some a =>
  cases o' with
  | none => rfl
  | some c => simp only [Option.bind_some]; cases g a c <;> rfl
theorem Jme {β : Type} {o : Option AV} (g : AV → Option Eff) {k : Eff → Option β} : ((o.bind fun a => g a).bind k) = o.bind fun a => (g a).bind k := by
 cases o <;> rfl
theorem Jra {β : Type} {o o' : Option AV} {e b : Nat} {z : List PV} {s : St} {k : Eff → Option β} : ((o.bind fun a => o'.bind fun c => RM.run (match zrs e z c with
  | some c1 => J4s e b a c1
  | none => .fail) s).bind k) = o.bind fun a => o'.bind fun c => (zrs e z c).bind fun c1 => ((J4s e b a c1).run s).bind k := by
 cases o with
 | none => rfl
 | some a => cases o' with
  | none => rfl
  | some c =>
   simp only [Option.bind_some]
   cases zrs e z c <;> rfl
theorem Ji4 {β : Type} {o o' : Option AV} (g : AV → AV → Option Eff) {k : Eff → Option β} : ((o.bind fun a => o'.bind fun c => g a c).bind k) = o.bind fun a => o'.bind fun c => (g a c).bind k := by
 cases o <;> cases o' <;> rfl
def Jk0 (a c : AV) : Option AV := match a, c with
 | .p (.s l), .p (.i _ n) => if 0 ≤ n then
   match l[n.toNat]? with
   | some u => some (.p (.i .u8 u.toNat))
   | none => none
  else none
 | _, _ => none
theorem Jts {β : Type} {K : Eff → Option β} {o o' : Option AV} : ((o.bind fun a => o'.bind fun c => RM.run (match a, c with
  | .p (.s l), .p (.i _ n) => if 0 ≤ n then
    match l[n.toNat]? with
    | some u => .ret ⟨.p (.i .u8 u.toNat), []⟩
    | none => .fail
   else .fail
  | _, _ => .fail) ⟨env, sto⟩).bind K) = o.bind fun a => o'.bind fun c => (Jk0 a c).bind fun v => K ⟨v, []⟩ := by
 cases o with
 | none => rfl
 | some a =>
  cases o' with
  | none => rfl
  | some c =>
   simp only [Option.bind_some, Jk0]
   split
   ·split
    ·split <;> rfl
    ·rfl
   ·rfl
theorem JuQ (l : List UInt8) (k : IntKind) (n : Int) : Jk0 (.p (.s l)) (.p (.i k n)) = (JbO l n).map fun v => .p (.i .u8 v) := by
 simp only [Jk0, JbO]
 by_cases h : 0 ≤ n
 ·simp only [if_pos h]; cases l[n.toNat]? <;> rfl
 ·simp only [if_neg h]; rfl
def Jhq (g : Bool) (n e : Nat) (a c : AV) : Option AV := match c with
 | .p (.i _ i) => if 0 ≤ i ∧ i < n then J5o g (i.toNat * e) e a else none
 | _ => none
theorem Juz {β : Type} {K : Eff → Option β} {g : Bool} {n e : Nat} {o o' : Option AV} : ((o.bind fun a => o'.bind fun c => RM.run (match c with
  | .p (.i _ i) => if 0 ≤ i ∧ i < n then Go.Am.val (J5o g (i.toNat * e) e a) else .fail
  | _ => .fail) ⟨env, sto⟩).bind K) = o.bind fun a => o'.bind fun c => (Jhq g n e a c).bind fun v => K ⟨v, []⟩ := by
 cases o with
 | none => rfl
 | some a =>
  cases o' with
  | none => rfl
  | some c =>
   simp only [Option.bind_some, Jhq]
   split
   ·split
    ·cases J5o g _ e a <;> rfl
    ·rfl
   ·rfl
theorem Jvz (g : Bool) (n e : Nat) (cs : List PV) (k : IntKind) (i : Int) : Jhq g n e (.data cs) (.p (.i k i)) = if 0 ≤ i ∧ i < n then (sub cs (i.toNat * e) e).bind (J1P g) else none := by
 simp only [Jhq, J5o]
 split
 ·cases sub cs (i.toNat * e) e <;> rfl
 ·rfl
def Jmn : AV → Option AV
 | .ptr b o => some (.ptr b o)
 | .cp cs o => some (.cp cs o)
 | .ep b e i o => some (.ep b e i o)
 | .fn f u c => some (.fn f u c)
 | _ => none
theorem JtE {β : Type} {K : Eff → Option β} {o : Option AV} : ((o.bind fun a => RM.run (match a with
  | .ptr b o => .ret ⟨.ptr b o, []⟩
  | .cp cs o => .ret ⟨.cp cs o, []⟩
  | .ep b e i o => .ret ⟨.ep b e i o, []⟩
  | .fn f u c => .ret ⟨.fn f u c, []⟩
  | _ => .fail) ⟨env, sto⟩).bind K) = o.bind fun a => (Jmn a).bind fun v => K ⟨v, []⟩ := by
 cases o with
 | none => rfl
 | some a => cases a <;> rfl
def cvR (k : CK) (a : AV) (new : Nat) : RM Eff := match k, a with
 | .int k, .p (.i _ n) => .ret ⟨.p (.i k (k.wrap n)), []⟩
 | .same, .p (.s l) => .ret ⟨.p (.s l), []⟩
 | .toStr, a => (JS 1 a).bind fun rows => match J5F rows with
  | some l => .ret ⟨.p (.s l), []⟩
  | none => .fail
 | .toBytes own, .p (.s l) => if own then .ret ⟨.slr new 0 l.length, [(new, .arr true 1 (l.map J49))]⟩ else .ret ⟨.p (.sl 1 (l.map J49)), []⟩
 | _, _ => .fail
theorem JsB {lg : Option Log} {c : CK} {x : Opd} : Jo F (⟨.conv c x, some d, none⟩ :: r) new ⟨env, sto⟩ lg = (evv x env).bind fun a => dds (JB (.conv c x)) new sto (((cvR c a new).run ⟨env, sto⟩).bind fun e => Jo F r (new + JB (.conv c x)) ⟨(d, e.val) :: env, upd e.ws sto⟩ (lgA lg (rdO F (.conv c x) new ⟨env, sto⟩) (e.ws.map (·.1)))) := by
 rw [stD]
 have : (opR F (.conv c x) new).run ⟨env, sto⟩ = (evv x env).bind fun a => (cvR c a new).run ⟨env, sto⟩ := by
  simp only [opR, run_bind, J0o]; rfl
 rw [this, Jme (fun a => (cvR c a new).run ⟨env, sto⟩), Jrx]
theorem Jqz {lg : Option Log} {z : List PV} {ps : List (Nat × Nat × Opd)} : Jo F (⟨.build z ps, some d, none⟩ :: r) new ⟨env, sto⟩ lg = ((J2w ps).run ⟨env, sto⟩).bind fun l => (J0W l (z.map .p)).bind fun cs => (J1C true cs).bind fun v => Jo F r new ⟨(d, v) :: env, sto⟩ (lgA lg (rdO F (.build z ps) new ⟨env, sto⟩) []) := by
 rw [st0 (h := rfl)]
 simp only [opR, run_bind]
 cases (J2w ps).run ⟨env, sto⟩ with
 | none => rfl
 | some l =>
  simp only [Option.bind_some]
  cases J0W l (z.map .p) with
  | none => rfl
  | some cs => simp only [Option.bind_some]; cases J1C true cs <;> rfl
def J8W (x : Option Opd) (env : List (Nat × AV)) : Option (Option AV) := match x with
 | none => some none
 | some x => (evv x env).map some
theorem Ju9 (x : Option Opd) : (evo x).run ⟨env, sto⟩ = J8W x env := by
 cases x with
 | none => rfl
 | some x => simp only [evo, run_bind, J0o, J8W]; cases evv x env <;> rfl
def slR (s : SK) (a : AV) (lo hi mx : Option AV) : RM Eff := match a with
 | .slr b i n => (fz (.slr b i n)).bind fun y => match y.1 with
  | [c] => match J4x s (.p c) lo hi mx with
   | some v => .ret ⟨v, y.2⟩
   | none => .fail
  | _ => .fail
 | a => Go.Am.val (J4x s a lo hi mx)
theorem Jqu {lg : Option Log} {s : SK} {x : Opd} {lo hi mx : Option Opd} : Jo F (⟨.slice s x lo hi mx, some d, none⟩ :: r) new ⟨env, sto⟩ lg = (evv x env).bind fun a => (J8W lo env).bind fun lo1 => (J8W hi env).bind fun hi1 => (J8W mx env).bind fun mx1 => ((slR s a lo1 hi1 mx1).run ⟨env, sto⟩).bind fun e => Jo F r new ⟨(d, e.val) :: env, upd e.ws sto⟩ (lgA lg (rdO F (.slice s x lo hi mx) new ⟨env, sto⟩) (e.ws.map (·.1))) := by
 rw [st0 (h := rfl)]
 have : (opR F (.slice s x lo hi mx) new).run ⟨env, sto⟩ = (evv x env).bind fun a => (J8W lo env).bind fun lo => (J8W hi env).bind fun hi => (J8W mx env).bind fun mx => (slR s a lo hi mx).run ⟨env, sto⟩ := by
  simp only [opR, run_bind, J0o, Ju9]; rfl
 rw [this]
 cases evv x env with
 | none => rfl
 | some a =>
  cases J8W lo env with
  | none => rfl
  | some lo =>
   cases J8W hi env with
   | none => rfl
   | some hi => cases J8W mx env <;> rfl
def slX (s : SK) (x : AV) (lo hi : Option AV) : Option AV := J4x s x lo hi none
theorem JpQ {lg : Option Log} {z : List PV} : Jo F (⟨.newbox z, some d, none⟩ :: r) new ⟨env, sto⟩ lg = dds 1 new sto (Jo F r (new + 1) ⟨(d, .ptr new 0) :: env, sto.set new (.box (z.map .p))⟩ (lgA lg (rdO F (.newbox z) new ⟨env, sto⟩) [new])) := by
 rw [stD]; rfl
def Jn5 (e b : Nat) (a : AV) (add : List (List PV)) : Option (List (List PV)) := match a with
 | .p (.slc e' rows) => if e = e' ∧ 0 < add.length ∧ J63 (rows.length + add.length) b = true then some (rows ++ add) else none
 | _ => none
theorem Jt1 {lg : Option Log} {e b : Nat} {z : List PV} {x y : Opd} : Jo F (⟨.appc e b z x y, some d, none⟩ :: r) new ⟨env, sto⟩ lg = (evv x env).bind fun a => (evv y env).bind fun c => ((JS e c).run ⟨env, sto⟩).bind fun add => (Jn5 e b a add).bind fun rows => dds 1 new sto (Jo F r (new + 1) ⟨(d, .slr new 0 rows.length) :: env, sto.set new (.arr true e rows)⟩ (lgA lg (rdO F (.appc e b z x y) new ⟨env, sto⟩) [new])) := by
 rw [stD]
 simp only [opR, run_bind, J0o, JB]
 cases evv x env with
 | none => exact J1A ..
 | some a =>
  simp only [Option.bind_some]
  cases evv y env with
  | none => exact J1A ..
  | some c =>
   simp only [Option.bind_some]
   cases hq : (JS e c).run ⟨env, sto⟩ with
   | none =>
    have : (Jih e b a c new).run ⟨env, sto⟩ = none := by
     unfold Jih; split
     ·simp only [run_bind, hq]; rfl
     ·rfl
    rw [this]; exact J1A ..
   | some add =>
    simp only [Option.bind_some]
    have : (Jih e b a c new).run ⟨env, sto⟩ = (Jn5 e b a add).map fun rows => ⟨.slr new 0 rows.length, [(new, .arr true e rows)]⟩ := by
     cases a with
     | p q => cases q with
      | slc e' rows =>
       simp only [Jih, Jn5, run_bind, hq, Option.bind_some]
       split
       ·simp [J1Z]
       ·rfl
      | _ => rfl
     | _ => rfl
    rw [this]
    cases Jn5 e b a add with
    | none => exact J1A ..
    | some rows => rfl
theorem Jsb {lg : Option Log} {e b : Nat} {z : List PV} {y : Opd} : Jo F (⟨.appn e b z y, some d, none⟩ :: r) new ⟨env, sto⟩ lg = (evv y env).bind fun c => ((JS e c).run ⟨env, sto⟩).bind fun rows => if J63 rows.length b = true then dds 1 new sto (Jo F r (new + 1) ⟨(d, .slr new 0 rows.length) :: env, sto.set new (.arr true e rows)⟩ (lgA lg (rdO F (.appn e b z y) new ⟨env, sto⟩) [new])) else none := by
 rw [stD]
 simp only [opR, run_bind, J0o, JB]
 cases evv y env with
 | none => exact J1A ..
 | some c =>
  simp only [Option.bind_some]
  cases (JS e c).run ⟨env, sto⟩ with
  | none => exact J1A ..
  | some rows =>
   simp only [Option.bind_some]
   split
   ·rfl
   ·exact J1A ..
theorem JqD {lg : Option Log} {e : Nat} {x : Opd} : Jo F (⟨.mkarr e x, some d, none⟩ :: r) new ⟨env, sto⟩ lg = dds 1 new sto (Jo F r (new + 1) ⟨(d, .slr new 0 0) :: env, sto.set new (.arr true e [])⟩ (lgA lg (rdO F (.mkarr e x) new ⟨env, sto⟩) [new])) := by
 rw [stD]; rfl
def bxP (n : Nat) (a : AV) : Option (List AV) := match cellsOf a with
 | some cs => if cs.length = n then some cs else none
 | none => none
theorem JtH {lg : Option Log} {n : Nat} {x : Opd} : Jo F (⟨.box n x, some d, none⟩ :: r) new ⟨env, sto⟩ lg = (evv x env).bind fun a => (bxP n a).bind fun cs => dds 1 new sto (Jo F r (new + 1) ⟨(d, .ptr new 0) :: env, sto.set new (.box cs)⟩ (lgA lg (rdO F (.box n x) new ⟨env, sto⟩) [new])) := by
 rw [stD]
 simp only [opR, run_bind, J0o, JB]
 cases evv x env with
 | none => exact J1A ..
 | some a =>
  simp only [Option.bind_some, bxP]
  cases cellsOf a with
  | none => exact J1A ..
  | some cs =>
   dsimp only
   split
   ·rfl
   ·exact J1A ..
def ltR (o : Bool) (e n : Nat) (z : List PV) (ps : List (Nat × Opd)) (new : Nat) : RM Eff := (fzs (ps.map (·.2))).bind fun a =>
  match J3Y e ((ps.map (·.1)).zip a.1) (List.replicate n z) with
  | some rows => if o then .ret ⟨.slr new 0 n, a.2 ++ [(new, .arr true e rows)]⟩ else .ret ⟨.p (.sl e rows), a.2⟩
  | none => .fail
theorem JsI {lg : Option Log} {o : Bool} {e n : Nat} {z : List PV} {ps : List (Nat × Opd)} : Jo F (⟨.lits o e n z ps, some d, none⟩ :: r) new ⟨env, sto⟩ lg = dds (if o then 1 else 0) new sto (((ltR o e n z ps new).run ⟨env, sto⟩).bind fun x => Jo F r (new + if o then 1 else 0) ⟨(d, x.val) :: env, upd x.ws sto⟩ (lgA lg (rdO F (.lits o e n z ps) new ⟨env, sto⟩) (x.ws.map (·.1)))) := by
 rw [stD]; rfl
theorem Jvw (env : List (Nat × AV)) (sto : List Blk) (o : Bool) (e n new : Nat) (z : List PV) (ps : List (Nat × Opd)) : (ltR o e n z ps new).run ⟨env, sto⟩ = ((fzs (ps.map (·.2))).run ⟨env, sto⟩).bind fun a => (J3Y e ((ps.map (·.1)).zip a.1) (List.replicate n z)).map fun rows => if o then ⟨.slr new 0 n, a.2 ++ [(new, .arr true e rows)]⟩ else ⟨.p (.sl e rows), a.2⟩ := by
 simp only [ltR, run_bind]
 cases (fzs (ps.map (·.2))).run ⟨env, sto⟩ with
 | none => rfl
 | some a =>
  simp only [Option.bind_some]
  cases J3Y e ((ps.map (·.1)).zip a.1) (List.replicate n z) with
  | none => rfl
  | some rows => cases o <;> rfl
def mkP (o : Bool) (e b : Nat) (z : List PV) (a c : AV) (new : Nat) : Option Eff := match a, c with
 | .p (.i _ n), .p (.i _ m) =>
  if 0 ≤ n ∧ n ≤ m ∧ b * m ≤ 281474976710656 ∧ m ≤ 281474976710656 then
   some (if o then ⟨.slr new 0 n.toNat, [(new, .arr true e (List.replicate n.toNat z))]⟩ else ⟨.p (.sl e (List.replicate n.toNat z)), []⟩)
  else none
 | _, _ => none
theorem Jv9 (o : Bool) (e b : Nat) (z : List PV) (a c : AV) (new : Nat) (s : St) : RM.run (match a, c with
  | .p (.i _ n), .p (.i _ m) =>
   if 0 ≤ n ∧ n ≤ m ∧ b * m ≤ 281474976710656 ∧ m ≤ 281474976710656 then
    if o then .ret ⟨.slr new 0 n.toNat, [(new, .arr true e (List.replicate n.toNat z))]⟩
    else .ret ⟨.p (.sl e (List.replicate n.toNat z)), []⟩
   else .fail
  | _, _ => .fail) s = mkP o e b z a c new := by
 unfold mkP
 split
 ·rename_i k n k2 m
  by_cases h : 0 ≤ n ∧ n ≤ m ∧ b * m ≤ 281474976710656 ∧ m ≤ 281474976710656
  ·simp only [if_pos h]; cases o <;> rfl
  ·simp only [if_neg h]; rfl
 ·rfl
theorem Jod {lg : Option Log} {o : Bool} {e b : Nat} {z : List PV} {l c : Opd} : Jo F (⟨.mkslice o e b z l c, some d, none⟩ :: r) new ⟨env, sto⟩ lg = (evv l env).bind fun a => (evv c env).bind fun x => dds (if o then 1 else 0) new sto ((mkP o e b z a x new).bind fun x => Jo F r (new + if o then 1 else 0) ⟨(d, x.val) :: env, upd x.ws sto⟩ (lgA lg (rdO F (.mkslice o e b z l c) new ⟨env, sto⟩) (x.ws.map (·.1)))) := by
 rw [stD]
 simp only [opR, run_bind, J0o, JB]
 cases evv l env with
 | none => exact J1A ..
 | some a =>
  cases evv c env with
  | none => exact J1A ..
  | some x =>
   simp only [Option.bind_some]
   exact congrArg (fun y => dds (if o then 1 else 0) new sto (y.bind fun x => Jo F r (new + if o then 1 else 0) ⟨(d, x.val) :: env, upd x.ws sto⟩ (lgA lg (rdO F (.mkslice o e b z l c) new ⟨env, sto⟩) (x.ws.map (·.1))))) (Jv9 o e b z a x new ⟨env, sto⟩)
def JmB (b : Nat) (B : Option Blk) (l : List Nat) : List Nat := match B with
 | some (.box _) => b :: l
 | some (.arr _ _ _) => b :: l
 | _ => l
theorem JuJ (m b : Nat) (sto : List Blk) (r : List Ent) : J0Y m true sto (.whole b :: r) = if b < m then J0Y m true sto r else JmB b sto[b]? (J0Y m true sto r) := by
 simp only [J0Y, JmB]
 split
 ·rfl
 ·split <;> simp_all
theorem JwJ {α : Type} (n new : Nat) (sto : List Blk) (o : Option α) : dds (n + 1) new sto o = dd1 sto[new]? (dds n (new + 1) sto o) := by
 unfold dds dd1
 simp only [J6E, RM.run]
 cases sto[new]? with
 | none => rfl
 | some b => cases b <;> rfl
theorem Jop {lg : Option Log} {z : List PV} {os : List (Nat × Nat)} : Jo F (⟨.newboxo z os, some d, none⟩ :: r) new ⟨env, sto⟩ lg =
  dds (os.length + 1) new sto (Jo F r (new + (os.length + 1)) ⟨(d, .ptr (new + os.length) 0) :: env, upd (J31 os new ++ [(new + os.length, .box (J7b os new (z.map .p)))]) sto⟩
   (lgA lg (rdO F (.newboxo z os) new ⟨env, sto⟩) ((J31 os new ++ [(new + os.length, Blk.box (J7b os new (z.map .p)))]).map (·.1)))) := by
 rw [stD]; rfl
theorem Jpm {lg : Option Log} {e : Nat} {x : Opd} : Jo F (⟨.storen e x, none, none⟩ :: r) new ⟨env, sto⟩ lg =
  (evv x env).bind fun a => dds 1 new sto (((J1x 1 a (.slr new 0 0)).run ⟨env, sto⟩).bind fun q => Jo F r (new + 1) ⟨env, upd ((new, .arr true e []) :: q.ws) sto⟩ (lgA lg (rdO F (.storen e x) new ⟨env, sto⟩) (new :: q.ws.map (·.1)))) := by
 rw [JmK]
 simp only [opR, run_bind, J0o, JB]
 cases evv x env with
 | none => exact J1A ..
 | some a => simp only [Option.bind_some]; cases (J1x 1 a (.slr new 0 0)).run ⟨env, sto⟩ <;> rfl
theorem JpY {lg : Option Log} {z : List PV} {ps : List (Nat × Nat × Opd)} {os : List (Nat × Nat)} : Jo F (⟨.buildo z ps os, some d, none⟩ :: r) new ⟨env, sto⟩ lg =
  ((J2w ps).run ⟨env, sto⟩).bind fun l => (J0W l (J7b os new (z.map .p))).bind fun cs => (J1C true cs).bind fun v =>
   dds os.length new sto (Jo F r (new + os.length) ⟨(d, v) :: env, upd (J31 os new) sto⟩ (lgA lg (rdO F (.buildo z ps os) new ⟨env, sto⟩) ((J31 os new).map (·.1)))) := by
 rw [stD]
 simp only [opR, run_bind, JB]
 cases (J2w ps).run ⟨env, sto⟩ with
 | none => exact J1A ..
 | some l =>
  simp only [Option.bind_some]
  cases J0W l (J7b os new (z.map .p)) with
  | none => exact J1A ..
  | some cs =>
   simp only [Option.bind_some]
   cases J1C true cs with
   | none => exact J1A ..
   | some v => rfl
theorem Jqb {lg : Option Log} {g : FuncId} {kp : List Bool} {args : List Opd} {n : Nat} : Jo F (⟨.callo g kp args n, some d, none⟩ :: r) new ⟨env, sto⟩ lg = dds n new sto (((evs args).run ⟨env, sto⟩).bind fun a => ((J2g kp a).run ⟨env, sto⟩).bind fun a => ((J4C F g a n new).run ⟨env, sto⟩).bind fun e => Jo F r (new + n) ⟨(d, e.val) :: env, upd e.ws sto⟩ (lgA lg (rdO F (.callo g kp args n) new ⟨env, sto⟩) (e.ws.map (·.1)))) := by
 rw [stD]
 simp only [opR, run_bind, JB]
 cases (evs args).run ⟨env, sto⟩ with
 | none => rfl
 | some a => simp only [Option.bind_some]; cases (J2g kp a).run ⟨env, sto⟩ <;> rfl
theorem Jpv {lg : Option Log} {g : FuncId} {kp : List Bool} {args : List Opd} {n : Nat} : Jo F (⟨.callo g kp args n, none, none⟩ :: r) new ⟨env, sto⟩ lg = dds n new sto (((evs args).run ⟨env, sto⟩).bind fun a => ((J2g kp a).run ⟨env, sto⟩).bind fun a => ((J4C F g a n new).run ⟨env, sto⟩).bind fun e => Jo F r (new + n) ⟨env, upd e.ws sto⟩ (lgA lg (rdO F (.callo g kp args n) new ⟨env, sto⟩) (e.ws.map (·.1)))) := by
 rw [JmK]
 simp only [opR, run_bind, JB]
 cases (evs args).run ⟨env, sto⟩ with
 | none => rfl
 | some a => simp only [Option.bind_some]; cases (J2g kp a).run ⟨env, sto⟩ <;> rfl
theorem Jku : ∀ l : List AV, J2g [] l = Jz l
 | [] => rfl
 | x :: r => by simp only [J2g, Jz, Jku r]
theorem JuK (x : AV) (m : List Bool) (r : List AV) : (J2g (false :: m) (x :: r)).run ⟨env, sto⟩ = ((Jz [x]).run ⟨env, sto⟩).bind fun a => ((J2g m r).run ⟨env, sto⟩).bind fun c => some (a.1 ++ c.1, a.2 ++ c.2) := by
 simp only [J2g, Jz, run_bind]
 cases (J7x x).run ⟨env, sto⟩ with
 | none => rfl
 | some a => simp only [Option.bind_some, RM.run]; cases (J2g m r).run ⟨env, sto⟩ <;> simp
theorem JtJ (x : AV) (m : List Bool) (r : List AV) : (J2g (true :: m) (x :: r)).run ⟨env, sto⟩ = ((J2g m r).run ⟨env, sto⟩).bind fun c => some (x :: c.1, c.2) := by
 simp only [J2g, run_bind]
 cases (J2g m r).run ⟨env, sto⟩ <;> rfl
theorem Jsw {lg : Option Log} {g : FuncId} {args : List Opd} {n : Nat} : Jo F (⟨.call g args n, some d, none⟩ :: r) new ⟨env, sto⟩ lg = dds n new sto (((evs args).run ⟨env, sto⟩).bind fun a => ((Jz a).run ⟨env, sto⟩).bind fun a => ((Jl F g a n new).run ⟨env, sto⟩).bind fun e => Jo F r (new + n) ⟨(d, e.val) :: env, upd e.ws sto⟩ (lgA lg (rdO F (.call g args n) new ⟨env, sto⟩) (e.ws.map (·.1)))) := by
 rw [stD]
 simp only [opR, run_bind, JB, JbM]
 cases (evs args).run ⟨env, sto⟩ with
 | none => rfl
 | some a => simp only [Option.bind_some]; cases (Jz a).run ⟨env, sto⟩ <;> rfl
theorem JqV {lg : Option Log} {g : FuncId} {args : List Opd} {n : Nat} : Jo F (⟨.call g args n, none, none⟩ :: r) new ⟨env, sto⟩ lg = dds n new sto (((evs args).run ⟨env, sto⟩).bind fun a => ((Jz a).run ⟨env, sto⟩).bind fun a => ((Jl F g a n new).run ⟨env, sto⟩).bind fun e => Jo F r (new + n) ⟨env, upd e.ws sto⟩ (lgA lg (rdO F (.call g args n) new ⟨env, sto⟩) (e.ws.map (·.1)))) := by
 rw [JmK]
 simp only [opR, run_bind, JB, JbM]
 cases (evs args).run ⟨env, sto⟩ with
 | none => rfl
 | some a => simp only [Option.bind_some]; cases (Jz a).run ⟨env, sto⟩ <;> rfl
def cvg {α : Type} (u : AV) (k : FuncId → List AV → List AV → Option α) : Option α := match u with
 | .fn f a c => k f a c
 | _ => none
theorem Jt0 {lg : Option Log} {g : FuncId} {a c : List Opd} : Jo F (⟨.mkfn g a c, some d, none⟩ :: r) new ⟨env, sto⟩ lg = ((evs a).run ⟨env, sto⟩).bind fun a1 => ((evs c).run ⟨env, sto⟩).bind fun c1 => Jo F r new ⟨(d, .fn g a1 c1) :: env, sto⟩ (lgA lg (rdO F (.mkfn g a c) new ⟨env, sto⟩) []) := by
 rw [st0 (h := rfl)]
 simp only [opR, run_bind]
 cases (evs a).run ⟨env, sto⟩ with
 | none => rfl
 | some a1 => simp only [Option.bind_some]; cases (evs c).run ⟨env, sto⟩ <;> rfl
theorem JqT {lg : Option Log} {g : Opd} {args : List Opd} {n : Nat} : Jo F (⟨.callv g args n, some d, none⟩ :: r) new ⟨env, sto⟩ lg = (evv g env).bind fun u => cvg u fun h a1 c1 => dds n new sto (((evs args).run ⟨env, sto⟩).bind fun a => ((Jz (a1 ++ a ++ c1)).run ⟨env, sto⟩).bind fun a => ((Jl F h a n new).run ⟨env, sto⟩).bind fun q => Jo F r (new + n) ⟨(d, q.val) :: env, upd q.ws sto⟩ (lgA lg (rdO F (.callv g args n) new ⟨env, sto⟩) (q.ws.map (·.1)))) := by
 rw [stD]
 simp only [opR, run_bind, J0o, JB]
 cases evv g env with
 | none => exact J1A ..
 | some u =>
  simp only [Option.bind_some]
  cases u with
  | fn h a1 c1 =>
   simp only [cvg, run_bind, JbM]
   cases (evs args).run ⟨env, sto⟩ with
   | none => rfl
   | some a => simp only [Option.bind_some]; cases (Jz (a1 ++ a ++ c1)).run ⟨env, sto⟩ <;> rfl
  | _ => exact J1A ..
theorem Jpc {lg : Option Log} {g : Opd} {args : List Opd} {n : Nat} : Jo F (⟨.callv g args n, none, none⟩ :: r) new ⟨env, sto⟩ lg = (evv g env).bind fun u => cvg u fun h a1 c1 => dds n new sto (((evs args).run ⟨env, sto⟩).bind fun a => ((Jz (a1 ++ a ++ c1)).run ⟨env, sto⟩).bind fun a => ((Jl F h a n new).run ⟨env, sto⟩).bind fun q => Jo F r (new + n) ⟨env, upd q.ws sto⟩ (lgA lg (rdO F (.callv g args n) new ⟨env, sto⟩) (q.ws.map (·.1)))) := by
 rw [JmK]
 simp only [opR, run_bind, J0o, JB]
 cases evv g env with
 | none => exact J1A ..
 | some u =>
  simp only [Option.bind_some]
  cases u with
  | fn h a1 c1 =>
   simp only [cvg, run_bind, JbM]
   cases (evs args).run ⟨env, sto⟩ with
   | none => rfl
   | some a => simp only [Option.bind_some]; cases (Jz (a1 ++ a ++ c1)).run ⟨env, sto⟩ <;> rfl
  | _ => exact J1A ..
def grd {α : Type} (x : Option AV) (w : Bool) (a b : Option α) : Option α := match x with
 | some (.p (.b x)) => if x = w then a else b
 | some (.tup []) => b
 | _ => none
end
@[congr] theorem Jwp {α : Type} {x x' : Option AV} {w : Bool} {a b : Option α} (h : x = x') : grd x w a b = grd x' w a b := by rw [h]
theorem Jtv (F : Orc) (r : List J0M) (new : Nat) (env : List (Nat × AV)) (sto : List Blk) (lg : Option Log) (op : AOp) (d : Option Nat) (g : Nat) (w : Bool) :
  Jo F (⟨op, d, some (g, w)⟩ :: r) new ⟨env, sto⟩ lg = grd (lk g env) w (Jo F (⟨op, d, none⟩ :: r) new ⟨env, sto⟩ lg) (Jo F r (new + JB op) (put d ⟨J0P, []⟩ ⟨env, sto⟩) (lgA lg [] [])) := by
 simp only [Jo, J1E, RM.run, RM.reads]
 cases lk g env with
 | none => rfl
 | some v =>
  dsimp only
  cases v with
  | p c =>
   cases c with
   | b x =>
    simp only [grd]
    by_cases h : x = w
    ·subst h; simp only [if_true]; rfl
    ·simp only [if_neg h]; rfl
   | _ => rfl
  | tup l => cases l <;> rfl
  | _ => rfl
def JpT (k : Nat) (v : Option AV) (l : List (Nat × AV)) : List (Nat × AV) := match v with
 | some v => (k, v) :: l
 | none => l
def Jnz (cs : List AV) (l : Option (List PV)) : AV := match l with
 | some l => .data l
 | none => .agg cs
def ldB (g : Bool) (n off : Nat) (B : Blk) : Option Eff := match B with
 | .box cs => (sub cs off n).bind fun l => (J1C g l).map fun v => ⟨v, []⟩
 | _ => none
def ldE (g : Bool) (n e i off : Nat) (B : Blk) : Option Eff := match B with
 | .arr _ _ rows => if e = rows.length then rows[i]?.bind fun row => (sub row off n).bind fun l => (J1P g l).map fun v => ⟨v, []⟩ else none
 | _ => none
theorem Jtn (env : List (Nat × AV)) (sto : List Blk) (g : Bool) (n : Nat) (cs : List PV) (off : Nat) : (J1X g n (.cp cs off)).run ⟨env, sto⟩ = (sub cs off n).bind fun l => (J1P g l).map fun v => ⟨v, []⟩ := by
 simp only [J1X]
 cases sub cs off n with
 | none => rfl
 | some l => simp only [Option.bind_some]; cases J1P g l <;> rfl
theorem Jtq (env : List (Nat × AV)) (sto : List Blk) (g : Bool) (n b off : Nat) : (J1X g n (.ptr b off)).run ⟨env, sto⟩ = sto[b]?.bind fun B => ldB g n off B := by
 simp only [J1X, J6t]
 cases sto[b]? with
 | none => rfl
 | some B =>
  cases B with
  | box cs =>
   simp only [Option.bind_some, ldB]
   cases sub cs off n with
   | none => rfl
   | some l => simp only [Option.bind_some]; cases J1C g l <;> rfl
  | _ => rfl
theorem Jwi (g : Bool) (n off : Nat) (cs : List PV) : ldB g n off (.box (cs.map AV.p)) = (sub cs off n).bind fun l => (J1P g l).map fun v => ⟨v, []⟩ := by
 simp only [ldB, JsZ]
 cases sub cs off n with
 | none => rfl
 | some l =>
  simp only [Option.map_some, Option.bind_some]
  cases g with
  | true => rw [Jhb]; rfl
  | false => match l with
   | [] => rfl
   | [_] => rfl
   | _ :: _ :: _ => rfl
theorem Juh (env : List (Nat × AV)) (sto : List Blk) (g : Bool) (n b e i off : Nat) : (J1X g n (.ep b e i off)).run ⟨env, sto⟩ = sto[b]?.bind fun B => ldE g n e i off B := by
 simp only [J1X, J6t]
 cases sto[b]? with
 | none => rfl
 | some B =>
  cases B with
  | arr w z rows =>
   simp only [Option.bind_some, ldE]
   split
   ·cases rows[i]? with
    | none => rfl
    | some row =>
     simp only [Option.bind_some]
     cases sub row off n with
     | none => rfl
     | some l => simp only [Option.bind_some]; cases J1P g l <;> rfl
   ·rfl
  | _ => rfl
def stB (n b off : Nat) (l : List AV) (B : Blk) : Option Eff := match B with
 | .box cs => if l.length = n then (spl cs off l).map fun cs => ⟨J0P, [(b, .box cs)]⟩ else none
 | _ => none
theorem JtR (env : List (Nat × AV)) (sto : List Blk) (n b off : Nat) (v : AV) : (J1x n (.ptr b off) v).run ⟨env, sto⟩ = sto[b]?.bind fun B => (cellsOf v).bind fun l => stB n b off l B := by
 simp only [J1x, J6t]
 cases sto[b]? with
 | none => rfl
 | some B =>
  simp only [Option.bind_some]
  cases B with
  | box cs =>
   dsimp only
   cases cellsOf v with
   | none => rfl
   | some l =>
    simp only [Option.bind_some, stB]
    split
    ·cases spl cs off l <;> rfl
    ·rfl
  | dead => cases cellsOf v <;> rfl
  | arr w z rows => cases cellsOf v <;> rfl
theorem Jt9 (n b off : Nat) (cs vs : List PV) : stB n b off (vs.map AV.p) (.box (cs.map AV.p)) = if vs.length = n then (spl cs off vs).map fun cs => ⟨J0P, [(b, .box (cs.map AV.p))]⟩ else none := by
 simp only [stB, List.length_map, JmW]
 split
 ·cases spl cs off vs <;> rfl
 ·rfl
theorem Jw7 (b off : Nat) (cs : List PV) (v : PV) : stB 1 b off [AV.p v] (.box (cs.map AV.p)) = (spl cs off [v]).map fun cs => ⟨J0P, [(b, .box (cs.map AV.p))]⟩ := by
 have := Jt9 1 b off cs [v]
 simpa using this
def stE (n b e i off : Nat) (v : AV) (B : Blk) (s : St) : Option Eff := match B with
 | .arr true z rows => if e = rows.length then
   match rows[i]? with
   | some row => ((fz v).run s).bind fun a =>
    if a.1.length = n ∧ (a.2.all fun y => y.1 != b) = true then
     match spl row off a.1 with
     | some row' => some ⟨J0P, a.2 ++ [(b, .arr true z (rows.set i row'))]⟩
     | none => none
    else none
   | none => none
  else none
 | _ => none
theorem Juq (env : List (Nat × AV)) (sto : List Blk) (n b e i off : Nat) (v : AV) : (J1x n (.ep b e i off) v).run ⟨env, sto⟩ = sto[b]?.bind fun B => stE n b e i off v B ⟨env, sto⟩ := by
 simp only [J1x, J6t]
 cases sto[b]? with
 | none => rfl
 | some B =>
  simp only [Option.bind_some]
  cases B with
  | arr w z rows =>
   cases w with
   | false => rfl
   | true =>
    simp only [stE]
    split
    ·cases rows[i]? with
     | none => rfl
     | some row =>
      simp only [run_bind]
      cases (fz v).run ⟨env, sto⟩ with
      | none => rfl
      | some a =>
       simp only [Option.bind_some]
       split
       ·cases spl row off a.1 <;> rfl
       ·rfl
    ·rfl
  | _ => rfl
theorem Jw2 (n b e i off z : Nat) (c : PV) (rows : List (List PV)) (s : St) : stE n b e i off (.p c) (.arr true z rows) s = if e = rows.length then rows[i]?.bind fun row => if 1 = n then (spl row off [c]).map fun row => ⟨J0P, [(b, .arr true z (rows.set i row))]⟩ else none else none := by
 simp only [stE, fz, J1Z, Option.bind_some]
 split
 ·cases rows[i]? with
  | none => rfl
  | some row =>
   simp only [Option.bind_some, List.length_cons, List.length_nil, List.all_nil, and_true]
   simp only [Nat.zero_add]
   split
   ·cases spl row off [c] <;> rfl
   ·rfl
 ·rfl
theorem Jwg (n b e i off z : Nat) (cs : List PV) (rows : List (List PV)) (s : St) : stE n b e i off (.data cs) (.arr true z rows) s = if e = rows.length then rows[i]?.bind fun row => if cs.length = n then (spl row off cs).map fun row => ⟨J0P, [(b, .arr true z (rows.set i row))]⟩ else none else none := by
 simp only [stE, fz, J1Z, Option.bind_some]
 split
 ·cases rows[i]? with
  | none => rfl
  | some row =>
   simp only [Option.bind_some, List.all_nil, and_true]
   split
   ·cases spl row off cs <;> rfl
   ·rfl
 ·rfl
theorem Jvf (n : Nat) (cs : List PV) : bxP n (.data cs) = if cs.length = n then some (cs.map AV.p) else none := by simp [bxP, cellsOf]
theorem Js5 (env : List (Nat × AV)) (sto : List Blk) (e : Nat) (rows : List (List PV)) (k : IntKind) (n : Int) : (J2R e (.p (.sl e rows)) (.p (.i k n))).run ⟨env, sto⟩ = (Jbx rows n).map fun row => ⟨.cp row 0, []⟩ := by
 simp only [J2R, if_true]
 cases Jbx rows n <;> rfl
def iaB (e b m : Nat) (n : Int) (B : Blk) : Option Eff := match B with
 | .arr _ esz' rows => if e = esz' ∧ 0 + m = rows.length ∧ 0 ≤ n ∧ n < m then some ⟨.ep b rows.length (0 + n.toNat) 0, []⟩ else none
 | _ => none
theorem JrL (env : List (Nat × AV)) (sto : List Blk) (e b m : Nat) (k : IntKind) (n : Int) : (J2R e (.slr b 0 m) (.p (.i k n))).run ⟨env, sto⟩ = sto[b]?.bind fun B => iaB e b m n B := by
 simp only [J2R, J6t]
 cases sto[b]? with
 | none => rfl
 | some B =>
  cases B with
  | arr w z rows => simp only [Option.bind_some, iaB]; split <;> rfl
  | _ => rfl
theorem Jtk (e b m : Nat) (n : Int) (w : Bool) (rows : List (List PV)) : iaB e b m n (.arr w e rows) = if m = rows.length ∧ 0 ≤ n ∧ n < m then some ⟨.ep b rows.length n.toNat 0, []⟩ else none := by
 simp [iaB]
theorem Js4 (env : List (Nat × AV)) (sto : List Blk) (l : List Int) (new : Nat) : (cvR .toStr (.p (.sl 1 (l.map (r_i .u8)))) new).run ⟨env, sto⟩ = some ⟨.p (.s (toStr l)), []⟩ := by
 simp only [cvR, JS, if_true, run_bind, J1Z, Option.bind_some, JdN]
def cvB (n : Nat) (B : Blk) : Option Eff := match B with
 | .arr _ z rows => if 1 = z ∧ 0 + n = rows.length then
   match J5F (rows.drop 0) with
   | some l => some ⟨.p (.s l), []⟩
   | none => none
  else none
 | _ => none
theorem JsG (env : List (Nat × AV)) (sto : List Blk) (b n new : Nat) : (cvR .toStr (.slr b 0 n) new).run ⟨env, sto⟩ = sto[b]?.bind fun B => cvB n B := by
 simp only [cvR, JS, run_bind, J6t]
 cases sto[b]? with
 | none => rfl
 | some B =>
  cases B with
  | arr w z rows =>
   simp only [Option.bind_some, cvB]
   split
   ·simp only [J1Z, Option.bind_some]; cases J5F (rows.drop 0) <;> rfl
   ·rfl
  | _ => rfl
theorem Ju6 (n : Nat) (w : Bool) (l : List Int) : cvB n (.arr w 1 (l.map (r_i .u8))) = if n = l.length then some ⟨.p (.s (toStr l)), []⟩ else none := by
 simp only [cvB, List.drop_zero, JdN, List.length_map, Nat.zero_add, true_and]
theorem Jsc (env : List (Nat × AV)) (sto : List Blk) (l : List UInt8) (new : Nat) : (cvR (.toBytes false) (.p (.s l)) new).run ⟨env, sto⟩ = some ⟨.p (.sl 1 ((J9h l).map (r_i .u8))), []⟩ := by
 simp [cvR, Jhi]
theorem Jr4 (env : List (Nat × AV)) (sto : List Blk) (l : List UInt8) (new : Nat) : (cvR (.toBytes true) (.p (.s l)) new).run ⟨env, sto⟩ = some ⟨.slr new 0 (J9h l).length, [(new, .arr true 1 ((J9h l).map (r_i .u8)))]⟩ := by
 have : (J9h l).length = l.length := by simp [J9h]
 simp [cvR, Jhi, this]
theorem Jvu (env : List (Nat × AV)) (sto : List Blk) (off size : Nat) (x : Opd) (r : List (Nat × Nat × Opd)) : (J2w ((off, size, x) :: r)).run ⟨env, sto⟩ = (evv x env).bind fun v => (cellsOf v).bind fun cs => ((J2w r).run ⟨env, sto⟩).bind fun l => some ((off, size, cs) :: l) := by
 simp only [J2w, run_bind, J0o]
 cases evv x env with
 | none => rfl
 | some v =>
  simp only [Option.bind_some]
  cases cellsOf v with
  | none => rfl
  | some cs => simp only [Option.bind_some, run_bind]; cases (J2w r).run ⟨env, sto⟩ <;> rfl
theorem Jmy (off size : Nat) (vs cs : List PV) (r : List (Nat × Nat × List AV)) : J0W ((off, size, vs.map AV.p) :: r) (cs.map AV.p) = if vs.length = size then (spl cs off vs).bind fun cs => J0W r (cs.map AV.p) else none := by
 simp only [J0W, List.length_map, JmW]
 split
 ·cases spl cs off vs <;> rfl
 ·rfl
theorem Jsj (off : Nat) (v : PV) (cs : List PV) (r : List (Nat × Nat × List AV)) : J0W ((off, 1, [AV.p v]) :: r) (cs.map AV.p) = (spl cs off [v]).bind fun cs => J0W r (cs.map AV.p) := by
 have := Jmy off 1 [v] cs r
 simpa using this
theorem Jv8 (env : List (Nat × AV)) (sto : List Blk) (x : Opd) (r : List Opd) : (evs (x :: r)).run ⟨env, sto⟩ = (evv x env).bind fun v => ((evs r).run ⟨env, sto⟩).bind fun vs => some (v :: vs) := by
 simp only [evs, run_bind, J0o]; rfl
theorem Jdd (env : List (Nat × AV)) (sto : List Blk) {v : AV} (h : J7x v = .ret (v, [])) (r : List AV) : (Jz (v :: r)).run ⟨env, sto⟩ = ((Jz r).run ⟨env, sto⟩).bind fun a => some (v :: a.1, a.2) := by
 simp only [Jz, h, run_bind, J1Z, Option.bind_some, List.nil_append]
def frz (b n : Nat) (B : Blk) : Option (AV × (Nat × Blk)) := match B with
 | .arr _ z rows => if n = rows.length then some (.p (.sl z rows), (b, .arr false z rows)) else none
 | _ => none
def frp (b n : Nat) (B : Blk) : Option (PV × (Nat × Blk)) := match B with
 | .arr _ z rows => if n = rows.length then some (.sl z rows, (b, .arr false z rows)) else none
 | _ => none
theorem JmR (env : List (Nat × AV)) (sto : List Blk) (b n : Nat) : (fz (.slr b 0 n)).run ⟨env, sto⟩ = sto[b]?.bind fun B => (frp b n B).bind fun x => some ([x.1], [x.2]) := by
 simp only [fz, J6t]
 cases sto[b]? with
 | none => rfl
 | some B =>
  cases B with
  | arr w z rows =>
   simp only [Option.bind_some, frp, Nat.zero_add, List.drop_zero]
   split <;> rfl
  | _ => rfl
theorem Jtu (env : List (Nat × AV)) (sto : List Blk) (b n : Nat) : (fz.fz1 (.slr b 0 n)).run ⟨env, sto⟩ = sto[b]?.bind fun B => (frp b n B).bind fun x => some ([x.1], [x.2]) := by
 simp only [fz.fz1, J6t]
 cases sto[b]? with
 | none => rfl
 | some B =>
  cases B with
  | arr w z rows =>
   simp only [Option.bind_some, frp, Nat.zero_add, List.drop_zero]
   split <;> rfl
  | _ => rfl
theorem Jrn (env : List (Nat × AV)) (sto : List Blk) (b n : Nat) (r : List AV) : (Jz (.slr b 0 n :: r)).run ⟨env, sto⟩ = sto[b]?.bind fun B => (frz b n B).bind fun x => ((Jz r).run ⟨env, sto⟩).bind fun a => some (x.1 :: a.1, x.2 :: a.2) := by
 simp only [Jz, J7x, run_bind, JmR]
 cases sto[b]? with
 | none => rfl
 | some B =>
  cases B with
  | arr w z rows =>
   simp only [Option.bind_some, frp, frz]
   split
   ·simp only [Option.bind_some, J1Z]; cases (Jz r).run ⟨env, sto⟩ <;> rfl
   ·rfl
  | _ => rfl
theorem JsE (env : List (Nat × AV)) (sto : List Blk) (cs r : List AV) : (Jz (.agg cs :: r)).run ⟨env, sto⟩ = ((fz.fzL cs).run ⟨env, sto⟩).bind fun x => ((Jz r).run ⟨env, sto⟩).bind fun a => some (.data x.1 :: a.1, x.2 ++ a.2) := by
 simp only [Jz, J7x, run_bind, fz]
 cases (fz.fzL cs).run ⟨env, sto⟩ with
 | none => rfl
 | some x => simp only [Option.bind_some, J1Z]
theorem JsY (env : List (Nat × AV)) (sto : List Blk) (c : PV) (r : List AV) : (fz.fzL (.p c :: r)).run ⟨env, sto⟩ = ((fz.fzL r).run ⟨env, sto⟩).bind fun a => some (c :: a.1, a.2) := by
 simp only [fz.fzL, fz.fz1, run_bind, J1Z, Option.bind_some]; rfl
theorem JrB (env : List (Nat × AV)) (sto : List Blk) (b n : Nat) (r : List AV) : (fz.fzL (.slr b 0 n :: r)).run ⟨env, sto⟩ = sto[b]?.bind fun B => (frp b n B).bind fun x => ((fz.fzL r).run ⟨env, sto⟩).bind fun a => some (x.1 :: a.1, x.2 :: a.2) := by
 simp only [fz.fzL, run_bind, Jtu]
 cases sto[b]? with
 | none => rfl
 | some B =>
  simp only [Option.bind_some]
  cases frp b n B with
  | none => rfl
  | some x => simp only [Option.bind_some]; cases (fz.fzL r).run ⟨env, sto⟩ <;> rfl
theorem Jvn (env : List (Nat × AV)) (sto : List Blk) (b : Nat) : (J8j [] b).run ⟨env, sto⟩ = sto[b]? := by
 simp only [J8j, J6t]
 cases sto[b]? <;> rfl
theorem JsA (env : List (Nat × AV)) (sto : List Blk) (e : Nat) (rows : List (List PV)) : (JS e (.p (.sl e rows))).run ⟨env, sto⟩ = some rows := by simp [JS]
theorem Jt5 (env : List (Nat × AV)) (sto : List Blk) (l : List UInt8) : (JS 1 (.p (.s l))).run ⟨env, sto⟩ = some ((J9h l).map (r_i .u8)) := by simp [JS, Jhi]
def roB (e n : Nat) (B : Blk) : Option (List (List PV)) := match B with
 | .arr _ z rows => if e = z ∧ 0 + n = rows.length then some (rows.drop 0) else none
 | _ => none
theorem Jrt (env : List (Nat × AV)) (sto : List Blk) (e b n : Nat) : (JS e (.slr b 0 n)).run ⟨env, sto⟩ = sto[b]?.bind fun B => roB e n B := by
 simp only [JS, J6t]
 cases sto[b]? with
 | none => rfl
 | some B =>
  cases B with
  | arr w z rows => simp only [Option.bind_some, roB]; split <;> rfl
  | _ => rfl
theorem Jsg (e n : Nat) (w : Bool) (rows : List (List PV)) : roB e n (.arr w e rows) = if n = rows.length then some rows else none := by simp [roB]
theorem Jvq (env : List (Nat × AV)) (sto : List Blk) (x : Opd) (r : List Opd) : (fzs (x :: r)).run ⟨env, sto⟩ = (evv x env).bind fun v => ((fz v).run ⟨env, sto⟩).bind fun a => ((fzs r).run ⟨env, sto⟩).bind fun c => some (a.1 :: c.1, a.2 ++ c.2) := by
 simp only [fzs, run_bind, J0o]; rfl
theorem Jr3 (env : List (Nat × AV)) (sto : List Blk) (b n : Nat) : (fz (.slr b 0 n)).run ⟨env, sto⟩ = sto[b]?.bind fun B => (frp b n B).bind fun x => some ([x.1], [x.2]) := JmR ..
theorem Jse (env : List (Nat × AV)) (sto : List Blk) (s : SK) (c : PV) (lo hi : Option AV) : (slR s (.p c) lo hi none).run ⟨env, sto⟩ = (slX s (.p c) lo hi).map fun v => ⟨v, []⟩ := by
 simp only [slR, slX]
 cases J4x s (.p c) lo hi none <;> rfl
theorem Jsk (env : List (Nat × AV)) (sto : List Blk) (s : SK) (b n : Nat) (lo hi : Option AV) : (slR s (.slr b 0 n) lo hi none).run ⟨env, sto⟩ = sto[b]?.bind fun B => (frz b n B).bind fun x => (slX s x.1 lo hi).map fun v => ⟨v, [x.2]⟩ := by
 simp only [slR, run_bind, JmR]
 cases sto[b]? with
 | none => rfl
 | some B =>
  cases B with
  | arr w z rows =>
   simp only [Option.bind_some, frp, frz]
   split
   ·simp only [Option.bind_some, slX]; cases J4x s (.p (.sl z rows)) lo hi none <;> rfl
   ·rfl
  | _ => rfl
theorem Jv2 (n : Nat) (live : List Nat) (env : List (Nat × AV)) (sto : List Blk) : J5x n live ⟨env, sto⟩ = if sto.length = n then some ⟨restr live env, sto⟩ else (J8l n sto (restr live env)).bind fun e => (J3m n [] sto (sto.take n)).bind fun l => some ⟨e, l⟩ := by
 simp only [J5x]
 split
 ·rfl
 ·cases J8l n sto (restr live env) with
  | none => rfl
  | some e => cases J3m n [] sto (sto.take n) <;> rfl
theorem Jv6 (m k : Nat) (sto : List Blk) (x : AV) (r : List (Nat × AV)) : J8l m sto ((k, x) :: r) = (fin m [] sto x).bind fun y => (J8l m sto r).bind fun l => some ((k, y) :: l) := by
 simp only [J8l]
 cases fin m [] sto x with
 | none => rfl
 | some y => cases J8l m sto r <;> rfl
theorem JuX (m : Nat) (ids : List Nat) (sto : List Blk) (x : Blk) (r : List Blk) : J3m m ids sto (x :: r) = (J4t m ids sto x).bind fun y => (J3m m ids sto r).bind fun l => some (y :: l) := by
 simp only [J3m]
 cases J4t m ids sto x with
 | none => rfl
 | some y => cases J3m m ids sto r <;> rfl
theorem JtK (m : Nat) (ids : List Nat) (sto : List Blk) (cs : List AV) : J4t m ids sto (.box cs) = (fin.finL m ids sto cs).map .box := by
 simp only [J4t]
 cases fin.finL m ids sto cs <;> rfl
theorem Jv4 (m : Nat) (ids : List Nat) (sto : List Blk) (x : AV) (r : List AV) : fin.finL m ids sto (x :: r) = (fin m ids sto x).bind fun y => (fin.finL m ids sto r).bind fun l => some (y :: l) := by
 simp only [fin.finL]
 cases fin m ids sto x with
 | none => rfl
 | some y => cases fin.finL m ids sto r <;> rfl
def fsl (k : Option Nat) (n : Nat) (B : Option Blk) : Option AV := match k with
 | some k => some (.slr k 0 n)
 | none => match B with
  | some (.arr _ z rows) => if n = rows.length then some (.p (.sl z rows)) else none
  | _ => none
theorem JuL (m : Nat) (ids : List Nat) (sto : List Blk) (b n : Nat) : fin m ids sto (.slr b 0 n) = if b < m then some (.slr b 0 n) else fsl (J86 b ids m) n sto[b]? := by
 simp only [fin]
 split
 ·rfl
 ·cases J86 b ids m with
  | some k => rfl
  | none =>
   simp only [fsl]
   cases sto[b]? with
   | none => rfl
   | some B => cases B <;> simp
theorem Jut (m : Nat) (ids : List Nat) (sto : List Blk) (cs : List AV) : fin m ids sto (.agg cs) = (fin.finL m ids sto cs).bind fun l => some (Jnz l (unp l)) := by
 simp only [fin]
 cases fin.finL m ids sto cs with
 | none => rfl
 | some l => simp only [Option.bind_some]; cases unp l <;> rfl
theorem JtM (m : Nat) (ids : List Nat) (sto : List Blk) (x : AV) (cs : List AV) : fin m ids sto (.tup (x :: cs)) = (fin.finL m ids sto (x :: cs)).map .tup := by
 simp only [fin]
 cases fin.finL m ids sto (x :: cs) <;> rfl
theorem JsV (env : List (Nat × AV)) (sto : List Blk) (t : Nat) (r : List Jcj) : (J5Z (.tmp t :: r)).run ⟨env, sto⟩ = (lk t env).bind fun v => ((J5Z r).run ⟨env, sto⟩).bind fun l => some (v :: l) := by
 simp only [J5Z, run_bind, Jmf, J1Z]
 cases lk t env <;> rfl
theorem JsK (env : List (Nat × AV)) (sto : List Blk) (t n : Nat) (g : Bool) (r : List Jcj) : (J5Z (.cell t g n :: r)).run ⟨env, sto⟩ = (lk t env).bind fun v => ((J1X g n v).run ⟨env, sto⟩).bind fun e => ((J5Z r).run ⟨env, sto⟩).bind fun l => some (e.val :: l) := by
 simp only [J5Z, run_bind, Jmf, J1Z]
 cases lk t env <;> rfl
def oid (b : Nat) (B : Option Blk) (l : List Nat) : List Nat := match B with
 | some (.box _) => b :: l
 | _ => l
theorem Jve (m b : Nat) (sto : List Blk) (r : List Ent) : J0Y m false sto (.whole b :: r) = if b < m then J0Y m false sto r else oid b sto[b]? (J0Y m false sto r) := by
 simp only [J0Y]
 split
 ·rfl
 ·unfold oid
  cases sto[b]? with
  | none => rfl
  | some B => cases B <;> simp
def ebb (B : Option Blk) (acc : List Ent) : List Ent := match B with
 | some (.box cs) => JW.entsOfL cs acc
 | _ => acc
theorem JvJ (sto : List Blk) (b : Nat) (r acc : List Ent) : J7C sto (.whole b :: r) acc = J7C sto r (ebb sto[b]? acc) := by
 simp only [J7C, ebb]
 cases sto[b]? with
 | none => rfl
 | some B => cases B <;> rfl
theorem Jvc (b c : Nat) (r : List Ent) : J7J (.whole b) (.whole c :: r) = if c = b then .whole c :: r else .whole c :: J7J (.whole b) r := by
 simp only [J7J, List.any_cons]
 by_cases h : c = b
 ·subst h; simp
 ·simp [h]
  split <;> simp_all
theorem Jvp (sto : List Blk) (b : Nat) (r : List Nat) : J6W sto (b :: r) = sto[b]?.bind fun x => (J6W sto r).bind fun l => some (x :: l) := by
 simp only [J6W]
 cases sto[b]? with
 | none => rfl
 | some x => cases J6W sto r <;> rfl
theorem JrX {α : Type} (a : α) (cs : List α) (n : Nat) : sub (a :: cs) 0 (n + 1) = (sub cs 0 n).map (a :: ·) := by
 rw [J6u, J6u]
 by_cases h : n ≤ cs.length
 ·rw [if_pos (by simp; omega), if_pos (by omega)]; simp
 ·rw [if_neg (by simp; omega), if_neg (by omega)]; rfl
theorem JsS {α : Type} (a : α) (cs : List α) (n m : Nat) : sub (a :: cs) (n + 1) m = sub cs n m := by
 rw [J6u, J6u]
 by_cases h : n + m ≤ cs.length
 ·rw [if_pos (by simp; omega), if_pos h]; simp
 ·rw [if_neg (by simp; omega), if_neg h]
theorem Js8 {α : Type} (a b : α) (cs vs : List α) : spl (a :: cs) 0 (b :: vs) = (spl cs 0 vs).map (b :: ·) := by
 rw [J7m, J7m]
 by_cases h : vs.length ≤ cs.length
 ·rw [if_pos (by simp; omega), if_pos (by omega)]; simp
 ·rw [if_neg (by simp; omega), if_neg (by omega)]; rfl
theorem Jsr {α : Type} (a : α) (cs : List α) (n : Nat) (vs : List α) : spl (a :: cs) (n + 1) vs = (spl cs n vs).map (a :: ·) := by
 rw [J7m, J7m]
 by_cases h : n + vs.length ≤ cs.length
 ·rw [if_pos (by simp; omega), if_pos h]
  rw [show n + 1 + vs.length = (n + vs.length) + 1 by omega]; simp
 ·rw [if_neg (by simp; omega), if_neg h]; rfl
theorem Jrp (off size : Nat) (c : List AV) (a : AV) (cs : List AV) (r : List (Nat × Nat × List AV)) : J0W ((off, size, c) :: r) (a :: cs) = if c.length = size then (spl (a :: cs) off c).bind fun cs => J0W r cs else none := by
 simp only [J0W]
 split
 ·cases spl (a :: cs) off c <;> rfl
 ·rfl
theorem Jtm (m : Nat) (ids : List Nat) (sto : List Blk) (f : FuncId) (a c : List AV) : fin m ids sto (.fn f a c) = (fin.finL m ids sto a).bind fun a1 => (fin.finL m ids sto c).bind fun c1 => some (.fn f a1 c1) := by
 simp only [fin]
 cases fin.finL m ids sto a with
 | none => rfl
 | some a1 => cases fin.finL m ids sto c <;> rfl
def lwO (x y : Option Blk) : Option Blk := match x with
 | some x => some x
 | none => y
theorem Jvm (b c : Nat) (x : Blk) (r : List (Nat × Blk)) : J2f b ((c, x) :: r) = lwO (J2f b r) (if c = b then some x else none) := by
 simp only [J2f]
 cases J2f b r <;> rfl
theorem Jun (env : List (Nat × AV)) (sto : List Blk) (b c : Nat) (x : Blk) (ws : List (Nat × Blk)) : (J8j ((c, x) :: ws) b).run ⟨env, sto⟩ = sto[b]?.bind fun y => some ((J2f b ((c, x) :: ws)).getD y) := by
 simp only [J8j, J6t]
 cases sto[b]? with
 | none => rfl
 | some y => simp only [Option.bind_some]; cases J2f b ((c, x) :: ws) <;> rfl
@[congr] theorem Jwr {α : Type} {u u' : AV} {k : FuncId → List AV → List AV → Option α} (h : u = u') : cvg u k = cvg u' k := by rw [h]
theorem Jhu (x : Opd) (s : St) : Jc ((ev x).reads s) = [] := by
 cases x with
 | t n => simp only [ev, RM.reads]; cases lk n s.env <;> rfl
 | c v => rfl
theorem JpR (a b : List Loc) : Jc (a ++ b) = Jc a ++ Jc b := by
 induction a with
 | nil => rfl
 | cons x r ih => cases x <;> simp [Jc, ih]
def rb {α β : Type} (m : Option α) (f : α → List β) : List β := match m with
 | some a => f a
 | none => []
theorem J12 {α β : Type} (m : RM α) (f : α → RM β) (s : St) : Jc ((m.bind f).reads s) = Jc (m.reads s) ++ rb (m.run s) fun a => Jc ((f a).reads s) := by
 rw [J9Q, JpR]
 cases m.run s <;> rfl
theorem Jbs {β : Type} (x : Opd) (f : AV → RM β) (s : St) : Jc (((ev x).bind f).reads s) = rb (evv x s.env) fun a => Jc ((f a).reads s) := by
 rw [J12, Jhu, J0o]; rfl
theorem JcR (o : Option AV) (s : St) : Jc ((Go.Am.val o).reads s) = [] := by cases o <;> rfl
section
variable (F : Orc) (new : Nat) (env : List (Nat × AV)) (sto : List Blk)
theorem JbB {op : AOp} (h : JB op = 0) (s : St) : rdO F op new s = Jc ((opR F op new).reads s) := by
 unfold rdO opD
 rw [J12, h]; rfl
def is1 (b : Option Blk) : Option Unit := match b with
 | some .dead => some ()
 | _ => none
theorem Jm4 {op : AOp} (h : JB op = 1) (s : St) : rdO F op new s = new :: rb (is1 s.sto[new]?) fun _ => Jc ((opR F op new).reads s) := by
 unfold rdO opD
 rw [J12, h]
 simp only [J6E, RM.reads, RM.run, Jc]
 cases s.sto[new]? with
 | none => rfl
 | some b => cases b <;> rfl
end
theorem Jn4 {α β : Type} (m : Option α) : (rb m fun _ => ([] : List β)) = [] := by cases m <;> rfl
theorem Ju7 (F : Orc) (new : Nat) (env : List (Nat × AV)) (sto : List Blk) (g : Bool) (n : Nat) (x : Opd) : rdO F (.load g n x) new ⟨env, sto⟩ = rb (evv x env) fun a => Jc ((J1X g n a).reads ⟨env, sto⟩) := by
 rw [JbB (h := rfl)]; exact Jbs ..
theorem Jud (s : St) (g : Bool) (n b o : Nat) : Jc ((J1X g n (.ptr b o)).reads s) = [b] := by
 simp only [J1X, RM.reads, Jc]
 cases s.sto[b]? with
 | none => rfl
 | some B =>
  cases B with
  | box cs => simp only []; cases sub cs o n with
   | none => rfl
   | some l => simp only [JcR]
  | _ => rfl
theorem JvI (s : St) (g : Bool) (n o : Nat) (cs : List PV) : Jc ((J1X g n (.cp cs o)).reads s) = [] := by
 simp only [J1X]
 cases sub cs o n with
 | none => rfl
 | some l => exact JcR ..
theorem JuZ (s : St) (g : Bool) (n b e i o : Nat) : Jc ((J1X g n (.ep b e i o)).reads s) = [b] := by
 simp only [J1X, RM.reads, Jc]
 cases s.sto[b]? with
 | none => rfl
 | some B =>
  cases B with
  | arr w z rows =>
   simp only []
   split
   ·cases rows[i]? with
    | none => rfl
    | some row =>
     simp only []
     cases sub row o n with
     | none => rfl
     | some l => simp only [JcR]
   ·rfl
  | _ => rfl
theorem JqZ (F : Orc) (new : Nat) (s : St) (z : List PV) : rdO F (.newbox z) new s = [new] := by
 rw [Jm4 (h := rfl)]; simp only [opR, RM.reads, Jc, Jn4]
theorem JrU (F : Orc) (new : Nat) (env : List (Nat × AV)) (sto : List Blk) (n : Nat) (x y : Opd) : rdO F (.store n x y) new ⟨env, sto⟩ = rb (evv x env) fun a => rb (evv y env) fun c => Jc ((J1x n a c).reads ⟨env, sto⟩) := by
 rw [JbB (h := rfl)]
 simp only [opR, Jbs]
theorem Juf (s : St) (n b o : Nat) (v : AV) : Jc ((J1x n (.ptr b o) v).reads s) = [b] := by
 simp only [J1x, RM.reads, Jc]
 cases s.sto[b]? with
 | none => rfl
 | some B =>
  cases B with
  | box cs =>
   simp only []
   cases cellsOf v with
   | none => rfl
   | some l =>
    simp only []
    split
    ·cases spl cs o l <;> rfl
    ·rfl
  | _ => rfl
theorem Jq3 (s : St) (n b e i o : Nat) {v : AV} {c : List PV} (hv : fz v = .ret (c, [])) : Jc ((J1x n (.ep b e i o) v).reads s) = [b] := by
 simp only [J1x, RM.reads, Jc]
 cases s.sto[b]? with
 | none => rfl
 | some B =>
  cases B with
  | arr w z rows =>
   cases w with
   | false => rfl
   | true =>
    simp only []
    split
    ·cases rows[i]? with
     | none => rfl
     | some row =>
      simp only [hv, J12, RM.reads, Jc, J1Z, rb, List.nil_append]
      split
      ·cases spl row o c <;> rfl
      ·rfl
    ·rfl
  | _ => rfl
theorem JsH (s : St) (n b e i o : Nat) (c : PV) : Jc ((J1x n (.ep b e i o) (.p c)).reads s) = [b] := Jq3 s n b e i o rfl
theorem JrF (s : St) (n b e i o : Nat) (c : List PV) : Jc ((J1x n (.ep b e i o) (.data c)).reads s) = [b] := Jq3 s n b e i o rfl
theorem Jfy (s : St) : ∀ args, Jc ((evs args).reads s) = []
 | [] => rfl
 | x :: r => by
  simp only [evs, Jbs]
  cases evv x s.env with
  | none => rfl
  | some v =>
   simp only [rb, J12, Jfy s r, List.nil_append]
   cases (evs r).run s <;> rfl
theorem Jjf (F : Orc) (g : FuncId) (args : List Opd) (n new : Nat) (s : St) : Jc ((opR F (.call g args n) new).reads s) = rb ((evs args).run s) fun a => Jc ((Jz a).reads s) ++ rb ((Jz a).run s) fun a => Jc ((Jl F g a n new).reads s) := by
 simp only [opR, J12, Jfy, List.nil_append, JbM]
theorem Jt7 (F : Orc) (new : Nat) (s : St) (g : FuncId) (args : List Opd) : rdO F (.call g args 0) new s = rb ((evs args).run s) fun a => Jc ((Jz a).reads s) ++ rb ((Jz a).run s) fun a => Jc ((Jl F g a 0 new).reads s) := by
 rw [JbB (h := rfl)]; exact Jjf ..
theorem JrY (F : Orc) (new : Nat) (s : St) (g : FuncId) (args : List Opd) : rdO F (.call g args 1) new s = new :: rb (is1 s.sto[new]?) fun _ => rb ((evs args).run s) fun a => Jc ((Jz a).reads s) ++ rb ((Jz a).run s) fun a => Jc ((Jl F g a 1 new).reads s) := by
 rw [Jm4 (h := rfl)]; simp only [Jjf]
theorem Jc4 (s : St) {v : AV} (h : J7x v = .ret (v, [])) (r : List AV) : Jc ((Jz (v :: r)).reads s) = Jc ((Jz r).reads s) := by
 simp only [Jz, h, J12, RM.reads, Jc, J1Z, rb, List.nil_append]
 cases (Jz r).run s <;> simp [RM.reads, Jc]
theorem Jfg (s : St) (b n : Nat) : Jc ((fz (.slr b 0 n)).reads s) = [b] := by
 simp only [fz, RM.reads, Jc]
 cases s.sto[b]? with
 | none => rfl
 | some B =>
  cases B with
  | arr w z rows => simp only []; split <;> rfl
  | _ => rfl
theorem Juv (s : St) (b n : Nat) (r : List AV) : Jc ((Jz (.slr b 0 n :: r)).reads s) = b :: rb ((J7x (.slr b 0 n)).run s) fun _ => Jc ((Jz r).reads s) := by
 have h1 : Jc ((J7x (.slr b 0 n)).reads s) = [b] := by
  simp only [J7x, J12, Jfg]
  cases (fz (.slr b 0 n)).run s with
  | none => rfl
  | some a =>
   simp only [rb]
   match a.1 with
   | [] => rfl
   | [_] => rfl
   | _ :: _ :: _ => rfl
 simp only [Jz, J12, h1]
 cases (J7x (.slr b 0 n)).run s with
 | none => rfl
 | some a => simp only [rb]; cases (Jz r).run s <;> simp [RM.reads, Jc]
theorem J0q {F : Orc} {f : FuncId} {args : List AV} (hp : args.all J4y = true) (ws : List (Nat × Blk)) (k new : Nat) (s : St) : Jc ((Jl F f (args, ws) k new).reads s) = [] := by
 have e1 : JW.entsOfL args [] = [] := J7v hp
 simp only [Jl, e1, J8h, J12, RM.reads, Jc, J1Z, rb, List.nil_append, List.map_nil, J4Y, if_true, J9L hp, J5S]
 cases F f args [] with
 | none => rfl
 | some r =>
  simp only []
  split
  ·simp only [List.length_nil, List.drop_zero]
   cases bk [] new r.1 with
   | none => rfl
   | some v =>
    cases J4M [] new new r.2 with
    | none => rfl
    | some fr => simp only [J3D, J12, RM.reads, Jc, J1Z, rb, List.nil_append]
  ·rfl
def cvl {α : Type} (u : AV) (k : FuncId → List AV → List AV → List α) : List α := match u with
 | .fn f a c => k f a c
 | _ => []
theorem JiL (ws : List (Nat × Blk)) (b : Nat) (s : St) : Jc ((J8j ws b).reads s) = [b] := by
 simp only [J8j, RM.reads, Jc]
 cases s.sto[b]? with
 | none => rfl
 | some B => simp only []; cases J2f b ws <;> rfl
theorem Jl4 {ws : List (Nat × Blk)} {s : St} : ∀ {bs : List Nat} {css : List (List AV)} {acc : List Ent}, J06 ws s bs css → Jt css = true → Jc ((J8h ws (bs.map .whole) acc).reads s) = bs
 | [], [], _, _, _ => rfl
 | b :: bs, cs :: css, acc, h, hp => by
  simp only [Jt, List.all_cons, Bool.and_eq_true] at hp
  simp only [List.map_cons, J8h, J12, JiL, h.1, rb, J7v hp.1]
  rw [Jl4 (bs := bs) (css := css) h.2 hp.2]
  rfl
theorem Jn7 {ws : List (Nat × Blk)} {s : St} {ρ : Ent → Option Nat} : ∀ {bs : List Nat} {css : List (List AV)}, J06 ws s bs css → Jt css = true → Jc ((J5S ws ρ (bs.map .whole)).reads s) = bs
 | [], [], _, _ => rfl
 | b :: bs, cs :: css, h, hp => by
  simp only [Jt, List.all_cons, Bool.and_eq_true] at hp
  have h2 := Jn7 (ρ := ρ) (bs := bs) (css := css) h.2 hp.2
  have h3 := Jem (ρ := ρ) (bs := bs) (css := css) h.2 hp.2
  simp only [List.map_cons, J5S, J12, Je6, JiL, h.1, rb, J9L hp.1, RM.reads, Jc, run_bind, Option.bind_some, J1Z, h2, h3, List.append_nil]
  rfl
theorem JkM {ws : List (Nat × Blk)} {s : St} {es : List Ent} {new : Nat} : ∀ (bs : List Nat) (xs : List Blk), Jc ((J3D ws es new (bs.map .whole) xs).reads s) = []
 | [], _ => rfl
 | b :: bs, [] => rfl
 | b :: bs, B :: l => by
  have g6 : Jc ((Ja8 ws es new (Ent.whole b) B).reads s) = [] := by
   cases B with
   | box cs => simp only [Ja8]; cases bk.bkL es new cs <;> rfl
   | _ => rfl
  simp only [List.map_cons, J3D, J12, g6, List.nil_append]
  cases (Ja8 ws es new (Ent.whole b) B).run s with
  | none => rfl
  | some y =>
   simp only [rb, JkM bs l, List.nil_append]
   cases (J3D ws es new (bs.map .whole) l).run s <;> rfl
theorem JgT {F : Orc} {f : FuncId} {args args' : List AV} {bs : List Nat} {css : List (List AV)} (he : JW.entsOfL args [] = bs.map .whole) (hn : J4Y bs = true)
  (hr : ren.renL (fun e => J4v e (bs.map .whole) 0) args = some args') (hp : Jt css = true) (ws : List (Nat × Blk)) (k new : Nat) (s : St) (hb : J06 ws s bs css) :
  Jc ((Jl F f (args, ws) k new).reads s) = bs ++ (bs ++ bs) := by
 have e0 : (bs.map Ent.whole).map Ent.id = bs := by rw [List.map_map]; exact List.map_id bs
 simp only [Jl, he, J12, Jl4 hb hp, JfI hb hp, rb, e0, hn, if_true, hr, Jn7 hb hp, Jem hb hp]
 congr 2
 cases F f args' (css.map .box) with
 | none => simp [RM.reads, Jc]
 | some r =>
  simp only []
  split
  ·cases bk (bs.map Ent.whole) new r.1 with
   | none => simp [RM.reads, Jc]
   | some v =>
    cases J4M (bs.map Ent.whole) new new (r.2.drop (bs.map Ent.whole).length) with
    | none => simp [RM.reads, Jc]
    | some fr =>
     simp only [J12, JkM, List.nil_append]
     cases (J3D ws (bs.map Ent.whole) new (bs.map Ent.whole) r.2).run s <;> simp [rb, RM.reads, Jc]
  ·simp [RM.reads, Jc]
theorem Jrk (F : Orc) (new : Nat) (env : List (Nat × AV)) (sto : List Blk) (g : Opd) (args : List Opd) : rdO F (.callv g args 0) new ⟨env, sto⟩ = rb (evv g env) fun u => cvl u fun h a1 c1 => rb ((evs args).run ⟨env, sto⟩) fun a => Jc ((Jz (a1 ++ a ++ c1)).reads ⟨env, sto⟩) ++ rb ((Jz (a1 ++ a ++ c1)).run ⟨env, sto⟩) fun a => Jc ((Jl F h a 0 new).reads ⟨env, sto⟩) := by
 rw [JbB (h := rfl)]
 simp only [opR, J12, Jhu, J0o, List.nil_append]
 cases evv g env with
 | none => rfl
 | some u =>
  simp only [rb]
  cases u <;> first | rfl | skip
  simp only [cvl, J12, Jfy, List.nil_append]
  cases (evs args).run ⟨env, sto⟩ with
  | none => rfl
  | some a => simp only [rb, JbM, J12]
theorem JkB (s : St) (o : Bool) (e n new : Nat) (z : List PV) (ps : List (Nat × Opd)) : Jc ((ltR o e n z ps new).reads s) = Jc ((fzs (ps.map (·.2))).reads s) := by
 simp only [ltR, J12]
 cases (fzs (ps.map (·.2))).run s with
 | none => simp [rb]
 | some a =>
  simp only [rb]
  cases J3Y e ((ps.map (·.1)).zip a.1) (List.replicate n z) with
  | none => simp [RM.reads, Jc]
  | some rows => cases o <;> simp [RM.reads, Jc]
theorem Jrm (F : Orc) (new : Nat) (s : St) (e n : Nat) (z : List PV) (ps : List (Nat × Opd)) : rdO F (.lits false e n z ps) new s = Jc ((fzs (ps.map (·.2))).reads s) := by
 rw [JbB (h := rfl)]; exact JkB ..
theorem Jt2 (F : Orc) (new : Nat) (s : St) (e n : Nat) (z : List PV) (ps : List (Nat × Opd)) : rdO F (.lits true e n z ps) new s = new :: rb (is1 s.sto[new]?) fun _ => Jc ((fzs (ps.map (·.2))).reads s) := by
 rw [Jm4 (h := rfl)]
 congr 2; funext _
 exact JkB ..
theorem Jvv (s : St) (x : Opd) (r : List Opd) : Jc ((fzs (x :: r)).reads s) = rb (evv x s.env) fun v => Jc ((fz v).reads s) ++ rb ((fz v).run s) fun _ => Jc ((fzs r).reads s) := by
 have e0 : fzs (x :: r) = (ev x).bind fun v => (fz v).bind fun a => (fzs r).bind fun c => .ret (a.1 :: c.1, a.2 ++ c.2) := rfl
 rw [e0, Jbs]
 cases evv x s.env with
 | none => rfl
 | some v =>
  dsimp only [rb]
  rw [J12]
  cases (fz v).run s with
  | none => rfl
  | some a =>
   dsimp only [rb]
   rw [J12]
   cases (fzs r).run s <;> simp [rb, RM.reads, Jc]
theorem Jrs (F : Orc) (new : Nat) (s : St) (x : Opd) : rdO F (.conv .toStr x) new s = rb (evv x s.env) fun a => Jc ((JS 1 a).reads s) := by
 rw [JbB (h := rfl)]
 simp only [opR, Jbs]
 congr 1; funext a
 simp only [J12]
 cases (JS 1 a).run s with
 | none => simp [rb]
 | some rows => simp only [rb]; cases J5F rows <;> simp [RM.reads, Jc]
theorem Jr2 (s : St) (e b n : Nat) : Jc ((JS e (.slr b 0 n)).reads s) = [b] := by
 simp only [JS, RM.reads, Jc]
 cases s.sto[b]? with
 | none => rfl
 | some B =>
  cases B with
  | arr w z rows => simp only []; split <;> rfl
  | _ => rfl
theorem Jmc (s : St) (e z : Nat) (rows : List (List PV)) : Jc ((JS e (.p (.sl z rows))).reads s) = [] := by
 simp only [JS]; split <;> rfl
theorem JsC (F : Orc) (new : Nat) (s : St) (e : Nat) (x i : Opd) : rdO F (.iaddr e x i) new s = rb (evv x s.env) fun a => rb (evv i s.env) fun c => Jc ((J2R e a c).reads s) := by
 rw [JbB (h := rfl)]; simp only [opR, Jbs]
theorem JqG (s : St) (e b n : Nat) (k : IntKind) (i : Int) : Jc ((J2R e (.slr b 0 n) (.p (.i k i))).reads s) = [b] := by
 simp only [J2R, RM.reads, Jc]
 cases s.sto[b]? with
 | none => rfl
 | some B =>
  cases B with
  | arr w z rows => simp only []; split <;> rfl
  | _ => rfl
theorem Jsm (s : St) (e z : Nat) (rows : List (List PV)) (k : IntKind) (i : Int) : Jc ((J2R e (.p (.sl z rows)) (.p (.i k i))).reads s) = [] := by
 simp only [J2R]
 split
 ·cases Jbx rows i <;> rfl
 ·rfl
def slT (k : SK) (lo hi mx : Option Opd) (a : AV) : RM Eff := (evo lo).bind fun lo => (evo hi).bind fun hi => (evo mx).bind fun mx =>
  match a with
  | .slr b i n => (fz (.slr b i n)).bind fun y => match y.1 with
   | [c] => match J4x k (.p c) lo hi mx with
    | some v => .ret ⟨v, y.2⟩
    | none => .fail
   | _ => .fail
  | a => val (J4x k a lo hi mx)
theorem Jqi (x : Option Opd) (s : St) : Jc ((evo x).reads s) = [] := by
 cases x with
 | none => rfl
 | some x =>
  simp only [evo, J12, Jhu, List.nil_append]
  cases (ev x).run s <;> rfl
theorem Jqv (F : Orc) (new : Nat) (s : St) (k : SK) (x : Opd) (lo hi mx : Option Opd) : rdO F (.slice k x lo hi mx) new s = rb (evv x s.env) fun a => Jc ((slT k lo hi mx a).reads s) := by
 rw [JbB (h := rfl)]
 simp only [opR, Jbs]
 rfl
theorem JtU (s : St) (k : SK) (lo hi mx : Option Opd) (c : PV) : Jc ((slT k lo hi mx (.p c)).reads s) = [] := by
 simp only [slT, J12, Jqi, List.nil_append, JcR, Jn4]
theorem JtW (F : Orc) (new : Nat) (s : St) (e b : Nat) (z : List PV) (y : Opd) : rdO F (.appn e b z y) new s = new :: rb (is1 s.sto[new]?) fun _ => rb (evv y s.env) fun a => Jc ((JS e a).reads s) := by
 rw [Jm4 (h := rfl)]
 simp only [opR, Jbs]
 refine congrArg (List.cons new) (congrArg (rb _) (funext fun _ => congrArg (rb _) (funext fun a => ?_)))
 simp only [J12]
 have : ∀ rows : List (List PV), Jc ((if J63 rows.length b then (.ret ⟨.slr new 0 rows.length, [(new, .arr true e rows)]⟩ : RM Eff) else .fail).reads s) = [] := fun rows => by split <;> rfl
 simp only [this, Jn4, List.append_nil]
theorem JvS (F : Orc) (new : Nat) (s : St) (e b : Nat) (z : List PV) (x y : Opd) : rdO F (.app e b z x y) new s = rb (evv x s.env) fun a => rb (evv y s.env) fun c => Jc ((J4s e b a c).reads s) := by
 rw [JbB (h := rfl)]; simp only [opR, Jbs]
theorem JtF (s : St) (e bytes b i n : Nat) (c : PV) (hc : ∀ s, Jc ((JS e (.p c)).reads s) = []) : Jc ((J4s e bytes (.slr b i n) (.p c)).reads s) = [b] := by
 simp only [J4s, RM.reads, Jc]
 cases s.sto[b]? with
 | none => rfl
 | some B =>
  cases B with
  | arr w z rows =>
   simp only [J12, hc, List.nil_append]
   congr 1
   cases (JS e (.p c)).run s with
   | none => rfl
   | some new => simp only [rb]; split <;> rfl
  | _ => rfl
theorem JrQ (s : St) (e bytes b n z : Nat) (rows : List (List PV)) : Jc ((J4s e bytes (.slr b 0 n) (.p (.sl z rows))).reads s) = [b] := JtF s e bytes b 0 n (.sl z rows) fun s => Jmc s e z rows
theorem JrC (env : List (Nat × AV)) (sto : List Blk) (l : List Int) (new : Nat) : (cvR .toStr (.p (.sl 1 (l.map (r_i .u8)))) new).run ⟨env, sto⟩ = some ⟨.p (.s (toStr l)), []⟩ := Js4 ..
theorem Jw1 (n : Nat) (w : Bool) (l : List Int) : cvB n (.arr w 1 (l.map (r_i .u8))) = if n = l.length then some ⟨.p (.s (toStr l)), []⟩ else none := Ju6 ..
theorem fr (b n z : Nat) (w : Bool) (rows : List (List PV)) : frz b n (.arr w z rows) = if n = rows.length then some (.p (.sl z rows), (b, .arr false z rows)) else none := rfl
theorem mk (o : Bool) (e b new : Nat) (z : List PV) (k k2 : IntKind) (n m : Int) : mkP o e b z (.p (.i k n)) (.p (.i k2 m)) new = if 0 ≤ n ∧ n ≤ m ∧ b * m ≤ 281474976710656 ∧ m ≤ 281474976710656 then some (if o then ⟨.slr new 0 n.toNat, [(new, .arr true e (List.replicate n.toNat z))]⟩ else ⟨.p (.sl e (List.replicate n.toNat z)), []⟩) else none := rfl
theorem cl (n : Nat) (live : List Nat) (env : List (Nat × AV)) (sto : List Blk) : J5x n live ⟨env, sto⟩ = if sto.length = n then some ⟨restr live env, sto⟩ else (J8l n sto (restr live env)).bind fun e => (J3m n [] sto (sto.take n)).bind fun l => some ⟨e, l⟩ := Jv2 ..
theorem Jvl {α : Type} (l : List α) : [] ++ l = l := rfl
theorem JuY {α : Type} (l : List α) : l ++ [] = l := List.append_nil l
theorem JuR {α : Type} (a : α) (l r : List α) : (a :: l) ++ r = a :: (l ++ r) := rfl
theorem Jv0 {α β : Type} (g : α → β) : List.map g [] = [] := rfl
theorem Jvs {α β : Type} (g : α → β) (a : α) (l : List α) : List.map g (a :: l) = g a :: List.map g l := rfl
theorem JvF {α : Type} : ([] : List α).length = 0 := rfl
theorem JvO {α : Type} (a : α) (l : List α) : (a :: l).length = l.length + 1 := rfl
theorem JvD (k : IntKind) (n : Int) : r_i k n = [.i k n] := rfl
theorem JuU (x : Bool) : r_b x = [.b x] := rfl
theorem Jte (x : List UInt8) : r_s x = [.s x] := rfl
theorem Jv5 {α : Type} (e : Nat) (g : α → List PV) (l : List α) : JjV e g l = [.sl e (l.map g)] := rfl
theorem s1 (a : PV) : sub [a] 0 1 = some [a] := rfl
set_option maxRecDepth 30000 in
theorem Da : (∀ T f m k s, rk T f m k (X T .skip s) = rk T f m k (some (.normal, s))) ∧
 (∀ T f m k a b s, rk T f m k (X T (.seq a b) s) = rk T f m (.sq b :: k) (X T a s)) ∧
 (∀ T f m k d ins env sto, rk T f m k (X T (.reg d [] ins) ⟨env, sto⟩) = rk T f m k (Jt6 (Jo (AF T) ins sto.length ⟨env, room (news ins) sto⟩ none))) ∧
 (∀ T f m k d q ps ins env sto, rk T f m k (X T (.reg d (q :: ps) ins) ⟨env, sto⟩) = rk T f m k (Jpp (q :: ps) (Jo (AF T) ins sto.length ⟨env, room (news ins) sto⟩ (some [])))) ∧
 (∀ T f m k i c s, rk T f m k (X T (.block i c) s) = rk T f m (.bl i :: k) (X T c s)) ∧
 (∀ T f m k c s, rk T f m k (X T (.scope c) s) = rk T f m k (X T c s)) ∧
 (∀ T f m k i s, rk T f m k (X T (.exit i) s) = rk T f m k (some (.exit i, s))) ∧
 (∀ T f m k s, rk T f m k (X T .ret s) = rk T f m k (some (.ret, s))) ∧
 (∀ T f m k live c env sto, rk T f m k (X T (.keep live c) ⟨env, sto⟩) = rk T f m k (X T c ⟨restr live env, sto⟩)) ∧
 (∀ T f m k live c env sto, rk T f m k (X T (.tidy live c) ⟨env, sto⟩) = rk T f m (.td sto.length live :: k) (X T c ⟨env, sto⟩)) ∧
 (∀ T f m k live c env sto, rk T f m k (X T (.loop live c) ⟨env, sto⟩) = rk T f m k (X T (.lp sto.length live c) ⟨restr live env, sto⟩)) ∧
 (∀ T f m k x a b env sto, rk T f m k (X T (.cond x a b) ⟨env, sto⟩) = rk T f m k (cnd (evv x env) (hold (X T a ⟨env, sto⟩) (.mk _)) (hold (X T b ⟨env, sto⟩) (.mk _)) (hold (fun _ => same (X T a ⟨env, sto⟩) (X T b ⟨env, sto⟩)) (.mk _)))) ∧
 (∀ a b h c, cnd (some (.p (.b true))) (hold a h) b c = a) ∧
 (∀ a b h c, cnd (some (.p (.b false))) a (hold b h) c = b) ∧
 (∀ T f m k b s, rk T f m (.sq b :: k) (some (.normal, s)) = rk T f m k (X T b s)) ∧
 (∀ T f m k b i s, rk T f m (.sq b :: k) (some (.exit i, s)) = rk T f m k (some (.exit i, s))) ∧
 (∀ T f m k b s, rk T f m (.sq b :: k) (some (.ret, s)) = rk T f m k (some (.ret, s))) ∧
 (∀ T f m k i s, rk T f m (.bl i :: k) (some (.normal, s)) = rk T f m k (some (.normal, s))) ∧
 (∀ T f m k i j s, rk T f m (.bl i :: k) (some (.exit j, s)) = if j = i then rk T f m k (some (.normal, s)) else rk T f m k (some (.exit j, s))) ∧
 (∀ T f m k i s, rk T f m (.bl i :: k) (some (.ret, s)) = rk T f m k (some (.ret, s))) ∧
 (∀ T f m k n live e s, rk T f m (.td n live :: k) (some (e, s)) = rk T f m k (tdn e (J5x n live s))) ∧
 (∀ e s, tdn e (some s) = some (e, s)) ∧
 (∀ T f m k n live c s, rk T f m (.lo n live c :: k) (some (.normal, s)) = rk T f m k (again T n live c (J5x n live s))) ∧
 (∀ T n live c s, again T n live c (some s) = X T (.lp n live c) s) ∧
 (∀ T f m k n live c i s, rk T f m (.lo n live c :: k) (some (.exit i, s)) = rk T f m k (some (.exit i, s))) ∧
 (∀ T f m k n live c s, rk T f m (.lo n live c :: k) (some (.ret, s)) = rk T f m k (some (.ret, s))) ∧
 (∀ T f m s, rk T f m [] (some (.normal, s)) = Jig f.res f.fresh m s) ∧
 (∀ T f m s, rk T f m [] (some (.ret, s)) = Jig f.res f.fresh m s) ∧
 (∀ s l, Jt6 (some (s, l)) = some (.normal, s)) ∧
 (∀ s l ps, Jpp ps (some (s, some l)) = if J8N l ps = true then some (.normal, s) else none) ∧
 (∀ l, J8N l [] = true) ∧
 (∀ l i j ps, J8N l ((i, j) :: ps) = (pkk l[i]? l[j]? && J8N l ps)) ∧
 (∀ a b, lgA none a b = none) ∧
 (∀ l a b, lgA (some l) a b = some (l ++ [(a, b)])) ∧
 (∀ {α : Type} (a : α) (l : List α), (a :: l)[0]? = some a) ∧
 (∀ {α : Type} (a : α) (l : List α) (n : Nat), (a :: l)[n + 1]? = l[n]?) ∧
 (∀ F new s lg, Jo F [] new s lg = some (s, lg)) ∧
 (∀ F r new env sto lg d x, Jo F (⟨.mv x, some d, none⟩ :: r) new ⟨env, sto⟩ lg = (evv x env).bind fun v => Jo F r new ⟨(d, v) :: env, sto⟩ (lgA lg (rdO F (.mv x) new ⟨env, sto⟩) [])) ∧
 (∀ F r new env sto lg d c a b, Jo F (⟨.pick c a b, some d, none⟩ :: r) new ⟨env, sto⟩ lg = (evv c env).bind fun u => pkh u (evv a env) (evv b env) (hold (fun v => Jo F r new ⟨(d, v) :: env, sto⟩ (lgA lg (rdO F (.pick c a b) new ⟨env, sto⟩) [])) (.mk _))) ∧
 (∀ F r new env sto lg d op t x y, Jo F (⟨.bin op t x y, some d, none⟩ :: r) new ⟨env, sto⟩ lg = (evv x env).bind fun a => (evv y env).bind fun c => (J0m op t a c).bind fun v => Jo F r new ⟨(d, v) :: env, sto⟩ (lgA lg (rdO F (.bin op t x y) new ⟨env, sto⟩) [])) ∧
 (∀ F r new env sto lg d op x, Jo F (⟨.un op x, some d, none⟩ :: r) new ⟨env, sto⟩ lg = (evv x env).bind fun a => (unP op a).bind fun v => Jo F r new ⟨(d, v) :: env, sto⟩ (lgA lg (rdO F (.un op x) new ⟨env, sto⟩) [])) ∧
 (∀ F r new env sto lg d g off n x, Jo F (⟨.field g off n x, some d, none⟩ :: r) new ⟨env, sto⟩ lg = (evv x env).bind fun a => (J5o g off n a).bind fun v => Jo F r new ⟨(d, v) :: env, sto⟩ (lgA lg (rdO F (.field g off n x) new ⟨env, sto⟩) [])) ∧
 (∀ F r new env sto lg d off x, Jo F (⟨.faddr off x, some d, none⟩ :: r) new ⟨env, sto⟩ lg = (evv x env).bind fun a => (JaT off a).bind fun v => Jo F r new ⟨(d, v) :: env, sto⟩ (lgA lg (rdO F (.faddr off x) new ⟨env, sto⟩) [])) ∧
 (∀ F r new env sto lg d x i, Jo F (⟨.extr x i, some d, none⟩ :: r) new ⟨env, sto⟩ lg = (evv x env).bind fun a => (Jg3 i a).bind fun v => Jo F r new ⟨(d, v) :: env, sto⟩ (lgA lg (rdO F (.extr x i) new ⟨env, sto⟩) [])) ∧
 (∀ F r new env sto lg d b x, Jo F (⟨.len b x, some d, none⟩ :: r) new ⟨env, sto⟩ lg = (evv x env).bind fun a => (Jfh b a).bind fun v => Jo F r new ⟨(d, v) :: env, sto⟩ (lgA lg (rdO F (.len b x) new ⟨env, sto⟩) [])) ∧
 (∀ F r new env sto lg d n, Jo F (⟨.alen n, some d, none⟩ :: r) new ⟨env, sto⟩ lg = Jo F r new ⟨(d, .p (.i .i64 n)) :: env, sto⟩ (lgA lg (rdO F (.alen n) new ⟨env, sto⟩) [])) ∧
 (∀ F r new env sto lg d b x y, Jo F (⟨.mm b x y, some d, none⟩ :: r) new ⟨env, sto⟩ lg = (evv x env).bind fun a => (evv y env).bind fun c => (mmP b a c).bind fun v => Jo F r new ⟨(d, v) :: env, sto⟩ (lgA lg (rdO F (.mm b x y) new ⟨env, sto⟩) [])) ∧
 (∀ F r new env sto lg d n e x i, Jo F (⟨.aaddr n e x i, some d, none⟩ :: r) new ⟨env, sto⟩ lg = (evv x env).bind fun a => (evv i env).bind fun c => (JaS n e a c).bind fun v => Jo F r new ⟨(d, v) :: env, sto⟩ (lgA lg (rdO F (.aaddr n e x i) new ⟨env, sto⟩) [])) ∧
 (∀ F r new env sto lg d e x i, Jo F (⟨.iaddr e x i, some d, none⟩ :: r) new ⟨env, sto⟩ lg = (evv x env).bind fun a => (evv i env).bind fun c => ((J2R e a c).run ⟨env, sto⟩).bind fun q => Jo F r new ⟨(d, q.val) :: env, upd q.ws sto⟩ (lgA lg (rdO F (.iaddr e x i) new ⟨env, sto⟩) (q.ws.map (·.1)))) ∧
 (∀ F r new env sto lg d x i, Jo F (⟨.sidx x i, some d, none⟩ :: r) new ⟨env, sto⟩ lg = (evv x env).bind fun a => (evv i env).bind fun c => (Jk0 a c).bind fun v => Jo F r new ⟨(d, v) :: env, sto⟩ (lgA lg (rdO F (.sidx x i) new ⟨env, sto⟩) [])) ∧
 (∀ F r new env sto lg d g n e x i, Jo F (⟨.aidx g n e x i, some d, none⟩ :: r) new ⟨env, sto⟩ lg = (evv x env).bind fun a => (evv i env).bind fun c => (Jhq g n e a c).bind fun v => Jo F r new ⟨(d, v) :: env, sto⟩ (lgA lg (rdO F (.aidx g n e x i) new ⟨env, sto⟩) [])) ∧
 (∀ F r new env sto lg d x, Jo F (⟨.nilchk x, some d, none⟩ :: r) new ⟨env, sto⟩ lg = (evv x env).bind fun a => (Jmn a).bind fun v => Jo F r new ⟨(d, v) :: env, sto⟩ (lgA lg (rdO F (.nilchk x) new ⟨env, sto⟩) [])) ∧
 (∀ F r new env sto lg d g n x, Jo F (⟨.load g n x, some d, none⟩ :: r) new ⟨env, sto⟩ lg = (evv x env).bind fun a => ((J1X g n a).run ⟨env, sto⟩).bind fun q => Jo F r new ⟨(d, q.val) :: env, upd q.ws sto⟩ (lgA lg (rdO F (.load g n x) new ⟨env, sto⟩) (q.ws.map (·.1)))) ∧
 (∀ F r new env sto lg n x y, Jo F (⟨.store n x y, none, none⟩ :: r) new ⟨env, sto⟩ lg = (evv x env).bind fun a => (evv y env).bind fun c => ((J1x n a c).run ⟨env, sto⟩).bind fun q => Jo F r new ⟨env, upd q.ws sto⟩ (lgA lg (rdO F (.store n x y) new ⟨env, sto⟩) (q.ws.map (·.1)))) ∧
 (∀ F r new env sto lg d c x, Jo F (⟨.conv c x, some d, none⟩ :: r) new ⟨env, sto⟩ lg = (evv x env).bind fun a => dds (JB (.conv c x)) new sto (((cvR c a new).run ⟨env, sto⟩).bind fun e => Jo F r (new + JB (.conv c x)) ⟨(d, e.val) :: env, upd e.ws sto⟩ (lgA lg (rdO F (.conv c x) new ⟨env, sto⟩) (e.ws.map (·.1))))) ∧
 (∀ F r new env sto lg d z ps, Jo F (⟨.build z ps, some d, none⟩ :: r) new ⟨env, sto⟩ lg = ((J2w ps).run ⟨env, sto⟩).bind fun l => (J0W l (z.map .p)).bind fun cs => (J1C true cs).bind fun v => Jo F r new ⟨(d, v) :: env, sto⟩ (lgA lg (rdO F (.build z ps) new ⟨env, sto⟩) [])) ∧
 (∀ F r new env sto lg d s x lo hi mx, Jo F (⟨.slice s x lo hi mx, some d, none⟩ :: r) new ⟨env, sto⟩ lg = (evv x env).bind fun a => (J8W lo env).bind fun lo1 => (J8W hi env).bind fun hi1 => (J8W mx env).bind fun mx1 => ((slR s a lo1 hi1 mx1).run ⟨env, sto⟩).bind fun q => Jo F r new ⟨(d, q.val) :: env, upd q.ws sto⟩ (lgA lg (rdO F (.slice s x lo hi mx) new ⟨env, sto⟩) (q.ws.map (·.1)))) ∧
 (∀ F r new env sto lg d e b z x y, Jo F (⟨.app e b z x y, some d, none⟩ :: r) new ⟨env, sto⟩ lg = (evv x env).bind fun a => (evv y env).bind fun c => ((J4s e b a c).run ⟨env, sto⟩).bind fun q => Jo F r new ⟨(d, q.val) :: env, upd q.ws sto⟩ (lgA lg (rdO F (.app e b z x y) new ⟨env, sto⟩) (q.ws.map (·.1)))) ∧
 (∀ F r new env sto lg d e b z x y, Jo F (⟨.appz e b z x y, some d, none⟩ :: r) new ⟨env, sto⟩ lg = (evv x env).bind fun a => (evv y env).bind fun c => (zrs e z c).bind fun c1 => ((J4s e b a c1).run ⟨env, sto⟩).bind fun q => Jo F r new ⟨(d, q.val) :: env, upd q.ws sto⟩ (lgA lg (rdO F (.appz e b z x y) new ⟨env, sto⟩) (q.ws.map (·.1)))) ∧
 (∀ F r new env sto lg d g a c, Jo F (⟨.mkfn g a c, some d, none⟩ :: r) new ⟨env, sto⟩ lg = ((evs a).run ⟨env, sto⟩).bind fun a1 => ((evs c).run ⟨env, sto⟩).bind fun c1 => Jo F r new ⟨(d, .fn g a1 c1) :: env, sto⟩ (lgA lg (rdO F (.mkfn g a c) new ⟨env, sto⟩) [])) ∧
 (∀ F r new env sto lg d g args n, Jo F (⟨.callv g args n, some d, none⟩ :: r) new ⟨env, sto⟩ lg = (evv g env).bind fun u => cvg u fun h a1 c1 => dds n new sto (((evs args).run ⟨env, sto⟩).bind fun a => ((Jz (a1 ++ a ++ c1)).run ⟨env, sto⟩).bind fun a => ((Jl F h a n new).run ⟨env, sto⟩).bind fun q => Jo F r (new + n) ⟨(d, q.val) :: env, upd q.ws sto⟩ (lgA lg (rdO F (.callv g args n) new ⟨env, sto⟩) (q.ws.map (·.1))))) ∧
 (∀ F r new env sto lg g args n, Jo F (⟨.callv g args n, none, none⟩ :: r) new ⟨env, sto⟩ lg = (evv g env).bind fun u => cvg u fun h a1 c1 => dds n new sto (((evs args).run ⟨env, sto⟩).bind fun a => ((Jz (a1 ++ a ++ c1)).run ⟨env, sto⟩).bind fun a => ((Jl F h a n new).run ⟨env, sto⟩).bind fun q => Jo F r (new + n) ⟨env, upd q.ws sto⟩ (lgA lg (rdO F (.callv g args n) new ⟨env, sto⟩) (q.ws.map (·.1))))) ∧
 (∀ {α : Type} (f : FuncId) (a c : List AV) (k : FuncId → List AV → List AV → Option α), cvg (.fn f a c) k = k f a c) ∧
 (∀ F r new env sto lg d e b z y, Jo F (⟨.appn e b z y, some d, none⟩ :: r) new ⟨env, sto⟩ lg = (evv y env).bind fun c => ((JS e c).run ⟨env, sto⟩).bind fun rows => if J63 rows.length b = true then dds 1 new sto (Jo F r (new + 1) ⟨(d, .slr new 0 rows.length) :: env, sto.set new (.arr true e rows)⟩ (lgA lg (rdO F (.appn e b z y) new ⟨env, sto⟩) [new])) else none) ∧
 (∀ F r new env sto lg d e b z x y, Jo F (⟨.appc e b z x y, some d, none⟩ :: r) new ⟨env, sto⟩ lg = (evv x env).bind fun a => (evv y env).bind fun c => ((JS e c).run ⟨env, sto⟩).bind fun add => (Jn5 e b a add).bind fun rows => dds 1 new sto (Jo F r (new + 1) ⟨(d, .slr new 0 rows.length) :: env, sto.set new (.arr true e rows)⟩ (lgA lg (rdO F (.appc e b z x y) new ⟨env, sto⟩) [new]))) ∧
 (∀ F r new env sto lg d z, Jo F (⟨.newbox z, some d, none⟩ :: r) new ⟨env, sto⟩ lg = dds 1 new sto (Jo F r (new + 1) ⟨(d, .ptr new 0) :: env, sto.set new (.box (z.map .p))⟩ (lgA lg (rdO F (.newbox z) new ⟨env, sto⟩) [new]))) ∧
 (∀ F r new env sto lg d e x, Jo F (⟨.mkarr e x, some d, none⟩ :: r) new ⟨env, sto⟩ lg = dds 1 new sto (Jo F r (new + 1) ⟨(d, .slr new 0 0) :: env, sto.set new (.arr true e [])⟩ (lgA lg (rdO F (.mkarr e x) new ⟨env, sto⟩) [new]))) ∧
 (∀ F r new env sto lg d n x, Jo F (⟨.box n x, some d, none⟩ :: r) new ⟨env, sto⟩ lg = (evv x env).bind fun a => (bxP n a).bind fun cs => dds 1 new sto (Jo F r (new + 1) ⟨(d, .ptr new 0) :: env, sto.set new (.box cs)⟩ (lgA lg (rdO F (.box n x) new ⟨env, sto⟩) [new]))) ∧
 (∀ F r new env sto lg d o e n z ps, Jo F (⟨.lits o e n z ps, some d, none⟩ :: r) new ⟨env, sto⟩ lg = dds (if o then 1 else 0) new sto (((ltR o e n z ps new).run ⟨env, sto⟩).bind fun x => Jo F r (new + if o then 1 else 0) ⟨(d, x.val) :: env, upd x.ws sto⟩ (lgA lg (rdO F (.lits o e n z ps) new ⟨env, sto⟩) (x.ws.map (·.1))))) ∧
 (∀ F r new env sto lg d o e b z l c, Jo F (⟨.mkslice o e b z l c, some d, none⟩ :: r) new ⟨env, sto⟩ lg = (evv l env).bind fun a => (evv c env).bind fun x => dds (if o then 1 else 0) new sto ((mkP o e b z a x new).bind fun x => Jo F r (new + if o then 1 else 0) ⟨(d, x.val) :: env, upd x.ws sto⟩ (lgA lg (rdO F (.mkslice o e b z l c) new ⟨env, sto⟩) (x.ws.map (·.1))))) ∧
 (∀ F r new env sto lg d g args n, Jo F (⟨.call g args n, some d, none⟩ :: r) new ⟨env, sto⟩ lg = dds n new sto (((evs args).run ⟨env, sto⟩).bind fun a => ((Jz a).run ⟨env, sto⟩).bind fun a => ((Jl F g a n new).run ⟨env, sto⟩).bind fun e => Jo F r (new + n) ⟨(d, e.val) :: env, upd e.ws sto⟩ (lgA lg (rdO F (.call g args n) new ⟨env, sto⟩) (e.ws.map (·.1))))) ∧
 (∀ F r new env sto lg g args n, Jo F (⟨.call g args n, none, none⟩ :: r) new ⟨env, sto⟩ lg = dds n new sto (((evs args).run ⟨env, sto⟩).bind fun a => ((Jz a).run ⟨env, sto⟩).bind fun a => ((Jl F g a n new).run ⟨env, sto⟩).bind fun e => Jo F r (new + n) ⟨env, upd e.ws sto⟩ (lgA lg (rdO F (.call g args n) new ⟨env, sto⟩) (e.ws.map (·.1))))) ∧
 (∀ F r new env sto lg d z os, Jo F (⟨.newboxo z os, some d, none⟩ :: r) new ⟨env, sto⟩ lg = dds (os.length + 1) new sto (Jo F r (new + (os.length + 1)) ⟨(d, .ptr (new + os.length) 0) :: env, upd (J31 os new ++ [(new + os.length, .box (J7b os new (z.map .p)))]) sto⟩ (lgA lg (rdO F (.newboxo z os) new ⟨env, sto⟩) ((J31 os new ++ [(new + os.length, Blk.box (J7b os new (z.map .p)))]).map (·.1))))) ∧
 (∀ F r new env sto lg e x, Jo F (⟨.storen e x, none, none⟩ :: r) new ⟨env, sto⟩ lg = (evv x env).bind fun a => dds 1 new sto (((J1x 1 a (.slr new 0 0)).run ⟨env, sto⟩).bind fun q => Jo F r (new + 1) ⟨env, upd ((new, .arr true e []) :: q.ws) sto⟩ (lgA lg (rdO F (.storen e x) new ⟨env, sto⟩) (new :: q.ws.map (·.1))))) ∧
 (∀ F r new env sto lg d z ps os, Jo F (⟨.buildo z ps os, some d, none⟩ :: r) new ⟨env, sto⟩ lg = ((J2w ps).run ⟨env, sto⟩).bind fun l => (J0W l (J7b os new (z.map .p))).bind fun cs => (J1C true cs).bind fun v => dds os.length new sto (Jo F r (new + os.length) ⟨(d, v) :: env, upd (J31 os new) sto⟩ (lgA lg (rdO F (.buildo z ps os) new ⟨env, sto⟩) ((J31 os new).map (·.1))))) ∧
 (∀ F r new env sto lg d g kp args n, Jo F (⟨.callo g kp args n, some d, none⟩ :: r) new ⟨env, sto⟩ lg = dds n new sto (((evs args).run ⟨env, sto⟩).bind fun a => ((J2g kp a).run ⟨env, sto⟩).bind fun a => ((J4C F g a n new).run ⟨env, sto⟩).bind fun e => Jo F r (new + n) ⟨(d, e.val) :: env, upd e.ws sto⟩ (lgA lg (rdO F (.callo g kp args n) new ⟨env, sto⟩) (e.ws.map (·.1))))) ∧
 (∀ F r new env sto lg g kp args n, Jo F (⟨.callo g kp args n, none, none⟩ :: r) new ⟨env, sto⟩ lg = dds n new sto (((evs args).run ⟨env, sto⟩).bind fun a => ((J2g kp a).run ⟨env, sto⟩).bind fun a => ((J4C F g a n new).run ⟨env, sto⟩).bind fun e => Jo F r (new + n) ⟨env, upd e.ws sto⟩ (lgA lg (rdO F (.callo g kp args n) new ⟨env, sto⟩) (e.ws.map (·.1))))) ∧
 (∀ {α : Type} (n new : Nat) (sto : List Blk) (o : Option α), dds (n + 1) new sto o = dd1 sto[new]? (dds n (new + 1) sto o)) ∧
 (∀ F r new env sto lg op d g w, Jo F (⟨op, d, some (g, w)⟩ :: r) new ⟨env, sto⟩ lg = grd (lk g env) w (hold (Jo F (⟨op, d, none⟩ :: r) new ⟨env, sto⟩ lg) (.mk _)) (hold (Jo F r (new + JB op) (put d ⟨J0P, []⟩ ⟨env, sto⟩) (lgA lg [] [])) (.mk _))) ∧
 (∀ {α : Type} (a b : Option α) (h : Dum a), grd (some (.p (.b true))) true (hold a h) b = a) ∧
 (∀ {α : Type} (a b : Option α) (h : Dum b), grd (some (.p (.b true))) false a (hold b h) = b) ∧
 (∀ {α : Type} (a b : Option α) (h : Dum b), grd (some (.p (.b false))) true a (hold b h) = b) ∧
 (∀ {α : Type} (a b : Option α) (h : Dum a), grd (some (.p (.b false))) false (hold a h) b = a) ∧
 (∀ {α : Type} (w : Bool) (a b : Option α) (h : Dum b), grd (some (.tup [])) w a (hold b h) = b) ∧
 (∀ {β : Type} (a b : Option AV) (K : AV → Option β) (h : Dum K), pkh (.p (.b true)) a b (hold K h) = a.bind K) ∧
 (∀ {β : Type} (a b : Option AV) (K : AV → Option β) (h : Dum K), pkh (.p (.b false)) a b (hold K h) = b.bind K) ∧
 (∀ {α β : Type} (a : α) (f : α → Option β), Option.bind (some a) f = f a) ∧
 (∀ {α : Type} (new : Nat) (sto : List Blk) (o : Option α), dds 0 new sto o = o) ∧
 (∀ {α : Type} (new : Nat) (sto : List Blk) (o : Option α), dds 1 new sto o = dd1 sto[new]? o) ∧
 (∀ {α : Type} (o : Option α), dd1 (some .dead) o = o) :=
 ⟨by intro T f m k s; exact JuI T f m k s,
 by intro T f m k a b s; exact Jv7 T f m k a b s,
 by intro T f m k d ins env sto; exact JtL T f m k d ins env sto,
 by intro T f m k d q ps ins env sto; exact JuH T f m k d q ps ins env sto,
 by intro T f m k i c s; exact JsF T f m k i c s,
 by intro T f m k c s; exact JrM T f m k c s,
 by intro T f m k i s; exact JtZ T f m k i s,
 by intro T f m k s; exact JvL T f m k s,
 by intro T f m k live c env sto; exact Jus T f m k live c env sto,
 by intro T f m k live c env sto; exact Jtl T f m k live c env sto,
 by intro T f m k live c env sto; exact Jtp T f m k live c env sto,
 by intro T f m k x a b env sto; exact JuB T f m k x a b env sto,
 by intros; rfl,
 by intros; rfl,
 by intros; rfl,
 by intros; rfl,
 by intros; rfl,
 by intros; rfl,
 by intro T f m k i j s; exact JtX T f m k i j s,
 by intros; rfl,
 by intro T f m k n live e s; exact (Jw5 T f m k n live e s).trans (by cases J5x n live s <;> rfl),
 by intros; rfl,
 by intros; rfl,
 by intros; rfl,
 by intros; rfl,
 by intros; rfl,
 by intro T f m s; exact Ju5 T f m s,
 by intro T f m s; exact Jru T f m s,
 by intros; rfl,
 by intros; rfl,
 by intros; rfl,
 by intros; rfl,
 by intros; rfl,
 by intros; rfl,
 by intros; rfl,
 by intros; rfl,
 by intros; rfl,
 by intro F r new env sto lg d x; rw [st0 (h := rfl)]; simp only [opR, run_bind, J0o]; exact Jvo,
 by intro F r new env sto lg d c a b; rw [st0 (h := rfl)]; simp only [opR, run_bind, J0o]; exact Jro,
 by intro F r new env sto lg d op t x y; rw [st0 (h := rfl)]; simp only [opR, run_bind, J0o]; exact Jk2 (g := fun a c => J0m op t a c),
 by intro F r new env sto lg d op x; rw [st0 (h := rfl)]; simp only [opR, run_bind, J0o]; exact Jde (g := fun a => unP op a),
 by intro F r new env sto lg d g off n x; rw [st0 (h := rfl)]; simp only [opR, run_bind, J0o]; exact Jde (g := fun a => J5o g off n a),
 by intro F r new env sto lg d off x; rw [st0 (h := rfl)]; simp only [opR, run_bind, J0o]; exact Jde (g := fun a => JaT off a),
 by intro F r new env sto lg d x i; rw [st0 (h := rfl)]; simp only [opR, run_bind, J0o]; exact Jde (g := fun a => Jg3 i a),
 by intro F r new env sto lg d b x; rw [st0 (h := rfl)]; simp only [opR, run_bind, J0o]; exact Jde (g := fun a => Jfh b a),
 by intro F r new env sto lg d n; rw [st0 (h := rfl)]; rfl,
 by intro F r new env sto lg d b x y; rw [st0 (h := rfl)]; simp only [opR, run_bind, J0o]; exact Jk2 (g := fun a c => mmP b a c),
 by intro F r new env sto lg d n e x i; rw [st0 (h := rfl)]; simp only [opR, run_bind, J0o]; exact Jk2 (g := fun a c => JaS n e a c),
 by intro F r new env sto lg d e x i; rw [st0 (h := rfl)]; simp only [opR, run_bind, J0o]; exact Ji4 (g := fun a c => (J2R e a c).run ⟨env, sto⟩),
 by intro F r new env sto lg d x i; rw [st0 (h := rfl)]; simp only [opR, run_bind, J0o]; exact Jts,
 by intro F r new env sto lg d g n e x i; rw [st0 (h := rfl)]; simp only [opR, run_bind, J0o]; exact Juz,
 by intro F r new env sto lg d x; rw [st0 (h := rfl)]; simp only [opR, run_bind, J0o]; exact JtE,
 by intro F r new env sto lg d g n x; rw [st0 (h := rfl)]; simp only [opR, run_bind, J0o]; exact Jme (g := fun a => (J1X g n a).run ⟨env, sto⟩),
 by intro F r new env sto lg n x y; rw [JwP (h := rfl)]; simp only [opR, run_bind, J0o]; exact Ji4 (g := fun a c => (J1x n a c).run ⟨env, sto⟩),
 by intro F r new env sto lg d c x; exact JsB,
 by intro F r new env sto lg d z ps; exact Jqz,
 by intro F r new env sto lg d s x lo hi mx; exact Jqu,
 by intro F r new env sto lg d e b z x y; rw [st0 (h := rfl)]; simp only [opR, run_bind, J0o]; exact Ji4 (g := fun a c => (J4s e b a c).run ⟨env, sto⟩),
 by intro F r new env sto lg d e b z x y; rw [st0 (h := rfl)]; simp only [opR, run_bind, J0o]; exact Jra,
 by intro F r new env sto lg d g a c; exact Jt0,
 by intro F r new env sto lg d g args n; exact JqT,
 by intro F r new env sto lg g args n; exact Jpc,
 by intros; rfl,
 by intro F r new env sto lg d e b z y; exact Jsb,
 by intro F r new env sto lg d e b z x y; exact Jt1,
 by intro F r new env sto lg d z; exact JpQ,
 by intro F r new env sto lg d e x; exact JqD,
 by intro F r new env sto lg d n x; exact JtH,
 by intro F r new env sto lg d o e n z ps; exact JsI,
 by intro F r new env sto lg d o e b z l c; exact Jod,
 by intro F r new env sto lg d g args n; exact Jsw,
 by intro F r new env sto lg g args n; exact JqV,
 by intro F r new env sto lg d z os; exact Jop,
 by intro F r new env sto lg e x; exact Jpm,
 by intro F r new env sto lg d z ps os; exact JpY,
 by intro F r new env sto lg d g kp args n; exact Jqb,
 by intro F r new env sto lg g kp args n; exact Jpv,
 by intro α n new sto o; exact JwJ ..,
 by intro F r new env sto lg op d g w; exact Jtv ..,
 by intros; rfl,
 by intros; rfl,
 by intros; rfl,
 by intros; rfl,
 by intros; rfl,
 by intros; rfl,
 by intros; rfl,
 by intros; rfl,
 by intros; rfl,
 by intro α new sto o; exact JwF ..,
 by intros; rfl⟩
set_option maxRecDepth 30000 in
theorem Ua : (∀ n m v r, lk n ((m, v) :: r) = if n = m then some v else lk n r) ∧
 (∀ n env, evv (.t n) env = lk n env) ∧
 (∀ v env, evv (.c v) env = some v) ∧
 (∀ a b, pk (.p (.b true)) a b = a) ∧
 (∀ a b, pk (.p (.b false)) a b = b) ∧
 (∀ env, restr [] env = []) ∧
 (∀ k l env, restr (k :: l) env = JpT k (lk k env) (restr l env)) ∧
 (∀ k v l, JpT k (some v) l = (k, v) :: l) ∧
 (∀ k l, JpT k none l = l) ∧
 (∀ n, lk n [] = none) ∧
 (news [] = 0) ∧
 (∀ i r, news (i :: r) = JB i.op + news r) ∧
 (∀ x, JB (.mv x) = 0) ∧
 (∀ e x, JB (.mkarr e x) = 1) ∧
 (∀ a b c, JB (.pick a b c) = 0) ∧
 (∀ z, JB (.newbox z) = 1) ∧
 (∀ n x, JB (.box n x) = 1) ∧
 (∀ z ps, JB (.build z ps) = 0) ∧
 (∀ o e n z ps, JB (.lits o e n z ps) = if o then 1 else 0) ∧
 (∀ g n x, JB (.load g n x) = 0) ∧
 (∀ n x y, JB (.store n x y) = 0) ∧
 (∀ x, JB (.nilchk x) = 0) ∧
 (∀ op t x y, JB (.bin op t x y) = 0) ∧
 (∀ op x, JB (.un op x) = 0) ∧
 (∀ c x, JB (.conv (.int c) x) = 0) ∧
 (∀ x, JB (.conv .same x) = 0) ∧
 (∀ x, JB (.conv .toStr x) = 0) ∧
 (∀ o x, JB (.conv (.toBytes o) x) = if o then 1 else 0) ∧
 (∀ o e b z l c, JB (.mkslice o e b z l c) = if o then 1 else 0) ∧
 (∀ s x lo hi mx, JB (.slice s x lo hi mx) = 0) ∧
 (∀ off x, JB (.faddr off x) = 0) ∧
 (∀ g off n x, JB (.field g off n x) = 0) ∧
 (∀ e x i, JB (.iaddr e x i) = 0) ∧
 (∀ n e x i, JB (.aaddr n e x i) = 0) ∧
 (∀ x i, JB (.sidx x i) = 0) ∧
 (∀ g n e x i, JB (.aidx g n e x i) = 0) ∧
 (∀ x i, JB (.extr x i) = 0) ∧
 (∀ g args n, JB (.call g args n) = n) ∧
 (∀ g args n, JB (.callv g args n) = n) ∧
 (∀ b x, JB (.len b x) = 0) ∧
 (∀ n, JB (.alen n) = 0) ∧
 (∀ e b z x y, JB (.app e b z x y) = 0) ∧
 (∀ e b z x y, JB (.appz e b z x y) = 0) ∧
 (∀ e b z y, JB (.appn e b z y) = 1) ∧
 (∀ e b z x y, JB (.appc e b z x y) = 1) ∧
 (∀ b x y, JB (.mm b x y) = 0) ∧
 (∀ g a c, JB (.mkfn g a c) = 0) ∧
 (∀ z os, JB (.newboxo z os) = os.length + 1) ∧
 (∀ z ps os, JB (.buildo z ps os) = os.length) ∧
 (∀ e x, JB (.storen e x) = 1) ∧
 (∀ g kp args n, JB (.callo g kp args n) = n) ∧
 (∀ sto, room 0 sto = sto) ∧
 (∀ n sto, room (n + 1) sto = sto ++ .dead :: List.replicate n .dead) ∧
 (∀ sto, upd [] sto = sto) ∧
 (∀ b x ws sto, upd ((b, x) :: ws) sto = upd ws (sto.set b x)) ∧
 (∀ d v ws env sto, put (some d) ⟨v, ws⟩ ⟨env, sto⟩ = ⟨(d, v) :: env, upd ws sto⟩) ∧
 (∀ v ws env sto, put none ⟨v, ws⟩ ⟨env, sto⟩ = ⟨env, upd ws sto⟩) ∧
 (J0P = .tup []) ∧
 (∀ {α β : Type} (a : α) (f : α → β), Option.map f (some a) = some (f a)) ∧
 (∀ k x y, J0m .add .plain (.p (.i k x)) (.p (.i k y)) = some (.p (.i k (k.wrap (x + y))))) ∧
 (∀ k x y, J0m .sub .plain (.p (.i k x)) (.p (.i k y)) = some (.p (.i k (k.wrap (x - y))))) ∧
 (∀ k x y, J0m .mul .plain (.p (.i k x)) (.p (.i k y)) = some (.p (.i k (k.wrap (x * y))))) ∧
 (∀ k x y, J0m .and .plain (.p (.i k x)) (.p (.i k y)) = some (.p (.i k (J4L k x y)))) ∧
 (∀ k x y, J0m .or .plain (.p (.i k x)) (.p (.i k y)) = some (.p (.i k (orI k x y)))) ∧
 (∀ k x y, J0m .xor .plain (.p (.i k x)) (.p (.i k y)) = some (.p (.i k (J4E k x y)))) ∧
 (∀ k x y, J0m .eql .plain (.p (.i k x)) (.p (.i k y)) = some (.p (.b (x == y)))) ∧
 (∀ k x y, J0m .neq .plain (.p (.i k x)) (.p (.i k y)) = some (.p (.b (x != y)))) ∧
 (∀ k x y, J0m .lss .plain (.p (.i k x)) (.p (.i k y)) = some (.p (.b (decide (x < y))))) ∧
 (∀ k x y, J0m .leq .plain (.p (.i k x)) (.p (.i k y)) = some (.p (.b (decide (x ≤ y))))) ∧
 (∀ k x y, J0m .gtr .plain (.p (.i k x)) (.p (.i k y)) = some (.p (.b (decide (x > y))))) ∧
 (∀ k x y, J0m .geq .plain (.p (.i k x)) (.p (.i k y)) = some (.p (.b (decide (x ≥ y))))) ∧
 (∀ k x y, J0m .quo .plain (.p (.i k x)) (.p (.i k y)) = (JvB k x y).map fun z => .p (.i k z)) ∧
 (∀ k x y, J0m .rem .plain (.p (.i k x)) (.p (.i k y)) = (JfP x y).map fun z => .p (.i k z)) ∧
 (∀ k k2 x y, J0m .shl .plain (.p (.i k x)) (.p (.i k2 y)) = (Jd3 k x y).map fun z => .p (.i k z)) ∧
 (∀ k k2 x y, J0m .shr .plain (.p (.i k x)) (.p (.i k2 y)) = (J8b k x y).map fun z => .p (.i k z)) ∧
 (∀ x y, J0m .add .plain (.p (.s x)) (.p (.s y)) = (J3z x y).map fun z => .p (.s z)) ∧
 (∀ x y, J0m .eql .plain (.p (.s x)) (.p (.s y)) = some (.p (.b (x == y)))) ∧
 (∀ x y, J0m .neq .plain (.p (.s x)) (.p (.s y)) = some (.p (.b (!(x == y))))) ∧
 (∀ x y, J0m .lss .plain (.p (.s x)) (.p (.s y)) = some (.p (.b (Op.bytesLess x y)))) ∧
 (∀ x y, J0m .leq .plain (.p (.s x)) (.p (.s y)) = some (.p (.b (Op.bytesLess x y || x == y)))) ∧
 (∀ x y, J0m .gtr .plain (.p (.s x)) (.p (.s y)) = some (.p (.b (!(Op.bytesLess x y || x == y))))) ∧
 (∀ x y, J0m .geq .plain (.p (.s x)) (.p (.s y)) = some (.p (.b (!Op.bytesLess x y)))) ∧
 (∀ x y, J0m .eql .bool (.p (.b x)) (.p (.b y)) = some (.p (.b (x == y)))) ∧
 (∀ x y, J0m .neq .bool (.p (.b x)) (.p (.b y)) = some (.p (.b (!(x == y))))) ∧
 (∀ ks a c, J0m .eql (.flat ks) (.data a) (.data c) = (J1v ks a c).map fun x => .p (.b x)) ∧
 (∀ ks a c, J0m .neq (.flat ks) (.data a) (.data c) = (J1v ks a c).map fun x => .p (.b (!x))) ∧
 (∀ b o y, J0m .eql .nilp (.ptr b o) y = some (.p (.b false))) ∧
 (∀ b o y, J0m .neq .nilp (.ptr b o) y = some (.p (.b true))) ∧
 (∀ k n, unP .neg (.p (.i k n)) = some (.p (.i k (k.wrap (0 - n))))) ∧
 (∀ k n, unP .xor (.p (.i k n)) = some (.p (.i k (JpI k n)))) ∧
 (∀ x, unP .not (.p (.b x)) = some (.p (.b (!x)))) ∧
 ((!true) = false) ∧
 ((!false) = true) ∧
 (∀ k x y, mmP true (.p (.i k x)) (.p (.i k y)) = some (.p (.i k (JwB x y)))) ∧
 (∀ k x y, mmP false (.p (.i k x)) (.p (.i k y)) = some (.p (.i k (Jhj x y)))) ∧
 (∀ off b o, JaT off (.ptr b o) = some (.ptr b (o + off))) ∧
 (∀ off o cs, JaT off (.cp cs o) = some (.cp cs (o + off))) ∧
 (∀ off b e i o, JaT off (.ep b e i o) = some (.ep b e i (o + off))) ∧
 (∀ g off n cs, J5o g off n (.data cs) = (sub cs off n).bind (J1P g)) ∧
 (∀ g off n c cs, J5o g off n (.agg (c :: cs)) = (sub (c :: cs) off n).bind (J1C g)) ∧
 (∀ cs, J1P true cs = some (.data cs)) ∧
 (∀ c, J1P false [c] = some (.p c)) ∧
 (∀ cs, J1C true (cs.map AV.p) = some (.data cs)) ∧
 (∀ c cs, J1C true (c :: cs) = some (Jnz (c :: cs) (unp (c :: cs)))) ∧
 (∀ c, J1C false [c] = some c) ∧
 (∀ cs l, Jnz cs (some l) = .data l) ∧
 (∀ c, Option.map (fun l => c :: l) (none : Option (List PV)) = none) ∧
 (∀ cs, Jnz cs none = .agg cs) ∧
 (unp [] = some []) ∧
 (∀ c r, unp (.p c :: r) = (unp r).map fun l => c :: l) ∧
 (∀ b i n r, unp (.slr b i n :: r) = none) ∧
 (∀ b i r, unp (.ptr b i :: r) = none) ∧
 (∀ b e i o r, unp (.ep b e i o :: r) = none) ∧
 (∀ f a c r, unp (.fn f a c :: r) = none) ∧
 (∀ i vs, Jg3 i (.tup vs) = vs[i]?) ∧
 (∀ l, Jfh true (.p (.s l)) = some (.p (.i .i64 l.length))) ∧
 (∀ e rows, Jfh false (.p (.sl e rows)) = some (.p (.i .i64 rows.length))) ∧
 (∀ b i n, Jfh false (.slr b i n) = some (.p (.i .i64 n))) ∧
 (∀ {α β : Type} (g : α → β) (l : List α), (l.map g).length = l.length) ∧
 (∀ b o, Jmn (.ptr b o) = some (.ptr b o)) ∧
 (∀ cs o, Jmn (.cp cs o) = some (.cp cs o)) ∧
 (∀ b e i o, Jmn (.ep b e i o) = some (.ep b e i o)) ∧
 (∀ env sto g n cs off, (J1X g n (.cp cs off)).run ⟨env, sto⟩ = (sub cs off n).bind fun l => (J1P g l).map fun v => ⟨v, []⟩) ∧
 (∀ env sto g n b off, (J1X g n (.ptr b off)).run ⟨env, sto⟩ = sto[b]?.bind fun B => ldB g n off B) ∧
 (∀ env sto g n b e i off, (J1X g n (.ep b e i off)).run ⟨env, sto⟩ = sto[b]?.bind fun B => ldE g n e i off B) ∧
 (∀ g n off cs, ldB g n off (.box (cs.map AV.p)) = (sub cs off n).bind fun l => (J1P g l).map fun v => ⟨v, []⟩) ∧
 (∀ g n off c cs, ldB g n off (.box (c :: cs)) = (sub (c :: cs) off n).bind fun l => (J1C g l).map fun v => ⟨v, []⟩) ∧
 (∀ g n e i off z w rows, ldE g n e i off (.arr w z rows) = if e = rows.length then rows[i]?.bind fun row => (sub row off n).bind fun l => (J1P g l).map fun v => ⟨v, []⟩ else none) ∧
 (∀ env sto n b off v, (J1x n (.ptr b off) v).run ⟨env, sto⟩ = sto[b]?.bind fun B => (cellsOf v).bind fun l => stB n b off l B) ∧
 (∀ n b off cs vs, stB n b off (vs.map AV.p) (.box (cs.map AV.p)) = if vs.length = n then (spl cs off vs).map fun cs => ⟨J0P, [(b, .box (cs.map AV.p))]⟩ else none) ∧
 (∀ b off cs v, stB 1 b off [AV.p v] (.box (cs.map AV.p)) = (spl cs off [v]).map fun cs => ⟨J0P, [(b, .box (cs.map AV.p))]⟩) ∧
 (∀ env sto n b e i off v, (J1x n (.ep b e i off) v).run ⟨env, sto⟩ = sto[b]?.bind fun B => stE n b e i off v B ⟨env, sto⟩) ∧
 (∀ n b e i off z c rows s, stE n b e i off (.p c) (.arr true z rows) s = if e = rows.length then rows[i]?.bind fun row => if 1 = n then (spl row off [c]).map fun row => ⟨J0P, [(b, .arr true z (rows.set i row))]⟩ else none else none) ∧
 (∀ n b e i off z cs rows s, stE n b e i off (.data cs) (.arr true z rows) s = if e = rows.length then rows[i]?.bind fun row => if cs.length = n then (spl row off cs).map fun row => ⟨J0P, [(b, .arr true z (rows.set i row))]⟩ else none else none) ∧
 (∀ c, cellsOf (.p c) = some [.p c]) ∧
 (∀ cs, cellsOf (.data cs) = some (cs.map AV.p)) ∧
 (∀ cs, cellsOf (.agg cs) = some cs) ∧
 (∀ f a c, cellsOf (.fn f a c) = some [.fn f a c]) ∧
 (∀ b i n, cellsOf (.slr b i n) = some [.slr b i n]) ∧
 (∀ b o, cellsOf (.ptr b o) = some [.ptr b o]) ∧
 (∀ c, bxP 1 (.p c) = some [.p c]) ∧
 (∀ n cs, bxP n (.data cs) = if cs.length = n then some (cs.map AV.p) else none) ∧
 (∀ n cs, bxP n (.agg cs) = if cs.length = n then some cs else none) ∧
 (∀ b i n, bxP 1 (.slr b i n) = some [.slr b i n]) ∧
 (∀ env sto e rows k n, (J2R e (.p (.sl e rows)) (.p (.i k n))).run ⟨env, sto⟩ = (Jbx rows n).map fun row => ⟨.cp row 0, []⟩) ∧
 (∀ env sto e b m k n, (J2R e (.slr b 0 m) (.p (.i k n))).run ⟨env, sto⟩ = sto[b]?.bind fun B => iaB e b m n B) ∧
 (∀ e b m n w rows, iaB e b m n (.arr w e rows) = if m = rows.length ∧ 0 ≤ n ∧ n < m then some ⟨.ep b rows.length n.toNat 0, []⟩ else none) ∧
 (∀ n e b off k i, JaS n e (.ptr b off) (.p (.i k i)) = if 0 ≤ i ∧ i < n then some (.ptr b (off + i.toNat * e)) else none) ∧
 (∀ n e off cs k i, JaS n e (.cp cs off) (.p (.i k i)) = if 0 ≤ i ∧ i < n then some (.cp cs (off + i.toNat * e)) else none) ∧
 (∀ n e b x j off k i, JaS n e (.ep b x j off) (.p (.i k i)) = if 0 ≤ i ∧ i < n then some (.ep b x j (off + i.toNat * e)) else none) ∧
 (∀ l k n, Jk0 (.p (.s l)) (.p (.i k n)) = (JbO l n).map fun v => .p (.i .u8 v)) ∧
 (∀ g n e cs k i, Jhq g n e (.agg cs) (.p (.i k i)) = if 0 ≤ i ∧ i < n then J5o g (i.toNat * e) e (.agg cs) else none) ∧
 (∀ g n e cs k i, Jhq g n e (.data cs) (.p (.i k i)) = if 0 ≤ i ∧ i < n then (sub cs (i.toNat * e) e).bind (J1P g) else none) ∧
 (∀ env sto c k n new, (cvR (.int c) (.p (.i k n)) new).run ⟨env, sto⟩ = some ⟨.p (.i c (c.wrap n)), []⟩) ∧
 (∀ env sto l new, (cvR .same (.p (.s l)) new).run ⟨env, sto⟩ = some ⟨.p (.s l), []⟩) ∧
 (∀ env sto l new, (cvR .toStr (.p (.sl 1 (l.map (r_i .u8)))) new).run ⟨env, sto⟩ = some ⟨.p (.s (toStr l)), []⟩) ∧
 (∀ env sto b n new, (cvR .toStr (.slr b 0 n) new).run ⟨env, sto⟩ = sto[b]?.bind fun B => cvB n B) ∧
 (∀ n w l, cvB n (.arr w 1 (l.map (r_i .u8))) = if n = l.length then some ⟨.p (.s (toStr l)), []⟩ else none) ∧
 (∀ env sto l new, (cvR (.toBytes false) (.p (.s l)) new).run ⟨env, sto⟩ = some ⟨.p (.sl 1 ((J9h l).map (r_i .u8))), []⟩) ∧
 (∀ env sto l new, (cvR (.toBytes true) (.p (.s l)) new).run ⟨env, sto⟩ = some ⟨.slr new 0 (J9h l).length, [(new, .arr true 1 ((J9h l).map (r_i .u8)))]⟩) ∧
 (∀ env sto, (J2w []).run ⟨env, sto⟩ = some []) ∧
 (∀ env sto off size x r, (J2w ((off, size, x) :: r)).run ⟨env, sto⟩ = (evv x env).bind fun v => (cellsOf v).bind fun cs => ((J2w r).run ⟨env, sto⟩).bind fun l => some ((off, size, cs) :: l)) ∧
 (∀ cs, J0W [] cs = some cs) ∧
 (∀ off size vs cs r, J0W ((off, size, vs.map AV.p) :: r) (cs.map AV.p) = if vs.length = size then (spl cs off vs).bind fun cs => J0W r (cs.map AV.p) else none) ∧
 (∀ off v cs r, J0W ((off, 1, [AV.p v]) :: r) (cs.map AV.p) = (spl cs off [v]).bind fun cs => J0W r (cs.map AV.p)) ∧
 (∀ env sto, (evs []).run ⟨env, sto⟩ = some []) ∧
 (∀ env sto x r, (evs (x :: r)).run ⟨env, sto⟩ = (evv x env).bind fun v => ((evs r).run ⟨env, sto⟩).bind fun vs => some (v :: vs)) ∧
 (∀ n, J31 [] n = []) ∧
 (∀ o e r n, J31 ((o, e) :: r) n = (n, .arr true e []) :: J31 r (n + 1)) ∧
 (∀ n cs, J7b [] n cs = cs) ∧
 (∀ o e r n cs, J7b ((o, e) :: r) n cs = J7b r (n + 1) (cs.set o (.slr n 0 0))) ∧
 (∀ env sto m, (J2g m []).run ⟨env, sto⟩ = some ([], [])) ∧
 (∀ env sto l, (J2g [] l).run ⟨env, sto⟩ = (Jz l).run ⟨env, sto⟩) ∧
 (∀ env sto x m r, (J2g (true :: m) (x :: r)).run ⟨env, sto⟩ = ((J2g m r).run ⟨env, sto⟩).bind fun c => some (x :: c.1, c.2)) ∧
 (∀ env sto x m r, (J2g (false :: m) (x :: r)).run ⟨env, sto⟩ = ((Jz [x]).run ⟨env, sto⟩).bind fun a => ((J2g m r).run ⟨env, sto⟩).bind fun c => some (a.1 ++ c.1, a.2 ++ c.2)) ∧
 (∀ env sto, (Jz []).run ⟨env, sto⟩ = some ([], [])) ∧
 (∀ env sto c r, (Jz (.p c :: r)).run ⟨env, sto⟩ = ((Jz r).run ⟨env, sto⟩).bind fun a => some (.p c :: a.1, a.2)) ∧
 (∀ env sto c r, (Jz (.data c :: r)).run ⟨env, sto⟩ = ((Jz r).run ⟨env, sto⟩).bind fun a => some (.data c :: a.1, a.2)) ∧
 (∀ env sto b o r, (Jz (.ptr b o :: r)).run ⟨env, sto⟩ = ((Jz r).run ⟨env, sto⟩).bind fun a => some (.ptr b o :: a.1, a.2)) ∧
 (∀ env sto c o r, (Jz (.cp c o :: r)).run ⟨env, sto⟩ = ((Jz r).run ⟨env, sto⟩).bind fun a => some (.cp c o :: a.1, a.2)) ∧
 (∀ env sto b x i o r, (Jz (.ep b x i o :: r)).run ⟨env, sto⟩ = ((Jz r).run ⟨env, sto⟩).bind fun a => some (.ep b x i o :: a.1, a.2)) ∧
 (∀ env sto b n r, (Jz (.slr b 0 n :: r)).run ⟨env, sto⟩ = sto[b]?.bind fun B => (frz b n B).bind fun x => ((Jz r).run ⟨env, sto⟩).bind fun a => some (x.1 :: a.1, x.2 :: a.2)) ∧
 (∀ env sto cs r, (Jz (.agg cs :: r)).run ⟨env, sto⟩ = ((fz.fzL cs).run ⟨env, sto⟩).bind fun x => ((Jz r).run ⟨env, sto⟩).bind fun a => some (.data x.1 :: a.1, x.2 ++ a.2)) ∧
 (∀ b n z w rows, frz b n (.arr w z rows) = if n = rows.length then some (.p (.sl z rows), (b, .arr false z rows)) else none) ∧
 (∀ env sto, (fz.fzL []).run ⟨env, sto⟩ = some ([], [])) ∧
 (∀ env sto c r, (fz.fzL (.p c :: r)).run ⟨env, sto⟩ = ((fz.fzL r).run ⟨env, sto⟩).bind fun a => some (c :: a.1, a.2)) ∧
 (∀ env sto b n r, (fz.fzL (.slr b 0 n :: r)).run ⟨env, sto⟩ = sto[b]?.bind fun B => (frp b n B).bind fun x => ((fz.fzL r).run ⟨env, sto⟩).bind fun a => some (x.1 :: a.1, x.2 :: a.2)) ∧
 (∀ b n z w rows, frp b n (.arr w z rows) = if n = rows.length then some (.sl z rows, (b, .arr false z rows)) else none) ∧
 (∀ env sto f a c r, (Jz (.fn f a c :: r)).run ⟨env, sto⟩ = ((Jz r).run ⟨env, sto⟩).bind fun x => some (.fn f a c :: x.1, x.2)) ∧
 (∀ m ids sto f a c, fin m ids sto (.fn f a c) = (fin.finL m ids sto a).bind fun a1 => (fin.finL m ids sto c).bind fun c1 => some (.fn f a1 c1)) ∧
 (∀ f a c l, JW (.fn f a c) l = JW.entsOfL c (JW.entsOfL a l)) ∧
 (∀ ws s, J06 ws s [] [] = True) ∧
 (∀ ws s b bs cs css, J06 ws s (b :: bs) (cs :: css) = ((J8j ws b).run s = some (.box cs) ∧ J06 ws s bs css)) ∧
 (∀ env sto b c x ws, (J8j ((c, x) :: ws) b).run ⟨env, sto⟩ = sto[b]?.bind fun y => some ((J2f b ((c, x) :: ws)).getD y)) ∧
 (∀ b, J2f b [] = none) ∧
 (∀ b c x r, J2f b ((c, x) :: r) = lwO (J2f b r) (if c = b then some x else none)) ∧
 (∀ x y, lwO (some x) y = some x) ∧
 (∀ y, lwO none y = y) ∧
 (∀ {α : Type} (a b : α), (some a).getD b = a) ∧
 (∀ {α : Type} (b : α), (none : Option α).getD b = b) ∧
 (∀ env sto b, (J8j [] b).run ⟨env, sto⟩ = sto[b]?) ∧
 (∀ env sto e rows, (JS e (.p (.sl e rows))).run ⟨env, sto⟩ = some rows) ∧
 (∀ env sto l, (JS 1 (.p (.s l))).run ⟨env, sto⟩ = some ((J9h l).map (r_i .u8))) ∧
 (∀ env sto e b n, (JS e (.slr b 0 n)).run ⟨env, sto⟩ = sto[b]?.bind fun B => roB e n B) ∧
 (∀ e n w rows, roB e n (.arr w e rows) = if n = rows.length then some rows else none) ∧
 (∀ env sto o e n new z ps, (ltR o e n z ps new).run ⟨env, sto⟩ = ((fzs (ps.map (·.2))).run ⟨env, sto⟩).bind fun a => (J3Y e ((ps.map (·.1)).zip a.1) (List.replicate n z)).map fun rows => if o then ⟨.slr new 0 n, a.2 ++ [(new, .arr true e rows)]⟩ else ⟨.p (.sl e rows), a.2⟩) ∧
 (∀ env sto, (fzs []).run ⟨env, sto⟩ = some ([], [])) ∧
 (∀ env sto x r, (fzs (x :: r)).run ⟨env, sto⟩ = (evv x env).bind fun v => ((fz v).run ⟨env, sto⟩).bind fun a => ((fzs r).run ⟨env, sto⟩).bind fun c => some (a.1 :: c.1, a.2 ++ c.2)) ∧
 (∀ env sto c, (fz (.p c)).run ⟨env, sto⟩ = some ([c], [])) ∧
 (∀ env sto cs, (fz (.data cs)).run ⟨env, sto⟩ = some (cs, [])) ∧
 (∀ env sto cs, (fz (.agg cs)).run ⟨env, sto⟩ = (fz.fzL cs).run ⟨env, sto⟩) ∧
 (∀ env sto b n, (fz (.slr b 0 n)).run ⟨env, sto⟩ = sto[b]?.bind fun B => (frp b n B).bind fun x => some ([x.1], [x.2])) ∧
 (∀ e rows, J3Y e [] rows = some rows) ∧
 (∀ e i c r rows, J3Y e ((i, c) :: r) rows = if c.length = e ∧ i < rows.length then J3Y e r (rows.set i c) else none) ∧
 (∀ o e b new z k k2 n m, mkP o e b z (.p (.i k n)) (.p (.i k2 m)) new = if 0 ≤ n ∧ n ≤ m ∧ b * m ≤ 281474976710656 ∧ m ≤ 281474976710656 then some (if o then ⟨.slr new 0 n.toNat, [(new, .arr true e (List.replicate n.toNat z))]⟩ else ⟨.p (.sl e (List.replicate n.toNat z)), []⟩) else none) ∧
 (∀ env, J8W none env = some none) ∧
 (∀ x env, J8W (some x) env = (evv x env).map some) ∧
 (∀ env sto s c lo hi, (slR s (.p c) lo hi none).run ⟨env, sto⟩ = (slX s (.p c) lo hi).map fun v => ⟨v, []⟩) ∧
 (∀ env sto s b n lo hi, (slR s (.slr b 0 n) lo hi none).run ⟨env, sto⟩ = sto[b]?.bind fun B => (frz b n B).bind fun x => (slX s x.1 lo hi).map fun v => ⟨v, [x.2]⟩) ∧
 (∀ x lo hi, slX .str x lo hi = J2b x lo hi) ∧
 (∀ e x lo hi, slX (.sl e) x lo hi = J8m e x lo hi) ∧
 (∀ n live env sto, J5x n live ⟨env, sto⟩ = if sto.length = n then some ⟨restr live env, sto⟩ else (J8l n sto (restr live env)).bind fun e => (J3m n [] sto (sto.take n)).bind fun l => some ⟨e, l⟩) ∧
 (∀ m sto, J8l m sto [] = some []) ∧
 (∀ m k sto x r, J8l m sto ((k, x) :: r) = (fin m [] sto x).bind fun y => (J8l m sto r).bind fun l => some ((k, y) :: l)) ∧
 (∀ m ids sto, J3m m ids sto [] = some []) ∧
 (∀ m ids sto x r, J3m m ids sto (x :: r) = (J4t m ids sto x).bind fun y => (J3m m ids sto r).bind fun l => some (y :: l)) ∧
 (∀ m ids sto, J4t m ids sto .dead = some .dead) ∧
 (∀ m ids sto w z rows, J4t m ids sto (.arr w z rows) = some (.arr w z rows)) ∧
 (∀ m ids sto cs, J4t m ids sto (.box cs) = (fin.finL m ids sto cs).map .box) ∧
 (∀ (m : Nat) (ids : List Nat) (sto : List Blk) (l : List PV), fin.finL m ids sto (l.map AV.p) = some (l.map AV.p)) ∧
 (∀ m ids sto, fin.finL m ids sto [] = some []) ∧
 (∀ m ids sto x r, fin.finL m ids sto (x :: r) = (fin m ids sto x).bind fun y => (fin.finL m ids sto r).bind fun l => some (y :: l)) ∧
 (∀ m ids sto c, fin m ids sto (.p c) = some (.p c)) ∧
 (∀ m ids sto c, fin m ids sto (.data c) = some (.data c)) ∧
 (∀ m ids sto c o, fin m ids sto (.cp c o) = some (.cp c o)) ∧
 (∀ m ids sto, fin m ids sto (.tup []) = some (.tup [])) ∧
 (∀ m ids sto b off, fin m ids sto (.ptr b off) = if b < m then some (.ptr b off) else (J86 b ids m).map fun k => .ptr k off) ∧
 (∀ m ids sto b n, fin m ids sto (.slr b 0 n) = if b < m then some (.slr b 0 n) else fsl (J86 b ids m) n sto[b]?) ∧
 (∀ k n o, fsl (some k) n o = some (.slr k 0 n)) ∧
 (∀ n z w rows, fsl none n (some (.arr w z rows)) = if n = rows.length then some (.p (.sl z rows)) else none) ∧
 (∀ m ids sto cs, fin m ids sto (.agg cs) = (fin.finL m ids sto cs).bind fun l => some (Jnz l (unp l))) ∧
 (∀ m ids sto x cs, fin m ids sto (.tup (x :: cs)) = (fin.finL m ids sto (x :: cs)).map .tup) ∧
 (∀ b k, J86 b [] k = none) ∧
 (∀ b x k r, J86 b (x :: r) k = if x = b then some k else J86 b r (k + 1)) ∧
 (∀ res fresh m env sto, Jig res fresh m ⟨env, sto⟩ = ((J5Z res).run ⟨env, sto⟩).bind fun vs => if sto.length = m then some (one vs, sto) else JpV fresh m vs sto (J0Y m fresh sto (J7C sto (JW.entsOfL vs []) (JW.entsOfL vs [])))) ∧
 (∀ fresh m vs sto ids, JpV fresh m vs sto ids = if J4Y ids = true then (fin.finL m ids sto vs).bind fun ws => (J3m m ids sto (sto.take m)).bind fun l => (J6W sto ids).bind fun q => (J3m m ids sto q).bind fun q => some (one ws, l ++ q) else none) ∧
 (∀ env sto, (J5Z []).run ⟨env, sto⟩ = some []) ∧
 (∀ env sto t r, (J5Z (.tmp t :: r)).run ⟨env, sto⟩ = (lk t env).bind fun v => ((J5Z r).run ⟨env, sto⟩).bind fun l => some (v :: l)) ∧
 (∀ env sto t n g r, (J5Z (.cell t g n :: r)).run ⟨env, sto⟩ = (lk t env).bind fun v => ((J1X g n v).run ⟨env, sto⟩).bind fun e => ((J5Z r).run ⟨env, sto⟩).bind fun l => some (e.val :: l)) ∧
 (∀ x, one [x] = x) ∧
 (one [] = .tup []) ∧
 (∀ x y r, one (x :: y :: r) = .tup (x :: y :: r)) ∧
 (∀ m fresh sto, J0Y m fresh sto [] = []) ∧
 (∀ m b sto r, J0Y m false sto (.whole b :: r) = if b < m then J0Y m false sto r else oid b sto[b]? (J0Y m false sto r)) ∧
 (∀ m b sto r, J0Y m true sto (.whole b :: r) = if b < m then J0Y m true sto r else JmB b sto[b]? (J0Y m true sto r)) ∧
 (∀ b cs l, JmB b (some (.box cs)) l = b :: l) ∧
 (∀ b z w rows l, JmB b (some (.arr w z rows)) l = b :: l) ∧
 (∀ b cs l, oid b (some (.box cs)) l = b :: l) ∧
 (∀ b z w rows l, oid b (some (.arr w z rows)) l = l) ∧
 (∀ sto acc, J7C sto [] acc = acc) ∧
 (∀ sto b r acc, J7C sto (.whole b :: r) acc = J7C sto r (ebb sto[b]? acc)) ∧
 (∀ cs acc, ebb (some (.box cs)) acc = JW.entsOfL cs acc) ∧
 (∀ z w rows acc, ebb (some (.arr w z rows)) acc = acc) ∧
 (∀ l, JW.entsOfL [] l = l) ∧
 (∀ x r l, JW.entsOfL (x :: r) l = JW.entsOfL r (JW x l)) ∧
 (∀ (cs : List PV) (l : List Ent), JW.entsOfL (cs.map AV.p) l = l) ∧
 (∀ c l, JW (.p c) l = l) ∧
 (∀ c l, JW (.data c) l = l) ∧
 (∀ c o l, JW (.cp c o) l = l) ∧
 (∀ b o l, JW (.ptr b o) l = J7J (.whole b) l) ∧
 (∀ b i n l, JW (.slr b i n) l = J7J (.whole b) l) ∧
 (∀ cs l, JW (.agg cs) l = JW.entsOfL cs l) ∧
 (∀ cs l, JW (.tup cs) l = JW.entsOfL cs l) ∧
 (∀ e, J7J e [] = [e]) ∧
 (∀ b c r, J7J (.whole b) (.whole c :: r) = if c = b then .whole c :: r else .whole c :: J7J (.whole b) r) ∧
 (J4Y [] = true) ∧
 (∀ x, J4Y [x] = true) ∧
 (∀ sto, J6W sto [] = some []) ∧
 (∀ sto b r, J6W sto (b :: r) = sto[b]?.bind fun x => (J6W sto r).bind fun l => some (x :: l)) ∧
 (∀ {α : Type} (a : α) (l : List α), (a :: l)[0]? = some a) ∧
 (∀ {α : Type} (a : α) (l : List α) (n : Nat), (a :: l)[n + 1]? = l[n]?) ∧
 (∀ {α : Type} (n : Nat), ([] : List α)[n]? = none) ∧
 (∀ {α : Type} (a b : α) (l : List α), (a :: l).set 0 b = b :: l) ∧
 (∀ {α : Type} (a b : α) (l : List α) (n : Nat), (a :: l).set (n + 1) b = a :: l.set n b) ∧
 (∀ {α : Type} (l : List α), [] ++ l = l) ∧
 (∀ {α : Type} (l : List α), l ++ [] = l) ∧
 (∀ {α : Type} (a : α) (l r : List α), (a :: l) ++ r = a :: (l ++ r)) ∧
 (∀ {α : Type} (a : α), List.replicate 0 a = []) ∧
 (∀ {α : Type} (a : α) (n : Nat), List.replicate (n + 1) a = a :: List.replicate n a) ∧
 (∀ {α β : Type} (g : α → β), List.map g [] = []) ∧
 (∀ {α β : Type} (g : α → β) (a : α) (l : List α), List.map g (a :: l) = g a :: List.map g l) ∧
 (∀ {α : Type}, ([] : List α).length = 0) ∧
 (∀ {α : Type} (a : α) (l : List α), (a :: l).length = l.length + 1) ∧
 (∀ {α : Type} (l : List α), l.take 0 = []) ∧
 (∀ {α : Type} (a : α) (l : List α) (n : Nat), (a :: l).take (n + 1) = a :: l.take n) ∧
 (∀ {α β : Type} (l : List β), ([] : List α).zip l = []) ∧
 (∀ {α β : Type} (a : α) (b : β) (l : List α) (r : List β), (a :: l).zip (b :: r) = (a, b) :: l.zip r) ∧
 (∀ n, 0 + n = n) ∧
 (∀ n, n + 0 = n) ∧
 (∀ k n, r_i k n = [.i k n]) ∧
 (∀ x, r_b x = [.b x]) ∧
 (∀ x, r_s x = [.s x]) ∧
 (∀ {α : Type} (e : Nat) (g : α → List PV) (l : List α), JjV e g l = [.sl e (l.map g)]) ∧
 (∀ (a : PV), sub [a] 0 1 = some [a]) ∧
 (∀ (a b : PV), spl [a] 0 [b] = some [b]) ∧
 (∀ {α : Type} (cs : List α), sub cs 0 0 = some []) ∧
 (∀ {α : Type} (a : α) (cs : List α) (n : Nat), sub (a :: cs) 0 (n + 1) = (sub cs 0 n).map (a :: ·)) ∧
 (∀ {α : Type} (a : α) (cs : List α) (n m : Nat), sub (a :: cs) (n + 1) m = sub cs n m) ∧
 (∀ {α : Type} (cs : List α), spl cs 0 [] = some cs) ∧
 (∀ {α : Type} (a b : α) (cs vs : List α), spl (a :: cs) 0 (b :: vs) = (spl cs 0 vs).map (b :: ·)) ∧
 (∀ {α : Type} (a : α) (cs : List α) (n : Nat) (vs : List α), spl (a :: cs) (n + 1) vs = (spl cs n vs).map (a :: ·)) ∧
 (∀ n b off l c cs, stB n b off l (.box (c :: cs)) = if l.length = n then (spl (c :: cs) off l).map fun cs => ⟨J0P, [(b, .box cs)]⟩ else none) ∧
 (∀ off size c a cs r, J0W ((off, size, c) :: r) (a :: cs) = if c.length = size then (spl (a :: cs) off c).bind fun cs => J0W r cs else none) ∧
 (∀ {α : Type} (a b : α), (if True then a else b) = a) ∧
 (∀ {α : Type} (a b : α), (if False then a else b) = b) ∧
 (∀ {α : Type} (a b : α), (if true = true then a else b) = a) ∧
 (∀ {α : Type} (a b : α), (if false = true then a else b) = b) ∧
 (∀ a, (True ∧ a) = a) ∧
 (∀ a, (a ∧ True) = a) ∧
 (∀ {α : Type} (a : α), (a = a) = True) ∧
 (∀ {α β : Type} (a : α) (b : β), (a, b).1 = a) ∧
 (∀ {α β : Type} (a : α) (b : β), (a, b).2 = b) :=
 ⟨by intros; rfl,
 by intros; rfl,
 by intros; rfl,
 by intros; rfl,
 by intros; rfl,
 by intros; rfl,
 by intros; rfl,
 by intros; rfl,
 by intros; rfl,
 by intros; rfl,
 rfl,
 by intros; rfl,
 by intros; rfl,
 by intros; rfl,
 by intros; rfl,
 by intros; rfl,
 by intros; rfl,
 by intros; rfl,
 by intros; rfl,
 by intros; rfl,
 by intros; rfl,
 by intros; rfl,
 by intros; rfl,
 by intros; rfl,
 by intros; rfl,
 by intros; rfl,
 by intros; rfl,
 by intros; rfl,
 by intros; rfl,
 by intros; rfl,
 by intros; rfl,
 by intros; rfl,
 by intros; rfl,
 by intros; rfl,
 by intros; rfl,
 by intros; rfl,
 by intros; rfl,
 by intros; rfl,
 by intros; rfl,
 by intros; rfl,
 by intros; rfl,
 by intros; rfl,
 by intros; rfl,
 by intros; rfl,
 by intros; rfl,
 by intros; rfl,
 by intros; rfl,
 by intros; rfl,
 by intros; rfl,
 by intros; rfl,
 by intros; rfl,
 by intros; rfl,
 by intros; rfl,
 by intros; rfl,
 by intros; rfl,
 by intros; rfl,
 by intros; rfl,
 rfl,
 by intros; rfl,
 by intro k x y; simp only [J0m, if_true, J8a, Option.map_some]; try rfl,
 by intro k x y; simp only [J0m, if_true, J8a, Option.map_some]; try rfl,
 by intro k x y; simp only [J0m, if_true, J8a, Option.map_some]; try rfl,
 by intro k x y; simp only [J0m, if_true, J8a, Option.map_some]; try rfl,
 by intro k x y; simp only [J0m, if_true, J8a, Option.map_some]; try rfl,
 by intro k x y; simp only [J0m, if_true, J8a, Option.map_some]; try rfl,
 by intro k x y; simp only [J0m, if_true, J8a, Option.map_some]; try rfl,
 by intro k x y; simp only [J0m, if_true, J8a, Option.map_some]; try rfl,
 by intro k x y; simp only [J0m, if_true, J8a, Option.map_some]; try rfl,
 by intro k x y; simp only [J0m, if_true, J8a, Option.map_some]; try rfl,
 by intro k x y; simp only [J0m, if_true, J8a, Option.map_some]; try rfl,
 by intro k x y; simp only [J0m, if_true, J8a, Option.map_some]; try rfl,
 by intro k x y; simp only [J0m, if_true, J8a, JvB]; split <;> rfl,
 by intro k x y; simp only [J0m, if_true, J8a, JfP]; split <;> rfl,
 by intro k k2 x y; simp only [J0m, JbY, Jd3]; split <;> rfl,
 by intro k k2 x y; simp only [J0m, JbY, J8b]; split <;> rfl,
 by intro x y; simp only [J0m, JmY, J3z]; split <;> rfl,
 by intro x y; rfl,
 by intro x y; rfl,
 by intro x y; rfl,
 by intro x y; rfl,
 by intro x y; rfl,
 by intro x y; rfl,
 by intros; rfl,
 by intros; rfl,
 by intro ks a c; simp only [J0m, J8n]; cases J1v ks a c <;> rfl,
 by intro ks a c; simp only [J0m, J8n]; cases J1v ks a c <;> rfl,
 by intros; rfl,
 by intros; rfl,
 by intros; rfl,
 by intros; rfl,
 by intros; rfl,
 rfl,
 rfl,
 by intros; rfl,
 by intros; rfl,
 by intros; rfl,
 by intros; rfl,
 by intros; rfl,
 by intro g off n cs; simp only [J5o]; cases sub cs off n <;> rfl,
 by intro g off n c cs; simp only [J5o]; cases sub (c :: cs) off n <;> rfl,
 by intros; rfl,
 by intros; rfl,
 by intro cs; exact Jhb cs,
 by intro c cs; simp only [J1C, if_true]; cases unp (c :: cs) <;> rfl,
 by intros; rfl,
 by intros; rfl,
 by intros; rfl,
 by intros; rfl,
 rfl,
 by intro c r; simp only [unp]; cases unp r <;> rfl,
 by intros; rfl,
 by intros; rfl,
 by intros; rfl,
 by intros; rfl,
 by intros; rfl,
 by intros; rfl,
 by intros; rfl,
 by intros; rfl,
 by intro α β g l; simp,
 by intros; rfl,
 by intros; rfl,
 by intros; rfl,
 by intro env sto g n cs off; exact Jtn ..,
 by intro env sto g n b off; exact Jtq ..,
 by intro env sto g n b e i off; exact Juh ..,
 by intro g n off cs; exact Jwi ..,
 by intros; rfl,
 by intros; rfl,
 by intro env sto n b off v; exact JtR ..,
 by intro n b off cs vs; exact Jt9 ..,
 by intro b off cs v; exact Jw7 ..,
 by intro env sto n b e i off v; exact Juq ..,
 by intro n b e i off z c rows s; exact Jw2 ..,
 by intro n b e i off z cs rows s; exact Jwg ..,
 by intros; rfl,
 by intros; rfl,
 by intros; rfl,
 by intros; rfl,
 by intros; rfl,
 by intros; rfl,
 by intros; rfl,
 by intro n cs; exact Jvf ..,
 by intros; rfl,
 by intros; rfl,
 by intro env sto e rows k n; exact Js5 ..,
 by intro env sto e b m k n; exact JrL ..,
 by intro e b m n w rows; exact Jtk ..,
 by intros; rfl,
 by intros; rfl,
 by intros; rfl,
 by intro l k n; exact JuQ ..,
 by intros; rfl,
 by intro g n e cs k i; exact Jvz ..,
 by intros; rfl,
 by intros; rfl,
 @JrC,
 by intro env sto b n new; exact JsG ..,
 @Jw1,
 by intro env sto l new; exact Jsc ..,
 by intro env sto l new; exact Jr4 ..,
 by intros; rfl,
 by intro env sto off size x r; exact Jvu ..,
 by intros; rfl,
 by intro off size vs cs r; exact Jmy ..,
 by intro off v cs r; exact Jsj ..,
 by intros; rfl,
 by intro env sto x r; exact Jv8 ..,
 by intros; rfl,
 by intros; rfl,
 by intros; rfl,
 by intros; rfl,
 by intro env sto m; cases m <;> rfl,
 by intro env sto l; rw [Jku],
 by intro env sto x m r; exact JtJ ..,
 by intro env sto x m r; exact JuK ..,
 by intros; rfl,
 by intro env sto c r; exact Jdd _ _ rfl ..,
 by intro env sto c r; exact Jdd _ _ rfl ..,
 by intro env sto b o r; exact Jdd _ _ rfl ..,
 by intro env sto c o r; exact Jdd _ _ rfl ..,
 by intro env sto b x i o r; exact Jdd _ _ rfl ..,
 by intro env sto b n r; exact Jrn ..,
 by intro env sto cs r; exact JsE ..,
 @fr,
 by intros; rfl,
 by intro env sto c r; exact JsY ..,
 by intro env sto b n r; exact JrB ..,
 by intros; rfl,
 by intro env sto f a c r; exact Jdd _ _ rfl ..,
 by intro m ids sto f a c; exact Jtm ..,
 by intros; rfl,
 by intros; rfl,
 by intros; rfl,
 by intro env sto b c x ws; exact Jun ..,
 by intros; rfl,
 by intro b c x r; exact Jvm ..,
 by intros; rfl,
 by intros; rfl,
 by intros; rfl,
 by intros; rfl,
 by intro env sto b; exact Jvn ..,
 by intro env sto e rows; exact JsA ..,
 by intro env sto l; exact Jt5 ..,
 by intro env sto e b n; exact Jrt ..,
 by intro e n w rows; exact Jsg ..,
 by intro env sto o e n new z ps; exact Jvw ..,
 by intros; rfl,
 by intro env sto x r; exact Jvq ..,
 by intros; rfl,
 by intros; rfl,
 by intros; rfl,
 by intro env sto b n; exact Jr3 ..,
 by intros; rfl,
 by intros; rfl,
 @mk,
 by intros; rfl,
 by intros; rfl,
 by intro env sto s c lo hi; exact Jse ..,
 by intro env sto s b n lo hi; exact Jsk ..,
 by intros; rfl,
 by intros; rfl,
 @cl,
 by intros; rfl,
 by intro m k sto x r; exact Jv6 ..,
 by intros; rfl,
 by intro m ids sto x r; exact JuX ..,
 by intros; rfl,
 by intros; rfl,
 by intro m ids sto cs; exact JtK ..,
 by intro m ids sto l; exact JkY m ids sto l,
 by intros; rfl,
 by intro m ids sto x r; exact Jv4 ..,
 by intros; rfl,
 by intros; rfl,
 by intros; rfl,
 by intros; rfl,
 by intros; rfl,
 by intro m ids sto b n; exact JuL ..,
 by intros; rfl,
 by intros; rfl,
 by intro m ids sto cs; exact Jut ..,
 by intro m ids sto x cs; exact JtM ..,
 by intros; rfl,
 by intros; rfl,
 by intros; rfl,
 by intros; rfl,
 by intros; rfl,
 by intro env sto t r; exact JsV ..,
 by intro env sto t n g r; exact JsK ..,
 by intros; rfl,
 rfl,
 by intros; rfl,
 by intros; rfl,
 by intro m b sto r; exact Jve ..,
 by intro m b sto r; exact JuJ ..,
 by intros; rfl,
 by intros; rfl,
 by intros; rfl,
 by intros; rfl,
 by intros; rfl,
 by intro sto b r acc; exact JvJ ..,
 by intros; rfl,
 by intros; rfl,
 by intros; rfl,
 by intros; rfl,
 by intro cs l; exact Jrh cs l,
 by intros; rfl,
 by intros; rfl,
 by intros; rfl,
 by intros; rfl,
 by intros; rfl,
 by intros; rfl,
 by intros; rfl,
 by intros; rfl,
 by intro b c r; exact Jvc ..,
 rfl,
 by intros; rfl,
 by intros; rfl,
 by intro sto b r; exact Jvp ..,
 by intros; rfl,
 by intros; rfl,
 by intros; rfl,
 by intros; rfl,
 by intros; rfl,
 @Jvl,
 @JuY,
 @JuR,
 by intros; rfl,
 by intros; rfl,
 @Jv0,
 @Jvs,
 @JvF,
 @JvO,
 by intros; rfl,
 by intros; rfl,
 by intros; rfl,
 by intros; rfl,
 by intro n; exact Nat.zero_add n,
 by intros; rfl,
 @JvD,
 @JuU,
 @Jte,
 @Jv5,
 @s1,
 by intros; rfl,
 by intro α cs; rw [J6u]; simp,
 by intro α a cs n; exact JrX ..,
 by intro α a cs n m; exact JsS ..,
 by intro α cs; rw [J7m]; simp,
 by intro α a b cs vs; exact Js8 ..,
 by intro α a cs n vs; exact Jsr ..,
 by intros; rfl,
 by intro off size c a cs r; exact Jrp ..,
 by intros; rfl,
 by intros; rfl,
 by intros; rfl,
 by intros; rfl,
 by intro a; simp,
 by intro a; simp,
 by intro α a; simp,
 by intros; rfl,
 by intros; rfl⟩
set_option maxRecDepth 30000 in
theorem Nf : (∀ {α : Type} (l : List α), [] ++ l = l) ∧
 (∀ {α : Type} (l : List α), l ++ [] = l) ∧
 (∀ {α : Type} (a : α) (l r : List α), (a :: l) ++ r = a :: (l ++ r)) ∧
 (∀ {α β : Type} (g : α → β), List.map g [] = []) ∧
 (∀ {α β : Type} (g : α → β) (a : α) (l : List α), List.map g (a :: l) = g a :: List.map g l) ∧
 (∀ {α : Type}, ([] : List α).length = 0) ∧
 (∀ {α : Type} (a : α) (l : List α), (a :: l).length = l.length + 1) ∧
 (∀ k n, r_i k n = [.i k n]) ∧
 (∀ x, r_b x = [.b x]) ∧
 (∀ x, r_s x = [.s x]) ∧
 (∀ {α : Type} (e : Nat) (g : α → List PV) (l : List α), JjV e g l = [.sl e (l.map g)]) :=
 ⟨@Jvl,
 @JuY,
 @JuR,
 @Jv0,
 @Jvs,
 @JvF,
 @JvO,
 @JvD,
 @JuU,
 @Jte,
 @Jv5⟩
set_option maxRecDepth 30000 in
theorem Ra : (∀ F new env sto g n x, rdO F (.load g n x) new ⟨env, sto⟩ = rb (evv x env) fun a => Jc ((J1X g n a).reads ⟨env, sto⟩)) ∧
 (∀ s g n b o, Jc ((J1X g n (.ptr b o)).reads s) = [b]) ∧
 (∀ s g n o cs, Jc ((J1X g n (.cp cs o)).reads s) = []) ∧
 (∀ s g n b e i o, Jc ((J1X g n (.ep b e i o)).reads s) = [b]) ∧
 (∀ F new s z, rdO F (.newbox z) new s = [new]) ∧
 (∀ F new env sto n x y, rdO F (.store n x y) new ⟨env, sto⟩ = rb (evv x env) fun a => rb (evv y env) fun c => Jc ((J1x n a c).reads ⟨env, sto⟩)) ∧
 (∀ s n b o v, Jc ((J1x n (.ptr b o) v).reads s) = [b]) ∧
 (∀ s n b e i o c, Jc ((J1x n (.ep b e i o) (.p c)).reads s) = [b]) ∧
 (∀ s n b e i o c, Jc ((J1x n (.ep b e i o) (.data c)).reads s) = [b]) ∧
 (∀ F new env sto g args, rdO F (.call g args 0) new ⟨env, sto⟩ = rb ((evs args).run ⟨env, sto⟩) fun a => Jc ((Jz a).reads ⟨env, sto⟩) ++ rb ((Jz a).run ⟨env, sto⟩) fun a => Jc ((Jl F g a 0 new).reads ⟨env, sto⟩)) ∧
 (∀ F new env sto g args, rdO F (.call g args 1) new ⟨env, sto⟩ = new :: rb (is1 sto[new]?) fun _ => rb ((evs args).run ⟨env, sto⟩) fun a => Jc ((Jz a).reads ⟨env, sto⟩) ++ rb ((Jz a).run ⟨env, sto⟩) fun a => Jc ((Jl F g a 1 new).reads ⟨env, sto⟩)) ∧
 (is1 (some .dead) = some ()) ∧
 (∀ {α β : Type} (a : α) (f : α → List β), rb (some a) f = f a) ∧
 (∀ F new env sto g args, rdO F (.callv g args 0) new ⟨env, sto⟩ = rb (evv g env) fun u => cvl u fun h a1 c1 => rb ((evs args).run ⟨env, sto⟩) fun a => Jc ((Jz (a1 ++ a ++ c1)).reads ⟨env, sto⟩) ++ rb ((Jz (a1 ++ a ++ c1)).run ⟨env, sto⟩) fun a => Jc ((Jl F h a 0 new).reads ⟨env, sto⟩)) ∧
 (∀ {α : Type} (f : FuncId) (a c : List AV) (k : FuncId → List AV → List AV → List α), cvl (.fn f a c) k = k f a c) ∧
 (∀ s, Jc ((Jz []).reads s) = []) ∧
 (∀ s c r, Jc ((Jz (.p c :: r)).reads s) = Jc ((Jz r).reads s)) ∧
 (∀ s c r, Jc ((Jz (.data c :: r)).reads s) = Jc ((Jz r).reads s)) ∧
 (∀ s b o r, Jc ((Jz (.ptr b o :: r)).reads s) = Jc ((Jz r).reads s)) ∧
 (∀ s c o r, Jc ((Jz (.cp c o :: r)).reads s) = Jc ((Jz r).reads s)) ∧
 (∀ s b x i o r, Jc ((Jz (.ep b x i o :: r)).reads s) = Jc ((Jz r).reads s)) ∧
 (∀ s b n r, Jc ((Jz (.slr b 0 n :: r)).reads s) = b :: rb ((J7x (.slr b 0 n)).run s) fun _ => Jc ((Jz r).reads s)) ∧
 (∀ F new s e n z ps, rdO F (.lits false e n z ps) new s = Jc ((fzs (ps.map (·.2))).reads s)) ∧
 (∀ F new env sto e n z ps, rdO F (.lits true e n z ps) new ⟨env, sto⟩ = new :: rb (is1 sto[new]?) fun _ => Jc ((fzs (ps.map (·.2))).reads ⟨env, sto⟩)) ∧
 (∀ s, Jc ((fzs []).reads s) = []) ∧
 (∀ env sto x r, Jc ((fzs (x :: r)).reads ⟨env, sto⟩) = rb (evv x env) fun v => Jc ((fz v).reads ⟨env, sto⟩) ++ rb ((fz v).run ⟨env, sto⟩) fun _ => Jc ((fzs r).reads ⟨env, sto⟩)) ∧
 (∀ s c, Jc ((fz (.p c)).reads s) = []) ∧
 (∀ s c, Jc ((fz (.data c)).reads s) = []) ∧
 (∀ s b n, Jc ((fz (.slr b 0 n)).reads s) = [b]) ∧
 (∀ F new env sto x, rdO F (.conv .toStr x) new ⟨env, sto⟩ = rb (evv x env) fun a => Jc ((JS 1 a).reads ⟨env, sto⟩)) ∧
 (∀ s e b n, Jc ((JS e (.slr b 0 n)).reads s) = [b]) ∧
 (∀ s e z rows, Jc ((JS e (.p (.sl z rows))).reads s) = []) ∧
 (∀ F new env sto e x i, rdO F (.iaddr e x i) new ⟨env, sto⟩ = rb (evv x env) fun a => rb (evv i env) fun c => Jc ((J2R e a c).reads ⟨env, sto⟩)) ∧
 (∀ s e b n k i, Jc ((J2R e (.slr b 0 n) (.p (.i k i))).reads s) = [b]) ∧
 (∀ s e z rows k i, Jc ((J2R e (.p (.sl z rows)) (.p (.i k i))).reads s) = []) ∧
 (∀ F new env sto k x lo hi mx, rdO F (.slice k x lo hi mx) new ⟨env, sto⟩ = rb (evv x env) fun a => Jc ((slT k lo hi mx a).reads ⟨env, sto⟩)) ∧
 (∀ s k lo hi mx c, Jc ((slT k lo hi mx (.p c)).reads s) = []) ∧
 (∀ F new env sto e b z y, rdO F (.appn e b z y) new ⟨env, sto⟩ = new :: rb (is1 sto[new]?) fun _ => rb (evv y env) fun a => Jc ((JS e a).reads ⟨env, sto⟩)) ∧
 (∀ F new env sto e b z x y, rdO F (.app e b z x y) new ⟨env, sto⟩ = rb (evv x env) fun a => rb (evv y env) fun c => Jc ((J4s e b a c).reads ⟨env, sto⟩)) ∧
 (∀ s e y b n z rows, Jc ((J4s e y (.slr b 0 n) (.p (.sl z rows))).reads s) = [b]) ∧
 (∀ a b c d, pkk (some (a, b)) (some (c, d)) = (J5t b c && J5t b d && J5t a d)) ∧
 (∀ b, J5t [] b = true) ∧
 (∀ x a b, J5t (x :: a) b = (!(b.contains x) && J5t a b)) ∧
 (∀ x, ([] : List Nat).contains x = false) ∧
 (∀ (x y : Nat) (l : List Nat), (y :: l).contains x = (x == y || l.contains x)) ∧
 (∀ a, (true && a) = a) ∧
 (∀ a, (false && a) = false) ∧
 (∀ a, (true || a) = true) ∧
 (∀ a, (false || a) = a) :=
 ⟨by intro F new env sto g n x; exact Ju7 ..,
 by intro s g n b o; exact Jud ..,
 by intro s g n o cs; exact JvI ..,
 by intro s g n b e i o; exact JuZ ..,
 by intro F new s z; exact JqZ ..,
 by intro F new env sto n x y; exact JrU ..,
 by intro s n b o v; exact Juf ..,
 by intro s n b e i o c; exact JsH ..,
 by intro s n b e i o c; exact JrF ..,
 by intro F new env sto g args; exact Jt7 ..,
 by intro F new env sto g args; exact JrY ..,
 rfl,
 by intros; rfl,
 by intro F new env sto g args; exact Jrk ..,
 by intros; rfl,
 by intros; rfl,
 by intro s c r; exact Jc4 s rfl r,
 by intro s c r; exact Jc4 s rfl r,
 by intro s b o r; exact Jc4 s rfl r,
 by intro s c o r; exact Jc4 s rfl r,
 by intro s b x i o r; exact Jc4 s rfl r,
 by intro s b n r; exact Juv ..,
 by intro F new s e n z ps; exact Jrm ..,
 by intro F new env sto e n z ps; exact Jt2 ..,
 by intros; rfl,
 by intro env sto x r; exact Jvv ..,
 by intros; rfl,
 by intros; rfl,
 by intro s b n; exact Jfg ..,
 by intro F new env sto x; exact Jrs ..,
 by intro s e b n; exact Jr2 ..,
 by intro s e z rows; exact Jmc ..,
 by intro F new env sto e x i; exact JsC ..,
 by intro s e b n k i; exact JqG ..,
 by intro s e z rows k i; exact Jsm ..,
 by intro F new env sto k x lo hi mx; exact Jqv ..,
 by intro s k lo hi mx c; exact JtU ..,
 by intro F new env sto e b z y; exact JtW ..,
 by intro F new env sto e b z x y; exact JvS ..,
 by intro s e y b n z rows; exact JrQ ..,
 by intros; rfl,
 by intros; rfl,
 by intro x a b; simp [J5t],
 by intros; rfl,
 by intro x y l; rw [List.contains_cons],
 by intro a; simp,
 by intro a; simp,
 by intro a; simp,
 by intro a; simp⟩
end Go.Am
end
