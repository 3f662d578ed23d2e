/-
  Parts of a proof.
-/
import Derived.Test.YtiallbcnaadmoaaM5
set_option linter.unusedSimpArgs false
set_option linter.unusedVariables false
section
namespace Go.Am
@[congr] theorem Jy5 {T : J5R} {f : AFn} {m : Nat} {k : List Fr} {o o' : Option Out} (h : o = o') : rk T f m k o = rk T f m k o' := by rw [h]
def tdn (e : AX) (o : Option St) : Option Out := match o with
 | some s => some (e, s)
 | none => none
def JqL (fresh : Bool) (m : Nat) (vs : List AV) (sto : List Blk) (ids : List Nat) : Option Res :=
 if J45 ids = true then (fin.finL m ids sto vs).bind fun ws => (J3R m ids sto (sto.take m)).bind fun l => (J7D sto ids).bind fun q => (J3R m ids sto q).bind fun q => some (one ws, l ++ q) else none
def JiQ (res : List JcY) (fresh : Bool) (m : Nat) (s : St) : Option Res :=
 ((J6w res).run s).bind fun vs => if s.sto.length = m then some (one vs, s.sto) else JqL fresh m vs s.sto (J1f m fresh s.sto (J8d s.sto (J09.entsOfL vs []) (J09.entsOfL vs [])))
theorem JhV (res : List JcY) (fresh : Bool) (m : Nat) (s : St) : J56 ⟨0, 0, .skip, res, fresh⟩ m s = JiQ res fresh m s := by
 unfold J56 JiQ
 dsimp only
 cases (J6w res).run s with
 | none => rfl
 | some vs =>
  simp only [Option.bind_some]
  split
  ·rfl
  ·unfold JqL
   split
   ·generalize J1f m fresh s.sto _ = ids
    cases fin.finL m ids s.sto vs <;> cases J3R m ids s.sto (s.sto.take m) <;> cases J7D s.sto ids <;> try rfl
    rename_i q
    simp only [Option.bind_some]
    cases J3R m ids s.sto q <;> rfl
   ·rfl
theorem Jvn (T : J5R) (f : AFn) (m : Nat) (s : St) : rk T f m [] (some (.normal, s)) = JiQ f.res f.fresh m s := (Jub T f m s).trans (JhV ..)
theorem Ju3 (T : J5R) (f : AFn) (m : Nat) (s : St) : rk T f m [] (some (.ret, s)) = JiQ f.res f.fresh m s := (JsJ T f m s).trans (JhV ..)
def dds {α : Type} (n new : Nat) (sto : List Blk) (o : Option α) : Option α := match (J7c new n).run ⟨[], sto⟩ with
 | some _ => o
 | none => none
def dd1 {α : Type} (b : Option Blk) (o : Option α) : Option α := match b with
 | some .dead => o
 | _ => none
@[congr] theorem JxK {α : Type} {b b' : Option Blk} {o : Option α} (h : b = b') : dd1 b o = dd1 b' o := by rw [h]
theorem Jy8 {α : Type} (new : Nat) (sto : List Blk) (o : Option α) : dds 1 new sto o = dd1 sto[new]? o := by
 unfold dds dd1
 simp only [J7c, RM.run]
 cases sto[new]? with
 | none => rfl
 | some b => cases b <;> rfl
section
variable {F : Orc} {r : List J11} {new d : Nat} {env : List (Nat × AV)} {sto : List Blk}
theorem Jnp (n : Nat) : ∀ new, (J7c new n).run ⟨env, sto⟩ = (J7c new n).run ⟨[], sto⟩ := by
 induction n with
 | zero => intro new; rfl
 | succ n ih =>
  intro new
  simp only [J7c, RM.run]
  cases sto[new]? with
  | none => rfl
  | some b => cases b <;> first | exact ih _ | rfl
def lgA (l : Option Log) (a b : List Nat) : Option Log := l.map (· ++ [(a, b)])
def rdO (F : Orc) (op : AOp) (new : Nat) (s : St) : List Nat := Jf ((opD F op new).reads s)
abbrev GR := Option (St × Option Log)
def Jq (F : Orc) : List J11 → Nat → St → Option Log → GR
 | [], _, s, l => some (s, l)
 | i :: r, new, s, l => match (J1T F i new).run s with
  | some e => Jq F r (new + JI i.op) (put i.dst e s) (lgA l (Jf ((J1T F i new).reads s)) (e.ws.map (·.1)))
  | none => none
theorem Js9 (F : Orc) (ins : List J11) : ∀ new s, Jq F ins new s none = (J2S F ins new s).map fun s => (s, none) := by
 induction ins with
 | nil => intro new s; rfl
 | cons i r ih =>
  intro new s
  simp only [Jq, J2S]
  cases (J1T F i new).run s with
  | none => rfl
  | some e => exact ih _ _
theorem JtS (F : Orc) (ins : List J11) : ∀ new s l, Jq F ins new s (some l) = (J5z F ins new s l).map fun x => (x.1, some x.2) := by
 induction ins with
 | nil => intro new s l; rfl
 | cons i r ih =>
  intro new s l
  simp only [Jq, J5z]
  cases (J1T F i new).run s with
  | none => rfl
  | some e => exact ih _ _ _
def Ju9 (o : GR) : Option Out := match o with
 | some (s, _) => some (.normal, s)
 | none => none
def Jr6 (ps : List (Nat × Nat)) (o : GR) : Option Out := match o with
 | some (s, some l) => if J9E l ps = true then some (.normal, s) else none
 | _ => none
theorem Jvf (T : J5R) (f : AFn) (m : Nat) (k : List Fr) (d ins env sto) : rk T f m k (X T (.reg d [] ins) ⟨env, sto⟩) = rk T f m k (Ju9 (Jq (AF T) ins sto.length ⟨env, room (news ins) sto⟩ none)) := by
 rw [Jwj, Js9]
 cases J2S (AF T) ins sto.length ⟨env, room (news ins) sto⟩ <;> rfl
theorem Jv4 (T : J5R) (f : AFn) (m : Nat) (k : List Fr) (d p ps ins env sto) : rk T f m k (X T (.reg d (p :: ps) ins) ⟨env, sto⟩) = rk T f m k (Jr6 (p :: ps) (Jq (AF T) ins sto.length ⟨env, room (news ins) sto⟩ (some []))) := by
 rw [Juv, JtS]
 simp only [region]
 cases J5z (AF T) ins sto.length ⟨env, room (news ins) sto⟩ [] with
 | none => rfl
 | some x =>
  obtain ⟨s, l⟩ := x
  simp only [Option.map_some, Jr6]
  split <;> rfl
theorem stD {lg : Option Log} (op : AOp) : Jq F (⟨op, some d, none⟩ :: r) new ⟨env, sto⟩ lg = dds (JI op) new sto (((opR F op new).run ⟨env, sto⟩).bind fun e => Jq F r (new + JI op) ⟨(d, e.val) :: env, upd e.ws sto⟩ (lgA lg (rdO F op new ⟨env, sto⟩) (e.ws.map (·.1)))) := by
 have e0 : (J1T F ⟨op, some d, none⟩ new).run ⟨env, sto⟩ = dds (JI op) new sto ((opR F op new).run ⟨env, sto⟩) := by
  simp only [J1T, opD, run_bind, Jnp (env := env)]
  unfold dds
  cases (J7c new (JI op)).run ⟨[], sto⟩ <;> rfl
 simp only [Jq, e0]
 unfold dds
 cases (J7c new (JI op)).run ⟨[], sto⟩ with
 | none => rfl
 | some u => simp only []; cases (opR F op new).run ⟨env, sto⟩ <;> rfl
theorem JnP {lg : Option Log} (op : AOp) : Jq F (⟨op, none, none⟩ :: r) new ⟨env, sto⟩ lg = dds (JI op) new sto (((opR F op new).run ⟨env, sto⟩).bind fun e => Jq F r (new + JI op) ⟨env, upd e.ws sto⟩ (lgA lg (rdO F op new ⟨env, sto⟩) (e.ws.map (·.1)))) := by
 have e0 : (J1T F ⟨op, none, none⟩ new).run ⟨env, sto⟩ = dds (JI op) new sto ((opR F op new).run ⟨env, sto⟩) := by
  simp only [J1T, opD, run_bind, Jnp (env := env)]
  unfold dds
  cases (J7c new (JI op)).run ⟨[], sto⟩ <;> rfl
 simp only [Jq, e0]
 unfold dds
 cases (J7c new (JI op)).run ⟨[], sto⟩ with
 | none => rfl
 | some u => simp only []; cases (opR F op new).run ⟨env, sto⟩ <;> rfl
theorem st0 {lg : Option Log} {op : AOp} (h : JI op = 0) : Jq F (⟨op, some d, none⟩ :: r) new ⟨env, sto⟩ lg = ((opR F op new).run ⟨env, sto⟩).bind fun e => Jq F r new ⟨(d, e.val) :: env, upd e.ws sto⟩ (lgA lg (rdO F op new ⟨env, sto⟩) (e.ws.map (·.1))) := by
 rw [stD, h]; rfl
theorem JxV {lg : Option Log} {op : AOp} (h : JI op = 0) : Jq F (⟨op, none, none⟩ :: r) new ⟨env, sto⟩ lg = ((opR F op new).run ⟨env, sto⟩).bind fun e => Jq F r new ⟨env, upd e.ws sto⟩ (lgA lg (rdO F op new ⟨env, sto⟩) (e.ws.map (·.1))) := by
 rw [JnP, h]; rfl
def pk (u : AV) (a b : Option AV) : Option AV := match u with
 | .p (.b x) => if x = true then a else b
 | _ => none
@[congr] theorem JxO {α : Type} {n n' new new' : Nat} {sto : List Blk} {o : Option α} (h : n = n') (h' : new = new') : dds n new sto o = dds n' new' sto o := by rw [h, h']
theorem J1O {α : Type} (n new : Nat) (sto : List Blk) : dds n new sto (none : Option α) = none := by
 unfold dds; split <;> rfl
theorem Jtf {α β : Type} (n new : Nat) (sto : List Blk) (o : Option α) (g : α → Option β) : dds n new sto (o.bind g) = o.bind fun a => dds n new sto (g a) := by
 cases o with
 | none => exact J1O ..
 | some a => rfl
theorem Jx7 {β : Type} {K : Eff → Option β} {o : Option AV} : ((o.bind fun v => some ⟨v, []⟩).bind K) = o.bind fun v => K ⟨v, []⟩ := by cases o <;> rfl
def pkk (a b : Option (List Nat × List Nat)) : Bool := match a, b with
 | some a, some b => J6c a.2 b.1 && J6c a.2 b.2 && J6c a.1 b.2
 | _, _ => false
theorem bi {α β : Type} {o : Option α} {f : α → Option β} {r : β} (h : Option.bind o f = some r) : ∃ x, o = some x ∧ f x = some r := Option.bind_eq_some_iff.1 h
theorem sj {α : Type} {a b : α} (h : some a = some b) : a = b := Option.some.inj h
theorem mi {α β : Type} {o : Option α} {f : α → β} {r : β} (h : Option.map f o = some r) : ∃ x, o = some x ∧ f x = r := Option.map_eq_some_iff.1 h
inductive Dum {α : Type} : α → Type where
 | mk (a : α) : Dum a
def hold {α : Type} (a : α) (_ : Dum a) : α := a
def pkh {β : Type} (u : AV) (a b : Option AV) (K : AV → Option β) : Option β := (pk u a b).bind K
theorem Jsz {β : Type} {K : Eff → Option β} {a b : Opd} {o : Option AV} : ((o.bind fun u => RM.run (match u with
  | .p (.b x) => if x = true then (ev a).bind fun v => .ret ⟨v, []⟩ else (ev b).bind fun v => .ret ⟨v, []⟩
  | _ => .fail) ⟨env, sto⟩).bind K) = o.bind fun u => (pk u (evv a env) (evv b env)).bind fun v => K ⟨v, []⟩ := by
 cases o with
 | none => rfl
 | some u =>
  simp only [Option.bind_some]
  cases u with
  | p c =>
   cases c with
   | b x =>
    cases x with
    | true => simp only [if_true, run_bind, J0E, pk]; cases evv a env <;> rfl
    | false => simp only [Bool.false_eq_true, if_false, run_bind, J0E, pk]; cases evv b env <;> rfl
   | _ => rfl
  | _ => rfl
theorem Jem {β : Type} {K : Eff → Option β} {o : Option AV} (g : AV → Option AV) : ((o.bind fun a => (Go.Am.val (g a)).run ⟨env, sto⟩).bind K) = o.bind fun a => (g a).bind fun v => K ⟨v, []⟩ := by
 cases o with
 | none => rfl
 | some a => simp only [Option.bind_some]; cases g a <;> rfl
theorem Jld {β : Type} {K : Eff → Option β} {o o' : Option AV} (g : AV → AV → Option AV) : ((o.bind fun a => o'.bind fun c => (Go.Am.val (g a c)).run ⟨env, sto⟩).bind K) = o.bind fun a => o'.bind fun c => (g a c).bind fun v => K ⟨v, []⟩ := by
 cases o with
 | none => rfl
 | some a =>
  cases o' with
  | none => rfl
  | some c => simp only [Option.bind_some]; cases g a c <;> rfl
theorem JnF {β : Type} {o : Option AV} (g : AV → Option Eff) {k : Eff → Option β} : ((o.bind fun a => g a).bind k) = o.bind fun a => (g a).bind k := by
 cases o <;> rfl
theorem Jrt {β : Type} {o o' : Option AV} {e b : Nat} {z : List PV} {s : St} {k : Eff → Option β} : ((o.bind fun a => o'.bind fun c => RM.run (match zrs e z c with
  | some c1 => J5e e b a c1
  | none => .fail) s).bind k) = o.bind fun a => o'.bind fun c => (zrs e z c).bind fun c1 => ((J5e e b a c1).run s).bind k := by
 cases o with
 | none => rfl
 | some a => cases o' with
  | none => rfl
  | some c =>
   simp only [Option.bind_some]
   cases zrs e z c <;> rfl
theorem JiM {β : Type} {o o' : Option AV} (g : AV → AV → Option Eff) {k : Eff → Option β} : ((o.bind fun a => o'.bind fun c => g a c).bind k) = o.bind fun a => o'.bind fun c => (g a c).bind k := by
 cases o <;> cases o' <;> rfl
def Jli (a c : AV) : Option AV := match a, c with
 | .p (.s l), .p (.i _ n) => if 0 ≤ n then
   match l[n.toNat]? with
   | some u => some (.p (.i .u8 u.toNat))
   | none => none
  else none
 | _, _ => none
theorem JvB {β : Type} {K : Eff → Option β} {o o' : Option AV} : ((o.bind fun a => o'.bind fun c => RM.run (match a, c with
  | .p (.s l), .p (.i _ n) => if 0 ≤ n then
    match l[n.toNat]? with
    | some u => .ret ⟨.p (.i .u8 u.toNat), []⟩
    | none => .fail
   else .fail
  | _, _ => .fail) ⟨env, sto⟩).bind K) = o.bind fun a => o'.bind fun c => (Jli a c).bind fun v => K ⟨v, []⟩ := by
 cases o with
 | none => rfl
 | some a =>
  cases o' with
  | none => rfl
  | some c =>
   simp only [Option.bind_some, Jli]
   split
   ·split
    ·split <;> rfl
    ·rfl
   ·rfl
theorem JwC (l : List UInt8) (k : IntKind) (n : Int) : Jli (.p (.s l)) (.p (.i k n)) = (JcH l n).map fun v => .p (.i .u8 v) := by
 simp only [Jli, JcH]
 by_cases h : 0 ≤ n
 ·simp only [if_pos h]; cases l[n.toNat]? <;> rfl
 ·simp only [if_neg h]; rfl
def Jj6 (g : Bool) (n e : Nat) (a c : AV) : Option AV := match c with
 | .p (.i _ i) => if 0 ≤ i ∧ i < n then J61 g (i.toNat * e) e a else none
 | _ => none
theorem JuO {β : Type} {K : Eff → Option β} {g : Bool} {n e : Nat} {o o' : Option AV} : ((o.bind fun a => o'.bind fun c => RM.run (match c with
  | .p (.i _ i) => if 0 ≤ i ∧ i < n then Go.Am.val (J61 g (i.toNat * e) e a) else .fail
  | _ => .fail) ⟨env, sto⟩).bind K) = o.bind fun a => o'.bind fun c => (Jj6 g n e a c).bind fun v => K ⟨v, []⟩ := by
 cases o with
 | none => rfl
 | some a =>
  cases o' with
  | none => rfl
  | some c =>
   simp only [Option.bind_some, Jj6]
   split
   ·split
    ·cases J61 g _ e a <;> rfl
    ·rfl
   ·rfl
theorem Jwi (g : Bool) (n e : Nat) (cs : List PV) (k : IntKind) (i : Int) : Jj6 g n e (.data cs) (.p (.i k i)) = if 0 ≤ i ∧ i < n then (sub cs (i.toNat * e) e).bind (J25 g) else none := by
 simp only [Jj6, J61]
 split
 ·cases sub cs (i.toNat * e) e <;> rfl
 ·rfl
def Jof : AV → Option AV
 | .ptr b o => some (.ptr b o)
 | .cp cs o => some (.cp cs o)
 | .ep b e i o => some (.ep b e i o)
 | .fn f u c => some (.fn f u c)
 | _ => none
theorem JvG {β : Type} {K : Eff → Option β} {o : Option AV} : ((o.bind fun a => RM.run (match a with
  | .ptr b o => .ret ⟨.ptr b o, []⟩
  | .cp cs o => .ret ⟨.cp cs o, []⟩
  | .ep b e i o => .ret ⟨.ep b e i o, []⟩
  | .fn f u c => .ret ⟨.fn f u c, []⟩
  | _ => .fail) ⟨env, sto⟩).bind K) = o.bind fun a => (Jof a).bind fun v => K ⟨v, []⟩ := by
 cases o with
 | none => rfl
 | some a => cases a <;> rfl
def cvR (k : CK) (a : AV) (new : Nat) : RM Eff := match k, a with
 | .int k, .p (.i _ n) => .ret ⟨.p (.i k (k.wrap n)), []⟩
 | .same, .p (.s l) => .ret ⟨.p (.s l), []⟩
 | .toStr, a => (J0a 1 a).bind fun rows => match J6l rows with
  | some l => .ret ⟨.p (.s l), []⟩
  | none => .fail
 | .toBytes own, .p (.s l) => if own then .ret ⟨.slr new 0 l.length, [(new, .arr true 1 (l.map J4I))]⟩ else .ret ⟨.p (.sl 1 (l.map J4I)), []⟩
 | _, _ => .fail
theorem Jtw {lg : Option Log} {c : CK} {x : Opd} : Jq F (⟨.conv c x, some d, none⟩ :: r) new ⟨env, sto⟩ lg = (evv x env).bind fun a => dds (JI (.conv c x)) new sto (((cvR c a new).run ⟨env, sto⟩).bind fun e => Jq F r (new + JI (.conv c x)) ⟨(d, e.val) :: env, upd e.ws sto⟩ (lgA lg (rdO F (.conv c x) new ⟨env, sto⟩) (e.ws.map (·.1)))) := by
 rw [stD]
 have : (opR F (.conv c x) new).run ⟨env, sto⟩ = (evv x env).bind fun a => (cvR c a new).run ⟨env, sto⟩ := by
  simp only [opR, run_bind, J0E]; rfl
 rw [this, JnF (fun a => (cvR c a new).run ⟨env, sto⟩), Jtf]
theorem Jsd {lg : Option Log} {z : List PV} {ps : List (Nat × Nat × Opd)} : Jq F (⟨.build z ps, some d, none⟩ :: r) new ⟨env, sto⟩ lg = ((J2M ps).run ⟨env, sto⟩).bind fun l => (J1b l (z.map .p)).bind fun cs => (J1R true cs).bind fun v => Jq F r new ⟨(d, v) :: env, sto⟩ (lgA lg (rdO F (.build z ps) new ⟨env, sto⟩) []) := by
 rw [st0 (h := rfl)]
 simp only [opR, run_bind]
 cases (J2M ps).run ⟨env, sto⟩ with
 | none => rfl
 | some l =>
  simp only [Option.bind_some]
  cases J1b l (z.map .p) with
  | none => rfl
  | some cs => simp only [Option.bind_some]; cases J1R true cs <;> rfl
def J9P (x : Option Opd) (env : List (Nat × AV)) : Option (Option AV) := match x with
 | none => some none
 | some x => (evv x env).map some
theorem Jw4 (x : Option Opd) : (evo x).run ⟨env, sto⟩ = J9P x env := by
 cases x with
 | none => rfl
 | some x => simp only [evo, run_bind, J0E, J9P]; cases evv x env <;> rfl
def slR (s : SK) (a : AV) (lo hi mx : Option AV) : RM Eff := match a with
 | .slr b i n => (fz (.slr b i n)).bind fun y => match y.1 with
  | [c] => match J54 s (.p c) lo hi mx with
   | some v => .ret ⟨v, y.2⟩
   | none => .fail
  | _ => .fail
 | a => Go.Am.val (J54 s a lo hi mx)
theorem Js8 {lg : Option Log} {s : SK} {x : Opd} {lo hi mx : Option Opd} : Jq F (⟨.slice s x lo hi mx, some d, none⟩ :: r) new ⟨env, sto⟩ lg = (evv x env).bind fun a => (J9P lo env).bind fun lo1 => (J9P hi env).bind fun hi1 => (J9P mx env).bind fun mx1 => ((slR s a lo1 hi1 mx1).run ⟨env, sto⟩).bind fun e => Jq F r new ⟨(d, e.val) :: env, upd e.ws sto⟩ (lgA lg (rdO F (.slice s x lo hi mx) new ⟨env, sto⟩) (e.ws.map (·.1))) := by
 rw [st0 (h := rfl)]
 have : (opR F (.slice s x lo hi mx) new).run ⟨env, sto⟩ = (evv x env).bind fun a => (J9P lo env).bind fun lo => (J9P hi env).bind fun hi => (J9P mx env).bind fun mx => (slR s a lo hi mx).run ⟨env, sto⟩ := by
  simp only [opR, run_bind, J0E, Jw4]; rfl
 rw [this]
 cases evv x env with
 | none => rfl
 | some a =>
  cases J9P lo env with
  | none => rfl
  | some lo =>
   cases J9P hi env with
   | none => rfl
   | some hi => cases J9P mx env <;> rfl
def slX (s : SK) (x : AV) (lo hi : Option AV) : Option AV := J54 s x lo hi none
theorem JqI {lg : Option Log} {z : List PV} : Jq F (⟨.newbox z, some d, none⟩ :: r) new ⟨env, sto⟩ lg = dds 1 new sto (Jq F r (new + 1) ⟨(d, .ptr new 0) :: env, sto.set new (.box (z.map .p))⟩ (lgA lg (rdO F (.newbox z) new ⟨env, sto⟩) [new])) := by
 rw [stD]; rfl
def Jo1 (e b : Nat) (a : AV) (add : List (List PV)) : Option (List (List PV)) := match a with
 | .p (.slc e' rows) => if e = e' ∧ 0 < add.length ∧ J5r (rows.length + add.length) b = true then some (rows ++ add) else none
 | _ => none
theorem JsR {lg : Option Log} {e b : Nat} {z : List PV} {x y : Opd} : Jq F (⟨.appc e b z x y, some d, none⟩ :: r) new ⟨env, sto⟩ lg = (evv x env).bind fun a => (evv y env).bind fun c => ((J0a e c).run ⟨env, sto⟩).bind fun add => (Jo1 e b a add).bind fun rows => dds 1 new sto (Jq F r (new + 1) ⟨(d, .slr new 0 rows.length) :: env, sto.set new (.arr true e rows)⟩ (lgA lg (rdO F (.appc e b z x y) new ⟨env, sto⟩) [new])) := by
 rw [stD]
 simp only [opR, run_bind, J0E, JI]
 cases evv x env with
 | none => exact J1O ..
 | some a =>
  simp only [Option.bind_some]
  cases evv y env with
  | none => exact J1O ..
  | some c =>
   simp only [Option.bind_some]
   cases hq : (J0a e c).run ⟨env, sto⟩ with
   | none =>
    have : (Jj9 e b a c new).run ⟨env, sto⟩ = none := by
     unfold Jj9; split
     ·simp only [run_bind, hq]; rfl
     ·rfl
    rw [this]; exact J1O ..
   | some add =>
    simp only [Option.bind_some]
    have : (Jj9 e b a c new).run ⟨env, sto⟩ = (Jo1 e b a add).map fun rows => ⟨.slr new 0 rows.length, [(new, .arr true e rows)]⟩ := by
     cases a with
     | p q => cases q with
      | slc e' rows =>
       simp only [Jj9, Jo1, run_bind, hq, Option.bind_some]
       split
       ·simp [J1u]
       ·rfl
      | _ => rfl
     | _ => rfl
    rw [this]
    cases Jo1 e b a add with
    | none => exact J1O ..
    | some rows => rfl
theorem JsL {lg : Option Log} {e b : Nat} {z : List PV} {y : Opd} : Jq F (⟨.appn e b z y, some d, none⟩ :: r) new ⟨env, sto⟩ lg = (evv y env).bind fun c => ((J0a e c).run ⟨env, sto⟩).bind fun rows => if J5r rows.length b = true then dds 1 new sto (Jq F r (new + 1) ⟨(d, .slr new 0 rows.length) :: env, sto.set new (.arr true e rows)⟩ (lgA lg (rdO F (.appn e b z y) new ⟨env, sto⟩) [new])) else none := by
 rw [stD]
 simp only [opR, run_bind, J0E, JI]
 cases evv y env with
 | none => exact J1O ..
 | some c =>
  simp only [Option.bind_some]
  cases (J0a e c).run ⟨env, sto⟩ with
  | none => exact J1O ..
  | some rows =>
   simp only [Option.bind_some]
   split
   ·rfl
   ·exact J1O ..
theorem Jsy {lg : Option Log} {e : Nat} {x : Opd} : Jq F (⟨.mkarr e x, some d, none⟩ :: r) new ⟨env, sto⟩ lg = dds 1 new sto (Jq F r (new + 1) ⟨(d, .slr new 0 0) :: env, sto.set new (.arr true e [])⟩ (lgA lg (rdO F (.mkarr e x) new ⟨env, sto⟩) [new])) := by
 rw [stD]; rfl
def bxP (n : Nat) (a : AV) : Option (List AV) := match cellsOf a with
 | some cs => if cs.length = n then some cs else none
 | none => none
theorem Jv6 {lg : Option Log} {n : Nat} {x : Opd} : Jq F (⟨.box n x, some d, none⟩ :: r) new ⟨env, sto⟩ lg = (evv x env).bind fun a => (bxP n a).bind fun cs => dds 1 new sto (Jq F r (new + 1) ⟨(d, .ptr new 0) :: env, sto.set new (.box cs)⟩ (lgA lg (rdO F (.box n x) new ⟨env, sto⟩) [new])) := by
 rw [stD]
 simp only [opR, run_bind, J0E, JI]
 cases evv x env with
 | none => exact J1O ..
 | some a =>
  simp only [Option.bind_some, bxP]
  cases cellsOf a with
  | none => exact J1O ..
  | some cs =>
   dsimp only
   split
   ·rfl
   ·exact J1O ..
def ltR (o : Bool) (e n : Nat) (z : List PV) (ps : List (Nat × Opd)) (new : Nat) : RM Eff := (fzs (ps.map (·.2))).bind fun a =>
  match J4r e ((ps.map (·.1)).zip a.1) (List.replicate n z) with
  | some rows => if o then .ret ⟨.slr new 0 n, a.2 ++ [(new, .arr true e rows)]⟩ else .ret ⟨.p (.sl e rows), a.2⟩
  | none => .fail
theorem Jta {lg : Option Log} {o : Bool} {e n : Nat} {z : List PV} {ps : List (Nat × Opd)} : Jq F (⟨.lits o e n z ps, some d, none⟩ :: r) new ⟨env, sto⟩ lg = dds (if o then 1 else 0) new sto (((ltR o e n z ps new).run ⟨env, sto⟩).bind fun x => Jq F r (new + if o then 1 else 0) ⟨(d, x.val) :: env, upd x.ws sto⟩ (lgA lg (rdO F (.lits o e n z ps) new ⟨env, sto⟩) (x.ws.map (·.1)))) := by
 rw [stD]; rfl
theorem JwN (env : List (Nat × AV)) (sto : List Blk) (o : Bool) (e n new : Nat) (z : List PV) (ps : List (Nat × Opd)) : (ltR o e n z ps new).run ⟨env, sto⟩ = ((fzs (ps.map (·.2))).run ⟨env, sto⟩).bind fun a => (J4r e ((ps.map (·.1)).zip a.1) (List.replicate n z)).map fun rows => if o then ⟨.slr new 0 n, a.2 ++ [(new, .arr true e rows)]⟩ else ⟨.p (.sl e rows), a.2⟩ := by
 simp only [ltR, run_bind]
 cases (fzs (ps.map (·.2))).run ⟨env, sto⟩ with
 | none => rfl
 | some a =>
  simp only [Option.bind_some]
  cases J4r e ((ps.map (·.1)).zip a.1) (List.replicate n z) with
  | none => rfl
  | some rows => cases o <;> rfl
def mkP (o : Bool) (e b : Nat) (z : List PV) (a c : AV) (new : Nat) : Option Eff := match a, c with
 | .p (.i _ n), .p (.i _ m) =>
  if 0 ≤ n ∧ n ≤ m ∧ b * m ≤ 281474976710656 ∧ m ≤ 281474976710656 then
   some (if o then ⟨.slr new 0 n.toNat, [(new, .arr true e (List.replicate n.toNat z))]⟩ else ⟨.p (.sl e (List.replicate n.toNat z)), []⟩)
  else none
 | _, _ => none
theorem Jwd (o : Bool) (e b : Nat) (z : List PV) (a c : AV) (new : Nat) (s : St) : RM.run (match a, c with
  | .p (.i _ n), .p (.i _ m) =>
   if 0 ≤ n ∧ n ≤ m ∧ b * m ≤ 281474976710656 ∧ m ≤ 281474976710656 then
    if o then .ret ⟨.slr new 0 n.toNat, [(new, .arr true e (List.replicate n.toNat z))]⟩
    else .ret ⟨.p (.sl e (List.replicate n.toNat z)), []⟩
   else .fail
  | _, _ => .fail) s = mkP o e b z a c new := by
 unfold mkP
 split
 ·rename_i k n k2 m
  by_cases h : 0 ≤ n ∧ n ≤ m ∧ b * m ≤ 281474976710656 ∧ m ≤ 281474976710656
  ·simp only [if_pos h]; cases o <;> rfl
  ·simp only [if_neg h]; rfl
 ·rfl
theorem Jpj {lg : Option Log} {o : Bool} {e b : Nat} {z : List PV} {l c : Opd} : Jq F (⟨.mkslice o e b z l c, some d, none⟩ :: r) new ⟨env, sto⟩ lg = (evv l env).bind fun a => (evv c env).bind fun x => dds (if o then 1 else 0) new sto ((mkP o e b z a x new).bind fun x => Jq F r (new + if o then 1 else 0) ⟨(d, x.val) :: env, upd x.ws sto⟩ (lgA lg (rdO F (.mkslice o e b z l c) new ⟨env, sto⟩) (x.ws.map (·.1)))) := by
 rw [stD]
 simp only [opR, run_bind, J0E, JI]
 cases evv l env with
 | none => exact J1O ..
 | some a =>
  cases evv c env with
  | none => exact J1O ..
  | some x =>
   simp only [Option.bind_some]
   exact congrArg (fun y => dds (if o then 1 else 0) new sto (y.bind fun x => Jq F r (new + if o then 1 else 0) ⟨(d, x.val) :: env, upd x.ws sto⟩ (lgA lg (rdO F (.mkslice o e b z l c) new ⟨env, sto⟩) (x.ws.map (·.1))))) (Jwd o e b z a x new ⟨env, sto⟩)
theorem JpD {F : Orc} {f : FuncId} {args args' : List AV} {b c e e2 : Nat} {rows rows' rows2 rows2' : List (List PV)} {w w' w2 w2' : Bool} {v v' : AV} (he : J09.entsOfL args [] = [.whole b, .whole c]) (hn : J45 [b, c] = true) (hr : ren.renL (fun x => J3Y x [Ent.whole b, .whole c] 0) args = some args')
  (hF : F f args' [.arr w e rows, .arr w2 e2 rows2] = some (v, [.arr w' e rows', .arr w2' e2 rows2'])) (hb : ∀ new, bk [.whole b, .whole c] new v = some v') (ws : List (Nat × Blk)) (new : Nat) (s : St) (hB : (J7x ws b).run s = some (.arr w e rows)) (hC : (J7x ws c).run s = some (.arr w2 e2 rows2)) :
  (J3N F f (args, ws) 0 new).run s = some ⟨v', ws ++ [(b, .arr w' e rows'), (c, .arr w2' e2 rows2')]⟩ := by
 have x2 : ∀ acc, (J7X ws [.whole b, .whole c] acc).run s = some acc := fun acc => by
  simp only [J7X, run_bind, hB, hC, Option.bind_some, J1u]
 have e3 : (J57 ws (fun x => J3Y x [Ent.whole b, .whole c] 0) [Ent.whole b, .whole c]).run s = some [.arr w e rows, .arr w2 e2 rows2] := by
  simp only [J57, run_bind, Jds, hB, hC, Option.bind_some, J1u]
 have n1 : J45 ([Ent.whole b, .whole c].map Ent.id) = true := hn
 simp only [J3N, run_bind, he, x2, Option.bind_some, n1, if_true, hr, e3, hF]
 simp [hb, J4d, J38, J9V, J1u, run_bind]
def Joc (b : Nat) (B : Option Blk) (l : List Nat) : List Nat := match B with
 | some (.box _) => b :: l
 | some (.arr _ _ _) => b :: l
 | _ => l
theorem Jvb (m b : Nat) (sto : List Blk) (r : List Ent) : J1f m true sto (.whole b :: r) = if b < m then J1f m true sto r else Joc b sto[b]? (J1f m true sto r) := by
 simp only [J1f, Joc]
 split
 ·rfl
 ·split <;> simp_all
theorem JxW {α : Type} (n new : Nat) (sto : List Blk) (o : Option α) : dds (n + 1) new sto o = dd1 sto[new]? (dds n (new + 1) sto o) := by
 unfold dds dd1
 simp only [J7c, RM.run]
 cases sto[new]? with
 | none => rfl
 | some b => cases b <;> rfl
theorem Jpm {lg : Option Log} {z : List PV} {os : List (Nat × Nat)} : Jq F (⟨.newboxo z os, some d, none⟩ :: r) new ⟨env, sto⟩ lg =
  dds (os.length + 1) new sto (Jq F r (new + (os.length + 1)) ⟨(d, .ptr (new + os.length) 0) :: env, upd (J3t os new ++ [(new + os.length, .box (J7R os new (z.map .p)))]) sto⟩
   (lgA lg (rdO F (.newboxo z os) new ⟨env, sto⟩) ((J3t os new ++ [(new + os.length, Blk.box (J7R os new (z.map .p)))]).map (·.1)))) := by
 rw [stD]; rfl
theorem JqS {lg : Option Log} {e : Nat} {x : Opd} : Jq F (⟨.storen e x, none, none⟩ :: r) new ⟨env, sto⟩ lg =
  (evv x env).bind fun a => dds 1 new sto (((J1L 1 a (.slr new 0 0)).run ⟨env, sto⟩).bind fun q => Jq F r (new + 1) ⟨env, upd ((new, .arr true e []) :: q.ws) sto⟩ (lgA lg (rdO F (.storen e x) new ⟨env, sto⟩) (new :: q.ws.map (·.1)))) := by
 rw [JnP]
 simp only [opR, run_bind, J0E, JI]
 cases evv x env with
 | none => exact J1O ..
 | some a => simp only [Option.bind_some]; cases (J1L 1 a (.slr new 0 0)).run ⟨env, sto⟩ <;> rfl
theorem Jri {lg : Option Log} {z : List PV} {ps : List (Nat × Nat × Opd)} {os : List (Nat × Nat)} : Jq F (⟨.buildo z ps os, some d, none⟩ :: r) new ⟨env, sto⟩ lg =
  ((J2M ps).run ⟨env, sto⟩).bind fun l => (J1b l (J7R os new (z.map .p))).bind fun cs => (J1R true cs).bind fun v =>
   dds os.length new sto (Jq F r (new + os.length) ⟨(d, v) :: env, upd (J3t os new) sto⟩ (lgA lg (rdO F (.buildo z ps os) new ⟨env, sto⟩) ((J3t os new).map (·.1)))) := by
 rw [stD]
 simp only [opR, run_bind, JI]
 cases (J2M ps).run ⟨env, sto⟩ with
 | none => exact J1O ..
 | some l =>
  simp only [Option.bind_some]
  cases J1b l (J7R os new (z.map .p)) with
  | none => exact J1O ..
  | some cs =>
   simp only [Option.bind_some]
   cases J1R true cs with
   | none => exact J1O ..
   | some v => rfl
theorem Jsu {lg : Option Log} {g : FuncId} {kp : List Bool} {args : List Opd} {n : Nat} : Jq F (⟨.callo g kp args n, some d, none⟩ :: r) new ⟨env, sto⟩ lg = dds n new sto (((evs args).run ⟨env, sto⟩).bind fun a => ((J2v kp a).run ⟨env, sto⟩).bind fun a => ((J3N F g a n new).run ⟨env, sto⟩).bind fun e => Jq F r (new + n) ⟨(d, e.val) :: env, upd e.ws sto⟩ (lgA lg (rdO F (.callo g kp args n) new ⟨env, sto⟩) (e.ws.map (·.1)))) := by
 rw [stD]
 simp only [opR, run_bind, JI]
 cases (evs args).run ⟨env, sto⟩ with
 | none => rfl
 | some a => simp only [Option.bind_some]; cases (J2v kp a).run ⟨env, sto⟩ <;> rfl
theorem JqW {lg : Option Log} {g : FuncId} {kp : List Bool} {args : List Opd} {n : Nat} : Jq F (⟨.callo g kp args n, none, none⟩ :: r) new ⟨env, sto⟩ lg = dds n new sto (((evs args).run ⟨env, sto⟩).bind fun a => ((J2v kp a).run ⟨env, sto⟩).bind fun a => ((J3N F g a n new).run ⟨env, sto⟩).bind fun e => Jq F r (new + n) ⟨env, upd e.ws sto⟩ (lgA lg (rdO F (.callo g kp args n) new ⟨env, sto⟩) (e.ws.map (·.1)))) := by
 rw [JnP]
 simp only [opR, run_bind, JI]
 cases (evs args).run ⟨env, sto⟩ with
 | none => rfl
 | some a => simp only [Option.bind_some]; cases (J2v kp a).run ⟨env, sto⟩ <;> rfl
theorem JlH : ∀ l : List AV, J2v [] l = JE l
 | [] => rfl
 | x :: r => by simp only [J2v, JE, JlH r]
theorem JvL (x : AV) (m : List Bool) (r : List AV) : (J2v (false :: m) (x :: r)).run ⟨env, sto⟩ = ((JE [x]).run ⟨env, sto⟩).bind fun a => ((J2v m r).run ⟨env, sto⟩).bind fun c => some (a.1 ++ c.1, a.2 ++ c.2) := by
 simp only [J2v, JE, run_bind]
 cases (J8i x).run ⟨env, sto⟩ with
 | none => rfl
 | some a => simp only [Option.bind_some, RM.run]; cases (J2v m r).run ⟨env, sto⟩ <;> simp
theorem Jvm (x : AV) (m : List Bool) (r : List AV) : (J2v (true :: m) (x :: r)).run ⟨env, sto⟩ = ((J2v m r).run ⟨env, sto⟩).bind fun c => some (x :: c.1, c.2) := by
 simp only [J2v, run_bind]
 cases (J2v m r).run ⟨env, sto⟩ <;> rfl
theorem JtV {lg : Option Log} {g : FuncId} {args : List Opd} {n : Nat} : Jq F (⟨.call g args n, some d, none⟩ :: r) new ⟨env, sto⟩ lg = dds n new sto (((evs args).run ⟨env, sto⟩).bind fun a => ((JE a).run ⟨env, sto⟩).bind fun a => ((Jj F g a n new).run ⟨env, sto⟩).bind fun e => Jq F r (new + n) ⟨(d, e.val) :: env, upd e.ws sto⟩ (lgA lg (rdO F (.call g args n) new ⟨env, sto⟩) (e.ws.map (·.1)))) := by
 rw [stD]
 simp only [opR, run_bind, JI, Jcw]
 cases (evs args).run ⟨env, sto⟩ with
 | none => rfl
 | some a => simp only [Option.bind_some]; cases (JE a).run ⟨env, sto⟩ <;> rfl
theorem JrW {lg : Option Log} {g : FuncId} {args : List Opd} {n : Nat} : Jq F (⟨.call g args n, none, none⟩ :: r) new ⟨env, sto⟩ lg = dds n new sto (((evs args).run ⟨env, sto⟩).bind fun a => ((JE a).run ⟨env, sto⟩).bind fun a => ((Jj F g a n new).run ⟨env, sto⟩).bind fun e => Jq F r (new + n) ⟨env, upd e.ws sto⟩ (lgA lg (rdO F (.call g args n) new ⟨env, sto⟩) (e.ws.map (·.1)))) := by
 rw [JnP]
 simp only [opR, run_bind, JI, Jcw]
 cases (evs args).run ⟨env, sto⟩ with
 | none => rfl
 | some a => simp only [Option.bind_some]; cases (JE a).run ⟨env, sto⟩ <;> rfl
def cvg {α : Type} (u : AV) (k : FuncId → List AV → List AV → Option α) : Option α := match u with
 | .fn f a c => k f a c
 | _ => none
theorem Jul {lg : Option Log} {g : FuncId} {a c : List Opd} : Jq F (⟨.mkfn g a c, some d, none⟩ :: r) new ⟨env, sto⟩ lg = ((evs a).run ⟨env, sto⟩).bind fun a1 => ((evs c).run ⟨env, sto⟩).bind fun c1 => Jq F r new ⟨(d, .fn g a1 c1) :: env, sto⟩ (lgA lg (rdO F (.mkfn g a c) new ⟨env, sto⟩) []) := by
 rw [st0 (h := rfl)]
 simp only [opR, run_bind]
 cases (evs a).run ⟨env, sto⟩ with
 | none => rfl
 | some a1 => simp only [Option.bind_some]; cases (evs c).run ⟨env, sto⟩ <;> rfl
theorem Js6 {lg : Option Log} {g : Opd} {args : List Opd} {n : Nat} : Jq F (⟨.callv g args n, some d, none⟩ :: r) new ⟨env, sto⟩ lg = (evv g env).bind fun u => cvg u fun h a1 c1 => dds n new sto (((evs args).run ⟨env, sto⟩).bind fun a => ((JE (a1 ++ a ++ c1)).run ⟨env, sto⟩).bind fun a => ((Jj F h a n new).run ⟨env, sto⟩).bind fun q => Jq F r (new + n) ⟨(d, q.val) :: env, upd q.ws sto⟩ (lgA lg (rdO F (.callv g args n) new ⟨env, sto⟩) (q.ws.map (·.1)))) := by
 rw [stD]
 simp only [opR, run_bind, J0E, JI]
 cases evv g env with
 | none => exact J1O ..
 | some u =>
  simp only [Option.bind_some]
  cases u with
  | fn h a1 c1 =>
   simp only [cvg, run_bind, Jcw]
   cases (evs args).run ⟨env, sto⟩ with
   | none => rfl
   | some a => simp only [Option.bind_some]; cases (JE (a1 ++ a ++ c1)).run ⟨env, sto⟩ <;> rfl
  | _ => exact J1O ..
theorem JqO {lg : Option Log} {g : Opd} {args : List Opd} {n : Nat} : Jq F (⟨.callv g args n, none, none⟩ :: r) new ⟨env, sto⟩ lg = (evv g env).bind fun u => cvg u fun h a1 c1 => dds n new sto (((evs args).run ⟨env, sto⟩).bind fun a => ((JE (a1 ++ a ++ c1)).run ⟨env, sto⟩).bind fun a => ((Jj F h a n new).run ⟨env, sto⟩).bind fun q => Jq F r (new + n) ⟨env, upd q.ws sto⟩ (lgA lg (rdO F (.callv g args n) new ⟨env, sto⟩) (q.ws.map (·.1)))) := by
 rw [JnP]
 simp only [opR, run_bind, J0E, JI]
 cases evv g env with
 | none => exact J1O ..
 | some u =>
  simp only [Option.bind_some]
  cases u with
  | fn h a1 c1 =>
   simp only [cvg, run_bind, Jcw]
   cases (evs args).run ⟨env, sto⟩ with
   | none => rfl
   | some a => simp only [Option.bind_some]; cases (JE (a1 ++ a ++ c1)).run ⟨env, sto⟩ <;> rfl
  | _ => exact J1O ..
def grd {α : Type} (x : Option AV) (w : Bool) (a b : Option α) : Option α := match x with
 | some (.p (.b x)) => if x = w then a else b
 | some (.tup []) => b
 | _ => none
end
@[congr] theorem JxL {α : Type} {x x' : Option AV} {w : Bool} {a b : Option α} (h : x = x') : grd x w a b = grd x' w a b := by rw [h]
theorem JvH (F : Orc) (r : List J11) (new : Nat) (env : List (Nat × AV)) (sto : List Blk) (lg : Option Log) (op : AOp) (d : Option Nat) (g : Nat) (w : Bool) :
  Jq F (⟨op, d, some (g, w)⟩ :: r) new ⟨env, sto⟩ lg = grd (lk g env) w (Jq F (⟨op, d, none⟩ :: r) new ⟨env, sto⟩ lg) (Jq F r (new + JI op) (put d ⟨J13, []⟩ ⟨env, sto⟩) (lgA lg [] [])) := by
 simp only [Jq, J1T, RM.run, RM.reads]
 cases lk g env with
 | none => rfl
 | some v =>
  dsimp only
  cases v with
  | p c =>
   cases c with
   | b x =>
    simp only [grd]
    by_cases h : x = w
    ·subst h; simp only [if_true]; rfl
    ·simp only [if_neg h]; rfl
   | _ => rfl
  | tup l => cases l <;> rfl
  | _ => rfl
def Jr5 (k : Nat) (v : Option AV) (l : List (Nat × AV)) : List (Nat × AV) := match v with
 | some v => (k, v) :: l
 | none => l
def Jnw (cs : List AV) (l : Option (List PV)) : AV := match l with
 | some l => .data l
 | none => .agg cs
def ldB (g : Bool) (n off : Nat) (B : Blk) : Option Eff := match B with
 | .box cs => (sub cs off n).bind fun l => (J1R g l).map fun v => ⟨v, []⟩
 | _ => none
def ldE (g : Bool) (n e i off : Nat) (B : Blk) : Option Eff := match B with
 | .arr _ _ rows => if e = rows.length then rows[i]?.bind fun row => (sub row off n).bind fun l => (J25 g l).map fun v => ⟨v, []⟩ else none
 | _ => none
theorem Jvq (env : List (Nat × AV)) (sto : List Blk) (g : Bool) (n : Nat) (cs : List PV) (off : Nat) : (J2c g n (.cp cs off)).run ⟨env, sto⟩ = (sub cs off n).bind fun l => (J25 g l).map fun v => ⟨v, []⟩ := by
 simp only [J2c]
 cases sub cs off n with
 | none => rfl
 | some l => simp only [Option.bind_some]; cases J25 g l <;> rfl
theorem JuP (env : List (Nat × AV)) (sto : List Blk) (g : Bool) (n b off : Nat) : (J2c g n (.ptr b off)).run ⟨env, sto⟩ = sto[b]?.bind fun B => ldB g n off B := by
 simp only [J2c, J71]
 cases sto[b]? with
 | none => rfl
 | some B =>
  cases B with
  | box cs =>
   simp only [Option.bind_some, ldB]
   cases sub cs off n with
   | none => rfl
   | some l => simp only [Option.bind_some]; cases J1R g l <;> rfl
  | _ => rfl
theorem Jxr (g : Bool) (n off : Nat) (cs : List PV) : ldB g n off (.box (cs.map AV.p)) = (sub cs off n).bind fun l => (J25 g l).map fun v => ⟨v, []⟩ := by
 simp only [ldB, JtG]
 cases sub cs off n with
 | none => rfl
 | some l =>
  simp only [Option.map_some, Option.bind_some]
  cases g with
  | true => rw [JhT]; rfl
  | false => match l with
   | [] => rfl
   | [_] => rfl
   | _ :: _ :: _ => rfl
theorem Jv9 (env : List (Nat × AV)) (sto : List Blk) (g : Bool) (n b e i off : Nat) : (J2c g n (.ep b e i off)).run ⟨env, sto⟩ = sto[b]?.bind fun B => ldE g n e i off B := by
 simp only [J2c, J71]
 cases sto[b]? with
 | none => rfl
 | some B =>
  cases B with
  | arr w z rows =>
   simp only [Option.bind_some, ldE]
   split
   ·cases rows[i]? with
    | none => rfl
    | some row =>
     simp only [Option.bind_some]
     cases sub row off n with
     | none => rfl
     | some l => simp only [Option.bind_some]; cases J25 g l <;> rfl
   ·rfl
  | _ => rfl
def stB (n b off : Nat) (l : List AV) (B : Blk) : Option Eff := match B with
 | .box cs => if l.length = n then (spl cs off l).map fun cs => ⟨J13, [(b, .box cs)]⟩ else none
 | _ => none
theorem JuG (env : List (Nat × AV)) (sto : List Blk) (n b off : Nat) (v : AV) : (J1L n (.ptr b off) v).run ⟨env, sto⟩ = sto[b]?.bind fun B => (cellsOf v).bind fun l => stB n b off l B := by
 simp only [J1L, J71]
 cases sto[b]? with
 | none => rfl
 | some B =>
  simp only [Option.bind_some]
  cases B with
  | box cs =>
   dsimp only
   cases cellsOf v with
   | none => rfl
   | some l =>
    simp only [Option.bind_some, stB]
    split
    ·cases spl cs off l <;> rfl
    ·rfl
  | dead => cases cellsOf v <;> rfl
  | arr w z rows => cases cellsOf v <;> rfl
theorem Jus (n b off : Nat) (cs vs : List PV) : stB n b off (vs.map AV.p) (.box (cs.map AV.p)) = if vs.length = n then (spl cs off vs).map fun cs => ⟨J13, [(b, .box (cs.map AV.p))]⟩ else none := by
 simp only [stB, List.length_map, JnV]
 split
 ·cases spl cs off vs <;> rfl
 ·rfl
theorem Jxo (b off : Nat) (cs : List PV) (v : PV) : stB 1 b off [AV.p v] (.box (cs.map AV.p)) = (spl cs off [v]).map fun cs => ⟨J13, [(b, .box (cs.map AV.p))]⟩ := by
 have := Jus 1 b off cs [v]
 simpa using this
def stE (n b e i off : Nat) (v : AV) (B : Blk) (s : St) : Option Eff := match B with
 | .arr true z rows => if e = rows.length then
   match rows[i]? with
   | some row => ((fz v).run s).bind fun a =>
    if a.1.length = n ∧ (a.2.all fun y => y.1 != b) = true then
     match spl row off a.1 with
     | some row' => some ⟨J13, a.2 ++ [(b, .arr true z (rows.set i row'))]⟩
     | none => none
    else none
   | none => none
  else none
 | _ => none
theorem JvN (env : List (Nat × AV)) (sto : List Blk) (n b e i off : Nat) (v : AV) : (J1L n (.ep b e i off) v).run ⟨env, sto⟩ = sto[b]?.bind fun B => stE n b e i off v B ⟨env, sto⟩ := by
 simp only [J1L, J71]
 cases sto[b]? with
 | none => rfl
 | some B =>
  simp only [Option.bind_some]
  cases B with
  | arr w z rows =>
   cases w with
   | false => rfl
   | true =>
    simp only [stE]
    split
    ·cases rows[i]? with
     | none => rfl
     | some row =>
      simp only [run_bind]
      cases (fz v).run ⟨env, sto⟩ with
      | none => rfl
      | some a =>
       simp only [Option.bind_some]
       split
       ·cases spl row off a.1 <;> rfl
       ·rfl
    ·rfl
  | _ => rfl
theorem JxJ (n b e i off z : Nat) (c : PV) (rows : List (List PV)) (s : St) : stE n b e i off (.p c) (.arr true z rows) s = if e = rows.length then rows[i]?.bind fun row => if 1 = n then (spl row off [c]).map fun row => ⟨J13, [(b, .arr true z (rows.set i row))]⟩ else none else none := by
 simp only [stE, fz, J1u, Option.bind_some]
 split
 ·cases rows[i]? with
  | none => rfl
  | some row =>
   simp only [Option.bind_some, List.length_cons, List.length_nil, List.all_nil, and_true]
   simp only [Nat.zero_add]
   split
   ·cases spl row off [c] <;> rfl
   ·rfl
 ·rfl
theorem Jxs (n b e i off z : Nat) (cs : List PV) (rows : List (List PV)) (s : St) : stE n b e i off (.data cs) (.arr true z rows) s = if e = rows.length then rows[i]?.bind fun row => if cs.length = n then (spl row off cs).map fun row => ⟨J13, [(b, .arr true z (rows.set i row))]⟩ else none else none := by
 simp only [stE, fz, J1u, Option.bind_some]
 split
 ·cases rows[i]? with
  | none => rfl
  | some row =>
   simp only [Option.bind_some, List.all_nil, and_true]
   split
   ·cases spl row off cs <;> rfl
   ·rfl
 ·rfl
theorem Jx5 (n : Nat) (cs : List PV) : bxP n (.data cs) = if cs.length = n then some (cs.map AV.p) else none := by simp [bxP, cellsOf]
theorem Jtv (env : List (Nat × AV)) (sto : List Blk) (e : Nat) (rows : List (List PV)) (k : IntKind) (n : Int) : (J3h e (.p (.sl e rows)) (.p (.i k n))).run ⟨env, sto⟩ = (Jcp rows n).map fun row => ⟨.cp row 0, []⟩ := by
 simp only [J3h, if_true]
 cases Jcp rows n <;> rfl
def iaB (e b m : Nat) (n : Int) (B : Blk) : Option Eff := match B with
 | .arr _ esz' rows => if e = esz' ∧ 0 + m = rows.length ∧ 0 ≤ n ∧ n < m then some ⟨.ep b rows.length (0 + n.toNat) 0, []⟩ else none
 | _ => none
theorem JtJ (env : List (Nat × AV)) (sto : List Blk) (e b m : Nat) (k : IntKind) (n : Int) : (J3h e (.slr b 0 m) (.p (.i k n))).run ⟨env, sto⟩ = sto[b]?.bind fun B => iaB e b m n B := by
 simp only [J3h, J71]
 cases sto[b]? with
 | none => rfl
 | some B =>
  cases B with
  | arr w z rows => simp only [Option.bind_some, iaB]; split <;> rfl
  | _ => rfl
theorem Jva (e b m : Nat) (n : Int) (w : Bool) (rows : List (List PV)) : iaB e b m n (.arr w e rows) = if m = rows.length ∧ 0 ≤ n ∧ n < m then some ⟨.ep b rows.length n.toNat 0, []⟩ else none := by
 simp [iaB]
theorem Jug (env : List (Nat × AV)) (sto : List Blk) (l : List Int) (new : Nat) : (cvR .toStr (.p (.sl 1 (l.map (r_i .u8)))) new).run ⟨env, sto⟩ = some ⟨.p (.s (toStr l)), []⟩ := by
 simp only [cvR, J0a, if_true, run_bind, J1u, Option.bind_some, JeI]
def cvB (n : Nat) (B : Blk) : Option Eff := match B with
 | .arr _ z rows => if 1 = z ∧ 0 + n = rows.length then
   match J6l (rows.drop 0) with
   | some l => some ⟨.p (.s l), []⟩
   | none => none
  else none
 | _ => none
theorem Jto (env : List (Nat × AV)) (sto : List Blk) (b n new : Nat) : (cvR .toStr (.slr b 0 n) new).run ⟨env, sto⟩ = sto[b]?.bind fun B => cvB n B := by
 simp only [cvR, J0a, run_bind, J71]
 cases sto[b]? with
 | none => rfl
 | some B =>
  cases B with
  | arr w z rows =>
   simp only [Option.bind_some, cvB]
   split
   ·simp only [J1u, Option.bind_some]; cases J6l (rows.drop 0) <;> rfl
   ·rfl
  | _ => rfl
theorem Jw0 (n : Nat) (w : Bool) (l : List Int) : cvB n (.arr w 1 (l.map (r_i .u8))) = if n = l.length then some ⟨.p (.s (toStr l)), []⟩ else none := by
 simp only [cvB, List.drop_zero, JeI, List.length_map, Nat.zero_add, true_and]
theorem JsE (env : List (Nat × AV)) (sto : List Blk) (l : List UInt8) (new : Nat) : (cvR (.toBytes false) (.p (.s l)) new).run ⟨env, sto⟩ = some ⟨.p (.sl 1 ((Jab l).map (r_i .u8))), []⟩ := by
 simp [cvR, JiK]
theorem Jsc (env : List (Nat × AV)) (sto : List Blk) (l : List UInt8) (new : Nat) : (cvR (.toBytes true) (.p (.s l)) new).run ⟨env, sto⟩ = some ⟨.slr new 0 (Jab l).length, [(new, .arr true 1 ((Jab l).map (r_i .u8)))]⟩ := by
 have : (Jab l).length = l.length := by simp [Jab]
 simp [cvR, JiK, this]
theorem JwG (env : List (Nat × AV)) (sto : List Blk) (off size : Nat) (x : Opd) (r : List (Nat × Nat × Opd)) : (J2M ((off, size, x) :: r)).run ⟨env, sto⟩ = (evv x env).bind fun v => (cellsOf v).bind fun cs => ((J2M r).run ⟨env, sto⟩).bind fun l => some ((off, size, cs) :: l) := by
 simp only [J2M, run_bind, J0E]
 cases evv x env with
 | none => rfl
 | some v =>
  simp only [Option.bind_some]
  cases cellsOf v with
  | none => rfl
  | some cs => simp only [Option.bind_some, run_bind]; cases (J2M r).run ⟨env, sto⟩ <;> rfl
theorem JoJ (off size : Nat) (vs cs : List PV) (r : List (Nat × Nat × List AV)) : J1b ((off, size, vs.map AV.p) :: r) (cs.map AV.p) = if vs.length = size then (spl cs off vs).bind fun cs => J1b r (cs.map AV.p) else none := by
 simp only [J1b, List.length_map, JnV]
 split
 ·cases spl cs off vs <;> rfl
 ·rfl
theorem JtQ (off : Nat) (v : PV) (cs : List PV) (r : List (Nat × Nat × List AV)) : J1b ((off, 1, [AV.p v]) :: r) (cs.map AV.p) = (spl cs off [v]).bind fun cs => J1b r (cs.map AV.p) := by
 have := JoJ off 1 [v] cs r
 simpa using this
theorem JwH (env : List (Nat × AV)) (sto : List Blk) (x : Opd) (r : List Opd) : (evs (x :: r)).run ⟨env, sto⟩ = (evv x env).bind fun v => ((evs r).run ⟨env, sto⟩).bind fun vs => some (v :: vs) := by
 simp only [evs, run_bind, J0E]; rfl
theorem Jee (env : List (Nat × AV)) (sto : List Blk) {v : AV} (h : J8i v = .ret (v, [])) (r : List AV) : (JE (v :: r)).run ⟨env, sto⟩ = ((JE r).run ⟨env, sto⟩).bind fun a => some (v :: a.1, a.2) := by
 simp only [JE, h, run_bind, J1u, Option.bind_some, List.nil_append]
def frz (b n : Nat) (B : Blk) : Option (AV × (Nat × Blk)) := match B with
 | .arr _ z rows => if n = rows.length then some (.p (.sl z rows), (b, .arr false z rows)) else none
 | _ => none
def frp (b n : Nat) (B : Blk) : Option (PV × (Nat × Blk)) := match B with
 | .arr _ z rows => if n = rows.length then some (.sl z rows, (b, .arr false z rows)) else none
 | _ => none
theorem JoN (env : List (Nat × AV)) (sto : List Blk) (b n : Nat) : (fz (.slr b 0 n)).run ⟨env, sto⟩ = sto[b]?.bind fun B => (frp b n B).bind fun x => some ([x.1], [x.2]) := by
 simp only [fz, J71]
 cases sto[b]? with
 | none => rfl
 | some B =>
  cases B with
  | arr w z rows =>
   simp only [Option.bind_some, frp, Nat.zero_add, List.drop_zero]
   split <;> rfl
  | _ => rfl
theorem JuY (env : List (Nat × AV)) (sto : List Blk) (b n : Nat) : (fz.fz1 (.slr b 0 n)).run ⟨env, sto⟩ = sto[b]?.bind fun B => (frp b n B).bind fun x => some ([x.1], [x.2]) := by
 simp only [fz.fz1, J71]
 cases sto[b]? with
 | none => rfl
 | some B =>
  cases B with
  | arr w z rows =>
   simp only [Option.bind_some, frp, Nat.zero_add, List.drop_zero]
   split <;> rfl
  | _ => rfl
theorem Jt4 (env : List (Nat × AV)) (sto : List Blk) (b n : Nat) (r : List AV) : (JE (.slr b 0 n :: r)).run ⟨env, sto⟩ = sto[b]?.bind fun B => (frz b n B).bind fun x => ((JE r).run ⟨env, sto⟩).bind fun a => some (x.1 :: a.1, x.2 :: a.2) := by
 simp only [JE, J8i, run_bind, JoN]
 cases sto[b]? with
 | none => rfl
 | some B =>
  cases B with
  | arr w z rows =>
   simp only [Option.bind_some, frp, frz]
   split
   ·simp only [Option.bind_some, J1u]; cases (JE r).run ⟨env, sto⟩ <;> rfl
   ·rfl
  | _ => rfl
theorem JsS (env : List (Nat × AV)) (sto : List Blk) (cs r : List AV) : (JE (.agg cs :: r)).run ⟨env, sto⟩ = ((fz.fzL cs).run ⟨env, sto⟩).bind fun x => ((JE r).run ⟨env, sto⟩).bind fun a => some (.data x.1 :: a.1, x.2 ++ a.2) := by
 simp only [JE, J8i, run_bind, fz]
 cases (fz.fzL cs).run ⟨env, sto⟩ with
 | none => rfl
 | some x => simp only [Option.bind_some, J1u]
theorem JsQ (env : List (Nat × AV)) (sto : List Blk) (c : PV) (r : List AV) : (fz.fzL (.p c :: r)).run ⟨env, sto⟩ = ((fz.fzL r).run ⟨env, sto⟩).bind fun a => some (c :: a.1, a.2) := by
 simp only [fz.fzL, fz.fz1, run_bind, J1u, Option.bind_some]; rfl
theorem Jt1 (env : List (Nat × AV)) (sto : List Blk) (b n : Nat) (r : List AV) : (fz.fzL (.slr b 0 n :: r)).run ⟨env, sto⟩ = sto[b]?.bind fun B => (frp b n B).bind fun x => ((fz.fzL r).run ⟨env, sto⟩).bind fun a => some (x.1 :: a.1, x.2 :: a.2) := by
 simp only [fz.fzL, run_bind, JuY]
 cases sto[b]? with
 | none => rfl
 | some B =>
  simp only [Option.bind_some]
  cases frp b n B with
  | none => rfl
  | some x => simp only [Option.bind_some]; cases (fz.fzL r).run ⟨env, sto⟩ <;> rfl
theorem JwO (env : List (Nat × AV)) (sto : List Blk) (b : Nat) : (J7x [] b).run ⟨env, sto⟩ = sto[b]? := by
 simp only [J7x, J71]
 cases sto[b]? <;> rfl
theorem Jum (env : List (Nat × AV)) (sto : List Blk) (e : Nat) (rows : List (List PV)) : (J0a e (.p (.sl e rows))).run ⟨env, sto⟩ = some rows := by simp [J0a]
theorem JtW (env : List (Nat × AV)) (sto : List Blk) (l : List UInt8) : (J0a 1 (.p (.s l))).run ⟨env, sto⟩ = some ((Jab l).map (r_i .u8)) := by simp [J0a, JiK]
def roB (e n : Nat) (B : Blk) : Option (List (List PV)) := match B with
 | .arr _ z rows => if e = z ∧ 0 + n = rows.length then some (rows.drop 0) else none
 | _ => none
theorem JtU (env : List (Nat × AV)) (sto : List Blk) (e b n : Nat) : (J0a e (.slr b 0 n)).run ⟨env, sto⟩ = sto[b]?.bind fun B => roB e n B := by
 simp only [J0a, J71]
 cases sto[b]? with
 | none => rfl
 | some B =>
  cases B with
  | arr w z rows => simp only [Option.bind_some, roB]; split <;> rfl
  | _ => rfl
theorem JsI (e n : Nat) (w : Bool) (rows : List (List PV)) : roB e n (.arr w e rows) = if n = rows.length then some rows else none := by simp [roB]
theorem JwU (env : List (Nat × AV)) (sto : List Blk) (x : Opd) (r : List Opd) : (fzs (x :: r)).run ⟨env, sto⟩ = (evv x env).bind fun v => ((fz v).run ⟨env, sto⟩).bind fun a => ((fzs r).run ⟨env, sto⟩).bind fun c => some (a.1 :: c.1, a.2 ++ c.2) := by
 simp only [fzs, run_bind, J0E]; rfl
theorem JrE (env : List (Nat × AV)) (sto : List Blk) (b n : Nat) : (fz (.slr b 0 n)).run ⟨env, sto⟩ = sto[b]?.bind fun B => (frp b n B).bind fun x => some ([x.1], [x.2]) := JoN ..
theorem Jtg (env : List (Nat × AV)) (sto : List Blk) (s : SK) (c : PV) (lo hi : Option AV) : (slR s (.p c) lo hi none).run ⟨env, sto⟩ = (slX s (.p c) lo hi).map fun v => ⟨v, []⟩ := by
 simp only [slR, slX]
 cases J54 s (.p c) lo hi none <;> rfl
theorem Jt2 (env : List (Nat × AV)) (sto : List Blk) (s : SK) (b n : Nat) (lo hi : Option AV) : (slR s (.slr b 0 n) lo hi none).run ⟨env, sto⟩ = sto[b]?.bind fun B => (frz b n B).bind fun x => (slX s x.1 lo hi).map fun v => ⟨v, [x.2]⟩ := by
 simp only [slR, run_bind, JoN]
 cases sto[b]? with
 | none => rfl
 | some B =>
  cases B with
  | arr w z rows =>
   simp only [Option.bind_some, frp, frz]
   split
   ·simp only [Option.bind_some, slX]; cases J54 s (.p (.sl z rows)) lo hi none <;> rfl
   ·rfl
  | _ => rfl
theorem JwS (n : Nat) (live : List Nat) (env : List (Nat × AV)) (sto : List Blk) : J66 n live ⟨env, sto⟩ = if sto.length = n then some ⟨restr live env, sto⟩ else (J9d n sto (restr live env)).bind fun e => (J3R n [] sto (sto.take n)).bind fun l => some ⟨e, l⟩ := by
 simp only [J66]
 split
 ·rfl
 ·cases J9d n sto (restr live env) with
  | none => rfl
  | some e => cases J3R n [] sto (sto.take n) <;> rfl
theorem Jxf (m k : Nat) (sto : List Blk) (x : AV) (r : List (Nat × AV)) : J9d m sto ((k, x) :: r) = (fin m [] sto x).bind fun y => (J9d m sto r).bind fun l => some ((k, y) :: l) := by
 simp only [J9d]
 cases fin m [] sto x with
 | none => rfl
 | some y => cases J9d m sto r <;> rfl
theorem JwL (m : Nat) (ids : List Nat) (sto : List Blk) (x : Blk) (r : List Blk) : J3R m ids sto (x :: r) = (J52 m ids sto x).bind fun y => (J3R m ids sto r).bind fun l => some (y :: l) := by
 simp only [J3R]
 cases J52 m ids sto x with
 | none => rfl
 | some y => cases J3R m ids sto r <;> rfl
theorem Jvv (m : Nat) (ids : List Nat) (sto : List Blk) (cs : List AV) : J52 m ids sto (.box cs) = (fin.finL m ids sto cs).map .box := by
 simp only [J52]
 cases fin.finL m ids sto cs <;> rfl
theorem Jws (m : Nat) (ids : List Nat) (sto : List Blk) (x : AV) (r : List AV) : fin.finL m ids sto (x :: r) = (fin m ids sto x).bind fun y => (fin.finL m ids sto r).bind fun l => some (y :: l) := by
 simp only [fin.finL]
 cases fin m ids sto x with
 | none => rfl
 | some y => cases fin.finL m ids sto r <;> rfl
def fsl (k : Option Nat) (n : Nat) (B : Option Blk) : Option AV := match k with
 | some k => some (.slr k 0 n)
 | none => match B with
  | some (.arr _ z rows) => if n = rows.length then some (.p (.sl z rows)) else none
  | _ => none
theorem Jv5 (m : Nat) (ids : List Nat) (sto : List Blk) (b n : Nat) : fin m ids sto (.slr b 0 n) = if b < m then some (.slr b 0 n) else fsl (J8Y b ids m) n sto[b]? := by
 simp only [fin]
 split
 ·rfl
 ·cases J8Y b ids m with
  | some k => rfl
  | none =>
   simp only [fsl]
   cases sto[b]? with
   | none => rfl
   | some B => cases B <;> simp
theorem Jv8 (m : Nat) (ids : List Nat) (sto : List Blk) (cs : List AV) : fin m ids sto (.agg cs) = (fin.finL m ids sto cs).bind fun l => some (Jnw l (unp l)) := by
 simp only [fin]
 cases fin.finL m ids sto cs with
 | none => rfl
 | some l => simp only [Option.bind_some]; cases unp l <;> rfl
theorem Jvz (m : Nat) (ids : List Nat) (sto : List Blk) (x : AV) (cs : List AV) : fin m ids sto (.tup (x :: cs)) = (fin.finL m ids sto (x :: cs)).map .tup := by
 simp only [fin]
 cases fin.finL m ids sto (x :: cs) <;> rfl
theorem Juf (env : List (Nat × AV)) (sto : List Blk) (t : Nat) (r : List JcY) : (J6w (.tmp t :: r)).run ⟨env, sto⟩ = (lk t env).bind fun v => ((J6w r).run ⟨env, sto⟩).bind fun l => some (v :: l) := by
 simp only [J6w, run_bind, Jo3, J1u]
 cases lk t env <;> rfl
theorem JtA (env : List (Nat × AV)) (sto : List Blk) (t n : Nat) (g : Bool) (r : List JcY) : (J6w (.cell t g n :: r)).run ⟨env, sto⟩ = (lk t env).bind fun v => ((J2c g n v).run ⟨env, sto⟩).bind fun e => ((J6w r).run ⟨env, sto⟩).bind fun l => some (e.val :: l) := by
 simp only [J6w, run_bind, Jo3, J1u]
 cases lk t env <;> rfl
def oid (b : Nat) (B : Option Blk) (l : List Nat) : List Nat := match B with
 | some (.box _) => b :: l
 | _ => l
theorem Jx1 (m b : Nat) (sto : List Blk) (r : List Ent) : J1f m false sto (.whole b :: r) = if b < m then J1f m false sto r else oid b sto[b]? (J1f m false sto r) := by
 simp only [J1f]
 split
 ·rfl
 ·unfold oid
  cases sto[b]? with
  | none => rfl
  | some B => cases B <;> simp
def ebb (B : Option Blk) (acc : List Ent) : List Ent := match B with
 | some (.box cs) => J09.entsOfL cs acc
 | _ => acc
theorem Jwz (sto : List Blk) (b : Nat) (r acc : List Ent) : J8d sto (.whole b :: r) acc = J8d sto r (ebb sto[b]? acc) := by
 simp only [J8d, ebb]
 cases sto[b]? with
 | none => rfl
 | some B => cases B <;> rfl
theorem JwT (b c : Nat) (r : List Ent) : J8u (.whole b) (.whole c :: r) = if c = b then .whole c :: r else .whole c :: J8u (.whole b) r := by
 simp only [J8u, List.any_cons]
 by_cases h : c = b
 ·subst h; simp
 ·simp [h]
  split <;> simp_all
theorem JwP (sto : List Blk) (b : Nat) (r : List Nat) : J7D sto (b :: r) = sto[b]?.bind fun x => (J7D sto r).bind fun l => some (x :: l) := by
 simp only [J7D]
 cases sto[b]? with
 | none => rfl
 | some x => cases J7D sto r <;> rfl
theorem JsA {α : Type} (a : α) (cs : List α) (n : Nat) : sub (a :: cs) 0 (n + 1) = (sub cs 0 n).map (a :: ·) := by
 rw [J6K, J6K]
 by_cases h : n ≤ cs.length
 ·rw [if_pos (by simp; omega), if_pos (by omega)]; simp
 ·rw [if_neg (by simp; omega), if_neg (by omega)]; rfl
theorem Jtb {α : Type} (a : α) (cs : List α) (n m : Nat) : sub (a :: cs) (n + 1) m = sub cs n m := by
 rw [J6K, J6K]
 by_cases h : n + m ≤ cs.length
 ·rw [if_pos (by simp; omega), if_pos h]; simp
 ·rw [if_neg (by simp; omega), if_neg h]
theorem JsO {α : Type} (a b : α) (cs vs : List α) : spl (a :: cs) 0 (b :: vs) = (spl cs 0 vs).map (b :: ·) := by
 rw [J7S, J7S]
 by_cases h : vs.length ≤ cs.length
 ·rw [if_pos (by simp; omega), if_pos (by omega)]; simp
 ·rw [if_neg (by simp; omega), if_neg (by omega)]; rfl
theorem JsK {α : Type} (a : α) (cs : List α) (n : Nat) (vs : List α) : spl (a :: cs) (n + 1) vs = (spl cs n vs).map (a :: ·) := by
 rw [J7S, J7S]
 by_cases h : n + vs.length ≤ cs.length
 ·rw [if_pos (by simp; omega), if_pos h]
  rw [show n + 1 + vs.length = (n + vs.length) + 1 by omega]; simp
 ·rw [if_neg (by simp; omega), if_neg h]; rfl
theorem Juc (off size : Nat) (c : List AV) (a : AV) (cs : List AV) (r : List (Nat × Nat × List AV)) : J1b ((off, size, c) :: r) (a :: cs) = if c.length = size then (spl (a :: cs) off c).bind fun cs => J1b r cs else none := by
 simp only [J1b]
 split
 ·cases spl (a :: cs) off c <;> rfl
 ·rfl
theorem Jv0 (m : Nat) (ids : List Nat) (sto : List Blk) (f : FuncId) (a c : List AV) : fin m ids sto (.fn f a c) = (fin.finL m ids sto a).bind fun a1 => (fin.finL m ids sto c).bind fun c1 => some (.fn f a1 c1) := by
 simp only [fin]
 cases fin.finL m ids sto a with
 | none => rfl
 | some a1 => cases fin.finL m ids sto c <;> rfl
def lwO (x y : Option Blk) : Option Blk := match x with
 | some x => some x
 | none => y
theorem Jwu (b c : Nat) (x : Blk) (r : List (Nat × Blk)) : J2w b ((c, x) :: r) = lwO (J2w b r) (if c = b then some x else none) := by
 simp only [J2w]
 cases J2w b r <;> rfl
theorem JuA (env : List (Nat × AV)) (sto : List Blk) (b c : Nat) (x : Blk) (ws : List (Nat × Blk)) : (J7x ((c, x) :: ws) b).run ⟨env, sto⟩ = sto[b]?.bind fun y => some ((J2w b ((c, x) :: ws)).getD y) := by
 simp only [J7x, J71]
 cases sto[b]? with
 | none => rfl
 | some y => simp only [Option.bind_some]; cases J2w b ((c, x) :: ws) <;> rfl
@[congr] theorem JxQ {α : Type} {u u' : AV} {k : FuncId → List AV → List AV → Option α} (h : u = u') : cvg u k = cvg u' k := by rw [h]
theorem JiF (x : Opd) (s : St) : Jf ((ev x).reads s) = [] := by
 cases x with
 | t n => simp only [ev, RM.reads]; cases lk n s.env <;> rfl
 | c v => rfl
theorem JqM (a b : List Loc) : Jf (a ++ b) = Jf a ++ Jf b := by
 induction a with
 | nil => rfl
 | cons x r ih => cases x <;> simp [Jf, ih]
def rb {α β : Type} (m : Option α) (f : α → List β) : List β := match m with
 | some a => f a
 | none => []
theorem J1i {α β : Type} (m : RM α) (f : α → RM β) (s : St) : Jf ((m.bind f).reads s) = Jf (m.reads s) ++ rb (m.run s) fun a => Jf ((f a).reads s) := by
 rw [JaS, JqM]
 cases m.run s <;> rfl
theorem Jcl {β : Type} (x : Opd) (f : AV → RM β) (s : St) : Jf (((ev x).bind f).reads s) = rb (evv x s.env) fun a => Jf ((f a).reads s) := by
 rw [J1i, JiF, J0E]; rfl
theorem Jdt (o : Option AV) (s : St) : Jf ((Go.Am.val o).reads s) = [] := by cases o <;> rfl
section
variable (F : Orc) (new : Nat) (env : List (Nat × AV)) (sto : List Blk)
theorem Jcm {op : AOp} (h : JI op = 0) (s : St) : rdO F op new s = Jf ((opR F op new).reads s) := by
 unfold rdO opD
 rw [J1i, h]; rfl
def is1 (b : Option Blk) : Option Unit := match b with
 | some .dead => some ()
 | _ => none
theorem Jn9 {op : AOp} (h : JI op = 1) (s : St) : rdO F op new s = new :: rb (is1 s.sto[new]?) fun _ => Jf ((opR F op new).reads s) := by
 unfold rdO opD
 rw [J1i, h]
 simp only [J7c, RM.reads, RM.run, Jf]
 cases s.sto[new]? with
 | none => rfl
 | some b => cases b <;> rfl
end
theorem Jno {α β : Type} (m : Option α) : (rb m fun _ => ([] : List β)) = [] := by cases m <;> rfl
theorem Jvt (F : Orc) (new : Nat) (env : List (Nat × AV)) (sto : List Blk) (g : Bool) (n : Nat) (x : Opd) : rdO F (.load g n x) new ⟨env, sto⟩ = rb (evv x env) fun a => Jf ((J2c g n a).reads ⟨env, sto⟩) := by
 rw [Jcm (h := rfl)]; exact Jcl ..
theorem Jvc (s : St) (g : Bool) (n b o : Nat) : Jf ((J2c g n (.ptr b o)).reads s) = [b] := by
 simp only [J2c, RM.reads, Jf]
 cases s.sto[b]? with
 | none => rfl
 | some B =>
  cases B with
  | box cs => simp only []; cases sub cs o n with
   | none => rfl
   | some l => simp only [Jdt]
  | _ => rfl
theorem Jx4 (s : St) (g : Bool) (n o : Nat) (cs : List PV) : Jf ((J2c g n (.cp cs o)).reads s) = [] := by
 simp only [J2c]
 cases sub cs o n with
 | none => rfl
 | some l => exact Jdt ..
theorem Jxe (s : St) (g : Bool) (n b e i o : Nat) : Jf ((J2c g n (.ep b e i o)).reads s) = [b] := by
 simp only [J2c, RM.reads, Jf]
 cases s.sto[b]? with
 | none => rfl
 | some B =>
  cases B with
  | arr w z rows =>
   simp only []
   split
   ·cases rows[i]? with
    | none => rfl
    | some row =>
     simp only []
     cases sub row o n with
     | none => rfl
     | some l => simp only [Jdt]
   ·rfl
  | _ => rfl
theorem JrU (F : Orc) (new : Nat) (s : St) (z : List PV) : rdO F (.newbox z) new s = [new] := by
 rw [Jn9 (h := rfl)]; simp only [opR, RM.reads, Jf, Jno]
theorem Juj (F : Orc) (new : Nat) (env : List (Nat × AV)) (sto : List Blk) (n : Nat) (x y : Opd) : rdO F (.store n x y) new ⟨env, sto⟩ = rb (evv x env) fun a => rb (evv y env) fun c => Jf ((J1L n a c).reads ⟨env, sto⟩) := by
 rw [Jcm (h := rfl)]
 simp only [opR, Jcl]
theorem JuM (s : St) (n b o : Nat) (v : AV) : Jf ((J1L n (.ptr b o) v).reads s) = [b] := by
 simp only [J1L, RM.reads, Jf]
 cases s.sto[b]? with
 | none => rfl
 | some B =>
  cases B with
  | box cs =>
   simp only []
   cases cellsOf v with
   | none => rfl
   | some l =>
    simp only []
    split
    ·cases spl cs o l <;> rfl
    ·rfl
  | _ => rfl
theorem JrP (s : St) (n b e i o : Nat) {v : AV} {c : List PV} (hv : fz v = .ret (c, [])) : Jf ((J1L n (.ep b e i o) v).reads s) = [b] := by
 simp only [J1L, RM.reads, Jf]
 cases s.sto[b]? with
 | none => rfl
 | some B =>
  cases B with
  | arr w z rows =>
   cases w with
   | false => rfl
   | true =>
    simp only []
    split
    ·cases rows[i]? with
     | none => rfl
     | some row =>
      simp only [hv, J1i, RM.reads, Jf, J1u, rb, List.nil_append]
      split
      ·cases spl row o c <;> rfl
      ·rfl
    ·rfl
  | _ => rfl
theorem Jtp (s : St) (n b e i o : Nat) (c : PV) : Jf ((J1L n (.ep b e i o) (.p c)).reads s) = [b] := JrP s n b e i o rfl
theorem JtI (s : St) (n b e i o : Nat) (c : List PV) : Jf ((J1L n (.ep b e i o) (.data c)).reads s) = [b] := JrP s n b e i o rfl
theorem Jg0 (s : St) : ∀ args, Jf ((evs args).reads s) = []
 | [] => rfl
 | x :: r => by
  simp only [evs, Jcl]
  cases evv x s.env with
  | none => rfl
  | some v =>
   simp only [rb, J1i, Jg0 s r, List.nil_append]
   cases (evs r).run s <;> rfl
theorem Jk9 (F : Orc) (g : FuncId) (args : List Opd) (n new : Nat) (s : St) : Jf ((opR F (.call g args n) new).reads s) = rb ((evs args).run s) fun a => Jf ((JE a).reads s) ++ rb ((JE a).run s) fun a => Jf ((Jj F g a n new).reads s) := by
 simp only [opR, J1i, Jg0, List.nil_append, Jcw]
theorem JtY (F : Orc) (new : Nat) (s : St) (g : FuncId) (args : List Opd) : rdO F (.call g args 0) new s = rb ((evs args).run s) fun a => Jf ((JE a).reads s) ++ rb ((JE a).run s) fun a => Jf ((Jj F g a 0 new).reads s) := by
 rw [Jcm (h := rfl)]; exact Jk9 ..
theorem JtC (F : Orc) (new : Nat) (s : St) (g : FuncId) (args : List Opd) : rdO F (.call g args 1) new s = new :: rb (is1 s.sto[new]?) fun _ => rb ((evs args).run s) fun a => Jf ((JE a).reads s) ++ rb ((JE a).run s) fun a => Jf ((Jj F g a 1 new).reads s) := by
 rw [Jn9 (h := rfl)]; simp only [Jk9]
theorem Jda (s : St) {v : AV} (h : J8i v = .ret (v, [])) (r : List AV) : Jf ((JE (v :: r)).reads s) = Jf ((JE r).reads s) := by
 simp only [JE, h, J1i, RM.reads, Jf, J1u, rb, List.nil_append]
 cases (JE r).run s <;> simp [RM.reads, Jf]
theorem Jgf (s : St) (b n : Nat) : Jf ((fz (.slr b 0 n)).reads s) = [b] := by
 simp only [fz, RM.reads, Jf]
 cases s.sto[b]? with
 | none => rfl
 | some B =>
  cases B with
  | arr w z rows => simp only []; split <;> rfl
  | _ => rfl
theorem JuR (s : St) (b n : Nat) (r : List AV) : Jf ((JE (.slr b 0 n :: r)).reads s) = b :: rb ((J8i (.slr b 0 n)).run s) fun _ => Jf ((JE r).reads s) := by
 have h1 : Jf ((J8i (.slr b 0 n)).reads s) = [b] := by
  simp only [J8i, J1i, Jgf]
  cases (fz (.slr b 0 n)).run s with
  | none => rfl
  | some a =>
   simp only [rb]
   match a.1 with
   | [] => rfl
   | [_] => rfl
   | _ :: _ :: _ => rfl
 simp only [JE, J1i, h1]
 cases (J8i (.slr b 0 n)).run s with
 | none => rfl
 | some a => simp only [rb]; cases (JE r).run s <;> simp [RM.reads, Jf]
theorem J04 {F : Orc} {f : FuncId} {args : List AV} (hp : args.all J4l = true) (ws : List (Nat × Blk)) (k new : Nat) (s : St) : Jf ((Jj F f (args, ws) k new).reads s) = [] := by
 have e1 : J09.entsOfL args [] = [] := J7l hp
 simp only [Jj, e1, J7X, J1i, RM.reads, Jf, J1u, rb, List.nil_append, List.map_nil, J45, if_true, J9s hp, J57]
 cases F f args [] with
 | none => rfl
 | some r =>
  simp only []
  split
  ·simp only [List.length_nil, List.drop_zero]
   cases bk [] new r.1 with
   | none => rfl
   | some v =>
    cases J4d [] new new r.2 with
    | none => rfl
    | some fr => simp only [J38, J1i, RM.reads, Jf, J1u, rb, List.nil_append]
  ·rfl
def cvl {α : Type} (u : AV) (k : FuncId → List AV → List AV → List α) : List α := match u with
 | .fn f a c => k f a c
 | _ => []
theorem JjY (ws : List (Nat × Blk)) (b : Nat) (s : St) : Jf ((J7x ws b).reads s) = [b] := by
 simp only [J7x, RM.reads, Jf]
 cases s.sto[b]? with
 | none => rfl
 | some B => simp only []; cases J2w b ws <;> rfl
theorem JlT {ws : List (Nat × Blk)} {s : St} : ∀ {bs : List Nat} {css : List (List AV)} {acc : List Ent}, JK ws s bs css → Jk css = true → Jf ((J7X ws (bs.map .whole) acc).reads s) = bs
 | [], [], _, _, _ => rfl
 | b :: bs, cs :: css, acc, h, hp => by
  simp only [Jk, List.all_cons, Bool.and_eq_true] at hp
  simp only [List.map_cons, J7X, J1i, JjY, h.1, rb, J7l hp.1]
  rw [JlT (bs := bs) (css := css) h.2 hp.2]
  rfl
theorem JoU {ws : List (Nat × Blk)} {s : St} {ρ : Ent → Option Nat} : ∀ {bs : List Nat} {css : List (List AV)}, JK ws s bs css → Jk css = true → Jf ((J57 ws ρ (bs.map .whole)).reads s) = bs
 | [], [], _, _ => rfl
 | b :: bs, cs :: css, h, hp => by
  simp only [Jk, List.all_cons, Bool.and_eq_true] at hp
  have h2 := JoU (ρ := ρ) (bs := bs) (css := css) h.2 hp.2
  have h3 := JeR (ρ := ρ) (bs := bs) (css := css) h.2 hp.2
  simp only [List.map_cons, J57, J1i, Jds, JjY, h.1, rb, J9s hp.1, RM.reads, Jf, run_bind, Option.bind_some, J1u, h2, h3, List.append_nil]
  rfl
theorem JlF {ws : List (Nat × Blk)} {s : St} {es : List Ent} {new : Nat} : ∀ (bs : List Nat) (xs : List Blk), Jf ((J38 ws es new (bs.map .whole) xs).reads s) = []
 | [], _ => rfl
 | b :: bs, [] => rfl
 | b :: bs, B :: l => by
  have g6 : Jf ((J9V ws es new (Ent.whole b) B).reads s) = [] := by
   cases B with
   | box cs => simp only [J9V]; cases bk.bkL es new cs <;> rfl
   | _ => rfl
  simp only [List.map_cons, J38, J1i, g6, List.nil_append]
  cases (J9V ws es new (Ent.whole b) B).run s with
  | none => rfl
  | some y =>
   simp only [rb, JlF bs l, List.nil_append]
   cases (J38 ws es new (bs.map .whole) l).run s <;> rfl
theorem J9S {F : Orc} {f : FuncId} {args args' : List AV} {bs : List Nat} {css : List (List AV)} (he : J09.entsOfL args [] = bs.map .whole) (hn : J45 bs = true)
  (hr : ren.renL (fun e => J3Y e (bs.map .whole) 0) args = some args') (hp : Jk css = true) (ws : List (Nat × Blk)) (k new : Nat) (s : St) (hb : JK ws s bs css) :
  Jf ((Jj F f (args, ws) k new).reads s) = bs ++ (bs ++ bs) := by
 have e0 : (bs.map Ent.whole).map Ent.id = bs := by rw [List.map_map]; exact List.map_id bs
 simp only [Jj, he, J1i, JlT hb hp, JgH hb hp, rb, e0, hn, if_true, hr, JoU hb hp, JeR hb hp]
 congr 2
 cases F f args' (css.map .box) with
 | none => simp [RM.reads, Jf]
 | some r =>
  simp only []
  split
  ·cases bk (bs.map Ent.whole) new r.1 with
   | none => simp [RM.reads, Jf]
   | some v =>
    cases J4d (bs.map Ent.whole) new new (r.2.drop (bs.map Ent.whole).length) with
    | none => simp [RM.reads, Jf]
    | some fr =>
     simp only [J1i, JlF, List.nil_append]
     cases (J38 ws (bs.map Ent.whole) new (bs.map Ent.whole) r.2).run s <;> simp [rb, RM.reads, Jf]
  ·simp [RM.reads, Jf]
theorem JrK (F : Orc) (new : Nat) (env : List (Nat × AV)) (sto : List Blk) (g : Opd) (args : List Opd) : rdO F (.callv g args 0) new ⟨env, sto⟩ = rb (evv g env) fun u => cvl u fun h a1 c1 => rb ((evs args).run ⟨env, sto⟩) fun a => Jf ((JE (a1 ++ a ++ c1)).reads ⟨env, sto⟩) ++ rb ((JE (a1 ++ a ++ c1)).run ⟨env, sto⟩) fun a => Jf ((Jj F h a 0 new).reads ⟨env, sto⟩) := by
 rw [Jcm (h := rfl)]
 simp only [opR, J1i, JiF, J0E, List.nil_append]
 cases evv g env with
 | none => rfl
 | some u =>
  simp only [rb]
  cases u <;> first | rfl | skip
  simp only [cvl, J1i, Jg0, List.nil_append]
  cases (evs args).run ⟨env, sto⟩ with
  | none => rfl
  | some a => simp only [rb, Jcw, J1i]
theorem JlP (s : St) (o : Bool) (e n new : Nat) (z : List PV) (ps : List (Nat × Opd)) : Jf ((ltR o e n z ps new).reads s) = Jf ((fzs (ps.map (·.2))).reads s) := by
 simp only [ltR, J1i]
 cases (fzs (ps.map (·.2))).run s with
 | none => simp [rb]
 | some a =>
  simp only [rb]
  cases J4r e ((ps.map (·.1)).zip a.1) (List.replicate n z) with
  | none => simp [RM.reads, Jf]
  | some rows => cases o <;> simp [RM.reads, Jf]
theorem Jt8 (F : Orc) (new : Nat) (s : St) (e n : Nat) (z : List PV) (ps : List (Nat × Opd)) : rdO F (.lits false e n z ps) new s = Jf ((fzs (ps.map (·.2))).reads s) := by
 rw [Jcm (h := rfl)]; exact JlP ..
theorem JtH (F : Orc) (new : Nat) (s : St) (e n : Nat) (z : List PV) (ps : List (Nat × Opd)) : rdO F (.lits true e n z ps) new s = new :: rb (is1 s.sto[new]?) fun _ => Jf ((fzs (ps.map (·.2))).reads s) := by
 rw [Jn9 (h := rfl)]
 congr 2; funext _
 exact JlP ..
theorem Jxb (s : St) (x : Opd) (r : List Opd) : Jf ((fzs (x :: r)).reads s) = rb (evv x s.env) fun v => Jf ((fz v).reads s) ++ rb ((fz v).run s) fun _ => Jf ((fzs r).reads s) := by
 have e0 : fzs (x :: r) = (ev x).bind fun v => (fz v).bind fun a => (fzs r).bind fun c => .ret (a.1 :: c.1, a.2 ++ c.2) := rfl
 rw [e0, Jcl]
 cases evv x s.env with
 | none => rfl
 | some v =>
  dsimp only [rb]
  rw [J1i]
  cases (fz v).run s with
  | none => rfl
  | some a =>
   dsimp only [rb]
   rw [J1i]
   cases (fzs r).run s <;> simp [rb, RM.reads, Jf]
theorem Jud (F : Orc) (new : Nat) (s : St) (x : Opd) : rdO F (.conv .toStr x) new s = rb (evv x s.env) fun a => Jf ((J0a 1 a).reads s) := by
 rw [Jcm (h := rfl)]
 simp only [opR, Jcl]
 congr 1; funext a
 simp only [J1i]
 cases (J0a 1 a).run s with
 | none => simp [rb]
 | some rows => simp only [rb]; cases J6l rows <;> simp [RM.reads, Jf]
theorem Jro (s : St) (e b n : Nat) : Jf ((J0a e (.slr b 0 n)).reads s) = [b] := by
 simp only [J0a, RM.reads, Jf]
 cases s.sto[b]? with
 | none => rfl
 | some B =>
  cases B with
  | arr w z rows => simp only []; split <;> rfl
  | _ => rfl
theorem JoT (s : St) (e z : Nat) (rows : List (List PV)) : Jf ((J0a e (.p (.sl z rows))).reads s) = [] := by
 simp only [J0a]; split <;> rfl
theorem JtT (F : Orc) (new : Nat) (s : St) (e : Nat) (x i : Opd) : rdO F (.iaddr e x i) new s = rb (evv x s.env) fun a => rb (evv i s.env) fun c => Jf ((J3h e a c).reads s) := by
 rw [Jcm (h := rfl)]; simp only [opR, Jcl]
theorem Jsw (s : St) (e b n : Nat) (k : IntKind) (i : Int) : Jf ((J3h e (.slr b 0 n) (.p (.i k i))).reads s) = [b] := by
 simp only [J3h, RM.reads, Jf]
 cases s.sto[b]? with
 | none => rfl
 | some B =>
  cases B with
  | arr w z rows => simp only []; split <;> rfl
  | _ => rfl
theorem JsG (s : St) (e z : Nat) (rows : List (List PV)) (k : IntKind) (i : Int) : Jf ((J3h e (.p (.sl z rows)) (.p (.i k i))).reads s) = [] := by
 simp only [J3h]
 split
 ·cases Jcp rows i <;> rfl
 ·rfl
def slT (k : SK) (lo hi mx : Option Opd) (a : AV) : RM Eff := (evo lo).bind fun lo => (evo hi).bind fun hi => (evo mx).bind fun mx =>
  match a with
  | .slr b i n => (fz (.slr b i n)).bind fun y => match y.1 with
   | [c] => match J54 k (.p c) lo hi mx with
    | some v => .ret ⟨v, y.2⟩
    | none => .fail
   | _ => .fail
  | a => val (J54 k a lo hi mx)
theorem Js0 (x : Option Opd) (s : St) : Jf ((evo x).reads s) = [] := by
 cases x with
 | none => rfl
 | some x =>
  simp only [evo, J1i, JiF, List.nil_append]
  cases (ev x).run s <;> rfl
theorem Jru (F : Orc) (new : Nat) (s : St) (k : SK) (x : Opd) (lo hi mx : Option Opd) : rdO F (.slice k x lo hi mx) new s = rb (evv x s.env) fun a => Jf ((slT k lo hi mx a).reads s) := by
 rw [Jcm (h := rfl)]
 simp only [opR, Jcl]
 rfl
theorem JvK (s : St) (k : SK) (lo hi mx : Option Opd) (c : PV) : Jf ((slT k lo hi mx (.p c)).reads s) = [] := by
 simp only [slT, J1i, Js0, List.nil_append, Jdt, Jno]
theorem JuX (F : Orc) (new : Nat) (s : St) (e b : Nat) (z : List PV) (y : Opd) : rdO F (.appn e b z y) new s = new :: rb (is1 s.sto[new]?) fun _ => rb (evv y s.env) fun a => Jf ((J0a e a).reads s) := by
 rw [Jn9 (h := rfl)]
 simp only [opR, Jcl]
 refine congrArg (List.cons new) (congrArg (rb _) (funext fun _ => congrArg (rb _) (funext fun a => ?_)))
 simp only [J1i]
 have : ∀ rows : List (List PV), Jf ((if J5r rows.length b then (.ret ⟨.slr new 0 rows.length, [(new, .arr true e rows)]⟩ : RM Eff) else .fail).reads s) = [] := fun rows => by split <;> rfl
 simp only [this, Jno, List.append_nil]
theorem JwQ (F : Orc) (new : Nat) (s : St) (e b : Nat) (z : List PV) (x y : Opd) : rdO F (.app e b z x y) new s = rb (evv x s.env) fun a => rb (evv y s.env) fun c => Jf ((J5e e b a c).reads s) := by
 rw [Jcm (h := rfl)]; simp only [opR, Jcl]
theorem Jvu (s : St) (e bytes b i n : Nat) (c : PV) (hc : ∀ s, Jf ((J0a e (.p c)).reads s) = []) : Jf ((J5e e bytes (.slr b i n) (.p c)).reads s) = [b] := by
 simp only [J5e, RM.reads, Jf]
 cases s.sto[b]? with
 | none => rfl
 | some B =>
  cases B with
  | arr w z rows =>
   simp only [J1i, hc, List.nil_append]
   congr 1
   cases (J0a e (.p c)).run s with
   | none => rfl
   | some new => simp only [rb]; split <;> rfl
  | _ => rfl
theorem JtK (s : St) (e bytes b n z : Nat) (rows : List (List PV)) : Jf ((J5e e bytes (.slr b 0 n) (.p (.sl z rows))).reads s) = [b] := Jvu s e bytes b 0 n (.sl z rows) fun s => JoT s e z rows
theorem Jon (env : List (Nat × AV)) (sto : List Blk) (l : List Int) (new : Nat) : (cvR .toStr (.p (.sl 1 (l.map (r_i .u8)))) new).run ⟨env, sto⟩ = some ⟨.p (.s (toStr l)), []⟩ := Jug ..
theorem Jxt (n : Nat) (w : Bool) (l : List Int) : cvB n (.arr w 1 (l.map (r_i .u8))) = if n = l.length then some ⟨.p (.s (toStr l)), []⟩ else none := Jw0 ..
theorem fr (b n z : Nat) (w : Bool) (rows : List (List PV)) : frz b n (.arr w z rows) = if n = rows.length then some (.p (.sl z rows), (b, .arr false z rows)) else none := rfl
theorem mk (o : Bool) (e b new : Nat) (z : List PV) (k k2 : IntKind) (n m : Int) : mkP o e b z (.p (.i k n)) (.p (.i k2 m)) new = if 0 ≤ n ∧ n ≤ m ∧ b * m ≤ 281474976710656 ∧ m ≤ 281474976710656 then some (if o then ⟨.slr new 0 n.toNat, [(new, .arr true e (List.replicate n.toNat z))]⟩ else ⟨.p (.sl e (List.replicate n.toNat z)), []⟩) else none := rfl
theorem cl (n : Nat) (live : List Nat) (env : List (Nat × AV)) (sto : List Blk) : J66 n live ⟨env, sto⟩ = if sto.length = n then some ⟨restr live env, sto⟩ else (J9d n sto (restr live env)).bind fun e => (J3R n [] sto (sto.take n)).bind fun l => some ⟨e, l⟩ := JwS ..
theorem Jw7 {α : Type} (l : List α) : [] ++ l = l := rfl
theorem JwW {α : Type} (l : List α) : l ++ [] = l := List.append_nil l
theorem Jwn {α : Type} (a : α) (l r : List α) : (a :: l) ++ r = a :: (l ++ r) := rfl
theorem JwE {α β : Type} (g : α → β) : List.map g [] = [] := rfl
theorem JwX {α β : Type} (g : α → β) (a : α) (l : List α) : List.map g (a :: l) = g a :: List.map g l := rfl
theorem Jwg {α : Type} : ([] : List α).length = 0 := rfl
theorem JwR {α : Type} (a : α) (l : List α) : (a :: l).length = l.length + 1 := rfl
theorem Jwy (k : IntKind) (n : Int) : r_i k n = [.i k n] := rfl
theorem Jwa (x : Bool) : r_b x = [.b x] := rfl
theorem Juu (x : List UInt8) : r_s x = [.s x] := rfl
theorem Jxa {α : Type} (e : Nat) (g : α → List PV) (l : List α) : Jl9 e g l = [.sl e (l.map g)] := rfl
theorem s1 (a : PV) : sub [a] 0 1 = some [a] := rfl
set_option maxRecDepth 30000 in
theorem Da : (∀ T f m k s, rk T f m k (X T .skip s) = rk T f m k (some (.normal, s))) ∧
 (∀ T f m k a b s, rk T f m k (X T (.seq a b) s) = rk T f m (.sq b :: k) (X T a s)) ∧
 (∀ T f m k d ins env sto, rk T f m k (X T (.reg d [] ins) ⟨env, sto⟩) = rk T f m k (Ju9 (Jq (AF T) ins sto.length ⟨env, room (news ins) sto⟩ none))) ∧
 (∀ T f m k d q ps ins env sto, rk T f m k (X T (.reg d (q :: ps) ins) ⟨env, sto⟩) = rk T f m k (Jr6 (q :: ps) (Jq (AF T) ins sto.length ⟨env, room (news ins) sto⟩ (some [])))) ∧
 (∀ T f m k i c s, rk T f m k (X T (.block i c) s) = rk T f m (.bl i :: k) (X T c s)) ∧
 (∀ T f m k c s, rk T f m k (X T (.scope c) s) = rk T f m k (X T c s)) ∧
 (∀ T f m k i s, rk T f m k (X T (.exit i) s) = rk T f m k (some (.exit i, s))) ∧
 (∀ T f m k s, rk T f m k (X T .ret s) = rk T f m k (some (.ret, s))) ∧
 (∀ T f m k live c env sto, rk T f m k (X T (.keep live c) ⟨env, sto⟩) = rk T f m k (X T c ⟨restr live env, sto⟩)) ∧
 (∀ T f m k live c env sto, rk T f m k (X T (.tidy live c) ⟨env, sto⟩) = rk T f m (.td sto.length live :: k) (X T c ⟨env, sto⟩)) ∧
 (∀ T f m k live c env sto, rk T f m k (X T (.loop live c) ⟨env, sto⟩) = rk T f m k (X T (.lp sto.length live c) ⟨restr live env, sto⟩)) ∧
 (∀ T f m k x a b env sto, rk T f m k (X T (.cond x a b) ⟨env, sto⟩) = rk T f m k (cnd (evv x env) (hold (X T a ⟨env, sto⟩) (.mk _)) (hold (X T b ⟨env, sto⟩) (.mk _)) (hold (fun _ => same (X T a ⟨env, sto⟩) (X T b ⟨env, sto⟩)) (.mk _)))) ∧
 (∀ a b h c, cnd (some (.p (.b true))) (hold a h) b c = a) ∧
 (∀ a b h c, cnd (some (.p (.b false))) a (hold b h) c = b) ∧
 (∀ T f m k b s, rk T f m (.sq b :: k) (some (.normal, s)) = rk T f m k (X T b s)) ∧
 (∀ T f m k b i s, rk T f m (.sq b :: k) (some (.exit i, s)) = rk T f m k (some (.exit i, s))) ∧
 (∀ T f m k b s, rk T f m (.sq b :: k) (some (.ret, s)) = rk T f m k (some (.ret, s))) ∧
 (∀ T f m k i s, rk T f m (.bl i :: k) (some (.normal, s)) = rk T f m k (some (.normal, s))) ∧
 (∀ T f m k i j s, rk T f m (.bl i :: k) (some (.exit j, s)) = if j = i then rk T f m k (some (.normal, s)) else rk T f m k (some (.exit j, s))) ∧
 (∀ T f m k i s, rk T f m (.bl i :: k) (some (.ret, s)) = rk T f m k (some (.ret, s))) ∧
 (∀ T f m k n live e s, rk T f m (.td n live :: k) (some (e, s)) = rk T f m k (tdn e (J66 n live s))) ∧
 (∀ e s, tdn e (some s) = some (e, s)) ∧
 (∀ T f m k n live c s, rk T f m (.lo n live c :: k) (some (.normal, s)) = rk T f m k (again T n live c (J66 n live s))) ∧
 (∀ T n live c s, again T n live c (some s) = X T (.lp n live c) s) ∧
 (∀ T f m k n live c i s, rk T f m (.lo n live c :: k) (some (.exit i, s)) = rk T f m k (some (.exit i, s))) ∧
 (∀ T f m k n live c s, rk T f m (.lo n live c :: k) (some (.ret, s)) = rk T f m k (some (.ret, s))) ∧
 (∀ T f m s, rk T f m [] (some (.normal, s)) = JiQ f.res f.fresh m s) ∧
 (∀ T f m s, rk T f m [] (some (.ret, s)) = JiQ f.res f.fresh m s) ∧
 (∀ s l, Ju9 (some (s, l)) = some (.normal, s)) ∧
 (∀ s l ps, Jr6 ps (some (s, some l)) = if J9E l ps = true then some (.normal, s) else none) ∧
 (∀ l, J9E l [] = true) ∧
 (∀ l i j ps, J9E l ((i, j) :: ps) = (pkk l[i]? l[j]? && J9E l ps)) ∧
 (∀ a b, lgA none a b = none) ∧
 (∀ l a b, lgA (some l) a b = some (l ++ [(a, b)])) ∧
 (∀ {α : Type} (a : α) (l : List α), (a :: l)[0]? = some a) ∧
 (∀ {α : Type} (a : α) (l : List α) (n : Nat), (a :: l)[n + 1]? = l[n]?) ∧
 (∀ F new s lg, Jq F [] new s lg = some (s, lg)) ∧
 (∀ F r new env sto lg d x, Jq F (⟨.mv x, some d, none⟩ :: r) new ⟨env, sto⟩ lg = (evv x env).bind fun v => Jq F r new ⟨(d, v) :: env, sto⟩ (lgA lg (rdO F (.mv x) new ⟨env, sto⟩) [])) ∧
 (∀ F r new env sto lg d c a b, Jq F (⟨.pick c a b, some d, none⟩ :: r) new ⟨env, sto⟩ lg = (evv c env).bind fun u => pkh u (evv a env) (evv b env) (hold (fun v => Jq F r new ⟨(d, v) :: env, sto⟩ (lgA lg (rdO F (.pick c a b) new ⟨env, sto⟩) [])) (.mk _))) ∧
 (∀ F r new env sto lg d op t x y, Jq F (⟨.bin op t x y, some d, none⟩ :: r) new ⟨env, sto⟩ lg = (evv x env).bind fun a => (evv y env).bind fun c => (J0D op t a c).bind fun v => Jq F r new ⟨(d, v) :: env, sto⟩ (lgA lg (rdO F (.bin op t x y) new ⟨env, sto⟩) [])) ∧
 (∀ F r new env sto lg d op x, Jq F (⟨.un op x, some d, none⟩ :: r) new ⟨env, sto⟩ lg = (evv x env).bind fun a => (unP op a).bind fun v => Jq F r new ⟨(d, v) :: env, sto⟩ (lgA lg (rdO F (.un op x) new ⟨env, sto⟩) [])) ∧
 (∀ F r new env sto lg d g off n x, Jq F (⟨.field g off n x, some d, none⟩ :: r) new ⟨env, sto⟩ lg = (evv x env).bind fun a => (J61 g off n a).bind fun v => Jq F r new ⟨(d, v) :: env, sto⟩ (lgA lg (rdO F (.field g off n x) new ⟨env, sto⟩) [])) ∧
 (∀ F r new env sto lg d off x, Jq F (⟨.faddr off x, some d, none⟩ :: r) new ⟨env, sto⟩ lg = (evv x env).bind fun a => (JbM off a).bind fun v => Jq F r new ⟨(d, v) :: env, sto⟩ (lgA lg (rdO F (.faddr off x) new ⟨env, sto⟩) [])) ∧
 (∀ F r new env sto lg d x i, Jq F (⟨.extr x i, some d, none⟩ :: r) new ⟨env, sto⟩ lg = (evv x env).bind fun a => (Jhb i a).bind fun v => Jq F r new ⟨(d, v) :: env, sto⟩ (lgA lg (rdO F (.extr x i) new ⟨env, sto⟩) [])) ∧
 (∀ F r new env sto lg d b x, Jq F (⟨.len b x, some d, none⟩ :: r) new ⟨env, sto⟩ lg = (evv x env).bind fun a => (JfR b a).bind fun v => Jq F r new ⟨(d, v) :: env, sto⟩ (lgA lg (rdO F (.len b x) new ⟨env, sto⟩) [])) ∧
 (∀ F r new env sto lg d n, Jq F (⟨.alen n, some d, none⟩ :: r) new ⟨env, sto⟩ lg = Jq F r new ⟨(d, .p (.i .i64 n)) :: env, sto⟩ (lgA lg (rdO F (.alen n) new ⟨env, sto⟩) [])) ∧
 (∀ F r new env sto lg d b x y, Jq F (⟨.mm b x y, some d, none⟩ :: r) new ⟨env, sto⟩ lg = (evv x env).bind fun a => (evv y env).bind fun c => (mmP b a c).bind fun v => Jq F r new ⟨(d, v) :: env, sto⟩ (lgA lg (rdO F (.mm b x y) new ⟨env, sto⟩) [])) ∧
 (∀ F r new env sto lg d n e x i, Jq F (⟨.aaddr n e x i, some d, none⟩ :: r) new ⟨env, sto⟩ lg = (evv x env).bind fun a => (evv i env).bind fun c => (JbO n e a c).bind fun v => Jq F r new ⟨(d, v) :: env, sto⟩ (lgA lg (rdO F (.aaddr n e x i) new ⟨env, sto⟩) [])) ∧
 (∀ F r new env sto lg d e x i, Jq F (⟨.iaddr e x i, some d, none⟩ :: r) new ⟨env, sto⟩ lg = (evv x env).bind fun a => (evv i env).bind fun c => ((J3h e a c).run ⟨env, sto⟩).bind fun q => Jq F r new ⟨(d, q.val) :: env, upd q.ws sto⟩ (lgA lg (rdO F (.iaddr e x i) new ⟨env, sto⟩) (q.ws.map (·.1)))) ∧
 (∀ F r new env sto lg d x i, Jq F (⟨.sidx x i, some d, none⟩ :: r) new ⟨env, sto⟩ lg = (evv x env).bind fun a => (evv i env).bind fun c => (Jli a c).bind fun v => Jq F r new ⟨(d, v) :: env, sto⟩ (lgA lg (rdO F (.sidx x i) new ⟨env, sto⟩) [])) ∧
 (∀ F r new env sto lg d g n e x i, Jq F (⟨.aidx g n e x i, some d, none⟩ :: r) new ⟨env, sto⟩ lg = (evv x env).bind fun a => (evv i env).bind fun c => (Jj6 g n e a c).bind fun v => Jq F r new ⟨(d, v) :: env, sto⟩ (lgA lg (rdO F (.aidx g n e x i) new ⟨env, sto⟩) [])) ∧
 (∀ F r new env sto lg d x, Jq F (⟨.nilchk x, some d, none⟩ :: r) new ⟨env, sto⟩ lg = (evv x env).bind fun a => (Jof a).bind fun v => Jq F r new ⟨(d, v) :: env, sto⟩ (lgA lg (rdO F (.nilchk x) new ⟨env, sto⟩) [])) ∧
 (∀ F r new env sto lg d g n x, Jq F (⟨.load g n x, some d, none⟩ :: r) new ⟨env, sto⟩ lg = (evv x env).bind fun a => ((J2c g n a).run ⟨env, sto⟩).bind fun q => Jq F r new ⟨(d, q.val) :: env, upd q.ws sto⟩ (lgA lg (rdO F (.load g n x) new ⟨env, sto⟩) (q.ws.map (·.1)))) ∧
 (∀ F r new env sto lg n x y, Jq F (⟨.store n x y, none, none⟩ :: r) new ⟨env, sto⟩ lg = (evv x env).bind fun a => (evv y env).bind fun c => ((J1L n a c).run ⟨env, sto⟩).bind fun q => Jq F r new ⟨env, upd q.ws sto⟩ (lgA lg (rdO F (.store n x y) new ⟨env, sto⟩) (q.ws.map (·.1)))) ∧
 (∀ F r new env sto lg d c x, Jq F (⟨.conv c x, some d, none⟩ :: r) new ⟨env, sto⟩ lg = (evv x env).bind fun a => dds (JI (.conv c x)) new sto (((cvR c a new).run ⟨env, sto⟩).bind fun e => Jq F r (new + JI (.conv c x)) ⟨(d, e.val) :: env, upd e.ws sto⟩ (lgA lg (rdO F (.conv c x) new ⟨env, sto⟩) (e.ws.map (·.1))))) ∧
 (∀ F r new env sto lg d z ps, Jq F (⟨.build z ps, some d, none⟩ :: r) new ⟨env, sto⟩ lg = ((J2M ps).run ⟨env, sto⟩).bind fun l => (J1b l (z.map .p)).bind fun cs => (J1R true cs).bind fun v => Jq F r new ⟨(d, v) :: env, sto⟩ (lgA lg (rdO F (.build z ps) new ⟨env, sto⟩) [])) ∧
 (∀ F r new env sto lg d s x lo hi mx, Jq F (⟨.slice s x lo hi mx, some d, none⟩ :: r) new ⟨env, sto⟩ lg = (evv x env).bind fun a => (J9P lo env).bind fun lo1 => (J9P hi env).bind fun hi1 => (J9P mx env).bind fun mx1 => ((slR s a lo1 hi1 mx1).run ⟨env, sto⟩).bind fun q => Jq F r new ⟨(d, q.val) :: env, upd q.ws sto⟩ (lgA lg (rdO F (.slice s x lo hi mx) new ⟨env, sto⟩) (q.ws.map (·.1)))) ∧
 (∀ F r new env sto lg d e b z x y, Jq F (⟨.app e b z x y, some d, none⟩ :: r) new ⟨env, sto⟩ lg = (evv x env).bind fun a => (evv y env).bind fun c => ((J5e e b a c).run ⟨env, sto⟩).bind fun q => Jq F r new ⟨(d, q.val) :: env, upd q.ws sto⟩ (lgA lg (rdO F (.app e b z x y) new ⟨env, sto⟩) (q.ws.map (·.1)))) ∧
 (∀ F r new env sto lg d e b z x y, Jq F (⟨.appz e b z x y, some d, none⟩ :: r) new ⟨env, sto⟩ lg = (evv x env).bind fun a => (evv y env).bind fun c => (zrs e z c).bind fun c1 => ((J5e e b a c1).run ⟨env, sto⟩).bind fun q => Jq F r new ⟨(d, q.val) :: env, upd q.ws sto⟩ (lgA lg (rdO F (.appz e b z x y) new ⟨env, sto⟩) (q.ws.map (·.1)))) ∧
 (∀ F r new env sto lg d g a c, Jq F (⟨.mkfn g a c, some d, none⟩ :: r) new ⟨env, sto⟩ lg = ((evs a).run ⟨env, sto⟩).bind fun a1 => ((evs c).run ⟨env, sto⟩).bind fun c1 => Jq F r new ⟨(d, .fn g a1 c1) :: env, sto⟩ (lgA lg (rdO F (.mkfn g a c) new ⟨env, sto⟩) [])) ∧
 (∀ F r new env sto lg d g args n, Jq F (⟨.callv g args n, some d, none⟩ :: r) new ⟨env, sto⟩ lg = (evv g env).bind fun u => cvg u fun h a1 c1 => dds n new sto (((evs args).run ⟨env, sto⟩).bind fun a => ((JE (a1 ++ a ++ c1)).run ⟨env, sto⟩).bind fun a => ((Jj F h a n new).run ⟨env, sto⟩).bind fun q => Jq F r (new + n) ⟨(d, q.val) :: env, upd q.ws sto⟩ (lgA lg (rdO F (.callv g args n) new ⟨env, sto⟩) (q.ws.map (·.1))))) ∧
 (∀ F r new env sto lg g args n, Jq F (⟨.callv g args n, none, none⟩ :: r) new ⟨env, sto⟩ lg = (evv g env).bind fun u => cvg u fun h a1 c1 => dds n new sto (((evs args).run ⟨env, sto⟩).bind fun a => ((JE (a1 ++ a ++ c1)).run ⟨env, sto⟩).bind fun a => ((Jj F h a n new).run ⟨env, sto⟩).bind fun q => Jq F r (new + n) ⟨env, upd q.ws sto⟩ (lgA lg (rdO F (.callv g args n) new ⟨env, sto⟩) (q.ws.map (·.1))))) ∧
 (∀ {α : Type} (f : FuncId) (a c : List AV) (k : FuncId → List AV → List AV → Option α), cvg (.fn f a c) k = k f a c) ∧
 (∀ F r new env sto lg d e b z y, Jq F (⟨.appn e b z y, some d, none⟩ :: r) new ⟨env, sto⟩ lg = (evv y env).bind fun c => ((J0a e c).run ⟨env, sto⟩).bind fun rows => if J5r rows.length b = true then dds 1 new sto (Jq F r (new + 1) ⟨(d, .slr new 0 rows.length) :: env, sto.set new (.arr true e rows)⟩ (lgA lg (rdO F (.appn e b z y) new ⟨env, sto⟩) [new])) else none) ∧
 (∀ F r new env sto lg d e b z x y, Jq F (⟨.appc e b z x y, some d, none⟩ :: r) new ⟨env, sto⟩ lg = (evv x env).bind fun a => (evv y env).bind fun c => ((J0a e c).run ⟨env, sto⟩).bind fun add => (Jo1 e b a add).bind fun rows => dds 1 new sto (Jq F r (new + 1) ⟨(d, .slr new 0 rows.length) :: env, sto.set new (.arr true e rows)⟩ (lgA lg (rdO F (.appc e b z x y) new ⟨env, sto⟩) [new]))) ∧
 (∀ F r new env sto lg d z, Jq F (⟨.newbox z, some d, none⟩ :: r) new ⟨env, sto⟩ lg = dds 1 new sto (Jq F r (new + 1) ⟨(d, .ptr new 0) :: env, sto.set new (.box (z.map .p))⟩ (lgA lg (rdO F (.newbox z) new ⟨env, sto⟩) [new]))) ∧
 (∀ F r new env sto lg d e x, Jq F (⟨.mkarr e x, some d, none⟩ :: r) new ⟨env, sto⟩ lg = dds 1 new sto (Jq F r (new + 1) ⟨(d, .slr new 0 0) :: env, sto.set new (.arr true e [])⟩ (lgA lg (rdO F (.mkarr e x) new ⟨env, sto⟩) [new]))) ∧
 (∀ F r new env sto lg d n x, Jq F (⟨.box n x, some d, none⟩ :: r) new ⟨env, sto⟩ lg = (evv x env).bind fun a => (bxP n a).bind fun cs => dds 1 new sto (Jq F r (new + 1) ⟨(d, .ptr new 0) :: env, sto.set new (.box cs)⟩ (lgA lg (rdO F (.box n x) new ⟨env, sto⟩) [new]))) ∧
 (∀ F r new env sto lg d o e n z ps, Jq F (⟨.lits o e n z ps, some d, none⟩ :: r) new ⟨env, sto⟩ lg = dds (if o then 1 else 0) new sto (((ltR o e n z ps new).run ⟨env, sto⟩).bind fun x => Jq F r (new + if o then 1 else 0) ⟨(d, x.val) :: env, upd x.ws sto⟩ (lgA lg (rdO F (.lits o e n z ps) new ⟨env, sto⟩) (x.ws.map (·.1))))) ∧
 (∀ F r new env sto lg d o e b z l c, Jq F (⟨.mkslice o e b z l c, some d, none⟩ :: r) new ⟨env, sto⟩ lg = (evv l env).bind fun a => (evv c env).bind fun x => dds (if o then 1 else 0) new sto ((mkP o e b z a x new).bind fun x => Jq F r (new + if o then 1 else 0) ⟨(d, x.val) :: env, upd x.ws sto⟩ (lgA lg (rdO F (.mkslice o e b z l c) new ⟨env, sto⟩) (x.ws.map (·.1))))) ∧
 (∀ F r new env sto lg d g args n, Jq F (⟨.call g args n, some d, none⟩ :: r) new ⟨env, sto⟩ lg = dds n new sto (((evs args).run ⟨env, sto⟩).bind fun a => ((JE a).run ⟨env, sto⟩).bind fun a => ((Jj F g a n new).run ⟨env, sto⟩).bind fun e => Jq F r (new + n) ⟨(d, e.val) :: env, upd e.ws sto⟩ (lgA lg (rdO F (.call g args n) new ⟨env, sto⟩) (e.ws.map (·.1))))) ∧
 (∀ F r new env sto lg g args n, Jq F (⟨.call g args n, none, none⟩ :: r) new ⟨env, sto⟩ lg = dds n new sto (((evs args).run ⟨env, sto⟩).bind fun a => ((JE a).run ⟨env, sto⟩).bind fun a => ((Jj F g a n new).run ⟨env, sto⟩).bind fun e => Jq F r (new + n) ⟨env, upd e.ws sto⟩ (lgA lg (rdO F (.call g args n) new ⟨env, sto⟩) (e.ws.map (·.1))))) ∧
 (∀ F r new env sto lg d z os, Jq F (⟨.newboxo z os, some d, none⟩ :: r) new ⟨env, sto⟩ lg = dds (os.length + 1) new sto (Jq F r (new + (os.length + 1)) ⟨(d, .ptr (new + os.length) 0) :: env, upd (J3t os new ++ [(new + os.length, .box (J7R os new (z.map .p)))]) sto⟩ (lgA lg (rdO F (.newboxo z os) new ⟨env, sto⟩) ((J3t os new ++ [(new + os.length, Blk.box (J7R os new (z.map .p)))]).map (·.1))))) ∧
 (∀ F r new env sto lg e x, Jq F (⟨.storen e x, none, none⟩ :: r) new ⟨env, sto⟩ lg = (evv x env).bind fun a => dds 1 new sto (((J1L 1 a (.slr new 0 0)).run ⟨env, sto⟩).bind fun q => Jq F r (new + 1) ⟨env, upd ((new, .arr true e []) :: q.ws) sto⟩ (lgA lg (rdO F (.storen e x) new ⟨env, sto⟩) (new :: q.ws.map (·.1))))) ∧
 (∀ F r new env sto lg d z ps os, Jq F (⟨.buildo z ps os, some d, none⟩ :: r) new ⟨env, sto⟩ lg = ((J2M ps).run ⟨env, sto⟩).bind fun l => (J1b l (J7R os new (z.map .p))).bind fun cs => (J1R true cs).bind fun v => dds os.length new sto (Jq F r (new + os.length) ⟨(d, v) :: env, upd (J3t os new) sto⟩ (lgA lg (rdO F (.buildo z ps os) new ⟨env, sto⟩) ((J3t os new).map (·.1))))) ∧
 (∀ F r new env sto lg d g kp args n, Jq F (⟨.callo g kp args n, some d, none⟩ :: r) new ⟨env, sto⟩ lg = dds n new sto (((evs args).run ⟨env, sto⟩).bind fun a => ((J2v kp a).run ⟨env, sto⟩).bind fun a => ((J3N F g a n new).run ⟨env, sto⟩).bind fun e => Jq F r (new + n) ⟨(d, e.val) :: env, upd e.ws sto⟩ (lgA lg (rdO F (.callo g kp args n) new ⟨env, sto⟩) (e.ws.map (·.1))))) ∧
 (∀ F r new env sto lg g kp args n, Jq F (⟨.callo g kp args n, none, none⟩ :: r) new ⟨env, sto⟩ lg = dds n new sto (((evs args).run ⟨env, sto⟩).bind fun a => ((J2v kp a).run ⟨env, sto⟩).bind fun a => ((J3N F g a n new).run ⟨env, sto⟩).bind fun e => Jq F r (new + n) ⟨env, upd e.ws sto⟩ (lgA lg (rdO F (.callo g kp args n) new ⟨env, sto⟩) (e.ws.map (·.1))))) ∧
 (∀ {α : Type} (n new : Nat) (sto : List Blk) (o : Option α), dds (n + 1) new sto o = dd1 sto[new]? (dds n (new + 1) sto o)) ∧
 (∀ F r new env sto lg op d g w, Jq F (⟨op, d, some (g, w)⟩ :: r) new ⟨env, sto⟩ lg = grd (lk g env) w (hold (Jq F (⟨op, d, none⟩ :: r) new ⟨env, sto⟩ lg) (.mk _)) (hold (Jq F r (new + JI op) (put d ⟨J13, []⟩ ⟨env, sto⟩) (lgA lg [] [])) (.mk _))) ∧
 (∀ {α : Type} (a b : Option α) (h : Dum a), grd (some (.p (.b true))) true (hold a h) b = a) ∧
 (∀ {α : Type} (a b : Option α) (h : Dum b), grd (some (.p (.b true))) false a (hold b h) = b) ∧
 (∀ {α : Type} (a b : Option α) (h : Dum b), grd (some (.p (.b false))) true a (hold b h) = b) ∧
 (∀ {α : Type} (a b : Option α) (h : Dum a), grd (some (.p (.b false))) false (hold a h) b = a) ∧
 (∀ {α : Type} (w : Bool) (a b : Option α) (h : Dum b), grd (some (.tup [])) w a (hold b h) = b) ∧
 (∀ {β : Type} (a b : Option AV) (K : AV → Option β) (h : Dum K), pkh (.p (.b true)) a b (hold K h) = a.bind K) ∧
 (∀ {β : Type} (a b : Option AV) (K : AV → Option β) (h : Dum K), pkh (.p (.b false)) a b (hold K h) = b.bind K) ∧
 (∀ {α β : Type} (a : α) (f : α → Option β), Option.bind (some a) f = f a) ∧
 (∀ {α : Type} (new : Nat) (sto : List Blk) (o : Option α), dds 0 new sto o = o) ∧
 (∀ {α : Type} (new : Nat) (sto : List Blk) (o : Option α), dds 1 new sto o = dd1 sto[new]? o) ∧
 (∀ {α : Type} (o : Option α), dd1 (some .dead) o = o) :=
 ⟨by intro T f m k s; exact JvM T f m k s,
 by intro T f m k a b s; exact Jwf T f m k a b s,
 by intro T f m k d ins env sto; exact Jvf T f m k d ins env sto,
 by intro T f m k d q ps ins env sto; exact Jv4 T f m k d q ps ins env sto,
 by intro T f m k i c s; exact Jt6 T f m k i c s,
 by intro T f m k c s; exact Jtx T f m k c s,
 by intro T f m k i s; exact JvS T f m k i s,
 by intro T f m k s; exact Jw6 T f m k s,
 by intro T f m k live c env sto; exact Jw3 T f m k live c env sto,
 by intro T f m k live c env sto; exact Jvh T f m k live c env sto,
 by intro T f m k live c env sto; exact Jvd T f m k live c env sto,
 by intro T f m k x a b env sto; exact JvQ T f m k x a b env sto,
 by intros; rfl,
 by intros; rfl,
 by intros; rfl,
 by intros; rfl,
 by intros; rfl,
 by intros; rfl,
 by intro T f m k i j s; exact JuB T f m k i j s,
 by intros; rfl,
 by intro T f m k n live e s; exact (JxE T f m k n live e s).trans (by cases J66 n live s <;> rfl),
 by intros; rfl,
 by intros; rfl,
 by intros; rfl,
 by intros; rfl,
 by intros; rfl,
 by intro T f m s; exact Jvn T f m s,
 by intro T f m s; exact Ju3 T f m s,
 by intros; rfl,
 by intros; rfl,
 by intros; rfl,
 by intros; rfl,
 by intros; rfl,
 by intros; rfl,
 by intros; rfl,
 by intros; rfl,
 by intros; rfl,
 by intro F r new env sto lg d x; rw [st0 (h := rfl)]; simp only [opR, run_bind, J0E]; exact Jx7,
 by intro F r new env sto lg d c a b; rw [st0 (h := rfl)]; simp only [opR, run_bind, J0E]; exact Jsz,
 by intro F r new env sto lg d op t x y; rw [st0 (h := rfl)]; simp only [opR, run_bind, J0E]; exact Jld (g := fun a c => J0D op t a c),
 by intro F r new env sto lg d op x; rw [st0 (h := rfl)]; simp only [opR, run_bind, J0E]; exact Jem (g := fun a => unP op a),
 by intro F r new env sto lg d g off n x; rw [st0 (h := rfl)]; simp only [opR, run_bind, J0E]; exact Jem (g := fun a => J61 g off n a),
 by intro F r new env sto lg d off x; rw [st0 (h := rfl)]; simp only [opR, run_bind, J0E]; exact Jem (g := fun a => JbM off a),
 by intro F r new env sto lg d x i; rw [st0 (h := rfl)]; simp only [opR, run_bind, J0E]; exact Jem (g := fun a => Jhb i a),
 by intro F r new env sto lg d b x; rw [st0 (h := rfl)]; simp only [opR, run_bind, J0E]; exact Jem (g := fun a => JfR b a),
 by intro F r new env sto lg d n; rw [st0 (h := rfl)]; rfl,
 by intro F r new env sto lg d b x y; rw [st0 (h := rfl)]; simp only [opR, run_bind, J0E]; exact Jld (g := fun a c => mmP b a c),
 by intro F r new env sto lg d n e x i; rw [st0 (h := rfl)]; simp only [opR, run_bind, J0E]; exact Jld (g := fun a c => JbO n e a c),
 by intro F r new env sto lg d e x i; rw [st0 (h := rfl)]; simp only [opR, run_bind, J0E]; exact JiM (g := fun a c => (J3h e a c).run ⟨env, sto⟩),
 by intro F r new env sto lg d x i; rw [st0 (h := rfl)]; simp only [opR, run_bind, J0E]; exact JvB,
 by intro F r new env sto lg d g n e x i; rw [st0 (h := rfl)]; simp only [opR, run_bind, J0E]; exact JuO,
 by intro F r new env sto lg d x; rw [st0 (h := rfl)]; simp only [opR, run_bind, J0E]; exact JvG,
 by intro F r new env sto lg d g n x; rw [st0 (h := rfl)]; simp only [opR, run_bind, J0E]; exact JnF (g := fun a => (J2c g n a).run ⟨env, sto⟩),
 by intro F r new env sto lg n x y; rw [JxV (h := rfl)]; simp only [opR, run_bind, J0E]; exact JiM (g := fun a c => (J1L n a c).run ⟨env, sto⟩),
 by intro F r new env sto lg d c x; exact Jtw,
 by intro F r new env sto lg d z ps; exact Jsd,
 by intro F r new env sto lg d s x lo hi mx; exact Js8,
 by intro F r new env sto lg d e b z x y; rw [st0 (h := rfl)]; simp only [opR, run_bind, J0E]; exact JiM (g := fun a c => (J5e e b a c).run ⟨env, sto⟩),
 by intro F r new env sto lg d e b z x y; rw [st0 (h := rfl)]; simp only [opR, run_bind, J0E]; exact Jrt,
 by intro F r new env sto lg d g a c; exact Jul,
 by intro F r new env sto lg d g args n; exact Js6,
 by intro F r new env sto lg g args n; exact JqO,
 by intros; rfl,
 by intro F r new env sto lg d e b z y; exact JsL,
 by intro F r new env sto lg d e b z x y; exact JsR,
 by intro F r new env sto lg d z; exact JqI,
 by intro F r new env sto lg d e x; exact Jsy,
 by intro F r new env sto lg d n x; exact Jv6,
 by intro F r new env sto lg d o e n z ps; exact Jta,
 by intro F r new env sto lg d o e b z l c; exact Jpj,
 by intro F r new env sto lg d g args n; exact JtV,
 by intro F r new env sto lg g args n; exact JrW,
 by intro F r new env sto lg d z os; exact Jpm,
 by intro F r new env sto lg e x; exact JqS,
 by intro F r new env sto lg d z ps os; exact Jri,
 by intro F r new env sto lg d g kp args n; exact Jsu,
 by intro F r new env sto lg g kp args n; exact JqW,
 by intro α n new sto o; exact JxW ..,
 by intro F r new env sto lg op d g w; exact JvH ..,
 by intros; rfl,
 by intros; rfl,
 by intros; rfl,
 by intros; rfl,
 by intros; rfl,
 by intros; rfl,
 by intros; rfl,
 by intros; rfl,
 by intros; rfl,
 by intro α new sto o; exact Jy8 ..,
 by intros; rfl⟩
set_option maxRecDepth 30000 in
theorem Ua : (∀ n m v r, lk n ((m, v) :: r) = if n = m then some v else lk n r) ∧
 (∀ n env, evv (.t n) env = lk n env) ∧
 (∀ v env, evv (.c v) env = some v) ∧
 (∀ a b, pk (.p (.b true)) a b = a) ∧
 (∀ a b, pk (.p (.b false)) a b = b) ∧
 (∀ env, restr [] env = []) ∧
 (∀ k l env, restr (k :: l) env = Jr5 k (lk k env) (restr l env)) ∧
 (∀ k v l, Jr5 k (some v) l = (k, v) :: l) ∧
 (∀ k l, Jr5 k none l = l) ∧
 (∀ n, lk n [] = none) ∧
 (news [] = 0) ∧
 (∀ i r, news (i :: r) = JI i.op + news r) ∧
 (∀ x, JI (.mv x) = 0) ∧
 (∀ e x, JI (.mkarr e x) = 1) ∧
 (∀ a b c, JI (.pick a b c) = 0) ∧
 (∀ z, JI (.newbox z) = 1) ∧
 (∀ n x, JI (.box n x) = 1) ∧
 (∀ z ps, JI (.build z ps) = 0) ∧
 (∀ o e n z ps, JI (.lits o e n z ps) = if o then 1 else 0) ∧
 (∀ g n x, JI (.load g n x) = 0) ∧
 (∀ n x y, JI (.store n x y) = 0) ∧
 (∀ x, JI (.nilchk x) = 0) ∧
 (∀ op t x y, JI (.bin op t x y) = 0) ∧
 (∀ op x, JI (.un op x) = 0) ∧
 (∀ c x, JI (.conv (.int c) x) = 0) ∧
 (∀ x, JI (.conv .same x) = 0) ∧
 (∀ x, JI (.conv .toStr x) = 0) ∧
 (∀ o x, JI (.conv (.toBytes o) x) = if o then 1 else 0) ∧
 (∀ o e b z l c, JI (.mkslice o e b z l c) = if o then 1 else 0) ∧
 (∀ s x lo hi mx, JI (.slice s x lo hi mx) = 0) ∧
 (∀ off x, JI (.faddr off x) = 0) ∧
 (∀ g off n x, JI (.field g off n x) = 0) ∧
 (∀ e x i, JI (.iaddr e x i) = 0) ∧
 (∀ n e x i, JI (.aaddr n e x i) = 0) ∧
 (∀ x i, JI (.sidx x i) = 0) ∧
 (∀ g n e x i, JI (.aidx g n e x i) = 0) ∧
 (∀ x i, JI (.extr x i) = 0) ∧
 (∀ g args n, JI (.call g args n) = n) ∧
 (∀ g args n, JI (.callv g args n) = n) ∧
 (∀ b x, JI (.len b x) = 0) ∧
 (∀ n, JI (.alen n) = 0) ∧
 (∀ e b z x y, JI (.app e b z x y) = 0) ∧
 (∀ e b z x y, JI (.appz e b z x y) = 0) ∧
 (∀ e b z y, JI (.appn e b z y) = 1) ∧
 (∀ e b z x y, JI (.appc e b z x y) = 1) ∧
 (∀ b x y, JI (.mm b x y) = 0) ∧
 (∀ g a c, JI (.mkfn g a c) = 0) ∧
 (∀ z os, JI (.newboxo z os) = os.length + 1) ∧
 (∀ z ps os, JI (.buildo z ps os) = os.length) ∧
 (∀ e x, JI (.storen e x) = 1) ∧
 (∀ g kp args n, JI (.callo g kp args n) = n) ∧
 (∀ sto, room 0 sto = sto) ∧
 (∀ n sto, room (n + 1) sto = sto ++ .dead :: List.replicate n .dead) ∧
 (∀ sto, upd [] sto = sto) ∧
 (∀ b x ws sto, upd ((b, x) :: ws) sto = upd ws (sto.set b x)) ∧
 (∀ d v ws env sto, put (some d) ⟨v, ws⟩ ⟨env, sto⟩ = ⟨(d, v) :: env, upd ws sto⟩) ∧
 (∀ v ws env sto, put none ⟨v, ws⟩ ⟨env, sto⟩ = ⟨env, upd ws sto⟩) ∧
 (J13 = .tup []) ∧
 (∀ {α β : Type} (a : α) (f : α → β), Option.map f (some a) = some (f a)) ∧
 (∀ k x y, J0D .add .plain (.p (.i k x)) (.p (.i k y)) = some (.p (.i k (k.wrap (x + y))))) ∧
 (∀ k x y, J0D .sub .plain (.p (.i k x)) (.p (.i k y)) = some (.p (.i k (k.wrap (x - y))))) ∧
 (∀ k x y, J0D .mul .plain (.p (.i k x)) (.p (.i k y)) = some (.p (.i k (k.wrap (x * y))))) ∧
 (∀ k x y, J0D .and .plain (.p (.i k x)) (.p (.i k y)) = some (.p (.i k (J59 k x y)))) ∧
 (∀ k x y, J0D .or .plain (.p (.i k x)) (.p (.i k y)) = some (.p (.i k (orI k x y)))) ∧
 (∀ k x y, J0D .xor .plain (.p (.i k x)) (.p (.i k y)) = some (.p (.i k (J5Z k x y)))) ∧
 (∀ k x y, J0D .eql .plain (.p (.i k x)) (.p (.i k y)) = some (.p (.b (x == y)))) ∧
 (∀ k x y, J0D .neq .plain (.p (.i k x)) (.p (.i k y)) = some (.p (.b (x != y)))) ∧
 (∀ k x y, J0D .lss .plain (.p (.i k x)) (.p (.i k y)) = some (.p (.b (decide (x < y))))) ∧
 (∀ k x y, J0D .leq .plain (.p (.i k x)) (.p (.i k y)) = some (.p (.b (decide (x ≤ y))))) ∧
 (∀ k x y, J0D .gtr .plain (.p (.i k x)) (.p (.i k y)) = some (.p (.b (decide (x > y))))) ∧
 (∀ k x y, J0D .geq .plain (.p (.i k x)) (.p (.i k y)) = some (.p (.b (decide (x ≥ y))))) ∧
 (∀ k x y, J0D .quo .plain (.p (.i k x)) (.p (.i k y)) = (Jx9 k x y).map fun z => .p (.i k z)) ∧
 (∀ k x y, J0D .rem .plain (.p (.i k x)) (.p (.i k y)) = (JkO x y).map fun z => .p (.i k z)) ∧
 (∀ k k2 x y, J0D .shl .plain (.p (.i k x)) (.p (.i k2 y)) = (Jgy k x y).map fun z => .p (.i k z)) ∧
 (∀ k k2 x y, J0D .shr .plain (.p (.i k x)) (.p (.i k2 y)) = (J8X k x y).map fun z => .p (.i k z)) ∧
 (∀ x y, J0D .add .plain (.p (.s x)) (.p (.s y)) = (J2I x y).map fun z => .p (.s z)) ∧
 (∀ x y, J0D .eql .plain (.p (.s x)) (.p (.s y)) = some (.p (.b (x == y)))) ∧
 (∀ x y, J0D .neq .plain (.p (.s x)) (.p (.s y)) = some (.p (.b (!(x == y))))) ∧
 (∀ x y, J0D .lss .plain (.p (.s x)) (.p (.s y)) = some (.p (.b (Op.bytesLess x y)))) ∧
 (∀ x y, J0D .leq .plain (.p (.s x)) (.p (.s y)) = some (.p (.b (Op.bytesLess x y || x == y)))) ∧
 (∀ x y, J0D .gtr .plain (.p (.s x)) (.p (.s y)) = some (.p (.b (!(Op.bytesLess x y || x == y))))) ∧
 (∀ x y, J0D .geq .plain (.p (.s x)) (.p (.s y)) = some (.p (.b (!Op.bytesLess x y)))) ∧
 (∀ x y, J0D .eql .bool (.p (.b x)) (.p (.b y)) = some (.p (.b (x == y)))) ∧
 (∀ x y, J0D .neq .bool (.p (.b x)) (.p (.b y)) = some (.p (.b (!(x == y))))) ∧
 (∀ ks a c, J0D .eql (.flat ks) (.data a) (.data c) = (J0Z ks a c).map fun x => .p (.b x)) ∧
 (∀ ks a c, J0D .neq (.flat ks) (.data a) (.data c) = (J0Z ks a c).map fun x => .p (.b (!x))) ∧
 (∀ b o y, J0D .eql .nilp (.ptr b o) y = some (.p (.b false))) ∧
 (∀ b o y, J0D .neq .nilp (.ptr b o) y = some (.p (.b true))) ∧
 (∀ k n, unP .neg (.p (.i k n)) = some (.p (.i k (k.wrap (0 - n))))) ∧
 (∀ k n, unP .xor (.p (.i k n)) = some (.p (.i k (JqK k n)))) ∧
 (∀ x, unP .not (.p (.b x)) = some (.p (.b (!x)))) ∧
 ((!true) = false) ∧
 ((!false) = true) ∧
 (∀ k x y, mmP true (.p (.i k x)) (.p (.i k y)) = some (.p (.i k (Jj5 x y)))) ∧
 (∀ k x y, mmP false (.p (.i k x)) (.p (.i k y)) = some (.p (.i k (Jii x y)))) ∧
 (∀ off b o, JbM off (.ptr b o) = some (.ptr b (o + off))) ∧
 (∀ off o cs, JbM off (.cp cs o) = some (.cp cs (o + off))) ∧
 (∀ off b e i o, JbM off (.ep b e i o) = some (.ep b e i (o + off))) ∧
 (∀ g off n cs, J61 g off n (.data cs) = (sub cs off n).bind (J25 g)) ∧
 (∀ g off n c cs, J61 g off n (.agg (c :: cs)) = (sub (c :: cs) off n).bind (J1R g)) ∧
 (∀ cs, J25 true cs = some (.data cs)) ∧
 (∀ c, J25 false [c] = some (.p c)) ∧
 (∀ cs, J1R true (cs.map AV.p) = some (.data cs)) ∧
 (∀ c cs, J1R true (c :: cs) = some (Jnw (c :: cs) (unp (c :: cs)))) ∧
 (∀ c, J1R false [c] = some c) ∧
 (∀ cs l, Jnw cs (some l) = .data l) ∧
 (∀ c, Option.map (fun l => c :: l) (none : Option (List PV)) = none) ∧
 (∀ cs, Jnw cs none = .agg cs) ∧
 (unp [] = some []) ∧
 (∀ c r, unp (.p c :: r) = (unp r).map fun l => c :: l) ∧
 (∀ b i n r, unp (.slr b i n :: r) = none) ∧
 (∀ b i r, unp (.ptr b i :: r) = none) ∧
 (∀ b e i o r, unp (.ep b e i o :: r) = none) ∧
 (∀ f a c r, unp (.fn f a c :: r) = none) ∧
 (∀ i vs, Jhb i (.tup vs) = vs[i]?) ∧
 (∀ l, JfR true (.p (.s l)) = some (.p (.i .i64 l.length))) ∧
 (∀ e rows, JfR false (.p (.sl e rows)) = some (.p (.i .i64 rows.length))) ∧
 (∀ b i n, JfR false (.slr b i n) = some (.p (.i .i64 n))) ∧
 (∀ {α β : Type} (g : α → β) (l : List α), (l.map g).length = l.length) ∧
 (∀ b o, Jof (.ptr b o) = some (.ptr b o)) ∧
 (∀ cs o, Jof (.cp cs o) = some (.cp cs o)) ∧
 (∀ b e i o, Jof (.ep b e i o) = some (.ep b e i o)) ∧
 (∀ env sto g n cs off, (J2c g n (.cp cs off)).run ⟨env, sto⟩ = (sub cs off n).bind fun l => (J25 g l).map fun v => ⟨v, []⟩) ∧
 (∀ env sto g n b off, (J2c g n (.ptr b off)).run ⟨env, sto⟩ = sto[b]?.bind fun B => ldB g n off B) ∧
 (∀ env sto g n b e i off, (J2c g n (.ep b e i off)).run ⟨env, sto⟩ = sto[b]?.bind fun B => ldE g n e i off B) ∧
 (∀ g n off cs, ldB g n off (.box (cs.map AV.p)) = (sub cs off n).bind fun l => (J25 g l).map fun v => ⟨v, []⟩) ∧
 (∀ g n off c cs, ldB g n off (.box (c :: cs)) = (sub (c :: cs) off n).bind fun l => (J1R g l).map fun v => ⟨v, []⟩) ∧
 (∀ g n e i off z w rows, ldE g n e i off (.arr w z rows) = if e = rows.length then rows[i]?.bind fun row => (sub row off n).bind fun l => (J25 g l).map fun v => ⟨v, []⟩ else none) ∧
 (∀ env sto n b off v, (J1L n (.ptr b off) v).run ⟨env, sto⟩ = sto[b]?.bind fun B => (cellsOf v).bind fun l => stB n b off l B) ∧
 (∀ n b off cs vs, stB n b off (vs.map AV.p) (.box (cs.map AV.p)) = if vs.length = n then (spl cs off vs).map fun cs => ⟨J13, [(b, .box (cs.map AV.p))]⟩ else none) ∧
 (∀ b off cs v, stB 1 b off [AV.p v] (.box (cs.map AV.p)) = (spl cs off [v]).map fun cs => ⟨J13, [(b, .box (cs.map AV.p))]⟩) ∧
 (∀ env sto n b e i off v, (J1L n (.ep b e i off) v).run ⟨env, sto⟩ = sto[b]?.bind fun B => stE n b e i off v B ⟨env, sto⟩) ∧
 (∀ n b e i off z c rows s, stE n b e i off (.p c) (.arr true z rows) s = if e = rows.length then rows[i]?.bind fun row => if 1 = n then (spl row off [c]).map fun row => ⟨J13, [(b, .arr true z (rows.set i row))]⟩ else none else none) ∧
 (∀ n b e i off z cs rows s, stE n b e i off (.data cs) (.arr true z rows) s = if e = rows.length then rows[i]?.bind fun row => if cs.length = n then (spl row off cs).map fun row => ⟨J13, [(b, .arr true z (rows.set i row))]⟩ else none else none) ∧
 (∀ c, cellsOf (.p c) = some [.p c]) ∧
 (∀ cs, cellsOf (.data cs) = some (cs.map AV.p)) ∧
 (∀ cs, cellsOf (.agg cs) = some cs) ∧
 (∀ f a c, cellsOf (.fn f a c) = some [.fn f a c]) ∧
 (∀ b i n, cellsOf (.slr b i n) = some [.slr b i n]) ∧
 (∀ b o, cellsOf (.ptr b o) = some [.ptr b o]) ∧
 (∀ c, bxP 1 (.p c) = some [.p c]) ∧
 (∀ n cs, bxP n (.data cs) = if cs.length = n then some (cs.map AV.p) else none) ∧
 (∀ n cs, bxP n (.agg cs) = if cs.length = n then some cs else none) ∧
 (∀ b i n, bxP 1 (.slr b i n) = some [.slr b i n]) ∧
 (∀ env sto e rows k n, (J3h e (.p (.sl e rows)) (.p (.i k n))).run ⟨env, sto⟩ = (Jcp rows n).map fun row => ⟨.cp row 0, []⟩) ∧
 (∀ env sto e b m k n, (J3h e (.slr b 0 m) (.p (.i k n))).run ⟨env, sto⟩ = sto[b]?.bind fun B => iaB e b m n B) ∧
 (∀ e b m n w rows, iaB e b m n (.arr w e rows) = if m = rows.length ∧ 0 ≤ n ∧ n < m then some ⟨.ep b rows.length n.toNat 0, []⟩ else none) ∧
 (∀ n e b off k i, JbO n e (.ptr b off) (.p (.i k i)) = if 0 ≤ i ∧ i < n then some (.ptr b (off + i.toNat * e)) else none) ∧
 (∀ n e off cs k i, JbO n e (.cp cs off) (.p (.i k i)) = if 0 ≤ i ∧ i < n then some (.cp cs (off + i.toNat * e)) else none) ∧
 (∀ n e b x j off k i, JbO n e (.ep b x j off) (.p (.i k i)) = if 0 ≤ i ∧ i < n then some (.ep b x j (off + i.toNat * e)) else none) ∧
 (∀ l k n, Jli (.p (.s l)) (.p (.i k n)) = (JcH l n).map fun v => .p (.i .u8 v)) ∧
 (∀ g n e cs k i, Jj6 g n e (.agg cs) (.p (.i k i)) = if 0 ≤ i ∧ i < n then J61 g (i.toNat * e) e (.agg cs) else none) ∧
 (∀ g n e cs k i, Jj6 g n e (.data cs) (.p (.i k i)) = if 0 ≤ i ∧ i < n then (sub cs (i.toNat * e) e).bind (J25 g) else none) ∧
 (∀ env sto c k n new, (cvR (.int c) (.p (.i k n)) new).run ⟨env, sto⟩ = some ⟨.p (.i c (c.wrap n)), []⟩) ∧
 (∀ env sto l new, (cvR .same (.p (.s l)) new).run ⟨env, sto⟩ = some ⟨.p (.s l), []⟩) ∧
 (∀ env sto l new, (cvR .toStr (.p (.sl 1 (l.map (r_i .u8)))) new).run ⟨env, sto⟩ = some ⟨.p (.s (toStr l)), []⟩) ∧
 (∀ env sto b n new, (cvR .toStr (.slr b 0 n) new).run ⟨env, sto⟩ = sto[b]?.bind fun B => cvB n B) ∧
 (∀ n w l, cvB n (.arr w 1 (l.map (r_i .u8))) = if n = l.length then some ⟨.p (.s (toStr l)), []⟩ else none) ∧
 (∀ env sto l new, (cvR (.toBytes false) (.p (.s l)) new).run ⟨env, sto⟩ = some ⟨.p (.sl 1 ((Jab l).map (r_i .u8))), []⟩) ∧
 (∀ env sto l new, (cvR (.toBytes true) (.p (.s l)) new).run ⟨env, sto⟩ = some ⟨.slr new 0 (Jab l).length, [(new, .arr true 1 ((Jab l).map (r_i .u8)))]⟩) ∧
 (∀ env sto, (J2M []).run ⟨env, sto⟩ = some []) ∧
 (∀ env sto off size x r, (J2M ((off, size, x) :: r)).run ⟨env, sto⟩ = (evv x env).bind fun v => (cellsOf v).bind fun cs => ((J2M r).run ⟨env, sto⟩).bind fun l => some ((off, size, cs) :: l)) ∧
 (∀ cs, J1b [] cs = some cs) ∧
 (∀ off size vs cs r, J1b ((off, size, vs.map AV.p) :: r) (cs.map AV.p) = if vs.length = size then (spl cs off vs).bind fun cs => J1b r (cs.map AV.p) else none) ∧
 (∀ off v cs r, J1b ((off, 1, [AV.p v]) :: r) (cs.map AV.p) = (spl cs off [v]).bind fun cs => J1b r (cs.map AV.p)) ∧
 (∀ env sto, (evs []).run ⟨env, sto⟩ = some []) ∧
 (∀ env sto x r, (evs (x :: r)).run ⟨env, sto⟩ = (evv x env).bind fun v => ((evs r).run ⟨env, sto⟩).bind fun vs => some (v :: vs)) ∧
 (∀ n, J3t [] n = []) ∧
 (∀ o e r n, J3t ((o, e) :: r) n = (n, .arr true e []) :: J3t r (n + 1)) ∧
 (∀ n cs, J7R [] n cs = cs) ∧
 (∀ o e r n cs, J7R ((o, e) :: r) n cs = J7R r (n + 1) (cs.set o (.slr n 0 0))) ∧
 (∀ env sto m, (J2v m []).run ⟨env, sto⟩ = some ([], [])) ∧
 (∀ env sto l, (J2v [] l).run ⟨env, sto⟩ = (JE l).run ⟨env, sto⟩) ∧
 (∀ env sto x m r, (J2v (true :: m) (x :: r)).run ⟨env, sto⟩ = ((J2v m r).run ⟨env, sto⟩).bind fun c => some (x :: c.1, c.2)) ∧
 (∀ env sto x m r, (J2v (false :: m) (x :: r)).run ⟨env, sto⟩ = ((JE [x]).run ⟨env, sto⟩).bind fun a => ((J2v m r).run ⟨env, sto⟩).bind fun c => some (a.1 ++ c.1, a.2 ++ c.2)) ∧
 (∀ env sto, (JE []).run ⟨env, sto⟩ = some ([], [])) ∧
 (∀ env sto c r, (JE (.p c :: r)).run ⟨env, sto⟩ = ((JE r).run ⟨env, sto⟩).bind fun a => some (.p c :: a.1, a.2)) ∧
 (∀ env sto c r, (JE (.data c :: r)).run ⟨env, sto⟩ = ((JE r).run ⟨env, sto⟩).bind fun a => some (.data c :: a.1, a.2)) ∧
 (∀ env sto b o r, (JE (.ptr b o :: r)).run ⟨env, sto⟩ = ((JE r).run ⟨env, sto⟩).bind fun a => some (.ptr b o :: a.1, a.2)) ∧
 (∀ env sto c o r, (JE (.cp c o :: r)).run ⟨env, sto⟩ = ((JE r).run ⟨env, sto⟩).bind fun a => some (.cp c o :: a.1, a.2)) ∧
 (∀ env sto b x i o r, (JE (.ep b x i o :: r)).run ⟨env, sto⟩ = ((JE r).run ⟨env, sto⟩).bind fun a => some (.ep b x i o :: a.1, a.2)) ∧
 (∀ env sto b n r, (JE (.slr b 0 n :: r)).run ⟨env, sto⟩ = sto[b]?.bind fun B => (frz b n B).bind fun x => ((JE r).run ⟨env, sto⟩).bind fun a => some (x.1 :: a.1, x.2 :: a.2)) ∧
 (∀ env sto cs r, (JE (.agg cs :: r)).run ⟨env, sto⟩ = ((fz.fzL cs).run ⟨env, sto⟩).bind fun x => ((JE r).run ⟨env, sto⟩).bind fun a => some (.data x.1 :: a.1, x.2 ++ a.2)) ∧
 (∀ b n z w rows, frz b n (.arr w z rows) = if n = rows.length then some (.p (.sl z rows), (b, .arr false z rows)) else none) ∧
 (∀ env sto, (fz.fzL []).run ⟨env, sto⟩ = some ([], [])) ∧
 (∀ env sto c r, (fz.fzL (.p c :: r)).run ⟨env, sto⟩ = ((fz.fzL r).run ⟨env, sto⟩).bind fun a => some (c :: a.1, a.2)) ∧
 (∀ env sto b n r, (fz.fzL (.slr b 0 n :: r)).run ⟨env, sto⟩ = sto[b]?.bind fun B => (frp b n B).bind fun x => ((fz.fzL r).run ⟨env, sto⟩).bind fun a => some (x.1 :: a.1, x.2 :: a.2)) ∧
 (∀ b n z w rows, frp b n (.arr w z rows) = if n = rows.length then some (.sl z rows, (b, .arr false z rows)) else none) ∧
 (∀ env sto f a c r, (JE (.fn f a c :: r)).run ⟨env, sto⟩ = ((JE r).run ⟨env, sto⟩).bind fun x => some (.fn f a c :: x.1, x.2)) ∧
 (∀ m ids sto f a c, fin m ids sto (.fn f a c) = (fin.finL m ids sto a).bind fun a1 => (fin.finL m ids sto c).bind fun c1 => some (.fn f a1 c1)) ∧
 (∀ f a c l, J09 (.fn f a c) l = J09.entsOfL c (J09.entsOfL a l)) ∧
 (∀ ws s, JK ws s [] [] = True) ∧
 (∀ ws s b bs cs css, JK ws s (b :: bs) (cs :: css) = ((J7x ws b).run s = some (.box cs) ∧ JK ws s bs css)) ∧
 (∀ env sto b c x ws, (J7x ((c, x) :: ws) b).run ⟨env, sto⟩ = sto[b]?.bind fun y => some ((J2w b ((c, x) :: ws)).getD y)) ∧
 (∀ b, J2w b [] = none) ∧
 (∀ b c x r, J2w b ((c, x) :: r) = lwO (J2w b r) (if c = b then some x else none)) ∧
 (∀ x y, lwO (some x) y = some x) ∧
 (∀ y, lwO none y = y) ∧
 (∀ {α : Type} (a b : α), (some a).getD b = a) ∧
 (∀ {α : Type} (b : α), (none : Option α).getD b = b) ∧
 (∀ env sto b, (J7x [] b).run ⟨env, sto⟩ = sto[b]?) ∧
 (∀ env sto e rows, (J0a e (.p (.sl e rows))).run ⟨env, sto⟩ = some rows) ∧
 (∀ env sto l, (J0a 1 (.p (.s l))).run ⟨env, sto⟩ = some ((Jab l).map (r_i .u8))) ∧
 (∀ env sto e b n, (J0a e (.slr b 0 n)).run ⟨env, sto⟩ = sto[b]?.bind fun B => roB e n B) ∧
 (∀ e n w rows, roB e n (.arr w e rows) = if n = rows.length then some rows else none) ∧
 (∀ env sto o e n new z ps, (ltR o e n z ps new).run ⟨env, sto⟩ = ((fzs (ps.map (·.2))).run ⟨env, sto⟩).bind fun a => (J4r e ((ps.map (·.1)).zip a.1) (List.replicate n z)).map fun rows => if o then ⟨.slr new 0 n, a.2 ++ [(new, .arr true e rows)]⟩ else ⟨.p (.sl e rows), a.2⟩) ∧
 (∀ env sto, (fzs []).run ⟨env, sto⟩ = some ([], [])) ∧
 (∀ env sto x r, (fzs (x :: r)).run ⟨env, sto⟩ = (evv x env).bind fun v => ((fz v).run ⟨env, sto⟩).bind fun a => ((fzs r).run ⟨env, sto⟩).bind fun c => some (a.1 :: c.1, a.2 ++ c.2)) ∧
 (∀ env sto c, (fz (.p c)).run ⟨env, sto⟩ = some ([c], [])) ∧
 (∀ env sto cs, (fz (.data cs)).run ⟨env, sto⟩ = some (cs, [])) ∧
 (∀ env sto cs, (fz (.agg cs)).run ⟨env, sto⟩ = (fz.fzL cs).run ⟨env, sto⟩) ∧
 (∀ env sto b n, (fz (.slr b 0 n)).run ⟨env, sto⟩ = sto[b]?.bind fun B => (frp b n B).bind fun x => some ([x.1], [x.2])) ∧
 (∀ e rows, J4r e [] rows = some rows) ∧
 (∀ e i c r rows, J4r e ((i, c) :: r) rows = if c.length = e ∧ i < rows.length then J4r e r (rows.set i c) else none) ∧
 (∀ o e b new z k k2 n m, mkP o e b z (.p (.i k n)) (.p (.i k2 m)) new = if 0 ≤ n ∧ n ≤ m ∧ b * m ≤ 281474976710656 ∧ m ≤ 281474976710656 then some (if o then ⟨.slr new 0 n.toNat, [(new, .arr true e (List.replicate n.toNat z))]⟩ else ⟨.p (.sl e (List.replicate n.toNat z)), []⟩) else none) ∧
 (∀ env, J9P none env = some none) ∧
 (∀ x env, J9P (some x) env = (evv x env).map some) ∧
 (∀ env sto s c lo hi, (slR s (.p c) lo hi none).run ⟨env, sto⟩ = (slX s (.p c) lo hi).map fun v => ⟨v, []⟩) ∧
 (∀ env sto s b n lo hi, (slR s (.slr b 0 n) lo hi none).run ⟨env, sto⟩ = sto[b]?.bind fun B => (frz b n B).bind fun x => (slX s x.1 lo hi).map fun v => ⟨v, [x.2]⟩) ∧
 (∀ x lo hi, slX .str x lo hi = J2Z x lo hi) ∧
 (∀ e x lo hi, slX (.sl e) x lo hi = J9o e x lo hi) ∧
 (∀ n live env sto, J66 n live ⟨env, sto⟩ = if sto.length = n then some ⟨restr live env, sto⟩ else (J9d n sto (restr live env)).bind fun e => (J3R n [] sto (sto.take n)).bind fun l => some ⟨e, l⟩) ∧
 (∀ m sto, J9d m sto [] = some []) ∧
 (∀ m k sto x r, J9d m sto ((k, x) :: r) = (fin m [] sto x).bind fun y => (J9d m sto r).bind fun l => some ((k, y) :: l)) ∧
 (∀ m ids sto, J3R m ids sto [] = some []) ∧
 (∀ m ids sto x r, J3R m ids sto (x :: r) = (J52 m ids sto x).bind fun y => (J3R m ids sto r).bind fun l => some (y :: l)) ∧
 (∀ m ids sto, J52 m ids sto .dead = some .dead) ∧
 (∀ m ids sto w z rows, J52 m ids sto (.arr w z rows) = some (.arr w z rows)) ∧
 (∀ m ids sto cs, J52 m ids sto (.box cs) = (fin.finL m ids sto cs).map .box) ∧
 (∀ (m : Nat) (ids : List Nat) (sto : List Blk) (l : List PV), fin.finL m ids sto (l.map AV.p) = some (l.map AV.p)) ∧
 (∀ m ids sto, fin.finL m ids sto [] = some []) ∧
 (∀ m ids sto x r, fin.finL m ids sto (x :: r) = (fin m ids sto x).bind fun y => (fin.finL m ids sto r).bind fun l => some (y :: l)) ∧
 (∀ m ids sto c, fin m ids sto (.p c) = some (.p c)) ∧
 (∀ m ids sto c, fin m ids sto (.data c) = some (.data c)) ∧
 (∀ m ids sto c o, fin m ids sto (.cp c o) = some (.cp c o)) ∧
 (∀ m ids sto, fin m ids sto (.tup []) = some (.tup [])) ∧
 (∀ m ids sto b off, fin m ids sto (.ptr b off) = if b < m then some (.ptr b off) else (J8Y b ids m).map fun k => .ptr k off) ∧
 (∀ m ids sto b n, fin m ids sto (.slr b 0 n) = if b < m then some (.slr b 0 n) else fsl (J8Y b ids m) n sto[b]?) ∧
 (∀ k n o, fsl (some k) n o = some (.slr k 0 n)) ∧
 (∀ n z w rows, fsl none n (some (.arr w z rows)) = if n = rows.length then some (.p (.sl z rows)) else none) ∧
 (∀ m ids sto cs, fin m ids sto (.agg cs) = (fin.finL m ids sto cs).bind fun l => some (Jnw l (unp l))) ∧
 (∀ m ids sto x cs, fin m ids sto (.tup (x :: cs)) = (fin.finL m ids sto (x :: cs)).map .tup) ∧
 (∀ b k, J8Y b [] k = none) ∧
 (∀ b x k r, J8Y b (x :: r) k = if x = b then some k else J8Y b r (k + 1)) ∧
 (∀ res fresh m env sto, JiQ res fresh m ⟨env, sto⟩ = ((J6w res).run ⟨env, sto⟩).bind fun vs => if sto.length = m then some (one vs, sto) else JqL fresh m vs sto (J1f m fresh sto (J8d sto (J09.entsOfL vs []) (J09.entsOfL vs [])))) ∧
 (∀ fresh m vs sto ids, JqL fresh m vs sto ids = if J45 ids = true then (fin.finL m ids sto vs).bind fun ws => (J3R m ids sto (sto.take m)).bind fun l => (J7D sto ids).bind fun q => (J3R m ids sto q).bind fun q => some (one ws, l ++ q) else none) ∧
 (∀ env sto, (J6w []).run ⟨env, sto⟩ = some []) ∧
 (∀ env sto t r, (J6w (.tmp t :: r)).run ⟨env, sto⟩ = (lk t env).bind fun v => ((J6w r).run ⟨env, sto⟩).bind fun l => some (v :: l)) ∧
 (∀ env sto t n g r, (J6w (.cell t g n :: r)).run ⟨env, sto⟩ = (lk t env).bind fun v => ((J2c g n v).run ⟨env, sto⟩).bind fun e => ((J6w r).run ⟨env, sto⟩).bind fun l => some (e.val :: l)) ∧
 (∀ x, one [x] = x) ∧
 (one [] = .tup []) ∧
 (∀ x y r, one (x :: y :: r) = .tup (x :: y :: r)) ∧
 (∀ m fresh sto, J1f m fresh sto [] = []) ∧
 (∀ m b sto r, J1f m false sto (.whole b :: r) = if b < m then J1f m false sto r else oid b sto[b]? (J1f m false sto r)) ∧
 (∀ m b sto r, J1f m true sto (.whole b :: r) = if b < m then J1f m true sto r else Joc b sto[b]? (J1f m true sto r)) ∧
 (∀ b cs l, Joc b (some (.box cs)) l = b :: l) ∧
 (∀ b z w rows l, Joc b (some (.arr w z rows)) l = b :: l) ∧
 (∀ b cs l, oid b (some (.box cs)) l = b :: l) ∧
 (∀ b z w rows l, oid b (some (.arr w z rows)) l = l) ∧
 (∀ sto acc, J8d sto [] acc = acc) ∧
 (∀ sto b r acc, J8d sto (.whole b :: r) acc = J8d sto r (ebb sto[b]? acc)) ∧
 (∀ cs acc, ebb (some (.box cs)) acc = J09.entsOfL cs acc) ∧
 (∀ z w rows acc, ebb (some (.arr w z rows)) acc = acc) ∧
 (∀ l, J09.entsOfL [] l = l) ∧
 (∀ x r l, J09.entsOfL (x :: r) l = J09.entsOfL r (J09 x l)) ∧
 (∀ (cs : List PV) (l : List Ent), J09.entsOfL (cs.map AV.p) l = l) ∧
 (∀ c l, J09 (.p c) l = l) ∧
 (∀ c l, J09 (.data c) l = l) ∧
 (∀ c o l, J09 (.cp c o) l = l) ∧
 (∀ b o l, J09 (.ptr b o) l = J8u (.whole b) l) ∧
 (∀ b i n l, J09 (.slr b i n) l = J8u (.whole b) l) ∧
 (∀ cs l, J09 (.agg cs) l = J09.entsOfL cs l) ∧
 (∀ cs l, J09 (.tup cs) l = J09.entsOfL cs l) ∧
 (∀ e, J8u e [] = [e]) ∧
 (∀ b c r, J8u (.whole b) (.whole c :: r) = if c = b then .whole c :: r else .whole c :: J8u (.whole b) r) ∧
 (J45 [] = true) ∧
 (∀ x, J45 [x] = true) ∧
 (∀ sto, J7D sto [] = some []) ∧
 (∀ sto b r, J7D sto (b :: r) = sto[b]?.bind fun x => (J7D sto r).bind fun l => some (x :: l)) ∧
 (∀ {α : Type} (a : α) (l : List α), (a :: l)[0]? = some a) ∧
 (∀ {α : Type} (a : α) (l : List α) (n : Nat), (a :: l)[n + 1]? = l[n]?) ∧
 (∀ {α : Type} (n : Nat), ([] : List α)[n]? = none) ∧
 (∀ {α : Type} (a b : α) (l : List α), (a :: l).set 0 b = b :: l) ∧
 (∀ {α : Type} (a b : α) (l : List α) (n : Nat), (a :: l).set (n + 1) b = a :: l.set n b) ∧
 (∀ {α : Type} (l : List α), [] ++ l = l) ∧
 (∀ {α : Type} (l : List α), l ++ [] = l) ∧
 (∀ {α : Type} (a : α) (l r : List α), (a :: l) ++ r = a :: (l ++ r)) ∧
 (∀ {α : Type} (a : α), List.replicate 0 a = []) ∧
 (∀ {α : Type} (a : α) (n : Nat), List.replicate (n + 1) a = a :: List.replicate n a) ∧
 (∀ {α β : Type} (g : α → β), List.map g [] = []) ∧
 (∀ {α β : Type} (g : α → β) (a : α) (l : List α), List.map g (a :: l) = g a :: List.map g l) ∧
 (∀ {α : Type}, ([] : List α).length = 0) ∧
 (∀ {α : Type} (a : α) (l : List α), (a :: l).length = l.length + 1) ∧
 (∀ {α : Type} (l : List α), l.take 0 = []) ∧
 (∀ {α : Type} (a : α) (l : List α) (n : Nat), (a :: l).take (n + 1) = a :: l.take n) ∧
 (∀ {α β : Type} (l : List β), ([] : List α).zip l = []) ∧
 (∀ {α β : Type} (a : α) (b : β) (l : List α) (r : List β), (a :: l).zip (b :: r) = (a, b) :: l.zip r) ∧
 (∀ n, 0 + n = n) ∧
 (∀ n, n + 0 = n) ∧
 (∀ k n, r_i k n = [.i k n]) ∧
 (∀ x, r_b x = [.b x]) ∧
 (∀ x, r_s x = [.s x]) ∧
 (∀ {α : Type} (e : Nat) (g : α → List PV) (l : List α), Jl9 e g l = [.sl e (l.map g)]) ∧
 (∀ (a : PV), sub [a] 0 1 = some [a]) ∧
 (∀ (a b : PV), spl [a] 0 [b] = some [b]) ∧
 (∀ {α : Type} (cs : List α), sub cs 0 0 = some []) ∧
 (∀ {α : Type} (a : α) (cs : List α) (n : Nat), sub (a :: cs) 0 (n + 1) = (sub cs 0 n).map (a :: ·)) ∧
 (∀ {α : Type} (a : α) (cs : List α) (n m : Nat), sub (a :: cs) (n + 1) m = sub cs n m) ∧
 (∀ {α : Type} (cs : List α), spl cs 0 [] = some cs) ∧
 (∀ {α : Type} (a b : α) (cs vs : List α), spl (a :: cs) 0 (b :: vs) = (spl cs 0 vs).map (b :: ·)) ∧
 (∀ {α : Type} (a : α) (cs : List α) (n : Nat) (vs : List α), spl (a :: cs) (n + 1) vs = (spl cs n vs).map (a :: ·)) ∧
 (∀ n b off l c cs, stB n b off l (.box (c :: cs)) = if l.length = n then (spl (c :: cs) off l).map fun cs => ⟨J13, [(b, .box cs)]⟩ else none) ∧
 (∀ off size c a cs r, J1b ((off, size, c) :: r) (a :: cs) = if c.length = size then (spl (a :: cs) off c).bind fun cs => J1b r cs else none) ∧
 (∀ {α : Type} (a b : α), (if True then a else b) = a) ∧
 (∀ {α : Type} (a b : α), (if False then a else b) = b) ∧
 (∀ {α : Type} (a b : α), (if true = true then a else b) = a) ∧
 (∀ {α : Type} (a b : α), (if false = true then a else b) = b) ∧
 (∀ a, (True ∧ a) = a) ∧
 (∀ a, (a ∧ True) = a) ∧
 (∀ {α : Type} (a : α), (a = a) = True) ∧
 (∀ {α β : Type} (a : α) (b : β), (a, b).1 = a) ∧
 (∀ {α β : Type} (a : α) (b : β), (a, b).2 = b) :=
 ⟨by intros; rfl,
 by intros; rfl,
 by intros; rfl,
 by intros; rfl,
 by intros; rfl,
 by intros; rfl,
 by intros; rfl,
 by intros; rfl,
 by intros; rfl,
 by intros; rfl,
 rfl,
 by intros; rfl,
 by intros; rfl,
 by intros; rfl,
 by intros; rfl,
 by intros; rfl,
 by intros; rfl,
 by intros; rfl,
 by intros; rfl,
 by intros; rfl,
 by intros; rfl,
 by intros; rfl,
 by intros; rfl,
 by intros; rfl,
 by intros; rfl,
 by intros; rfl,
 by intros; rfl,
 by intros; rfl,
 by intros; rfl,
 by intros; rfl,
 by intros; rfl,
 by intros; rfl,
 by intros; rfl,
 by intros; rfl,
 by intros; rfl,
 by intros; rfl,
 by intros; rfl,
 by intros; rfl,
 by intros; rfl,
 by intros; rfl,
 by intros; rfl,
 by intros; rfl,
 by intros; rfl,
 by intros; rfl,
 by intros; rfl,
 by intros; rfl,
 by intros; rfl,
 by intros; rfl,
 by intros; rfl,
 by intros; rfl,
 by intros; rfl,
 by intros; rfl,
 by intros; rfl,
 by intros; rfl,
 by intros; rfl,
 by intros; rfl,
 by intros; rfl,
 rfl,
 by intros; rfl,
 by intro k x y; simp only [J0D, if_true, J92, Option.map_some]; try rfl,
 by intro k x y; simp only [J0D, if_true, J92, Option.map_some]; try rfl,
 by intro k x y; simp only [J0D, if_true, J92, Option.map_some]; try rfl,
 by intro k x y; simp only [J0D, if_true, J92, Option.map_some]; try rfl,
 by intro k x y; simp only [J0D, if_true, J92, Option.map_some]; try rfl,
 by intro k x y; simp only [J0D, if_true, J92, Option.map_some]; try rfl,
 by intro k x y; simp only [J0D, if_true, J92, Option.map_some]; try rfl,
 by intro k x y; simp only [J0D, if_true, J92, Option.map_some]; try rfl,
 by intro k x y; simp only [J0D, if_true, J92, Option.map_some]; try rfl,
 by intro k x y; simp only [J0D, if_true, J92, Option.map_some]; try rfl,
 by intro k x y; simp only [J0D, if_true, J92, Option.map_some]; try rfl,
 by intro k x y; simp only [J0D, if_true, J92, Option.map_some]; try rfl,
 by intro k x y; simp only [J0D, if_true, J92, Jx9]; split <;> rfl,
 by intro k x y; simp only [J0D, if_true, J92, JkO]; split <;> rfl,
 by intro k k2 x y; simp only [J0D, JcZ, Jgy]; split <;> rfl,
 by intro k k2 x y; simp only [J0D, JcZ, J8X]; split <;> rfl,
 by intro x y; simp only [J0D, Jo6, J2I]; split <;> rfl,
 by intro x y; rfl,
 by intro x y; rfl,
 by intro x y; rfl,
 by intro x y; rfl,
 by intro x y; rfl,
 by intro x y; rfl,
 by intros; rfl,
 by intros; rfl,
 by intro ks a c; simp only [J0D, J9k]; cases J0Z ks a c <;> rfl,
 by intro ks a c; simp only [J0D, J9k]; cases J0Z ks a c <;> rfl,
 by intros; rfl,
 by intros; rfl,
 by intros; rfl,
 by intros; rfl,
 by intros; rfl,
 rfl,
 rfl,
 by intros; rfl,
 by intros; rfl,
 by intros; rfl,
 by intros; rfl,
 by intros; rfl,
 by intro g off n cs; simp only [J61]; cases sub cs off n <;> rfl,
 by intro g off n c cs; simp only [J61]; cases sub (c :: cs) off n <;> rfl,
 by intros; rfl,
 by intros; rfl,
 by intro cs; exact JhT cs,
 by intro c cs; simp only [J1R, if_true]; cases unp (c :: cs) <;> rfl,
 by intros; rfl,
 by intros; rfl,
 by intros; rfl,
 by intros; rfl,
 rfl,
 by intro c r; simp only [unp]; cases unp r <;> rfl,
 by intros; rfl,
 by intros; rfl,
 by intros; rfl,
 by intros; rfl,
 by intros; rfl,
 by intros; rfl,
 by intros; rfl,
 by intros; rfl,
 by intro α β g l; simp,
 by intros; rfl,
 by intros; rfl,
 by intros; rfl,
 by intro env sto g n cs off; exact Jvq ..,
 by intro env sto g n b off; exact JuP ..,
 by intro env sto g n b e i off; exact Jv9 ..,
 by intro g n off cs; exact Jxr ..,
 by intros; rfl,
 by intros; rfl,
 by intro env sto n b off v; exact JuG ..,
 by intro n b off cs vs; exact Jus ..,
 by intro b off cs v; exact Jxo ..,
 by intro env sto n b e i off v; exact JvN ..,
 by intro n b e i off z c rows s; exact JxJ ..,
 by intro n b e i off z cs rows s; exact Jxs ..,
 by intros; rfl,
 by intros; rfl,
 by intros; rfl,
 by intros; rfl,
 by intros; rfl,
 by intros; rfl,
 by intros; rfl,
 by intro n cs; exact Jx5 ..,
 by intros; rfl,
 by intros; rfl,
 by intro env sto e rows k n; exact Jtv ..,
 by intro env sto e b m k n; exact JtJ ..,
 by intro e b m n w rows; exact Jva ..,
 by intros; rfl,
 by intros; rfl,
 by intros; rfl,
 by intro l k n; exact JwC ..,
 by intros; rfl,
 by intro g n e cs k i; exact Jwi ..,
 by intros; rfl,
 by intros; rfl,
 @Jon,
 by intro env sto b n new; exact Jto ..,
 @Jxt,
 by intro env sto l new; exact JsE ..,
 by intro env sto l new; exact Jsc ..,
 by intros; rfl,
 by intro env sto off size x r; exact JwG ..,
 by intros; rfl,
 by intro off size vs cs r; exact JoJ ..,
 by intro off v cs r; exact JtQ ..,
 by intros; rfl,
 by intro env sto x r; exact JwH ..,
 by intros; rfl,
 by intros; rfl,
 by intros; rfl,
 by intros; rfl,
 by intro env sto m; cases m <;> rfl,
 by intro env sto l; rw [JlH],
 by intro env sto x m r; exact Jvm ..,
 by intro env sto x m r; exact JvL ..,
 by intros; rfl,
 by intro env sto c r; exact Jee _ _ rfl ..,
 by intro env sto c r; exact Jee _ _ rfl ..,
 by intro env sto b o r; exact Jee _ _ rfl ..,
 by intro env sto c o r; exact Jee _ _ rfl ..,
 by intro env sto b x i o r; exact Jee _ _ rfl ..,
 by intro env sto b n r; exact Jt4 ..,
 by intro env sto cs r; exact JsS ..,
 @fr,
 by intros; rfl,
 by intro env sto c r; exact JsQ ..,
 by intro env sto b n r; exact Jt1 ..,
 by intros; rfl,
 by intro env sto f a c r; exact Jee _ _ rfl ..,
 by intro m ids sto f a c; exact Jv0 ..,
 by intros; rfl,
 by intros; rfl,
 by intros; rfl,
 by intro env sto b c x ws; exact JuA ..,
 by intros; rfl,
 by intro b c x r; exact Jwu ..,
 by intros; rfl,
 by intros; rfl,
 by intros; rfl,
 by intros; rfl,
 by intro env sto b; exact JwO ..,
 by intro env sto e rows; exact Jum ..,
 by intro env sto l; exact JtW ..,
 by intro env sto e b n; exact JtU ..,
 by intro e n w rows; exact JsI ..,
 by intro env sto o e n new z ps; exact JwN ..,
 by intros; rfl,
 by intro env sto x r; exact JwU ..,
 by intros; rfl,
 by intros; rfl,
 by intros; rfl,
 by intro env sto b n; exact JrE ..,
 by intros; rfl,
 by intros; rfl,
 @mk,
 by intros; rfl,
 by intros; rfl,
 by intro env sto s c lo hi; exact Jtg ..,
 by intro env sto s b n lo hi; exact Jt2 ..,
 by intros; rfl,
 by intros; rfl,
 @cl,
 by intros; rfl,
 by intro m k sto x r; exact Jxf ..,
 by intros; rfl,
 by intro m ids sto x r; exact JwL ..,
 by intros; rfl,
 by intros; rfl,
 by intro m ids sto cs; exact Jvv ..,
 by intro m ids sto l; exact JlY m ids sto l,
 by intros; rfl,
 by intro m ids sto x r; exact Jws ..,
 by intros; rfl,
 by intros; rfl,
 by intros; rfl,
 by intros; rfl,
 by intros; rfl,
 by intro m ids sto b n; exact Jv5 ..,
 by intros; rfl,
 by intros; rfl,
 by intro m ids sto cs; exact Jv8 ..,
 by intro m ids sto x cs; exact Jvz ..,
 by intros; rfl,
 by intros; rfl,
 by intros; rfl,
 by intros; rfl,
 by intros; rfl,
 by intro env sto t r; exact Juf ..,
 by intro env sto t n g r; exact JtA ..,
 by intros; rfl,
 rfl,
 by intros; rfl,
 by intros; rfl,
 by intro m b sto r; exact Jx1 ..,
 by intro m b sto r; exact Jvb ..,
 by intros; rfl,
 by intros; rfl,
 by intros; rfl,
 by intros; rfl,
 by intros; rfl,
 by intro sto b r acc; exact Jwz ..,
 by intros; rfl,
 by intros; rfl,
 by intros; rfl,
 by intros; rfl,
 by intro cs l; exact JrG cs l,
 by intros; rfl,
 by intros; rfl,
 by intros; rfl,
 by intros; rfl,
 by intros; rfl,
 by intros; rfl,
 by intros; rfl,
 by intros; rfl,
 by intro b c r; exact JwT ..,
 rfl,
 by intros; rfl,
 by intros; rfl,
 by intro sto b r; exact JwP ..,
 by intros; rfl,
 by intros; rfl,
 by intros; rfl,
 by intros; rfl,
 by intros; rfl,
 @Jw7,
 @JwW,
 @Jwn,
 by intros; rfl,
 by intros; rfl,
 @JwE,
 @JwX,
 @Jwg,
 @JwR,
 by intros; rfl,
 by intros; rfl,
 by intros; rfl,
 by intros; rfl,
 by intro n; exact Nat.zero_add n,
 by intros; rfl,
 @Jwy,
 @Jwa,
 @Juu,
 @Jxa,
 @s1,
 by intros; rfl,
 by intro α cs; rw [J6K]; simp,
 by intro α a cs n; exact JsA ..,
 by intro α a cs n m; exact Jtb ..,
 by intro α cs; rw [J7S]; simp,
 by intro α a b cs vs; exact JsO ..,
 by intro α a cs n vs; exact JsK ..,
 by intros; rfl,
 by intro off size c a cs r; exact Juc ..,
 by intros; rfl,
 by intros; rfl,
 by intros; rfl,
 by intros; rfl,
 by intro a; simp,
 by intro a; simp,
 by intro α a; simp,
 by intros; rfl,
 by intros; rfl⟩
set_option maxRecDepth 30000 in
theorem Nf : (∀ {α : Type} (l : List α), [] ++ l = l) ∧
 (∀ {α : Type} (l : List α), l ++ [] = l) ∧
 (∀ {α : Type} (a : α) (l r : List α), (a :: l) ++ r = a :: (l ++ r)) ∧
 (∀ {α β : Type} (g : α → β), List.map g [] = []) ∧
 (∀ {α β : Type} (g : α → β) (a : α) (l : List α), List.map g (a :: l) = g a :: List.map g l) ∧
 (∀ {α : Type}, ([] : List α).length = 0) ∧
 (∀ {α : Type} (a : α) (l : List α), (a :: l).length = l.length + 1) ∧
 (∀ k n, r_i k n = [.i k n]) ∧
 (∀ x, r_b x = [.b x]) ∧
 (∀ x, r_s x = [.s x]) ∧
 (∀ {α : Type} (e : Nat) (g : α → List PV) (l : List α), Jl9 e g l = [.sl e (l.map g)]) :=
 ⟨@Jw7,
 @JwW,
 @Jwn,
 @JwE,
 @JwX,
 @Jwg,
 @JwR,
 @Jwy,
 @Jwa,
 @Juu,
 @Jxa⟩
set_option maxRecDepth 30000 in
theorem Ra : (∀ F new env sto g n x, rdO F (.load g n x) new ⟨env, sto⟩ = rb (evv x env) fun a => Jf ((J2c g n a).reads ⟨env, sto⟩)) ∧
 (∀ s g n b o, Jf ((J2c g n (.ptr b o)).reads s) = [b]) ∧
 (∀ s g n o cs, Jf ((J2c g n (.cp cs o)).reads s) = []) ∧
 (∀ s g n b e i o, Jf ((J2c g n (.ep b e i o)).reads s) = [b]) ∧
 (∀ F new s z, rdO F (.newbox z) new s = [new]) ∧
 (∀ F new env sto n x y, rdO F (.store n x y) new ⟨env, sto⟩ = rb (evv x env) fun a => rb (evv y env) fun c => Jf ((J1L n a c).reads ⟨env, sto⟩)) ∧
 (∀ s n b o v, Jf ((J1L n (.ptr b o) v).reads s) = [b]) ∧
 (∀ s n b e i o c, Jf ((J1L n (.ep b e i o) (.p c)).reads s) = [b]) ∧
 (∀ s n b e i o c, Jf ((J1L n (.ep b e i o) (.data c)).reads s) = [b]) ∧
 (∀ F new env sto g args, rdO F (.call g args 0) new ⟨env, sto⟩ = rb ((evs args).run ⟨env, sto⟩) fun a => Jf ((JE a).reads ⟨env, sto⟩) ++ rb ((JE a).run ⟨env, sto⟩) fun a => Jf ((Jj F g a 0 new).reads ⟨env, sto⟩)) ∧
 (∀ F new env sto g args, rdO F (.call g args 1) new ⟨env, sto⟩ = new :: rb (is1 sto[new]?) fun _ => rb ((evs args).run ⟨env, sto⟩) fun a => Jf ((JE a).reads ⟨env, sto⟩) ++ rb ((JE a).run ⟨env, sto⟩) fun a => Jf ((Jj F g a 1 new).reads ⟨env, sto⟩)) ∧
 (is1 (some .dead) = some ()) ∧
 (∀ {α β : Type} (a : α) (f : α → List β), rb (some a) f = f a) ∧
 (∀ F new env sto g args, rdO F (.callv g args 0) new ⟨env, sto⟩ = rb (evv g env) fun u => cvl u fun h a1 c1 => rb ((evs args).run ⟨env, sto⟩) fun a => Jf ((JE (a1 ++ a ++ c1)).reads ⟨env, sto⟩) ++ rb ((JE (a1 ++ a ++ c1)).run ⟨env, sto⟩) fun a => Jf ((Jj F h a 0 new).reads ⟨env, sto⟩)) ∧
 (∀ {α : Type} (f : FuncId) (a c : List AV) (k : FuncId → List AV → List AV → List α), cvl (.fn f a c) k = k f a c) ∧
 (∀ s, Jf ((JE []).reads s) = []) ∧
 (∀ s c r, Jf ((JE (.p c :: r)).reads s) = Jf ((JE r).reads s)) ∧
 (∀ s c r, Jf ((JE (.data c :: r)).reads s) = Jf ((JE r).reads s)) ∧
 (∀ s b o r, Jf ((JE (.ptr b o :: r)).reads s) = Jf ((JE r).reads s)) ∧
 (∀ s c o r, Jf ((JE (.cp c o :: r)).reads s) = Jf ((JE r).reads s)) ∧
 (∀ s b x i o r, Jf ((JE (.ep b x i o :: r)).reads s) = Jf ((JE r).reads s)) ∧
 (∀ s b n r, Jf ((JE (.slr b 0 n :: r)).reads s) = b :: rb ((J8i (.slr b 0 n)).run s) fun _ => Jf ((JE r).reads s)) ∧
 (∀ F new s e n z ps, rdO F (.lits false e n z ps) new s = Jf ((fzs (ps.map (·.2))).reads s)) ∧
 (∀ F new env sto e n z ps, rdO F (.lits true e n z ps) new ⟨env, sto⟩ = new :: rb (is1 sto[new]?) fun _ => Jf ((fzs (ps.map (·.2))).reads ⟨env, sto⟩)) ∧
 (∀ s, Jf ((fzs []).reads s) = []) ∧
 (∀ env sto x r, Jf ((fzs (x :: r)).reads ⟨env, sto⟩) = rb (evv x env) fun v => Jf ((fz v).reads ⟨env, sto⟩) ++ rb ((fz v).run ⟨env, sto⟩) fun _ => Jf ((fzs r).reads ⟨env, sto⟩)) ∧
 (∀ s c, Jf ((fz (.p c)).reads s) = []) ∧
 (∀ s c, Jf ((fz (.data c)).reads s) = []) ∧
 (∀ s b n, Jf ((fz (.slr b 0 n)).reads s) = [b]) ∧
 (∀ F new env sto x, rdO F (.conv .toStr x) new ⟨env, sto⟩ = rb (evv x env) fun a => Jf ((J0a 1 a).reads ⟨env, sto⟩)) ∧
 (∀ s e b n, Jf ((J0a e (.slr b 0 n)).reads s) = [b]) ∧
 (∀ s e z rows, Jf ((J0a e (.p (.sl z rows))).reads s) = []) ∧
 (∀ F new env sto e x i, rdO F (.iaddr e x i) new ⟨env, sto⟩ = rb (evv x env) fun a => rb (evv i env) fun c => Jf ((J3h e a c).reads ⟨env, sto⟩)) ∧
 (∀ s e b n k i, Jf ((J3h e (.slr b 0 n) (.p (.i k i))).reads s) = [b]) ∧
 (∀ s e z rows k i, Jf ((J3h e (.p (.sl z rows)) (.p (.i k i))).reads s) = []) ∧
 (∀ F new env sto k x lo hi mx, rdO F (.slice k x lo hi mx) new ⟨env, sto⟩ = rb (evv x env) fun a => Jf ((slT k lo hi mx a).reads ⟨env, sto⟩)) ∧
 (∀ s k lo hi mx c, Jf ((slT k lo hi mx (.p c)).reads s) = []) ∧
 (∀ F new env sto e b z y, rdO F (.appn e b z y) new ⟨env, sto⟩ = new :: rb (is1 sto[new]?) fun _ => rb (evv y env) fun a => Jf ((J0a e a).reads ⟨env, sto⟩)) ∧
 (∀ F new env sto e b z x y, rdO F (.app e b z x y) new ⟨env, sto⟩ = rb (evv x env) fun a => rb (evv y env) fun c => Jf ((J5e e b a c).reads ⟨env, sto⟩)) ∧
 (∀ s e y b n z rows, Jf ((J5e e y (.slr b 0 n) (.p (.sl z rows))).reads s) = [b]) ∧
 (∀ a b c d, pkk (some (a, b)) (some (c, d)) = (J6c b c && J6c b d && J6c a d)) ∧
 (∀ b, J6c [] b = true) ∧
 (∀ x a b, J6c (x :: a) b = (!(b.contains x) && J6c a b)) ∧
 (∀ x, ([] : List Nat).contains x = false) ∧
 (∀ (x y : Nat) (l : List Nat), (y :: l).contains x = (x == y || l.contains x)) ∧
 (∀ a, (true && a) = a) ∧
 (∀ a, (false && a) = false) ∧
 (∀ a, (true || a) = true) ∧
 (∀ a, (false || a) = a) :=
 ⟨by intro F new env sto g n x; exact Jvt ..,
 by intro s g n b o; exact Jvc ..,
 by intro s g n o cs; exact Jx4 ..,
 by intro s g n b e i o; exact Jxe ..,
 by intro F new s z; exact JrU ..,
 by intro F new env sto n x y; exact Juj ..,
 by intro s n b o v; exact JuM ..,
 by intro s n b e i o c; exact Jtp ..,
 by intro s n b e i o c; exact JtI ..,
 by intro F new env sto g args; exact JtY ..,
 by intro F new env sto g args; exact JtC ..,
 rfl,
 by intros; rfl,
 by intro F new env sto g args; exact JrK ..,
 by intros; rfl,
 by intros; rfl,
 by intro s c r; exact Jda s rfl r,
 by intro s c r; exact Jda s rfl r,
 by intro s b o r; exact Jda s rfl r,
 by intro s c o r; exact Jda s rfl r,
 by intro s b x i o r; exact Jda s rfl r,
 by intro s b n r; exact JuR ..,
 by intro F new s e n z ps; exact Jt8 ..,
 by intro F new env sto e n z ps; exact JtH ..,
 by intros; rfl,
 by intro env sto x r; exact Jxb ..,
 by intros; rfl,
 by intros; rfl,
 by intro s b n; exact Jgf ..,
 by intro F new env sto x; exact Jud ..,
 by intro s e b n; exact Jro ..,
 by intro s e z rows; exact JoT ..,
 by intro F new env sto e x i; exact JtT ..,
 by intro s e b n k i; exact Jsw ..,
 by intro s e z rows k i; exact JsG ..,
 by intro F new env sto k x lo hi mx; exact Jru ..,
 by intro s k lo hi mx c; exact JvK ..,
 by intro F new env sto e b z y; exact JuX ..,
 by intro F new env sto e b z x y; exact JwQ ..,
 by intro s e y b n z rows; exact JtK ..,
 by intros; rfl,
 by intros; rfl,
 by intro x a b; simp [J6c],
 by intros; rfl,
 by intro x y l; rw [List.contains_cons],
 by intro a; simp,
 by intro a; simp,
 by intro a; simp,
 by intro a; simp⟩
end Go.Am
end
