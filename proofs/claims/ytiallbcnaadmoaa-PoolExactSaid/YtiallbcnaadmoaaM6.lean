/-
  Parts of a proof.
-/
import Derived.Test.YtiallbcnaadmoaaM5
set_option linter.unusedSimpArgs false
set_option linter.unusedVariables false
section
namespace Go.Am
@[congr] theorem Jxp {T : J5O} {f : AFn} {m : Nat} {k : List Fr} {o o' : Option Out} (h : o = o') : rk T f m k o = rk T f m k o' := by rw [h]
def tdn (e : AX) (o : Option St) : Option Out := match o with
  | some s => some (e, s)
  | none => none
def JqF (fresh : Bool) (m : Nat) (vs : List AV) (sto : List Blk) (ids : List Nat) : Option Res :=
  if J4j ids = true then (fin.finL m ids sto vs).bind fun ws => (J3Y m ids sto (sto.take m)).bind fun l => (J7p sto ids).bind fun q => (J3Y m ids sto q).bind fun q => some (one ws, l ++ q) else none
def JiY (res : List JcS) (fresh : Bool) (m : Nat) (s : St) : Option Res :=
  ((J6i res).run s).bind fun vs => if s.sto.length = m then some (one vs, s.sto) else JqF fresh m vs s.sto (J1j m fresh s.sto (J87 s.sto (J09.entsOfL vs []) (J09.entsOfL vs [])))
theorem Jik (res : List JcS) (fresh : Bool) (m : Nat) (s : St) : J4Z ⟨0, 0, .skip, res, fresh⟩ m s = JiY res fresh m s := by
  unfold J4Z JiY
  dsimp only
  cases (J6i res).run s with
  | none => rfl
  | some vs =>
    simp only [Option.bind_some]
    split
    · rfl
    · unfold JqF
      split
      · generalize J1j m fresh s.sto _ = ids
        cases fin.finL m ids s.sto vs <;> cases J3Y m ids s.sto (s.sto.take m) <;> cases J7p s.sto ids <;> try rfl
        rename_i q
        simp only [Option.bind_some]
        cases J3Y m ids s.sto q <;> rfl
      · rfl
theorem JtY (T : J5O) (f : AFn) (m : Nat) (s : St) : rk T f m [] (some (.normal, s)) = JiY f.res f.fresh m s := (Jtu T f m s).trans (Jik ..)
theorem Jsk (T : J5O) (f : AFn) (m : Nat) (s : St) : rk T f m [] (some (.ret, s)) = JiY f.res f.fresh m s := (Jse T f m s).trans (Jik ..)
def dds {α : Type} (n new : Nat) (sto : List Blk) (o : Option α) : Option α := match (J70 new n).run ⟨[], sto⟩ with
  | some _ => o
  | none => none
def dd1 {α : Type} (b : Option Blk) (o : Option α) : Option α := match b with
  | some .dead => o
  | _ => none
@[congr] theorem JwX {α : Type} {b b' : Option Blk} {o : Option α} (h : b = b') : dd1 b o = dd1 b' o := by rw [h]
theorem Jx6 {α : Type} (new : Nat) (sto : List Blk) (o : Option α) : dds 1 new sto o = dd1 sto[new]? o := by
  unfold dds dd1
  simp only [J70, RM.run]
  cases sto[new]? with
  | none => rfl
  | some b => cases b <;> rfl
section
variable {F : Orc} {r : List J12} {new d : Nat} {env : List (Nat × AV)} {sto : List Blk}
theorem JnT (n : Nat) : ∀ new, (J70 new n).run ⟨env, sto⟩ = (J70 new n).run ⟨[], sto⟩ := by
  induction n with
  | zero => intro new; rfl
  | succ n ih =>
    intro new
    simp only [J70, RM.run]
    cases sto[new]? with
    | none => rfl
    | some b => cases b <;> first | exact ih _ | rfl
def lgA (l : Option Log) (a b : List Nat) : Option Log := l.map (· ++ [(a, b)])
def rdO (F : Orc) (op : AOp) (new : Nat) (s : St) : List Nat := Jf ((opD F op new).reads s)
abbrev GR := Option (St × Option Log)
def Jt (F : Orc) : List J12 → Nat → St → Option Log → GR
  | [], _, s, l => some (s, l)
  | i :: r, new, s, l => match (J1T F i new).run s with
    | some e => Jt F r (new + JN i.op) (put i.dst e s) (lgA l (Jf ((J1T F i new).reads s)) (e.ws.map (·.1)))
    | none => none
theorem JrD (F : Orc) (ins : List J12) : ∀ new s, Jt F ins new s none = (J31 F ins new s).map fun s => (s, none) := by
  induction ins with
  | nil => intro new s; rfl
  | cons i r ih =>
    intro new s
    simp only [Jt, J31]
    cases (J1T F i new).run s with
    | none => rfl
    | some e => exact ih _ _
theorem Js0 (F : Orc) (ins : List J12) : ∀ new s l, Jt F ins new s (some l) = (J5r F ins new s l).map fun x => (x.1, some x.2) := by
  induction ins with
  | nil => intro new s l; rfl
  | cons i r ih =>
    intro new s l
    simp only [Jt, J5r]
    cases (J1T F i new).run s with
    | none => rfl
    | some e => exact ih _ _ _
def JsU (o : GR) : Option Out := match o with
  | some (s, _) => some (.normal, s)
  | none => none
def Jqa (ps : List (Nat × Nat)) (o : GR) : Option Out := match o with
  | some (s, some l) => if J9x l ps = true then some (.normal, s) else none
  | _ => none
theorem Jug (T : J5O) (f : AFn) (m : Nat) (k : List Fr) (d ins env sto) : rk T f m k (X T (.reg d [] ins) ⟨env, sto⟩) = rk T f m k (JsU (Jt (AF T) ins sto.length ⟨env, room (news ins) sto⟩ none)) := by
  rw [Jw0, JrD]
  cases J31 (AF T) ins sto.length ⟨env, room (news ins) sto⟩ <;> rfl
theorem Jv9 (T : J5O) (f : AFn) (m : Nat) (k : List Fr) (d p ps ins env sto) : rk T f m k (X T (.reg d (p :: ps) ins) ⟨env, sto⟩) = rk T f m k (Jqa (p :: ps) (Jt (AF T) ins sto.length ⟨env, room (news ins) sto⟩ (some []))) := by
  rw [JtE, Js0]
  simp only [region]
  cases J5r (AF T) ins sto.length ⟨env, room (news ins) sto⟩ [] with
  | none => rfl
  | some x =>
    obtain ⟨s, l⟩ := x
    simp only [Option.map_some, Jqa]
    split <;> rfl
theorem stD {lg : Option Log} (op : AOp) : Jt F (⟨op, some d, none⟩ :: r) new ⟨env, sto⟩ lg = dds (JN op) new sto (((opR F op new).run ⟨env, sto⟩).bind fun e => Jt F r (new + JN op) ⟨(d, e.val) :: env, upd e.ws sto⟩ (lgA lg (rdO F op new ⟨env, sto⟩) (e.ws.map (·.1)))) := by
  have e0 : (J1T F ⟨op, some d, none⟩ new).run ⟨env, sto⟩ = dds (JN op) new sto ((opR F op new).run ⟨env, sto⟩) := by
    simp only [J1T, opD, run_bind, JnT (env := env)]
    unfold dds
    cases (J70 new (JN op)).run ⟨[], sto⟩ <;> rfl
  simp only [Jt, e0]
  unfold dds
  cases (J70 new (JN op)).run ⟨[], sto⟩ with
  | none => rfl
  | some u => simp only []; cases (opR F op new).run ⟨env, sto⟩ <;> rfl
theorem Jnk {lg : Option Log} (op : AOp) : Jt F (⟨op, none, none⟩ :: r) new ⟨env, sto⟩ lg = dds (JN op) new sto (((opR F op new).run ⟨env, sto⟩).bind fun e => Jt F r (new + JN op) ⟨env, upd e.ws sto⟩ (lgA lg (rdO F op new ⟨env, sto⟩) (e.ws.map (·.1)))) := by
  have e0 : (J1T F ⟨op, none, none⟩ new).run ⟨env, sto⟩ = dds (JN op) new sto ((opR F op new).run ⟨env, sto⟩) := by
    simp only [J1T, opD, run_bind, JnT (env := env)]
    unfold dds
    cases (J70 new (JN op)).run ⟨[], sto⟩ <;> rfl
  simp only [Jt, e0]
  unfold dds
  cases (J70 new (JN op)).run ⟨[], sto⟩ with
  | none => rfl
  | some u => simp only []; cases (opR F op new).run ⟨env, sto⟩ <;> rfl
theorem st0 {lg : Option Log} {op : AOp} (h : JN op = 0) : Jt F (⟨op, some d, none⟩ :: r) new ⟨env, sto⟩ lg = ((opR F op new).run ⟨env, sto⟩).bind fun e => Jt F r new ⟨(d, e.val) :: env, upd e.ws sto⟩ (lgA lg (rdO F op new ⟨env, sto⟩) (e.ws.map (·.1))) := by
  rw [stD, h]; rfl
theorem Jxa {lg : Option Log} {op : AOp} (h : JN op = 0) : Jt F (⟨op, none, none⟩ :: r) new ⟨env, sto⟩ lg = ((opR F op new).run ⟨env, sto⟩).bind fun e => Jt F r new ⟨env, upd e.ws sto⟩ (lgA lg (rdO F op new ⟨env, sto⟩) (e.ws.map (·.1))) := by
  rw [Jnk, h]; rfl
def pk (u : AV) (a b : Option AV) : Option AV := match u with
  | .p (.b x) => if x = true then a else b
  | _ => none
@[congr] theorem JwY {α : Type} {n n' new new' : Nat} {sto : List Blk} {o : Option α} (h : n = n') (h' : new = new') : dds n new sto o = dds n' new' sto o := by rw [h, h']
theorem J1L {α : Type} (n new : Nat) (sto : List Blk) : dds n new sto (none : Option α) = none := by
  unfold dds; split <;> rfl
theorem Jt8 {α β : Type} (n new : Nat) (sto : List Blk) (o : Option α) (g : α → Option β) : dds n new sto (o.bind g) = o.bind fun a => dds n new sto (g a) := by
  cases o with
  | none => exact J1L ..
  | some a => rfl
theorem Jvs {β : Type} {K : Eff → Option β} {o : Option AV} : ((o.bind fun v => some ⟨v, []⟩).bind K) = o.bind fun v => K ⟨v, []⟩ := by cases o <;> rfl
def pkk (a b : Option (List Nat × List Nat)) : Bool := match a, b with
  | some a, some b => J5W a.2 b.1 && J5W a.2 b.2 && J5W a.1 b.2
  | _, _ => false
theorem bi {α β : Type} {o : Option α} {f : α → Option β} {r : β} (h : Option.bind o f = some r) : ∃ x, o = some x ∧ f x = some r := Option.bind_eq_some_iff.1 h
theorem sj {α : Type} {a b : α} (h : some a = some b) : a = b := Option.some.inj h
theorem mi {α β : Type} {o : Option α} {f : α → β} {r : β} (h : Option.map f o = some r) : ∃ x, o = some x ∧ f x = r := Option.map_eq_some_iff.1 h
inductive Dum {α : Type} : α → Type where
  | mk (a : α) : Dum a
def J8d {α : Type} (a : α) (_ : Dum a) : α := a
def pkh {β : Type} (u : AV) (a b : Option AV) (K : AV → Option β) : Option β := (pk u a b).bind K
theorem Jtx {β : Type} {K : Eff → Option β} {a b : Opd} {o : Option AV} : ((o.bind fun u => RM.run (match u with
    | .p (.b x) => if x = true then (ev a).bind fun v => .ret ⟨v, []⟩ else (ev b).bind fun v => .ret ⟨v, []⟩
    | _ => .fail) ⟨env, sto⟩).bind K) = o.bind fun u => (pk u (evv a env) (evv b env)).bind fun v => K ⟨v, []⟩ := by
  cases o with
  | none => rfl
  | some u =>
    simp only [Option.bind_some]
    cases u with
    | p c =>
      cases c with
      | b x =>
        cases x with
        | true => simp only [if_true, run_bind, J0E, pk]; cases evv a env <;> rfl
        | false => simp only [Bool.false_eq_true, if_false, run_bind, J0E, pk]; cases evv b env <;> rfl
      | _ => rfl
    | _ => rfl
theorem Jek {β : Type} {K : Eff → Option β} {o : Option AV} (g : AV → Option AV) : ((o.bind fun a => (Go.Am.val (g a)).run ⟨env, sto⟩).bind K) = o.bind fun a => (g a).bind fun v => K ⟨v, []⟩ := by
  cases o with
  | none => rfl
  | some a => simp only [Option.bind_some]; cases g a <;> rfl
theorem JkB {β : Type} {K : Eff → Option β} {o o' : Option AV} (g : AV → AV → Option AV) : ((o.bind fun a => o'.bind fun c => (Go.Am.val (g a c)).run ⟨env, sto⟩).bind K) = o.bind fun a => o'.bind fun c => (g a c).bind fun v => K ⟨v, []⟩ := by
  cases o with
  | none => rfl
  | some a =>
    cases o' with
    | none => rfl
    | some c => simp only [Option.bind_some]; cases g a c <;> rfl
theorem Jne {β : Type} {o : Option AV} (g : AV → Option Eff) {k : Eff → Option β} : ((o.bind fun a => g a).bind k) = o.bind fun a => (g a).bind k := by
  cases o <;> rfl
theorem Jrb {β : Type} {o o' : Option AV} {e b : Nat} {z : List PV} {s : St} {k : Eff → Option β} : ((o.bind fun a => o'.bind fun c => RM.run (match zrs e z c with
    | some c1 => J4S e b a c1
    | none => .fail) s).bind k) = o.bind fun a => o'.bind fun c => (zrs e z c).bind fun c1 => ((J4S e b a c1).run s).bind k := by
  cases o with
  | none => rfl
  | some a => cases o' with
    | none => rfl
    | some c =>
      simp only [Option.bind_some]
      cases zrs e z c <;> rfl
theorem JiW {β : Type} {o o' : Option AV} (g : AV → AV → Option Eff) {k : Eff → Option β} : ((o.bind fun a => o'.bind fun c => g a c).bind k) = o.bind fun a => o'.bind fun c => (g a c).bind k := by
  cases o <;> cases o' <;> rfl
def Jl2 (a c : AV) : Option AV := match a, c with
  | .p (.s l), .p (.i _ n) => if 0 ≤ n then
      match l[n.toNat]? with
      | some u => some (.p (.i .u8 u.toNat))
      | none => none
    else none
  | _, _ => none
theorem JtV {β : Type} {K : Eff → Option β} {o o' : Option AV} : ((o.bind fun a => o'.bind fun c => RM.run (match a, c with
    | .p (.s l), .p (.i _ n) => if 0 ≤ n then
        match l[n.toNat]? with
        | some u => .ret ⟨.p (.i .u8 u.toNat), []⟩
        | none => .fail
      else .fail
    | _, _ => .fail) ⟨env, sto⟩).bind K) = o.bind fun a => o'.bind fun c => (Jl2 a c).bind fun v => K ⟨v, []⟩ := by
  cases o with
  | none => rfl
  | some a =>
    cases o' with
    | none => rfl
    | some c =>
      simp only [Option.bind_some, Jl2]
      split
      · split
        · split <;> rfl
        · rfl
      · rfl
theorem Jwn (l : List UInt8) (k : IntKind) (n : Int) : Jl2 (.p (.s l)) (.p (.i k n)) = (JkY l n).map fun v => .p (.i .u8 v) := by
  simp only [Jl2, JkY]
  by_cases h : 0 ≤ n
  · simp only [if_pos h]; cases l[n.toNat]? <;> rfl
  · simp only [if_neg h]; rfl
def Jiu (g : Bool) (n e : Nat) (a c : AV) : Option AV := match c with
  | .p (.i _ i) => if 0 ≤ i ∧ i < n then J5R g (i.toNat * e) e a else none
  | _ => none
theorem Jul {β : Type} {K : Eff → Option β} {g : Bool} {n e : Nat} {o o' : Option AV} : ((o.bind fun a => o'.bind fun c => RM.run (match c with
    | .p (.i _ i) => if 0 ≤ i ∧ i < n then Go.Am.val (J5R g (i.toNat * e) e a) else .fail
    | _ => .fail) ⟨env, sto⟩).bind K) = o.bind fun a => o'.bind fun c => (Jiu g n e a c).bind fun v => K ⟨v, []⟩ := by
  cases o with
  | none => rfl
  | some a =>
    cases o' with
    | none => rfl
    | some c =>
      simp only [Option.bind_some, Jiu]
      split
      · split
        · cases J5R g _ e a <;> rfl
        · rfl
      · rfl
theorem JvC (g : Bool) (n e : Nat) (cs : List PV) (k : IntKind) (i : Int) : Jiu g n e (.data cs) (.p (.i k i)) = if 0 ≤ i ∧ i < n then (sub cs (i.toNat * e) e).bind (J29 g) else none := by
  simp only [Jiu, J5R]
  split
  · cases sub cs (i.toNat * e) e <;> rfl
  · rfl
def Jnq : AV → Option AV
  | .ptr b o => some (.ptr b o)
  | .cp cs o => some (.cp cs o)
  | .ep b e i o => some (.ep b e i o)
  | .fn f u c => some (.fn f u c)
  | _ => none
theorem Jue {β : Type} {K : Eff → Option β} {o : Option AV} : ((o.bind fun a => RM.run (match a with
    | .ptr b o => .ret ⟨.ptr b o, []⟩
    | .cp cs o => .ret ⟨.cp cs o, []⟩
    | .ep b e i o => .ret ⟨.ep b e i o, []⟩
    | .fn f u c => .ret ⟨.fn f u c, []⟩
    | _ => .fail) ⟨env, sto⟩).bind K) = o.bind fun a => (Jnq a).bind fun v => K ⟨v, []⟩ := by
  cases o with
  | none => rfl
  | some a => cases a <;> rfl
def cvR (k : CK) (a : AV) (new : Nat) : RM Eff := match k, a with
  | .int k, .p (.i _ n) => .ret ⟨.p (.i k (k.wrap n)), []⟩
  | .same, .p (.s l) => .ret ⟨.p (.s l), []⟩
  | .toStr, a => (J05 1 a).bind fun rows => match J6a rows with
    | some l => .ret ⟨.p (.s l), []⟩
    | none => .fail
  | .toBytes own, .p (.s l) => if own then .ret ⟨.slr new 0 l.length, [(new, .arr true 1 (l.map J4H))]⟩ else .ret ⟨.p (.sl 1 (l.map J4H)), []⟩
  | _, _ => .fail
theorem JsZ {lg : Option Log} {c : CK} {x : Opd} : Jt F (⟨.conv c x, some d, none⟩ :: r) new ⟨env, sto⟩ lg = (evv x env).bind fun a => dds (JN (.conv c x)) new sto (((cvR c a new).run ⟨env, sto⟩).bind fun e => Jt F r (new + JN (.conv c x)) ⟨(d, e.val) :: env, upd e.ws sto⟩ (lgA lg (rdO F (.conv c x) new ⟨env, sto⟩) (e.ws.map (·.1)))) := by
  rw [stD]
  have : (opR F (.conv c x) new).run ⟨env, sto⟩ = (evv x env).bind fun a => (cvR c a new).run ⟨env, sto⟩ := by
    simp only [opR, run_bind, J0E]; rfl
  rw [this, Jne (fun a => (cvR c a new).run ⟨env, sto⟩), Jt8]
theorem JrF {lg : Option Log} {z : List PV} {ps : List (Nat × Nat × Opd)} : Jt F (⟨.build z ps, some d, none⟩ :: r) new ⟨env, sto⟩ lg = ((J2W ps).run ⟨env, sto⟩).bind fun l => (J1f l (z.map .p)).bind fun cs => (J1P true cs).bind fun v => Jt F r new ⟨(d, v) :: env, sto⟩ (lgA lg (rdO F (.build z ps) new ⟨env, sto⟩) []) := by
  rw [st0 (h := rfl)]
  simp only [opR, run_bind]
  cases (J2W ps).run ⟨env, sto⟩ with
  | none => rfl
  | some l =>
    simp only [Option.bind_some]
    cases J1f l (z.map .p) with
    | none => rfl
    | some cs => simp only [Option.bind_some]; cases J1P true cs <;> rfl
def J9J (x : Option Opd) (env : List (Nat × AV)) : Option (Option AV) := match x with
  | none => some none
  | some x => (evv x env).map some
theorem JuU (x : Option Opd) : (evo x).run ⟨env, sto⟩ = J9J x env := by
  cases x with
  | none => rfl
  | some x => simp only [evo, run_bind, J0E, J9J]; cases evv x env <;> rfl
def slR (s : SK) (a : AV) (lo hi mx : Option AV) : RM Eff := match a with
  | .slr b i n => (fz (.slr b i n)).bind fun y => match y.1 with
    | [c] => match J4t s (.p c) lo hi mx with
      | some v => .ret ⟨v, y.2⟩
      | none => .fail
    | _ => .fail
  | a => Go.Am.val (J4t s a lo hi mx)
theorem Jr8 {lg : Option Log} {s : SK} {x : Opd} {lo hi mx : Option Opd} : Jt F (⟨.slice s x lo hi mx, some d, none⟩ :: r) new ⟨env, sto⟩ lg = (evv x env).bind fun a => (J9J lo env).bind fun lo1 => (J9J hi env).bind fun hi1 => (J9J mx env).bind fun mx1 => ((slR s a lo1 hi1 mx1).run ⟨env, sto⟩).bind fun e => Jt F r new ⟨(d, e.val) :: env, upd e.ws sto⟩ (lgA lg (rdO F (.slice s x lo hi mx) new ⟨env, sto⟩) (e.ws.map (·.1))) := by
  rw [st0 (h := rfl)]
  have : (opR F (.slice s x lo hi mx) new).run ⟨env, sto⟩ = (evv x env).bind fun a => (J9J lo env).bind fun lo => (J9J hi env).bind fun hi => (J9J mx env).bind fun mx => (slR s a lo hi mx).run ⟨env, sto⟩ := by
    simp only [opR, run_bind, J0E, JuU]; rfl
  rw [this]
  cases evv x env with
  | none => rfl
  | some a =>
    cases J9J lo env with
    | none => rfl
    | some lo =>
      cases J9J hi env with
      | none => rfl
      | some hi => cases J9J mx env <;> rfl
def slX (s : SK) (x : AV) (lo hi : Option AV) : Option AV := J4t s x lo hi none
theorem JqB {lg : Option Log} {z : List PV} : Jt F (⟨.newbox z, some d, none⟩ :: r) new ⟨env, sto⟩ lg = dds 1 new sto (Jt F r (new + 1) ⟨(d, .ptr new 0) :: env, sto.set new (.box (z.map .p))⟩ (lgA lg (rdO F (.newbox z) new ⟨env, sto⟩) [new])) := by
  rw [stD]; rfl
def Jj9 (e b : Nat) (a : AV) (add : List (List PV)) : Option (List (List PV)) := match a with
  | .p (.slc e' rows) => if e = e' ∧ 0 < add.length ∧ J3h (rows.length + add.length) b = true then some (rows ++ add) else none
  | _ => none
theorem Jto {lg : Option Log} {e b : Nat} {z : List PV} {x y : Opd} : Jt F (⟨.appc e b z x y, some d, none⟩ :: r) new ⟨env, sto⟩ lg = (evv x env).bind fun a => (evv y env).bind fun c => ((J05 e c).run ⟨env, sto⟩).bind fun add => (Jj9 e b a add).bind fun rows => dds 1 new sto (Jt F r (new + 1) ⟨(d, .slr new 0 rows.length) :: env, sto.set new (.arr true e rows)⟩ (lgA lg (rdO F (.appc e b z x y) new ⟨env, sto⟩) [new])) := by
  rw [stD]
  simp only [opR, run_bind, J0E, JN]
  cases evv x env with
  | none => exact J1L ..
  | some a =>
    simp only [Option.bind_some]
    cases evv y env with
    | none => exact J1L ..
    | some c =>
      simp only [Option.bind_some]
      cases hq : (J05 e c).run ⟨env, sto⟩ with
      | none =>
        have : (Jj0 e b a c new).run ⟨env, sto⟩ = none := by
          unfold Jj0; split
          · simp only [run_bind, hq]; rfl
          · rfl
        rw [this]; exact J1L ..
      | some add =>
        simp only [Option.bind_some]
        have : (Jj0 e b a c new).run ⟨env, sto⟩ = (Jj9 e b a add).map fun rows => ⟨.slr new 0 rows.length, [(new, .arr true e rows)]⟩ := by
          cases a with
          | p q => cases q with
            | slc e' rows =>
              simp only [Jj0, Jj9, run_bind, hq, Option.bind_some]
              split
              · simp [J1t]
              · rfl
            | _ => rfl
          | _ => rfl
        rw [this]
        cases Jj9 e b a add with
        | none => exact J1L ..
        | some rows => rfl
theorem Juq {α : Type} (r : α → List PV) {e b : Nat} {l l' m : List α} (h : Jg9 b l l' = some m) : Jj9 e b (.p (.slc e (l.map r))) (l'.map r) = some (m.map r) := by
  unfold Jg9 at h
  split at h
  · rename_i hc
    injection h with h; subst h
    show (if e = e ∧ 0 < (l'.map r).length ∧ J3h ((l.map r).length + (l'.map r).length) b = true then some (l.map r ++ l'.map r) else none) = _
    rw [if_pos ⟨rfl, by simpa using hc.1, by rw [List.length_map, List.length_map]; exact hc.2⟩, List.map_append]
  · cases h
theorem JtP {α : Type} (r : α → List PV) {e : Nat} (l : List α) (env : List (Nat × AV)) (sto : List Blk) : (slR (.sl e) (.p (.sl e (l.map r))) none (some (.p (.i .i64 ((l.length : Nat) : Int)))) (some (.p (.i .i64 ((l.length : Nat) : Int))))).run ⟨env, sto⟩ = some ⟨.p (.slc e (l.map r)), []⟩ := by
  simp [slR, J4t, JmO, Go.Am.val, RM.run]
theorem JtA {lg : Option Log} {e b : Nat} {z : List PV} {y : Opd} : Jt F (⟨.appn e b z y, some d, none⟩ :: r) new ⟨env, sto⟩ lg = (evv y env).bind fun c => ((J05 e c).run ⟨env, sto⟩).bind fun rows => if J3h rows.length b = true then dds 1 new sto (Jt F r (new + 1) ⟨(d, .slr new 0 rows.length) :: env, sto.set new (.arr true e rows)⟩ (lgA lg (rdO F (.appn e b z y) new ⟨env, sto⟩) [new])) else none := by
  rw [stD]
  simp only [opR, run_bind, J0E, JN]
  cases evv y env with
  | none => exact J1L ..
  | some c =>
    simp only [Option.bind_some]
    cases (J05 e c).run ⟨env, sto⟩ with
    | none => exact J1L ..
    | some rows =>
      simp only [Option.bind_some]
      split
      · rfl
      · exact J1L ..
theorem JqT {lg : Option Log} {e : Nat} {x : Opd} : Jt F (⟨.mkarr e x, some d, none⟩ :: r) new ⟨env, sto⟩ lg = dds 1 new sto (Jt F r (new + 1) ⟨(d, .slr new 0 0) :: env, sto.set new (.arr true e [])⟩ (lgA lg (rdO F (.mkarr e x) new ⟨env, sto⟩) [new])) := by
  rw [stD]; rfl
def bxP (n : Nat) (a : AV) : Option (List AV) := match cellsOf a with
  | some cs => if cs.length = n then some cs else none
  | none => none
theorem Jub {lg : Option Log} {n : Nat} {x : Opd} : Jt F (⟨.box n x, some d, none⟩ :: r) new ⟨env, sto⟩ lg = (evv x env).bind fun a => (bxP n a).bind fun cs => dds 1 new sto (Jt F r (new + 1) ⟨(d, .ptr new 0) :: env, sto.set new (.box cs)⟩ (lgA lg (rdO F (.box n x) new ⟨env, sto⟩) [new])) := by
  rw [stD]
  simp only [opR, run_bind, J0E, JN]
  cases evv x env with
  | none => exact J1L ..
  | some a =>
    simp only [Option.bind_some, bxP]
    cases cellsOf a with
    | none => exact J1L ..
    | some cs =>
      dsimp only
      split
      · rfl
      · exact J1L ..
def ltR (o : Bool) (e n : Nat) (z : List PV) (ps : List (Nat × Opd)) (new : Nat) : RM Eff := (fzs (ps.map (·.2))).bind fun a =>
    match J4h e ((ps.map (·.1)).zip a.1) (List.replicate n z) with
    | some rows => if o then .ret ⟨.slr new 0 n, a.2 ++ [(new, .arr true e rows)]⟩ else .ret ⟨.p (.sl e rows), a.2⟩
    | none => .fail
theorem JsP {lg : Option Log} {o : Bool} {e n : Nat} {z : List PV} {ps : List (Nat × Opd)} : Jt F (⟨.lits o e n z ps, some d, none⟩ :: r) new ⟨env, sto⟩ lg = dds (if o then 1 else 0) new sto (((ltR o e n z ps new).run ⟨env, sto⟩).bind fun x => Jt F r (new + if o then 1 else 0) ⟨(d, x.val) :: env, upd x.ws sto⟩ (lgA lg (rdO F (.lits o e n z ps) new ⟨env, sto⟩) (x.ws.map (·.1)))) := by
  rw [stD]; rfl
theorem Jwf (env : List (Nat × AV)) (sto : List Blk) (o : Bool) (e n new : Nat) (z : List PV) (ps : List (Nat × Opd)) : (ltR o e n z ps new).run ⟨env, sto⟩ = ((fzs (ps.map (·.2))).run ⟨env, sto⟩).bind fun a => (J4h e ((ps.map (·.1)).zip a.1) (List.replicate n z)).map fun rows => if o then ⟨.slr new 0 n, a.2 ++ [(new, .arr true e rows)]⟩ else ⟨.p (.sl e rows), a.2⟩ := by
  simp only [ltR, run_bind]
  cases (fzs (ps.map (·.2))).run ⟨env, sto⟩ with
  | none => rfl
  | some a =>
    simp only [Option.bind_some]
    cases J4h e ((ps.map (·.1)).zip a.1) (List.replicate n z) with
    | none => rfl
    | some rows => cases o <;> rfl
def mkP (o : Bool) (e b : Nat) (z : List PV) (a c : AV) (new : Nat) : Option Eff := match a, c with
  | .p (.i _ n), .p (.i _ m) =>
    if 0 ≤ n ∧ n ≤ m ∧ b * m ≤ 281474976710656 ∧ m ≤ 281474976710656 then
      some (if o then ⟨.slr new 0 n.toNat, [(new, .arr true e (List.replicate n.toNat z))]⟩ else ⟨.p (.sl e (List.replicate n.toNat z)), []⟩)
    else none
  | _, _ => none
theorem Jwa (o : Bool) (e b : Nat) (z : List PV) (a c : AV) (new : Nat) (s : St) : RM.run (match a, c with
    | .p (.i _ n), .p (.i _ m) =>
      if 0 ≤ n ∧ n ≤ m ∧ b * m ≤ 281474976710656 ∧ m ≤ 281474976710656 then
        if o then .ret ⟨.slr new 0 n.toNat, [(new, .arr true e (List.replicate n.toNat z))]⟩
        else .ret ⟨.p (.sl e (List.replicate n.toNat z)), []⟩
      else .fail
    | _, _ => .fail) s = mkP o e b z a c new := by
  unfold mkP
  split
  · rename_i k n k2 m
    by_cases h : 0 ≤ n ∧ n ≤ m ∧ b * m ≤ 281474976710656 ∧ m ≤ 281474976710656
    · simp only [if_pos h]; cases o <;> rfl
    · simp only [if_neg h]; rfl
  · rfl
theorem JoK {lg : Option Log} {o : Bool} {e b : Nat} {z : List PV} {l c : Opd} : Jt F (⟨.mkslice o e b z l c, some d, none⟩ :: r) new ⟨env, sto⟩ lg = (evv l env).bind fun a => (evv c env).bind fun x => dds (if o then 1 else 0) new sto ((mkP o e b z a x new).bind fun x => Jt F r (new + if o then 1 else 0) ⟨(d, x.val) :: env, upd x.ws sto⟩ (lgA lg (rdO F (.mkslice o e b z l c) new ⟨env, sto⟩) (x.ws.map (·.1)))) := by
  rw [stD]
  simp only [opR, run_bind, J0E, JN]
  cases evv l env with
  | none => exact J1L ..
  | some a =>
    cases evv c env with
    | none => exact J1L ..
    | some x =>
      simp only [Option.bind_some]
      exact congrArg (fun y => dds (if o then 1 else 0) new sto (y.bind fun x => Jt F r (new + if o then 1 else 0) ⟨(d, x.val) :: env, upd x.ws sto⟩ (lgA lg (rdO F (.mkslice o e b z l c) new ⟨env, sto⟩) (x.ws.map (·.1))))) (Jwa o e b z a x new ⟨env, sto⟩)
theorem Jkg {F : Orc} {f : FuncId} {args args' : List AV} {b e : Nat} {rows rows' : List (List PV)} {w w' : Bool} {v v' : AV} (he : J09.entsOfL args [] = [.whole b]) (hr : ren.renL (fun x => J3A x [Ent.whole b] 0) args = some args')
    (hF : F f args' [.arr w e rows] = some (v, [.arr w' e rows'])) (hb : ∀ new, bk [.whole b] new v = some v') (ws : List (Nat × Blk)) (new : Nat) (s : St) (hB : (J7C ws b).run s = some (.arr w e rows)) :
    (J3m F f (args, ws) 0 new).run s = some ⟨v', ws ++ [(b, .arr w' e rows')]⟩ := by
  have e2 : (J7Q ws [.whole b] [.whole b]).run s = some [.whole b] := by
    simp only [J7Q, run_bind, hB, Option.bind_some, J1t]
  have e3 : (J4T ws (fun x => J3A x [Ent.whole b] 0) [Ent.whole b]).run s = some [.arr w e rows] := by
    simp only [J4T, run_bind, Jdh, hB, Option.bind_some, J1t]
  have n1 : J4j ([Ent.whole b].map Ent.id) = true := rfl
  simp only [J3m, run_bind, he, e2, Option.bind_some, n1, if_true, hr, e3, hF]
  simp [hb, J44, J3k, Ja4, J1t, run_bind]
def Jol (b : Nat) (B : Option Blk) (l : List Nat) : List Nat := match B with
  | some (.box _) => b :: l
  | some (.arr _ _ _) => b :: l
  | _ => l
theorem JuS (m b : Nat) (sto : List Blk) (r : List Ent) : J1j m true sto (.whole b :: r) = if b < m then J1j m true sto r else Jol b sto[b]? (J1j m true sto r) := by
  simp only [J1j, Jol]
  split
  · rfl
  · split <;> simp_all
theorem Jx8 {α : Type} (n new : Nat) (sto : List Blk) (o : Option α) : dds (n + 1) new sto o = dd1 sto[new]? (dds n (new + 1) sto o) := by
  unfold dds dd1
  simp only [J70, RM.run]
  cases sto[new]? with
  | none => rfl
  | some b => cases b <;> rfl
theorem JoY {lg : Option Log} {z : List PV} {os : List (Nat × Nat)} : Jt F (⟨.newboxo z os, some d, none⟩ :: r) new ⟨env, sto⟩ lg =
    dds (os.length + 1) new sto (Jt F r (new + (os.length + 1)) ⟨(d, .ptr (new + os.length) 0) :: env, upd (J3C os new ++ [(new + os.length, .box (J7L os new (z.map .p)))]) sto⟩
      (lgA lg (rdO F (.newboxo z os) new ⟨env, sto⟩) ((J3C os new ++ [(new + os.length, Blk.box (J7L os new (z.map .p)))]).map (·.1)))) := by
  rw [stD]; rfl
theorem Jq0 {lg : Option Log} {e : Nat} {x : Opd} : Jt F (⟨.storen e x, none, none⟩ :: r) new ⟨env, sto⟩ lg =
    (evv x env).bind fun a => dds 1 new sto (((J1D 1 a (.slr new 0 0)).run ⟨env, sto⟩).bind fun q => Jt F r (new + 1) ⟨env, upd ((new, .arr true e []) :: q.ws) sto⟩ (lgA lg (rdO F (.storen e x) new ⟨env, sto⟩) (new :: q.ws.map (·.1)))) := by
  rw [Jnk]
  simp only [opR, run_bind, J0E, JN]
  cases evv x env with
  | none => exact J1L ..
  | some a => simp only [Option.bind_some]; cases (J1D 1 a (.slr new 0 0)).run ⟨env, sto⟩ <;> rfl
theorem Jqd {lg : Option Log} {z : List PV} {ps : List (Nat × Nat × Opd)} {os : List (Nat × Nat)} : Jt F (⟨.buildo z ps os, some d, none⟩ :: r) new ⟨env, sto⟩ lg =
    ((J2W ps).run ⟨env, sto⟩).bind fun l => (J1f l (J7L os new (z.map .p))).bind fun cs => (J1P true cs).bind fun v =>
      dds os.length new sto (Jt F r (new + os.length) ⟨(d, v) :: env, upd (J3C os new) sto⟩ (lgA lg (rdO F (.buildo z ps os) new ⟨env, sto⟩) ((J3C os new).map (·.1)))) := by
  rw [stD]
  simp only [opR, run_bind, JN]
  cases (J2W ps).run ⟨env, sto⟩ with
  | none => exact J1L ..
  | some l =>
    simp only [Option.bind_some]
    cases J1f l (J7L os new (z.map .p)) with
    | none => exact J1L ..
    | some cs =>
      simp only [Option.bind_some]
      cases J1P true cs with
      | none => exact J1L ..
      | some v => rfl
theorem JqN {lg : Option Log} {g : FuncId} {kp : List Bool} {args : List Opd} {n : Nat} : Jt F (⟨.callo g kp args n, some d, none⟩ :: r) new ⟨env, sto⟩ lg = dds n new sto (((evs args).run ⟨env, sto⟩).bind fun a => ((J2s kp a).run ⟨env, sto⟩).bind fun a => ((J3m F g a n new).run ⟨env, sto⟩).bind fun e => Jt F r (new + n) ⟨(d, e.val) :: env, upd e.ws sto⟩ (lgA lg (rdO F (.callo g kp args n) new ⟨env, sto⟩) (e.ws.map (·.1)))) := by
  rw [stD]
  simp only [opR, run_bind, JN]
  cases (evs args).run ⟨env, sto⟩ with
  | none => rfl
  | some a => simp only [Option.bind_some]; cases (J2s kp a).run ⟨env, sto⟩ <;> rfl
theorem Jqh {lg : Option Log} {g : FuncId} {kp : List Bool} {args : List Opd} {n : Nat} : Jt F (⟨.callo g kp args n, none, none⟩ :: r) new ⟨env, sto⟩ lg = dds n new sto (((evs args).run ⟨env, sto⟩).bind fun a => ((J2s kp a).run ⟨env, sto⟩).bind fun a => ((J3m F g a n new).run ⟨env, sto⟩).bind fun e => Jt F r (new + n) ⟨env, upd e.ws sto⟩ (lgA lg (rdO F (.callo g kp args n) new ⟨env, sto⟩) (e.ws.map (·.1)))) := by
  rw [Jnk]
  simp only [opR, run_bind, JN]
  cases (evs args).run ⟨env, sto⟩ with
  | none => rfl
  | some a => simp only [Option.bind_some]; cases (J2s kp a).run ⟨env, sto⟩ <;> rfl
theorem JlH : ∀ l : List AV, J2s [] l = JJ l
  | [] => rfl
  | x :: r => by simp only [J2s, JJ, JlH r]
theorem JuH (x : AV) (m : List Bool) (r : List AV) : (J2s (false :: m) (x :: r)).run ⟨env, sto⟩ = ((JJ [x]).run ⟨env, sto⟩).bind fun a => ((J2s m r).run ⟨env, sto⟩).bind fun c => some (a.1 ++ c.1, a.2 ++ c.2) := by
  simp only [J2s, JJ, run_bind]
  cases (J84 x).run ⟨env, sto⟩ with
  | none => rfl
  | some a => simp only [Option.bind_some, RM.run]; cases (J2s m r).run ⟨env, sto⟩ <;> simp
theorem Juh (x : AV) (m : List Bool) (r : List AV) : (J2s (true :: m) (x :: r)).run ⟨env, sto⟩ = ((J2s m r).run ⟨env, sto⟩).bind fun c => some (x :: c.1, c.2) := by
  simp only [J2s, run_bind]
  cases (J2s m r).run ⟨env, sto⟩ <;> rfl
theorem Jte {lg : Option Log} {g : FuncId} {args : List Opd} {n : Nat} : Jt F (⟨.call g args n, some d, none⟩ :: r) new ⟨env, sto⟩ lg = dds n new sto (((evs args).run ⟨env, sto⟩).bind fun a => ((JJ a).run ⟨env, sto⟩).bind fun a => ((Jl F g a n new).run ⟨env, sto⟩).bind fun e => Jt F r (new + n) ⟨(d, e.val) :: env, upd e.ws sto⟩ (lgA lg (rdO F (.call g args n) new ⟨env, sto⟩) (e.ws.map (·.1)))) := by
  rw [stD]
  simp only [opR, run_bind, JN, Jcs]
  cases (evs args).run ⟨env, sto⟩ with
  | none => rfl
  | some a => simp only [Option.bind_some]; cases (JJ a).run ⟨env, sto⟩ <;> rfl
theorem JqQ {lg : Option Log} {g : FuncId} {args : List Opd} {n : Nat} : Jt F (⟨.call g args n, none, none⟩ :: r) new ⟨env, sto⟩ lg = dds n new sto (((evs args).run ⟨env, sto⟩).bind fun a => ((JJ a).run ⟨env, sto⟩).bind fun a => ((Jl F g a n new).run ⟨env, sto⟩).bind fun e => Jt F r (new + n) ⟨env, upd e.ws sto⟩ (lgA lg (rdO F (.call g args n) new ⟨env, sto⟩) (e.ws.map (·.1)))) := by
  rw [Jnk]
  simp only [opR, run_bind, JN, Jcs]
  cases (evs args).run ⟨env, sto⟩ with
  | none => rfl
  | some a => simp only [Option.bind_some]; cases (JJ a).run ⟨env, sto⟩ <;> rfl
def cvg {α : Type} (u : AV) (k : FuncId → List AV → List AV → Option α) : Option α := match u with
  | .fn f a c => k f a c
  | _ => none
theorem JsR {lg : Option Log} {g : FuncId} {a c : List Opd} : Jt F (⟨.mkfn g a c, some d, none⟩ :: r) new ⟨env, sto⟩ lg = ((evs a).run ⟨env, sto⟩).bind fun a1 => ((evs c).run ⟨env, sto⟩).bind fun c1 => Jt F r new ⟨(d, .fn g a1 c1) :: env, sto⟩ (lgA lg (rdO F (.mkfn g a c) new ⟨env, sto⟩) []) := by
  rw [st0 (h := rfl)]
  simp only [opR, run_bind]
  cases (evs a).run ⟨env, sto⟩ with
  | none => rfl
  | some a1 => simp only [Option.bind_some]; cases (evs c).run ⟨env, sto⟩ <;> rfl
theorem JrR {lg : Option Log} {g : Opd} {args : List Opd} {n : Nat} : Jt F (⟨.callv g args n, some d, none⟩ :: r) new ⟨env, sto⟩ lg = (evv g env).bind fun u => cvg u fun h a1 c1 => dds n new sto (((evs args).run ⟨env, sto⟩).bind fun a => ((JJ (a1 ++ a ++ c1)).run ⟨env, sto⟩).bind fun a => ((Jl F h a n new).run ⟨env, sto⟩).bind fun q => Jt F r (new + n) ⟨(d, q.val) :: env, upd q.ws sto⟩ (lgA lg (rdO F (.callv g args n) new ⟨env, sto⟩) (q.ws.map (·.1)))) := by
  rw [stD]
  simp only [opR, run_bind, J0E, JN]
  cases evv g env with
  | none => exact J1L ..
  | some u =>
    simp only [Option.bind_some]
    cases u with
    | fn h a1 c1 =>
      simp only [cvg, run_bind, Jcs]
      cases (evs args).run ⟨env, sto⟩ with
      | none => rfl
      | some a => simp only [Option.bind_some]; cases (JJ (a1 ++ a ++ c1)).run ⟨env, sto⟩ <;> rfl
    | _ => exact J1L ..
theorem Jqz {lg : Option Log} {g : Opd} {args : List Opd} {n : Nat} : Jt F (⟨.callv g args n, none, none⟩ :: r) new ⟨env, sto⟩ lg = (evv g env).bind fun u => cvg u fun h a1 c1 => dds n new sto (((evs args).run ⟨env, sto⟩).bind fun a => ((JJ (a1 ++ a ++ c1)).run ⟨env, sto⟩).bind fun a => ((Jl F h a n new).run ⟨env, sto⟩).bind fun q => Jt F r (new + n) ⟨env, upd q.ws sto⟩ (lgA lg (rdO F (.callv g args n) new ⟨env, sto⟩) (q.ws.map (·.1)))) := by
  rw [Jnk]
  simp only [opR, run_bind, J0E, JN]
  cases evv g env with
  | none => exact J1L ..
  | some u =>
    simp only [Option.bind_some]
    cases u with
    | fn h a1 c1 =>
      simp only [cvg, run_bind, Jcs]
      cases (evs args).run ⟨env, sto⟩ with
      | none => rfl
      | some a => simp only [Option.bind_some]; cases (JJ (a1 ++ a ++ c1)).run ⟨env, sto⟩ <;> rfl
    | _ => exact J1L ..
def grd {α : Type} (x : Option AV) (w : Bool) (a b : Option α) : Option α := match x with
  | some (.p (.b x)) => if x = w then a else b
  | some (.tup []) => b
  | _ => none
end
@[congr] theorem Jx0 {α : Type} {x x' : Option AV} {w : Bool} {a b : Option α} (h : x = x') : grd x w a b = grd x' w a b := by rw [h]
theorem Ju8 (F : Orc) (r : List J12) (new : Nat) (env : List (Nat × AV)) (sto : List Blk) (lg : Option Log) (op : AOp) (d : Option Nat) (g : Nat) (w : Bool) :
    Jt F (⟨op, d, some (g, w)⟩ :: r) new ⟨env, sto⟩ lg = grd (lk g env) w (Jt F (⟨op, d, none⟩ :: r) new ⟨env, sto⟩ lg) (Jt F r (new + JN op) (put d ⟨J14, []⟩ ⟨env, sto⟩) (lgA lg [] [])) := by
  simp only [Jt, J1T, RM.run, RM.reads]
  cases lk g env with
  | none => rfl
  | some v =>
    dsimp only
    cases v with
    | p c =>
      cases c with
      | b x =>
        simp only [grd]
        by_cases h : x = w
        · subst h; simp only [if_true]; rfl
        · simp only [if_neg h]; rfl
      | _ => rfl
    | tup l => cases l <;> rfl
    | _ => rfl
def JqC (k : Nat) (v : Option AV) (l : List (Nat × AV)) : List (Nat × AV) := match v with
  | some v => (k, v) :: l
  | none => l
def Jnu (cs : List AV) (l : Option (List PV)) : AV := match l with
  | some l => .data l
  | none => .agg cs
def ldB (g : Bool) (n off : Nat) (B : Blk) : Option Eff := match B with
  | .box cs => (sub cs off n).bind fun l => (J1P g l).map fun v => ⟨v, []⟩
  | _ => none
def ldE (g : Bool) (n e i off : Nat) (B : Blk) : Option Eff := match B with
  | .arr _ _ rows => if e = rows.length then rows[i]?.bind fun row => (sub row off n).bind fun l => (J29 g l).map fun v => ⟨v, []⟩ else none
  | _ => none
theorem JtM (env : List (Nat × AV)) (sto : List Blk) (g : Bool) (n : Nat) (cs : List PV) (off : Nat) : (J2f g n (.cp cs off)).run ⟨env, sto⟩ = (sub cs off n).bind fun l => (J29 g l).map fun v => ⟨v, []⟩ := by
  simp only [J2f]
  cases sub cs off n with
  | none => rfl
  | some l => simp only [Option.bind_some]; cases J29 g l <;> rfl
theorem JuE (env : List (Nat × AV)) (sto : List Blk) (g : Bool) (n b off : Nat) : (J2f g n (.ptr b off)).run ⟨env, sto⟩ = sto[b]?.bind fun B => ldB g n off B := by
  simp only [J2f, J6K]
  cases sto[b]? with
  | none => rfl
  | some B =>
    cases B with
    | box cs =>
      simp only [Option.bind_some, ldB]
      cases sub cs off n with
      | none => rfl
      | some l => simp only [Option.bind_some]; cases J1P g l <;> rfl
    | _ => rfl
theorem JwQ (g : Bool) (n off : Nat) (cs : List PV) : ldB g n off (.box (cs.map AV.p)) = (sub cs off n).bind fun l => (J29 g l).map fun v => ⟨v, []⟩ := by
  simp only [ldB, JsY]
  cases sub cs off n with
  | none => rfl
  | some l =>
    simp only [Option.map_some, Option.bind_some]
    cases g with
    | true => rw [Ji6]; rfl
    | false => match l with
      | [] => rfl
      | [_] => rfl
      | _ :: _ :: _ => rfl
theorem Jun (env : List (Nat × AV)) (sto : List Blk) (g : Bool) (n b e i off : Nat) : (J2f g n (.ep b e i off)).run ⟨env, sto⟩ = sto[b]?.bind fun B => ldE g n e i off B := by
  simp only [J2f, J6K]
  cases sto[b]? with
  | none => rfl
  | some B =>
    cases B with
    | arr w z rows =>
      simp only [Option.bind_some, ldE]
      split
      · cases rows[i]? with
        | none => rfl
        | some row =>
          simp only [Option.bind_some]
          cases sub row off n with
          | none => rfl
          | some l => simp only [Option.bind_some]; cases J29 g l <;> rfl
      · rfl
    | _ => rfl
def stB (n b off : Nat) (l : List AV) (B : Blk) : Option Eff := match B with
  | .box cs => if l.length = n then (spl cs off l).map fun cs => ⟨J14, [(b, .box cs)]⟩ else none
  | _ => none
theorem JuR (env : List (Nat × AV)) (sto : List Blk) (n b off : Nat) (v : AV) : (J1D n (.ptr b off) v).run ⟨env, sto⟩ = sto[b]?.bind fun B => (cellsOf v).bind fun l => stB n b off l B := by
  simp only [J1D, J6K]
  cases sto[b]? with
  | none => rfl
  | some B =>
    simp only [Option.bind_some]
    cases B with
    | box cs =>
      dsimp only
      cases cellsOf v with
      | none => rfl
      | some l =>
        simp only [Option.bind_some, stB]
        split
        · cases spl cs off l <;> rfl
        · rfl
    | dead => cases cellsOf v <;> rfl
    | arr w z rows => cases cellsOf v <;> rfl
theorem JtF (n b off : Nat) (cs vs : List PV) : stB n b off (vs.map AV.p) (.box (cs.map AV.p)) = if vs.length = n then (spl cs off vs).map fun cs => ⟨J14, [(b, .box (cs.map AV.p))]⟩ else none := by
  simp only [stB, List.length_map, JnR]
  split
  · cases spl cs off vs <;> rfl
  · rfl
theorem JwC (b off : Nat) (cs : List PV) (v : PV) : stB 1 b off [AV.p v] (.box (cs.map AV.p)) = (spl cs off [v]).map fun cs => ⟨J14, [(b, .box (cs.map AV.p))]⟩ := by
  have := JtF 1 b off cs [v]
  simpa using this
def stE (n b e i off : Nat) (v : AV) (B : Blk) (s : St) : Option Eff := match B with
  | .arr true z rows => if e = rows.length then
      match rows[i]? with
      | some row => ((fz v).run s).bind fun a =>
        if a.1.length = n ∧ (a.2.all fun y => y.1 != b) = true then
          match spl row off a.1 with
          | some row' => some ⟨J14, a.2 ++ [(b, .arr true z (rows.set i row'))]⟩
          | none => none
        else none
      | none => none
    else none
  | _ => none
theorem Juu (env : List (Nat × AV)) (sto : List Blk) (n b e i off : Nat) (v : AV) : (J1D n (.ep b e i off) v).run ⟨env, sto⟩ = sto[b]?.bind fun B => stE n b e i off v B ⟨env, sto⟩ := by
  simp only [J1D, J6K]
  cases sto[b]? with
  | none => rfl
  | some B =>
    simp only [Option.bind_some]
    cases B with
    | arr w z rows =>
      cases w with
      | false => rfl
      | true =>
        simp only [stE]
        split
        · cases rows[i]? with
          | none => rfl
          | some row =>
            simp only [run_bind]
            cases (fz v).run ⟨env, sto⟩ with
            | none => rfl
            | some a =>
              simp only [Option.bind_some]
              split
              · cases spl row off a.1 <;> rfl
              · rfl
        · rfl
    | _ => rfl
theorem JwI (n b e i off z : Nat) (c : PV) (rows : List (List PV)) (s : St) : stE n b e i off (.p c) (.arr true z rows) s = if e = rows.length then rows[i]?.bind fun row => if 1 = n then (spl row off [c]).map fun row => ⟨J14, [(b, .arr true z (rows.set i row))]⟩ else none else none := by
  simp only [stE, fz, J1t, Option.bind_some]
  split
  · cases rows[i]? with
    | none => rfl
    | some row =>
      simp only [Option.bind_some, List.length_cons, List.length_nil, List.all_nil, and_true]
      simp only [Nat.zero_add]
      split
      · cases spl row off [c] <;> rfl
      · rfl
  · rfl
theorem Jwx (n b e i off z : Nat) (cs : List PV) (rows : List (List PV)) (s : St) : stE n b e i off (.data cs) (.arr true z rows) s = if e = rows.length then rows[i]?.bind fun row => if cs.length = n then (spl row off cs).map fun row => ⟨J14, [(b, .arr true z (rows.set i row))]⟩ else none else none := by
  simp only [stE, fz, J1t, Option.bind_some]
  split
  · cases rows[i]? with
    | none => rfl
    | some row =>
      simp only [Option.bind_some, List.all_nil, and_true]
      split
      · cases spl row off cs <;> rfl
      · rfl
  · rfl
theorem JvL (n : Nat) (cs : List PV) : bxP n (.data cs) = if cs.length = n then some (cs.map AV.p) else none := by simp [bxP, cellsOf]
theorem JsO (env : List (Nat × AV)) (sto : List Blk) (e : Nat) (rows : List (List PV)) (k : IntKind) (n : Int) : (J3n e (.p (.sl e rows)) (.p (.i k n))).run ⟨env, sto⟩ = (Jcm rows n).map fun row => ⟨.cp row 0, []⟩ := by
  simp only [J3n, if_true]
  cases Jcm rows n <;> rfl
def iaB (e b m : Nat) (n : Int) (B : Blk) : Option Eff := match B with
  | .arr _ esz' rows => if e = esz' ∧ 0 + m = rows.length ∧ 0 ≤ n ∧ n < m then some ⟨.ep b rows.length (0 + n.toNat) 0, []⟩ else none
  | _ => none
theorem Jta (env : List (Nat × AV)) (sto : List Blk) (e b m : Nat) (k : IntKind) (n : Int) : (J3n e (.slr b 0 m) (.p (.i k n))).run ⟨env, sto⟩ = sto[b]?.bind fun B => iaB e b m n B := by
  simp only [J3n, J6K]
  cases sto[b]? with
  | none => rfl
  | some B =>
    cases B with
    | arr w z rows => simp only [Option.bind_some, iaB]; split <;> rfl
    | _ => rfl
theorem JuX (e b m : Nat) (n : Int) (w : Bool) (rows : List (List PV)) : iaB e b m n (.arr w e rows) = if m = rows.length ∧ 0 ≤ n ∧ n < m then some ⟨.ep b rows.length n.toNat 0, []⟩ else none := by
  simp [iaB]
theorem Js4 (env : List (Nat × AV)) (sto : List Blk) (l : List Int) (new : Nat) : (cvR .toStr (.p (.sl 1 (l.map (r_i .u8)))) new).run ⟨env, sto⟩ = some ⟨.p (.s (toStr l)), []⟩ := by
  simp only [cvR, J05, if_true, run_bind, J1t, Option.bind_some, JeQ]
def cvB (n : Nat) (B : Blk) : Option Eff := match B with
  | .arr _ z rows => if 1 = z ∧ 0 + n = rows.length then
      match J6a (rows.drop 0) with
      | some l => some ⟨.p (.s l), []⟩
      | none => none
    else none
  | _ => none
theorem Jsr (env : List (Nat × AV)) (sto : List Blk) (b n new : Nat) : (cvR .toStr (.slr b 0 n) new).run ⟨env, sto⟩ = sto[b]?.bind fun B => cvB n B := by
  simp only [cvR, J05, run_bind, J6K]
  cases sto[b]? with
  | none => rfl
  | some B =>
    cases B with
    | arr w z rows =>
      simp only [Option.bind_some, cvB]
      split
      · simp only [J1t, Option.bind_some]; cases J6a (rows.drop 0) <;> rfl
      · rfl
    | _ => rfl
theorem JtR (n : Nat) (w : Bool) (l : List Int) : cvB n (.arr w 1 (l.map (r_i .u8))) = if n = l.length then some ⟨.p (.s (toStr l)), []⟩ else none := by
  simp only [cvB, List.drop_zero, JeQ, List.length_map, Nat.zero_add, true_and]
theorem Js8 (env : List (Nat × AV)) (sto : List Blk) (l : List UInt8) (new : Nat) : (cvR (.toBytes false) (.p (.s l)) new).run ⟨env, sto⟩ = some ⟨.p (.sl 1 ((Jaa l).map (r_i .u8))), []⟩ := by
  simp [cvR, JiG]
theorem Jra (env : List (Nat × AV)) (sto : List Blk) (l : List UInt8) (new : Nat) : (cvR (.toBytes true) (.p (.s l)) new).run ⟨env, sto⟩ = some ⟨.slr new 0 (Jaa l).length, [(new, .arr true 1 ((Jaa l).map (r_i .u8)))]⟩ := by
  have : (Jaa l).length = l.length := by simp [Jaa]
  simp [cvR, JiG, this]
theorem JvF (env : List (Nat × AV)) (sto : List Blk) (off size : Nat) (x : Opd) (r : List (Nat × Nat × Opd)) : (J2W ((off, size, x) :: r)).run ⟨env, sto⟩ = (evv x env).bind fun v => (cellsOf v).bind fun cs => ((J2W r).run ⟨env, sto⟩).bind fun l => some ((off, size, cs) :: l) := by
  simp only [J2W, run_bind, J0E]
  cases evv x env with
  | none => rfl
  | some v =>
    simp only [Option.bind_some]
    cases cellsOf v with
    | none => rfl
    | some cs => simp only [Option.bind_some, run_bind]; cases (J2W r).run ⟨env, sto⟩ <;> rfl
theorem Jng (off size : Nat) (vs cs : List PV) (r : List (Nat × Nat × List AV)) : J1f ((off, size, vs.map AV.p) :: r) (cs.map AV.p) = if vs.length = size then (spl cs off vs).bind fun cs => J1f r (cs.map AV.p) else none := by
  simp only [J1f, List.length_map, JnR]
  split
  · cases spl cs off vs <;> rfl
  · rfl
theorem JrZ (off : Nat) (v : PV) (cs : List PV) (r : List (Nat × Nat × List AV)) : J1f ((off, 1, [AV.p v]) :: r) (cs.map AV.p) = (spl cs off [v]).bind fun cs => J1f r (cs.map AV.p) := by
  have := Jng off 1 [v] cs r
  simpa using this
theorem Jwh (env : List (Nat × AV)) (sto : List Blk) (x : Opd) (r : List Opd) : (evs (x :: r)).run ⟨env, sto⟩ = (evv x env).bind fun v => ((evs r).run ⟨env, sto⟩).bind fun vs => some (v :: vs) := by
  simp only [evs, run_bind, J0E]; rfl
theorem Jep (env : List (Nat × AV)) (sto : List Blk) {v : AV} (h : J84 v = .ret (v, [])) (r : List AV) : (JJ (v :: r)).run ⟨env, sto⟩ = ((JJ r).run ⟨env, sto⟩).bind fun a => some (v :: a.1, a.2) := by
  simp only [JJ, h, run_bind, J1t, Option.bind_some, List.nil_append]
def frz (b n : Nat) (B : Blk) : Option (AV × (Nat × Blk)) := match B with
  | .arr _ z rows => if n = rows.length then some (.p (.sl z rows), (b, .arr false z rows)) else none
  | _ => none
def frp (b n : Nat) (B : Blk) : Option (PV × (Nat × Blk)) := match B with
  | .arr _ z rows => if n = rows.length then some (.sl z rows, (b, .arr false z rows)) else none
  | _ => none
theorem Jo8 (env : List (Nat × AV)) (sto : List Blk) (b n : Nat) : (fz (.slr b 0 n)).run ⟨env, sto⟩ = sto[b]?.bind fun B => (frp b n B).bind fun x => some ([x.1], [x.2]) := by
  simp only [fz, J6K]
  cases sto[b]? with
  | none => rfl
  | some B =>
    cases B with
    | arr w z rows =>
      simp only [Option.bind_some, frp, Nat.zero_add, List.drop_zero]
      split <;> rfl
    | _ => rfl
theorem JuC (env : List (Nat × AV)) (sto : List Blk) (b n : Nat) : (fz.fz1 (.slr b 0 n)).run ⟨env, sto⟩ = sto[b]?.bind fun B => (frp b n B).bind fun x => some ([x.1], [x.2]) := by
  simp only [fz.fz1, J6K]
  cases sto[b]? with
  | none => rfl
  | some B =>
    cases B with
    | arr w z rows =>
      simp only [Option.bind_some, frp, Nat.zero_add, List.drop_zero]
      split <;> rfl
    | _ => rfl
theorem JrV (env : List (Nat × AV)) (sto : List Blk) (b n : Nat) (r : List AV) : (JJ (.slr b 0 n :: r)).run ⟨env, sto⟩ = sto[b]?.bind fun B => (frz b n B).bind fun x => ((JJ r).run ⟨env, sto⟩).bind fun a => some (x.1 :: a.1, x.2 :: a.2) := by
  simp only [JJ, J84, run_bind, Jo8]
  cases sto[b]? with
  | none => rfl
  | some B =>
    cases B with
    | arr w z rows =>
      simp only [Option.bind_some, frp, frz]
      split
      · simp only [Option.bind_some, J1t]; cases (JJ r).run ⟨env, sto⟩ <;> rfl
      · rfl
    | _ => rfl
theorem Jsa (env : List (Nat × AV)) (sto : List Blk) (cs r : List AV) : (JJ (.agg cs :: r)).run ⟨env, sto⟩ = ((fz.fzL cs).run ⟨env, sto⟩).bind fun x => ((JJ r).run ⟨env, sto⟩).bind fun a => some (.data x.1 :: a.1, x.2 ++ a.2) := by
  simp only [JJ, J84, run_bind, fz]
  cases (fz.fzL cs).run ⟨env, sto⟩ with
  | none => rfl
  | some x => simp only [Option.bind_some, J1t]
theorem JsC (env : List (Nat × AV)) (sto : List Blk) (c : PV) (r : List AV) : (fz.fzL (.p c :: r)).run ⟨env, sto⟩ = ((fz.fzL r).run ⟨env, sto⟩).bind fun a => some (c :: a.1, a.2) := by
  simp only [fz.fzL, fz.fz1, run_bind, J1t, Option.bind_some]; rfl
theorem Jtr (env : List (Nat × AV)) (sto : List Blk) (b n : Nat) (r : List AV) : (fz.fzL (.slr b 0 n :: r)).run ⟨env, sto⟩ = sto[b]?.bind fun B => (frp b n B).bind fun x => ((fz.fzL r).run ⟨env, sto⟩).bind fun a => some (x.1 :: a.1, x.2 :: a.2) := by
  simp only [fz.fzL, run_bind, JuC]
  cases sto[b]? with
  | none => rfl
  | some B =>
    simp only [Option.bind_some]
    cases frp b n B with
    | none => rfl
    | some x => simp only [Option.bind_some]; cases (fz.fzL r).run ⟨env, sto⟩ <;> rfl
theorem JvD (env : List (Nat × AV)) (sto : List Blk) (b : Nat) : (J7C [] b).run ⟨env, sto⟩ = sto[b]? := by
  simp only [J7C, J6K]
  cases sto[b]? <;> rfl
theorem Jsb (env : List (Nat × AV)) (sto : List Blk) (e : Nat) (rows : List (List PV)) : (J05 e (.p (.sl e rows))).run ⟨env, sto⟩ = some rows := by simp [J05]
theorem Jsp (env : List (Nat × AV)) (sto : List Blk) (l : List UInt8) : (J05 1 (.p (.s l))).run ⟨env, sto⟩ = some ((Jaa l).map (r_i .u8)) := by simp [J05, JiG]
def roB (e n : Nat) (B : Blk) : Option (List (List PV)) := match B with
  | .arr _ z rows => if e = z ∧ 0 + n = rows.length then some (rows.drop 0) else none
  | _ => none
theorem Jsy (env : List (Nat × AV)) (sto : List Blk) (e b n : Nat) : (J05 e (.slr b 0 n)).run ⟨env, sto⟩ = sto[b]?.bind fun B => roB e n B := by
  simp only [J05, J6K]
  cases sto[b]? with
  | none => rfl
  | some B =>
    cases B with
    | arr w z rows => simp only [Option.bind_some, roB]; split <;> rfl
    | _ => rfl
theorem Jsv (e n : Nat) (w : Bool) (rows : List (List PV)) : roB e n (.arr w e rows) = if n = rows.length then some rows else none := by simp [roB]
theorem Jvq (env : List (Nat × AV)) (sto : List Blk) (x : Opd) (r : List Opd) : (fzs (x :: r)).run ⟨env, sto⟩ = (evv x env).bind fun v => ((fz v).run ⟨env, sto⟩).bind fun a => ((fzs r).run ⟨env, sto⟩).bind fun c => some (a.1 :: c.1, a.2 ++ c.2) := by
  simp only [fzs, run_bind, J0E]; rfl
theorem Jre (env : List (Nat × AV)) (sto : List Blk) (b n : Nat) : (fz (.slr b 0 n)).run ⟨env, sto⟩ = sto[b]?.bind fun B => (frp b n B).bind fun x => some ([x.1], [x.2]) := Jo8 ..
theorem JsK (env : List (Nat × AV)) (sto : List Blk) (s : SK) (c : PV) (lo hi : Option AV) : (slR s (.p c) lo hi none).run ⟨env, sto⟩ = (slX s (.p c) lo hi).map fun v => ⟨v, []⟩ := by
  simp only [slR, slX]
  cases J4t s (.p c) lo hi none <;> rfl
theorem Jtw (env : List (Nat × AV)) (sto : List Blk) (s : SK) (b n : Nat) (lo hi : Option AV) : (slR s (.slr b 0 n) lo hi none).run ⟨env, sto⟩ = sto[b]?.bind fun B => (frz b n B).bind fun x => (slX s x.1 lo hi).map fun v => ⟨v, [x.2]⟩ := by
  simp only [slR, run_bind, Jo8]
  cases sto[b]? with
  | none => rfl
  | some B =>
    cases B with
    | arr w z rows =>
      simp only [Option.bind_some, frp, frz]
      split
      · simp only [Option.bind_some, slX]; cases J4t s (.p (.sl z rows)) lo hi none <;> rfl
      · rfl
    | _ => rfl
theorem Jwb (n : Nat) (live : List Nat) (env : List (Nat × AV)) (sto : List Blk) : J5Z n live ⟨env, sto⟩ = if sto.length = n then some ⟨restr live env, sto⟩ else (J95 n sto (restr live env)).bind fun e => (J3Y n [] sto (sto.take n)).bind fun l => some ⟨e, l⟩ := by
  simp only [J5Z]
  split
  · rfl
  · cases J95 n sto (restr live env) with
    | none => rfl
    | some e => cases J3Y n [] sto (sto.take n) <;> rfl
theorem JvY (m k : Nat) (sto : List Blk) (x : AV) (r : List (Nat × AV)) : J95 m sto ((k, x) :: r) = (fin m [] sto x).bind fun y => (J95 m sto r).bind fun l => some ((k, y) :: l) := by
  simp only [J95]
  cases fin m [] sto x with
  | none => rfl
  | some y => cases J95 m sto r <;> rfl
theorem Jwg (m : Nat) (ids : List Nat) (sto : List Blk) (x : Blk) (r : List Blk) : J3Y m ids sto (x :: r) = (J4R m ids sto x).bind fun y => (J3Y m ids sto r).bind fun l => some (y :: l) := by
  simp only [J3Y]
  cases J4R m ids sto x with
  | none => rfl
  | some y => cases J3Y m ids sto r <;> rfl
theorem Juj (m : Nat) (ids : List Nat) (sto : List Blk) (cs : List AV) : J4R m ids sto (.box cs) = (fin.finL m ids sto cs).map .box := by
  simp only [J4R]
  cases fin.finL m ids sto cs <;> rfl
theorem Jvh (m : Nat) (ids : List Nat) (sto : List Blk) (x : AV) (r : List AV) : fin.finL m ids sto (x :: r) = (fin m ids sto x).bind fun y => (fin.finL m ids sto r).bind fun l => some (y :: l) := by
  simp only [fin.finL]
  cases fin m ids sto x with
  | none => rfl
  | some y => cases fin.finL m ids sto r <;> rfl
def fsl (k : Option Nat) (n : Nat) (B : Option Blk) : Option AV := match k with
  | some k => some (.slr k 0 n)
  | none => match B with
    | some (.arr _ z rows) => if n = rows.length then some (.p (.sl z rows)) else none
    | _ => none
theorem JtU (m : Nat) (ids : List Nat) (sto : List Blk) (b n : Nat) : fin m ids sto (.slr b 0 n) = if b < m then some (.slr b 0 n) else fsl (J8K b ids m) n sto[b]? := by
  simp only [fin]
  split
  · rfl
  · cases J8K b ids m with
    | some k => rfl
    | none =>
      simp only [fsl]
      cases sto[b]? with
      | none => rfl
      | some B => cases B <;> simp
theorem Jva (m : Nat) (ids : List Nat) (sto : List Blk) (cs : List AV) : fin m ids sto (.agg cs) = (fin.finL m ids sto cs).bind fun l => some (Jnu l (unp l)) := by
  simp only [fin]
  cases fin.finL m ids sto cs with
  | none => rfl
  | some l => simp only [Option.bind_some]; cases unp l <;> rfl
theorem Juo (m : Nat) (ids : List Nat) (sto : List Blk) (x : AV) (cs : List AV) : fin m ids sto (.tup (x :: cs)) = (fin.finL m ids sto (x :: cs)).map .tup := by
  simp only [fin]
  cases fin.finL m ids sto (x :: cs) <;> rfl
theorem Jt2 (env : List (Nat × AV)) (sto : List Blk) (t : Nat) (r : List JcS) : (J6i (.tmp t :: r)).run ⟨env, sto⟩ = (lk t env).bind fun v => ((J6i r).run ⟨env, sto⟩).bind fun l => some (v :: l) := by
  simp only [J6i, run_bind, Joo, J1t]
  cases lk t env <;> rfl
theorem JsI (env : List (Nat × AV)) (sto : List Blk) (t n : Nat) (g : Bool) (r : List JcS) : (J6i (.cell t g n :: r)).run ⟨env, sto⟩ = (lk t env).bind fun v => ((J2f g n v).run ⟨env, sto⟩).bind fun e => ((J6i r).run ⟨env, sto⟩).bind fun l => some (e.val :: l) := by
  simp only [J6i, run_bind, Joo, J1t]
  cases lk t env <;> rfl
def oid (b : Nat) (B : Option Blk) (l : List Nat) : List Nat := match B with
  | some (.box _) => b :: l
  | _ => l
theorem Jvt (m b : Nat) (sto : List Blk) (r : List Ent) : J1j m false sto (.whole b :: r) = if b < m then J1j m false sto r else oid b sto[b]? (J1j m false sto r) := by
  simp only [J1j]
  split
  · rfl
  · unfold oid
    cases sto[b]? with
    | none => rfl
    | some B => cases B <;> simp
def ebb (B : Option Blk) (acc : List Ent) : List Ent := match B with
  | some (.box cs) => J09.entsOfL cs acc
  | _ => acc
theorem JvV (sto : List Blk) (b : Nat) (r acc : List Ent) : J87 sto (.whole b :: r) acc = J87 sto r (ebb sto[b]? acc) := by
  simp only [J87, ebb]
  cases sto[b]? with
  | none => rfl
  | some B => cases B <;> rfl
theorem Jvg (b c : Nat) (r : List Ent) : J8h (.whole b) (.whole c :: r) = if c = b then .whole c :: r else .whole c :: J8h (.whole b) r := by
  simp only [J8h, List.any_cons]
  by_cases h : c = b
  · subst h; simp
  · simp [h]
    split <;> simp_all
theorem JvS (sto : List Blk) (b : Nat) (r : List Nat) : J7p sto (b :: r) = sto[b]?.bind fun x => (J7p sto r).bind fun l => some (x :: l) := by
  simp only [J7p]
  cases sto[b]? with
  | none => rfl
  | some x => cases J7p sto r <;> rfl
theorem Jt9 {α : Type} (a : α) (cs : List α) (n : Nat) : sub (a :: cs) 0 (n + 1) = (sub cs 0 n).map (a :: ·) := by
  rw [J6P, J6P]
  by_cases h : n ≤ cs.length
  · rw [if_pos (by simp; omega), if_pos (by omega)]; simp
  · rw [if_neg (by simp; omega), if_neg (by omega)]; rfl
theorem Jsm {α : Type} (a : α) (cs : List α) (n m : Nat) : sub (a :: cs) (n + 1) m = sub cs n m := by
  rw [J6P, J6P]
  by_cases h : n + m ≤ cs.length
  · rw [if_pos (by simp; omega), if_pos h]; simp
  · rw [if_neg (by simp; omega), if_neg h]
theorem JsW {α : Type} (a b : α) (cs vs : List α) : spl (a :: cs) 0 (b :: vs) = (spl cs 0 vs).map (b :: ·) := by
  rw [J7B, J7B]
  by_cases h : vs.length ≤ cs.length
  · rw [if_pos (by simp; omega), if_pos (by omega)]; simp
  · rw [if_neg (by simp; omega), if_neg (by omega)]; rfl
theorem Jsl {α : Type} (a : α) (cs : List α) (n : Nat) (vs : List α) : spl (a :: cs) (n + 1) vs = (spl cs n vs).map (a :: ·) := by
  rw [J7B, J7B]
  by_cases h : n + vs.length ≤ cs.length
  · rw [if_pos (by simp; omega), if_pos h]
    rw [show n + 1 + vs.length = (n + vs.length) + 1 by omega]; simp
  · rw [if_neg (by simp; omega), if_neg h]; rfl
theorem Jsg (off size : Nat) (c : List AV) (a : AV) (cs : List AV) (r : List (Nat × Nat × List AV)) : J1f ((off, size, c) :: r) (a :: cs) = if c.length = size then (spl (a :: cs) off c).bind fun cs => J1f r cs else none := by
  simp only [J1f]
  split
  · cases spl (a :: cs) off c <;> rfl
  · rfl
theorem JuJ (m : Nat) (ids : List Nat) (sto : List Blk) (f : FuncId) (a c : List AV) : fin m ids sto (.fn f a c) = (fin.finL m ids sto a).bind fun a1 => (fin.finL m ids sto c).bind fun c1 => some (.fn f a1 c1) := by
  simp only [fin]
  cases fin.finL m ids sto a with
  | none => rfl
  | some a1 => cases fin.finL m ids sto c <;> rfl
def lwO (x y : Option Blk) : Option Blk := match x with
  | some x => some x
  | none => y
theorem Jwe (b c : Nat) (x : Blk) (r : List (Nat × Blk)) : J2r b ((c, x) :: r) = lwO (J2r b r) (if c = b then some x else none) := by
  simp only [J2r]
  cases J2r b r <;> rfl
theorem Jux (env : List (Nat × AV)) (sto : List Blk) (b c : Nat) (x : Blk) (ws : List (Nat × Blk)) : (J7C ((c, x) :: ws) b).run ⟨env, sto⟩ = sto[b]?.bind fun y => some ((J2r b ((c, x) :: ws)).getD y) := by
  simp only [J7C, J6K]
  cases sto[b]? with
  | none => rfl
  | some y => simp only [Option.bind_some]; cases J2r b ((c, x) :: ws) <;> rfl
@[congr] theorem JwZ {α : Type} {u u' : AV} {k : FuncId → List AV → List AV → Option α} (h : u = u') : cvg u k = cvg u' k := by rw [h]
theorem Jix (x : Opd) (s : St) : Jf ((ev x).reads s) = [] := by
  cases x with
  | t n => simp only [ev, RM.reads]; cases lk n s.env <;> rfl
  | c v => rfl
theorem Jqp (a b : List Loc) : Jf (a ++ b) = Jf a ++ Jf b := by
  induction a with
  | nil => rfl
  | cons x r ih => cases x <;> simp [Jf, ih]
def rb {α β : Type} (m : Option α) (f : α → List β) : List β := match m with
  | some a => f a
  | none => []
theorem J1k {α β : Type} (m : RM α) (f : α → RM β) (s : St) : Jf ((m.bind f).reads s) = Jf (m.reads s) ++ rb (m.run s) fun a => Jf ((f a).reads s) := by
  rw [JaP, Jqp]
  cases m.run s <;> rfl
theorem Jco {β : Type} (x : Opd) (f : AV → RM β) (s : St) : Jf (((ev x).bind f).reads s) = rb (evv x s.env) fun a => Jf ((f a).reads s) := by
  rw [J1k, Jix, J0E]; rfl
theorem Jd3 (o : Option AV) (s : St) : Jf ((Go.Am.val o).reads s) = [] := by cases o <;> rfl
section
variable (F : Orc) (new : Nat) (env : List (Nat × AV)) (sto : List Blk)
theorem Jcl {op : AOp} (h : JN op = 0) (s : St) : rdO F op new s = Jf ((opR F op new).reads s) := by
  unfold rdO opD
  rw [J1k, h]; rfl
def is1 (b : Option Blk) : Option Unit := match b with
  | some .dead => some ()
  | _ => none
theorem JmS {op : AOp} (h : JN op = 1) (s : St) : rdO F op new s = new :: rb (is1 s.sto[new]?) fun _ => Jf ((opR F op new).reads s) := by
  unfold rdO opD
  rw [J1k, h]
  simp only [J70, RM.reads, RM.run, Jf]
  cases s.sto[new]? with
  | none => rfl
  | some b => cases b <;> rfl
end
theorem Jno {α β : Type} (m : Option α) : (rb m fun _ => ([] : List β)) = [] := by cases m <;> rfl
theorem JuZ (F : Orc) (new : Nat) (env : List (Nat × AV)) (sto : List Blk) (g : Bool) (n : Nat) (x : Opd) : rdO F (.load g n x) new ⟨env, sto⟩ = rb (evv x env) fun a => Jf ((J2f g n a).reads ⟨env, sto⟩) := by
  rw [Jcl (h := rfl)]; exact Jco ..
theorem Jup (s : St) (g : Bool) (n b o : Nat) : Jf ((J2f g n (.ptr b o)).reads s) = [b] := by
  simp only [J2f, RM.reads, Jf]
  cases s.sto[b]? with
  | none => rfl
  | some B =>
    cases B with
    | box cs => simp only []; cases sub cs o n with
      | none => rfl
      | some l => simp only [Jd3]
    | _ => rfl
theorem JvA (s : St) (g : Bool) (n o : Nat) (cs : List PV) : Jf ((J2f g n (.cp cs o)).reads s) = [] := by
  simp only [J2f]
  cases sub cs o n with
  | none => rfl
  | some l => exact Jd3 ..
theorem Jvk (s : St) (g : Bool) (n b e i o : Nat) : Jf ((J2f g n (.ep b e i o)).reads s) = [b] := by
  simp only [J2f, RM.reads, Jf]
  cases s.sto[b]? with
  | none => rfl
  | some B =>
    cases B with
    | arr w z rows =>
      simp only []
      split
      · cases rows[i]? with
        | none => rfl
        | some row =>
          simp only []
          cases sub row o n with
          | none => rfl
          | some l => simp only [Jd3]
      · rfl
    | _ => rfl
theorem JrT (F : Orc) (new : Nat) (s : St) (z : List PV) : rdO F (.newbox z) new s = [new] := by
  rw [JmS (h := rfl)]; simp only [opR, RM.reads, Jf, Jno]
theorem Jth (F : Orc) (new : Nat) (env : List (Nat × AV)) (sto : List Blk) (n : Nat) (x y : Opd) : rdO F (.store n x y) new ⟨env, sto⟩ = rb (evv x env) fun a => rb (evv y env) fun c => Jf ((J1D n a c).reads ⟨env, sto⟩) := by
  rw [Jcl (h := rfl)]
  simp only [opR, Jco]
theorem JuV (s : St) (n b o : Nat) (v : AV) : Jf ((J1D n (.ptr b o) v).reads s) = [b] := by
  simp only [J1D, RM.reads, Jf]
  cases s.sto[b]? with
  | none => rfl
  | some B =>
    cases B with
    | box cs =>
      simp only []
      cases cellsOf v with
      | none => rfl
      | some l =>
        simp only []
        split
        · cases spl cs o l <;> rfl
        · rfl
    | _ => rfl
theorem Jru (s : St) (n b e i o : Nat) {v : AV} {c : List PV} (hv : fz v = .ret (c, [])) : Jf ((J1D n (.ep b e i o) v).reads s) = [b] := by
  simp only [J1D, RM.reads, Jf]
  cases s.sto[b]? with
  | none => rfl
  | some B =>
    cases B with
    | arr w z rows =>
      cases w with
      | false => rfl
      | true =>
        simp only []
        split
        · cases rows[i]? with
          | none => rfl
          | some row =>
            simp only [hv, J1k, RM.reads, Jf, J1t, rb, List.nil_append]
            split
            · cases spl row o c <;> rfl
            · rfl
        · rfl
    | _ => rfl
theorem Jts (s : St) (n b e i o : Nat) (c : PV) : Jf ((J1D n (.ep b e i o) (.p c)).reads s) = [b] := Jru s n b e i o rfl
theorem Jsj (s : St) (n b e i o : Nat) (c : List PV) : Jf ((J1D n (.ep b e i o) (.data c)).reads s) = [b] := Jru s n b e i o rfl
theorem Jg0 (s : St) : ∀ args, Jf ((evs args).reads s) = []
  | [] => rfl
  | x :: r => by
    simp only [evs, Jco]
    cases evv x s.env with
    | none => rfl
    | some v =>
      simp only [rb, J1k, Jg0 s r, List.nil_append]
      cases (evs r).run s <;> rfl
theorem Jkb (F : Orc) (g : FuncId) (args : List Opd) (n new : Nat) (s : St) : Jf ((opR F (.call g args n) new).reads s) = rb ((evs args).run s) fun a => Jf ((JJ a).reads s) ++ rb ((JJ a).run s) fun a => Jf ((Jl F g a n new).reads s) := by
  simp only [opR, J1k, Jg0, List.nil_append, Jcs]
theorem JsB (F : Orc) (new : Nat) (s : St) (g : FuncId) (args : List Opd) : rdO F (.call g args 0) new s = rb ((evs args).run s) fun a => Jf ((JJ a).reads s) ++ rb ((JJ a).run s) fun a => Jf ((Jl F g a 0 new).reads s) := by
  rw [Jcl (h := rfl)]; exact Jkb ..
theorem Jtv (F : Orc) (new : Nat) (s : St) (g : FuncId) (args : List Opd) : rdO F (.call g args 1) new s = new :: rb (is1 s.sto[new]?) fun _ => rb ((evs args).run s) fun a => Jf ((JJ a).reads s) ++ rb ((JJ a).run s) fun a => Jf ((Jl F g a 1 new).reads s) := by
  rw [JmS (h := rfl)]; simp only [Jkb]
theorem JcF (s : St) {v : AV} (h : J84 v = .ret (v, [])) (r : List AV) : Jf ((JJ (v :: r)).reads s) = Jf ((JJ r).reads s) := by
  simp only [JJ, h, J1k, RM.reads, Jf, J1t, rb, List.nil_append]
  cases (JJ r).run s <;> simp [RM.reads, Jf]
theorem Jg1 (s : St) (b n : Nat) : Jf ((fz (.slr b 0 n)).reads s) = [b] := by
  simp only [fz, RM.reads, Jf]
  cases s.sto[b]? with
  | none => rfl
  | some B =>
    cases B with
    | arr w z rows => simp only []; split <;> rfl
    | _ => rfl
theorem JuL (s : St) (b n : Nat) (r : List AV) : Jf ((JJ (.slr b 0 n :: r)).reads s) = b :: rb ((J84 (.slr b 0 n)).run s) fun _ => Jf ((JJ r).reads s) := by
  have h1 : Jf ((J84 (.slr b 0 n)).reads s) = [b] := by
    simp only [J84, J1k, Jg1]
    cases (fz (.slr b 0 n)).run s with
    | none => rfl
    | some a =>
      simp only [rb]
      match a.1 with
      | [] => rfl
      | [_] => rfl
      | _ :: _ :: _ => rfl
  simp only [JJ, J1k, h1]
  cases (J84 (.slr b 0 n)).run s with
  | none => rfl
  | some a => simp only [rb]; cases (JJ r).run s <;> simp [RM.reads, Jf]
theorem JP {F : Orc} {f : FuncId} {args : List AV} (hp : args.all J4w = true) (ws : List (Nat × Blk)) (k new : Nat) (s : St) : Jf ((Jl F f (args, ws) k new).reads s) = [] := by
  have e1 : J09.entsOfL args [] = [] := J75 hp
  simp only [Jl, e1, J7Q, J1k, RM.reads, Jf, J1t, rb, List.nil_append, List.map_nil, J4j, if_true, J9b hp, J4T]
  cases F f args [] with
  | none => rfl
  | some r =>
    simp only []
    split
    · simp only [List.length_nil, List.drop_zero]
      cases bk [] new r.1 with
      | none => rfl
      | some v =>
        cases J44 [] new new r.2 with
        | none => rfl
        | some fr => simp only [J3k, J1k, RM.reads, Jf, J1t, rb, List.nil_append]
    · rfl
def cvl {α : Type} (u : AV) (k : FuncId → List AV → List AV → List α) : List α := match u with
  | .fn f a c => k f a c
  | _ => []
theorem Jk9 (ws : List (Nat × Blk)) (b : Nat) (s : St) : Jf ((J7C ws b).reads s) = [b] := by
  simp only [J7C, RM.reads, Jf]
  cases s.sto[b]? with
  | none => rfl
  | some B => simp only []; cases J2r b ws <;> rfl
theorem JlW {ws : List (Nat × Blk)} {s : St} : ∀ {bs : List Nat} {css : List (List AV)} {acc : List Ent}, JC ws s bs css → Jg css = true → Jf ((J7Q ws (bs.map .whole) acc).reads s) = bs
  | [], [], _, _, _ => rfl
  | b :: bs, cs :: css, acc, h, hp => by
    simp only [Jg, List.all_cons, Bool.and_eq_true] at hp
    simp only [List.map_cons, J7Q, J1k, Jk9, h.1, rb, J75 hp.1]
    rw [JlW (bs := bs) (css := css) h.2 hp.2]
    rfl
theorem JnO {ws : List (Nat × Blk)} {s : St} {ρ : Ent → Option Nat} : ∀ {bs : List Nat} {css : List (List AV)}, JC ws s bs css → Jg css = true → Jf ((J4T ws ρ (bs.map .whole)).reads s) = bs
  | [], [], _, _ => rfl
  | b :: bs, cs :: css, h, hp => by
    simp only [Jg, List.all_cons, Bool.and_eq_true] at hp
    have h2 := JnO (ρ := ρ) (bs := bs) (css := css) h.2 hp.2
    have h3 := JeD (ρ := ρ) (bs := bs) (css := css) h.2 hp.2
    simp only [List.map_cons, J4T, J1k, Jdh, Jk9, h.1, rb, J9b hp.1, RM.reads, Jf, run_bind, Option.bind_some, J1t, h2, h3, List.append_nil]
    rfl
theorem Jlq {ws : List (Nat × Blk)} {s : St} {es : List Ent} {new : Nat} : ∀ (bs : List Nat) (xs : List Blk), Jf ((J3k ws es new (bs.map .whole) xs).reads s) = []
  | [], _ => rfl
  | b :: bs, [] => rfl
  | b :: bs, B :: l => by
    have g6 : Jf ((Ja4 ws es new (Ent.whole b) B).reads s) = [] := by
      cases B with
      | box cs => simp only [Ja4]; cases bk.bkL es new cs <;> rfl
      | _ => rfl
    simp only [List.map_cons, J3k, J1k, g6, List.nil_append]
    cases (Ja4 ws es new (Ent.whole b) B).run s with
    | none => rfl
    | some y =>
      simp only [rb, Jlq bs l, List.nil_append]
      cases (J3k ws es new (bs.map .whole) l).run s <;> rfl
theorem J2D {F : Orc} {f : FuncId} {args args' : List AV} {bs : List Nat} {css : List (List AV)} (he : J09.entsOfL args [] = bs.map .whole) (hn : J4j bs = true)
    (hr : ren.renL (fun e => J3A e (bs.map .whole) 0) args = some args') (hp : Jg css = true) (ws : List (Nat × Blk)) (k new : Nat) (s : St) (hb : JC ws s bs css) :
    Jf ((Jl F f (args, ws) k new).reads s) = bs ++ (bs ++ bs) := by
  have e0 : (bs.map Ent.whole).map Ent.id = bs := by rw [List.map_map]; exact List.map_id bs
  simp only [Jl, he, J1k, JlW hb hp, JgJ hb hp, rb, e0, hn, if_true, hr, JnO hb hp, JeD hb hp]
  congr 2
  cases F f args' (css.map .box) with
  | none => simp [RM.reads, Jf]
  | some r =>
    simp only []
    split
    · cases bk (bs.map Ent.whole) new r.1 with
      | none => simp [RM.reads, Jf]
      | some v =>
        cases J44 (bs.map Ent.whole) new new (r.2.drop (bs.map Ent.whole).length) with
        | none => simp [RM.reads, Jf]
        | some fr =>
          simp only [J1k, Jlq, List.nil_append]
          cases (J3k ws (bs.map Ent.whole) new (bs.map Ent.whole) r.2).run s <;> simp [rb, RM.reads, Jf]
    · simp [RM.reads, Jf]
theorem JrH (F : Orc) (new : Nat) (env : List (Nat × AV)) (sto : List Blk) (g : Opd) (args : List Opd) : rdO F (.callv g args 0) new ⟨env, sto⟩ = rb (evv g env) fun u => cvl u fun h a1 c1 => rb ((evs args).run ⟨env, sto⟩) fun a => Jf ((JJ (a1 ++ a ++ c1)).reads ⟨env, sto⟩) ++ rb ((JJ (a1 ++ a ++ c1)).run ⟨env, sto⟩) fun a => Jf ((Jl F h a 0 new).reads ⟨env, sto⟩) := by
  rw [Jcl (h := rfl)]
  simp only [opR, J1k, Jix, J0E, List.nil_append]
  cases evv g env with
  | none => rfl
  | some u =>
    simp only [rb]
    cases u <;> first | rfl | skip
    simp only [cvl, J1k, Jg0, List.nil_append]
    cases (evs args).run ⟨env, sto⟩ with
    | none => rfl
    | some a => simp only [rb, Jcs, J1k]
theorem JlG (s : St) (o : Bool) (e n new : Nat) (z : List PV) (ps : List (Nat × Opd)) : Jf ((ltR o e n z ps new).reads s) = Jf ((fzs (ps.map (·.2))).reads s) := by
  simp only [ltR, J1k]
  cases (fzs (ps.map (·.2))).run s with
  | none => simp [rb]
  | some a =>
    simp only [rb]
    cases J4h e ((ps.map (·.1)).zip a.1) (List.replicate n z) with
    | none => simp [RM.reads, Jf]
    | some rows => cases o <;> simp [RM.reads, Jf]
theorem Js6 (F : Orc) (new : Nat) (s : St) (e n : Nat) (z : List PV) (ps : List (Nat × Opd)) : rdO F (.lits false e n z ps) new s = Jf ((fzs (ps.map (·.2))).reads s) := by
  rw [Jcl (h := rfl)]; exact JlG ..
theorem JsM (F : Orc) (new : Nat) (s : St) (e n : Nat) (z : List PV) (ps : List (Nat × Opd)) : rdO F (.lits true e n z ps) new s = new :: rb (is1 s.sto[new]?) fun _ => Jf ((fzs (ps.map (·.2))).reads s) := by
  rw [JmS (h := rfl)]
  congr 2; funext _
  exact JlG ..
theorem Jvu (s : St) (x : Opd) (r : List Opd) : Jf ((fzs (x :: r)).reads s) = rb (evv x s.env) fun v => Jf ((fz v).reads s) ++ rb ((fz v).run s) fun _ => Jf ((fzs r).reads s) := by
  have e0 : fzs (x :: r) = (ev x).bind fun v => (fz v).bind fun a => (fzs r).bind fun c => .ret (a.1 :: c.1, a.2 ++ c.2) := rfl
  rw [e0, Jco]
  cases evv x s.env with
  | none => rfl
  | some v =>
    dsimp only [rb]
    rw [J1k]
    cases (fz v).run s with
    | none => rfl
    | some a =>
      dsimp only [rb]
      rw [J1k]
      cases (fzs r).run s <;> simp [rb, RM.reads, Jf]
theorem Jt6 (F : Orc) (new : Nat) (s : St) (x : Opd) : rdO F (.conv .toStr x) new s = rb (evv x s.env) fun a => Jf ((J05 1 a).reads s) := by
  rw [Jcl (h := rfl)]
  simp only [opR, Jco]
  congr 1; funext a
  simp only [J1k]
  cases (J05 1 a).run s with
  | none => simp [rb]
  | some rows => simp only [rb]; cases J6a rows <;> simp [RM.reads, Jf]
theorem Jry (s : St) (e b n : Nat) : Jf ((J05 e (.slr b 0 n)).reads s) = [b] := by
  simp only [J05, RM.reads, Jf]
  cases s.sto[b]? with
  | none => rfl
  | some B =>
    cases B with
    | arr w z rows => simp only []; split <;> rfl
    | _ => rfl
theorem JnK (s : St) (e z : Nat) (rows : List (List PV)) : Jf ((J05 e (.p (.sl z rows))).reads s) = [] := by
  simp only [J05]; split <;> rfl
theorem JsS (F : Orc) (new : Nat) (s : St) (e : Nat) (x i : Opd) : rdO F (.iaddr e x i) new s = rb (evv x s.env) fun a => rb (evv i s.env) fun c => Jf ((J3n e a c).reads s) := by
  rw [Jcl (h := rfl)]; simp only [opR, Jco]
theorem JrK (s : St) (e b n : Nat) (k : IntKind) (i : Int) : Jf ((J3n e (.slr b 0 n) (.p (.i k i))).reads s) = [b] := by
  simp only [J3n, RM.reads, Jf]
  cases s.sto[b]? with
  | none => rfl
  | some B =>
    cases B with
    | arr w z rows => simp only []; split <;> rfl
    | _ => rfl
theorem Js7 (s : St) (e z : Nat) (rows : List (List PV)) (k : IntKind) (i : Int) : Jf ((J3n e (.p (.sl z rows)) (.p (.i k i))).reads s) = [] := by
  simp only [J3n]
  split
  · cases Jcm rows i <;> rfl
  · rfl
def slT (k : SK) (lo hi mx : Option Opd) (a : AV) : RM Eff := (evo lo).bind fun lo => (evo hi).bind fun hi => (evo mx).bind fun mx =>
    match a with
    | .slr b i n => (fz (.slr b i n)).bind fun y => match y.1 with
      | [c] => match J4t k (.p c) lo hi mx with
        | some v => .ret ⟨v, y.2⟩
        | none => .fail
      | _ => .fail
    | a => val (J4t k a lo hi mx)
theorem JrP (x : Option Opd) (s : St) : Jf ((evo x).reads s) = [] := by
  cases x with
  | none => rfl
  | some x =>
    simp only [evo, J1k, Jix, List.nil_append]
    cases (ev x).run s <;> rfl
theorem JqU (F : Orc) (new : Nat) (s : St) (k : SK) (x : Opd) (lo hi mx : Option Opd) : rdO F (.slice k x lo hi mx) new s = rb (evv x s.env) fun a => Jf ((slT k lo hi mx a).reads s) := by
  rw [Jcl (h := rfl)]
  simp only [opR, Jco]
  rfl
theorem JuW (s : St) (k : SK) (lo hi mx : Option Opd) (c : PV) : Jf ((slT k lo hi mx (.p c)).reads s) = [] := by
  simp only [slT, J1k, JrP, List.nil_append, Jd3, Jno]
theorem JtL (F : Orc) (new : Nat) (s : St) (e b : Nat) (z : List PV) (y : Opd) : rdO F (.appn e b z y) new s = new :: rb (is1 s.sto[new]?) fun _ => rb (evv y s.env) fun a => Jf ((J05 e a).reads s) := by
  rw [JmS (h := rfl)]
  simp only [opR, Jco]
  refine congrArg (List.cons new) (congrArg (rb _) (funext fun _ => congrArg (rb _) (funext fun a => ?_)))
  simp only [J1k]
  have : ∀ rows : List (List PV), Jf ((if J3h rows.length b then (.ret ⟨.slr new 0 rows.length, [(new, .arr true e rows)]⟩ : RM Eff) else .fail).reads s) = [] := fun rows => by split <;> rfl
  simp only [this, Jno, List.append_nil]
theorem JvE (F : Orc) (new : Nat) (s : St) (e b : Nat) (z : List PV) (x y : Opd) : rdO F (.app e b z x y) new s = rb (evv x s.env) fun a => rb (evv y s.env) fun c => Jf ((J4S e b a c).reads s) := by
  rw [Jcl (h := rfl)]; simp only [opR, Jco]
theorem JtQ (s : St) (e bytes b i n : Nat) (c : PV) (hc : ∀ s, Jf ((J05 e (.p c)).reads s) = []) : Jf ((J4S e bytes (.slr b i n) (.p c)).reads s) = [b] := by
  simp only [J4S, RM.reads, Jf]
  cases s.sto[b]? with
  | none => rfl
  | some B =>
    cases B with
    | arr w z rows =>
      simp only [J1k, hc, List.nil_append]
      congr 1
      cases (J05 e (.p c)).run s with
      | none => rfl
      | some new => simp only [rb]; split <;> rfl
    | _ => rfl
theorem Jsq (s : St) (e bytes b n z : Nat) (rows : List (List PV)) : Jf ((J4S e bytes (.slr b 0 n) (.p (.sl z rows))).reads s) = [b] := JtQ s e bytes b 0 n (.sl z rows) fun s => JnK s e z rows
theorem Jxb (env : List (Nat × AV)) (sto : List Blk) (l : List Int) (new : Nat) : (cvR .toStr (.p (.sl 1 (l.map (r_i .u8)))) new).run ⟨env, sto⟩ = some ⟨.p (.s (toStr l)), []⟩ := Js4 ..
theorem JwD (n : Nat) (w : Bool) (l : List Int) : cvB n (.arr w 1 (l.map (r_i .u8))) = if n = l.length then some ⟨.p (.s (toStr l)), []⟩ else none := JtR ..
theorem fr (b n z : Nat) (w : Bool) (rows : List (List PV)) : frz b n (.arr w z rows) = if n = rows.length then some (.p (.sl z rows), (b, .arr false z rows)) else none := rfl
theorem mk (o : Bool) (e b new : Nat) (z : List PV) (k k2 : IntKind) (n m : Int) : mkP o e b z (.p (.i k n)) (.p (.i k2 m)) new = if 0 ≤ n ∧ n ≤ m ∧ b * m ≤ 281474976710656 ∧ m ≤ 281474976710656 then some (if o then ⟨.slr new 0 n.toNat, [(new, .arr true e (List.replicate n.toNat z))]⟩ else ⟨.p (.sl e (List.replicate n.toNat z)), []⟩) else none := rfl
theorem cl (n : Nat) (live : List Nat) (env : List (Nat × AV)) (sto : List Blk) : J5Z n live ⟨env, sto⟩ = if sto.length = n then some ⟨restr live env, sto⟩ else (J95 n sto (restr live env)).bind fun e => (J3Y n [] sto (sto.take n)).bind fun l => some ⟨e, l⟩ := Jwb ..
theorem Jvx {α : Type} (l : List α) : [] ++ l = l := rfl
theorem Jwo {α : Type} (l : List α) : l ++ [] = l := List.append_nil l
theorem Jwk {α : Type} (a : α) (l r : List α) : (a :: l) ++ r = a :: (l ++ r) := rfl
theorem Jvj {α β : Type} (g : α → β) : List.map g [] = [] := rfl
theorem Jvi {α β : Type} (g : α → β) (a : α) (l : List α) : List.map g (a :: l) = g a :: List.map g l := rfl
theorem JvZ {α : Type} : ([] : List α).length = 0 := rfl
theorem Jvn {α : Type} (a : α) (l : List α) : (a :: l).length = l.length + 1 := rfl
theorem Jvm (k : IntKind) (n : Int) : r_i k n = [.i k n] := rfl
theorem JvW (x : Bool) : r_b x = [.b x] := rfl
theorem JtH (x : List UInt8) : r_s x = [.s x] := rfl
theorem Jwj {α : Type} (e : Nat) (g : α → List PV) (l : List α) : JkR e g l = [.sl e (l.map g)] := rfl
theorem s1 (a : PV) : sub [a] 0 1 = some [a] := rfl
set_option maxRecDepth 30000 in
theorem Da : (∀ T f m k s, rk T f m k (X T .skip s) = rk T f m k (some (.normal, s))) ∧
  (∀ T f m k a b s, rk T f m k (X T (.seq a b) s) = rk T f m (.sq b :: k) (X T a s)) ∧
  (∀ T f m k d ins env sto, rk T f m k (X T (.reg d [] ins) ⟨env, sto⟩) = rk T f m k (JsU (Jt (AF T) ins sto.length ⟨env, room (news ins) sto⟩ none))) ∧
  (∀ T f m k d q ps ins env sto, rk T f m k (X T (.reg d (q :: ps) ins) ⟨env, sto⟩) = rk T f m k (Jqa (q :: ps) (Jt (AF T) ins sto.length ⟨env, room (news ins) sto⟩ (some [])))) ∧
  (∀ T f m k i c s, rk T f m k (X T (.block i c) s) = rk T f m (.bl i :: k) (X T c s)) ∧
  (∀ T f m k c s, rk T f m k (X T (.scope c) s) = rk T f m k (X T c s)) ∧
  (∀ T f m k i s, rk T f m k (X T (.exit i) s) = rk T f m k (some (.exit i, s))) ∧
  (∀ T f m k s, rk T f m k (X T .ret s) = rk T f m k (some (.ret, s))) ∧
  (∀ T f m k live c env sto, rk T f m k (X T (.keep live c) ⟨env, sto⟩) = rk T f m k (X T c ⟨restr live env, sto⟩)) ∧
  (∀ T f m k live c env sto, rk T f m k (X T (.tidy live c) ⟨env, sto⟩) = rk T f m (.td sto.length live :: k) (X T c ⟨env, sto⟩)) ∧
  (∀ T f m k live c env sto, rk T f m k (X T (.loop live c) ⟨env, sto⟩) = rk T f m k (X T (.lp sto.length live c) ⟨restr live env, sto⟩)) ∧
  (∀ T f m k x a b env sto, rk T f m k (X T (.cond x a b) ⟨env, sto⟩) = rk T f m k (cnd (evv x env) (J8d (X T a ⟨env, sto⟩) (.mk _)) (J8d (X T b ⟨env, sto⟩) (.mk _)) (J8d (fun _ => same (X T a ⟨env, sto⟩) (X T b ⟨env, sto⟩)) (.mk _)))) ∧
  (∀ a b h c, cnd (some (.p (.b true))) (J8d a h) b c = a) ∧
  (∀ a b h c, cnd (some (.p (.b false))) a (J8d b h) c = b) ∧
  (∀ T f m k b s, rk T f m (.sq b :: k) (some (.normal, s)) = rk T f m k (X T b s)) ∧
  (∀ T f m k b i s, rk T f m (.sq b :: k) (some (.exit i, s)) = rk T f m k (some (.exit i, s))) ∧
  (∀ T f m k b s, rk T f m (.sq b :: k) (some (.ret, s)) = rk T f m k (some (.ret, s))) ∧
  (∀ T f m k i s, rk T f m (.bl i :: k) (some (.normal, s)) = rk T f m k (some (.normal, s))) ∧
  (∀ T f m k i j s, rk T f m (.bl i :: k) (some (.exit j, s)) = if j = i then rk T f m k (some (.normal, s)) else rk T f m k (some (.exit j, s))) ∧
  (∀ T f m k i s, rk T f m (.bl i :: k) (some (.ret, s)) = rk T f m k (some (.ret, s))) ∧
  (∀ T f m k n live e s, rk T f m (.td n live :: k) (some (e, s)) = rk T f m k (tdn e (J5Z n live s))) ∧
  (∀ e s, tdn e (some s) = some (e, s)) ∧
  (∀ T f m k n live c s, rk T f m (.lo n live c :: k) (some (.normal, s)) = rk T f m k (again T n live c (J5Z n live s))) ∧
  (∀ T n live c s, again T n live c (some s) = X T (.lp n live c) s) ∧
  (∀ T f m k n live c i s, rk T f m (.lo n live c :: k) (some (.exit i, s)) = rk T f m k (some (.exit i, s))) ∧
  (∀ T f m k n live c s, rk T f m (.lo n live c :: k) (some (.ret, s)) = rk T f m k (some (.ret, s))) ∧
  (∀ T f m s, rk T f m [] (some (.normal, s)) = JiY f.res f.fresh m s) ∧
  (∀ T f m s, rk T f m [] (some (.ret, s)) = JiY f.res f.fresh m s) ∧
  (∀ s l, JsU (some (s, l)) = some (.normal, s)) ∧
  (∀ s l ps, Jqa ps (some (s, some l)) = if J9x l ps = true then some (.normal, s) else none) ∧
  (∀ l, J9x l [] = true) ∧
  (∀ l i j ps, J9x l ((i, j) :: ps) = (pkk l[i]? l[j]? && J9x l ps)) ∧
  (∀ a b, lgA none a b = none) ∧
  (∀ l a b, lgA (some l) a b = some (l ++ [(a, b)])) ∧
  (∀ {α : Type} (a : α) (l : List α), (a :: l)[0]? = some a) ∧
  (∀ {α : Type} (a : α) (l : List α) (n : Nat), (a :: l)[n + 1]? = l[n]?) ∧
  (∀ F new s lg, Jt F [] new s lg = some (s, lg)) ∧
  (∀ F r new env sto lg d x, Jt F (⟨.mv x, some d, none⟩ :: r) new ⟨env, sto⟩ lg = (evv x env).bind fun v => Jt F r new ⟨(d, v) :: env, sto⟩ (lgA lg (rdO F (.mv x) new ⟨env, sto⟩) [])) ∧
  (∀ F r new env sto lg d c a b, Jt F (⟨.pick c a b, some d, none⟩ :: r) new ⟨env, sto⟩ lg = (evv c env).bind fun u => pkh u (evv a env) (evv b env) (J8d (fun v => Jt F r new ⟨(d, v) :: env, sto⟩ (lgA lg (rdO F (.pick c a b) new ⟨env, sto⟩) [])) (.mk _))) ∧
  (∀ F r new env sto lg d op t x y, Jt F (⟨.bin op t x y, some d, none⟩ :: r) new ⟨env, sto⟩ lg = (evv x env).bind fun a => (evv y env).bind fun c => (J0C op t a c).bind fun v => Jt F r new ⟨(d, v) :: env, sto⟩ (lgA lg (rdO F (.bin op t x y) new ⟨env, sto⟩) [])) ∧
  (∀ F r new env sto lg d op x, Jt F (⟨.un op x, some d, none⟩ :: r) new ⟨env, sto⟩ lg = (evv x env).bind fun a => (unP op a).bind fun v => Jt F r new ⟨(d, v) :: env, sto⟩ (lgA lg (rdO F (.un op x) new ⟨env, sto⟩) [])) ∧
  (∀ F r new env sto lg d g off n x, Jt F (⟨.field g off n x, some d, none⟩ :: r) new ⟨env, sto⟩ lg = (evv x env).bind fun a => (J5R g off n a).bind fun v => Jt F r new ⟨(d, v) :: env, sto⟩ (lgA lg (rdO F (.field g off n x) new ⟨env, sto⟩) [])) ∧
  (∀ F r new env sto lg d off x, Jt F (⟨.faddr off x, some d, none⟩ :: r) new ⟨env, sto⟩ lg = (evv x env).bind fun a => (JbC off a).bind fun v => Jt F r new ⟨(d, v) :: env, sto⟩ (lgA lg (rdO F (.faddr off x) new ⟨env, sto⟩) [])) ∧
  (∀ F r new env sto lg d x i, Jt F (⟨.extr x i, some d, none⟩ :: r) new ⟨env, sto⟩ lg = (evv x env).bind fun a => (JgR i a).bind fun v => Jt F r new ⟨(d, v) :: env, sto⟩ (lgA lg (rdO F (.extr x i) new ⟨env, sto⟩) [])) ∧
  (∀ F r new env sto lg d b x, Jt F (⟨.len b x, some d, none⟩ :: r) new ⟨env, sto⟩ lg = (evv x env).bind fun a => (Jgq b a).bind fun v => Jt F r new ⟨(d, v) :: env, sto⟩ (lgA lg (rdO F (.len b x) new ⟨env, sto⟩) [])) ∧
  (∀ F r new env sto lg d n, Jt F (⟨.alen n, some d, none⟩ :: r) new ⟨env, sto⟩ lg = Jt F r new ⟨(d, .p (.i .i64 n)) :: env, sto⟩ (lgA lg (rdO F (.alen n) new ⟨env, sto⟩) [])) ∧
  (∀ F r new env sto lg d b x y, Jt F (⟨.mm b x y, some d, none⟩ :: r) new ⟨env, sto⟩ lg = (evv x env).bind fun a => (evv y env).bind fun c => (mmP b a c).bind fun v => Jt F r new ⟨(d, v) :: env, sto⟩ (lgA lg (rdO F (.mm b x y) new ⟨env, sto⟩) [])) ∧
  (∀ F r new env sto lg d n e x i, Jt F (⟨.aaddr n e x i, some d, none⟩ :: r) new ⟨env, sto⟩ lg = (evv x env).bind fun a => (evv i env).bind fun c => (JbE n e a c).bind fun v => Jt F r new ⟨(d, v) :: env, sto⟩ (lgA lg (rdO F (.aaddr n e x i) new ⟨env, sto⟩) [])) ∧
  (∀ F r new env sto lg d e x i, Jt F (⟨.iaddr e x i, some d, none⟩ :: r) new ⟨env, sto⟩ lg = (evv x env).bind fun a => (evv i env).bind fun c => ((J3n e a c).run ⟨env, sto⟩).bind fun q => Jt F r new ⟨(d, q.val) :: env, upd q.ws sto⟩ (lgA lg (rdO F (.iaddr e x i) new ⟨env, sto⟩) (q.ws.map (·.1)))) ∧
  (∀ F r new env sto lg d x i, Jt F (⟨.sidx x i, some d, none⟩ :: r) new ⟨env, sto⟩ lg = (evv x env).bind fun a => (evv i env).bind fun c => (Jl2 a c).bind fun v => Jt F r new ⟨(d, v) :: env, sto⟩ (lgA lg (rdO F (.sidx x i) new ⟨env, sto⟩) [])) ∧
  (∀ F r new env sto lg d g n e x i, Jt F (⟨.aidx g n e x i, some d, none⟩ :: r) new ⟨env, sto⟩ lg = (evv x env).bind fun a => (evv i env).bind fun c => (Jiu g n e a c).bind fun v => Jt F r new ⟨(d, v) :: env, sto⟩ (lgA lg (rdO F (.aidx g n e x i) new ⟨env, sto⟩) [])) ∧
  (∀ F r new env sto lg d x, Jt F (⟨.nilchk x, some d, none⟩ :: r) new ⟨env, sto⟩ lg = (evv x env).bind fun a => (Jnq a).bind fun v => Jt F r new ⟨(d, v) :: env, sto⟩ (lgA lg (rdO F (.nilchk x) new ⟨env, sto⟩) [])) ∧
  (∀ F r new env sto lg d g n x, Jt F (⟨.load g n x, some d, none⟩ :: r) new ⟨env, sto⟩ lg = (evv x env).bind fun a => ((J2f g n a).run ⟨env, sto⟩).bind fun q => Jt F r new ⟨(d, q.val) :: env, upd q.ws sto⟩ (lgA lg (rdO F (.load g n x) new ⟨env, sto⟩) (q.ws.map (·.1)))) ∧
  (∀ F r new env sto lg n x y, Jt F (⟨.store n x y, none, none⟩ :: r) new ⟨env, sto⟩ lg = (evv x env).bind fun a => (evv y env).bind fun c => ((J1D n a c).run ⟨env, sto⟩).bind fun q => Jt F r new ⟨env, upd q.ws sto⟩ (lgA lg (rdO F (.store n x y) new ⟨env, sto⟩) (q.ws.map (·.1)))) ∧
  (∀ F r new env sto lg d c x, Jt F (⟨.conv c x, some d, none⟩ :: r) new ⟨env, sto⟩ lg = (evv x env).bind fun a => dds (JN (.conv c x)) new sto (((cvR c a new).run ⟨env, sto⟩).bind fun e => Jt F r (new + JN (.conv c x)) ⟨(d, e.val) :: env, upd e.ws sto⟩ (lgA lg (rdO F (.conv c x) new ⟨env, sto⟩) (e.ws.map (·.1))))) ∧
  (∀ F r new env sto lg d z ps, Jt F (⟨.build z ps, some d, none⟩ :: r) new ⟨env, sto⟩ lg = ((J2W ps).run ⟨env, sto⟩).bind fun l => (J1f l (z.map .p)).bind fun cs => (J1P true cs).bind fun v => Jt F r new ⟨(d, v) :: env, sto⟩ (lgA lg (rdO F (.build z ps) new ⟨env, sto⟩) [])) ∧
  (∀ F r new env sto lg d s x lo hi mx, Jt F (⟨.slice s x lo hi mx, some d, none⟩ :: r) new ⟨env, sto⟩ lg = (evv x env).bind fun a => (J9J lo env).bind fun lo1 => (J9J hi env).bind fun hi1 => (J9J mx env).bind fun mx1 => ((slR s a lo1 hi1 mx1).run ⟨env, sto⟩).bind fun q => Jt F r new ⟨(d, q.val) :: env, upd q.ws sto⟩ (lgA lg (rdO F (.slice s x lo hi mx) new ⟨env, sto⟩) (q.ws.map (·.1)))) ∧
  (∀ F r new env sto lg d e b z x y, Jt F (⟨.app e b z x y, some d, none⟩ :: r) new ⟨env, sto⟩ lg = (evv x env).bind fun a => (evv y env).bind fun c => ((J4S e b a c).run ⟨env, sto⟩).bind fun q => Jt F r new ⟨(d, q.val) :: env, upd q.ws sto⟩ (lgA lg (rdO F (.app e b z x y) new ⟨env, sto⟩) (q.ws.map (·.1)))) ∧
  (∀ F r new env sto lg d e b z x y, Jt F (⟨.appz e b z x y, some d, none⟩ :: r) new ⟨env, sto⟩ lg = (evv x env).bind fun a => (evv y env).bind fun c => (zrs e z c).bind fun c1 => ((J4S e b a c1).run ⟨env, sto⟩).bind fun q => Jt F r new ⟨(d, q.val) :: env, upd q.ws sto⟩ (lgA lg (rdO F (.appz e b z x y) new ⟨env, sto⟩) (q.ws.map (·.1)))) ∧
  (∀ F r new env sto lg d g a c, Jt F (⟨.mkfn g a c, some d, none⟩ :: r) new ⟨env, sto⟩ lg = ((evs a).run ⟨env, sto⟩).bind fun a1 => ((evs c).run ⟨env, sto⟩).bind fun c1 => Jt F r new ⟨(d, .fn g a1 c1) :: env, sto⟩ (lgA lg (rdO F (.mkfn g a c) new ⟨env, sto⟩) [])) ∧
  (∀ F r new env sto lg d g args n, Jt F (⟨.callv g args n, some d, none⟩ :: r) new ⟨env, sto⟩ lg = (evv g env).bind fun u => cvg u fun h a1 c1 => dds n new sto (((evs args).run ⟨env, sto⟩).bind fun a => ((JJ (a1 ++ a ++ c1)).run ⟨env, sto⟩).bind fun a => ((Jl F h a n new).run ⟨env, sto⟩).bind fun q => Jt F r (new + n) ⟨(d, q.val) :: env, upd q.ws sto⟩ (lgA lg (rdO F (.callv g args n) new ⟨env, sto⟩) (q.ws.map (·.1))))) ∧
  (∀ F r new env sto lg g args n, Jt F (⟨.callv g args n, none, none⟩ :: r) new ⟨env, sto⟩ lg = (evv g env).bind fun u => cvg u fun h a1 c1 => dds n new sto (((evs args).run ⟨env, sto⟩).bind fun a => ((JJ (a1 ++ a ++ c1)).run ⟨env, sto⟩).bind fun a => ((Jl F h a n new).run ⟨env, sto⟩).bind fun q => Jt F r (new + n) ⟨env, upd q.ws sto⟩ (lgA lg (rdO F (.callv g args n) new ⟨env, sto⟩) (q.ws.map (·.1))))) ∧
  (∀ {α : Type} (f : FuncId) (a c : List AV) (k : FuncId → List AV → List AV → Option α), cvg (.fn f a c) k = k f a c) ∧
  (∀ F r new env sto lg d e b z y, Jt F (⟨.appn e b z y, some d, none⟩ :: r) new ⟨env, sto⟩ lg = (evv y env).bind fun c => ((J05 e c).run ⟨env, sto⟩).bind fun rows => if J3h rows.length b = true then dds 1 new sto (Jt F r (new + 1) ⟨(d, .slr new 0 rows.length) :: env, sto.set new (.arr true e rows)⟩ (lgA lg (rdO F (.appn e b z y) new ⟨env, sto⟩) [new])) else none) ∧
  (∀ F r new env sto lg d e b z x y, Jt F (⟨.appc e b z x y, some d, none⟩ :: r) new ⟨env, sto⟩ lg = (evv x env).bind fun a => (evv y env).bind fun c => ((J05 e c).run ⟨env, sto⟩).bind fun add => (Jj9 e b a add).bind fun rows => dds 1 new sto (Jt F r (new + 1) ⟨(d, .slr new 0 rows.length) :: env, sto.set new (.arr true e rows)⟩ (lgA lg (rdO F (.appc e b z x y) new ⟨env, sto⟩) [new]))) ∧
  (∀ F r new env sto lg d z, Jt F (⟨.newbox z, some d, none⟩ :: r) new ⟨env, sto⟩ lg = dds 1 new sto (Jt F r (new + 1) ⟨(d, .ptr new 0) :: env, sto.set new (.box (z.map .p))⟩ (lgA lg (rdO F (.newbox z) new ⟨env, sto⟩) [new]))) ∧
  (∀ F r new env sto lg d e x, Jt F (⟨.mkarr e x, some d, none⟩ :: r) new ⟨env, sto⟩ lg = dds 1 new sto (Jt F r (new + 1) ⟨(d, .slr new 0 0) :: env, sto.set new (.arr true e [])⟩ (lgA lg (rdO F (.mkarr e x) new ⟨env, sto⟩) [new]))) ∧
  (∀ F r new env sto lg d n x, Jt F (⟨.box n x, some d, none⟩ :: r) new ⟨env, sto⟩ lg = (evv x env).bind fun a => (bxP n a).bind fun cs => dds 1 new sto (Jt F r (new + 1) ⟨(d, .ptr new 0) :: env, sto.set new (.box cs)⟩ (lgA lg (rdO F (.box n x) new ⟨env, sto⟩) [new]))) ∧
  (∀ F r new env sto lg d o e n z ps, Jt F (⟨.lits o e n z ps, some d, none⟩ :: r) new ⟨env, sto⟩ lg = dds (if o then 1 else 0) new sto (((ltR o e n z ps new).run ⟨env, sto⟩).bind fun x => Jt F r (new + if o then 1 else 0) ⟨(d, x.val) :: env, upd x.ws sto⟩ (lgA lg (rdO F (.lits o e n z ps) new ⟨env, sto⟩) (x.ws.map (·.1))))) ∧
  (∀ F r new env sto lg d o e b z l c, Jt F (⟨.mkslice o e b z l c, some d, none⟩ :: r) new ⟨env, sto⟩ lg = (evv l env).bind fun a => (evv c env).bind fun x => dds (if o then 1 else 0) new sto ((mkP o e b z a x new).bind fun x => Jt F r (new + if o then 1 else 0) ⟨(d, x.val) :: env, upd x.ws sto⟩ (lgA lg (rdO F (.mkslice o e b z l c) new ⟨env, sto⟩) (x.ws.map (·.1))))) ∧
  (∀ F r new env sto lg d g args n, Jt F (⟨.call g args n, some d, none⟩ :: r) new ⟨env, sto⟩ lg = dds n new sto (((evs args).run ⟨env, sto⟩).bind fun a => ((JJ a).run ⟨env, sto⟩).bind fun a => ((Jl F g a n new).run ⟨env, sto⟩).bind fun e => Jt F r (new + n) ⟨(d, e.val) :: env, upd e.ws sto⟩ (lgA lg (rdO F (.call g args n) new ⟨env, sto⟩) (e.ws.map (·.1))))) ∧
  (∀ F r new env sto lg g args n, Jt F (⟨.call g args n, none, none⟩ :: r) new ⟨env, sto⟩ lg = dds n new sto (((evs args).run ⟨env, sto⟩).bind fun a => ((JJ a).run ⟨env, sto⟩).bind fun a => ((Jl F g a n new).run ⟨env, sto⟩).bind fun e => Jt F r (new + n) ⟨env, upd e.ws sto⟩ (lgA lg (rdO F (.call g args n) new ⟨env, sto⟩) (e.ws.map (·.1))))) ∧
  (∀ F r new env sto lg d z os, Jt F (⟨.newboxo z os, some d, none⟩ :: r) new ⟨env, sto⟩ lg = dds (os.length + 1) new sto (Jt F r (new + (os.length + 1)) ⟨(d, .ptr (new + os.length) 0) :: env, upd (J3C os new ++ [(new + os.length, .box (J7L os new (z.map .p)))]) sto⟩ (lgA lg (rdO F (.newboxo z os) new ⟨env, sto⟩) ((J3C os new ++ [(new + os.length, Blk.box (J7L os new (z.map .p)))]).map (·.1))))) ∧
  (∀ F r new env sto lg e x, Jt F (⟨.storen e x, none, none⟩ :: r) new ⟨env, sto⟩ lg = (evv x env).bind fun a => dds 1 new sto (((J1D 1 a (.slr new 0 0)).run ⟨env, sto⟩).bind fun q => Jt F r (new + 1) ⟨env, upd ((new, .arr true e []) :: q.ws) sto⟩ (lgA lg (rdO F (.storen e x) new ⟨env, sto⟩) (new :: q.ws.map (·.1))))) ∧
  (∀ F r new env sto lg d z ps os, Jt F (⟨.buildo z ps os, some d, none⟩ :: r) new ⟨env, sto⟩ lg = ((J2W ps).run ⟨env, sto⟩).bind fun l => (J1f l (J7L os new (z.map .p))).bind fun cs => (J1P true cs).bind fun v => dds os.length new sto (Jt F r (new + os.length) ⟨(d, v) :: env, upd (J3C os new) sto⟩ (lgA lg (rdO F (.buildo z ps os) new ⟨env, sto⟩) ((J3C os new).map (·.1))))) ∧
  (∀ F r new env sto lg d g kp args n, Jt F (⟨.callo g kp args n, some d, none⟩ :: r) new ⟨env, sto⟩ lg = dds n new sto (((evs args).run ⟨env, sto⟩).bind fun a => ((J2s kp a).run ⟨env, sto⟩).bind fun a => ((J3m F g a n new).run ⟨env, sto⟩).bind fun e => Jt F r (new + n) ⟨(d, e.val) :: env, upd e.ws sto⟩ (lgA lg (rdO F (.callo g kp args n) new ⟨env, sto⟩) (e.ws.map (·.1))))) ∧
  (∀ F r new env sto lg g kp args n, Jt F (⟨.callo g kp args n, none, none⟩ :: r) new ⟨env, sto⟩ lg = dds n new sto (((evs args).run ⟨env, sto⟩).bind fun a => ((J2s kp a).run ⟨env, sto⟩).bind fun a => ((J3m F g a n new).run ⟨env, sto⟩).bind fun e => Jt F r (new + n) ⟨env, upd e.ws sto⟩ (lgA lg (rdO F (.callo g kp args n) new ⟨env, sto⟩) (e.ws.map (·.1))))) ∧
  (∀ {α : Type} (n new : Nat) (sto : List Blk) (o : Option α), dds (n + 1) new sto o = dd1 sto[new]? (dds n (new + 1) sto o)) ∧
  (∀ F r new env sto lg op d g w, Jt F (⟨op, d, some (g, w)⟩ :: r) new ⟨env, sto⟩ lg = grd (lk g env) w (J8d (Jt F (⟨op, d, none⟩ :: r) new ⟨env, sto⟩ lg) (.mk _)) (J8d (Jt F r (new + JN op) (put d ⟨J14, []⟩ ⟨env, sto⟩) (lgA lg [] [])) (.mk _))) ∧
  (∀ {α : Type} (a b : Option α) (h : Dum a), grd (some (.p (.b true))) true (J8d a h) b = a) ∧
  (∀ {α : Type} (a b : Option α) (h : Dum b), grd (some (.p (.b true))) false a (J8d b h) = b) ∧
  (∀ {α : Type} (a b : Option α) (h : Dum b), grd (some (.p (.b false))) true a (J8d b h) = b) ∧
  (∀ {α : Type} (a b : Option α) (h : Dum a), grd (some (.p (.b false))) false (J8d a h) b = a) ∧
  (∀ {α : Type} (w : Bool) (a b : Option α) (h : Dum b), grd (some (.tup [])) w a (J8d b h) = b) ∧
  (∀ {β : Type} (a b : Option AV) (K : AV → Option β) (h : Dum K), pkh (.p (.b true)) a b (J8d K h) = a.bind K) ∧
  (∀ {β : Type} (a b : Option AV) (K : AV → Option β) (h : Dum K), pkh (.p (.b false)) a b (J8d K h) = b.bind K) ∧
  (∀ {α β : Type} (a : α) (f : α → Option β), Option.bind (some a) f = f a) ∧
  (∀ {α : Type} (new : Nat) (sto : List Blk) (o : Option α), dds 0 new sto o = o) ∧
  (∀ {α : Type} (new : Nat) (sto : List Blk) (o : Option α), dds 1 new sto o = dd1 sto[new]? o) ∧
  (∀ {α : Type} (o : Option α), dd1 (some .dead) o = o) :=
  ⟨by intro T f m k s; exact Jv8 T f m k s,
  by intro T f m k a b s; exact Jwc T f m k a b s,
  by intro T f m k d ins env sto; exact Jug T f m k d ins env sto,
  by intro T f m k d q ps ins env sto; exact Jv9 T f m k d q ps ins env sto,
  by intro T f m k i c s; exact JsT T f m k i c s,
  by intro T f m k c s; exact Jtq T f m k c s,
  by intro T f m k i s; exact JuK T f m k i s,
  by intro T f m k s; exact Jvy T f m k s,
  by intro T f m k live c env sto; exact JtO T f m k live c env sto,
  by intro T f m k live c env sto; exact JtN T f m k live c env sto,
  by intro T f m k live c env sto; exact JtT T f m k live c env sto,
  by intro T f m k x a b env sto; exact JuT T f m k x a b env sto,
  by intros; rfl,
  by intros; rfl,
  by intros; rfl,
  by intros; rfl,
  by intros; rfl,
  by intros; rfl,
  by intro T f m k i j s; exact JuO T f m k i j s,
  by intros; rfl,
  by intro T f m k n live e s; exact (JwB T f m k n live e s).trans (by cases J5Z n live s <;> rfl),
  by intros; rfl,
  by intros; rfl,
  by intros; rfl,
  by intros; rfl,
  by intros; rfl,
  by intro T f m s; exact JtY T f m s,
  by intro T f m s; exact Jsk T f m s,
  by intros; rfl,
  by intros; rfl,
  by intros; rfl,
  by intros; rfl,
  by intros; rfl,
  by intros; rfl,
  by intros; rfl,
  by intros; rfl,
  by intros; rfl,
  by intro F r new env sto lg d x; rw [st0 (h := rfl)]; simp only [opR, run_bind, J0E]; exact Jvs,
  by intro F r new env sto lg d c a b; rw [st0 (h := rfl)]; simp only [opR, run_bind, J0E]; exact Jtx,
  by intro F r new env sto lg d op t x y; rw [st0 (h := rfl)]; simp only [opR, run_bind, J0E]; exact JkB (g := fun a c => J0C op t a c),
  by intro F r new env sto lg d op x; rw [st0 (h := rfl)]; simp only [opR, run_bind, J0E]; exact Jek (g := fun a => unP op a),
  by intro F r new env sto lg d g off n x; rw [st0 (h := rfl)]; simp only [opR, run_bind, J0E]; exact Jek (g := fun a => J5R g off n a),
  by intro F r new env sto lg d off x; rw [st0 (h := rfl)]; simp only [opR, run_bind, J0E]; exact Jek (g := fun a => JbC off a),
  by intro F r new env sto lg d x i; rw [st0 (h := rfl)]; simp only [opR, run_bind, J0E]; exact Jek (g := fun a => JgR i a),
  by intro F r new env sto lg d b x; rw [st0 (h := rfl)]; simp only [opR, run_bind, J0E]; exact Jek (g := fun a => Jgq b a),
  by intro F r new env sto lg d n; rw [st0 (h := rfl)]; rfl,
  by intro F r new env sto lg d b x y; rw [st0 (h := rfl)]; simp only [opR, run_bind, J0E]; exact JkB (g := fun a c => mmP b a c),
  by intro F r new env sto lg d n e x i; rw [st0 (h := rfl)]; simp only [opR, run_bind, J0E]; exact JkB (g := fun a c => JbE n e a c),
  by intro F r new env sto lg d e x i; rw [st0 (h := rfl)]; simp only [opR, run_bind, J0E]; exact JiW (g := fun a c => (J3n e a c).run ⟨env, sto⟩),
  by intro F r new env sto lg d x i; rw [st0 (h := rfl)]; simp only [opR, run_bind, J0E]; exact JtV,
  by intro F r new env sto lg d g n e x i; rw [st0 (h := rfl)]; simp only [opR, run_bind, J0E]; exact Jul,
  by intro F r new env sto lg d x; rw [st0 (h := rfl)]; simp only [opR, run_bind, J0E]; exact Jue,
  by intro F r new env sto lg d g n x; rw [st0 (h := rfl)]; simp only [opR, run_bind, J0E]; exact Jne (g := fun a => (J2f g n a).run ⟨env, sto⟩),
  by intro F r new env sto lg n x y; rw [Jxa (h := rfl)]; simp only [opR, run_bind, J0E]; exact JiW (g := fun a c => (J1D n a c).run ⟨env, sto⟩),
  by intro F r new env sto lg d c x; exact JsZ,
  by intro F r new env sto lg d z ps; exact JrF,
  by intro F r new env sto lg d s x lo hi mx; exact Jr8,
  by intro F r new env sto lg d e b z x y; rw [st0 (h := rfl)]; simp only [opR, run_bind, J0E]; exact JiW (g := fun a c => (J4S e b a c).run ⟨env, sto⟩),
  by intro F r new env sto lg d e b z x y; rw [st0 (h := rfl)]; simp only [opR, run_bind, J0E]; exact Jrb,
  by intro F r new env sto lg d g a c; exact JsR,
  by intro F r new env sto lg d g args n; exact JrR,
  by intro F r new env sto lg g args n; exact Jqz,
  by intros; rfl,
  by intro F r new env sto lg d e b z y; exact JtA,
  by intro F r new env sto lg d e b z x y; exact Jto,
  by intro F r new env sto lg d z; exact JqB,
  by intro F r new env sto lg d e x; exact JqT,
  by intro F r new env sto lg d n x; exact Jub,
  by intro F r new env sto lg d o e n z ps; exact JsP,
  by intro F r new env sto lg d o e b z l c; exact JoK,
  by intro F r new env sto lg d g args n; exact Jte,
  by intro F r new env sto lg g args n; exact JqQ,
  by intro F r new env sto lg d z os; exact JoY,
  by intro F r new env sto lg e x; exact Jq0,
  by intro F r new env sto lg d z ps os; exact Jqd,
  by intro F r new env sto lg d g kp args n; exact JqN,
  by intro F r new env sto lg g kp args n; exact Jqh,
  by intro α n new sto o; exact Jx8 ..,
  by intro F r new env sto lg op d g w; exact Ju8 ..,
  by intros; rfl,
  by intros; rfl,
  by intros; rfl,
  by intros; rfl,
  by intros; rfl,
  by intros; rfl,
  by intros; rfl,
  by intros; rfl,
  by intros; rfl,
  by intro α new sto o; exact Jx6 ..,
  by intros; rfl⟩
set_option maxRecDepth 30000 in
theorem Ua : (∀ n m v r, lk n ((m, v) :: r) = if n = m then some v else lk n r) ∧
  (∀ n env, evv (.t n) env = lk n env) ∧
  (∀ v env, evv (.c v) env = some v) ∧
  (∀ a b, pk (.p (.b true)) a b = a) ∧
  (∀ a b, pk (.p (.b false)) a b = b) ∧
  (∀ env, restr [] env = []) ∧
  (∀ k l env, restr (k :: l) env = JqC k (lk k env) (restr l env)) ∧
  (∀ k v l, JqC k (some v) l = (k, v) :: l) ∧
  (∀ k l, JqC k none l = l) ∧
  (∀ n, lk n [] = none) ∧
  (news [] = 0) ∧
  (∀ i r, news (i :: r) = JN i.op + news r) ∧
  (∀ x, JN (.mv x) = 0) ∧
  (∀ e x, JN (.mkarr e x) = 1) ∧
  (∀ a b c, JN (.pick a b c) = 0) ∧
  (∀ z, JN (.newbox z) = 1) ∧
  (∀ n x, JN (.box n x) = 1) ∧
  (∀ z ps, JN (.build z ps) = 0) ∧
  (∀ o e n z ps, JN (.lits o e n z ps) = if o then 1 else 0) ∧
  (∀ g n x, JN (.load g n x) = 0) ∧
  (∀ n x y, JN (.store n x y) = 0) ∧
  (∀ x, JN (.nilchk x) = 0) ∧
  (∀ op t x y, JN (.bin op t x y) = 0) ∧
  (∀ op x, JN (.un op x) = 0) ∧
  (∀ c x, JN (.conv (.int c) x) = 0) ∧
  (∀ x, JN (.conv .same x) = 0) ∧
  (∀ x, JN (.conv .toStr x) = 0) ∧
  (∀ o x, JN (.conv (.toBytes o) x) = if o then 1 else 0) ∧
  (∀ o e b z l c, JN (.mkslice o e b z l c) = if o then 1 else 0) ∧
  (∀ s x lo hi mx, JN (.slice s x lo hi mx) = 0) ∧
  (∀ off x, JN (.faddr off x) = 0) ∧
  (∀ g off n x, JN (.field g off n x) = 0) ∧
  (∀ e x i, JN (.iaddr e x i) = 0) ∧
  (∀ n e x i, JN (.aaddr n e x i) = 0) ∧
  (∀ x i, JN (.sidx x i) = 0) ∧
  (∀ g n e x i, JN (.aidx g n e x i) = 0) ∧
  (∀ x i, JN (.extr x i) = 0) ∧
  (∀ g args n, JN (.call g args n) = n) ∧
  (∀ g args n, JN (.callv g args n) = n) ∧
  (∀ b x, JN (.len b x) = 0) ∧
  (∀ n, JN (.alen n) = 0) ∧
  (∀ e b z x y, JN (.app e b z x y) = 0) ∧
  (∀ e b z x y, JN (.appz e b z x y) = 0) ∧
  (∀ e b z y, JN (.appn e b z y) = 1) ∧
  (∀ e b z x y, JN (.appc e b z x y) = 1) ∧
  (∀ b x y, JN (.mm b x y) = 0) ∧
  (∀ g a c, JN (.mkfn g a c) = 0) ∧
  (∀ z os, JN (.newboxo z os) = os.length + 1) ∧
  (∀ z ps os, JN (.buildo z ps os) = os.length) ∧
  (∀ e x, JN (.storen e x) = 1) ∧
  (∀ g kp args n, JN (.callo g kp args n) = n) ∧
  (∀ sto, room 0 sto = sto) ∧
  (∀ n sto, room (n + 1) sto = sto ++ .dead :: List.replicate n .dead) ∧
  (∀ sto, upd [] sto = sto) ∧
  (∀ b x ws sto, upd ((b, x) :: ws) sto = upd ws (sto.set b x)) ∧
  (∀ d v ws env sto, put (some d) ⟨v, ws⟩ ⟨env, sto⟩ = ⟨(d, v) :: env, upd ws sto⟩) ∧
  (∀ v ws env sto, put none ⟨v, ws⟩ ⟨env, sto⟩ = ⟨env, upd ws sto⟩) ∧
  (J14 = .tup []) ∧
  (∀ {α β : Type} (a : α) (f : α → β), Option.map f (some a) = some (f a)) ∧
  (∀ k x y, J0C .add .plain (.p (.i k x)) (.p (.i k y)) = some (.p (.i k (k.wrap (x + y))))) ∧
  (∀ k x y, J0C .sub .plain (.p (.i k x)) (.p (.i k y)) = some (.p (.i k (k.wrap (x - y))))) ∧
  (∀ k x y, J0C .mul .plain (.p (.i k x)) (.p (.i k y)) = some (.p (.i k (k.wrap (x * y))))) ∧
  (∀ k x y, J0C .and .plain (.p (.i k x)) (.p (.i k y)) = some (.p (.i k (J60 k x y)))) ∧
  (∀ k x y, J0C .or .plain (.p (.i k x)) (.p (.i k y)) = some (.p (.i k (orI k x y)))) ∧
  (∀ k x y, J0C .xor .plain (.p (.i k x)) (.p (.i k y)) = some (.p (.i k (J7R k x y)))) ∧
  (∀ k x y, J0C .eql .plain (.p (.i k x)) (.p (.i k y)) = some (.p (.b (x == y)))) ∧
  (∀ k x y, J0C .neq .plain (.p (.i k x)) (.p (.i k y)) = some (.p (.b (x != y)))) ∧
  (∀ k x y, J0C .lss .plain (.p (.i k x)) (.p (.i k y)) = some (.p (.b (decide (x < y))))) ∧
  (∀ k x y, J0C .leq .plain (.p (.i k x)) (.p (.i k y)) = some (.p (.b (decide (x ≤ y))))) ∧
  (∀ k x y, J0C .gtr .plain (.p (.i k x)) (.p (.i k y)) = some (.p (.b (decide (x > y))))) ∧
  (∀ k x y, J0C .geq .plain (.p (.i k x)) (.p (.i k y)) = some (.p (.b (decide (x ≥ y))))) ∧
  (∀ k x y, J0C .quo .plain (.p (.i k x)) (.p (.i k y)) = (JvO k x y).map fun z => .p (.i k z)) ∧
  (∀ k x y, J0C .rem .plain (.p (.i k x)) (.p (.i k y)) = (Jbm x y).map fun z => .p (.i k z)) ∧
  (∀ k k2 x y, J0C .shl .plain (.p (.i k x)) (.p (.i k2 y)) = (Jw4 k x y).map fun z => .p (.i k z)) ∧
  (∀ k k2 x y, J0C .shr .plain (.p (.i k x)) (.p (.i k2 y)) = (Jdv k x y).map fun z => .p (.i k z)) ∧
  (∀ x y, J0C .add .plain (.p (.s x)) (.p (.s y)) = (JdC x y).map fun z => .p (.s z)) ∧
  (∀ x y, J0C .eql .plain (.p (.s x)) (.p (.s y)) = some (.p (.b (x == y)))) ∧
  (∀ x y, J0C .neq .plain (.p (.s x)) (.p (.s y)) = some (.p (.b (!(x == y))))) ∧
  (∀ x y, J0C .lss .plain (.p (.s x)) (.p (.s y)) = some (.p (.b (Op.bytesLess x y)))) ∧
  (∀ x y, J0C .leq .plain (.p (.s x)) (.p (.s y)) = some (.p (.b (Op.bytesLess x y || x == y)))) ∧
  (∀ x y, J0C .gtr .plain (.p (.s x)) (.p (.s y)) = some (.p (.b (!(Op.bytesLess x y || x == y))))) ∧
  (∀ x y, J0C .geq .plain (.p (.s x)) (.p (.s y)) = some (.p (.b (!Op.bytesLess x y)))) ∧
  (∀ x y, J0C .eql .bool (.p (.b x)) (.p (.b y)) = some (.p (.b (x == y)))) ∧
  (∀ x y, J0C .neq .bool (.p (.b x)) (.p (.b y)) = some (.p (.b (!(x == y))))) ∧
  (∀ ks a c, J0C .eql (.flat ks) (.data a) (.data c) = (J0Q ks a c).map fun x => .p (.b x)) ∧
  (∀ ks a c, J0C .neq (.flat ks) (.data a) (.data c) = (J0Q ks a c).map fun x => .p (.b (!x))) ∧
  (∀ b o y, J0C .eql .nilp (.ptr b o) y = some (.p (.b false))) ∧
  (∀ b o y, J0C .neq .nilp (.ptr b o) y = some (.p (.b true))) ∧
  (∀ k n, unP .neg (.p (.i k n)) = some (.p (.i k (k.wrap (0 - n))))) ∧
  (∀ k n, unP .xor (.p (.i k n)) = some (.p (.i k (Jsw k n)))) ∧
  (∀ x, unP .not (.p (.b x)) = some (.p (.b (!x)))) ∧
  ((!true) = false) ∧
  ((!false) = true) ∧
  (∀ k x y, mmP true (.p (.i k x)) (.p (.i k y)) = some (.p (.i k (Jai x y)))) ∧
  (∀ k x y, mmP false (.p (.i k x)) (.p (.i k y)) = some (.p (.i k (JiC x y)))) ∧
  (∀ off b o, JbC off (.ptr b o) = some (.ptr b (o + off))) ∧
  (∀ off o cs, JbC off (.cp cs o) = some (.cp cs (o + off))) ∧
  (∀ off b e i o, JbC off (.ep b e i o) = some (.ep b e i (o + off))) ∧
  (∀ g off n cs, J5R g off n (.data cs) = (sub cs off n).bind (J29 g)) ∧
  (∀ g off n c cs, J5R g off n (.agg (c :: cs)) = (sub (c :: cs) off n).bind (J1P g)) ∧
  (∀ cs, J29 true cs = some (.data cs)) ∧
  (∀ c, J29 false [c] = some (.p c)) ∧
  (∀ cs, J1P true (cs.map AV.p) = some (.data cs)) ∧
  (∀ c cs, J1P true (c :: cs) = some (Jnu (c :: cs) (unp (c :: cs)))) ∧
  (∀ c, J1P false [c] = some c) ∧
  (∀ cs l, Jnu cs (some l) = .data l) ∧
  (∀ c, Option.map (fun l => c :: l) (none : Option (List PV)) = none) ∧
  (∀ cs, Jnu cs none = .agg cs) ∧
  (unp [] = some []) ∧
  (∀ c r, unp (.p c :: r) = (unp r).map fun l => c :: l) ∧
  (∀ b i n r, unp (.slr b i n :: r) = none) ∧
  (∀ b i r, unp (.ptr b i :: r) = none) ∧
  (∀ b e i o r, unp (.ep b e i o :: r) = none) ∧
  (∀ f a c r, unp (.fn f a c :: r) = none) ∧
  (∀ i vs, JgR i (.tup vs) = vs[i]?) ∧
  (∀ l, Jgq true (.p (.s l)) = some (.p (.i .i64 l.length))) ∧
  (∀ e rows, Jgq false (.p (.sl e rows)) = some (.p (.i .i64 rows.length))) ∧
  (∀ b i n, Jgq false (.slr b i n) = some (.p (.i .i64 n))) ∧
  (∀ {α β : Type} (g : α → β) (l : List α), (l.map g).length = l.length) ∧
  (∀ b o, Jnq (.ptr b o) = some (.ptr b o)) ∧
  (∀ cs o, Jnq (.cp cs o) = some (.cp cs o)) ∧
  (∀ b e i o, Jnq (.ep b e i o) = some (.ep b e i o)) ∧
  (∀ env sto g n cs off, (J2f g n (.cp cs off)).run ⟨env, sto⟩ = (sub cs off n).bind fun l => (J29 g l).map fun v => ⟨v, []⟩) ∧
  (∀ env sto g n b off, (J2f g n (.ptr b off)).run ⟨env, sto⟩ = sto[b]?.bind fun B => ldB g n off B) ∧
  (∀ env sto g n b e i off, (J2f g n (.ep b e i off)).run ⟨env, sto⟩ = sto[b]?.bind fun B => ldE g n e i off B) ∧
  (∀ g n off cs, ldB g n off (.box (cs.map AV.p)) = (sub cs off n).bind fun l => (J29 g l).map fun v => ⟨v, []⟩) ∧
  (∀ g n off c cs, ldB g n off (.box (c :: cs)) = (sub (c :: cs) off n).bind fun l => (J1P g l).map fun v => ⟨v, []⟩) ∧
  (∀ g n e i off z w rows, ldE g n e i off (.arr w z rows) = if e = rows.length then rows[i]?.bind fun row => (sub row off n).bind fun l => (J29 g l).map fun v => ⟨v, []⟩ else none) ∧
  (∀ env sto n b off v, (J1D n (.ptr b off) v).run ⟨env, sto⟩ = sto[b]?.bind fun B => (cellsOf v).bind fun l => stB n b off l B) ∧
  (∀ n b off cs vs, stB n b off (vs.map AV.p) (.box (cs.map AV.p)) = if vs.length = n then (spl cs off vs).map fun cs => ⟨J14, [(b, .box (cs.map AV.p))]⟩ else none) ∧
  (∀ b off cs v, stB 1 b off [AV.p v] (.box (cs.map AV.p)) = (spl cs off [v]).map fun cs => ⟨J14, [(b, .box (cs.map AV.p))]⟩) ∧
  (∀ env sto n b e i off v, (J1D n (.ep b e i off) v).run ⟨env, sto⟩ = sto[b]?.bind fun B => stE n b e i off v B ⟨env, sto⟩) ∧
  (∀ n b e i off z c rows s, stE n b e i off (.p c) (.arr true z rows) s = if e = rows.length then rows[i]?.bind fun row => if 1 = n then (spl row off [c]).map fun row => ⟨J14, [(b, .arr true z (rows.set i row))]⟩ else none else none) ∧
  (∀ n b e i off z cs rows s, stE n b e i off (.data cs) (.arr true z rows) s = if e = rows.length then rows[i]?.bind fun row => if cs.length = n then (spl row off cs).map fun row => ⟨J14, [(b, .arr true z (rows.set i row))]⟩ else none else none) ∧
  (∀ c, cellsOf (.p c) = some [.p c]) ∧
  (∀ cs, cellsOf (.data cs) = some (cs.map AV.p)) ∧
  (∀ cs, cellsOf (.agg cs) = some cs) ∧
  (∀ f a c, cellsOf (.fn f a c) = some [.fn f a c]) ∧
  (∀ b i n, cellsOf (.slr b i n) = some [.slr b i n]) ∧
  (∀ b o, cellsOf (.ptr b o) = some [.ptr b o]) ∧
  (∀ c, bxP 1 (.p c) = some [.p c]) ∧
  (∀ n cs, bxP n (.data cs) = if cs.length = n then some (cs.map AV.p) else none) ∧
  (∀ n cs, bxP n (.agg cs) = if cs.length = n then some cs else none) ∧
  (∀ b i n, bxP 1 (.slr b i n) = some [.slr b i n]) ∧
  (∀ env sto e rows k n, (J3n e (.p (.sl e rows)) (.p (.i k n))).run ⟨env, sto⟩ = (Jcm rows n).map fun row => ⟨.cp row 0, []⟩) ∧
  (∀ env sto e b m k n, (J3n e (.slr b 0 m) (.p (.i k n))).run ⟨env, sto⟩ = sto[b]?.bind fun B => iaB e b m n B) ∧
  (∀ e b m n w rows, iaB e b m n (.arr w e rows) = if m = rows.length ∧ 0 ≤ n ∧ n < m then some ⟨.ep b rows.length n.toNat 0, []⟩ else none) ∧
  (∀ n e b off k i, JbE n e (.ptr b off) (.p (.i k i)) = if 0 ≤ i ∧ i < n then some (.ptr b (off + i.toNat * e)) else none) ∧
  (∀ n e off cs k i, JbE n e (.cp cs off) (.p (.i k i)) = if 0 ≤ i ∧ i < n then some (.cp cs (off + i.toNat * e)) else none) ∧
  (∀ n e b x j off k i, JbE n e (.ep b x j off) (.p (.i k i)) = if 0 ≤ i ∧ i < n then some (.ep b x j (off + i.toNat * e)) else none) ∧
  (∀ l k n, Jl2 (.p (.s l)) (.p (.i k n)) = (JkY l n).map fun v => .p (.i .u8 v)) ∧
  (∀ g n e cs k i, Jiu g n e (.agg cs) (.p (.i k i)) = if 0 ≤ i ∧ i < n then J5R g (i.toNat * e) e (.agg cs) else none) ∧
  (∀ g n e cs k i, Jiu g n e (.data cs) (.p (.i k i)) = if 0 ≤ i ∧ i < n then (sub cs (i.toNat * e) e).bind (J29 g) else none) ∧
  (∀ env sto c k n new, (cvR (.int c) (.p (.i k n)) new).run ⟨env, sto⟩ = some ⟨.p (.i c (c.wrap n)), []⟩) ∧
  (∀ env sto l new, (cvR .same (.p (.s l)) new).run ⟨env, sto⟩ = some ⟨.p (.s l), []⟩) ∧
  (∀ env sto l new, (cvR .toStr (.p (.sl 1 (l.map (r_i .u8)))) new).run ⟨env, sto⟩ = some ⟨.p (.s (toStr l)), []⟩) ∧
  (∀ env sto b n new, (cvR .toStr (.slr b 0 n) new).run ⟨env, sto⟩ = sto[b]?.bind fun B => cvB n B) ∧
  (∀ n w l, cvB n (.arr w 1 (l.map (r_i .u8))) = if n = l.length then some ⟨.p (.s (toStr l)), []⟩ else none) ∧
  (∀ env sto l new, (cvR (.toBytes false) (.p (.s l)) new).run ⟨env, sto⟩ = some ⟨.p (.sl 1 ((Jaa l).map (r_i .u8))), []⟩) ∧
  (∀ env sto l new, (cvR (.toBytes true) (.p (.s l)) new).run ⟨env, sto⟩ = some ⟨.slr new 0 (Jaa l).length, [(new, .arr true 1 ((Jaa l).map (r_i .u8)))]⟩) ∧
  (∀ env sto, (J2W []).run ⟨env, sto⟩ = some []) ∧
  (∀ env sto off size x r, (J2W ((off, size, x) :: r)).run ⟨env, sto⟩ = (evv x env).bind fun v => (cellsOf v).bind fun cs => ((J2W r).run ⟨env, sto⟩).bind fun l => some ((off, size, cs) :: l)) ∧
  (∀ cs, J1f [] cs = some cs) ∧
  (∀ off size vs cs r, J1f ((off, size, vs.map AV.p) :: r) (cs.map AV.p) = if vs.length = size then (spl cs off vs).bind fun cs => J1f r (cs.map AV.p) else none) ∧
  (∀ off v cs r, J1f ((off, 1, [AV.p v]) :: r) (cs.map AV.p) = (spl cs off [v]).bind fun cs => J1f r (cs.map AV.p)) ∧
  (∀ env sto, (evs []).run ⟨env, sto⟩ = some []) ∧
  (∀ env sto x r, (evs (x :: r)).run ⟨env, sto⟩ = (evv x env).bind fun v => ((evs r).run ⟨env, sto⟩).bind fun vs => some (v :: vs)) ∧
  (∀ n, J3C [] n = []) ∧
  (∀ o e r n, J3C ((o, e) :: r) n = (n, .arr true e []) :: J3C r (n + 1)) ∧
  (∀ n cs, J7L [] n cs = cs) ∧
  (∀ o e r n cs, J7L ((o, e) :: r) n cs = J7L r (n + 1) (cs.set o (.slr n 0 0))) ∧
  (∀ env sto m, (J2s m []).run ⟨env, sto⟩ = some ([], [])) ∧
  (∀ env sto l, (J2s [] l).run ⟨env, sto⟩ = (JJ l).run ⟨env, sto⟩) ∧
  (∀ env sto x m r, (J2s (true :: m) (x :: r)).run ⟨env, sto⟩ = ((J2s m r).run ⟨env, sto⟩).bind fun c => some (x :: c.1, c.2)) ∧
  (∀ env sto x m r, (J2s (false :: m) (x :: r)).run ⟨env, sto⟩ = ((JJ [x]).run ⟨env, sto⟩).bind fun a => ((J2s m r).run ⟨env, sto⟩).bind fun c => some (a.1 ++ c.1, a.2 ++ c.2)) ∧
  (∀ env sto, (JJ []).run ⟨env, sto⟩ = some ([], [])) ∧
  (∀ env sto c r, (JJ (.p c :: r)).run ⟨env, sto⟩ = ((JJ r).run ⟨env, sto⟩).bind fun a => some (.p c :: a.1, a.2)) ∧
  (∀ env sto c r, (JJ (.data c :: r)).run ⟨env, sto⟩ = ((JJ r).run ⟨env, sto⟩).bind fun a => some (.data c :: a.1, a.2)) ∧
  (∀ env sto b o r, (JJ (.ptr b o :: r)).run ⟨env, sto⟩ = ((JJ r).run ⟨env, sto⟩).bind fun a => some (.ptr b o :: a.1, a.2)) ∧
  (∀ env sto c o r, (JJ (.cp c o :: r)).run ⟨env, sto⟩ = ((JJ r).run ⟨env, sto⟩).bind fun a => some (.cp c o :: a.1, a.2)) ∧
  (∀ env sto b x i o r, (JJ (.ep b x i o :: r)).run ⟨env, sto⟩ = ((JJ r).run ⟨env, sto⟩).bind fun a => some (.ep b x i o :: a.1, a.2)) ∧
  (∀ env sto b n r, (JJ (.slr b 0 n :: r)).run ⟨env, sto⟩ = sto[b]?.bind fun B => (frz b n B).bind fun x => ((JJ r).run ⟨env, sto⟩).bind fun a => some (x.1 :: a.1, x.2 :: a.2)) ∧
  (∀ env sto cs r, (JJ (.agg cs :: r)).run ⟨env, sto⟩ = ((fz.fzL cs).run ⟨env, sto⟩).bind fun x => ((JJ r).run ⟨env, sto⟩).bind fun a => some (.data x.1 :: a.1, x.2 ++ a.2)) ∧
  (∀ b n z w rows, frz b n (.arr w z rows) = if n = rows.length then some (.p (.sl z rows), (b, .arr false z rows)) else none) ∧
  (∀ env sto, (fz.fzL []).run ⟨env, sto⟩ = some ([], [])) ∧
  (∀ env sto c r, (fz.fzL (.p c :: r)).run ⟨env, sto⟩ = ((fz.fzL r).run ⟨env, sto⟩).bind fun a => some (c :: a.1, a.2)) ∧
  (∀ env sto b n r, (fz.fzL (.slr b 0 n :: r)).run ⟨env, sto⟩ = sto[b]?.bind fun B => (frp b n B).bind fun x => ((fz.fzL r).run ⟨env, sto⟩).bind fun a => some (x.1 :: a.1, x.2 :: a.2)) ∧
  (∀ b n z w rows, frp b n (.arr w z rows) = if n = rows.length then some (.sl z rows, (b, .arr false z rows)) else none) ∧
  (∀ env sto f a c r, (JJ (.fn f a c :: r)).run ⟨env, sto⟩ = ((JJ r).run ⟨env, sto⟩).bind fun x => some (.fn f a c :: x.1, x.2)) ∧
  (∀ m ids sto f a c, fin m ids sto (.fn f a c) = (fin.finL m ids sto a).bind fun a1 => (fin.finL m ids sto c).bind fun c1 => some (.fn f a1 c1)) ∧
  (∀ f a c l, J09 (.fn f a c) l = J09.entsOfL c (J09.entsOfL a l)) ∧
  (∀ ws s, JC ws s [] [] = True) ∧
  (∀ ws s b bs cs css, JC ws s (b :: bs) (cs :: css) = ((J7C ws b).run s = some (.box cs) ∧ JC ws s bs css)) ∧
  (∀ env sto b c x ws, (J7C ((c, x) :: ws) b).run ⟨env, sto⟩ = sto[b]?.bind fun y => some ((J2r b ((c, x) :: ws)).getD y)) ∧
  (∀ b, J2r b [] = none) ∧
  (∀ b c x r, J2r b ((c, x) :: r) = lwO (J2r b r) (if c = b then some x else none)) ∧
  (∀ x y, lwO (some x) y = some x) ∧
  (∀ y, lwO none y = y) ∧
  (∀ {α : Type} (a b : α), (some a).getD b = a) ∧
  (∀ {α : Type} (b : α), (none : Option α).getD b = b) ∧
  (∀ env sto b, (J7C [] b).run ⟨env, sto⟩ = sto[b]?) ∧
  (∀ env sto e rows, (J05 e (.p (.sl e rows))).run ⟨env, sto⟩ = some rows) ∧
  (∀ env sto l, (J05 1 (.p (.s l))).run ⟨env, sto⟩ = some ((Jaa l).map (r_i .u8))) ∧
  (∀ env sto e b n, (J05 e (.slr b 0 n)).run ⟨env, sto⟩ = sto[b]?.bind fun B => roB e n B) ∧
  (∀ e n w rows, roB e n (.arr w e rows) = if n = rows.length then some rows else none) ∧
  (∀ env sto o e n new z ps, (ltR o e n z ps new).run ⟨env, sto⟩ = ((fzs (ps.map (·.2))).run ⟨env, sto⟩).bind fun a => (J4h e ((ps.map (·.1)).zip a.1) (List.replicate n z)).map fun rows => if o then ⟨.slr new 0 n, a.2 ++ [(new, .arr true e rows)]⟩ else ⟨.p (.sl e rows), a.2⟩) ∧
  (∀ env sto, (fzs []).run ⟨env, sto⟩ = some ([], [])) ∧
  (∀ env sto x r, (fzs (x :: r)).run ⟨env, sto⟩ = (evv x env).bind fun v => ((fz v).run ⟨env, sto⟩).bind fun a => ((fzs r).run ⟨env, sto⟩).bind fun c => some (a.1 :: c.1, a.2 ++ c.2)) ∧
  (∀ env sto c, (fz (.p c)).run ⟨env, sto⟩ = some ([c], [])) ∧
  (∀ env sto cs, (fz (.data cs)).run ⟨env, sto⟩ = some (cs, [])) ∧
  (∀ env sto cs, (fz (.agg cs)).run ⟨env, sto⟩ = (fz.fzL cs).run ⟨env, sto⟩) ∧
  (∀ env sto b n, (fz (.slr b 0 n)).run ⟨env, sto⟩ = sto[b]?.bind fun B => (frp b n B).bind fun x => some ([x.1], [x.2])) ∧
  (∀ e rows, J4h e [] rows = some rows) ∧
  (∀ e i c r rows, J4h e ((i, c) :: r) rows = if c.length = e ∧ i < rows.length then J4h e r (rows.set i c) else none) ∧
  (∀ o e b new z k k2 n m, mkP o e b z (.p (.i k n)) (.p (.i k2 m)) new = if 0 ≤ n ∧ n ≤ m ∧ b * m ≤ 281474976710656 ∧ m ≤ 281474976710656 then some (if o then ⟨.slr new 0 n.toNat, [(new, .arr true e (List.replicate n.toNat z))]⟩ else ⟨.p (.sl e (List.replicate n.toNat z)), []⟩) else none) ∧
  (∀ env, J9J none env = some none) ∧
  (∀ x env, J9J (some x) env = (evv x env).map some) ∧
  (∀ env sto s c lo hi, (slR s (.p c) lo hi none).run ⟨env, sto⟩ = (slX s (.p c) lo hi).map fun v => ⟨v, []⟩) ∧
  (∀ env sto s b n lo hi, (slR s (.slr b 0 n) lo hi none).run ⟨env, sto⟩ = sto[b]?.bind fun B => (frz b n B).bind fun x => (slX s x.1 lo hi).map fun v => ⟨v, [x.2]⟩) ∧
  (∀ x lo hi, slX .str x lo hi = J94 x lo hi) ∧
  (∀ e x lo hi, slX (.sl e) x lo hi = J7U e x lo hi) ∧
  (∀ n live env sto, J5Z n live ⟨env, sto⟩ = if sto.length = n then some ⟨restr live env, sto⟩ else (J95 n sto (restr live env)).bind fun e => (J3Y n [] sto (sto.take n)).bind fun l => some ⟨e, l⟩) ∧
  (∀ m sto, J95 m sto [] = some []) ∧
  (∀ m k sto x r, J95 m sto ((k, x) :: r) = (fin m [] sto x).bind fun y => (J95 m sto r).bind fun l => some ((k, y) :: l)) ∧
  (∀ m ids sto, J3Y m ids sto [] = some []) ∧
  (∀ m ids sto x r, J3Y m ids sto (x :: r) = (J4R m ids sto x).bind fun y => (J3Y m ids sto r).bind fun l => some (y :: l)) ∧
  (∀ m ids sto, J4R m ids sto .dead = some .dead) ∧
  (∀ m ids sto w z rows, J4R m ids sto (.arr w z rows) = some (.arr w z rows)) ∧
  (∀ m ids sto cs, J4R m ids sto (.box cs) = (fin.finL m ids sto cs).map .box) ∧
  (∀ (m : Nat) (ids : List Nat) (sto : List Blk) (l : List PV), fin.finL m ids sto (l.map AV.p) = some (l.map AV.p)) ∧
  (∀ m ids sto, fin.finL m ids sto [] = some []) ∧
  (∀ m ids sto x r, fin.finL m ids sto (x :: r) = (fin m ids sto x).bind fun y => (fin.finL m ids sto r).bind fun l => some (y :: l)) ∧
  (∀ m ids sto c, fin m ids sto (.p c) = some (.p c)) ∧
  (∀ m ids sto c, fin m ids sto (.data c) = some (.data c)) ∧
  (∀ m ids sto c o, fin m ids sto (.cp c o) = some (.cp c o)) ∧
  (∀ m ids sto, fin m ids sto (.tup []) = some (.tup [])) ∧
  (∀ m ids sto b off, fin m ids sto (.ptr b off) = if b < m then some (.ptr b off) else (J8K b ids m).map fun k => .ptr k off) ∧
  (∀ m ids sto b n, fin m ids sto (.slr b 0 n) = if b < m then some (.slr b 0 n) else fsl (J8K b ids m) n sto[b]?) ∧
  (∀ k n o, fsl (some k) n o = some (.slr k 0 n)) ∧
  (∀ n z w rows, fsl none n (some (.arr w z rows)) = if n = rows.length then some (.p (.sl z rows)) else none) ∧
  (∀ m ids sto cs, fin m ids sto (.agg cs) = (fin.finL m ids sto cs).bind fun l => some (Jnu l (unp l))) ∧
  (∀ m ids sto x cs, fin m ids sto (.tup (x :: cs)) = (fin.finL m ids sto (x :: cs)).map .tup) ∧
  (∀ b k, J8K b [] k = none) ∧
  (∀ b x k r, J8K b (x :: r) k = if x = b then some k else J8K b r (k + 1)) ∧
  (∀ res fresh m env sto, JiY res fresh m ⟨env, sto⟩ = ((J6i res).run ⟨env, sto⟩).bind fun vs => if sto.length = m then some (one vs, sto) else JqF fresh m vs sto (J1j m fresh sto (J87 sto (J09.entsOfL vs []) (J09.entsOfL vs [])))) ∧
  (∀ fresh m vs sto ids, JqF fresh m vs sto ids = if J4j ids = true then (fin.finL m ids sto vs).bind fun ws => (J3Y m ids sto (sto.take m)).bind fun l => (J7p sto ids).bind fun q => (J3Y m ids sto q).bind fun q => some (one ws, l ++ q) else none) ∧
  (∀ env sto, (J6i []).run ⟨env, sto⟩ = some []) ∧
  (∀ env sto t r, (J6i (.tmp t :: r)).run ⟨env, sto⟩ = (lk t env).bind fun v => ((J6i r).run ⟨env, sto⟩).bind fun l => some (v :: l)) ∧
  (∀ env sto t n g r, (J6i (.cell t g n :: r)).run ⟨env, sto⟩ = (lk t env).bind fun v => ((J2f g n v).run ⟨env, sto⟩).bind fun e => ((J6i r).run ⟨env, sto⟩).bind fun l => some (e.val :: l)) ∧
  (∀ x, one [x] = x) ∧
  (one [] = .tup []) ∧
  (∀ x y r, one (x :: y :: r) = .tup (x :: y :: r)) ∧
  (∀ m fresh sto, J1j m fresh sto [] = []) ∧
  (∀ m b sto r, J1j m false sto (.whole b :: r) = if b < m then J1j m false sto r else oid b sto[b]? (J1j m false sto r)) ∧
  (∀ m b sto r, J1j m true sto (.whole b :: r) = if b < m then J1j m true sto r else Jol b sto[b]? (J1j m true sto r)) ∧
  (∀ b cs l, Jol b (some (.box cs)) l = b :: l) ∧
  (∀ b z w rows l, Jol b (some (.arr w z rows)) l = b :: l) ∧
  (∀ b cs l, oid b (some (.box cs)) l = b :: l) ∧
  (∀ b z w rows l, oid b (some (.arr w z rows)) l = l) ∧
  (∀ sto acc, J87 sto [] acc = acc) ∧
  (∀ sto b r acc, J87 sto (.whole b :: r) acc = J87 sto r (ebb sto[b]? acc)) ∧
  (∀ cs acc, ebb (some (.box cs)) acc = J09.entsOfL cs acc) ∧
  (∀ z w rows acc, ebb (some (.arr w z rows)) acc = acc) ∧
  (∀ l, J09.entsOfL [] l = l) ∧
  (∀ x r l, J09.entsOfL (x :: r) l = J09.entsOfL r (J09 x l)) ∧
  (∀ (cs : List PV) (l : List Ent), J09.entsOfL (cs.map AV.p) l = l) ∧
  (∀ c l, J09 (.p c) l = l) ∧
  (∀ c l, J09 (.data c) l = l) ∧
  (∀ c o l, J09 (.cp c o) l = l) ∧
  (∀ b o l, J09 (.ptr b o) l = J8h (.whole b) l) ∧
  (∀ b i n l, J09 (.slr b i n) l = J8h (.whole b) l) ∧
  (∀ cs l, J09 (.agg cs) l = J09.entsOfL cs l) ∧
  (∀ cs l, J09 (.tup cs) l = J09.entsOfL cs l) ∧
  (∀ e, J8h e [] = [e]) ∧
  (∀ b c r, J8h (.whole b) (.whole c :: r) = if c = b then .whole c :: r else .whole c :: J8h (.whole b) r) ∧
  (J4j [] = true) ∧
  (∀ x, J4j [x] = true) ∧
  (∀ sto, J7p sto [] = some []) ∧
  (∀ sto b r, J7p sto (b :: r) = sto[b]?.bind fun x => (J7p sto r).bind fun l => some (x :: l)) ∧
  (∀ {α : Type} (a : α) (l : List α), (a :: l)[0]? = some a) ∧
  (∀ {α : Type} (a : α) (l : List α) (n : Nat), (a :: l)[n + 1]? = l[n]?) ∧
  (∀ {α : Type} (n : Nat), ([] : List α)[n]? = none) ∧
  (∀ {α : Type} (a b : α) (l : List α), (a :: l).set 0 b = b :: l) ∧
  (∀ {α : Type} (a b : α) (l : List α) (n : Nat), (a :: l).set (n + 1) b = a :: l.set n b) ∧
  (∀ {α : Type} (l : List α), [] ++ l = l) ∧
  (∀ {α : Type} (l : List α), l ++ [] = l) ∧
  (∀ {α : Type} (a : α) (l r : List α), (a :: l) ++ r = a :: (l ++ r)) ∧
  (∀ {α : Type} (a : α), List.replicate 0 a = []) ∧
  (∀ {α : Type} (a : α) (n : Nat), List.replicate (n + 1) a = a :: List.replicate n a) ∧
  (∀ {α β : Type} (g : α → β), List.map g [] = []) ∧
  (∀ {α β : Type} (g : α → β) (a : α) (l : List α), List.map g (a :: l) = g a :: List.map g l) ∧
  (∀ {α : Type}, ([] : List α).length = 0) ∧
  (∀ {α : Type} (a : α) (l : List α), (a :: l).length = l.length + 1) ∧
  (∀ {α : Type} (l : List α), l.take 0 = []) ∧
  (∀ {α : Type} (a : α) (l : List α) (n : Nat), (a :: l).take (n + 1) = a :: l.take n) ∧
  (∀ {α β : Type} (l : List β), ([] : List α).zip l = []) ∧
  (∀ {α β : Type} (a : α) (b : β) (l : List α) (r : List β), (a :: l).zip (b :: r) = (a, b) :: l.zip r) ∧
  (∀ n, 0 + n = n) ∧
  (∀ n, n + 0 = n) ∧
  (∀ k n, r_i k n = [.i k n]) ∧
  (∀ x, r_b x = [.b x]) ∧
  (∀ x, r_s x = [.s x]) ∧
  (∀ {α : Type} (e : Nat) (g : α → List PV) (l : List α), JkR e g l = [.sl e (l.map g)]) ∧
  (∀ (a : PV), sub [a] 0 1 = some [a]) ∧
  (∀ (a b : PV), spl [a] 0 [b] = some [b]) ∧
  (∀ {α : Type} (cs : List α), sub cs 0 0 = some []) ∧
  (∀ {α : Type} (a : α) (cs : List α) (n : Nat), sub (a :: cs) 0 (n + 1) = (sub cs 0 n).map (a :: ·)) ∧
  (∀ {α : Type} (a : α) (cs : List α) (n m : Nat), sub (a :: cs) (n + 1) m = sub cs n m) ∧
  (∀ {α : Type} (cs : List α), spl cs 0 [] = some cs) ∧
  (∀ {α : Type} (a b : α) (cs vs : List α), spl (a :: cs) 0 (b :: vs) = (spl cs 0 vs).map (b :: ·)) ∧
  (∀ {α : Type} (a : α) (cs : List α) (n : Nat) (vs : List α), spl (a :: cs) (n + 1) vs = (spl cs n vs).map (a :: ·)) ∧
  (∀ n b off l c cs, stB n b off l (.box (c :: cs)) = if l.length = n then (spl (c :: cs) off l).map fun cs => ⟨J14, [(b, .box cs)]⟩ else none) ∧
  (∀ off size c a cs r, J1f ((off, size, c) :: r) (a :: cs) = if c.length = size then (spl (a :: cs) off c).bind fun cs => J1f r cs else none) ∧
  (∀ {α : Type} (a b : α), (if True then a else b) = a) ∧
  (∀ {α : Type} (a b : α), (if False then a else b) = b) ∧
  (∀ {α : Type} (a b : α), (if true = true then a else b) = a) ∧
  (∀ {α : Type} (a b : α), (if false = true then a else b) = b) ∧
  (∀ a, (True ∧ a) = a) ∧
  (∀ a, (a ∧ True) = a) ∧
  (∀ {α : Type} (a : α), (a = a) = True) ∧
  (∀ {α β : Type} (a : α) (b : β), (a, b).1 = a) ∧
  (∀ {α β : Type} (a : α) (b : β), (a, b).2 = b) :=
  ⟨by intros; rfl,
  by intros; rfl,
  by intros; rfl,
  by intros; rfl,
  by intros; rfl,
  by intros; rfl,
  by intros; rfl,
  by intros; rfl,
  by intros; rfl,
  by intros; rfl,
  rfl,
  by intros; rfl,
  by intros; rfl,
  by intros; rfl,
  by intros; rfl,
  by intros; rfl,
  by intros; rfl,
  by intros; rfl,
  by intros; rfl,
  by intros; rfl,
  by intros; rfl,
  by intros; rfl,
  by intros; rfl,
  by intros; rfl,
  by intros; rfl,
  by intros; rfl,
  by intros; rfl,
  by intros; rfl,
  by intros; rfl,
  by intros; rfl,
  by intros; rfl,
  by intros; rfl,
  by intros; rfl,
  by intros; rfl,
  by intros; rfl,
  by intros; rfl,
  by intros; rfl,
  by intros; rfl,
  by intros; rfl,
  by intros; rfl,
  by intros; rfl,
  by intros; rfl,
  by intros; rfl,
  by intros; rfl,
  by intros; rfl,
  by intros; rfl,
  by intros; rfl,
  by intros; rfl,
  by intros; rfl,
  by intros; rfl,
  by intros; rfl,
  by intros; rfl,
  by intros; rfl,
  by intros; rfl,
  by intros; rfl,
  by intros; rfl,
  by intros; rfl,
  rfl,
  by intros; rfl,
  by intro k x y; simp only [J0C, if_true, J8O, Option.map_some]; try rfl,
  by intro k x y; simp only [J0C, if_true, J8O, Option.map_some]; try rfl,
  by intro k x y; simp only [J0C, if_true, J8O, Option.map_some]; try rfl,
  by intro k x y; simp only [J0C, if_true, J8O, Option.map_some]; try rfl,
  by intro k x y; simp only [J0C, if_true, J8O, Option.map_some]; try rfl,
  by intro k x y; simp only [J0C, if_true, J8O, Option.map_some]; try rfl,
  by intro k x y; simp only [J0C, if_true, J8O, Option.map_some]; try rfl,
  by intro k x y; simp only [J0C, if_true, J8O, Option.map_some]; try rfl,
  by intro k x y; simp only [J0C, if_true, J8O, Option.map_some]; try rfl,
  by intro k x y; simp only [J0C, if_true, J8O, Option.map_some]; try rfl,
  by intro k x y; simp only [J0C, if_true, J8O, Option.map_some]; try rfl,
  by intro k x y; simp only [J0C, if_true, J8O, Option.map_some]; try rfl,
  by intro k x y; simp only [J0C, if_true, J8O, JvO]; split <;> rfl,
  by intro k x y; simp only [J0C, if_true, J8O, Jbm]; split <;> rfl,
  by intro k k2 x y; simp only [J0C, JcQ, Jw4]; split <;> rfl,
  by intro k k2 x y; simp only [J0C, JcQ, Jdv]; split <;> rfl,
  by intro x y; simp only [J0C, Jnc, JdC]; split <;> rfl,
  by intro x y; rfl,
  by intro x y; rfl,
  by intro x y; rfl,
  by intro x y; rfl,
  by intro x y; rfl,
  by intro x y; rfl,
  by intros; rfl,
  by intros; rfl,
  by intro ks a c; simp only [J0C, J91]; cases J0Q ks a c <;> rfl,
  by intro ks a c; simp only [J0C, J91]; cases J0Q ks a c <;> rfl,
  by intros; rfl,
  by intros; rfl,
  by intros; rfl,
  by intros; rfl,
  by intros; rfl,
  rfl,
  rfl,
  by intros; rfl,
  by intros; rfl,
  by intros; rfl,
  by intros; rfl,
  by intros; rfl,
  by intro g off n cs; simp only [J5R]; cases sub cs off n <;> rfl,
  by intro g off n c cs; simp only [J5R]; cases sub (c :: cs) off n <;> rfl,
  by intros; rfl,
  by intros; rfl,
  by intro cs; exact Ji6 cs,
  by intro c cs; simp only [J1P, if_true]; cases unp (c :: cs) <;> rfl,
  by intros; rfl,
  by intros; rfl,
  by intros; rfl,
  by intros; rfl,
  rfl,
  by intro c r; simp only [unp]; cases unp r <;> rfl,
  by intros; rfl,
  by intros; rfl,
  by intros; rfl,
  by intros; rfl,
  by intros; rfl,
  by intros; rfl,
  by intros; rfl,
  by intros; rfl,
  by intro α β g l; simp,
  by intros; rfl,
  by intros; rfl,
  by intros; rfl,
  by intro env sto g n cs off; exact JtM ..,
  by intro env sto g n b off; exact JuE ..,
  by intro env sto g n b e i off; exact Jun ..,
  by intro g n off cs; exact JwQ ..,
  by intros; rfl,
  by intros; rfl,
  by intro env sto n b off v; exact JuR ..,
  by intro n b off cs vs; exact JtF ..,
  by intro b off cs v; exact JwC ..,
  by intro env sto n b e i off v; exact Juu ..,
  by intro n b e i off z c rows s; exact JwI ..,
  by intro n b e i off z cs rows s; exact Jwx ..,
  by intros; rfl,
  by intros; rfl,
  by intros; rfl,
  by intros; rfl,
  by intros; rfl,
  by intros; rfl,
  by intros; rfl,
  by intro n cs; exact JvL ..,
  by intros; rfl,
  by intros; rfl,
  by intro env sto e rows k n; exact JsO ..,
  by intro env sto e b m k n; exact Jta ..,
  by intro e b m n w rows; exact JuX ..,
  by intros; rfl,
  by intros; rfl,
  by intros; rfl,
  by intro l k n; exact Jwn ..,
  by intros; rfl,
  by intro g n e cs k i; exact JvC ..,
  by intros; rfl,
  by intros; rfl,
  @Jxb,
  by intro env sto b n new; exact Jsr ..,
  @JwD,
  by intro env sto l new; exact Js8 ..,
  by intro env sto l new; exact Jra ..,
  by intros; rfl,
  by intro env sto off size x r; exact JvF ..,
  by intros; rfl,
  by intro off size vs cs r; exact Jng ..,
  by intro off v cs r; exact JrZ ..,
  by intros; rfl,
  by intro env sto x r; exact Jwh ..,
  by intros; rfl,
  by intros; rfl,
  by intros; rfl,
  by intros; rfl,
  by intro env sto m; cases m <;> rfl,
  by intro env sto l; rw [JlH],
  by intro env sto x m r; exact Juh ..,
  by intro env sto x m r; exact JuH ..,
  by intros; rfl,
  by intro env sto c r; exact Jep _ _ rfl ..,
  by intro env sto c r; exact Jep _ _ rfl ..,
  by intro env sto b o r; exact Jep _ _ rfl ..,
  by intro env sto c o r; exact Jep _ _ rfl ..,
  by intro env sto b x i o r; exact Jep _ _ rfl ..,
  by intro env sto b n r; exact JrV ..,
  by intro env sto cs r; exact Jsa ..,
  @fr,
  by intros; rfl,
  by intro env sto c r; exact JsC ..,
  by intro env sto b n r; exact Jtr ..,
  by intros; rfl,
  by intro env sto f a c r; exact Jep _ _ rfl ..,
  by intro m ids sto f a c; exact JuJ ..,
  by intros; rfl,
  by intros; rfl,
  by intros; rfl,
  by intro env sto b c x ws; exact Jux ..,
  by intros; rfl,
  by intro b c x r; exact Jwe ..,
  by intros; rfl,
  by intros; rfl,
  by intros; rfl,
  by intros; rfl,
  by intro env sto b; exact JvD ..,
  by intro env sto e rows; exact Jsb ..,
  by intro env sto l; exact Jsp ..,
  by intro env sto e b n; exact Jsy ..,
  by intro e n w rows; exact Jsv ..,
  by intro env sto o e n new z ps; exact Jwf ..,
  by intros; rfl,
  by intro env sto x r; exact Jvq ..,
  by intros; rfl,
  by intros; rfl,
  by intros; rfl,
  by intro env sto b n; exact Jre ..,
  by intros; rfl,
  by intros; rfl,
  @mk,
  by intros; rfl,
  by intros; rfl,
  by intro env sto s c lo hi; exact JsK ..,
  by intro env sto s b n lo hi; exact Jtw ..,
  by intros; rfl,
  by intros; rfl,
  @cl,
  by intros; rfl,
  by intro m k sto x r; exact JvY ..,
  by intros; rfl,
  by intro m ids sto x r; exact Jwg ..,
  by intros; rfl,
  by intros; rfl,
  by intro m ids sto cs; exact Juj ..,
  by intro m ids sto l; exact JlS m ids sto l,
  by intros; rfl,
  by intro m ids sto x r; exact Jvh ..,
  by intros; rfl,
  by intros; rfl,
  by intros; rfl,
  by intros; rfl,
  by intros; rfl,
  by intro m ids sto b n; exact JtU ..,
  by intros; rfl,
  by intros; rfl,
  by intro m ids sto cs; exact Jva ..,
  by intro m ids sto x cs; exact Juo ..,
  by intros; rfl,
  by intros; rfl,
  by intros; rfl,
  by intros; rfl,
  by intros; rfl,
  by intro env sto t r; exact Jt2 ..,
  by intro env sto t n g r; exact JsI ..,
  by intros; rfl,
  rfl,
  by intros; rfl,
  by intros; rfl,
  by intro m b sto r; exact Jvt ..,
  by intro m b sto r; exact JuS ..,
  by intros; rfl,
  by intros; rfl,
  by intros; rfl,
  by intros; rfl,
  by intros; rfl,
  by intro sto b r acc; exact JvV ..,
  by intros; rfl,
  by intros; rfl,
  by intros; rfl,
  by intros; rfl,
  by intro cs l; exact Jrk cs l,
  by intros; rfl,
  by intros; rfl,
  by intros; rfl,
  by intros; rfl,
  by intros; rfl,
  by intros; rfl,
  by intros; rfl,
  by intros; rfl,
  by intro b c r; exact Jvg ..,
  rfl,
  by intros; rfl,
  by intros; rfl,
  by intro sto b r; exact JvS ..,
  by intros; rfl,
  by intros; rfl,
  by intros; rfl,
  by intros; rfl,
  by intros; rfl,
  @Jvx,
  @Jwo,
  @Jwk,
  by intros; rfl,
  by intros; rfl,
  @Jvj,
  @Jvi,
  @JvZ,
  @Jvn,
  by intros; rfl,
  by intros; rfl,
  by intros; rfl,
  by intros; rfl,
  by intro n; exact Nat.zero_add n,
  by intros; rfl,
  @Jvm,
  @JvW,
  @JtH,
  @Jwj,
  @s1,
  by intros; rfl,
  by intro α cs; rw [J6P]; simp,
  by intro α a cs n; exact Jt9 ..,
  by intro α a cs n m; exact Jsm ..,
  by intro α cs; rw [J7B]; simp,
  by intro α a b cs vs; exact JsW ..,
  by intro α a cs n vs; exact Jsl ..,
  by intros; rfl,
  by intro off size c a cs r; exact Jsg ..,
  by intros; rfl,
  by intros; rfl,
  by intros; rfl,
  by intros; rfl,
  by intro a; simp,
  by intro a; simp,
  by intro α a; simp,
  by intros; rfl,
  by intros; rfl⟩
set_option maxRecDepth 30000 in
theorem Nf : (∀ {α : Type} (l : List α), [] ++ l = l) ∧
  (∀ {α : Type} (l : List α), l ++ [] = l) ∧
  (∀ {α : Type} (a : α) (l r : List α), (a :: l) ++ r = a :: (l ++ r)) ∧
  (∀ {α β : Type} (g : α → β), List.map g [] = []) ∧
  (∀ {α β : Type} (g : α → β) (a : α) (l : List α), List.map g (a :: l) = g a :: List.map g l) ∧
  (∀ {α : Type}, ([] : List α).length = 0) ∧
  (∀ {α : Type} (a : α) (l : List α), (a :: l).length = l.length + 1) ∧
  (∀ k n, r_i k n = [.i k n]) ∧
  (∀ x, r_b x = [.b x]) ∧
  (∀ x, r_s x = [.s x]) ∧
  (∀ {α : Type} (e : Nat) (g : α → List PV) (l : List α), JkR e g l = [.sl e (l.map g)]) :=
  ⟨@Jvx,
  @Jwo,
  @Jwk,
  @Jvj,
  @Jvi,
  @JvZ,
  @Jvn,
  @Jvm,
  @JvW,
  @JtH,
  @Jwj⟩
set_option maxRecDepth 30000 in
theorem Ra : (∀ F new env sto g n x, rdO F (.load g n x) new ⟨env, sto⟩ = rb (evv x env) fun a => Jf ((J2f g n a).reads ⟨env, sto⟩)) ∧
  (∀ s g n b o, Jf ((J2f g n (.ptr b o)).reads s) = [b]) ∧
  (∀ s g n o cs, Jf ((J2f g n (.cp cs o)).reads s) = []) ∧
  (∀ s g n b e i o, Jf ((J2f g n (.ep b e i o)).reads s) = [b]) ∧
  (∀ F new s z, rdO F (.newbox z) new s = [new]) ∧
  (∀ F new env sto n x y, rdO F (.store n x y) new ⟨env, sto⟩ = rb (evv x env) fun a => rb (evv y env) fun c => Jf ((J1D n a c).reads ⟨env, sto⟩)) ∧
  (∀ s n b o v, Jf ((J1D n (.ptr b o) v).reads s) = [b]) ∧
  (∀ s n b e i o c, Jf ((J1D n (.ep b e i o) (.p c)).reads s) = [b]) ∧
  (∀ s n b e i o c, Jf ((J1D n (.ep b e i o) (.data c)).reads s) = [b]) ∧
  (∀ F new env sto g args, rdO F (.call g args 0) new ⟨env, sto⟩ = rb ((evs args).run ⟨env, sto⟩) fun a => Jf ((JJ a).reads ⟨env, sto⟩) ++ rb ((JJ a).run ⟨env, sto⟩) fun a => Jf ((Jl F g a 0 new).reads ⟨env, sto⟩)) ∧
  (∀ F new env sto g args, rdO F (.call g args 1) new ⟨env, sto⟩ = new :: rb (is1 sto[new]?) fun _ => rb ((evs args).run ⟨env, sto⟩) fun a => Jf ((JJ a).reads ⟨env, sto⟩) ++ rb ((JJ a).run ⟨env, sto⟩) fun a => Jf ((Jl F g a 1 new).reads ⟨env, sto⟩)) ∧
  (is1 (some .dead) = some ()) ∧
  (∀ {α β : Type} (a : α) (f : α → List β), rb (some a) f = f a) ∧
  (∀ F new env sto g args, rdO F (.callv g args 0) new ⟨env, sto⟩ = rb (evv g env) fun u => cvl u fun h a1 c1 => rb ((evs args).run ⟨env, sto⟩) fun a => Jf ((JJ (a1 ++ a ++ c1)).reads ⟨env, sto⟩) ++ rb ((JJ (a1 ++ a ++ c1)).run ⟨env, sto⟩) fun a => Jf ((Jl F h a 0 new).reads ⟨env, sto⟩)) ∧
  (∀ {α : Type} (f : FuncId) (a c : List AV) (k : FuncId → List AV → List AV → List α), cvl (.fn f a c) k = k f a c) ∧
  (∀ s, Jf ((JJ []).reads s) = []) ∧
  (∀ s c r, Jf ((JJ (.p c :: r)).reads s) = Jf ((JJ r).reads s)) ∧
  (∀ s c r, Jf ((JJ (.data c :: r)).reads s) = Jf ((JJ r).reads s)) ∧
  (∀ s b o r, Jf ((JJ (.ptr b o :: r)).reads s) = Jf ((JJ r).reads s)) ∧
  (∀ s c o r, Jf ((JJ (.cp c o :: r)).reads s) = Jf ((JJ r).reads s)) ∧
  (∀ s b x i o r, Jf ((JJ (.ep b x i o :: r)).reads s) = Jf ((JJ r).reads s)) ∧
  (∀ s b n r, Jf ((JJ (.slr b 0 n :: r)).reads s) = b :: rb ((J84 (.slr b 0 n)).run s) fun _ => Jf ((JJ r).reads s)) ∧
  (∀ F new s e n z ps, rdO F (.lits false e n z ps) new s = Jf ((fzs (ps.map (·.2))).reads s)) ∧
  (∀ F new env sto e n z ps, rdO F (.lits true e n z ps) new ⟨env, sto⟩ = new :: rb (is1 sto[new]?) fun _ => Jf ((fzs (ps.map (·.2))).reads ⟨env, sto⟩)) ∧
  (∀ s, Jf ((fzs []).reads s) = []) ∧
  (∀ env sto x r, Jf ((fzs (x :: r)).reads ⟨env, sto⟩) = rb (evv x env) fun v => Jf ((fz v).reads ⟨env, sto⟩) ++ rb ((fz v).run ⟨env, sto⟩) fun _ => Jf ((fzs r).reads ⟨env, sto⟩)) ∧
  (∀ s c, Jf ((fz (.p c)).reads s) = []) ∧
  (∀ s c, Jf ((fz (.data c)).reads s) = []) ∧
  (∀ s b n, Jf ((fz (.slr b 0 n)).reads s) = [b]) ∧
  (∀ F new env sto x, rdO F (.conv .toStr x) new ⟨env, sto⟩ = rb (evv x env) fun a => Jf ((J05 1 a).reads ⟨env, sto⟩)) ∧
  (∀ s e b n, Jf ((J05 e (.slr b 0 n)).reads s) = [b]) ∧
  (∀ s e z rows, Jf ((J05 e (.p (.sl z rows))).reads s) = []) ∧
  (∀ F new env sto e x i, rdO F (.iaddr e x i) new ⟨env, sto⟩ = rb (evv x env) fun a => rb (evv i env) fun c => Jf ((J3n e a c).reads ⟨env, sto⟩)) ∧
  (∀ s e b n k i, Jf ((J3n e (.slr b 0 n) (.p (.i k i))).reads s) = [b]) ∧
  (∀ s e z rows k i, Jf ((J3n e (.p (.sl z rows)) (.p (.i k i))).reads s) = []) ∧
  (∀ F new env sto k x lo hi mx, rdO F (.slice k x lo hi mx) new ⟨env, sto⟩ = rb (evv x env) fun a => Jf ((slT k lo hi mx a).reads ⟨env, sto⟩)) ∧
  (∀ s k lo hi mx c, Jf ((slT k lo hi mx (.p c)).reads s) = []) ∧
  (∀ F new env sto e b z y, rdO F (.appn e b z y) new ⟨env, sto⟩ = new :: rb (is1 sto[new]?) fun _ => rb (evv y env) fun a => Jf ((J05 e a).reads ⟨env, sto⟩)) ∧
  (∀ F new env sto e b z x y, rdO F (.app e b z x y) new ⟨env, sto⟩ = rb (evv x env) fun a => rb (evv y env) fun c => Jf ((J4S e b a c).reads ⟨env, sto⟩)) ∧
  (∀ s e y b n z rows, Jf ((J4S e y (.slr b 0 n) (.p (.sl z rows))).reads s) = [b]) ∧
  (∀ a b c d, pkk (some (a, b)) (some (c, d)) = (J5W b c && J5W b d && J5W a d)) ∧
  (∀ b, J5W [] b = true) ∧
  (∀ x a b, J5W (x :: a) b = (!(b.contains x) && J5W a b)) ∧
  (∀ x, ([] : List Nat).contains x = false) ∧
  (∀ (x y : Nat) (l : List Nat), (y :: l).contains x = (x == y || l.contains x)) ∧
  (∀ a, (true && a) = a) ∧
  (∀ a, (false && a) = false) ∧
  (∀ a, (true || a) = true) ∧
  (∀ a, (false || a) = a) :=
  ⟨by intro F new env sto g n x; exact JuZ ..,
  by intro s g n b o; exact Jup ..,
  by intro s g n o cs; exact JvA ..,
  by intro s g n b e i o; exact Jvk ..,
  by intro F new s z; exact JrT ..,
  by intro F new env sto n x y; exact Jth ..,
  by intro s n b o v; exact JuV ..,
  by intro s n b e i o c; exact Jts ..,
  by intro s n b e i o c; exact Jsj ..,
  by intro F new env sto g args; exact JsB ..,
  by intro F new env sto g args; exact Jtv ..,
  rfl,
  by intros; rfl,
  by intro F new env sto g args; exact JrH ..,
  by intros; rfl,
  by intros; rfl,
  by intro s c r; exact JcF s rfl r,
  by intro s c r; exact JcF s rfl r,
  by intro s b o r; exact JcF s rfl r,
  by intro s c o r; exact JcF s rfl r,
  by intro s b x i o r; exact JcF s rfl r,
  by intro s b n r; exact JuL ..,
  by intro F new s e n z ps; exact Js6 ..,
  by intro F new env sto e n z ps; exact JsM ..,
  by intros; rfl,
  by intro env sto x r; exact Jvu ..,
  by intros; rfl,
  by intros; rfl,
  by intro s b n; exact Jg1 ..,
  by intro F new env sto x; exact Jt6 ..,
  by intro s e b n; exact Jry ..,
  by intro s e z rows; exact JnK ..,
  by intro F new env sto e x i; exact JsS ..,
  by intro s e b n k i; exact JrK ..,
  by intro s e z rows k i; exact Js7 ..,
  by intro F new env sto k x lo hi mx; exact JqU ..,
  by intro s k lo hi mx c; exact JuW ..,
  by intro F new env sto e b z y; exact JtL ..,
  by intro F new env sto e b z x y; exact JvE ..,
  by intro s e y b n z rows; exact Jsq ..,
  by intros; rfl,
  by intros; rfl,
  by intro x a b; simp [J5W],
  by intros; rfl,
  by intro x y l; rw [List.contains_cons],
  by intro a; simp,
  by intro a; simp,
  by intro a; simp,
  by intro a; simp⟩
end Go.Am
end
