/-
  Parts of a proof: AmEv.
-/
import Derived.Test.YteiakclfpfmigaaM5
set_option linter.unusedSimpArgs false
set_option linter.unusedVariables false
section
namespace Go.Am
@[congr] theorem JmS {T : J2H} {f : AFn} {m : Nat} {k : List Fr} {o o' : Option Out} (h : o = o') : rk T f m k o = rk T f m k o' := by rw [h]
def tdn (e : AX) (o : Option St) : Option Out := match o with
  | some s => some (e, s)
  | none => none
def Jgo (fresh : Bool) (m : Nat) (vs : List AV) (sto : List Blk) (ids : List Nat) : Option Res :=
  if J2N ids = true then (fin.finL m ids sto vs).bind fun ws => (J1M m ids sto (sto.take m)).bind fun l => (J3K sto ids).bind fun q => (J1M m ids sto q).bind fun q => some (one ws, l ++ q) else none
def JaC (res : List J74) (fresh : Bool) (m : Nat) (s : St) : Option Res :=
  ((J38 res).run s).bind fun vs => if s.sto.length = m then some (one vs, s.sto) else Jgo fresh m vs s.sto (J0y m fresh s.sto (J4a s.sto (JM.entsOfL vs []) (JM.entsOfL vs [])))
theorem Jan (res : List J74) (fresh : Bool) (m : Nat) (s : St) : J2f ⟨0, 0, .skip, res, fresh⟩ m s = JaC res fresh m s := by
  unfold J2f JaC
  dsimp only
  cases (J38 res).run s with
  | none => rfl
  | some vs =>
    simp only [Option.bind_some]
    split
    · rfl
    · unfold Jgo
      split
      · generalize J0y m fresh s.sto _ = ids
        cases fin.finL m ids s.sto vs <;> cases J1M m ids s.sto (s.sto.take m) <;> cases J3K s.sto ids <;> try rfl
        rename_i q
        simp only [Option.bind_some]
        cases J1M m ids s.sto q <;> rfl
      · rfl
theorem Jk9 (T : J2H) (f : AFn) (m : Nat) (s : St) : rk T f m [] (some (.normal, s)) = JaC f.res f.fresh m s := (JiG T f m s).trans (Jan ..)
theorem JiS (T : J2H) (f : AFn) (m : Nat) (s : St) : rk T f m [] (some (.ret, s)) = JaC f.res f.fresh m s := (Jin T f m s).trans (Jan ..)
def dds {α : Type} (n new : Nat) (sto : List Blk) (o : Option α) : Option α := match (J3A new n).run ⟨[], sto⟩ with
  | some _ => o
  | none => none
def dd1 {α : Type} (b : Option Blk) (o : Option α) : Option α := match b with
  | some .dead => o
  | _ => none
@[congr] theorem JmE {α : Type} {b b' : Option Blk} {o : Option α} (h : b = b') : dd1 b o = dd1 b' o := by rw [h]
theorem JmW {α : Type} (new : Nat) (sto : List Blk) (o : Option α) : dds 1 new sto o = dd1 sto[new]? o := by
  unfold dds dd1
  simp only [J3A, RM.run]
  cases sto[new]? with
  | none => rfl
  | some b => cases b <;> rfl
section
variable {F : Orc} {r : List J0n} {new d : Nat} {env : List (Nat × AV)} {sto : List Blk}
theorem Je9 (n : Nat) : ∀ new, (J3A new n).run ⟨env, sto⟩ = (J3A new n).run ⟨[], sto⟩ := by
  induction n with
  | zero => intro new; rfl
  | succ n ih =>
    intro new
    simp only [J3A, RM.run]
    cases sto[new]? with
    | none => rfl
    | some b => cases b <;> first | exact ih _ | rfl
def lgA (l : Option Log) (a b : List Nat) : Option Log := l.map (· ++ [(a, b)])
def rdO (F : Orc) (op : AOp) (new : Nat) (s : St) : List Nat := Ja ((opD F op new).reads s)
abbrev GR := Option (St × Option Log)
def Jg (F : Orc) : List J0n → Nat → St → Option Log → GR
  | [], _, s, l => some (s, l)
  | i :: r, new, s, l => match (J0L F i new).run s with
    | some e => Jg F r (new + Ju i.op) (put i.dst e s) (lgA l (Ja ((J0L F i new).reads s)) (e.ws.map (·.1)))
    | none => none
theorem Jh3 (F : Orc) (ins : List J0n) : ∀ new s, Jg F ins new s none = (J1h F ins new s).map fun s => (s, none) := by
  induction ins with
  | nil => intro new s; rfl
  | cons i r ih =>
    intro new s
    simp only [Jg, J1h]
    cases (J0L F i new).run s with
    | none => rfl
    | some e => exact ih _ _
theorem Jj1 (F : Orc) (ins : List J0n) : ∀ new s l, Jg F ins new s (some l) = (J2F F ins new s l).map fun x => (x.1, some x.2) := by
  induction ins with
  | nil => intro new s l; rfl
  | cons i r ih =>
    intro new s l
    simp only [Jg, J2F]
    cases (J0L F i new).run s with
    | none => rfl
    | some e => exact ih _ _ _
def Ji7 (o : GR) : Option Out := match o with
  | some (s, _) => some (.normal, s)
  | none => none
def Jgc (ps : List (Nat × Nat)) (o : GR) : Option Out := match o with
  | some (s, some l) => if J54 l ps = true then some (.normal, s) else none
  | _ => none
theorem JjG (T : J2H) (f : AFn) (m : Nat) (k : List Fr) (d ins env sto) : rk T f m k (X T (.reg d [] ins) ⟨env, sto⟩) = rk T f m k (Ji7 (Jg (AF T) ins sto.length ⟨env, room (news ins) sto⟩ none)) := by
  rw [Jl9, Jh3]
  cases J1h (AF T) ins sto.length ⟨env, room (news ins) sto⟩ <;> rfl
theorem Jk3 (T : J2H) (f : AFn) (m : Nat) (k : List Fr) (d p ps ins env sto) : rk T f m k (X T (.reg d (p :: ps) ins) ⟨env, sto⟩) = rk T f m k (Jgc (p :: ps) (Jg (AF T) ins sto.length ⟨env, room (news ins) sto⟩ (some []))) := by
  rw [Jjo, Jj1]
  simp only [region]
  cases J2F (AF T) ins sto.length ⟨env, room (news ins) sto⟩ [] with
  | none => rfl
  | some x =>
    obtain ⟨s, l⟩ := x
    simp only [Option.map_some, Jgc]
    split <;> rfl
theorem stD {lg : Option Log} (op : AOp) : Jg F (⟨op, some d, none⟩ :: r) new ⟨env, sto⟩ lg = dds (Ju op) new sto (((opR F op new).run ⟨env, sto⟩).bind fun e => Jg F r (new + Ju op) ⟨(d, e.val) :: env, upd e.ws sto⟩ (lgA lg (rdO F op new ⟨env, sto⟩) (e.ws.map (·.1)))) := by
  have e0 : (J0L F ⟨op, some d, none⟩ new).run ⟨env, sto⟩ = dds (Ju op) new sto ((opR F op new).run ⟨env, sto⟩) := by
    simp only [J0L, opD, run_bind, Je9 (env := env)]
    unfold dds
    cases (J3A new (Ju op)).run ⟨[], sto⟩ <;> rfl
  simp only [Jg, e0]
  unfold dds
  cases (J3A new (Ju op)).run ⟨[], sto⟩ with
  | none => rfl
  | some u => simp only []; cases (opR F op new).run ⟨env, sto⟩ <;> rfl
theorem JdQ {lg : Option Log} (op : AOp) : Jg F (⟨op, none, none⟩ :: r) new ⟨env, sto⟩ lg = dds (Ju op) new sto (((opR F op new).run ⟨env, sto⟩).bind fun e => Jg F r (new + Ju op) ⟨env, upd e.ws sto⟩ (lgA lg (rdO F op new ⟨env, sto⟩) (e.ws.map (·.1)))) := by
  have e0 : (J0L F ⟨op, none, none⟩ new).run ⟨env, sto⟩ = dds (Ju op) new sto ((opR F op new).run ⟨env, sto⟩) := by
    simp only [J0L, opD, run_bind, Je9 (env := env)]
    unfold dds
    cases (J3A new (Ju op)).run ⟨[], sto⟩ <;> rfl
  simp only [Jg, e0]
  unfold dds
  cases (J3A new (Ju op)).run ⟨[], sto⟩ with
  | none => rfl
  | some u => simp only []; cases (opR F op new).run ⟨env, sto⟩ <;> rfl
theorem st0 {lg : Option Log} {op : AOp} (h : Ju op = 0) : Jg F (⟨op, some d, none⟩ :: r) new ⟨env, sto⟩ lg = ((opR F op new).run ⟨env, sto⟩).bind fun e => Jg F r new ⟨(d, e.val) :: env, upd e.ws sto⟩ (lgA lg (rdO F op new ⟨env, sto⟩) (e.ws.map (·.1))) := by
  rw [stD, h]; rfl
theorem JmK {lg : Option Log} {op : AOp} (h : Ju op = 0) : Jg F (⟨op, none, none⟩ :: r) new ⟨env, sto⟩ lg = ((opR F op new).run ⟨env, sto⟩).bind fun e => Jg F r new ⟨env, upd e.ws sto⟩ (lgA lg (rdO F op new ⟨env, sto⟩) (e.ws.map (·.1))) := by
  rw [JdQ, h]; rfl
def pk (u : AV) (a b : Option AV) : Option AV := match u with
  | .p (.b x) => if x = true then a else b
  | _ => none
@[congr] theorem JmA {α : Type} {n n' new new' : Nat} {sto : List Blk} {o : Option α} (h : n = n') (h' : new = new') : dds n new sto o = dds n' new' sto o := by rw [h, h']
theorem J0I {α : Type} (n new : Nat) (sto : List Blk) : dds n new sto (none : Option α) = none := by
  unfold dds; split <;> rfl
theorem JiQ {α β : Type} (n new : Nat) (sto : List Blk) (o : Option α) (g : α → Option β) : dds n new sto (o.bind g) = o.bind fun a => dds n new sto (g a) := by
  cases o with
  | none => exact J0I ..
  | some a => rfl
theorem JlI {β : Type} {K : Eff → Option β} {o : Option AV} : ((o.bind fun v => some ⟨v, []⟩).bind K) = o.bind fun v => K ⟨v, []⟩ := by cases o <;> rfl
def pkk (a b : Option (List Nat × List Nat)) : Bool := match a, b with
  | some a, some b => J2R a.2 b.1 && J2R a.2 b.2 && J2R a.1 b.2
  | _, _ => false
theorem bi {α β : Type} {o : Option α} {f : α → Option β} {r : β} (h : Option.bind o f = some r) : ∃ x, o = some x ∧ f x = some r := Option.bind_eq_some_iff.1 h
theorem sj {α : Type} {a b : α} (h : some a = some b) : a = b := Option.some.inj h
theorem mi {α β : Type} {o : Option α} {f : α → β} {r : β} (h : Option.map f o = some r) : ∃ x, o = some x ∧ f x = r := Option.map_eq_some_iff.1 h
inductive Dum {α : Type} : α → Type where
  | mk (a : α) : Dum a
def J48 {α : Type} (a : α) (_ : Dum a) : α := a
def pkh {β : Type} (u : AV) (a b : Option AV) (K : AV → Option β) : Option β := (pk u a b).bind K
theorem JhV {β : Type} {K : Eff → Option β} {a b : Opd} {o : Option AV} : ((o.bind fun u => RM.run (match u with
    | .p (.b x) => if x = true then (ev a).bind fun v => .ret ⟨v, []⟩ else (ev b).bind fun v => .ret ⟨v, []⟩
    | _ => .fail) ⟨env, sto⟩).bind K) = o.bind fun u => (pk u (evv a env) (evv b env)).bind fun v => K ⟨v, []⟩ := by
  cases o with
  | none => rfl
  | some u =>
    simp only [Option.bind_some]
    cases u with
    | p c =>
      cases c with
      | b x =>
        cases x with
        | true => simp only [if_true, run_bind, J09, pk]; cases evv a env <;> rfl
        | false => simp only [Bool.false_eq_true, if_false, run_bind, J09, pk]; cases evv b env <;> rfl
      | _ => rfl
    | _ => rfl
theorem J7V {β : Type} {K : Eff → Option β} {o : Option AV} (g : AV → Option AV) : ((o.bind fun a => (Go.Am.val (g a)).run ⟨env, sto⟩).bind K) = o.bind fun a => (g a).bind fun v => K ⟨v, []⟩ := by
  cases o with
  | none => rfl
  | some a => simp only [Option.bind_some]; cases g a <;> rfl
theorem Jc3 {β : Type} {K : Eff → Option β} {o o' : Option AV} (g : AV → AV → Option AV) : ((o.bind fun a => o'.bind fun c => (Go.Am.val (g a c)).run ⟨env, sto⟩).bind K) = o.bind fun a => o'.bind fun c => (g a c).bind fun v => K ⟨v, []⟩ := by
  cases o with
  | none => rfl
  | some a =>
    cases o' with
    | none => rfl
    | some c => simp only [Option.bind_some]; cases g a c <;> rfl
theorem Je5 {β : Type} {o : Option AV} (g : AV → Option Eff) {k : Eff → Option β} : ((o.bind fun a => g a).bind k) = o.bind fun a => (g a).bind k := by
  cases o <;> rfl
theorem Jhr {β : Type} {o o' : Option AV} {e b : Nat} {z : List PV} {s : St} {k : Eff → Option β} : ((o.bind fun a => o'.bind fun c => RM.run (match zrs e z c with
    | some c1 => J5t e b a c1
    | none => .fail) s).bind k) = o.bind fun a => o'.bind fun c => (zrs e z c).bind fun c1 => ((J5t e b a c1).run s).bind k := by
  cases o with
  | none => rfl
  | some a => cases o' with
    | none => rfl
    | some c =>
      simp only [Option.bind_some]
      cases zrs e z c <;> rfl
theorem JaS {β : Type} {o o' : Option AV} (g : AV → AV → Option Eff) {k : Eff → Option β} : ((o.bind fun a => o'.bind fun c => g a c).bind k) = o.bind fun a => o'.bind fun c => (g a c).bind k := by
  cases o <;> cases o' <;> rfl
def Jcw (a c : AV) : Option AV := match a, c with
  | .p (.s l), .p (.i _ n) => if 0 ≤ n then
      match l[n.toNat]? with
      | some u => some (.p (.i .u8 u.toNat))
      | none => none
    else none
  | _, _ => none
theorem JkJ {β : Type} {K : Eff → Option β} {o o' : Option AV} : ((o.bind fun a => o'.bind fun c => RM.run (match a, c with
    | .p (.s l), .p (.i _ n) => if 0 ≤ n then
        match l[n.toNat]? with
        | some u => .ret ⟨.p (.i .u8 u.toNat), []⟩
        | none => .fail
      else .fail
    | _, _ => .fail) ⟨env, sto⟩).bind K) = o.bind fun a => o'.bind fun c => (Jcw a c).bind fun v => K ⟨v, []⟩ := by
  cases o with
  | none => rfl
  | some a =>
    cases o' with
    | none => rfl
    | some c =>
      simp only [Option.bind_some, Jcw]
      split
      · split
        · split <;> rfl
        · rfl
      · rfl
theorem JlM (l : List UInt8) (k : IntKind) (n : Int) : Jcw (.p (.s l)) (.p (.i k n)) = (JbU l n).map fun v => .p (.i .u8 v) := by
  simp only [Jcw, JbU]
  by_cases h : 0 ≤ n
  · simp only [if_pos h]; cases l[n.toNat]? <;> rfl
  · simp only [if_neg h]; rfl
def JaF (g : Bool) (n e : Nat) (a c : AV) : Option AV := match c with
  | .p (.i _ i) => if 0 ≤ i ∧ i < n then J2Q g (i.toNat * e) e a else none
  | _ => none
theorem JkD {β : Type} {K : Eff → Option β} {g : Bool} {n e : Nat} {o o' : Option AV} : ((o.bind fun a => o'.bind fun c => RM.run (match c with
    | .p (.i _ i) => if 0 ≤ i ∧ i < n then Go.Am.val (J2Q g (i.toNat * e) e a) else .fail
    | _ => .fail) ⟨env, sto⟩).bind K) = o.bind fun a => o'.bind fun c => (JaF g n e a c).bind fun v => K ⟨v, []⟩ := by
  cases o with
  | none => rfl
  | some a =>
    cases o' with
    | none => rfl
    | some c =>
      simp only [Option.bind_some, JaF]
      split
      · split
        · cases J2Q g _ e a <;> rfl
        · rfl
      · rfl
theorem Jlq (g : Bool) (n e : Nat) (cs : List PV) (k : IntKind) (i : Int) : JaF g n e (.data cs) (.p (.i k i)) = if 0 ≤ i ∧ i < n then (sub cs (i.toNat * e) e).bind (J0R g) else none := by
  simp only [JaF, J2Q]
  split
  · cases sub cs (i.toNat * e) e <;> rfl
  · rfl
def Jel : AV → Option AV
  | .ptr b o => some (.ptr b o)
  | .cp cs o => some (.cp cs o)
  | .ep b e i o => some (.ep b e i o)
  | .fn f u c => some (.fn f u c)
  | _ => none
theorem JjH {β : Type} {K : Eff → Option β} {o : Option AV} : ((o.bind fun a => RM.run (match a with
    | .ptr b o => .ret ⟨.ptr b o, []⟩
    | .cp cs o => .ret ⟨.cp cs o, []⟩
    | .ep b e i o => .ret ⟨.ep b e i o, []⟩
    | .fn f u c => .ret ⟨.fn f u c, []⟩
    | _ => .fail) ⟨env, sto⟩).bind K) = o.bind fun a => (Jel a).bind fun v => K ⟨v, []⟩ := by
  cases o with
  | none => rfl
  | some a => cases a <;> rfl
def cvR (k : CK) (a : AV) (new : Nat) : RM Eff := match k, a with
  | .int k, .p (.i _ n) => .ret ⟨.p (.i k (k.wrap n)), []⟩
  | .same, .p (.s l) => .ret ⟨.p (.s l), []⟩
  | .toStr, a => (JY 1 a).bind fun rows => match J34 rows with
    | some l => .ret ⟨.p (.s l), []⟩
    | none => .fail
  | .toBytes own, .p (.s l) => if own then .ret ⟨.slr new 0 l.length, [(new, .arr true 1 (l.map J28))]⟩ else .ret ⟨.p (.sl 1 (l.map J28)), []⟩
  | _, _ => .fail
theorem Jjf {lg : Option Log} {c : CK} {x : Opd} : Jg F (⟨.conv c x, some d, none⟩ :: r) new ⟨env, sto⟩ lg = (evv x env).bind fun a => dds (Ju (.conv c x)) new sto (((cvR c a new).run ⟨env, sto⟩).bind fun e => Jg F r (new + Ju (.conv c x)) ⟨(d, e.val) :: env, upd e.ws sto⟩ (lgA lg (rdO F (.conv c x) new ⟨env, sto⟩) (e.ws.map (·.1)))) := by
  rw [stD]
  have : (opR F (.conv c x) new).run ⟨env, sto⟩ = (evv x env).bind fun a => (cvR c a new).run ⟨env, sto⟩ := by
    simp only [opR, run_bind, J09]; rfl
  rw [this, Je5 (fun a => (cvR c a new).run ⟨env, sto⟩), JiQ]
theorem Jh6 {lg : Option Log} {z : List PV} {ps : List (Nat × Nat × Opd)} : Jg F (⟨.build z ps, some d, none⟩ :: r) new ⟨env, sto⟩ lg = ((J1a ps).run ⟨env, sto⟩).bind fun l => (J0w l (z.map .p)).bind fun cs => (J0J true cs).bind fun v => Jg F r new ⟨(d, v) :: env, sto⟩ (lgA lg (rdO F (.build z ps) new ⟨env, sto⟩) []) := by
  rw [st0 (h := rfl)]
  simp only [opR, run_bind]
  cases (J1a ps).run ⟨env, sto⟩ with
  | none => rfl
  | some l =>
    simp only [Option.bind_some]
    cases J0w l (z.map .p) with
    | none => rfl
    | some cs => simp only [Option.bind_some]; cases J0J true cs <;> rfl
def J58 (x : Option Opd) (env : List (Nat × AV)) : Option (Option AV) := match x with
  | none => some none
  | some x => (evv x env).map some
theorem Jk0 (x : Option Opd) : (evo x).run ⟨env, sto⟩ = J58 x env := by
  cases x with
  | none => rfl
  | some x => simp only [evo, run_bind, J09, J58]; cases evv x env <;> rfl
def slR (s : SK) (a : AV) (lo hi mx : Option AV) : RM Eff := match a with
  | .slr b i n => (fz (.slr b i n)).bind fun y => match y.1 with
    | [c] => match J2y s (.p c) lo hi mx with
      | some v => .ret ⟨v, y.2⟩
      | none => .fail
    | _ => .fail
  | a => Go.Am.val (J2y s a lo hi mx)
theorem Jh8 {lg : Option Log} {s : SK} {x : Opd} {lo hi mx : Option Opd} : Jg F (⟨.slice s x lo hi mx, some d, none⟩ :: r) new ⟨env, sto⟩ lg = (evv x env).bind fun a => (J58 lo env).bind fun lo1 => (J58 hi env).bind fun hi1 => (J58 mx env).bind fun mx1 => ((slR s a lo1 hi1 mx1).run ⟨env, sto⟩).bind fun e => Jg F r new ⟨(d, e.val) :: env, upd e.ws sto⟩ (lgA lg (rdO F (.slice s x lo hi mx) new ⟨env, sto⟩) (e.ws.map (·.1))) := by
  rw [st0 (h := rfl)]
  have : (opR F (.slice s x lo hi mx) new).run ⟨env, sto⟩ = (evv x env).bind fun a => (J58 lo env).bind fun lo => (J58 hi env).bind fun hi => (J58 mx env).bind fun mx => (slR s a lo hi mx).run ⟨env, sto⟩ := by
    simp only [opR, run_bind, J09, Jk0]; rfl
  rw [this]
  cases evv x env with
  | none => rfl
  | some a =>
    cases J58 lo env with
    | none => rfl
    | some lo =>
      cases J58 hi env with
      | none => rfl
      | some hi => cases J58 mx env <;> rfl
def slX (s : SK) (x : AV) (lo hi : Option AV) : Option AV := J2y s x lo hi none
theorem Jg9 {lg : Option Log} {z : List PV} : Jg F (⟨.newbox z, some d, none⟩ :: r) new ⟨env, sto⟩ lg = dds 1 new sto (Jg F r (new + 1) ⟨(d, .ptr new 0) :: env, sto.set new (.box (z.map .p))⟩ (lgA lg (rdO F (.newbox z) new ⟨env, sto⟩) [new])) := by
  rw [stD]; rfl
def JaY (e b : Nat) (a : AV) (add : List (List PV)) : Option (List (List PV)) := match a with
  | .p (.slc e' rows) => if e = e' ∧ 0 < add.length ∧ J4Y (rows.length + add.length) b = true then some (rows ++ add) else none
  | _ => none
theorem Jjc {lg : Option Log} {e b : Nat} {z : List PV} {x y : Opd} : Jg F (⟨.appc e b z x y, some d, none⟩ :: r) new ⟨env, sto⟩ lg = (evv x env).bind fun a => (evv y env).bind fun c => ((JY e c).run ⟨env, sto⟩).bind fun add => (JaY e b a add).bind fun rows => dds 1 new sto (Jg F r (new + 1) ⟨(d, .slr new 0 rows.length) :: env, sto.set new (.arr true e rows)⟩ (lgA lg (rdO F (.appc e b z x y) new ⟨env, sto⟩) [new])) := by
  rw [stD]
  simp only [opR, run_bind, J09, Ju]
  cases evv x env with
  | none => exact J0I ..
  | some a =>
    simp only [Option.bind_some]
    cases evv y env with
    | none => exact J0I ..
    | some c =>
      simp only [Option.bind_some]
      cases hq : (JY e c).run ⟨env, sto⟩ with
      | none =>
        have : (Jay e b a c new).run ⟨env, sto⟩ = none := by
          unfold Jay; split
          · simp only [run_bind, hq]; rfl
          · rfl
        rw [this]; exact J0I ..
      | some add =>
        simp only [Option.bind_some]
        have : (Jay e b a c new).run ⟨env, sto⟩ = (JaY e b a add).map fun rows => ⟨.slr new 0 rows.length, [(new, .arr true e rows)]⟩ := by
          cases a with
          | p q => cases q with
            | slc e' rows =>
              simp only [Jay, JaY, run_bind, hq, Option.bind_some]
              split
              · simp [J1f]
              · rfl
            | _ => rfl
          | _ => rfl
        rw [this]
        cases JaY e b a add with
        | none => exact J0I ..
        | some rows => rfl
theorem Jjy {α : Type} (r : α → List PV) {e b : Nat} {l l' m : List α} (h : Jav b l l' = some m) : JaY e b (.p (.slc e (l.map r))) (l'.map r) = some (m.map r) := by
  unfold Jav at h
  split at h
  · rename_i hc
    injection h with h; subst h
    show (if e = e ∧ 0 < (l'.map r).length ∧ J4Y ((l.map r).length + (l'.map r).length) b = true then some (l.map r ++ l'.map r) else none) = _
    rw [if_pos ⟨rfl, by simpa using hc.1, by rw [List.length_map, List.length_map]; exact hc.2⟩, List.map_append]
  · cases h
theorem Jkw {α : Type} (r : α → List PV) {e : Nat} (l : List α) (env : List (Nat × AV)) (sto : List Blk) : (slR (.sl e) (.p (.sl e (l.map r))) none (some (.p (.i .i64 ((l.length : Nat) : Int)))) (some (.p (.i .i64 ((l.length : Nat) : Int))))).run ⟨env, sto⟩ = some ⟨.p (.slc e (l.map r)), []⟩ := by
  simp [slR, J2y, Jds, Go.Am.val, RM.run]
theorem Ji3 {lg : Option Log} {e b : Nat} {z : List PV} {y : Opd} : Jg F (⟨.appn e b z y, some d, none⟩ :: r) new ⟨env, sto⟩ lg = (evv y env).bind fun c => ((JY e c).run ⟨env, sto⟩).bind fun rows => if J4Y rows.length b = true then dds 1 new sto (Jg F r (new + 1) ⟨(d, .slr new 0 rows.length) :: env, sto.set new (.arr true e rows)⟩ (lgA lg (rdO F (.appn e b z y) new ⟨env, sto⟩) [new])) else none := by
  rw [stD]
  simp only [opR, run_bind, J09, Ju]
  cases evv y env with
  | none => exact J0I ..
  | some c =>
    simp only [Option.bind_some]
    cases (JY e c).run ⟨env, sto⟩ with
    | none => exact J0I ..
    | some rows =>
      simp only [Option.bind_some]
      split
      · rfl
      · exact J0I ..
theorem Jhy {lg : Option Log} {e : Nat} {x : Opd} : Jg F (⟨.mkarr e x, some d, none⟩ :: r) new ⟨env, sto⟩ lg = dds 1 new sto (Jg F r (new + 1) ⟨(d, .slr new 0 0) :: env, sto.set new (.arr true e [])⟩ (lgA lg (rdO F (.mkarr e x) new ⟨env, sto⟩) [new])) := by
  rw [stD]; rfl
def bxP (n : Nat) (a : AV) : Option (List AV) := match cellsOf a with
  | some cs => if cs.length = n then some cs else none
  | none => none
theorem JkM {lg : Option Log} {n : Nat} {x : Opd} : Jg F (⟨.box n x, some d, none⟩ :: r) new ⟨env, sto⟩ lg = (evv x env).bind fun a => (bxP n a).bind fun cs => dds 1 new sto (Jg F r (new + 1) ⟨(d, .ptr new 0) :: env, sto.set new (.box cs)⟩ (lgA lg (rdO F (.box n x) new ⟨env, sto⟩) [new])) := by
  rw [stD]
  simp only [opR, run_bind, J09, Ju]
  cases evv x env with
  | none => exact J0I ..
  | some a =>
    simp only [Option.bind_some, bxP]
    cases cellsOf a with
    | none => exact J0I ..
    | some cs =>
      dsimp only
      split
      · rfl
      · exact J0I ..
def ltR (o : Bool) (e n : Nat) (z : List PV) (ps : List (Nat × Opd)) (new : Nat) : RM Eff := (fzs (ps.map (·.2))).bind fun a =>
    match J1Y e ((ps.map (·.1)).zip a.1) (List.replicate n z) with
    | some rows => if o then .ret ⟨.slr new 0 n, a.2 ++ [(new, .arr true e rows)]⟩ else .ret ⟨.p (.sl e rows), a.2⟩
    | none => .fail
theorem JiJ {lg : Option Log} {o : Bool} {e n : Nat} {z : List PV} {ps : List (Nat × Opd)} : Jg F (⟨.lits o e n z ps, some d, none⟩ :: r) new ⟨env, sto⟩ lg = dds (if o then 1 else 0) new sto (((ltR o e n z ps new).run ⟨env, sto⟩).bind fun x => Jg F r (new + if o then 1 else 0) ⟨(d, x.val) :: env, upd x.ws sto⟩ (lgA lg (rdO F (.lits o e n z ps) new ⟨env, sto⟩) (x.ws.map (·.1)))) := by
  rw [stD]; rfl
theorem Jln (env : List (Nat × AV)) (sto : List Blk) (o : Bool) (e n new : Nat) (z : List PV) (ps : List (Nat × Opd)) : (ltR o e n z ps new).run ⟨env, sto⟩ = ((fzs (ps.map (·.2))).run ⟨env, sto⟩).bind fun a => (J1Y e ((ps.map (·.1)).zip a.1) (List.replicate n z)).map fun rows => if o then ⟨.slr new 0 n, a.2 ++ [(new, .arr true e rows)]⟩ else ⟨.p (.sl e rows), a.2⟩ := by
  simp only [ltR, run_bind]
  cases (fzs (ps.map (·.2))).run ⟨env, sto⟩ with
  | none => rfl
  | some a =>
    simp only [Option.bind_some]
    cases J1Y e ((ps.map (·.1)).zip a.1) (List.replicate n z) with
    | none => rfl
    | some rows => cases o <;> rfl
def mkP (o : Bool) (e b : Nat) (z : List PV) (a c : AV) (new : Nat) : Option Eff := match a, c with
  | .p (.i _ n), .p (.i _ m) =>
    if 0 ≤ n ∧ n ≤ m ∧ b * m ≤ 281474976710656 ∧ m ≤ 281474976710656 then
      some (if o then ⟨.slr new 0 n.toNat, [(new, .arr true e (List.replicate n.toNat z))]⟩ else ⟨.p (.sl e (List.replicate n.toNat z)), []⟩)
    else none
  | _, _ => none
theorem Jl1 (o : Bool) (e b : Nat) (z : List PV) (a c : AV) (new : Nat) (s : St) : RM.run (match a, c with
    | .p (.i _ n), .p (.i _ m) =>
      if 0 ≤ n ∧ n ≤ m ∧ b * m ≤ 281474976710656 ∧ m ≤ 281474976710656 then
        if o then .ret ⟨.slr new 0 n.toNat, [(new, .arr true e (List.replicate n.toNat z))]⟩
        else .ret ⟨.p (.sl e (List.replicate n.toNat z)), []⟩
      else .fail
    | _, _ => .fail) s = mkP o e b z a c new := by
  unfold mkP
  split
  · rename_i k n k2 m
    by_cases h : 0 ≤ n ∧ n ≤ m ∧ b * m ≤ 281474976710656 ∧ m ≤ 281474976710656
    · simp only [if_pos h]; cases o <;> rfl
    · simp only [if_neg h]; rfl
  · rfl
theorem Jf6 {lg : Option Log} {o : Bool} {e b : Nat} {z : List PV} {l c : Opd} : Jg F (⟨.mkslice o e b z l c, some d, none⟩ :: r) new ⟨env, sto⟩ lg = (evv l env).bind fun a => (evv c env).bind fun x => dds (if o then 1 else 0) new sto ((mkP o e b z a x new).bind fun x => Jg F r (new + if o then 1 else 0) ⟨(d, x.val) :: env, upd x.ws sto⟩ (lgA lg (rdO F (.mkslice o e b z l c) new ⟨env, sto⟩) (x.ws.map (·.1)))) := by
  rw [stD]
  simp only [opR, run_bind, J09, Ju]
  cases evv l env with
  | none => exact J0I ..
  | some a =>
    cases evv c env with
    | none => exact J0I ..
    | some x =>
      simp only [Option.bind_some]
      exact congrArg (fun y => dds (if o then 1 else 0) new sto (y.bind fun x => Jg F r (new + if o then 1 else 0) ⟨(d, x.val) :: env, upd x.ws sto⟩ (lgA lg (rdO F (.mkslice o e b z l c) new ⟨env, sto⟩) (x.ws.map (·.1))))) (Jl1 o e b z a x new ⟨env, sto⟩)
def JdD (b : Nat) (B : Option Blk) (l : List Nat) : List Nat := match B with
  | some (.box _) => b :: l
  | some (.arr _ _ _) => b :: l
  | _ => l
theorem JkI (m b : Nat) (sto : List Blk) (r : List Ent) : J0y m true sto (.whole b :: r) = if b < m then J0y m true sto r else JdD b sto[b]? (J0y m true sto r) := by
  simp only [J0y, JdD]
  split
  · rfl
  · split <;> simp_all
theorem JmX {α : Type} (n new : Nat) (sto : List Blk) (o : Option α) : dds (n + 1) new sto o = dd1 sto[new]? (dds n (new + 1) sto o) := by
  unfold dds dd1
  simp only [J3A, RM.run]
  cases sto[new]? with
  | none => rfl
  | some b => cases b <;> rfl
theorem Jfc {lg : Option Log} {z : List PV} {os : List (Nat × Nat)} : Jg F (⟨.newboxo z os, some d, none⟩ :: r) new ⟨env, sto⟩ lg =
    dds (os.length + 1) new sto (Jg F r (new + (os.length + 1)) ⟨(d, .ptr (new + os.length) 0) :: env, upd (J1z os new ++ [(new + os.length, .box (J3O os new (z.map .p)))]) sto⟩
      (lgA lg (rdO F (.newboxo z os) new ⟨env, sto⟩) ((J1z os new ++ [(new + os.length, Blk.box (J3O os new (z.map .p)))]).map (·.1)))) := by
  rw [stD]; rfl
theorem JfU {lg : Option Log} {e : Nat} {x : Opd} : Jg F (⟨.storen e x, none, none⟩ :: r) new ⟨env, sto⟩ lg =
    (evv x env).bind fun a => dds 1 new sto (((J0G 1 a (.slr new 0 0)).run ⟨env, sto⟩).bind fun q => Jg F r (new + 1) ⟨env, upd ((new, .arr true e []) :: q.ws) sto⟩ (lgA lg (rdO F (.storen e x) new ⟨env, sto⟩) (new :: q.ws.map (·.1)))) := by
  rw [JdQ]
  simp only [opR, run_bind, J09, Ju]
  cases evv x env with
  | none => exact J0I ..
  | some a => simp only [Option.bind_some]; cases (J0G 1 a (.slr new 0 0)).run ⟨env, sto⟩ <;> rfl
theorem JfT {lg : Option Log} {z : List PV} {ps : List (Nat × Nat × Opd)} {os : List (Nat × Nat)} : Jg F (⟨.buildo z ps os, some d, none⟩ :: r) new ⟨env, sto⟩ lg =
    ((J1a ps).run ⟨env, sto⟩).bind fun l => (J0w l (J3O os new (z.map .p))).bind fun cs => (J0J true cs).bind fun v =>
      dds os.length new sto (Jg F r (new + os.length) ⟨(d, v) :: env, upd (J1z os new) sto⟩ (lgA lg (rdO F (.buildo z ps os) new ⟨env, sto⟩) ((J1z os new).map (·.1)))) := by
  rw [stD]
  simp only [opR, run_bind, Ju]
  cases (J1a ps).run ⟨env, sto⟩ with
  | none => exact J0I ..
  | some l =>
    simp only [Option.bind_some]
    cases J0w l (J3O os new (z.map .p)) with
    | none => exact J0I ..
    | some cs =>
      simp only [Option.bind_some]
      cases J0J true cs with
      | none => exact J0I ..
      | some v => rfl
theorem JgW {lg : Option Log} {g : FuncId} {kp : List Bool} {args : List Opd} {n : Nat} : Jg F (⟨.callo g kp args n, some d, none⟩ :: r) new ⟨env, sto⟩ lg = dds n new sto (((evs args).run ⟨env, sto⟩).bind fun a => ((J11 kp a).run ⟨env, sto⟩).bind fun a => ((J2k F g a n new).run ⟨env, sto⟩).bind fun e => Jg F r (new + n) ⟨(d, e.val) :: env, upd e.ws sto⟩ (lgA lg (rdO F (.callo g kp args n) new ⟨env, sto⟩) (e.ws.map (·.1)))) := by
  rw [stD]
  simp only [opR, run_bind, Ju]
  cases (evs args).run ⟨env, sto⟩ with
  | none => rfl
  | some a => simp only [Option.bind_some]; cases (J11 kp a).run ⟨env, sto⟩ <;> rfl
theorem JgA {lg : Option Log} {g : FuncId} {kp : List Bool} {args : List Opd} {n : Nat} : Jg F (⟨.callo g kp args n, none, none⟩ :: r) new ⟨env, sto⟩ lg = dds n new sto (((evs args).run ⟨env, sto⟩).bind fun a => ((J11 kp a).run ⟨env, sto⟩).bind fun a => ((J2k F g a n new).run ⟨env, sto⟩).bind fun e => Jg F r (new + n) ⟨env, upd e.ws sto⟩ (lgA lg (rdO F (.callo g kp args n) new ⟨env, sto⟩) (e.ws.map (·.1)))) := by
  rw [JdQ]
  simp only [opR, run_bind, Ju]
  cases (evs args).run ⟨env, sto⟩ with
  | none => rfl
  | some a => simp only [Option.bind_some]; cases (J11 kp a).run ⟨env, sto⟩ <;> rfl
theorem Jd0 : ∀ l : List AV, J11 [] l = Jq l
  | [] => rfl
  | x :: r => by simp only [J11, Jq, Jd0 r]
theorem JjK (x : AV) (m : List Bool) (r : List AV) : (J11 (false :: m) (x :: r)).run ⟨env, sto⟩ = ((Jq [x]).run ⟨env, sto⟩).bind fun a => ((J11 m r).run ⟨env, sto⟩).bind fun c => some (a.1 ++ c.1, a.2 ++ c.2) := by
  simp only [J11, Jq, run_bind]
  cases (J4g x).run ⟨env, sto⟩ with
  | none => rfl
  | some a => simp only [Option.bind_some, RM.run]; cases (J11 m r).run ⟨env, sto⟩ <;> simp
theorem JjS (x : AV) (m : List Bool) (r : List AV) : (J11 (true :: m) (x :: r)).run ⟨env, sto⟩ = ((J11 m r).run ⟨env, sto⟩).bind fun c => some (x :: c.1, c.2) := by
  simp only [J11, run_bind]
  cases (J11 m r).run ⟨env, sto⟩ <;> rfl
theorem JiA {lg : Option Log} {g : FuncId} {args : List Opd} {n : Nat} : Jg F (⟨.call g args n, some d, none⟩ :: r) new ⟨env, sto⟩ lg = dds n new sto (((evs args).run ⟨env, sto⟩).bind fun a => ((Jq a).run ⟨env, sto⟩).bind fun a => ((Jy F g a n new).run ⟨env, sto⟩).bind fun e => Jg F r (new + n) ⟨(d, e.val) :: env, upd e.ws sto⟩ (lgA lg (rdO F (.call g args n) new ⟨env, sto⟩) (e.ws.map (·.1)))) := by
  rw [stD]
  simp only [opR, run_bind, Ju, J6O]
  cases (evs args).run ⟨env, sto⟩ with
  | none => rfl
  | some a => simp only [Option.bind_some]; cases (Jq a).run ⟨env, sto⟩ <;> rfl
theorem JhD {lg : Option Log} {g : FuncId} {args : List Opd} {n : Nat} : Jg F (⟨.call g args n, none, none⟩ :: r) new ⟨env, sto⟩ lg = dds n new sto (((evs args).run ⟨env, sto⟩).bind fun a => ((Jq a).run ⟨env, sto⟩).bind fun a => ((Jy F g a n new).run ⟨env, sto⟩).bind fun e => Jg F r (new + n) ⟨env, upd e.ws sto⟩ (lgA lg (rdO F (.call g args n) new ⟨env, sto⟩) (e.ws.map (·.1)))) := by
  rw [JdQ]
  simp only [opR, run_bind, Ju, J6O]
  cases (evs args).run ⟨env, sto⟩ with
  | none => rfl
  | some a => simp only [Option.bind_some]; cases (Jq a).run ⟨env, sto⟩ <;> rfl
def cvg {α : Type} (u : AV) (k : FuncId → List AV → List AV → Option α) : Option α := match u with
  | .fn f a c => k f a c
  | _ => none
theorem Jiz {lg : Option Log} {g : FuncId} {a c : List Opd} : Jg F (⟨.mkfn g a c, some d, none⟩ :: r) new ⟨env, sto⟩ lg = ((evs a).run ⟨env, sto⟩).bind fun a1 => ((evs c).run ⟨env, sto⟩).bind fun c1 => Jg F r new ⟨(d, .fn g a1 c1) :: env, sto⟩ (lgA lg (rdO F (.mkfn g a c) new ⟨env, sto⟩) []) := by
  rw [st0 (h := rfl)]
  simp only [opR, run_bind]
  cases (evs a).run ⟨env, sto⟩ with
  | none => rfl
  | some a1 => simp only [Option.bind_some]; cases (evs c).run ⟨env, sto⟩ <;> rfl
theorem Jhh {lg : Option Log} {g : Opd} {args : List Opd} {n : Nat} : Jg F (⟨.callv g args n, some d, none⟩ :: r) new ⟨env, sto⟩ lg = (evv g env).bind fun u => cvg u fun h a1 c1 => dds n new sto (((evs args).run ⟨env, sto⟩).bind fun a => ((Jq (a1 ++ a ++ c1)).run ⟨env, sto⟩).bind fun a => ((Jy F h a n new).run ⟨env, sto⟩).bind fun q => Jg F r (new + n) ⟨(d, q.val) :: env, upd q.ws sto⟩ (lgA lg (rdO F (.callv g args n) new ⟨env, sto⟩) (q.ws.map (·.1)))) := by
  rw [stD]
  simp only [opR, run_bind, J09, Ju]
  cases evv g env with
  | none => exact J0I ..
  | some u =>
    simp only [Option.bind_some]
    cases u with
    | fn h a1 c1 =>
      simp only [cvg, run_bind, J6O]
      cases (evs args).run ⟨env, sto⟩ with
      | none => rfl
      | some a => simp only [Option.bind_some]; cases (Jq (a1 ++ a ++ c1)).run ⟨env, sto⟩ <;> rfl
    | _ => exact J0I ..
theorem Jg3 {lg : Option Log} {g : Opd} {args : List Opd} {n : Nat} : Jg F (⟨.callv g args n, none, none⟩ :: r) new ⟨env, sto⟩ lg = (evv g env).bind fun u => cvg u fun h a1 c1 => dds n new sto (((evs args).run ⟨env, sto⟩).bind fun a => ((Jq (a1 ++ a ++ c1)).run ⟨env, sto⟩).bind fun a => ((Jy F h a n new).run ⟨env, sto⟩).bind fun q => Jg F r (new + n) ⟨env, upd q.ws sto⟩ (lgA lg (rdO F (.callv g args n) new ⟨env, sto⟩) (q.ws.map (·.1)))) := by
  rw [JdQ]
  simp only [opR, run_bind, J09, Ju]
  cases evv g env with
  | none => exact J0I ..
  | some u =>
    simp only [Option.bind_some]
    cases u with
    | fn h a1 c1 =>
      simp only [cvg, run_bind, J6O]
      cases (evs args).run ⟨env, sto⟩ with
      | none => rfl
      | some a => simp only [Option.bind_some]; cases (Jq (a1 ++ a ++ c1)).run ⟨env, sto⟩ <;> rfl
    | _ => exact J0I ..
def grd {α : Type} (x : Option AV) (w : Bool) (a b : Option α) : Option α := match x with
  | some (.p (.b x)) => if x = w then a else b
  | some (.tup []) => b
  | _ => none
end
@[congr] theorem Jmw {α : Type} {x x' : Option AV} {w : Bool} {a b : Option α} (h : x = x') : grd x w a b = grd x' w a b := by rw [h]
theorem Jkr (F : Orc) (r : List J0n) (new : Nat) (env : List (Nat × AV)) (sto : List Blk) (lg : Option Log) (op : AOp) (d : Option Nat) (g : Nat) (w : Bool) :
    Jg F (⟨op, d, some (g, w)⟩ :: r) new ⟨env, sto⟩ lg = grd (lk g env) w (Jg F (⟨op, d, none⟩ :: r) new ⟨env, sto⟩ lg) (Jg F r (new + Ju op) (put d ⟨J0r, []⟩ ⟨env, sto⟩) (lgA lg [] [])) := by
  simp only [Jg, J0L, RM.run, RM.reads]
  cases lk g env with
  | none => rfl
  | some v =>
    dsimp only
    cases v with
    | p c =>
      cases c with
      | b x =>
        simp only [grd]
        by_cases h : x = w
        · subst h; simp only [if_true]; rfl
        · simp only [if_neg h]; rfl
      | _ => rfl
    | tup l => cases l <;> rfl
    | _ => rfl
def Jgd (k : Nat) (v : Option AV) (l : List (Nat × AV)) : List (Nat × AV) := match v with
  | some v => (k, v) :: l
  | none => l
def JdS (cs : List AV) (l : Option (List PV)) : AV := match l with
  | some l => .data l
  | none => .agg cs
def ldB (g : Bool) (n off : Nat) (B : Blk) : Option Eff := match B with
  | .box cs => (sub cs off n).bind fun l => (J0J g l).map fun v => ⟨v, []⟩
  | _ => none
def ldE (g : Bool) (n e i off : Nat) (B : Blk) : Option Eff := match B with
  | .arr _ _ rows => if e = rows.length then rows[i]?.bind fun row => (sub row off n).bind fun l => (J0R g l).map fun v => ⟨v, []⟩ else none
  | _ => none
theorem JkF (env : List (Nat × AV)) (sto : List Blk) (g : Bool) (n : Nat) (cs : List PV) (off : Nat) : (J0T g n (.cp cs off)).run ⟨env, sto⟩ = (sub cs off n).bind fun l => (J0R g l).map fun v => ⟨v, []⟩ := by
  simp only [J0T]
  cases sub cs off n with
  | none => rfl
  | some l => simp only [Option.bind_some]; cases J0R g l <;> rfl
theorem Jkv (env : List (Nat × AV)) (sto : List Blk) (g : Bool) (n b off : Nat) : (J0T g n (.ptr b off)).run ⟨env, sto⟩ = sto[b]?.bind fun B => ldB g n off B := by
  simp only [J0T, J3Y]
  cases sto[b]? with
  | none => rfl
  | some B =>
    cases B with
    | box cs =>
      simp only [Option.bind_some, ldB]
      cases sub cs off n with
      | none => rfl
      | some l => simp only [Option.bind_some]; cases J0J g l <;> rfl
    | _ => rfl
theorem Jmb (g : Bool) (n off : Nat) (cs : List PV) : ldB g n off (.box (cs.map AV.p)) = (sub cs off n).bind fun l => (J0R g l).map fun v => ⟨v, []⟩ := by
  simp only [ldB, Jj5]
  cases sub cs off n with
  | none => rfl
  | some l =>
    simp only [Option.map_some, Option.bind_some]
    cases g with
    | true => rw [Jaq]; rfl
    | false => match l with
      | [] => rfl
      | [_] => rfl
      | _ :: _ :: _ => rfl
theorem Jka (env : List (Nat × AV)) (sto : List Blk) (g : Bool) (n b e i off : Nat) : (J0T g n (.ep b e i off)).run ⟨env, sto⟩ = sto[b]?.bind fun B => ldE g n e i off B := by
  simp only [J0T, J3Y]
  cases sto[b]? with
  | none => rfl
  | some B =>
    cases B with
    | arr w z rows =>
      simp only [Option.bind_some, ldE]
      split
      · cases rows[i]? with
        | none => rfl
        | some row =>
          simp only [Option.bind_some]
          cases sub row off n with
          | none => rfl
          | some l => simp only [Option.bind_some]; cases J0R g l <;> rfl
      · rfl
    | _ => rfl
def stB (n b off : Nat) (l : List AV) (B : Blk) : Option Eff := match B with
  | .box cs => if l.length = n then (spl cs off l).map fun cs => ⟨J0r, [(b, .box cs)]⟩ else none
  | _ => none
theorem Jjz (env : List (Nat × AV)) (sto : List Blk) (n b off : Nat) (v : AV) : (J0G n (.ptr b off) v).run ⟨env, sto⟩ = sto[b]?.bind fun B => (cellsOf v).bind fun l => stB n b off l B := by
  simp only [J0G, J3Y]
  cases sto[b]? with
  | none => rfl
  | some B =>
    simp only [Option.bind_some]
    cases B with
    | box cs =>
      dsimp only
      cases cellsOf v with
      | none => rfl
      | some l =>
        simp only [Option.bind_some, stB]
        split
        · cases spl cs off l <;> rfl
        · rfl
    | dead => cases cellsOf v <;> rfl
    | arr w z rows => cases cellsOf v <;> rfl
theorem Jju (n b off : Nat) (cs vs : List PV) : stB n b off (vs.map AV.p) (.box (cs.map AV.p)) = if vs.length = n then (spl cs off vs).map fun cs => ⟨J0r, [(b, .box (cs.map AV.p))]⟩ else none := by
  simp only [stB, List.length_map, JeK]
  split
  · cases spl cs off vs <;> rfl
  · rfl
theorem Jmf (b off : Nat) (cs : List PV) (v : PV) : stB 1 b off [AV.p v] (.box (cs.map AV.p)) = (spl cs off [v]).map fun cs => ⟨J0r, [(b, .box (cs.map AV.p))]⟩ := by
  have := Jju 1 b off cs [v]
  simpa using this
def stE (n b e i off : Nat) (v : AV) (B : Blk) (s : St) : Option Eff := match B with
  | .arr true z rows => if e = rows.length then
      match rows[i]? with
      | some row => ((fz v).run s).bind fun a =>
        if a.1.length = n ∧ (a.2.all fun y => y.1 != b) = true then
          match spl row off a.1 with
          | some row' => some ⟨J0r, a.2 ++ [(b, .arr true z (rows.set i row'))]⟩
          | none => none
        else none
      | none => none
    else none
  | _ => none
theorem JkP (env : List (Nat × AV)) (sto : List Blk) (n b e i off : Nat) (v : AV) : (J0G n (.ep b e i off) v).run ⟨env, sto⟩ = sto[b]?.bind fun B => stE n b e i off v B ⟨env, sto⟩ := by
  simp only [J0G, J3Y]
  cases sto[b]? with
  | none => rfl
  | some B =>
    simp only [Option.bind_some]
    cases B with
    | arr w z rows =>
      cases w with
      | false => rfl
      | true =>
        simp only [stE]
        split
        · cases rows[i]? with
          | none => rfl
          | some row =>
            simp only [run_bind]
            cases (fz v).run ⟨env, sto⟩ with
            | none => rfl
            | some a =>
              simp only [Option.bind_some]
              split
              · cases spl row off a.1 <;> rfl
              · rfl
        · rfl
    | _ => rfl
theorem Jmp (n b e i off z : Nat) (c : PV) (rows : List (List PV)) (s : St) : stE n b e i off (.p c) (.arr true z rows) s = if e = rows.length then rows[i]?.bind fun row => if 1 = n then (spl row off [c]).map fun row => ⟨J0r, [(b, .arr true z (rows.set i row))]⟩ else none else none := by
  simp only [stE, fz, J1f, Option.bind_some]
  split
  · cases rows[i]? with
    | none => rfl
    | some row =>
      simp only [Option.bind_some, List.length_cons, List.length_nil, List.all_nil, and_true]
      simp only [Nat.zero_add]
      split
      · cases spl row off [c] <;> rfl
      · rfl
  · rfl
theorem Jma (n b e i off z : Nat) (cs : List PV) (rows : List (List PV)) (s : St) : stE n b e i off (.data cs) (.arr true z rows) s = if e = rows.length then rows[i]?.bind fun row => if cs.length = n then (spl row off cs).map fun row => ⟨J0r, [(b, .arr true z (rows.set i row))]⟩ else none else none := by
  simp only [stE, fz, J1f, Option.bind_some]
  split
  · cases rows[i]? with
    | none => rfl
    | some row =>
      simp only [Option.bind_some, List.all_nil, and_true]
      split
      · cases spl row off cs <;> rfl
      · rfl
  · rfl
theorem JlJ (n : Nat) (cs : List PV) : bxP n (.data cs) = if cs.length = n then some (cs.map AV.p) else none := by simp [bxP, cellsOf]
theorem Jiv (env : List (Nat × AV)) (sto : List Blk) (e : Nat) (rows : List (List PV)) (k : IntKind) (n : Int) : (J1v e (.p (.sl e rows)) (.p (.i k n))).run ⟨env, sto⟩ = (J6D rows n).map fun row => ⟨.cp row 0, []⟩ := by
  simp only [J1v, if_true]
  cases J6D rows n <;> rfl
def iaB (e b m : Nat) (n : Int) (B : Blk) : Option Eff := match B with
  | .arr _ esz' rows => if e = esz' ∧ 0 + m = rows.length ∧ 0 ≤ n ∧ n < m then some ⟨.ep b rows.length (0 + n.toNat) 0, []⟩ else none
  | _ => none
theorem JhR (env : List (Nat × AV)) (sto : List Blk) (e b m : Nat) (k : IntKind) (n : Int) : (J1v e (.slr b 0 m) (.p (.i k n))).run ⟨env, sto⟩ = sto[b]?.bind fun B => iaB e b m n B := by
  simp only [J1v, J3Y]
  cases sto[b]? with
  | none => rfl
  | some B =>
    cases B with
    | arr w z rows => simp only [Option.bind_some, iaB]; split <;> rfl
    | _ => rfl
theorem JjA (e b m : Nat) (n : Int) (w : Bool) (rows : List (List PV)) : iaB e b m n (.arr w e rows) = if m = rows.length ∧ 0 ≤ n ∧ n < m then some ⟨.ep b rows.length n.toNat 0, []⟩ else none := by
  simp [iaB]
theorem JhU (env : List (Nat × AV)) (sto : List Blk) (l : List Int) (new : Nat) : (cvR .toStr (.p (.sl 1 (l.map (r_i .u8)))) new).run ⟨env, sto⟩ = some ⟨.p (.s (toStr l)), []⟩ := by
  simp only [cvR, JY, if_true, run_bind, J1f, Option.bind_some, J8h]
def cvB (n : Nat) (B : Blk) : Option Eff := match B with
  | .arr _ z rows => if 1 = z ∧ 0 + n = rows.length then
      match J34 (rows.drop 0) with
      | some l => some ⟨.p (.s l), []⟩
      | none => none
    else none
  | _ => none
theorem JiC (env : List (Nat × AV)) (sto : List Blk) (b n new : Nat) : (cvR .toStr (.slr b 0 n) new).run ⟨env, sto⟩ = sto[b]?.bind fun B => cvB n B := by
  simp only [cvR, JY, run_bind, J3Y]
  cases sto[b]? with
  | none => rfl
  | some B =>
    cases B with
    | arr w z rows =>
      simp only [Option.bind_some, cvB]
      split
      · simp only [J1f, Option.bind_some]; cases J34 (rows.drop 0) <;> rfl
      · rfl
    | _ => rfl
theorem Jkn (n : Nat) (w : Bool) (l : List Int) : cvB n (.arr w 1 (l.map (r_i .u8))) = if n = l.length then some ⟨.p (.s (toStr l)), []⟩ else none := by
  simp only [cvB, List.drop_zero, J8h, List.length_map, Nat.zero_add, true_and]
theorem Jjm (env : List (Nat × AV)) (sto : List Blk) (l : List UInt8) (new : Nat) : (cvR (.toBytes false) (.p (.s l)) new).run ⟨env, sto⟩ = some ⟨.p (.sl 1 ((J5m l).map (r_i .u8))), []⟩ := by
  simp [cvR, JaV]
theorem JgL (env : List (Nat × AV)) (sto : List Blk) (l : List UInt8) (new : Nat) : (cvR (.toBytes true) (.p (.s l)) new).run ⟨env, sto⟩ = some ⟨.slr new 0 (J5m l).length, [(new, .arr true 1 ((J5m l).map (r_i .u8)))]⟩ := by
  have : (J5m l).length = l.length := by simp [J5m]
  simp [cvR, JaV, this]
theorem Jld (env : List (Nat × AV)) (sto : List Blk) (off size : Nat) (x : Opd) (r : List (Nat × Nat × Opd)) : (J1a ((off, size, x) :: r)).run ⟨env, sto⟩ = (evv x env).bind fun v => (cellsOf v).bind fun cs => ((J1a r).run ⟨env, sto⟩).bind fun l => some ((off, size, cs) :: l) := by
  simp only [J1a, run_bind, J09]
  cases evv x env with
  | none => rfl
  | some v =>
    simp only [Option.bind_some]
    cases cellsOf v with
    | none => rfl
    | some cs => simp only [Option.bind_some, run_bind]; cases (J1a r).run ⟨env, sto⟩ <;> rfl
theorem JdJ (off size : Nat) (vs cs : List PV) (r : List (Nat × Nat × List AV)) : J0w ((off, size, vs.map AV.p) :: r) (cs.map AV.p) = if vs.length = size then (spl cs off vs).bind fun cs => J0w r (cs.map AV.p) else none := by
  simp only [J0w, List.length_map, JeK]
  split
  · cases spl cs off vs <;> rfl
  · rfl
theorem Jj2 (off : Nat) (v : PV) (cs : List PV) (r : List (Nat × Nat × List AV)) : J0w ((off, 1, [AV.p v]) :: r) (cs.map AV.p) = (spl cs off [v]).bind fun cs => J0w r (cs.map AV.p) := by
  have := JdJ off 1 [v] cs r
  simpa using this
theorem JlH (env : List (Nat × AV)) (sto : List Blk) (x : Opd) (r : List Opd) : (evs (x :: r)).run ⟨env, sto⟩ = (evv x env).bind fun v => ((evs r).run ⟨env, sto⟩).bind fun vs => some (v :: vs) := by
  simp only [evs, run_bind, J09]; rfl
theorem J7E (env : List (Nat × AV)) (sto : List Blk) {v : AV} (h : J4g v = .ret (v, [])) (r : List AV) : (Jq (v :: r)).run ⟨env, sto⟩ = ((Jq r).run ⟨env, sto⟩).bind fun a => some (v :: a.1, a.2) := by
  simp only [Jq, h, run_bind, J1f, Option.bind_some, List.nil_append]
def frz (b n : Nat) (B : Blk) : Option (AV × (Nat × Blk)) := match B with
  | .arr _ z rows => if n = rows.length then some (.p (.sl z rows), (b, .arr false z rows)) else none
  | _ => none
def frp (b n : Nat) (B : Blk) : Option (PV × (Nat × Blk)) := match B with
  | .arr _ z rows => if n = rows.length then some (.sl z rows, (b, .arr false z rows)) else none
  | _ => none
theorem JdC (env : List (Nat × AV)) (sto : List Blk) (b n : Nat) : (fz (.slr b 0 n)).run ⟨env, sto⟩ = sto[b]?.bind fun B => (frp b n B).bind fun x => some ([x.1], [x.2]) := by
  simp only [fz, J3Y]
  cases sto[b]? with
  | none => rfl
  | some B =>
    cases B with
    | arr w z rows =>
      simp only [Option.bind_some, frp, Nat.zero_add, List.drop_zero]
      split <;> rfl
    | _ => rfl
theorem JjI (env : List (Nat × AV)) (sto : List Blk) (b n : Nat) : (fz.fz1 (.slr b 0 n)).run ⟨env, sto⟩ = sto[b]?.bind fun B => (frp b n B).bind fun x => some ([x.1], [x.2]) := by
  simp only [fz.fz1, J3Y]
  cases sto[b]? with
  | none => rfl
  | some B =>
    cases B with
    | arr w z rows =>
      simp only [Option.bind_some, frp, Nat.zero_add, List.drop_zero]
      split <;> rfl
    | _ => rfl
theorem Ji6 (env : List (Nat × AV)) (sto : List Blk) (b n : Nat) (r : List AV) : (Jq (.slr b 0 n :: r)).run ⟨env, sto⟩ = sto[b]?.bind fun B => (frz b n B).bind fun x => ((Jq r).run ⟨env, sto⟩).bind fun a => some (x.1 :: a.1, x.2 :: a.2) := by
  simp only [Jq, J4g, run_bind, JdC]
  cases sto[b]? with
  | none => rfl
  | some B =>
    cases B with
    | arr w z rows =>
      simp only [Option.bind_some, frp, frz]
      split
      · simp only [Option.bind_some, J1f]; cases (Jq r).run ⟨env, sto⟩ <;> rfl
      · rfl
    | _ => rfl
theorem JiY (env : List (Nat × AV)) (sto : List Blk) (cs : List AV) (r : List AV) : (Jq (.agg cs :: r)).run ⟨env, sto⟩ = ((fz.fzL cs).run ⟨env, sto⟩).bind fun x => ((Jq r).run ⟨env, sto⟩).bind fun a => some (.data x.1 :: a.1, x.2 ++ a.2) := by
  simp only [Jq, J4g, run_bind, fz]
  cases (fz.fzL cs).run ⟨env, sto⟩ with
  | none => rfl
  | some x => simp only [Option.bind_some, J1f]
theorem JhQ (env : List (Nat × AV)) (sto : List Blk) (c : PV) (r : List AV) : (fz.fzL (.p c :: r)).run ⟨env, sto⟩ = ((fz.fzL r).run ⟨env, sto⟩).bind fun a => some (c :: a.1, a.2) := by
  simp only [fz.fzL, fz.fz1, run_bind, J1f, Option.bind_some]; rfl
theorem Jjh (env : List (Nat × AV)) (sto : List Blk) (b n : Nat) (r : List AV) : (fz.fzL (.slr b 0 n :: r)).run ⟨env, sto⟩ = sto[b]?.bind fun B => (frp b n B).bind fun x => ((fz.fzL r).run ⟨env, sto⟩).bind fun a => some (x.1 :: a.1, x.2 :: a.2) := by
  simp only [fz.fzL, run_bind, JjI]
  cases sto[b]? with
  | none => rfl
  | some B =>
    simp only [Option.bind_some]
    cases frp b n B with
    | none => rfl
    | some x => simp only [Option.bind_some]; cases (fz.fzL r).run ⟨env, sto⟩ <;> rfl
theorem JkZ (env : List (Nat × AV)) (sto : List Blk) (b : Nat) : (J5w [] b).run ⟨env, sto⟩ = sto[b]? := by
  simp only [J5w, J3Y]
  cases sto[b]? <;> rfl
theorem Jie (env : List (Nat × AV)) (sto : List Blk) (e : Nat) (rows : List (List PV)) : (JY e (.p (.sl e rows))).run ⟨env, sto⟩ = some rows := by simp [JY]
theorem Jif (env : List (Nat × AV)) (sto : List Blk) (l : List UInt8) : (JY 1 (.p (.s l))).run ⟨env, sto⟩ = some ((J5m l).map (r_i .u8)) := by simp [JY, JaV]
def roB (e n : Nat) (B : Blk) : Option (List (List PV)) := match B with
  | .arr _ z rows => if e = z ∧ 0 + n = rows.length then some (rows.drop 0) else none
  | _ => none
theorem Jjg (env : List (Nat × AV)) (sto : List Blk) (e b n : Nat) : (JY e (.slr b 0 n)).run ⟨env, sto⟩ = sto[b]?.bind fun B => roB e n B := by
  simp only [JY, J3Y]
  cases sto[b]? with
  | none => rfl
  | some B =>
    cases B with
    | arr w z rows => simp only [Option.bind_some, roB]; split <;> rfl
    | _ => rfl
theorem Ji5 (e n : Nat) (w : Bool) (rows : List (List PV)) : roB e n (.arr w e rows) = if n = rows.length then some rows else none := by simp [roB]
theorem Jlb (env : List (Nat × AV)) (sto : List Blk) (x : Opd) (r : List Opd) : (fzs (x :: r)).run ⟨env, sto⟩ = (evv x env).bind fun v => ((fz v).run ⟨env, sto⟩).bind fun a => ((fzs r).run ⟨env, sto⟩).bind fun c => some (a.1 :: c.1, a.2 ++ c.2) := by
  simp only [fzs, run_bind, J09]; rfl
theorem Jh4 (env : List (Nat × AV)) (sto : List Blk) (b n : Nat) : (fz (.slr b 0 n)).run ⟨env, sto⟩ = sto[b]?.bind fun B => (frp b n B).bind fun x => some ([x.1], [x.2]) := JdC ..
theorem JiP (env : List (Nat × AV)) (sto : List Blk) (s : SK) (c : PV) (lo hi : Option AV) : (slR s (.p c) lo hi none).run ⟨env, sto⟩ = (slX s (.p c) lo hi).map fun v => ⟨v, []⟩ := by
  simp only [slR, slX]
  cases J2y s (.p c) lo hi none <;> rfl
theorem Jic (env : List (Nat × AV)) (sto : List Blk) (s : SK) (b n : Nat) (lo hi : Option AV) : (slR s (.slr b 0 n) lo hi none).run ⟨env, sto⟩ = sto[b]?.bind fun B => (frz b n B).bind fun x => (slX s x.1 lo hi).map fun v => ⟨v, [x.2]⟩ := by
  simp only [slR, run_bind, JdC]
  cases sto[b]? with
  | none => rfl
  | some B =>
    cases B with
    | arr w z rows =>
      simp only [Option.bind_some, frp, frz]
      split
      · simp only [Option.bind_some, slX]; cases J2y s (.p (.sl z rows)) lo hi none <;> rfl
      · rfl
    | _ => rfl
theorem JlN (n : Nat) (live : List Nat) (env : List (Nat × AV)) (sto : List Blk) : J2V n live ⟨env, sto⟩ = if sto.length = n then some ⟨restr live env, sto⟩ else (J4P n sto (restr live env)).bind fun e => (J1M n [] sto (sto.take n)).bind fun l => some ⟨e, l⟩ := by
  simp only [J2V]
  split
  · rfl
  · cases J4P n sto (restr live env) with
    | none => rfl
    | some e => cases J1M n [] sto (sto.take n) <;> rfl
theorem Jlo (m k : Nat) (sto : List Blk) (x : AV) (r : List (Nat × AV)) : J4P m sto ((k, x) :: r) = (fin m [] sto x).bind fun y => (J4P m sto r).bind fun l => some ((k, y) :: l) := by
  simp only [J4P]
  cases fin m [] sto x with
  | none => rfl
  | some y => cases J4P m sto r <;> rfl
theorem Jl0 (m : Nat) (ids : List Nat) (sto : List Blk) (x : Blk) (r : List Blk) : J1M m ids sto (x :: r) = (J2c m ids sto x).bind fun y => (J1M m ids sto r).bind fun l => some (y :: l) := by
  simp only [J1M]
  cases J2c m ids sto x with
  | none => rfl
  | some y => cases J1M m ids sto r <;> rfl
theorem Jku (m : Nat) (ids : List Nat) (sto : List Blk) (cs : List AV) : J2c m ids sto (.box cs) = (fin.finL m ids sto cs).map .box := by
  simp only [J2c]
  cases fin.finL m ids sto cs <;> rfl
theorem JlY (m : Nat) (ids : List Nat) (sto : List Blk) (x : AV) (r : List AV) : fin.finL m ids sto (x :: r) = (fin m ids sto x).bind fun y => (fin.finL m ids sto r).bind fun l => some (y :: l) := by
  simp only [fin.finL]
  cases fin m ids sto x with
  | none => rfl
  | some y => cases fin.finL m ids sto r <;> rfl
def fsl (k : Option Nat) (n : Nat) (B : Option Blk) : Option AV := match k with
  | some k => some (.slr k 0 n)
  | none => match B with
    | some (.arr _ z rows) => if n = rows.length then some (.p (.sl z rows)) else none
    | _ => none
theorem Jk5 (m : Nat) (ids : List Nat) (sto : List Blk) (b n : Nat) : fin m ids sto (.slr b 0 n) = if b < m then some (.slr b 0 n) else fsl (J4x b ids m) n sto[b]? := by
  simp only [fin]
  split
  · rfl
  · cases J4x b ids m with
    | some k => rfl
    | none =>
      simp only [fsl]
      cases sto[b]? with
      | none => rfl
      | some B => cases B <;> simp
theorem Jjv (m : Nat) (ids : List Nat) (sto : List Blk) (cs : List AV) : fin m ids sto (.agg cs) = (fin.finL m ids sto cs).bind fun l => some (JdS l (unp l)) := by
  simp only [fin]
  cases fin.finL m ids sto cs with
  | none => rfl
  | some l => simp only [Option.bind_some]; cases unp l <;> rfl
theorem JjE (m : Nat) (ids : List Nat) (sto : List Blk) (x : AV) (cs : List AV) : fin m ids sto (.tup (x :: cs)) = (fin.finL m ids sto (x :: cs)).map .tup := by
  simp only [fin]
  cases fin.finL m ids sto (x :: cs) <;> rfl
theorem JiI (env : List (Nat × AV)) (sto : List Blk) (t : Nat) (r : List J74) : (J38 (.tmp t :: r)).run ⟨env, sto⟩ = (lk t env).bind fun v => ((J38 r).run ⟨env, sto⟩).bind fun l => some (v :: l) := by
  simp only [J38, run_bind, JeN, J1f]
  cases lk t env <;> rfl
theorem JiL (env : List (Nat × AV)) (sto : List Blk) (t n : Nat) (g : Bool) (r : List J74) : (J38 (.cell t g n :: r)).run ⟨env, sto⟩ = (lk t env).bind fun v => ((J0T g n v).run ⟨env, sto⟩).bind fun e => ((J38 r).run ⟨env, sto⟩).bind fun l => some (e.val :: l) := by
  simp only [J38, run_bind, JeN, J1f]
  cases lk t env <;> rfl
def oid (b : Nat) (B : Option Blk) (l : List Nat) : List Nat := match B with
  | some (.box _) => b :: l
  | _ => l
theorem Jlu (m b : Nat) (sto : List Blk) (r : List Ent) : J0y m false sto (.whole b :: r) = if b < m then J0y m false sto r else oid b sto[b]? (J0y m false sto r) := by
  simp only [J0y]
  split
  · rfl
  · unfold oid
    cases sto[b]? with
    | none => rfl
    | some B => cases B <;> simp
def ebb (B : Option Blk) (acc : List Ent) : List Ent := match B with
  | some (.box cs) => JM.entsOfL cs acc
  | _ => acc
theorem Jls (sto : List Blk) (b : Nat) (r : List Ent) (acc : List Ent) : J4a sto (.whole b :: r) acc = J4a sto r (ebb sto[b]? acc) := by
  simp only [J4a, ebb]
  cases sto[b]? with
  | none => rfl
  | some B => cases B <;> rfl
theorem JlX (b c : Nat) (r : List Ent) : J4k (.whole b) (.whole c :: r) = if c = b then .whole c :: r else .whole c :: J4k (.whole b) r := by
  simp only [J4k, List.any_cons]
  by_cases h : c = b
  · subst h; simp
  · simp [h]
    split <;> simp_all
theorem Jlp (sto : List Blk) (b : Nat) (r : List Nat) : J3K sto (b :: r) = sto[b]?.bind fun x => (J3K sto r).bind fun l => some (x :: l) := by
  simp only [J3K]
  cases sto[b]? with
  | none => rfl
  | some x => cases J3K sto r <;> rfl
theorem Jiy {α : Type} (a : α) (cs : List α) (n : Nat) : sub (a :: cs) 0 (n + 1) = (sub cs 0 n).map (a :: ·) := by
  rw [J3S, J3S]
  by_cases h : n ≤ cs.length
  · rw [if_pos (by simp; omega), if_pos (by omega)]; simp
  · rw [if_neg (by simp; omega), if_neg (by omega)]; rfl
theorem JiZ {α : Type} (a : α) (cs : List α) (n m : Nat) : sub (a :: cs) (n + 1) m = sub cs n m := by
  rw [J3S, J3S]
  by_cases h : n + m ≤ cs.length
  · rw [if_pos (by simp; omega), if_pos h]; simp
  · rw [if_neg (by simp; omega), if_neg h]
theorem Jj0 {α : Type} (a b : α) (cs vs : List α) : spl (a :: cs) 0 (b :: vs) = (spl cs 0 vs).map (b :: ·) := by
  rw [J4q, J4q]
  by_cases h : vs.length ≤ cs.length
  · rw [if_pos (by simp; omega), if_pos (by omega)]; simp
  · rw [if_neg (by simp; omega), if_neg (by omega)]; rfl
theorem JhN {α : Type} (a : α) (cs : List α) (n : Nat) (vs : List α) : spl (a :: cs) (n + 1) vs = (spl cs n vs).map (a :: ·) := by
  rw [J4q, J4q]
  by_cases h : n + vs.length ≤ cs.length
  · rw [if_pos (by simp; omega), if_pos h]
    rw [show n + 1 + vs.length = (n + vs.length) + 1 by omega]; simp
  · rw [if_neg (by simp; omega), if_neg h]; rfl
theorem JiT (off size : Nat) (c : List AV) (a : AV) (cs : List AV) (r : List (Nat × Nat × List AV)) : J0w ((off, size, c) :: r) (a :: cs) = if c.length = size then (spl (a :: cs) off c).bind fun cs => J0w r cs else none := by
  simp only [J0w]
  split
  · cases spl (a :: cs) off c <;> rfl
  · rfl
theorem Jkj (m : Nat) (ids : List Nat) (sto : List Blk) (f : FuncId) (a c : List AV) : fin m ids sto (.fn f a c) = (fin.finL m ids sto a).bind fun a1 => (fin.finL m ids sto c).bind fun c1 => some (.fn f a1 c1) := by
  simp only [fin]
  cases fin.finL m ids sto a with
  | none => rfl
  | some a1 => cases fin.finL m ids sto c <;> rfl
def lwO (x y : Option Blk) : Option Blk := match x with
  | some x => some x
  | none => y
theorem JkW (b c : Nat) (x : Blk) (r : List (Nat × Blk)) : J1b b ((c, x) :: r) = lwO (J1b b r) (if c = b then some x else none) := by
  simp only [J1b]
  cases J1b b r <;> rfl
theorem JjC (env : List (Nat × AV)) (sto : List Blk) (b c : Nat) (x : Blk) (ws : List (Nat × Blk)) : (J5w ((c, x) :: ws) b).run ⟨env, sto⟩ = sto[b]?.bind fun y => some ((J1b b ((c, x) :: ws)).getD y) := by
  simp only [J5w, J3Y]
  cases sto[b]? with
  | none => rfl
  | some y => simp only [Option.bind_some]; cases J1b b ((c, x) :: ws) <;> rfl
@[congr] theorem Jmx {α : Type} {u u' : AV} {k : FuncId → List AV → List AV → Option α} (h : u = u') : cvg u k = cvg u' k := by rw [h]
theorem Jee (x : Opd) (s : St) : Ja ((ev x).reads s) = [] := by
  cases x with
  | t n => simp only [ev, RM.reads]; cases lk n s.env <;> rfl
  | c v => rfl
theorem JgF (a b : List Loc) : Ja (a ++ b) = Ja a ++ Ja b := by
  induction a with
  | nil => rfl
  | cons x r ih => cases x <;> simp [Ja, ih]
def rb {α β : Type} (m : Option α) (f : α → List β) : List β := match m with
  | some a => f a
  | none => []
theorem J1C {α β : Type} (m : RM α) (f : α → RM β) (s : St) : Ja ((m.bind f).reads s) = Ja (m.reads s) ++ rb (m.run s) fun a => Ja ((f a).reads s) := by
  rw [J5I, JgF]
  cases m.run s <;> rfl
theorem J9S {β : Type} (x : Opd) (f : AV → RM β) (s : St) : Ja (((ev x).bind f).reads s) = rb (evv x s.env) fun a => Ja ((f a).reads s) := by
  rw [J1C, Jee, J09]; rfl
theorem J9A (o : Option AV) (s : St) : Ja ((Go.Am.val o).reads s) = [] := by cases o <;> rfl
section
variable (F : Orc) (new : Nat) (env : List (Nat × AV)) (sto : List Blk)
theorem J8j {op : AOp} (h : Ju op = 0) (s : St) : rdO F op new s = Ja ((opR F op new).reads s) := by
  unfold rdO opD
  rw [J1C, h]; rfl
def is1 (b : Option Blk) : Option Unit := match b with
  | some .dead => some ()
  | _ => none
theorem Jgf {op : AOp} (h : Ju op = 1) (s : St) : rdO F op new s = new :: rb (is1 s.sto[new]?) fun _ => Ja ((opR F op new).reads s) := by
  unfold rdO opD
  rw [J1C, h]
  simp only [J3A, RM.reads, RM.run, Ja]
  cases s.sto[new]? with
  | none => rfl
  | some b => cases b <;> rfl
end
theorem Jlc {α β : Type} (m : Option α) : (rb m fun _ => ([] : List β)) = [] := by cases m <;> rfl
theorem Jke (F : Orc) (new : Nat) (env : List (Nat × AV)) (sto : List Blk) (g : Bool) (n : Nat) (x : Opd) : rdO F (.load g n x) new ⟨env, sto⟩ = rb (evv x env) fun a => Ja ((J0T g n a).reads ⟨env, sto⟩) := by
  rw [J8j (h := rfl)]; exact J9S ..
theorem JjZ (s : St) (g : Bool) (n b o : Nat) : Ja ((J0T g n (.ptr b o)).reads s) = [b] := by
  simp only [J0T, RM.reads, Ja]
  cases s.sto[b]? with
  | none => rfl
  | some B =>
    cases B with
    | box cs => simp only []; cases sub cs o n with
      | none => rfl
      | some l => simp only [J9A]
    | _ => rfl
theorem Jl2 (s : St) (g : Bool) (n o : Nat) (cs : List PV) : Ja ((J0T g n (.cp cs o)).reads s) = [] := by
  simp only [J0T]
  cases sub cs o n with
  | none => rfl
  | some l => exact J9A ..
theorem JlU (s : St) (g : Bool) (n b e i o : Nat) : Ja ((J0T g n (.ep b e i o)).reads s) = [b] := by
  simp only [J0T, RM.reads, Ja]
  cases s.sto[b]? with
  | none => rfl
  | some B =>
    cases B with
    | arr w z rows =>
      simp only []
      split
      · cases rows[i]? with
        | none => rfl
        | some row =>
          simp only []
          cases sub row o n with
          | none => rfl
          | some l => simp only [J9A]
      · rfl
    | _ => rfl
theorem JhK (F : Orc) (new : Nat) (s : St) (z : List PV) : rdO F (.newbox z) new s = [new] := by
  rw [Jgf (h := rfl)]; simp only [opR, RM.reads, Ja, Jlc]
theorem JiR (F : Orc) (new : Nat) (env : List (Nat × AV)) (sto : List Blk) (n : Nat) (x y : Opd) : rdO F (.store n x y) new ⟨env, sto⟩ = rb (evv x env) fun a => rb (evv y env) fun c => Ja ((J0G n a c).reads ⟨env, sto⟩) := by
  rw [J8j (h := rfl)]
  simp only [opR, J9S]
theorem JkN (s : St) (n b o : Nat) (v : AV) : Ja ((J0G n (.ptr b o) v).reads s) = [b] := by
  simp only [J0G, RM.reads, Ja]
  cases s.sto[b]? with
  | none => rfl
  | some B =>
    cases B with
    | box cs =>
      simp only []
      cases cellsOf v with
      | none => rfl
      | some l =>
        simp only []
        split
        · cases spl cs o l <;> rfl
        · rfl
    | _ => rfl
theorem Jhg (s : St) (n b e i o : Nat) {v : AV} {c : List PV} (hv : fz v = .ret (c, [])) : Ja ((J0G n (.ep b e i o) v).reads s) = [b] := by
  simp only [J0G, RM.reads, Ja]
  cases s.sto[b]? with
  | none => rfl
  | some B =>
    cases B with
    | arr w z rows =>
      cases w with
      | false => rfl
      | true =>
        simp only []
        split
        · cases rows[i]? with
          | none => rfl
          | some row =>
            simp only [hv, J1C, RM.reads, Ja, J1f, rb, List.nil_append]
            split
            · cases spl row o c <;> rfl
            · rfl
        · rfl
    | _ => rfl
theorem Jjn (s : St) (n b e i o : Nat) (c : PV) : Ja ((J0G n (.ep b e i o) (.p c)).reads s) = [b] := Jhg s n b e i o rfl
theorem JiM (s : St) (n b e i o : Nat) (c : List PV) : Ja ((J0G n (.ep b e i o) (.data c)).reads s) = [b] := Jhg s n b e i o rfl
theorem J9o (s : St) : ∀ args, Ja ((evs args).reads s) = []
  | [] => rfl
  | x :: r => by
    simp only [evs, J9S]
    cases evv x s.env with
    | none => rfl
    | some v =>
      simp only [rb, J1C, J9o s r, List.nil_append]
      cases (evs r).run s <;> rfl
theorem Jbd (F : Orc) (g : FuncId) (args : List Opd) (n new : Nat) (s : St) : Ja ((opR F (.call g args n) new).reads s) = rb ((evs args).run s) fun a => Ja ((Jq a).reads s) ++ rb ((Jq a).run s) fun a => Ja ((Jy F g a n new).reads s) := by
  simp only [opR, J1C, J9o, List.nil_append, J6O]
theorem JiO (F : Orc) (new : Nat) (s : St) (g : FuncId) (args : List Opd) : rdO F (.call g args 0) new s = rb ((evs args).run s) fun a => Ja ((Jq a).reads s) ++ rb ((Jq a).run s) fun a => Ja ((Jy F g a 0 new).reads s) := by
  rw [J8j (h := rfl)]; exact Jbd ..
theorem Jji (F : Orc) (new : Nat) (s : St) (g : FuncId) (args : List Opd) : rdO F (.call g args 1) new s = new :: rb (is1 s.sto[new]?) fun _ => rb ((evs args).run s) fun a => Ja ((Jq a).reads s) ++ rb ((Jq a).run s) fun a => Ja ((Jy F g a 1 new).reads s) := by
  rw [Jgf (h := rfl)]; simp only [Jbd]
theorem J6V (s : St) {v : AV} (h : J4g v = .ret (v, [])) (r : List AV) : Ja ((Jq (v :: r)).reads s) = Ja ((Jq r).reads s) := by
  simp only [Jq, h, J1C, RM.reads, Ja, J1f, rb, List.nil_append]
  cases (Jq r).run s <;> simp [RM.reads, Ja]
theorem J90 (s : St) (b n : Nat) : Ja ((fz (.slr b 0 n)).reads s) = [b] := by
  simp only [fz, RM.reads, Ja]
  cases s.sto[b]? with
  | none => rfl
  | some B =>
    cases B with
    | arr w z rows => simp only []; split <;> rfl
    | _ => rfl
theorem JjL (s : St) (b n : Nat) (r : List AV) : Ja ((Jq (.slr b 0 n :: r)).reads s) = b :: rb ((J4g (.slr b 0 n)).run s) fun _ => Ja ((Jq r).reads s) := by
  have h1 : Ja ((J4g (.slr b 0 n)).reads s) = [b] := by
    simp only [J4g, J1C, J90]
    cases (fz (.slr b 0 n)).run s with
    | none => rfl
    | some a =>
      simp only [rb]
      match a.1 with
      | [] => rfl
      | [_] => rfl
      | _ :: _ :: _ => rfl
  simp only [Jq, J1C, h1]
  cases (J4g (.slr b 0 n)).run s with
  | none => rfl
  | some a => simp only [rb]; cases (Jq r).run s <;> simp [RM.reads, Ja]
theorem J0F {F : Orc} {f : FuncId} {args : List AV} (hp : args.all J2B = true) (ws : List (Nat × Blk)) (k new : Nat) (s : St) : Ja ((Jy F f (args, ws) k new).reads s) = [] := by
  have e1 : JM.entsOfL args [] = [] := J4Z hp
  simp only [Jy, e1, J5r, J1C, RM.reads, Ja, J1f, rb, List.nil_append, List.map_nil, J2N, if_true, J6q hp, J3W]
  cases F f args [] with
  | none => rfl
  | some r =>
    simp only []
    split
    · simp only [List.length_nil, List.drop_zero]
      cases bk [] new r.1 with
      | none => rfl
      | some v =>
        cases J2G [] new new r.2 with
        | none => rfl
        | some fr => simp only [J32, J1C, RM.reads, Ja, J1f, rb, List.nil_append]
    · rfl
def cvl {α : Type} (u : AV) (k : FuncId → List AV → List AV → List α) : List α := match u with
  | .fn f a c => k f a c
  | _ => []
theorem JgP (F : Orc) (new : Nat) (env : List (Nat × AV)) (sto : List Blk) (g : Opd) (args : List Opd) : rdO F (.callv g args 0) new ⟨env, sto⟩ = rb (evv g env) fun u => cvl u fun h a1 c1 => rb ((evs args).run ⟨env, sto⟩) fun a => Ja ((Jq (a1 ++ a ++ c1)).reads ⟨env, sto⟩) ++ rb ((Jq (a1 ++ a ++ c1)).run ⟨env, sto⟩) fun a => Ja ((Jy F h a 0 new).reads ⟨env, sto⟩) := by
  rw [J8j (h := rfl)]
  simp only [opR, J1C, Jee, J09, List.nil_append]
  cases evv g env with
  | none => rfl
  | some u =>
    simp only [rb]
    cases u <;> first | rfl | skip
    simp only [cvl, J1C, J9o, List.nil_append]
    cases (evs args).run ⟨env, sto⟩ with
    | none => rfl
    | some a => simp only [rb, J6O, J1C]
theorem JcF (s : St) (o : Bool) (e n new : Nat) (z : List PV) (ps : List (Nat × Opd)) : Ja ((ltR o e n z ps new).reads s) = Ja ((fzs (ps.map (·.2))).reads s) := by
  simp only [ltR, J1C]
  cases (fzs (ps.map (·.2))).run s with
  | none => simp [rb]
  | some a =>
    simp only [rb]
    cases J1Y e ((ps.map (·.1)).zip a.1) (List.replicate n z) with
    | none => simp [RM.reads, Ja]
    | some rows => cases o <;> simp [RM.reads, Ja]
theorem Jjl (F : Orc) (new : Nat) (s : St) (e n : Nat) (z : List PV) (ps : List (Nat × Opd)) : rdO F (.lits false e n z ps) new s = Ja ((fzs (ps.map (·.2))).reads s) := by
  rw [J8j (h := rfl)]; exact JcF ..
theorem Jit (F : Orc) (new : Nat) (s : St) (e n : Nat) (z : List PV) (ps : List (Nat × Opd)) : rdO F (.lits true e n z ps) new s = new :: rb (is1 s.sto[new]?) fun _ => Ja ((fzs (ps.map (·.2))).reads s) := by
  rw [Jgf (h := rfl)]
  congr 2; funext _
  exact JcF ..
theorem Jlt (s : St) (x : Opd) (r : List Opd) : Ja ((fzs (x :: r)).reads s) = rb (evv x s.env) fun v => Ja ((fz v).reads s) ++ rb ((fz v).run s) fun _ => Ja ((fzs r).reads s) := by
  have e0 : fzs (x :: r) = (ev x).bind fun v => (fz v).bind fun a => (fzs r).bind fun c => .ret (a.1 :: c.1, a.2 ++ c.2) := rfl
  rw [e0, J9S]
  cases evv x s.env with
  | none => rfl
  | some v =>
    dsimp only [rb]
    rw [J1C]
    cases (fz v).run s with
    | none => rfl
    | some a =>
      dsimp only [rb]
      rw [J1C]
      cases (fzs r).run s <;> simp [rb, RM.reads, Ja]
theorem JiK (F : Orc) (new : Nat) (s : St) (x : Opd) : rdO F (.conv .toStr x) new s = rb (evv x s.env) fun a => Ja ((JY 1 a).reads s) := by
  rw [J8j (h := rfl)]
  simp only [opR, J9S]
  congr 1; funext a
  simp only [J1C]
  cases (JY 1 a).run s with
  | none => simp [rb]
  | some rows => simp only [rb]; cases J34 rows <;> simp [RM.reads, Ja]
theorem Jht (s : St) (e b n : Nat) : Ja ((JY e (.slr b 0 n)).reads s) = [b] := by
  simp only [JY, RM.reads, Ja]
  cases s.sto[b]? with
  | none => rfl
  | some B =>
    cases B with
    | arr w z rows => simp only []; split <;> rfl
    | _ => rfl
theorem JiW (s : St) (e z : Nat) (rows : List (List PV)) : Ja ((JY e (.p (.sl z rows))).reads s) = [] := by
  simp only [JY]; split <;> rfl
theorem Jj7 (F : Orc) (new : Nat) (s : St) (e : Nat) (x i : Opd) : rdO F (.iaddr e x i) new s = rb (evv x s.env) fun a => rb (evv i s.env) fun c => Ja ((J1v e a c).reads s) := by
  rw [J8j (h := rfl)]; simp only [opR, J9S]
theorem Jhk (s : St) (e b n : Nat) (k : IntKind) (i : Int) : Ja ((J1v e (.slr b 0 n) (.p (.i k i))).reads s) = [b] := by
  simp only [J1v, RM.reads, Ja]
  cases s.sto[b]? with
  | none => rfl
  | some B =>
    cases B with
    | arr w z rows => simp only []; split <;> rfl
    | _ => rfl
theorem JhS (s : St) (e z : Nat) (rows : List (List PV)) (k : IntKind) (i : Int) : Ja ((J1v e (.p (.sl z rows)) (.p (.i k i))).reads s) = [] := by
  simp only [J1v]
  split
  · cases J6D rows i <;> rfl
  · rfl
theorem JmR (env : List (Nat × AV)) (sto : List Blk) (l : List Int) (new : Nat) : (cvR .toStr (.p (.sl 1 (l.map (r_i .u8)))) new).run ⟨env, sto⟩ = some ⟨.p (.s (toStr l)), []⟩ := JhU ..
theorem Jmm (n : Nat) (w : Bool) (l : List Int) : cvB n (.arr w 1 (l.map (r_i .u8))) = if n = l.length then some ⟨.p (.s (toStr l)), []⟩ else none := Jkn ..
theorem fr (b n z : Nat) (w : Bool) (rows : List (List PV)) : frz b n (.arr w z rows) = if n = rows.length then some (.p (.sl z rows), (b, .arr false z rows)) else none := rfl
theorem mk (o : Bool) (e b new : Nat) (z : List PV) (k k2 : IntKind) (n m : Int) : mkP o e b z (.p (.i k n)) (.p (.i k2 m)) new = if 0 ≤ n ∧ n ≤ m ∧ b * m ≤ 281474976710656 ∧ m ≤ 281474976710656 then some (if o then ⟨.slr new 0 n.toNat, [(new, .arr true e (List.replicate n.toNat z))]⟩ else ⟨.p (.sl e (List.replicate n.toNat z)), []⟩) else none := rfl
theorem cl (n : Nat) (live : List Nat) (env : List (Nat × AV)) (sto : List Blk) : J2V n live ⟨env, sto⟩ = if sto.length = n then some ⟨restr live env, sto⟩ else (J4P n sto (restr live env)).bind fun e => (J1M n [] sto (sto.take n)).bind fun l => some ⟨e, l⟩ := JlN ..
theorem Jlk {α : Type} (l : List α) : [] ++ l = l := rfl
theorem Jl3 {α : Type} (l : List α) : l ++ [] = l := List.append_nil l
theorem JlZ {α : Type} (a : α) (l r : List α) : (a :: l) ++ r = a :: (l ++ r) := rfl
theorem Jl6 {α β : Type} (g : α → β) : List.map g [] = [] := rfl
theorem Jm1 {α β : Type} (g : α → β) (a : α) (l : List α) : List.map g (a :: l) = g a :: List.map g l := rfl
theorem JlK {α : Type} : ([] : List α).length = 0 := rfl
theorem JkX {α : Type} (a : α) (l : List α) : (a :: l).length = l.length + 1 := rfl
theorem Jlz (k : IntKind) (n : Int) : r_i k n = [.i k n] := rfl
theorem Jla (x : Bool) : r_b x = [.b x] := rfl
theorem Jjq (x : List UInt8) : r_s x = [.s x] := rfl
theorem Jm2 {α : Type} (e : Nat) (g : α → List PV) (l : List α) : Jcq e g l = [.sl e (l.map g)] := rfl
theorem s1 (a : PV) : sub [a] 0 1 = some [a] := rfl
set_option maxRecDepth 30000 in
theorem Da : (∀ T f m k s, rk T f m k (X T .skip s) = rk T f m k (some (.normal, s))) ∧
  (∀ T f m k a b s, rk T f m k (X T (.seq a b) s) = rk T f m (.sq b :: k) (X T a s)) ∧
  (∀ T f m k d ins env sto, rk T f m k (X T (.reg d [] ins) ⟨env, sto⟩) = rk T f m k (Ji7 (Jg (AF T) ins sto.length ⟨env, room (news ins) sto⟩ none))) ∧
  (∀ T f m k d q ps ins env sto, rk T f m k (X T (.reg d (q :: ps) ins) ⟨env, sto⟩) = rk T f m k (Jgc (q :: ps) (Jg (AF T) ins sto.length ⟨env, room (news ins) sto⟩ (some [])))) ∧
  (∀ T f m k i c s, rk T f m k (X T (.block i c) s) = rk T f m (.bl i :: k) (X T c s)) ∧
  (∀ T f m k c s, rk T f m k (X T (.scope c) s) = rk T f m k (X T c s)) ∧
  (∀ T f m k i s, rk T f m k (X T (.exit i) s) = rk T f m k (some (.exit i, s))) ∧
  (∀ T f m k s, rk T f m k (X T .ret s) = rk T f m k (some (.ret, s))) ∧
  (∀ T f m k live c env sto, rk T f m k (X T (.keep live c) ⟨env, sto⟩) = rk T f m k (X T c ⟨restr live env, sto⟩)) ∧
  (∀ T f m k live c env sto, rk T f m k (X T (.tidy live c) ⟨env, sto⟩) = rk T f m (.td sto.length live :: k) (X T c ⟨env, sto⟩)) ∧
  (∀ T f m k live c env sto, rk T f m k (X T (.loop live c) ⟨env, sto⟩) = rk T f m k (X T (.lp sto.length live c) ⟨restr live env, sto⟩)) ∧
  (∀ T f m k x a b env sto, rk T f m k (X T (.cond x a b) ⟨env, sto⟩) = rk T f m k (cnd (evv x env) (J48 (X T a ⟨env, sto⟩) (.mk _)) (J48 (X T b ⟨env, sto⟩) (.mk _)) (J48 (fun _ => same (X T a ⟨env, sto⟩) (X T b ⟨env, sto⟩)) (.mk _)))) ∧
  (∀ a b h c, cnd (some (.p (.b true))) (J48 a h) b c = a) ∧
  (∀ a b h c, cnd (some (.p (.b false))) a (J48 b h) c = b) ∧
  (∀ T f m k b s, rk T f m (.sq b :: k) (some (.normal, s)) = rk T f m k (X T b s)) ∧
  (∀ T f m k b i s, rk T f m (.sq b :: k) (some (.exit i, s)) = rk T f m k (some (.exit i, s))) ∧
  (∀ T f m k b s, rk T f m (.sq b :: k) (some (.ret, s)) = rk T f m k (some (.ret, s))) ∧
  (∀ T f m k i s, rk T f m (.bl i :: k) (some (.normal, s)) = rk T f m k (some (.normal, s))) ∧
  (∀ T f m k i j s, rk T f m (.bl i :: k) (some (.exit j, s)) = if j = i then rk T f m k (some (.normal, s)) else rk T f m k (some (.exit j, s))) ∧
  (∀ T f m k i s, rk T f m (.bl i :: k) (some (.ret, s)) = rk T f m k (some (.ret, s))) ∧
  (∀ T f m k n live e s, rk T f m (.td n live :: k) (some (e, s)) = rk T f m k (tdn e (J2V n live s))) ∧
  (∀ e s, tdn e (some s) = some (e, s)) ∧
  (∀ T f m k n live c s, rk T f m (.lo n live c :: k) (some (.normal, s)) = rk T f m k (again T n live c (J2V n live s))) ∧
  (∀ T n live c s, again T n live c (some s) = X T (.lp n live c) s) ∧
  (∀ T f m k n live c i s, rk T f m (.lo n live c :: k) (some (.exit i, s)) = rk T f m k (some (.exit i, s))) ∧
  (∀ T f m k n live c s, rk T f m (.lo n live c :: k) (some (.ret, s)) = rk T f m k (some (.ret, s))) ∧
  (∀ T f m s, rk T f m [] (some (.normal, s)) = JaC f.res f.fresh m s) ∧
  (∀ T f m s, rk T f m [] (some (.ret, s)) = JaC f.res f.fresh m s) ∧
  (∀ s l, Ji7 (some (s, l)) = some (.normal, s)) ∧
  (∀ s l ps, Jgc ps (some (s, some l)) = if J54 l ps = true then some (.normal, s) else none) ∧
  (∀ l, J54 l [] = true) ∧
  (∀ l i j ps, J54 l ((i, j) :: ps) = (pkk l[i]? l[j]? && J54 l ps)) ∧
  (∀ a b, lgA none a b = none) ∧
  (∀ l a b, lgA (some l) a b = some (l ++ [(a, b)])) ∧
  (∀ {α : Type} (a : α) (l : List α), (a :: l)[0]? = some a) ∧
  (∀ {α : Type} (a : α) (l : List α) (n : Nat), (a :: l)[n + 1]? = l[n]?) ∧
  (∀ F new s lg, Jg F [] new s lg = some (s, lg)) ∧
  (∀ F r new env sto lg d x, Jg F (⟨.mv x, some d, none⟩ :: r) new ⟨env, sto⟩ lg = (evv x env).bind fun v => Jg F r new ⟨(d, v) :: env, sto⟩ (lgA lg (rdO F (.mv x) new ⟨env, sto⟩) [])) ∧
  (∀ F r new env sto lg d c a b, Jg F (⟨.pick c a b, some d, none⟩ :: r) new ⟨env, sto⟩ lg = (evv c env).bind fun u => pkh u (evv a env) (evv b env) (J48 (fun v => Jg F r new ⟨(d, v) :: env, sto⟩ (lgA lg (rdO F (.pick c a b) new ⟨env, sto⟩) [])) (.mk _))) ∧
  (∀ F r new env sto lg d op t x y, Jg F (⟨.bin op t x y, some d, none⟩ :: r) new ⟨env, sto⟩ lg = (evv x env).bind fun a => (evv y env).bind fun c => (J08 op t a c).bind fun v => Jg F r new ⟨(d, v) :: env, sto⟩ (lgA lg (rdO F (.bin op t x y) new ⟨env, sto⟩) [])) ∧
  (∀ F r new env sto lg d op x, Jg F (⟨.un op x, some d, none⟩ :: r) new ⟨env, sto⟩ lg = (evv x env).bind fun a => (unP op a).bind fun v => Jg F r new ⟨(d, v) :: env, sto⟩ (lgA lg (rdO F (.un op x) new ⟨env, sto⟩) [])) ∧
  (∀ F r new env sto lg d g off n x, Jg F (⟨.field g off n x, some d, none⟩ :: r) new ⟨env, sto⟩ lg = (evv x env).bind fun a => (J2Q g off n a).bind fun v => Jg F r new ⟨(d, v) :: env, sto⟩ (lgA lg (rdO F (.field g off n x) new ⟨env, sto⟩) [])) ∧
  (∀ F r new env sto lg d off x, Jg F (⟨.faddr off x, some d, none⟩ :: r) new ⟨env, sto⟩ lg = (evv x env).bind fun a => (J6o off a).bind fun v => Jg F r new ⟨(d, v) :: env, sto⟩ (lgA lg (rdO F (.faddr off x) new ⟨env, sto⟩) [])) ∧
  (∀ F r new env sto lg d x i, Jg F (⟨.extr x i, some d, none⟩ :: r) new ⟨env, sto⟩ lg = (evv x env).bind fun a => (J9H i a).bind fun v => Jg F r new ⟨(d, v) :: env, sto⟩ (lgA lg (rdO F (.extr x i) new ⟨env, sto⟩) [])) ∧
  (∀ F r new env sto lg d b x, Jg F (⟨.len b x, some d, none⟩ :: r) new ⟨env, sto⟩ lg = (evv x env).bind fun a => (J9k b a).bind fun v => Jg F r new ⟨(d, v) :: env, sto⟩ (lgA lg (rdO F (.len b x) new ⟨env, sto⟩) [])) ∧
  (∀ F r new env sto lg d n, Jg F (⟨.alen n, some d, none⟩ :: r) new ⟨env, sto⟩ lg = Jg F r new ⟨(d, .p (.i .i64 n)) :: env, sto⟩ (lgA lg (rdO F (.alen n) new ⟨env, sto⟩) [])) ∧
  (∀ F r new env sto lg d b x y, Jg F (⟨.mm b x y, some d, none⟩ :: r) new ⟨env, sto⟩ lg = (evv x env).bind fun a => (evv y env).bind fun c => (mmP b a c).bind fun v => Jg F r new ⟨(d, v) :: env, sto⟩ (lgA lg (rdO F (.mm b x y) new ⟨env, sto⟩) [])) ∧
  (∀ F r new env sto lg d n e x i, Jg F (⟨.aaddr n e x i, some d, none⟩ :: r) new ⟨env, sto⟩ lg = (evv x env).bind fun a => (evv i env).bind fun c => (J6p n e a c).bind fun v => Jg F r new ⟨(d, v) :: env, sto⟩ (lgA lg (rdO F (.aaddr n e x i) new ⟨env, sto⟩) [])) ∧
  (∀ F r new env sto lg d e x i, Jg F (⟨.iaddr e x i, some d, none⟩ :: r) new ⟨env, sto⟩ lg = (evv x env).bind fun a => (evv i env).bind fun c => ((J1v e a c).run ⟨env, sto⟩).bind fun q => Jg F r new ⟨(d, q.val) :: env, upd q.ws sto⟩ (lgA lg (rdO F (.iaddr e x i) new ⟨env, sto⟩) (q.ws.map (·.1)))) ∧
  (∀ F r new env sto lg d x i, Jg F (⟨.sidx x i, some d, none⟩ :: r) new ⟨env, sto⟩ lg = (evv x env).bind fun a => (evv i env).bind fun c => (Jcw a c).bind fun v => Jg F r new ⟨(d, v) :: env, sto⟩ (lgA lg (rdO F (.sidx x i) new ⟨env, sto⟩) [])) ∧
  (∀ F r new env sto lg d g n e x i, Jg F (⟨.aidx g n e x i, some d, none⟩ :: r) new ⟨env, sto⟩ lg = (evv x env).bind fun a => (evv i env).bind fun c => (JaF g n e a c).bind fun v => Jg F r new ⟨(d, v) :: env, sto⟩ (lgA lg (rdO F (.aidx g n e x i) new ⟨env, sto⟩) [])) ∧
  (∀ F r new env sto lg d x, Jg F (⟨.nilchk x, some d, none⟩ :: r) new ⟨env, sto⟩ lg = (evv x env).bind fun a => (Jel a).bind fun v => Jg F r new ⟨(d, v) :: env, sto⟩ (lgA lg (rdO F (.nilchk x) new ⟨env, sto⟩) [])) ∧
  (∀ F r new env sto lg d g n x, Jg F (⟨.load g n x, some d, none⟩ :: r) new ⟨env, sto⟩ lg = (evv x env).bind fun a => ((J0T g n a).run ⟨env, sto⟩).bind fun q => Jg F r new ⟨(d, q.val) :: env, upd q.ws sto⟩ (lgA lg (rdO F (.load g n x) new ⟨env, sto⟩) (q.ws.map (·.1)))) ∧
  (∀ F r new env sto lg n x y, Jg F (⟨.store n x y, none, none⟩ :: r) new ⟨env, sto⟩ lg = (evv x env).bind fun a => (evv y env).bind fun c => ((J0G n a c).run ⟨env, sto⟩).bind fun q => Jg F r new ⟨env, upd q.ws sto⟩ (lgA lg (rdO F (.store n x y) new ⟨env, sto⟩) (q.ws.map (·.1)))) ∧
  (∀ F r new env sto lg d c x, Jg F (⟨.conv c x, some d, none⟩ :: r) new ⟨env, sto⟩ lg = (evv x env).bind fun a => dds (Ju (.conv c x)) new sto (((cvR c a new).run ⟨env, sto⟩).bind fun e => Jg F r (new + Ju (.conv c x)) ⟨(d, e.val) :: env, upd e.ws sto⟩ (lgA lg (rdO F (.conv c x) new ⟨env, sto⟩) (e.ws.map (·.1))))) ∧
  (∀ F r new env sto lg d z ps, Jg F (⟨.build z ps, some d, none⟩ :: r) new ⟨env, sto⟩ lg = ((J1a ps).run ⟨env, sto⟩).bind fun l => (J0w l (z.map .p)).bind fun cs => (J0J true cs).bind fun v => Jg F r new ⟨(d, v) :: env, sto⟩ (lgA lg (rdO F (.build z ps) new ⟨env, sto⟩) [])) ∧
  (∀ F r new env sto lg d s x lo hi mx, Jg F (⟨.slice s x lo hi mx, some d, none⟩ :: r) new ⟨env, sto⟩ lg = (evv x env).bind fun a => (J58 lo env).bind fun lo1 => (J58 hi env).bind fun hi1 => (J58 mx env).bind fun mx1 => ((slR s a lo1 hi1 mx1).run ⟨env, sto⟩).bind fun q => Jg F r new ⟨(d, q.val) :: env, upd q.ws sto⟩ (lgA lg (rdO F (.slice s x lo hi mx) new ⟨env, sto⟩) (q.ws.map (·.1)))) ∧
  (∀ F r new env sto lg d e b z x y, Jg F (⟨.app e b z x y, some d, none⟩ :: r) new ⟨env, sto⟩ lg = (evv x env).bind fun a => (evv y env).bind fun c => ((J5t e b a c).run ⟨env, sto⟩).bind fun q => Jg F r new ⟨(d, q.val) :: env, upd q.ws sto⟩ (lgA lg (rdO F (.app e b z x y) new ⟨env, sto⟩) (q.ws.map (·.1)))) ∧
  (∀ F r new env sto lg d e b z x y, Jg F (⟨.appz e b z x y, some d, none⟩ :: r) new ⟨env, sto⟩ lg = (evv x env).bind fun a => (evv y env).bind fun c => (zrs e z c).bind fun c1 => ((J5t e b a c1).run ⟨env, sto⟩).bind fun q => Jg F r new ⟨(d, q.val) :: env, upd q.ws sto⟩ (lgA lg (rdO F (.appz e b z x y) new ⟨env, sto⟩) (q.ws.map (·.1)))) ∧
  (∀ F r new env sto lg d g a c, Jg F (⟨.mkfn g a c, some d, none⟩ :: r) new ⟨env, sto⟩ lg = ((evs a).run ⟨env, sto⟩).bind fun a1 => ((evs c).run ⟨env, sto⟩).bind fun c1 => Jg F r new ⟨(d, .fn g a1 c1) :: env, sto⟩ (lgA lg (rdO F (.mkfn g a c) new ⟨env, sto⟩) [])) ∧
  (∀ F r new env sto lg d g args n, Jg F (⟨.callv g args n, some d, none⟩ :: r) new ⟨env, sto⟩ lg = (evv g env).bind fun u => cvg u fun h a1 c1 => dds n new sto (((evs args).run ⟨env, sto⟩).bind fun a => ((Jq (a1 ++ a ++ c1)).run ⟨env, sto⟩).bind fun a => ((Jy F h a n new).run ⟨env, sto⟩).bind fun q => Jg F r (new + n) ⟨(d, q.val) :: env, upd q.ws sto⟩ (lgA lg (rdO F (.callv g args n) new ⟨env, sto⟩) (q.ws.map (·.1))))) ∧
  (∀ F r new env sto lg g args n, Jg F (⟨.callv g args n, none, none⟩ :: r) new ⟨env, sto⟩ lg = (evv g env).bind fun u => cvg u fun h a1 c1 => dds n new sto (((evs args).run ⟨env, sto⟩).bind fun a => ((Jq (a1 ++ a ++ c1)).run ⟨env, sto⟩).bind fun a => ((Jy F h a n new).run ⟨env, sto⟩).bind fun q => Jg F r (new + n) ⟨env, upd q.ws sto⟩ (lgA lg (rdO F (.callv g args n) new ⟨env, sto⟩) (q.ws.map (·.1))))) ∧
  (∀ {α : Type} (f : FuncId) (a c : List AV) (k : FuncId → List AV → List AV → Option α), cvg (.fn f a c) k = k f a c) ∧
  (∀ F r new env sto lg d e b z y, Jg F (⟨.appn e b z y, some d, none⟩ :: r) new ⟨env, sto⟩ lg = (evv y env).bind fun c => ((JY e c).run ⟨env, sto⟩).bind fun rows => if J4Y rows.length b = true then dds 1 new sto (Jg F r (new + 1) ⟨(d, .slr new 0 rows.length) :: env, sto.set new (.arr true e rows)⟩ (lgA lg (rdO F (.appn e b z y) new ⟨env, sto⟩) [new])) else none) ∧
  (∀ F r new env sto lg d e b z x y, Jg F (⟨.appc e b z x y, some d, none⟩ :: r) new ⟨env, sto⟩ lg = (evv x env).bind fun a => (evv y env).bind fun c => ((JY e c).run ⟨env, sto⟩).bind fun add => (JaY e b a add).bind fun rows => dds 1 new sto (Jg F r (new + 1) ⟨(d, .slr new 0 rows.length) :: env, sto.set new (.arr true e rows)⟩ (lgA lg (rdO F (.appc e b z x y) new ⟨env, sto⟩) [new]))) ∧
  (∀ F r new env sto lg d z, Jg F (⟨.newbox z, some d, none⟩ :: r) new ⟨env, sto⟩ lg = dds 1 new sto (Jg F r (new + 1) ⟨(d, .ptr new 0) :: env, sto.set new (.box (z.map .p))⟩ (lgA lg (rdO F (.newbox z) new ⟨env, sto⟩) [new]))) ∧
  (∀ F r new env sto lg d e x, Jg F (⟨.mkarr e x, some d, none⟩ :: r) new ⟨env, sto⟩ lg = dds 1 new sto (Jg F r (new + 1) ⟨(d, .slr new 0 0) :: env, sto.set new (.arr true e [])⟩ (lgA lg (rdO F (.mkarr e x) new ⟨env, sto⟩) [new]))) ∧
  (∀ F r new env sto lg d n x, Jg F (⟨.box n x, some d, none⟩ :: r) new ⟨env, sto⟩ lg = (evv x env).bind fun a => (bxP n a).bind fun cs => dds 1 new sto (Jg F r (new + 1) ⟨(d, .ptr new 0) :: env, sto.set new (.box cs)⟩ (lgA lg (rdO F (.box n x) new ⟨env, sto⟩) [new]))) ∧
  (∀ F r new env sto lg d o e n z ps, Jg F (⟨.lits o e n z ps, some d, none⟩ :: r) new ⟨env, sto⟩ lg = dds (if o then 1 else 0) new sto (((ltR o e n z ps new).run ⟨env, sto⟩).bind fun x => Jg F r (new + if o then 1 else 0) ⟨(d, x.val) :: env, upd x.ws sto⟩ (lgA lg (rdO F (.lits o e n z ps) new ⟨env, sto⟩) (x.ws.map (·.1))))) ∧
  (∀ F r new env sto lg d o e b z l c, Jg F (⟨.mkslice o e b z l c, some d, none⟩ :: r) new ⟨env, sto⟩ lg = (evv l env).bind fun a => (evv c env).bind fun x => dds (if o then 1 else 0) new sto ((mkP o e b z a x new).bind fun x => Jg F r (new + if o then 1 else 0) ⟨(d, x.val) :: env, upd x.ws sto⟩ (lgA lg (rdO F (.mkslice o e b z l c) new ⟨env, sto⟩) (x.ws.map (·.1))))) ∧
  (∀ F r new env sto lg d g args n, Jg F (⟨.call g args n, some d, none⟩ :: r) new ⟨env, sto⟩ lg = dds n new sto (((evs args).run ⟨env, sto⟩).bind fun a => ((Jq a).run ⟨env, sto⟩).bind fun a => ((Jy F g a n new).run ⟨env, sto⟩).bind fun e => Jg F r (new + n) ⟨(d, e.val) :: env, upd e.ws sto⟩ (lgA lg (rdO F (.call g args n) new ⟨env, sto⟩) (e.ws.map (·.1))))) ∧
  (∀ F r new env sto lg g args n, Jg F (⟨.call g args n, none, none⟩ :: r) new ⟨env, sto⟩ lg = dds n new sto (((evs args).run ⟨env, sto⟩).bind fun a => ((Jq a).run ⟨env, sto⟩).bind fun a => ((Jy F g a n new).run ⟨env, sto⟩).bind fun e => Jg F r (new + n) ⟨env, upd e.ws sto⟩ (lgA lg (rdO F (.call g args n) new ⟨env, sto⟩) (e.ws.map (·.1))))) ∧
  (∀ F r new env sto lg d z os, Jg F (⟨.newboxo z os, some d, none⟩ :: r) new ⟨env, sto⟩ lg = dds (os.length + 1) new sto (Jg F r (new + (os.length + 1)) ⟨(d, .ptr (new + os.length) 0) :: env, upd (J1z os new ++ [(new + os.length, .box (J3O os new (z.map .p)))]) sto⟩ (lgA lg (rdO F (.newboxo z os) new ⟨env, sto⟩) ((J1z os new ++ [(new + os.length, Blk.box (J3O os new (z.map .p)))]).map (·.1))))) ∧
  (∀ F r new env sto lg e x, Jg F (⟨.storen e x, none, none⟩ :: r) new ⟨env, sto⟩ lg = (evv x env).bind fun a => dds 1 new sto (((J0G 1 a (.slr new 0 0)).run ⟨env, sto⟩).bind fun q => Jg F r (new + 1) ⟨env, upd ((new, .arr true e []) :: q.ws) sto⟩ (lgA lg (rdO F (.storen e x) new ⟨env, sto⟩) (new :: q.ws.map (·.1))))) ∧
  (∀ F r new env sto lg d z ps os, Jg F (⟨.buildo z ps os, some d, none⟩ :: r) new ⟨env, sto⟩ lg = ((J1a ps).run ⟨env, sto⟩).bind fun l => (J0w l (J3O os new (z.map .p))).bind fun cs => (J0J true cs).bind fun v => dds os.length new sto (Jg F r (new + os.length) ⟨(d, v) :: env, upd (J1z os new) sto⟩ (lgA lg (rdO F (.buildo z ps os) new ⟨env, sto⟩) ((J1z os new).map (·.1))))) ∧
  (∀ F r new env sto lg d g kp args n, Jg F (⟨.callo g kp args n, some d, none⟩ :: r) new ⟨env, sto⟩ lg = dds n new sto (((evs args).run ⟨env, sto⟩).bind fun a => ((J11 kp a).run ⟨env, sto⟩).bind fun a => ((J2k F g a n new).run ⟨env, sto⟩).bind fun e => Jg F r (new + n) ⟨(d, e.val) :: env, upd e.ws sto⟩ (lgA lg (rdO F (.callo g kp args n) new ⟨env, sto⟩) (e.ws.map (·.1))))) ∧
  (∀ F r new env sto lg g kp args n, Jg F (⟨.callo g kp args n, none, none⟩ :: r) new ⟨env, sto⟩ lg = dds n new sto (((evs args).run ⟨env, sto⟩).bind fun a => ((J11 kp a).run ⟨env, sto⟩).bind fun a => ((J2k F g a n new).run ⟨env, sto⟩).bind fun e => Jg F r (new + n) ⟨env, upd e.ws sto⟩ (lgA lg (rdO F (.callo g kp args n) new ⟨env, sto⟩) (e.ws.map (·.1))))) ∧
  (∀ {α : Type} (n new : Nat) (sto : List Blk) (o : Option α), dds (n + 1) new sto o = dd1 sto[new]? (dds n (new + 1) sto o)) ∧
  (∀ F r new env sto lg op d g w, Jg F (⟨op, d, some (g, w)⟩ :: r) new ⟨env, sto⟩ lg = grd (lk g env) w (J48 (Jg F (⟨op, d, none⟩ :: r) new ⟨env, sto⟩ lg) (.mk _)) (J48 (Jg F r (new + Ju op) (put d ⟨J0r, []⟩ ⟨env, sto⟩) (lgA lg [] [])) (.mk _))) ∧
  (∀ {α : Type} (a b : Option α) (h : Dum a), grd (some (.p (.b true))) true (J48 a h) b = a) ∧
  (∀ {α : Type} (a b : Option α) (h : Dum b), grd (some (.p (.b true))) false a (J48 b h) = b) ∧
  (∀ {α : Type} (a b : Option α) (h : Dum b), grd (some (.p (.b false))) true a (J48 b h) = b) ∧
  (∀ {α : Type} (a b : Option α) (h : Dum a), grd (some (.p (.b false))) false (J48 a h) b = a) ∧
  (∀ {α : Type} (w : Bool) (a b : Option α) (h : Dum b), grd (some (.tup [])) w a (J48 b h) = b) ∧
  (∀ {β : Type} (a b : Option AV) (K : AV → Option β) (h : Dum K), pkh (.p (.b true)) a b (J48 K h) = a.bind K) ∧
  (∀ {β : Type} (a b : Option AV) (K : AV → Option β) (h : Dum K), pkh (.p (.b false)) a b (J48 K h) = b.bind K) ∧
  (∀ {α β : Type} (a : α) (f : α → Option β), Option.bind (some a) f = f a) ∧
  (∀ {α : Type} (new : Nat) (sto : List Blk) (o : Option α), dds 0 new sto o = o) ∧
  (∀ {α : Type} (new : Nat) (sto : List Blk) (o : Option α), dds 1 new sto o = dd1 sto[new]? o) ∧
  (∀ {α : Type} (o : Option α), dd1 (some .dead) o = o) :=
  ⟨by intro T f m k s; exact Jk6 T f m k s,
  by intro T f m k a b s; exact Jl5 T f m k a b s,
  by intro T f m k d ins env sto; exact JjG T f m k d ins env sto,
  by intro T f m k d q ps ins env sto; exact Jk3 T f m k d q ps ins env sto,
  by intro T f m k i c s; exact Ji8 T f m k i c s,
  by intro T f m k c s; exact Jii T f m k c s,
  by intro T f m k i s; exact Jkd T f m k i s,
  by intro T f m k s; exact JlR T f m k s,
  by intro T f m k live c env sto; exact JjB T f m k live c env sto,
  by intro T f m k live c env sto; exact JkB T f m k live c env sto,
  by intro T f m k live c env sto; exact Jkg T f m k live c env sto,
  by intro T f m k x a b env sto; exact JkA T f m k x a b env sto,
  by intros; rfl,
  by intros; rfl,
  by intros; rfl,
  by intros; rfl,
  by intros; rfl,
  by intros; rfl,
  by intro T f m k i j s; exact Jjx T f m k i j s,
  by intros; rfl,
  by intro T f m k n live e s; exact (Jmn T f m k n live e s).trans (by cases J2V n live s <;> rfl),
  by intros; rfl,
  by intros; rfl,
  by intros; rfl,
  by intros; rfl,
  by intros; rfl,
  by intro T f m s; exact Jk9 T f m s,
  by intro T f m s; exact JiS T f m s,
  by intros; rfl,
  by intros; rfl,
  by intros; rfl,
  by intros; rfl,
  by intros; rfl,
  by intros; rfl,
  by intros; rfl,
  by intros; rfl,
  by intros; rfl,
  by intro F r new env sto lg d x; rw [st0 (h := rfl)]; simp only [opR, run_bind, J09]; exact JlI,
  by intro F r new env sto lg d c a b; rw [st0 (h := rfl)]; simp only [opR, run_bind, J09]; exact JhV,
  by intro F r new env sto lg d op t x y; rw [st0 (h := rfl)]; simp only [opR, run_bind, J09]; exact Jc3 (g := fun a c => J08 op t a c),
  by intro F r new env sto lg d op x; rw [st0 (h := rfl)]; simp only [opR, run_bind, J09]; exact J7V (g := fun a => unP op a),
  by intro F r new env sto lg d g off n x; rw [st0 (h := rfl)]; simp only [opR, run_bind, J09]; exact J7V (g := fun a => J2Q g off n a),
  by intro F r new env sto lg d off x; rw [st0 (h := rfl)]; simp only [opR, run_bind, J09]; exact J7V (g := fun a => J6o off a),
  by intro F r new env sto lg d x i; rw [st0 (h := rfl)]; simp only [opR, run_bind, J09]; exact J7V (g := fun a => J9H i a),
  by intro F r new env sto lg d b x; rw [st0 (h := rfl)]; simp only [opR, run_bind, J09]; exact J7V (g := fun a => J9k b a),
  by intro F r new env sto lg d n; rw [st0 (h := rfl)]; rfl,
  by intro F r new env sto lg d b x y; rw [st0 (h := rfl)]; simp only [opR, run_bind, J09]; exact Jc3 (g := fun a c => mmP b a c),
  by intro F r new env sto lg d n e x i; rw [st0 (h := rfl)]; simp only [opR, run_bind, J09]; exact Jc3 (g := fun a c => J6p n e a c),
  by intro F r new env sto lg d e x i; rw [st0 (h := rfl)]; simp only [opR, run_bind, J09]; exact JaS (g := fun a c => (J1v e a c).run ⟨env, sto⟩),
  by intro F r new env sto lg d x i; rw [st0 (h := rfl)]; simp only [opR, run_bind, J09]; exact JkJ,
  by intro F r new env sto lg d g n e x i; rw [st0 (h := rfl)]; simp only [opR, run_bind, J09]; exact JkD,
  by intro F r new env sto lg d x; rw [st0 (h := rfl)]; simp only [opR, run_bind, J09]; exact JjH,
  by intro F r new env sto lg d g n x; rw [st0 (h := rfl)]; simp only [opR, run_bind, J09]; exact Je5 (g := fun a => (J0T g n a).run ⟨env, sto⟩),
  by intro F r new env sto lg n x y; rw [JmK (h := rfl)]; simp only [opR, run_bind, J09]; exact JaS (g := fun a c => (J0G n a c).run ⟨env, sto⟩),
  by intro F r new env sto lg d c x; exact Jjf,
  by intro F r new env sto lg d z ps; exact Jh6,
  by intro F r new env sto lg d s x lo hi mx; exact Jh8,
  by intro F r new env sto lg d e b z x y; rw [st0 (h := rfl)]; simp only [opR, run_bind, J09]; exact JaS (g := fun a c => (J5t e b a c).run ⟨env, sto⟩),
  by intro F r new env sto lg d e b z x y; rw [st0 (h := rfl)]; simp only [opR, run_bind, J09]; exact Jhr,
  by intro F r new env sto lg d g a c; exact Jiz,
  by intro F r new env sto lg d g args n; exact Jhh,
  by intro F r new env sto lg g args n; exact Jg3,
  by intros; rfl,
  by intro F r new env sto lg d e b z y; exact Ji3,
  by intro F r new env sto lg d e b z x y; exact Jjc,
  by intro F r new env sto lg d z; exact Jg9,
  by intro F r new env sto lg d e x; exact Jhy,
  by intro F r new env sto lg d n x; exact JkM,
  by intro F r new env sto lg d o e n z ps; exact JiJ,
  by intro F r new env sto lg d o e b z l c; exact Jf6,
  by intro F r new env sto lg d g args n; exact JiA,
  by intro F r new env sto lg g args n; exact JhD,
  by intro F r new env sto lg d z os; exact Jfc,
  by intro F r new env sto lg e x; exact JfU,
  by intro F r new env sto lg d z ps os; exact JfT,
  by intro F r new env sto lg d g kp args n; exact JgW,
  by intro F r new env sto lg g kp args n; exact JgA,
  by intro α n new sto o; exact JmX ..,
  by intro F r new env sto lg op d g w; exact Jkr ..,
  by intros; rfl,
  by intros; rfl,
  by intros; rfl,
  by intros; rfl,
  by intros; rfl,
  by intros; rfl,
  by intros; rfl,
  by intros; rfl,
  by intros; rfl,
  by intro α new sto o; exact JmW ..,
  by intros; rfl⟩
set_option maxRecDepth 30000 in
theorem Ua : (∀ n m v r, lk n ((m, v) :: r) = if n = m then some v else lk n r) ∧
  (∀ n env, evv (.t n) env = lk n env) ∧
  (∀ v env, evv (.c v) env = some v) ∧
  (∀ a b, pk (.p (.b true)) a b = a) ∧
  (∀ a b, pk (.p (.b false)) a b = b) ∧
  (∀ env, restr [] env = []) ∧
  (∀ k l env, restr (k :: l) env = Jgd k (lk k env) (restr l env)) ∧
  (∀ k v l, Jgd k (some v) l = (k, v) :: l) ∧
  (∀ k l, Jgd k none l = l) ∧
  (∀ n, lk n [] = none) ∧
  (news [] = 0) ∧
  (∀ i r, news (i :: r) = Ju i.op + news r) ∧
  (∀ x, Ju (.mv x) = 0) ∧
  (∀ e x, Ju (.mkarr e x) = 1) ∧
  (∀ a b c, Ju (.pick a b c) = 0) ∧
  (∀ z, Ju (.newbox z) = 1) ∧
  (∀ n x, Ju (.box n x) = 1) ∧
  (∀ z ps, Ju (.build z ps) = 0) ∧
  (∀ o e n z ps, Ju (.lits o e n z ps) = if o then 1 else 0) ∧
  (∀ g n x, Ju (.load g n x) = 0) ∧
  (∀ n x y, Ju (.store n x y) = 0) ∧
  (∀ x, Ju (.nilchk x) = 0) ∧
  (∀ op t x y, Ju (.bin op t x y) = 0) ∧
  (∀ op x, Ju (.un op x) = 0) ∧
  (∀ c x, Ju (.conv (.int c) x) = 0) ∧
  (∀ x, Ju (.conv .same x) = 0) ∧
  (∀ x, Ju (.conv .toStr x) = 0) ∧
  (∀ o x, Ju (.conv (.toBytes o) x) = if o then 1 else 0) ∧
  (∀ o e b z l c, Ju (.mkslice o e b z l c) = if o then 1 else 0) ∧
  (∀ s x lo hi mx, Ju (.slice s x lo hi mx) = 0) ∧
  (∀ off x, Ju (.faddr off x) = 0) ∧
  (∀ g off n x, Ju (.field g off n x) = 0) ∧
  (∀ e x i, Ju (.iaddr e x i) = 0) ∧
  (∀ n e x i, Ju (.aaddr n e x i) = 0) ∧
  (∀ x i, Ju (.sidx x i) = 0) ∧
  (∀ g n e x i, Ju (.aidx g n e x i) = 0) ∧
  (∀ x i, Ju (.extr x i) = 0) ∧
  (∀ g args n, Ju (.call g args n) = n) ∧
  (∀ g args n, Ju (.callv g args n) = n) ∧
  (∀ b x, Ju (.len b x) = 0) ∧
  (∀ n, Ju (.alen n) = 0) ∧
  (∀ e b z x y, Ju (.app e b z x y) = 0) ∧
  (∀ e b z x y, Ju (.appz e b z x y) = 0) ∧
  (∀ e b z y, Ju (.appn e b z y) = 1) ∧
  (∀ e b z x y, Ju (.appc e b z x y) = 1) ∧
  (∀ b x y, Ju (.mm b x y) = 0) ∧
  (∀ g a c, Ju (.mkfn g a c) = 0) ∧
  (∀ z os, Ju (.newboxo z os) = os.length + 1) ∧
  (∀ z ps os, Ju (.buildo z ps os) = os.length) ∧
  (∀ e x, Ju (.storen e x) = 1) ∧
  (∀ g kp args n, Ju (.callo g kp args n) = n) ∧
  (∀ sto, room 0 sto = sto) ∧
  (∀ n sto, room (n + 1) sto = sto ++ .dead :: List.replicate n .dead) ∧
  (∀ sto, upd [] sto = sto) ∧
  (∀ b x ws sto, upd ((b, x) :: ws) sto = upd ws (sto.set b x)) ∧
  (∀ d v ws env sto, put (some d) ⟨v, ws⟩ ⟨env, sto⟩ = ⟨(d, v) :: env, upd ws sto⟩) ∧
  (∀ v ws env sto, put none ⟨v, ws⟩ ⟨env, sto⟩ = ⟨env, upd ws sto⟩) ∧
  (J0r = .tup []) ∧
  (∀ {α β : Type} (a : α) (f : α → β), Option.map f (some a) = some (f a)) ∧
  (∀ k x y, J08 .add .plain (.p (.i k x)) (.p (.i k y)) = some (.p (.i k (k.wrap (x + y))))) ∧
  (∀ k x y, J08 .sub .plain (.p (.i k x)) (.p (.i k y)) = some (.p (.i k (k.wrap (x - y))))) ∧
  (∀ k x y, J08 .mul .plain (.p (.i k x)) (.p (.i k y)) = some (.p (.i k (k.wrap (x * y))))) ∧
  (∀ k x y, J08 .and .plain (.p (.i k x)) (.p (.i k y)) = some (.p (.i k (J2U k x y)))) ∧
  (∀ k x y, J08 .or .plain (.p (.i k x)) (.p (.i k y)) = some (.p (.i k (orI k x y)))) ∧
  (∀ k x y, J08 .xor .plain (.p (.i k x)) (.p (.i k y)) = some (.p (.i k (J43 k x y)))) ∧
  (∀ k x y, J08 .eql .plain (.p (.i k x)) (.p (.i k y)) = some (.p (.b (x == y)))) ∧
  (∀ k x y, J08 .neq .plain (.p (.i k x)) (.p (.i k y)) = some (.p (.b (x != y)))) ∧
  (∀ k x y, J08 .lss .plain (.p (.i k x)) (.p (.i k y)) = some (.p (.b (decide (x < y))))) ∧
  (∀ k x y, J08 .leq .plain (.p (.i k x)) (.p (.i k y)) = some (.p (.b (decide (x ≤ y))))) ∧
  (∀ k x y, J08 .gtr .plain (.p (.i k x)) (.p (.i k y)) = some (.p (.b (decide (x > y))))) ∧
  (∀ k x y, J08 .geq .plain (.p (.i k x)) (.p (.i k y)) = some (.p (.b (decide (x ≥ y))))) ∧
  (∀ k x y, J08 .quo .plain (.p (.i k x)) (.p (.i k y)) = (JlV k x y).map fun z => .p (.i k z)) ∧
  (∀ k x y, J08 .rem .plain (.p (.i k x)) (.p (.i k y)) = (J7x x y).map fun z => .p (.i k z)) ∧
  (∀ k k2 x y, J08 .shl .plain (.p (.i k x)) (.p (.i k2 y)) = (JlA k x y).map fun z => .p (.i k z)) ∧
  (∀ k k2 x y, J08 .shr .plain (.p (.i k x)) (.p (.i k2 y)) = (J7v k x y).map fun z => .p (.i k z)) ∧
  (∀ x y, J08 .add .plain (.p (.s x)) (.p (.s y)) = (J7y x y).map fun z => .p (.s z)) ∧
  (∀ x y, J08 .eql .plain (.p (.s x)) (.p (.s y)) = some (.p (.b (x == y)))) ∧
  (∀ x y, J08 .neq .plain (.p (.s x)) (.p (.s y)) = some (.p (.b (!(x == y))))) ∧
  (∀ x y, J08 .lss .plain (.p (.s x)) (.p (.s y)) = some (.p (.b (Op.bytesLess x y)))) ∧
  (∀ x y, J08 .leq .plain (.p (.s x)) (.p (.s y)) = some (.p (.b (Op.bytesLess x y || x == y)))) ∧
  (∀ x y, J08 .gtr .plain (.p (.s x)) (.p (.s y)) = some (.p (.b (!(Op.bytesLess x y || x == y))))) ∧
  (∀ x y, J08 .geq .plain (.p (.s x)) (.p (.s y)) = some (.p (.b (!Op.bytesLess x y)))) ∧
  (∀ x y, J08 .eql .bool (.p (.b x)) (.p (.b y)) = some (.p (.b (x == y)))) ∧
  (∀ x y, J08 .neq .bool (.p (.b x)) (.p (.b y)) = some (.p (.b (!(x == y))))) ∧
  (∀ ks a c, J08 .eql (.flat ks) (.data a) (.data c) = (J0o ks a c).map fun x => .p (.b x)) ∧
  (∀ ks a c, J08 .neq (.flat ks) (.data a) (.data c) = (J0o ks a c).map fun x => .p (.b (!x))) ∧
  (∀ b o y, J08 .eql .nilp (.ptr b o) y = some (.p (.b false))) ∧
  (∀ b o y, J08 .neq .nilp (.ptr b o) y = some (.p (.b true))) ∧
  (∀ k n, unP .neg (.p (.i k n)) = some (.p (.i k (k.wrap (0 - n))))) ∧
  (∀ k n, unP .xor (.p (.i k n)) = some (.p (.i k (JiV k n)))) ∧
  (∀ x, unP .not (.p (.b x)) = some (.p (.b (!x)))) ∧
  ((!true) = false) ∧
  ((!false) = true) ∧
  (∀ k x y, mmP true (.p (.i k x)) (.p (.i k y)) = some (.p (.i k (Jb2 x y)))) ∧
  (∀ k x y, mmP false (.p (.i k x)) (.p (.i k y)) = some (.p (.i k (JmH x y)))) ∧
  (∀ off b o, J6o off (.ptr b o) = some (.ptr b (o + off))) ∧
  (∀ off o cs, J6o off (.cp cs o) = some (.cp cs (o + off))) ∧
  (∀ off b e i o, J6o off (.ep b e i o) = some (.ep b e i (o + off))) ∧
  (∀ g off n cs, J2Q g off n (.data cs) = (sub cs off n).bind (J0R g)) ∧
  (∀ g off n c cs, J2Q g off n (.agg (c :: cs)) = (sub (c :: cs) off n).bind (J0J g)) ∧
  (∀ cs, J0R true cs = some (.data cs)) ∧
  (∀ c, J0R false [c] = some (.p c)) ∧
  (∀ cs, J0J true (cs.map AV.p) = some (.data cs)) ∧
  (∀ c cs, J0J true (c :: cs) = some (JdS (c :: cs) (unp (c :: cs)))) ∧
  (∀ c, J0J false [c] = some c) ∧
  (∀ cs l, JdS cs (some l) = .data l) ∧
  (∀ c, Option.map (fun l => c :: l) (none : Option (List PV)) = none) ∧
  (∀ cs, JdS cs none = .agg cs) ∧
  (unp [] = some []) ∧
  (∀ c r, unp (.p c :: r) = (unp r).map fun l => c :: l) ∧
  (∀ b i n r, unp (.slr b i n :: r) = none) ∧
  (∀ b i r, unp (.ptr b i :: r) = none) ∧
  (∀ b e i o r, unp (.ep b e i o :: r) = none) ∧
  (∀ f a c r, unp (.fn f a c :: r) = none) ∧
  (∀ i vs, J9H i (.tup vs) = vs[i]?) ∧
  (∀ l, J9k true (.p (.s l)) = some (.p (.i .i64 l.length))) ∧
  (∀ e rows, J9k false (.p (.sl e rows)) = some (.p (.i .i64 rows.length))) ∧
  (∀ b i n, J9k false (.slr b i n) = some (.p (.i .i64 n))) ∧
  (∀ {α β : Type} (g : α → β) (l : List α), (l.map g).length = l.length) ∧
  (∀ b o, Jel (.ptr b o) = some (.ptr b o)) ∧
  (∀ cs o, Jel (.cp cs o) = some (.cp cs o)) ∧
  (∀ b e i o, Jel (.ep b e i o) = some (.ep b e i o)) ∧
  (∀ env sto g n cs off, (J0T g n (.cp cs off)).run ⟨env, sto⟩ = (sub cs off n).bind fun l => (J0R g l).map fun v => ⟨v, []⟩) ∧
  (∀ env sto g n b off, (J0T g n (.ptr b off)).run ⟨env, sto⟩ = sto[b]?.bind fun B => ldB g n off B) ∧
  (∀ env sto g n b e i off, (J0T g n (.ep b e i off)).run ⟨env, sto⟩ = sto[b]?.bind fun B => ldE g n e i off B) ∧
  (∀ g n off cs, ldB g n off (.box (cs.map AV.p)) = (sub cs off n).bind fun l => (J0R g l).map fun v => ⟨v, []⟩) ∧
  (∀ g n off c cs, ldB g n off (.box (c :: cs)) = (sub (c :: cs) off n).bind fun l => (J0J g l).map fun v => ⟨v, []⟩) ∧
  (∀ g n e i off z w rows, ldE g n e i off (.arr w z rows) = if e = rows.length then rows[i]?.bind fun row => (sub row off n).bind fun l => (J0R g l).map fun v => ⟨v, []⟩ else none) ∧
  (∀ env sto n b off v, (J0G n (.ptr b off) v).run ⟨env, sto⟩ = sto[b]?.bind fun B => (cellsOf v).bind fun l => stB n b off l B) ∧
  (∀ n b off cs vs, stB n b off (vs.map AV.p) (.box (cs.map AV.p)) = if vs.length = n then (spl cs off vs).map fun cs => ⟨J0r, [(b, .box (cs.map AV.p))]⟩ else none) ∧
  (∀ b off cs v, stB 1 b off [AV.p v] (.box (cs.map AV.p)) = (spl cs off [v]).map fun cs => ⟨J0r, [(b, .box (cs.map AV.p))]⟩) ∧
  (∀ env sto n b e i off v, (J0G n (.ep b e i off) v).run ⟨env, sto⟩ = sto[b]?.bind fun B => stE n b e i off v B ⟨env, sto⟩) ∧
  (∀ n b e i off z c rows s, stE n b e i off (.p c) (.arr true z rows) s = if e = rows.length then rows[i]?.bind fun row => if 1 = n then (spl row off [c]).map fun row => ⟨J0r, [(b, .arr true z (rows.set i row))]⟩ else none else none) ∧
  (∀ n b e i off z cs rows s, stE n b e i off (.data cs) (.arr true z rows) s = if e = rows.length then rows[i]?.bind fun row => if cs.length = n then (spl row off cs).map fun row => ⟨J0r, [(b, .arr true z (rows.set i row))]⟩ else none else none) ∧
  (∀ c, cellsOf (.p c) = some [.p c]) ∧
  (∀ cs, cellsOf (.data cs) = some (cs.map AV.p)) ∧
  (∀ cs, cellsOf (.agg cs) = some cs) ∧
  (∀ f a c, cellsOf (.fn f a c) = some [.fn f a c]) ∧
  (∀ b i n, cellsOf (.slr b i n) = some [.slr b i n]) ∧
  (∀ b o, cellsOf (.ptr b o) = some [.ptr b o]) ∧
  (∀ c, bxP 1 (.p c) = some [.p c]) ∧
  (∀ n cs, bxP n (.data cs) = if cs.length = n then some (cs.map AV.p) else none) ∧
  (∀ n cs, bxP n (.agg cs) = if cs.length = n then some cs else none) ∧
  (∀ b i n, bxP 1 (.slr b i n) = some [.slr b i n]) ∧
  (∀ env sto e rows k n, (J1v e (.p (.sl e rows)) (.p (.i k n))).run ⟨env, sto⟩ = (J6D rows n).map fun row => ⟨.cp row 0, []⟩) ∧
  (∀ env sto e b m k n, (J1v e (.slr b 0 m) (.p (.i k n))).run ⟨env, sto⟩ = sto[b]?.bind fun B => iaB e b m n B) ∧
  (∀ e b m n w rows, iaB e b m n (.arr w e rows) = if m = rows.length ∧ 0 ≤ n ∧ n < m then some ⟨.ep b rows.length n.toNat 0, []⟩ else none) ∧
  (∀ n e b off k i, J6p n e (.ptr b off) (.p (.i k i)) = if 0 ≤ i ∧ i < n then some (.ptr b (off + i.toNat * e)) else none) ∧
  (∀ n e off cs k i, J6p n e (.cp cs off) (.p (.i k i)) = if 0 ≤ i ∧ i < n then some (.cp cs (off + i.toNat * e)) else none) ∧
  (∀ n e b x j off k i, J6p n e (.ep b x j off) (.p (.i k i)) = if 0 ≤ i ∧ i < n then some (.ep b x j (off + i.toNat * e)) else none) ∧
  (∀ l k n, Jcw (.p (.s l)) (.p (.i k n)) = (JbU l n).map fun v => .p (.i .u8 v)) ∧
  (∀ g n e cs k i, JaF g n e (.agg cs) (.p (.i k i)) = if 0 ≤ i ∧ i < n then J2Q g (i.toNat * e) e (.agg cs) else none) ∧
  (∀ g n e cs k i, JaF g n e (.data cs) (.p (.i k i)) = if 0 ≤ i ∧ i < n then (sub cs (i.toNat * e) e).bind (J0R g) else none) ∧
  (∀ env sto c k n new, (cvR (.int c) (.p (.i k n)) new).run ⟨env, sto⟩ = some ⟨.p (.i c (c.wrap n)), []⟩) ∧
  (∀ env sto l new, (cvR .same (.p (.s l)) new).run ⟨env, sto⟩ = some ⟨.p (.s l), []⟩) ∧
  (∀ env sto l new, (cvR .toStr (.p (.sl 1 (l.map (r_i .u8)))) new).run ⟨env, sto⟩ = some ⟨.p (.s (toStr l)), []⟩) ∧
  (∀ env sto b n new, (cvR .toStr (.slr b 0 n) new).run ⟨env, sto⟩ = sto[b]?.bind fun B => cvB n B) ∧
  (∀ n w l, cvB n (.arr w 1 (l.map (r_i .u8))) = if n = l.length then some ⟨.p (.s (toStr l)), []⟩ else none) ∧
  (∀ env sto l new, (cvR (.toBytes false) (.p (.s l)) new).run ⟨env, sto⟩ = some ⟨.p (.sl 1 ((J5m l).map (r_i .u8))), []⟩) ∧
  (∀ env sto l new, (cvR (.toBytes true) (.p (.s l)) new).run ⟨env, sto⟩ = some ⟨.slr new 0 (J5m l).length, [(new, .arr true 1 ((J5m l).map (r_i .u8)))]⟩) ∧
  (∀ env sto, (J1a []).run ⟨env, sto⟩ = some []) ∧
  (∀ env sto off size x r, (J1a ((off, size, x) :: r)).run ⟨env, sto⟩ = (evv x env).bind fun v => (cellsOf v).bind fun cs => ((J1a r).run ⟨env, sto⟩).bind fun l => some ((off, size, cs) :: l)) ∧
  (∀ cs, J0w [] cs = some cs) ∧
  (∀ off size vs cs r, J0w ((off, size, vs.map AV.p) :: r) (cs.map AV.p) = if vs.length = size then (spl cs off vs).bind fun cs => J0w r (cs.map AV.p) else none) ∧
  (∀ off v cs r, J0w ((off, 1, [AV.p v]) :: r) (cs.map AV.p) = (spl cs off [v]).bind fun cs => J0w r (cs.map AV.p)) ∧
  (∀ env sto, (evs []).run ⟨env, sto⟩ = some []) ∧
  (∀ env sto x r, (evs (x :: r)).run ⟨env, sto⟩ = (evv x env).bind fun v => ((evs r).run ⟨env, sto⟩).bind fun vs => some (v :: vs)) ∧
  (∀ n, J1z [] n = []) ∧
  (∀ o e r n, J1z ((o, e) :: r) n = (n, .arr true e []) :: J1z r (n + 1)) ∧
  (∀ n cs, J3O [] n cs = cs) ∧
  (∀ o e r n cs, J3O ((o, e) :: r) n cs = J3O r (n + 1) (cs.set o (.slr n 0 0))) ∧
  (∀ env sto m, (J11 m []).run ⟨env, sto⟩ = some ([], [])) ∧
  (∀ env sto l, (J11 [] l).run ⟨env, sto⟩ = (Jq l).run ⟨env, sto⟩) ∧
  (∀ env sto x m r, (J11 (true :: m) (x :: r)).run ⟨env, sto⟩ = ((J11 m r).run ⟨env, sto⟩).bind fun c => some (x :: c.1, c.2)) ∧
  (∀ env sto x m r, (J11 (false :: m) (x :: r)).run ⟨env, sto⟩ = ((Jq [x]).run ⟨env, sto⟩).bind fun a => ((J11 m r).run ⟨env, sto⟩).bind fun c => some (a.1 ++ c.1, a.2 ++ c.2)) ∧
  (∀ env sto, (Jq []).run ⟨env, sto⟩ = some ([], [])) ∧
  (∀ env sto c r, (Jq (.p c :: r)).run ⟨env, sto⟩ = ((Jq r).run ⟨env, sto⟩).bind fun a => some (.p c :: a.1, a.2)) ∧
  (∀ env sto c r, (Jq (.data c :: r)).run ⟨env, sto⟩ = ((Jq r).run ⟨env, sto⟩).bind fun a => some (.data c :: a.1, a.2)) ∧
  (∀ env sto b o r, (Jq (.ptr b o :: r)).run ⟨env, sto⟩ = ((Jq r).run ⟨env, sto⟩).bind fun a => some (.ptr b o :: a.1, a.2)) ∧
  (∀ env sto c o r, (Jq (.cp c o :: r)).run ⟨env, sto⟩ = ((Jq r).run ⟨env, sto⟩).bind fun a => some (.cp c o :: a.1, a.2)) ∧
  (∀ env sto b x i o r, (Jq (.ep b x i o :: r)).run ⟨env, sto⟩ = ((Jq r).run ⟨env, sto⟩).bind fun a => some (.ep b x i o :: a.1, a.2)) ∧
  (∀ env sto b n r, (Jq (.slr b 0 n :: r)).run ⟨env, sto⟩ = sto[b]?.bind fun B => (frz b n B).bind fun x => ((Jq r).run ⟨env, sto⟩).bind fun a => some (x.1 :: a.1, x.2 :: a.2)) ∧
  (∀ env sto cs r, (Jq (.agg cs :: r)).run ⟨env, sto⟩ = ((fz.fzL cs).run ⟨env, sto⟩).bind fun x => ((Jq r).run ⟨env, sto⟩).bind fun a => some (.data x.1 :: a.1, x.2 ++ a.2)) ∧
  (∀ b n z w rows, frz b n (.arr w z rows) = if n = rows.length then some (.p (.sl z rows), (b, .arr false z rows)) else none) ∧
  (∀ env sto, (fz.fzL []).run ⟨env, sto⟩ = some ([], [])) ∧
  (∀ env sto c r, (fz.fzL (.p c :: r)).run ⟨env, sto⟩ = ((fz.fzL r).run ⟨env, sto⟩).bind fun a => some (c :: a.1, a.2)) ∧
  (∀ env sto b n r, (fz.fzL (.slr b 0 n :: r)).run ⟨env, sto⟩ = sto[b]?.bind fun B => (frp b n B).bind fun x => ((fz.fzL r).run ⟨env, sto⟩).bind fun a => some (x.1 :: a.1, x.2 :: a.2)) ∧
  (∀ b n z w rows, frp b n (.arr w z rows) = if n = rows.length then some (.sl z rows, (b, .arr false z rows)) else none) ∧
  (∀ env sto f a c r, (Jq (.fn f a c :: r)).run ⟨env, sto⟩ = ((Jq r).run ⟨env, sto⟩).bind fun x => some (.fn f a c :: x.1, x.2)) ∧
  (∀ m ids sto f a c, fin m ids sto (.fn f a c) = (fin.finL m ids sto a).bind fun a1 => (fin.finL m ids sto c).bind fun c1 => some (.fn f a1 c1)) ∧
  (∀ f a c l, JM (.fn f a c) l = JM.entsOfL c (JM.entsOfL a l)) ∧
  (∀ ws s, J4m ws s [] [] = True) ∧
  (∀ ws s b bs cs css, J4m ws s (b :: bs) (cs :: css) = ((J5w ws b).run s = some (.box cs) ∧ J4m ws s bs css)) ∧
  (∀ env sto b c x ws, (J5w ((c, x) :: ws) b).run ⟨env, sto⟩ = sto[b]?.bind fun y => some ((J1b b ((c, x) :: ws)).getD y)) ∧
  (∀ b, J1b b [] = none) ∧
  (∀ b c x r, J1b b ((c, x) :: r) = lwO (J1b b r) (if c = b then some x else none)) ∧
  (∀ x y, lwO (some x) y = some x) ∧
  (∀ y, lwO none y = y) ∧
  (∀ {α : Type} (a b : α), (some a).getD b = a) ∧
  (∀ {α : Type} (b : α), (none : Option α).getD b = b) ∧
  (∀ env sto b, (J5w [] b).run ⟨env, sto⟩ = sto[b]?) ∧
  (∀ env sto e rows, (JY e (.p (.sl e rows))).run ⟨env, sto⟩ = some rows) ∧
  (∀ env sto l, (JY 1 (.p (.s l))).run ⟨env, sto⟩ = some ((J5m l).map (r_i .u8))) ∧
  (∀ env sto e b n, (JY e (.slr b 0 n)).run ⟨env, sto⟩ = sto[b]?.bind fun B => roB e n B) ∧
  (∀ e n w rows, roB e n (.arr w e rows) = if n = rows.length then some rows else none) ∧
  (∀ env sto o e n new z ps, (ltR o e n z ps new).run ⟨env, sto⟩ = ((fzs (ps.map (·.2))).run ⟨env, sto⟩).bind fun a => (J1Y e ((ps.map (·.1)).zip a.1) (List.replicate n z)).map fun rows => if o then ⟨.slr new 0 n, a.2 ++ [(new, .arr true e rows)]⟩ else ⟨.p (.sl e rows), a.2⟩) ∧
  (∀ env sto, (fzs []).run ⟨env, sto⟩ = some ([], [])) ∧
  (∀ env sto x r, (fzs (x :: r)).run ⟨env, sto⟩ = (evv x env).bind fun v => ((fz v).run ⟨env, sto⟩).bind fun a => ((fzs r).run ⟨env, sto⟩).bind fun c => some (a.1 :: c.1, a.2 ++ c.2)) ∧
  (∀ env sto c, (fz (.p c)).run ⟨env, sto⟩ = some ([c], [])) ∧
  (∀ env sto cs, (fz (.data cs)).run ⟨env, sto⟩ = some (cs, [])) ∧
  (∀ env sto cs, (fz (.agg cs)).run ⟨env, sto⟩ = (fz.fzL cs).run ⟨env, sto⟩) ∧
  (∀ env sto b n, (fz (.slr b 0 n)).run ⟨env, sto⟩ = sto[b]?.bind fun B => (frp b n B).bind fun x => some ([x.1], [x.2])) ∧
  (∀ e rows, J1Y e [] rows = some rows) ∧
  (∀ e i c r rows, J1Y e ((i, c) :: r) rows = if c.length = e ∧ i < rows.length then J1Y e r (rows.set i c) else none) ∧
  (∀ o e b new z k k2 n m, mkP o e b z (.p (.i k n)) (.p (.i k2 m)) new = if 0 ≤ n ∧ n ≤ m ∧ b * m ≤ 281474976710656 ∧ m ≤ 281474976710656 then some (if o then ⟨.slr new 0 n.toNat, [(new, .arr true e (List.replicate n.toNat z))]⟩ else ⟨.p (.sl e (List.replicate n.toNat z)), []⟩) else none) ∧
  (∀ env, J58 none env = some none) ∧
  (∀ x env, J58 (some x) env = (evv x env).map some) ∧
  (∀ env sto s c lo hi, (slR s (.p c) lo hi none).run ⟨env, sto⟩ = (slX s (.p c) lo hi).map fun v => ⟨v, []⟩) ∧
  (∀ env sto s b n lo hi, (slR s (.slr b 0 n) lo hi none).run ⟨env, sto⟩ = sto[b]?.bind fun B => (frz b n B).bind fun x => (slX s x.1 lo hi).map fun v => ⟨v, [x.2]⟩) ∧
  (∀ x lo hi, slX .str x lo hi = J6m x lo hi) ∧
  (∀ e x lo hi, slX (.sl e) x lo hi = J6n e x lo hi) ∧
  (∀ n live env sto, J2V n live ⟨env, sto⟩ = if sto.length = n then some ⟨restr live env, sto⟩ else (J4P n sto (restr live env)).bind fun e => (J1M n [] sto (sto.take n)).bind fun l => some ⟨e, l⟩) ∧
  (∀ m sto, J4P m sto [] = some []) ∧
  (∀ m k sto x r, J4P m sto ((k, x) :: r) = (fin m [] sto x).bind fun y => (J4P m sto r).bind fun l => some ((k, y) :: l)) ∧
  (∀ m ids sto, J1M m ids sto [] = some []) ∧
  (∀ m ids sto x r, J1M m ids sto (x :: r) = (J2c m ids sto x).bind fun y => (J1M m ids sto r).bind fun l => some (y :: l)) ∧
  (∀ m ids sto, J2c m ids sto .dead = some .dead) ∧
  (∀ m ids sto w z rows, J2c m ids sto (.arr w z rows) = some (.arr w z rows)) ∧
  (∀ m ids sto cs, J2c m ids sto (.box cs) = (fin.finL m ids sto cs).map .box) ∧
  (∀ (m : Nat) (ids : List Nat) (sto : List Blk) (l : List PV), fin.finL m ids sto (l.map AV.p) = some (l.map AV.p)) ∧
  (∀ m ids sto, fin.finL m ids sto [] = some []) ∧
  (∀ m ids sto x r, fin.finL m ids sto (x :: r) = (fin m ids sto x).bind fun y => (fin.finL m ids sto r).bind fun l => some (y :: l)) ∧
  (∀ m ids sto c, fin m ids sto (.p c) = some (.p c)) ∧
  (∀ m ids sto c, fin m ids sto (.data c) = some (.data c)) ∧
  (∀ m ids sto c o, fin m ids sto (.cp c o) = some (.cp c o)) ∧
  (∀ m ids sto, fin m ids sto (.tup []) = some (.tup [])) ∧
  (∀ m ids sto b off, fin m ids sto (.ptr b off) = if b < m then some (.ptr b off) else (J4x b ids m).map fun k => .ptr k off) ∧
  (∀ m ids sto b n, fin m ids sto (.slr b 0 n) = if b < m then some (.slr b 0 n) else fsl (J4x b ids m) n sto[b]?) ∧
  (∀ k n o, fsl (some k) n o = some (.slr k 0 n)) ∧
  (∀ n z w rows, fsl none n (some (.arr w z rows)) = if n = rows.length then some (.p (.sl z rows)) else none) ∧
  (∀ m ids sto cs, fin m ids sto (.agg cs) = (fin.finL m ids sto cs).bind fun l => some (JdS l (unp l))) ∧
  (∀ m ids sto x cs, fin m ids sto (.tup (x :: cs)) = (fin.finL m ids sto (x :: cs)).map .tup) ∧
  (∀ b k, J4x b [] k = none) ∧
  (∀ b x k r, J4x b (x :: r) k = if x = b then some k else J4x b r (k + 1)) ∧
  (∀ res fresh m env sto, JaC res fresh m ⟨env, sto⟩ = ((J38 res).run ⟨env, sto⟩).bind fun vs => if sto.length = m then some (one vs, sto) else Jgo fresh m vs sto (J0y m fresh sto (J4a sto (JM.entsOfL vs []) (JM.entsOfL vs [])))) ∧
  (∀ fresh m vs sto ids, Jgo fresh m vs sto ids = if J2N ids = true then (fin.finL m ids sto vs).bind fun ws => (J1M m ids sto (sto.take m)).bind fun l => (J3K sto ids).bind fun q => (J1M m ids sto q).bind fun q => some (one ws, l ++ q) else none) ∧
  (∀ env sto, (J38 []).run ⟨env, sto⟩ = some []) ∧
  (∀ env sto t r, (J38 (.tmp t :: r)).run ⟨env, sto⟩ = (lk t env).bind fun v => ((J38 r).run ⟨env, sto⟩).bind fun l => some (v :: l)) ∧
  (∀ env sto t n g r, (J38 (.cell t g n :: r)).run ⟨env, sto⟩ = (lk t env).bind fun v => ((J0T g n v).run ⟨env, sto⟩).bind fun e => ((J38 r).run ⟨env, sto⟩).bind fun l => some (e.val :: l)) ∧
  (∀ x, one [x] = x) ∧
  (one [] = .tup []) ∧
  (∀ x y r, one (x :: y :: r) = .tup (x :: y :: r)) ∧
  (∀ m fresh sto, J0y m fresh sto [] = []) ∧
  (∀ m b sto r, J0y m false sto (.whole b :: r) = if b < m then J0y m false sto r else oid b sto[b]? (J0y m false sto r)) ∧
  (∀ m b sto r, J0y m true sto (.whole b :: r) = if b < m then J0y m true sto r else JdD b sto[b]? (J0y m true sto r)) ∧
  (∀ b cs l, JdD b (some (.box cs)) l = b :: l) ∧
  (∀ b z w rows l, JdD b (some (.arr w z rows)) l = b :: l) ∧
  (∀ b cs l, oid b (some (.box cs)) l = b :: l) ∧
  (∀ b z w rows l, oid b (some (.arr w z rows)) l = l) ∧
  (∀ sto acc, J4a sto [] acc = acc) ∧
  (∀ sto b r acc, J4a sto (.whole b :: r) acc = J4a sto r (ebb sto[b]? acc)) ∧
  (∀ cs acc, ebb (some (.box cs)) acc = JM.entsOfL cs acc) ∧
  (∀ z w rows acc, ebb (some (.arr w z rows)) acc = acc) ∧
  (∀ l, JM.entsOfL [] l = l) ∧
  (∀ x r l, JM.entsOfL (x :: r) l = JM.entsOfL r (JM x l)) ∧
  (∀ (cs : List PV) (l : List Ent), JM.entsOfL (cs.map AV.p) l = l) ∧
  (∀ c l, JM (.p c) l = l) ∧
  (∀ c l, JM (.data c) l = l) ∧
  (∀ c o l, JM (.cp c o) l = l) ∧
  (∀ b o l, JM (.ptr b o) l = J4k (.whole b) l) ∧
  (∀ b i n l, JM (.slr b i n) l = J4k (.whole b) l) ∧
  (∀ cs l, JM (.agg cs) l = JM.entsOfL cs l) ∧
  (∀ cs l, JM (.tup cs) l = JM.entsOfL cs l) ∧
  (∀ e, J4k e [] = [e]) ∧
  (∀ b c r, J4k (.whole b) (.whole c :: r) = if c = b then .whole c :: r else .whole c :: J4k (.whole b) r) ∧
  (J2N [] = true) ∧
  (∀ x, J2N [x] = true) ∧
  (∀ sto, J3K sto [] = some []) ∧
  (∀ sto b r, J3K sto (b :: r) = sto[b]?.bind fun x => (J3K sto r).bind fun l => some (x :: l)) ∧
  (∀ {α : Type} (a : α) (l : List α), (a :: l)[0]? = some a) ∧
  (∀ {α : Type} (a : α) (l : List α) (n : Nat), (a :: l)[n + 1]? = l[n]?) ∧
  (∀ {α : Type} (n : Nat), ([] : List α)[n]? = none) ∧
  (∀ {α : Type} (a b : α) (l : List α), (a :: l).set 0 b = b :: l) ∧
  (∀ {α : Type} (a b : α) (l : List α) (n : Nat), (a :: l).set (n + 1) b = a :: l.set n b) ∧
  (∀ {α : Type} (l : List α), [] ++ l = l) ∧
  (∀ {α : Type} (l : List α), l ++ [] = l) ∧
  (∀ {α : Type} (a : α) (l r : List α), (a :: l) ++ r = a :: (l ++ r)) ∧
  (∀ {α : Type} (a : α), List.replicate 0 a = []) ∧
  (∀ {α : Type} (a : α) (n : Nat), List.replicate (n + 1) a = a :: List.replicate n a) ∧
  (∀ {α β : Type} (g : α → β), List.map g [] = []) ∧
  (∀ {α β : Type} (g : α → β) (a : α) (l : List α), List.map g (a :: l) = g a :: List.map g l) ∧
  (∀ {α : Type}, ([] : List α).length = 0) ∧
  (∀ {α : Type} (a : α) (l : List α), (a :: l).length = l.length + 1) ∧
  (∀ {α : Type} (l : List α), l.take 0 = []) ∧
  (∀ {α : Type} (a : α) (l : List α) (n : Nat), (a :: l).take (n + 1) = a :: l.take n) ∧
  (∀ {α β : Type} (l : List β), ([] : List α).zip l = []) ∧
  (∀ {α β : Type} (a : α) (b : β) (l : List α) (r : List β), (a :: l).zip (b :: r) = (a, b) :: l.zip r) ∧
  (∀ n, 0 + n = n) ∧
  (∀ n, n + 0 = n) ∧
  (∀ k n, r_i k n = [.i k n]) ∧
  (∀ x, r_b x = [.b x]) ∧
  (∀ x, r_s x = [.s x]) ∧
  (∀ {α : Type} (e : Nat) (g : α → List PV) (l : List α), Jcq e g l = [.sl e (l.map g)]) ∧
  (∀ (a : PV), sub [a] 0 1 = some [a]) ∧
  (∀ (a b : PV), spl [a] 0 [b] = some [b]) ∧
  (∀ {α : Type} (cs : List α), sub cs 0 0 = some []) ∧
  (∀ {α : Type} (a : α) (cs : List α) (n : Nat), sub (a :: cs) 0 (n + 1) = (sub cs 0 n).map (a :: ·)) ∧
  (∀ {α : Type} (a : α) (cs : List α) (n m : Nat), sub (a :: cs) (n + 1) m = sub cs n m) ∧
  (∀ {α : Type} (cs : List α), spl cs 0 [] = some cs) ∧
  (∀ {α : Type} (a b : α) (cs vs : List α), spl (a :: cs) 0 (b :: vs) = (spl cs 0 vs).map (b :: ·)) ∧
  (∀ {α : Type} (a : α) (cs : List α) (n : Nat) (vs : List α), spl (a :: cs) (n + 1) vs = (spl cs n vs).map (a :: ·)) ∧
  (∀ n b off l c cs, stB n b off l (.box (c :: cs)) = if l.length = n then (spl (c :: cs) off l).map fun cs => ⟨J0r, [(b, .box cs)]⟩ else none) ∧
  (∀ off size c a cs r, J0w ((off, size, c) :: r) (a :: cs) = if c.length = size then (spl (a :: cs) off c).bind fun cs => J0w r cs else none) ∧
  (∀ {α : Type} (a b : α), (if True then a else b) = a) ∧
  (∀ {α : Type} (a b : α), (if False then a else b) = b) ∧
  (∀ {α : Type} (a b : α), (if true = true then a else b) = a) ∧
  (∀ {α : Type} (a b : α), (if false = true then a else b) = b) ∧
  (∀ a, (True ∧ a) = a) ∧
  (∀ a, (a ∧ True) = a) ∧
  (∀ {α : Type} (a : α), (a = a) = True) ∧
  (∀ {α β : Type} (a : α) (b : β), (a, b).1 = a) ∧
  (∀ {α β : Type} (a : α) (b : β), (a, b).2 = b) :=
  ⟨by intros; rfl,
  by intros; rfl,
  by intros; rfl,
  by intros; rfl,
  by intros; rfl,
  by intros; rfl,
  by intros; rfl,
  by intros; rfl,
  by intros; rfl,
  by intros; rfl,
  rfl,
  by intros; rfl,
  by intros; rfl,
  by intros; rfl,
  by intros; rfl,
  by intros; rfl,
  by intros; rfl,
  by intros; rfl,
  by intros; rfl,
  by intros; rfl,
  by intros; rfl,
  by intros; rfl,
  by intros; rfl,
  by intros; rfl,
  by intros; rfl,
  by intros; rfl,
  by intros; rfl,
  by intros; rfl,
  by intros; rfl,
  by intros; rfl,
  by intros; rfl,
  by intros; rfl,
  by intros; rfl,
  by intros; rfl,
  by intros; rfl,
  by intros; rfl,
  by intros; rfl,
  by intros; rfl,
  by intros; rfl,
  by intros; rfl,
  by intros; rfl,
  by intros; rfl,
  by intros; rfl,
  by intros; rfl,
  by intros; rfl,
  by intros; rfl,
  by intros; rfl,
  by intros; rfl,
  by intros; rfl,
  by intros; rfl,
  by intros; rfl,
  by intros; rfl,
  by intros; rfl,
  by intros; rfl,
  by intros; rfl,
  by intros; rfl,
  by intros; rfl,
  rfl,
  by intros; rfl,
  by intro k x y; simp only [J08, if_true, J4A, Option.map_some]; try rfl,
  by intro k x y; simp only [J08, if_true, J4A, Option.map_some]; try rfl,
  by intro k x y; simp only [J08, if_true, J4A, Option.map_some]; try rfl,
  by intro k x y; simp only [J08, if_true, J4A, Option.map_some]; try rfl,
  by intro k x y; simp only [J08, if_true, J4A, Option.map_some]; try rfl,
  by intro k x y; simp only [J08, if_true, J4A, Option.map_some]; try rfl,
  by intro k x y; simp only [J08, if_true, J4A, Option.map_some]; try rfl,
  by intro k x y; simp only [J08, if_true, J4A, Option.map_some]; try rfl,
  by intro k x y; simp only [J08, if_true, J4A, Option.map_some]; try rfl,
  by intro k x y; simp only [J08, if_true, J4A, Option.map_some]; try rfl,
  by intro k x y; simp only [J08, if_true, J4A, Option.map_some]; try rfl,
  by intro k x y; simp only [J08, if_true, J4A, Option.map_some]; try rfl,
  by intro k x y; simp only [J08, if_true, J4A, JlV]; split <;> rfl,
  by intro k x y; simp only [J08, if_true, J4A, J7x]; split <;> rfl,
  by intro k k2 x y; simp only [J08, J78, JlA]; split <;> rfl,
  by intro k k2 x y; simp only [J08, J78, J7v]; split <;> rfl,
  by intro x y; simp only [J08, Jei, J7y]; split <;> rfl,
  by intro x y; rfl,
  by intro x y; rfl,
  by intro x y; rfl,
  by intro x y; rfl,
  by intro x y; rfl,
  by intro x y; rfl,
  by intros; rfl,
  by intros; rfl,
  by intro ks a c; simp only [J08, J4O]; cases J0o ks a c <;> rfl,
  by intro ks a c; simp only [J08, J4O]; cases J0o ks a c <;> rfl,
  by intros; rfl,
  by intros; rfl,
  by intros; rfl,
  by intros; rfl,
  by intros; rfl,
  rfl,
  rfl,
  by intros; rfl,
  by intros; rfl,
  by intros; rfl,
  by intros; rfl,
  by intros; rfl,
  by intro g off n cs; simp only [J2Q]; cases sub cs off n <;> rfl,
  by intro g off n c cs; simp only [J2Q]; cases sub (c :: cs) off n <;> rfl,
  by intros; rfl,
  by intros; rfl,
  by intro cs; exact Jaq cs,
  by intro c cs; simp only [J0J, if_true]; cases unp (c :: cs) <;> rfl,
  by intros; rfl,
  by intros; rfl,
  by intros; rfl,
  by intros; rfl,
  rfl,
  by intro c r; simp only [unp]; cases unp r <;> rfl,
  by intros; rfl,
  by intros; rfl,
  by intros; rfl,
  by intros; rfl,
  by intros; rfl,
  by intros; rfl,
  by intros; rfl,
  by intros; rfl,
  by intro α β g l; simp,
  by intros; rfl,
  by intros; rfl,
  by intros; rfl,
  by intro env sto g n cs off; exact JkF ..,
  by intro env sto g n b off; exact Jkv ..,
  by intro env sto g n b e i off; exact Jka ..,
  by intro g n off cs; exact Jmb ..,
  by intros; rfl,
  by intros; rfl,
  by intro env sto n b off v; exact Jjz ..,
  by intro n b off cs vs; exact Jju ..,
  by intro b off cs v; exact Jmf ..,
  by intro env sto n b e i off v; exact JkP ..,
  by intro n b e i off z c rows s; exact Jmp ..,
  by intro n b e i off z cs rows s; exact Jma ..,
  by intros; rfl,
  by intros; rfl,
  by intros; rfl,
  by intros; rfl,
  by intros; rfl,
  by intros; rfl,
  by intros; rfl,
  by intro n cs; exact JlJ ..,
  by intros; rfl,
  by intros; rfl,
  by intro env sto e rows k n; exact Jiv ..,
  by intro env sto e b m k n; exact JhR ..,
  by intro e b m n w rows; exact JjA ..,
  by intros; rfl,
  by intros; rfl,
  by intros; rfl,
  by intro l k n; exact JlM ..,
  by intros; rfl,
  by intro g n e cs k i; exact Jlq ..,
  by intros; rfl,
  by intros; rfl,
  @JmR,
  by intro env sto b n new; exact JiC ..,
  @Jmm,
  by intro env sto l new; exact Jjm ..,
  by intro env sto l new; exact JgL ..,
  by intros; rfl,
  by intro env sto off size x r; exact Jld ..,
  by intros; rfl,
  by intro off size vs cs r; exact JdJ ..,
  by intro off v cs r; exact Jj2 ..,
  by intros; rfl,
  by intro env sto x r; exact JlH ..,
  by intros; rfl,
  by intros; rfl,
  by intros; rfl,
  by intros; rfl,
  by intro env sto m; cases m <;> rfl,
  by intro env sto l; rw [Jd0],
  by intro env sto x m r; exact JjS ..,
  by intro env sto x m r; exact JjK ..,
  by intros; rfl,
  by intro env sto c r; exact J7E _ _ rfl ..,
  by intro env sto c r; exact J7E _ _ rfl ..,
  by intro env sto b o r; exact J7E _ _ rfl ..,
  by intro env sto c o r; exact J7E _ _ rfl ..,
  by intro env sto b x i o r; exact J7E _ _ rfl ..,
  by intro env sto b n r; exact Ji6 ..,
  by intro env sto cs r; exact JiY ..,
  @fr,
  by intros; rfl,
  by intro env sto c r; exact JhQ ..,
  by intro env sto b n r; exact Jjh ..,
  by intros; rfl,
  by intro env sto f a c r; exact J7E _ _ rfl ..,
  by intro m ids sto f a c; exact Jkj ..,
  by intros; rfl,
  by intros; rfl,
  by intros; rfl,
  by intro env sto b c x ws; exact JjC ..,
  by intros; rfl,
  by intro b c x r; exact JkW ..,
  by intros; rfl,
  by intros; rfl,
  by intros; rfl,
  by intros; rfl,
  by intro env sto b; exact JkZ ..,
  by intro env sto e rows; exact Jie ..,
  by intro env sto l; exact Jif ..,
  by intro env sto e b n; exact Jjg ..,
  by intro e n w rows; exact Ji5 ..,
  by intro env sto o e n new z ps; exact Jln ..,
  by intros; rfl,
  by intro env sto x r; exact Jlb ..,
  by intros; rfl,
  by intros; rfl,
  by intros; rfl,
  by intro env sto b n; exact Jh4 ..,
  by intros; rfl,
  by intros; rfl,
  @mk,
  by intros; rfl,
  by intros; rfl,
  by intro env sto s c lo hi; exact JiP ..,
  by intro env sto s b n lo hi; exact Jic ..,
  by intros; rfl,
  by intros; rfl,
  @cl,
  by intros; rfl,
  by intro m k sto x r; exact Jlo ..,
  by intros; rfl,
  by intro m ids sto x r; exact Jl0 ..,
  by intros; rfl,
  by intros; rfl,
  by intro m ids sto cs; exact Jku ..,
  by intro m ids sto l; exact JcN m ids sto l,
  by intros; rfl,
  by intro m ids sto x r; exact JlY ..,
  by intros; rfl,
  by intros; rfl,
  by intros; rfl,
  by intros; rfl,
  by intros; rfl,
  by intro m ids sto b n; exact Jk5 ..,
  by intros; rfl,
  by intros; rfl,
  by intro m ids sto cs; exact Jjv ..,
  by intro m ids sto x cs; exact JjE ..,
  by intros; rfl,
  by intros; rfl,
  by intros; rfl,
  by intros; rfl,
  by intros; rfl,
  by intro env sto t r; exact JiI ..,
  by intro env sto t n g r; exact JiL ..,
  by intros; rfl,
  rfl,
  by intros; rfl,
  by intros; rfl,
  by intro m b sto r; exact Jlu ..,
  by intro m b sto r; exact JkI ..,
  by intros; rfl,
  by intros; rfl,
  by intros; rfl,
  by intros; rfl,
  by intros; rfl,
  by intro sto b r acc; exact Jls ..,
  by intros; rfl,
  by intros; rfl,
  by intros; rfl,
  by intros; rfl,
  by intro cs l; exact JhF cs l,
  by intros; rfl,
  by intros; rfl,
  by intros; rfl,
  by intros; rfl,
  by intros; rfl,
  by intros; rfl,
  by intros; rfl,
  by intros; rfl,
  by intro b c r; exact JlX ..,
  rfl,
  by intros; rfl,
  by intros; rfl,
  by intro sto b r; exact Jlp ..,
  by intros; rfl,
  by intros; rfl,
  by intros; rfl,
  by intros; rfl,
  by intros; rfl,
  @Jlk,
  @Jl3,
  @JlZ,
  by intros; rfl,
  by intros; rfl,
  @Jl6,
  @Jm1,
  @JlK,
  @JkX,
  by intros; rfl,
  by intros; rfl,
  by intros; rfl,
  by intros; rfl,
  by intro n; exact Nat.zero_add n,
  by intros; rfl,
  @Jlz,
  @Jla,
  @Jjq,
  @Jm2,
  @s1,
  by intros; rfl,
  by intro α cs; rw [J3S]; simp,
  by intro α a cs n; exact Jiy ..,
  by intro α a cs n m; exact JiZ ..,
  by intro α cs; rw [J4q]; simp,
  by intro α a b cs vs; exact Jj0 ..,
  by intro α a cs n vs; exact JhN ..,
  by intros; rfl,
  by intro off size c a cs r; exact JiT ..,
  by intros; rfl,
  by intros; rfl,
  by intros; rfl,
  by intros; rfl,
  by intro a; simp,
  by intro a; simp,
  by intro α a; simp,
  by intros; rfl,
  by intros; rfl⟩
set_option maxRecDepth 30000 in
theorem Nf : (∀ {α : Type} (l : List α), [] ++ l = l) ∧
  (∀ {α : Type} (l : List α), l ++ [] = l) ∧
  (∀ {α : Type} (a : α) (l r : List α), (a :: l) ++ r = a :: (l ++ r)) ∧
  (∀ {α β : Type} (g : α → β), List.map g [] = []) ∧
  (∀ {α β : Type} (g : α → β) (a : α) (l : List α), List.map g (a :: l) = g a :: List.map g l) ∧
  (∀ {α : Type}, ([] : List α).length = 0) ∧
  (∀ {α : Type} (a : α) (l : List α), (a :: l).length = l.length + 1) ∧
  (∀ k n, r_i k n = [.i k n]) ∧
  (∀ x, r_b x = [.b x]) ∧
  (∀ x, r_s x = [.s x]) ∧
  (∀ {α : Type} (e : Nat) (g : α → List PV) (l : List α), Jcq e g l = [.sl e (l.map g)]) :=
  ⟨@Jlk,
  @Jl3,
  @JlZ,
  @Jl6,
  @Jm1,
  @JlK,
  @JkX,
  @Jlz,
  @Jla,
  @Jjq,
  @Jm2⟩
set_option maxRecDepth 30000 in
theorem Ra : (∀ F new env sto g n x, rdO F (.load g n x) new ⟨env, sto⟩ = rb (evv x env) fun a => Ja ((J0T g n a).reads ⟨env, sto⟩)) ∧
  (∀ s g n b o, Ja ((J0T g n (.ptr b o)).reads s) = [b]) ∧
  (∀ s g n o cs, Ja ((J0T g n (.cp cs o)).reads s) = []) ∧
  (∀ s g n b e i o, Ja ((J0T g n (.ep b e i o)).reads s) = [b]) ∧
  (∀ F new s z, rdO F (.newbox z) new s = [new]) ∧
  (∀ F new env sto n x y, rdO F (.store n x y) new ⟨env, sto⟩ = rb (evv x env) fun a => rb (evv y env) fun c => Ja ((J0G n a c).reads ⟨env, sto⟩)) ∧
  (∀ s n b o v, Ja ((J0G n (.ptr b o) v).reads s) = [b]) ∧
  (∀ s n b e i o c, Ja ((J0G n (.ep b e i o) (.p c)).reads s) = [b]) ∧
  (∀ s n b e i o c, Ja ((J0G n (.ep b e i o) (.data c)).reads s) = [b]) ∧
  (∀ F new env sto g args, rdO F (.call g args 0) new ⟨env, sto⟩ = rb ((evs args).run ⟨env, sto⟩) fun a => Ja ((Jq a).reads ⟨env, sto⟩) ++ rb ((Jq a).run ⟨env, sto⟩) fun a => Ja ((Jy F g a 0 new).reads ⟨env, sto⟩)) ∧
  (∀ F new env sto g args, rdO F (.call g args 1) new ⟨env, sto⟩ = new :: rb (is1 sto[new]?) fun _ => rb ((evs args).run ⟨env, sto⟩) fun a => Ja ((Jq a).reads ⟨env, sto⟩) ++ rb ((Jq a).run ⟨env, sto⟩) fun a => Ja ((Jy F g a 1 new).reads ⟨env, sto⟩)) ∧
  (is1 (some .dead) = some ()) ∧
  (∀ {α β : Type} (a : α) (f : α → List β), rb (some a) f = f a) ∧
  (∀ F new env sto g args, rdO F (.callv g args 0) new ⟨env, sto⟩ = rb (evv g env) fun u => cvl u fun h a1 c1 => rb ((evs args).run ⟨env, sto⟩) fun a => Ja ((Jq (a1 ++ a ++ c1)).reads ⟨env, sto⟩) ++ rb ((Jq (a1 ++ a ++ c1)).run ⟨env, sto⟩) fun a => Ja ((Jy F h a 0 new).reads ⟨env, sto⟩)) ∧
  (∀ {α : Type} (f : FuncId) (a c : List AV) (k : FuncId → List AV → List AV → List α), cvl (.fn f a c) k = k f a c) ∧
  (∀ s, Ja ((Jq []).reads s) = []) ∧
  (∀ s c r, Ja ((Jq (.p c :: r)).reads s) = Ja ((Jq r).reads s)) ∧
  (∀ s c r, Ja ((Jq (.data c :: r)).reads s) = Ja ((Jq r).reads s)) ∧
  (∀ s b o r, Ja ((Jq (.ptr b o :: r)).reads s) = Ja ((Jq r).reads s)) ∧
  (∀ s c o r, Ja ((Jq (.cp c o :: r)).reads s) = Ja ((Jq r).reads s)) ∧
  (∀ s b x i o r, Ja ((Jq (.ep b x i o :: r)).reads s) = Ja ((Jq r).reads s)) ∧
  (∀ s b n r, Ja ((Jq (.slr b 0 n :: r)).reads s) = b :: rb ((J4g (.slr b 0 n)).run s) fun _ => Ja ((Jq r).reads s)) ∧
  (∀ F new s e n z ps, rdO F (.lits false e n z ps) new s = Ja ((fzs (ps.map (·.2))).reads s)) ∧
  (∀ F new env sto e n z ps, rdO F (.lits true e n z ps) new ⟨env, sto⟩ = new :: rb (is1 sto[new]?) fun _ => Ja ((fzs (ps.map (·.2))).reads ⟨env, sto⟩)) ∧
  (∀ s, Ja ((fzs []).reads s) = []) ∧
  (∀ env sto x r, Ja ((fzs (x :: r)).reads ⟨env, sto⟩) = rb (evv x env) fun v => Ja ((fz v).reads ⟨env, sto⟩) ++ rb ((fz v).run ⟨env, sto⟩) fun _ => Ja ((fzs r).reads ⟨env, sto⟩)) ∧
  (∀ s c, Ja ((fz (.p c)).reads s) = []) ∧
  (∀ s c, Ja ((fz (.data c)).reads s) = []) ∧
  (∀ s b n, Ja ((fz (.slr b 0 n)).reads s) = [b]) ∧
  (∀ F new env sto x, rdO F (.conv .toStr x) new ⟨env, sto⟩ = rb (evv x env) fun a => Ja ((JY 1 a).reads ⟨env, sto⟩)) ∧
  (∀ s e b n, Ja ((JY e (.slr b 0 n)).reads s) = [b]) ∧
  (∀ s e z rows, Ja ((JY e (.p (.sl z rows))).reads s) = []) ∧
  (∀ F new env sto e x i, rdO F (.iaddr e x i) new ⟨env, sto⟩ = rb (evv x env) fun a => rb (evv i env) fun c => Ja ((J1v e a c).reads ⟨env, sto⟩)) ∧
  (∀ s e b n k i, Ja ((J1v e (.slr b 0 n) (.p (.i k i))).reads s) = [b]) ∧
  (∀ s e z rows k i, Ja ((J1v e (.p (.sl z rows)) (.p (.i k i))).reads s) = []) ∧
  (∀ a b c d, pkk (some (a, b)) (some (c, d)) = (J2R b c && J2R b d && J2R a d)) ∧
  (∀ b, J2R [] b = true) ∧
  (∀ x a b, J2R (x :: a) b = (!(b.contains x) && J2R a b)) ∧
  (∀ x, ([] : List Nat).contains x = false) ∧
  (∀ (x y : Nat) (l : List Nat), (y :: l).contains x = (x == y || l.contains x)) ∧
  (∀ a, (true && a) = a) ∧
  (∀ a, (false && a) = false) ∧
  (∀ a, (true || a) = true) ∧
  (∀ a, (false || a) = a) :=
  ⟨by intro F new env sto g n x; exact Jke ..,
  by intro s g n b o; exact JjZ ..,
  by intro s g n o cs; exact Jl2 ..,
  by intro s g n b e i o; exact JlU ..,
  by intro F new s z; exact JhK ..,
  by intro F new env sto n x y; exact JiR ..,
  by intro s n b o v; exact JkN ..,
  by intro s n b e i o c; exact Jjn ..,
  by intro s n b e i o c; exact JiM ..,
  by intro F new env sto g args; exact JiO ..,
  by intro F new env sto g args; exact Jji ..,
  rfl,
  by intros; rfl,
  by intro F new env sto g args; exact JgP ..,
  by intros; rfl,
  by intros; rfl,
  by intro s c r; exact J6V s rfl r,
  by intro s c r; exact J6V s rfl r,
  by intro s b o r; exact J6V s rfl r,
  by intro s c o r; exact J6V s rfl r,
  by intro s b x i o r; exact J6V s rfl r,
  by intro s b n r; exact JjL ..,
  by intro F new s e n z ps; exact Jjl ..,
  by intro F new env sto e n z ps; exact Jit ..,
  by intros; rfl,
  by intro env sto x r; exact Jlt ..,
  by intros; rfl,
  by intros; rfl,
  by intro s b n; exact J90 ..,
  by intro F new env sto x; exact JiK ..,
  by intro s e b n; exact Jht ..,
  by intro s e z rows; exact JiW ..,
  by intro F new env sto e x i; exact Jj7 ..,
  by intro s e b n k i; exact Jhk ..,
  by intro s e z rows k i; exact JhS ..,
  by intros; rfl,
  by intros; rfl,
  by intro x a b; simp [J2R],
  by intros; rfl,
  by intro x y l; rw [List.contains_cons],
  by intro a; simp,
  by intro a; simp,
  by intro a; simp,
  by intro a; simp⟩
end Go.Am
end
