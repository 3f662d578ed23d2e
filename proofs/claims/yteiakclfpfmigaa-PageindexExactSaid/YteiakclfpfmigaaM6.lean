/-
  Parts of a proof: AmEv.
-/
import Derived.Test.YteiakclfpfmigaaM5
set_option linter.unusedSimpArgs false
set_option linter.unusedVariables false
section
namespace Go.Am
@[congr] theorem Juj {T : J5V} {f : AFn} {m : Nat} {k : List Fr} {o o' : Option Out} (h : o = o') : rk T f m k o = rk T f m k o' := by rw [h]
def tdn (e : AX) (o : Option St) : Option Out := match o with
  | some s => some (e, s)
  | none => none
def JnU (fresh : Bool) (m : Nat) (vs : List AV) (sto : List Blk) (ids : List Nat) : Option Res :=
  if J41 ids = true then (fin.finL m ids sto vs).bind fun ws => (J48 m ids sto (sto.take m)).bind fun l => (J7v sto ids).bind fun q => (J48 m ids sto q).bind fun q => some (one ws, l ++ q) else none
def JhF (res : List JbV) (fresh : Bool) (m : Nat) (s : St) : Option Res :=
  ((J6x res).run s).bind fun vs => if s.sto.length = m then some (one vs, s.sto) else JnU fresh m vs s.sto (J1p m fresh s.sto (J7Y s.sto (J0a.entsOfL vs []) (J0a.entsOfL vs [])))
theorem Jh2 (res : List JbV) (fresh : Bool) (m : Nat) (s : St) : J54 ⟨0, 0, .skip, res, fresh⟩ m s = JhF res fresh m s := by
  unfold J54 JhF
  dsimp only
  cases (J6x res).run s with
  | none => rfl
  | some vs =>
    simp only [Option.bind_some]
    split
    · rfl
    · unfold JnU
      split
      · generalize J1p m fresh s.sto _ = ids
        cases fin.finL m ids s.sto vs <;> cases J48 m ids s.sto (s.sto.take m) <;> cases J7v s.sto ids <;> try rfl
        rename_i q
        simp only [Option.bind_some]
        cases J48 m ids s.sto q <;> rfl
      · rfl
theorem Jrw (T : J5V) (f : AFn) (m : Nat) (s : St) : rk T f m [] (some (.normal, s)) = JhF f.res f.fresh m s := (Jpg T f m s).trans (Jh2 ..)
theorem Jqr (T : J5V) (f : AFn) (m : Nat) (s : St) : rk T f m [] (some (.ret, s)) = JhF f.res f.fresh m s := (Jq8 T f m s).trans (Jh2 ..)
def dds {α : Type} (n new : Nat) (sto : List Blk) (o : Option α) : Option α := match (J77 new n).run ⟨[], sto⟩ with
  | some _ => o
  | none => none
def dd1 {α : Type} (b : Option Blk) (o : Option α) : Option α := match b with
  | some .dead => o
  | _ => none
@[congr] theorem JtY {α : Type} {b b' : Option Blk} {o : Option α} (h : b = b') : dd1 b o = dd1 b' o := by rw [h]
theorem Juf {α : Type} (new : Nat) (sto : List Blk) (o : Option α) : dds 1 new sto o = dd1 sto[new]? o := by
  unfold dds dd1
  simp only [J77, RM.run]
  cases sto[new]? with
  | none => rfl
  | some b => cases b <;> rfl
section
variable {F : Orc} {r : List J1a} {new d : Nat} {env : List (Nat × AV)} {sto : List Blk}
theorem Jme (n : Nat) : ∀ new, (J77 new n).run ⟨env, sto⟩ = (J77 new n).run ⟨[], sto⟩ := by
  induction n with
  | zero => intro new; rfl
  | succ n ih =>
    intro new
    simp only [J77, RM.run]
    cases sto[new]? with
    | none => rfl
    | some b => cases b <;> first | exact ih _ | rfl
def lgA (l : Option Log) (a b : List Nat) : Option Log := l.map (· ++ [(a, b)])
def rdO (F : Orc) (op : AOp) (new : Nat) (s : St) : List Nat := Jn ((opD F op new).reads s)
abbrev GR := Option (St × Option Log)
def JD (F : Orc) : List J1a → Nat → St → Option Log → GR
  | [], _, s, l => some (s, l)
  | i :: r, new, s, l => match (J1V F i new).run s with
    | some e => JD F r (new + JR i.op) (put i.dst e s) (lgA l (Jn ((J1V F i new).reads s)) (e.ws.map (·.1)))
    | none => none
theorem Jpc (F : Orc) (ins : List J1a) : ∀ new s, JD F ins new s none = (J3j F ins new s).map fun s => (s, none) := by
  induction ins with
  | nil => intro new s; rfl
  | cons i r ih =>
    intro new s
    simp only [JD, J3j]
    cases (J1V F i new).run s with
    | none => rfl
    | some e => exact ih _ _
theorem JpT (F : Orc) (ins : List J1a) : ∀ new s l, JD F ins new s (some l) = (J5x F ins new s l).map fun x => (x.1, some x.2) := by
  induction ins with
  | nil => intro new s l; rfl
  | cons i r ih =>
    intro new s l
    simp only [JD, J5x]
    cases (J1V F i new).run s with
    | none => rfl
    | some e => exact ih _ _ _
def JpY (o : GR) : Option Out := match o with
  | some (s, _) => some (.normal, s)
  | none => none
def Jnu (ps : List (Nat × Nat)) (o : GR) : Option Out := match o with
  | some (s, some l) => if J8S l ps = true then some (.normal, s) else none
  | _ => none
theorem Jrg (T : J5V) (f : AFn) (m : Nat) (k : List Fr) (d ins env sto) : rk T f m k (X T (.reg d [] ins) ⟨env, sto⟩) = rk T f m k (JpY (JD (AF T) ins sto.length ⟨env, room (news ins) sto⟩ none)) := by
  rw [Jsu, Jpc]
  cases J3j (AF T) ins sto.length ⟨env, room (news ins) sto⟩ <;> rfl
theorem Jsm (T : J5V) (f : AFn) (m : Nat) (k : List Fr) (d p ps ins env sto) : rk T f m k (X T (.reg d (p :: ps) ins) ⟨env, sto⟩) = rk T f m k (Jnu (p :: ps) (JD (AF T) ins sto.length ⟨env, room (news ins) sto⟩ (some []))) := by
  rw [JqX, JpT]
  simp only [region]
  cases J5x (AF T) ins sto.length ⟨env, room (news ins) sto⟩ [] with
  | none => rfl
  | some x =>
    obtain ⟨s, l⟩ := x
    simp only [Option.map_some, Jnu]
    split <;> rfl
theorem stD {lg : Option Log} (op : AOp) : JD F (⟨op, some d, none⟩ :: r) new ⟨env, sto⟩ lg = dds (JR op) new sto (((opR F op new).run ⟨env, sto⟩).bind fun e => JD F r (new + JR op) ⟨(d, e.val) :: env, upd e.ws sto⟩ (lgA lg (rdO F op new ⟨env, sto⟩) (e.ws.map (·.1)))) := by
  have e0 : (J1V F ⟨op, some d, none⟩ new).run ⟨env, sto⟩ = dds (JR op) new sto ((opR F op new).run ⟨env, sto⟩) := by
    simp only [J1V, opD, run_bind, Jme (env := env)]
    unfold dds
    cases (J77 new (JR op)).run ⟨[], sto⟩ <;> rfl
  simp only [JD, e0]
  unfold dds
  cases (J77 new (JR op)).run ⟨[], sto⟩ with
  | none => rfl
  | some u => simp only []; cases (opR F op new).run ⟨env, sto⟩ <;> rfl
theorem Jlt {lg : Option Log} (op : AOp) : JD F (⟨op, none, none⟩ :: r) new ⟨env, sto⟩ lg = dds (JR op) new sto (((opR F op new).run ⟨env, sto⟩).bind fun e => JD F r (new + JR op) ⟨env, upd e.ws sto⟩ (lgA lg (rdO F op new ⟨env, sto⟩) (e.ws.map (·.1)))) := by
  have e0 : (J1V F ⟨op, none, none⟩ new).run ⟨env, sto⟩ = dds (JR op) new sto ((opR F op new).run ⟨env, sto⟩) := by
    simp only [J1V, opD, run_bind, Jme (env := env)]
    unfold dds
    cases (J77 new (JR op)).run ⟨[], sto⟩ <;> rfl
  simp only [JD, e0]
  unfold dds
  cases (J77 new (JR op)).run ⟨[], sto⟩ with
  | none => rfl
  | some u => simp only []; cases (opR F op new).run ⟨env, sto⟩ <;> rfl
theorem st0 {lg : Option Log} {op : AOp} (h : JR op = 0) : JD F (⟨op, some d, none⟩ :: r) new ⟨env, sto⟩ lg = ((opR F op new).run ⟨env, sto⟩).bind fun e => JD F r new ⟨(d, e.val) :: env, upd e.ws sto⟩ (lgA lg (rdO F op new ⟨env, sto⟩) (e.ws.map (·.1))) := by
  rw [stD, h]; rfl
theorem Jul {lg : Option Log} {op : AOp} (h : JR op = 0) : JD F (⟨op, none, none⟩ :: r) new ⟨env, sto⟩ lg = ((opR F op new).run ⟨env, sto⟩).bind fun e => JD F r new ⟨env, upd e.ws sto⟩ (lgA lg (rdO F op new ⟨env, sto⟩) (e.ws.map (·.1))) := by
  rw [Jlt, h]; rfl
def pk (u : AV) (a b : Option AV) : Option AV := match u with
  | .p (.b x) => if x = true then a else b
  | _ => none
@[congr] theorem JtX {α : Type} {n n' new new' : Nat} {sto : List Blk} {o : Option α} (h : n = n') (h' : new = new') : dds n new sto o = dds n' new' sto o := by rw [h, h']
theorem J1R {α : Type} (n new : Nat) (sto : List Blk) : dds n new sto (none : Option α) = none := by
  unfold dds; split <;> rfl
theorem JpL {α β : Type} (n new : Nat) (sto : List Blk) (o : Option α) (g : α → Option β) : dds n new sto (o.bind g) = o.bind fun a => dds n new sto (g a) := by
  cases o with
  | none => exact J1R ..
  | some a => rfl
theorem Jts {β : Type} {K : Eff → Option β} {o : Option AV} : ((o.bind fun v => some ⟨v, []⟩).bind K) = o.bind fun v => K ⟨v, []⟩ := by cases o <;> rfl
def pkk (a b : Option (List Nat × List Nat)) : Bool := match a, b with
  | some a, some b => J67 a.2 b.1 && J67 a.2 b.2 && J67 a.1 b.2
  | _, _ => false
theorem bi {α β : Type} {o : Option α} {f : α → Option β} {r : β} (h : Option.bind o f = some r) : ∃ x, o = some x ∧ f x = some r := Option.bind_eq_some_iff.1 h
theorem sj {α : Type} {a b : α} (h : some a = some b) : a = b := Option.some.inj h
theorem mi {α β : Type} {o : Option α} {f : α → β} {r : β} (h : Option.map f o = some r) : ∃ x, o = some x ∧ f x = r := Option.map_eq_some_iff.1 h
inductive Dum {α : Type} : α → Type where
  | mk (a : α) : Dum a
def J7R {α : Type} (a : α) (_ : Dum a) : α := a
def pkh {β : Type} (u : AV) (a b : Option AV) (K : AV → Option β) : Option β := (pk u a b).bind K
theorem Jq6 {β : Type} {K : Eff → Option β} {a b : Opd} {o : Option AV} : ((o.bind fun u => RM.run (match u with
    | .p (.b x) => if x = true then (ev a).bind fun v => .ret ⟨v, []⟩ else (ev b).bind fun v => .ret ⟨v, []⟩
    | _ => .fail) ⟨env, sto⟩).bind K) = o.bind fun u => (pk u (evv a env) (evv b env)).bind fun v => K ⟨v, []⟩ := by
  cases o with
  | none => rfl
  | some u =>
    simp only [Option.bind_some]
    cases u with
    | p c =>
      cases c with
      | b x =>
        cases x with
        | true => simp only [if_true, run_bind, J0N, pk]; cases evv a env <;> rfl
        | false => simp only [Bool.false_eq_true, if_false, run_bind, J0N, pk]; cases evv b env <;> rfl
      | _ => rfl
    | _ => rfl
theorem Jdf {β : Type} {K : Eff → Option β} {o : Option AV} (g : AV → Option AV) : ((o.bind fun a => (Go.Am.val (g a)).run ⟨env, sto⟩).bind K) = o.bind fun a => (g a).bind fun v => K ⟨v, []⟩ := by
  cases o with
  | none => rfl
  | some a => simp only [Option.bind_some]; cases g a <;> rfl
theorem Jje {β : Type} {K : Eff → Option β} {o o' : Option AV} (g : AV → AV → Option AV) : ((o.bind fun a => o'.bind fun c => (Go.Am.val (g a c)).run ⟨env, sto⟩).bind K) = o.bind fun a => o'.bind fun c => (g a c).bind fun v => K ⟨v, []⟩ := by
  cases o with
  | none => rfl
  | some a =>
    cases o' with
    | none => rfl
    | some c => simp only [Option.bind_some]; cases g a c <;> rfl
theorem JlD {β : Type} {o : Option AV} (g : AV → Option Eff) {k : Eff → Option β} : ((o.bind fun a => g a).bind k) = o.bind fun a => (g a).bind k := by
  cases o <;> rfl
theorem Jp2 {β : Type} {o o' : Option AV} {e b : Nat} {z : List PV} {s : St} {k : Eff → Option β} : ((o.bind fun a => o'.bind fun c => RM.run (match zrs e z c with
    | some c1 => J7j e b a c1
    | none => .fail) s).bind k) = o.bind fun a => o'.bind fun c => (zrs e z c).bind fun c1 => ((J7j e b a c1).run s).bind k := by
  cases o with
  | none => rfl
  | some a => cases o' with
    | none => rfl
    | some c =>
      simp only [Option.bind_some]
      cases zrs e z c <;> rfl
theorem JhL {β : Type} {o o' : Option AV} (g : AV → AV → Option Eff) {k : Eff → Option β} : ((o.bind fun a => o'.bind fun c => g a c).bind k) = o.bind fun a => o'.bind fun c => (g a c).bind k := by
  cases o <;> cases o' <;> rfl
def Jjf (a c : AV) : Option AV := match a, c with
  | .p (.s l), .p (.i _ n) => if 0 ≤ n then
      match l[n.toNat]? with
      | some u => some (.p (.i .u8 u.toNat))
      | none => none
    else none
  | _, _ => none
theorem Jsk {β : Type} {K : Eff → Option β} {o o' : Option AV} : ((o.bind fun a => o'.bind fun c => RM.run (match a, c with
    | .p (.s l), .p (.i _ n) => if 0 ≤ n then
        match l[n.toNat]? with
        | some u => .ret ⟨.p (.i .u8 u.toNat), []⟩
        | none => .fail
      else .fail
    | _, _ => .fail) ⟨env, sto⟩).bind K) = o.bind fun a => o'.bind fun c => (Jjf a c).bind fun v => K ⟨v, []⟩ := by
  cases o with
  | none => rfl
  | some a =>
    cases o' with
    | none => rfl
    | some c =>
      simp only [Option.bind_some, Jjf]
      split
      · split
        · split <;> rfl
        · rfl
      · rfl
theorem JsT (l : List UInt8) (k : IntKind) (n : Int) : Jjf (.p (.s l)) (.p (.i k n)) = (Jfi l n).map fun v => .p (.i .u8 v) := by
  simp only [Jjf, Jfi]
  by_cases h : 0 ≤ n
  · simp only [if_pos h]; cases l[n.toNat]? <;> rfl
  · simp only [if_neg h]; rfl
def Ji6 (g : Bool) (n e : Nat) (a c : AV) : Option AV := match c with
  | .p (.i _ i) => if 0 ≤ i ∧ i < n then J5W g (i.toNat * e) e a else none
  | _ => none
theorem Jrl {β : Type} {K : Eff → Option β} {g : Bool} {n e : Nat} {o o' : Option AV} : ((o.bind fun a => o'.bind fun c => RM.run (match c with
    | .p (.i _ i) => if 0 ≤ i ∧ i < n then Go.Am.val (J5W g (i.toNat * e) e a) else .fail
    | _ => .fail) ⟨env, sto⟩).bind K) = o.bind fun a => o'.bind fun c => (Ji6 g n e a c).bind fun v => K ⟨v, []⟩ := by
  cases o with
  | none => rfl
  | some a =>
    cases o' with
    | none => rfl
    | some c =>
      simp only [Option.bind_some, Ji6]
      split
      · split
        · cases J5W g _ e a <;> rfl
        · rfl
      · rfl
theorem Jt4 (g : Bool) (n e : Nat) (cs : List PV) (k : IntKind) (i : Int) : Ji6 g n e (.data cs) (.p (.i k i)) = if 0 ≤ i ∧ i < n then (sub cs (i.toNat * e) e).bind (J29 g) else none := by
  simp only [Ji6, J5W]
  split
  · cases sub cs (i.toNat * e) e <;> rfl
  · rfl
def JlQ : AV → Option AV
  | .ptr b o => some (.ptr b o)
  | .cp cs o => some (.cp cs o)
  | .ep b e i o => some (.ep b e i o)
  | .fn f u c => some (.fn f u c)
  | _ => none
theorem Js1 {β : Type} {K : Eff → Option β} {o : Option AV} : ((o.bind fun a => RM.run (match a with
    | .ptr b o => .ret ⟨.ptr b o, []⟩
    | .cp cs o => .ret ⟨.cp cs o, []⟩
    | .ep b e i o => .ret ⟨.ep b e i o, []⟩
    | .fn f u c => .ret ⟨.fn f u c, []⟩
    | _ => .fail) ⟨env, sto⟩).bind K) = o.bind fun a => (JlQ a).bind fun v => K ⟨v, []⟩ := by
  cases o with
  | none => rfl
  | some a => cases a <;> rfl
def cvR (k : CK) (a : AV) (new : Nat) : RM Eff := match k, a with
  | .int k, .p (.i _ n) => .ret ⟨.p (.i k (k.wrap n)), []⟩
  | .same, .p (.s l) => .ret ⟨.p (.s l), []⟩
  | .toStr, a => (J0n 1 a).bind fun rows => match J6s rows with
    | some l => .ret ⟨.p (.s l), []⟩
    | none => .fail
  | .toBytes own, .p (.s l) => if own then .ret ⟨.slr new 0 l.length, [(new, .arr true 1 (l.map J4Q))]⟩ else .ret ⟨.p (.sl 1 (l.map J4Q)), []⟩
  | _, _ => .fail
theorem Jpy {lg : Option Log} {c : CK} {x : Opd} : JD F (⟨.conv c x, some d, none⟩ :: r) new ⟨env, sto⟩ lg = (evv x env).bind fun a => dds (JR (.conv c x)) new sto (((cvR c a new).run ⟨env, sto⟩).bind fun e => JD F r (new + JR (.conv c x)) ⟨(d, e.val) :: env, upd e.ws sto⟩ (lgA lg (rdO F (.conv c x) new ⟨env, sto⟩) (e.ws.map (·.1)))) := by
  rw [stD]
  have : (opR F (.conv c x) new).run ⟨env, sto⟩ = (evv x env).bind fun a => (cvR c a new).run ⟨env, sto⟩ := by
    simp only [opR, run_bind, J0N]; rfl
  rw [this, JlD (fun a => (cvR c a new).run ⟨env, sto⟩), JpL]
theorem Jol {lg : Option Log} {z : List PV} {ps : List (Nat × Nat × Opd)} : JD F (⟨.build z ps, some d, none⟩ :: r) new ⟨env, sto⟩ lg = ((J30 ps).run ⟨env, sto⟩).bind fun l => (J1k l (z.map .p)).bind fun cs => (J1T true cs).bind fun v => JD F r new ⟨(d, v) :: env, sto⟩ (lgA lg (rdO F (.build z ps) new ⟨env, sto⟩) []) := by
  rw [st0 (h := rfl)]
  simp only [opR, run_bind]
  cases (J30 ps).run ⟨env, sto⟩ with
  | none => rfl
  | some l =>
    simp only [Option.bind_some]
    cases J1k l (z.map .p) with
    | none => rfl
    | some cs => simp only [Option.bind_some]; cases J1T true cs <;> rfl
def J98 (x : Option Opd) (env : List (Nat × AV)) : Option (Option AV) := match x with
  | none => some none
  | some x => (evv x env).map some
theorem Jsh (x : Option Opd) : (evo x).run ⟨env, sto⟩ = J98 x env := by
  cases x with
  | none => rfl
  | some x => simp only [evo, run_bind, J0N, J98]; cases evv x env <;> rfl
def slR (s : SK) (a : AV) (lo hi mx : Option AV) : RM Eff := match a with
  | .slr b i n => (fz (.slr b i n)).bind fun y => match y.1 with
    | [c] => match J5X s (.p c) lo hi mx with
      | some v => .ret ⟨v, y.2⟩
      | none => .fail
    | _ => .fail
  | a => Go.Am.val (J5X s a lo hi mx)
theorem JoH {lg : Option Log} {s : SK} {x : Opd} {lo hi mx : Option Opd} : JD F (⟨.slice s x lo hi mx, some d, none⟩ :: r) new ⟨env, sto⟩ lg = (evv x env).bind fun a => (J98 lo env).bind fun lo1 => (J98 hi env).bind fun hi1 => (J98 mx env).bind fun mx1 => ((slR s a lo1 hi1 mx1).run ⟨env, sto⟩).bind fun e => JD F r new ⟨(d, e.val) :: env, upd e.ws sto⟩ (lgA lg (rdO F (.slice s x lo hi mx) new ⟨env, sto⟩) (e.ws.map (·.1))) := by
  rw [st0 (h := rfl)]
  have : (opR F (.slice s x lo hi mx) new).run ⟨env, sto⟩ = (evv x env).bind fun a => (J98 lo env).bind fun lo => (J98 hi env).bind fun hi => (J98 mx env).bind fun mx => (slR s a lo hi mx).run ⟨env, sto⟩ := by
    simp only [opR, run_bind, J0N, Jsh]; rfl
  rw [this]
  cases evv x env with
  | none => rfl
  | some a =>
    cases J98 lo env with
    | none => rfl
    | some lo =>
      cases J98 hi env with
      | none => rfl
      | some hi => cases J98 mx env <;> rfl
def slX (s : SK) (x : AV) (lo hi : Option AV) : Option AV := J5X s x lo hi none
theorem Jnz {lg : Option Log} {z : List PV} : JD F (⟨.newbox z, some d, none⟩ :: r) new ⟨env, sto⟩ lg = dds 1 new sto (JD F r (new + 1) ⟨(d, .ptr new 0) :: env, sto.set new (.box (z.map .p))⟩ (lgA lg (rdO F (.newbox z) new ⟨env, sto⟩) [new])) := by
  rw [stD]; rfl
def Jm9 (e b : Nat) (a : AV) (add : List (List PV)) : Option (List (List PV)) := match a with
  | .p (.slc e' rows) => if e = e' ∧ 0 < add.length ∧ J5E (rows.length + add.length) b = true then some (rows ++ add) else none
  | _ => none
theorem JpA {lg : Option Log} {e b : Nat} {z : List PV} {x y : Opd} : JD F (⟨.appc e b z x y, some d, none⟩ :: r) new ⟨env, sto⟩ lg = (evv x env).bind fun a => (evv y env).bind fun c => ((J0n e c).run ⟨env, sto⟩).bind fun add => (Jm9 e b a add).bind fun rows => dds 1 new sto (JD F r (new + 1) ⟨(d, .slr new 0 rows.length) :: env, sto.set new (.arr true e rows)⟩ (lgA lg (rdO F (.appc e b z x y) new ⟨env, sto⟩) [new])) := by
  rw [stD]
  simp only [opR, run_bind, J0N, JR]
  cases evv x env with
  | none => exact J1R ..
  | some a =>
    simp only [Option.bind_some]
    cases evv y env with
    | none => exact J1R ..
    | some c =>
      simp only [Option.bind_some]
      cases hq : (J0n e c).run ⟨env, sto⟩ with
      | none =>
        have : (JhM e b a c new).run ⟨env, sto⟩ = none := by
          unfold JhM; split
          · simp only [run_bind, hq]; rfl
          · rfl
        rw [this]; exact J1R ..
      | some add =>
        simp only [Option.bind_some]
        have : (JhM e b a c new).run ⟨env, sto⟩ = (Jm9 e b a add).map fun rows => ⟨.slr new 0 rows.length, [(new, .arr true e rows)]⟩ := by
          cases a with
          | p q => cases q with
            | slc e' rows =>
              simp only [JhM, Jm9, run_bind, hq, Option.bind_some]
              split
              · simp [J1l]
              · rfl
            | _ => rfl
          | _ => rfl
        rw [this]
        cases Jm9 e b a add with
        | none => exact J1R ..
        | some rows => rfl
theorem Jqq {lg : Option Log} {e b : Nat} {z : List PV} {y : Opd} : JD F (⟨.appn e b z y, some d, none⟩ :: r) new ⟨env, sto⟩ lg = (evv y env).bind fun c => ((J0n e c).run ⟨env, sto⟩).bind fun rows => if J5E rows.length b = true then dds 1 new sto (JD F r (new + 1) ⟨(d, .slr new 0 rows.length) :: env, sto.set new (.arr true e rows)⟩ (lgA lg (rdO F (.appn e b z y) new ⟨env, sto⟩) [new])) else none := by
  rw [stD]
  simp only [opR, run_bind, J0N, JR]
  cases evv y env with
  | none => exact J1R ..
  | some c =>
    simp only [Option.bind_some]
    cases (J0n e c).run ⟨env, sto⟩ with
    | none => exact J1R ..
    | some rows =>
      simp only [Option.bind_some]
      split
      · rfl
      · exact J1R ..
theorem JoM {lg : Option Log} {e : Nat} {x : Opd} : JD F (⟨.mkarr e x, some d, none⟩ :: r) new ⟨env, sto⟩ lg = dds 1 new sto (JD F r (new + 1) ⟨(d, .slr new 0 0) :: env, sto.set new (.arr true e [])⟩ (lgA lg (rdO F (.mkarr e x) new ⟨env, sto⟩) [new])) := by
  rw [stD]; rfl
def bxP (n : Nat) (a : AV) : Option (List AV) := match cellsOf a with
  | some cs => if cs.length = n then some cs else none
  | none => none
theorem Jsn {lg : Option Log} {n : Nat} {x : Opd} : JD F (⟨.box n x, some d, none⟩ :: r) new ⟨env, sto⟩ lg = (evv x env).bind fun a => (bxP n a).bind fun cs => dds 1 new sto (JD F r (new + 1) ⟨(d, .ptr new 0) :: env, sto.set new (.box cs)⟩ (lgA lg (rdO F (.box n x) new ⟨env, sto⟩) [new])) := by
  rw [stD]
  simp only [opR, run_bind, J0N, JR]
  cases evv x env with
  | none => exact J1R ..
  | some a =>
    simp only [Option.bind_some, bxP]
    cases cellsOf a with
    | none => exact J1R ..
    | some cs =>
      dsimp only
      split
      · rfl
      · exact J1R ..
def ltR (o : Bool) (e n : Nat) (z : List PV) (ps : List (Nat × Opd)) (new : Nat) : RM Eff := (fzs (ps.map (·.2))).bind fun a =>
    match J4B e ((ps.map (·.1)).zip a.1) (List.replicate n z) with
    | some rows => if o then .ret ⟨.slr new 0 n, a.2 ++ [(new, .arr true e rows)]⟩ else .ret ⟨.p (.sl e rows), a.2⟩
    | none => .fail
theorem Jpm {lg : Option Log} {o : Bool} {e n : Nat} {z : List PV} {ps : List (Nat × Opd)} : JD F (⟨.lits o e n z ps, some d, none⟩ :: r) new ⟨env, sto⟩ lg = dds (if o then 1 else 0) new sto (((ltR o e n z ps new).run ⟨env, sto⟩).bind fun x => JD F r (new + if o then 1 else 0) ⟨(d, x.val) :: env, upd x.ws sto⟩ (lgA lg (rdO F (.lits o e n z ps) new ⟨env, sto⟩) (x.ws.map (·.1)))) := by
  rw [stD]; rfl
theorem Jtd (env : List (Nat × AV)) (sto : List Blk) (o : Bool) (e n new : Nat) (z : List PV) (ps : List (Nat × Opd)) : (ltR o e n z ps new).run ⟨env, sto⟩ = ((fzs (ps.map (·.2))).run ⟨env, sto⟩).bind fun a => (J4B e ((ps.map (·.1)).zip a.1) (List.replicate n z)).map fun rows => if o then ⟨.slr new 0 n, a.2 ++ [(new, .arr true e rows)]⟩ else ⟨.p (.sl e rows), a.2⟩ := by
  simp only [ltR, run_bind]
  cases (fzs (ps.map (·.2))).run ⟨env, sto⟩ with
  | none => rfl
  | some a =>
    simp only [Option.bind_some]
    cases J4B e ((ps.map (·.1)).zip a.1) (List.replicate n z) with
    | none => rfl
    | some rows => cases o <;> rfl
def mkP (o : Bool) (e b : Nat) (z : List PV) (a c : AV) (new : Nat) : Option Eff := match a, c with
  | .p (.i _ n), .p (.i _ m) =>
    if 0 ≤ n ∧ n ≤ m ∧ b * m ≤ 281474976710656 ∧ m ≤ 281474976710656 then
      some (if o then ⟨.slr new 0 n.toNat, [(new, .arr true e (List.replicate n.toNat z))]⟩ else ⟨.p (.sl e (List.replicate n.toNat z)), []⟩)
    else none
  | _, _ => none
theorem JsL (o : Bool) (e b : Nat) (z : List PV) (a c : AV) (new : Nat) (s : St) : RM.run (match a, c with
    | .p (.i _ n), .p (.i _ m) =>
      if 0 ≤ n ∧ n ≤ m ∧ b * m ≤ 281474976710656 ∧ m ≤ 281474976710656 then
        if o then .ret ⟨.slr new 0 n.toNat, [(new, .arr true e (List.replicate n.toNat z))]⟩
        else .ret ⟨.p (.sl e (List.replicate n.toNat z)), []⟩
      else .fail
    | _, _ => .fail) s = mkP o e b z a c new := by
  unfold mkP
  split
  · rename_i k n k2 m
    by_cases h : 0 ≤ n ∧ n ≤ m ∧ b * m ≤ 281474976710656 ∧ m ≤ 281474976710656
    · simp only [if_pos h]; cases o <;> rfl
    · simp only [if_neg h]; rfl
  · rfl
theorem JmR {lg : Option Log} {o : Bool} {e b : Nat} {z : List PV} {l c : Opd} : JD F (⟨.mkslice o e b z l c, some d, none⟩ :: r) new ⟨env, sto⟩ lg = (evv l env).bind fun a => (evv c env).bind fun x => dds (if o then 1 else 0) new sto ((mkP o e b z a x new).bind fun x => JD F r (new + if o then 1 else 0) ⟨(d, x.val) :: env, upd x.ws sto⟩ (lgA lg (rdO F (.mkslice o e b z l c) new ⟨env, sto⟩) (x.ws.map (·.1)))) := by
  rw [stD]
  simp only [opR, run_bind, J0N, JR]
  cases evv l env with
  | none => exact J1R ..
  | some a =>
    cases evv c env with
    | none => exact J1R ..
    | some x =>
      simp only [Option.bind_some]
      exact congrArg (fun y => dds (if o then 1 else 0) new sto (y.bind fun x => JD F r (new + if o then 1 else 0) ⟨(d, x.val) :: env, upd x.ws sto⟩ (lgA lg (rdO F (.mkslice o e b z l c) new ⟨env, sto⟩) (x.ws.map (·.1))))) (JsL o e b z a x new ⟨env, sto⟩)
theorem JgY {F : Orc} {f : FuncId} {args args' : List AV} {b ext i esz : Nat} {row row' : List PV} {rows : List (List PV)} {bs : List Nat} {css css' : List (List AV)} {v : AV} (he : J0a.entsOfL args [] = .elem b ext i :: bs.map .whole) (hn : J41 (b :: bs) = true)
    (hr : ren.renL (fun e => J32 e (.elem b ext i :: bs.map .whole) 0) args = some args') (hp : Ji css = true) (hF : F f args' (.box (row.map .p) :: css.map .box) = some (v, .box (row'.map .p) :: css'.map .box)) (hl : bs.length = css'.length) (hv : Jfz v = true) (hp' : Ji css' = true)
    (ws : List (Nat × Blk)) (new : Nat) (s : St) (ha : (J7E ws b).run s = some (.arr true esz rows)) (hx : ext = rows.length) (hi : rows[i]? = some row) (hb : JB ws s bs css) :
    (Jo F f (args, ws) 0 new).run s = some ⟨v, ws ++ (b, .arr true esz (rows.set i row')) :: bs.zip (css'.map .box)⟩ := by
  have e0 : ((Ent.elem b ext i :: bs.map Ent.whole)).map Ent.id = b :: bs := by rw [List.map_cons, List.map_map]; exact congrArg _ (List.map_id bs)
  have x1 : ∀ acc, (J7m ws (.elem b ext i :: bs.map .whole) acc).run s = some acc := fun acc => JcA hb hp
  have rp : ren.renL (fun e => J32 e (Ent.elem b ext i :: bs.map .whole) 0) (row.map AV.p) = some (row.map AV.p) := J6d (J6 row)
  have i1 : (J4m ws (fun e => J32 e (Ent.elem b ext i :: bs.map .whole) 0) (.elem b ext i :: bs.map .whole)).run s = some (.box (row.map .p) :: css.map .box) := by
    simp only [J4m, run_bind, Jcn, ha, Option.bind_some, hx, if_true, hi, J1l]
    have := Jbv (ρ := fun e => J32 e (Ent.elem b ext i :: bs.map .whole) 0) hb hp
    rw [hx] at this
    rw [this]
    rfl
  have o1 : (J2l ws (Ent.elem b ext i :: bs.map .whole) new (.elem b ext i :: bs.map .whole) (.box (row'.map .p) :: css'.map .box)).run s = some ((b, .arr true esz (rows.set i row')) :: bs.zip (css'.map .box)) := by
    simp only [J2l, run_bind, J9e, ha, Option.bind_some, Jhr, J1l, Jf7 hl hp']
  have e1 : (Blk.box (row'.map AV.p) :: css'.map Blk.box).length = (Ent.elem b ext i :: bs.map Ent.whole).length + 0 := by simp [hl]
  have e2 : (Blk.box (row'.map AV.p) :: css'.map Blk.box).drop (Ent.elem b ext i :: bs.map Ent.whole).length = [] := by simp [hl]
  simp only [Jo, run_bind, he, x1, Option.bind_some, e0, hn, if_true, hr, i1, hF, e1, e2, Jfs hv, J3p, o1, J1l, List.append_nil]
theorem Jqf {F : Orc} {f : FuncId} {args : List AV} {v : AV} (hp : args.all J3X = true) (hF : F f args [] = some (v, [])) (hb : ∀ new, bk [] new v = some v) (ws : List (Nat × Blk)) (new : Nat) (s : St) :
    (Jo F f (args, ws) 0 new).run s = some ⟨v, ws⟩ := by
  have e1 : J0a.entsOfL args [] = [] := J5t hp
  simp [Jo, run_bind, e1, J7m, J1l, J41, J6d hp, J4m, hF, J3p, J2l, hb]
theorem Jiy {F : Orc} {f : FuncId} {args : List AV} {v : AV} {bs : List Blk} {k : Nat} {v' : Nat → AV} {ws' : Nat → List (Nat × Blk)} (hp : args.all J3X = true) (hF : F f args [] = some (v, bs)) (hb : ∀ new, bk [] new v = some (v' new))
    (hn : ∀ new, J3p [] new new bs = some (ws' new)) (hk : bs.length ≤ k) (ws : List (Nat × Blk)) (new : Nat) (s : St) : (J3y F f (args, ws) k new).run s = some ⟨v' new, ws ++ ws' new⟩ := by
  have e1 : J0a.entsOfL args [] = [] := J5t hp
  simp [J3y, run_bind, e1, J7m, J1l, J41, J6d hp, J4m, hF, J2l, hb, hn, hk]
def Jld (b : Nat) (B : Option Blk) (l : List Nat) : List Nat := match B with
  | some (.box _) => b :: l
  | some (.arr _ _ _) => b :: l
  | _ => l
theorem Jsd (m b : Nat) (sto : List Blk) (r : List Ent) : J1p m true sto (.whole b :: r) = if b < m then J1p m true sto r else Jld b sto[b]? (J1p m true sto r) := by
  simp only [J1p, Jld]
  split
  · rfl
  · split <;> simp_all
theorem Jue {α : Type} (n new : Nat) (sto : List Blk) (o : Option α) : dds (n + 1) new sto o = dd1 sto[new]? (dds n (new + 1) sto o) := by
  unfold dds dd1
  simp only [J77, RM.run]
  cases sto[new]? with
  | none => rfl
  | some b => cases b <;> rfl
theorem Jmu {lg : Option Log} {z : List PV} {os : List (Nat × Nat)} : JD F (⟨.newboxo z os, some d, none⟩ :: r) new ⟨env, sto⟩ lg =
    dds (os.length + 1) new sto (JD F r (new + (os.length + 1)) ⟨(d, .ptr (new + os.length) 0) :: env, upd (J3M os new ++ [(new + os.length, .box (J7I os new (z.map .p)))]) sto⟩
      (lgA lg (rdO F (.newboxo z os) new ⟨env, sto⟩) ((J3M os new ++ [(new + os.length, Blk.box (J7I os new (z.map .p)))]).map (·.1)))) := by
  rw [stD]; rfl
theorem JnW {lg : Option Log} {e : Nat} {x : Opd} : JD F (⟨.storen e x, none, none⟩ :: r) new ⟨env, sto⟩ lg =
    (evv x env).bind fun a => dds 1 new sto (((J1M 1 a (.slr new 0 0)).run ⟨env, sto⟩).bind fun q => JD F r (new + 1) ⟨env, upd ((new, .arr true e []) :: q.ws) sto⟩ (lgA lg (rdO F (.storen e x) new ⟨env, sto⟩) (new :: q.ws.map (·.1)))) := by
  rw [Jlt]
  simp only [opR, run_bind, J0N, JR]
  cases evv x env with
  | none => exact J1R ..
  | some a => simp only [Option.bind_some]; cases (J1M 1 a (.slr new 0 0)).run ⟨env, sto⟩ <;> rfl
theorem JnV {lg : Option Log} {z : List PV} {ps : List (Nat × Nat × Opd)} {os : List (Nat × Nat)} : JD F (⟨.buildo z ps os, some d, none⟩ :: r) new ⟨env, sto⟩ lg =
    ((J30 ps).run ⟨env, sto⟩).bind fun l => (J1k l (J7I os new (z.map .p))).bind fun cs => (J1T true cs).bind fun v =>
      dds os.length new sto (JD F r (new + os.length) ⟨(d, v) :: env, upd (J3M os new) sto⟩ (lgA lg (rdO F (.buildo z ps os) new ⟨env, sto⟩) ((J3M os new).map (·.1)))) := by
  rw [stD]
  simp only [opR, run_bind, JR]
  cases (J30 ps).run ⟨env, sto⟩ with
  | none => exact J1R ..
  | some l =>
    simp only [Option.bind_some]
    cases J1k l (J7I os new (z.map .p)) with
    | none => exact J1R ..
    | some cs =>
      simp only [Option.bind_some]
      cases J1T true cs with
      | none => exact J1R ..
      | some v => rfl
theorem Joi {lg : Option Log} {g : FuncId} {kp : List Bool} {args : List Opd} {n : Nat} : JD F (⟨.callo g kp args n, some d, none⟩ :: r) new ⟨env, sto⟩ lg = dds n new sto (((evs args).run ⟨env, sto⟩).bind fun a => ((J2F kp a).run ⟨env, sto⟩).bind fun a => ((J3y F g a n new).run ⟨env, sto⟩).bind fun e => JD F r (new + n) ⟨(d, e.val) :: env, upd e.ws sto⟩ (lgA lg (rdO F (.callo g kp args n) new ⟨env, sto⟩) (e.ws.map (·.1)))) := by
  rw [stD]
  simp only [opR, run_bind, JR]
  cases (evs args).run ⟨env, sto⟩ with
  | none => rfl
  | some a => simp only [Option.bind_some]; cases (J2F kp a).run ⟨env, sto⟩ <;> rfl
theorem JnP {lg : Option Log} {g : FuncId} {kp : List Bool} {args : List Opd} {n : Nat} : JD F (⟨.callo g kp args n, none, none⟩ :: r) new ⟨env, sto⟩ lg = dds n new sto (((evs args).run ⟨env, sto⟩).bind fun a => ((J2F kp a).run ⟨env, sto⟩).bind fun a => ((J3y F g a n new).run ⟨env, sto⟩).bind fun e => JD F r (new + n) ⟨env, upd e.ws sto⟩ (lgA lg (rdO F (.callo g kp args n) new ⟨env, sto⟩) (e.ws.map (·.1)))) := by
  rw [Jlt]
  simp only [opR, run_bind, JR]
  cases (evs args).run ⟨env, sto⟩ with
  | none => rfl
  | some a => simp only [Option.bind_some]; cases (J2F kp a).run ⟨env, sto⟩ <;> rfl
theorem Jkk : ∀ l : List AV, J2F [] l = JM l
  | [] => rfl
  | x :: r => by simp only [J2F, JM, Jkk r]
theorem Jrb (x : AV) (m : List Bool) (r : List AV) : (J2F (false :: m) (x :: r)).run ⟨env, sto⟩ = ((JM [x]).run ⟨env, sto⟩).bind fun a => ((J2F m r).run ⟨env, sto⟩).bind fun c => some (a.1 ++ c.1, a.2 ++ c.2) := by
  simp only [J2F, JM, run_bind]
  cases (J7P x).run ⟨env, sto⟩ with
  | none => rfl
  | some a => simp only [Option.bind_some, RM.run]; cases (J2F m r).run ⟨env, sto⟩ <;> simp
theorem Jr4 (x : AV) (m : List Bool) (r : List AV) : (J2F (true :: m) (x :: r)).run ⟨env, sto⟩ = ((J2F m r).run ⟨env, sto⟩).bind fun c => some (x :: c.1, c.2) := by
  simp only [J2F, run_bind]
  cases (J2F m r).run ⟨env, sto⟩ <;> rfl
theorem Jq7 {lg : Option Log} {g : FuncId} {args : List Opd} {n : Nat} : JD F (⟨.call g args n, some d, none⟩ :: r) new ⟨env, sto⟩ lg = dds n new sto (((evs args).run ⟨env, sto⟩).bind fun a => ((JM a).run ⟨env, sto⟩).bind fun a => ((Jo F g a n new).run ⟨env, sto⟩).bind fun e => JD F r (new + n) ⟨(d, e.val) :: env, upd e.ws sto⟩ (lgA lg (rdO F (.call g args n) new ⟨env, sto⟩) (e.ws.map (·.1)))) := by
  rw [stD]
  simp only [opR, run_bind, JR, Jbk]
  cases (evs args).run ⟨env, sto⟩ with
  | none => rfl
  | some a => simp only [Option.bind_some]; cases (JM a).run ⟨env, sto⟩ <;> rfl
theorem Job {lg : Option Log} {g : FuncId} {args : List Opd} {n : Nat} : JD F (⟨.call g args n, none, none⟩ :: r) new ⟨env, sto⟩ lg = dds n new sto (((evs args).run ⟨env, sto⟩).bind fun a => ((JM a).run ⟨env, sto⟩).bind fun a => ((Jo F g a n new).run ⟨env, sto⟩).bind fun e => JD F r (new + n) ⟨env, upd e.ws sto⟩ (lgA lg (rdO F (.call g args n) new ⟨env, sto⟩) (e.ws.map (·.1)))) := by
  rw [Jlt]
  simp only [opR, run_bind, JR, Jbk]
  cases (evs args).run ⟨env, sto⟩ with
  | none => rfl
  | some a => simp only [Option.bind_some]; cases (JM a).run ⟨env, sto⟩ <;> rfl
def cvg {α : Type} (u : AV) (k : FuncId → List AV → List AV → Option α) : Option α := match u with
  | .fn f a c => k f a c
  | _ => none
theorem JqU {lg : Option Log} {g : FuncId} {a c : List Opd} : JD F (⟨.mkfn g a c, some d, none⟩ :: r) new ⟨env, sto⟩ lg = ((evs a).run ⟨env, sto⟩).bind fun a1 => ((evs c).run ⟨env, sto⟩).bind fun c1 => JD F r new ⟨(d, .fn g a1 c1) :: env, sto⟩ (lgA lg (rdO F (.mkfn g a c) new ⟨env, sto⟩) []) := by
  rw [st0 (h := rfl)]
  simp only [opR, run_bind]
  cases (evs a).run ⟨env, sto⟩ with
  | none => rfl
  | some a1 => simp only [Option.bind_some]; cases (evs c).run ⟨env, sto⟩ <;> rfl
theorem Jp3 {lg : Option Log} {g : Opd} {args : List Opd} {n : Nat} : JD F (⟨.callv g args n, some d, none⟩ :: r) new ⟨env, sto⟩ lg = (evv g env).bind fun u => cvg u fun h a1 c1 => dds n new sto (((evs args).run ⟨env, sto⟩).bind fun a => ((JM (a1 ++ a ++ c1)).run ⟨env, sto⟩).bind fun a => ((Jo F h a n new).run ⟨env, sto⟩).bind fun q => JD F r (new + n) ⟨(d, q.val) :: env, upd q.ws sto⟩ (lgA lg (rdO F (.callv g args n) new ⟨env, sto⟩) (q.ws.map (·.1)))) := by
  rw [stD]
  simp only [opR, run_bind, J0N, JR]
  cases evv g env with
  | none => exact J1R ..
  | some u =>
    simp only [Option.bind_some]
    cases u with
    | fn h a1 c1 =>
      simp only [cvg, run_bind, Jbk]
      cases (evs args).run ⟨env, sto⟩ with
      | none => rfl
      | some a => simp only [Option.bind_some]; cases (JM (a1 ++ a ++ c1)).run ⟨env, sto⟩ <;> rfl
    | _ => exact J1R ..
theorem Jnt {lg : Option Log} {g : Opd} {args : List Opd} {n : Nat} : JD F (⟨.callv g args n, none, none⟩ :: r) new ⟨env, sto⟩ lg = (evv g env).bind fun u => cvg u fun h a1 c1 => dds n new sto (((evs args).run ⟨env, sto⟩).bind fun a => ((JM (a1 ++ a ++ c1)).run ⟨env, sto⟩).bind fun a => ((Jo F h a n new).run ⟨env, sto⟩).bind fun q => JD F r (new + n) ⟨env, upd q.ws sto⟩ (lgA lg (rdO F (.callv g args n) new ⟨env, sto⟩) (q.ws.map (·.1)))) := by
  rw [Jlt]
  simp only [opR, run_bind, J0N, JR]
  cases evv g env with
  | none => exact J1R ..
  | some u =>
    simp only [Option.bind_some]
    cases u with
    | fn h a1 c1 =>
      simp only [cvg, run_bind, Jbk]
      cases (evs args).run ⟨env, sto⟩ with
      | none => rfl
      | some a => simp only [Option.bind_some]; cases (JM (a1 ++ a ++ c1)).run ⟨env, sto⟩ <;> rfl
    | _ => exact J1R ..
def grd {α : Type} (x : Option AV) (w : Bool) (a b : Option α) : Option α := match x with
  | some (.p (.b x)) => if x = w then a else b
  | some (.tup []) => b
  | _ => none
end
@[congr] theorem Ju5 {α : Type} {x x' : Option AV} {w : Bool} {a b : Option α} (h : x = x') : grd x w a b = grd x' w a b := by rw [h]
theorem JrQ (F : Orc) (r : List J1a) (new : Nat) (env : List (Nat × AV)) (sto : List Blk) (lg : Option Log) (op : AOp) (d : Option Nat) (g : Nat) (w : Bool) :
    JD F (⟨op, d, some (g, w)⟩ :: r) new ⟨env, sto⟩ lg = grd (lk g env) w (JD F (⟨op, d, none⟩ :: r) new ⟨env, sto⟩ lg) (JD F r (new + JR op) (put d ⟨J1c, []⟩ ⟨env, sto⟩) (lgA lg [] [])) := by
  simp only [JD, J1V, RM.run, RM.reads]
  cases lk g env with
  | none => rfl
  | some v =>
    dsimp only
    cases v with
    | p c =>
      cases c with
      | b x =>
        simp only [grd]
        by_cases h : x = w
        · subst h; simp only [if_true]; rfl
        · simp only [if_neg h]; rfl
      | _ => rfl
    | tup l => cases l <;> rfl
    | _ => rfl
def JnD (k : Nat) (v : Option AV) (l : List (Nat × AV)) : List (Nat × AV) := match v with
  | some v => (k, v) :: l
  | none => l
def JlK (cs : List AV) (l : Option (List PV)) : AV := match l with
  | some l => .data l
  | none => .agg cs
def ldB (g : Bool) (n off : Nat) (B : Blk) : Option Eff := match B with
  | .box cs => (sub cs off n).bind fun l => (J1T g l).map fun v => ⟨v, []⟩
  | _ => none
def ldE (g : Bool) (n e i off : Nat) (B : Blk) : Option Eff := match B with
  | .arr _ _ rows => if e = rows.length then rows[i]?.bind fun row => (sub row off n).bind fun l => (J29 g l).map fun v => ⟨v, []⟩ else none
  | _ => none
theorem Jso (env : List (Nat × AV)) (sto : List Blk) (g : Bool) (n : Nat) (cs : List PV) (off : Nat) : (J2c g n (.cp cs off)).run ⟨env, sto⟩ = (sub cs off n).bind fun l => (J29 g l).map fun v => ⟨v, []⟩ := by
  simp only [J2c]
  cases sub cs off n with
  | none => rfl
  | some l => simp only [Option.bind_some]; cases J29 g l <;> rfl
theorem Js5 (env : List (Nat × AV)) (sto : List Blk) (g : Bool) (n b off : Nat) : (J2c g n (.ptr b off)).run ⟨env, sto⟩ = sto[b]?.bind fun B => ldB g n off B := by
  simp only [J2c, J6Q]
  cases sto[b]? with
  | none => rfl
  | some B =>
    cases B with
    | box cs =>
      simp only [Option.bind_some, ldB]
      cases sub cs off n with
      | none => rfl
      | some l => simp only [Option.bind_some]; cases J1T g l <;> rfl
    | _ => rfl
theorem JtB (g : Bool) (n off : Nat) (cs : List PV) : ldB g n off (.box (cs.map AV.p)) = (sub cs off n).bind fun l => (J29 g l).map fun v => ⟨v, []⟩ := by
  simp only [ldB, Jpx]
  cases sub cs off n with
  | none => rfl
  | some l =>
    simp only [Option.map_some, Option.bind_some]
    cases g with
    | true => rw [JgW]; rfl
    | false => match l with
      | [] => rfl
      | [_] => rfl
      | _ :: _ :: _ => rfl
theorem JrR (env : List (Nat × AV)) (sto : List Blk) (g : Bool) (n b e i off : Nat) : (J2c g n (.ep b e i off)).run ⟨env, sto⟩ = sto[b]?.bind fun B => ldE g n e i off B := by
  simp only [J2c, J6Q]
  cases sto[b]? with
  | none => rfl
  | some B =>
    cases B with
    | arr w z rows =>
      simp only [Option.bind_some, ldE]
      split
      · cases rows[i]? with
        | none => rfl
        | some row =>
          simp only [Option.bind_some]
          cases sub row off n with
          | none => rfl
          | some l => simp only [Option.bind_some]; cases J29 g l <;> rfl
      · rfl
    | _ => rfl
def stB (n b off : Nat) (l : List AV) (B : Blk) : Option Eff := match B with
  | .box cs => if l.length = n then (spl cs off l).map fun cs => ⟨J1c, [(b, .box cs)]⟩ else none
  | _ => none
theorem Jsl (env : List (Nat × AV)) (sto : List Blk) (n b off : Nat) (v : AV) : (J1M n (.ptr b off) v).run ⟨env, sto⟩ = sto[b]?.bind fun B => (cellsOf v).bind fun l => stB n b off l B := by
  simp only [J1M, J6Q]
  cases sto[b]? with
  | none => rfl
  | some B =>
    simp only [Option.bind_some]
    cases B with
    | box cs =>
      dsimp only
      cases cellsOf v with
      | none => rfl
      | some l =>
        simp only [Option.bind_some, stB]
        split
        · cases spl cs off l <;> rfl
        · rfl
    | dead => cases cellsOf v <;> rfl
    | arr w z rows => cases cellsOf v <;> rfl
theorem Jr1 (n b off : Nat) (cs vs : List PV) : stB n b off (vs.map AV.p) (.box (cs.map AV.p)) = if vs.length = n then (spl cs off vs).map fun cs => ⟨J1c, [(b, .box (cs.map AV.p))]⟩ else none := by
  simp only [stB, List.length_map, Jll]
  split
  · cases spl cs off vs <;> rfl
  · rfl
theorem JtT (b off : Nat) (cs : List PV) (v : PV) : stB 1 b off [AV.p v] (.box (cs.map AV.p)) = (spl cs off [v]).map fun cs => ⟨J1c, [(b, .box (cs.map AV.p))]⟩ := by
  have := Jr1 1 b off cs [v]
  simpa using this
def stE (n b e i off : Nat) (v : AV) (B : Blk) (s : St) : Option Eff := match B with
  | .arr true z rows => if e = rows.length then
      match rows[i]? with
      | some row => ((fz v).run s).bind fun a =>
        if a.1.length = n ∧ (a.2.all fun y => y.1 != b) = true then
          match spl row off a.1 with
          | some row' => some ⟨J1c, a.2 ++ [(b, .arr true z (rows.set i row'))]⟩
          | none => none
        else none
      | none => none
    else none
  | _ => none
theorem JrE (env : List (Nat × AV)) (sto : List Blk) (n b e i off : Nat) (v : AV) : (J1M n (.ep b e i off) v).run ⟨env, sto⟩ = sto[b]?.bind fun B => stE n b e i off v B ⟨env, sto⟩ := by
  simp only [J1M, J6Q]
  cases sto[b]? with
  | none => rfl
  | some B =>
    simp only [Option.bind_some]
    cases B with
    | arr w z rows =>
      cases w with
      | false => rfl
      | true =>
        simp only [stE]
        split
        · cases rows[i]? with
          | none => rfl
          | some row =>
            simp only [run_bind]
            cases (fz v).run ⟨env, sto⟩ with
            | none => rfl
            | some a =>
              simp only [Option.bind_some]
              split
              · cases spl row off a.1 <;> rfl
              · rfl
        · rfl
    | _ => rfl
theorem JtQ (n b e i off z : Nat) (c : PV) (rows : List (List PV)) (s : St) : stE n b e i off (.p c) (.arr true z rows) s = if e = rows.length then rows[i]?.bind fun row => if 1 = n then (spl row off [c]).map fun row => ⟨J1c, [(b, .arr true z (rows.set i row))]⟩ else none else none := by
  simp only [stE, fz, J1l, Option.bind_some]
  split
  · cases rows[i]? with
    | none => rfl
    | some row =>
      simp only [Option.bind_some, List.length_cons, List.length_nil, List.all_nil, and_true]
      simp only [Nat.zero_add]
      split
      · cases spl row off [c] <;> rfl
      · rfl
  · rfl
theorem JtG (n b e i off z : Nat) (cs : List PV) (rows : List (List PV)) (s : St) : stE n b e i off (.data cs) (.arr true z rows) s = if e = rows.length then rows[i]?.bind fun row => if cs.length = n then (spl row off cs).map fun row => ⟨J1c, [(b, .arr true z (rows.set i row))]⟩ else none else none := by
  simp only [stE, fz, J1l, Option.bind_some]
  split
  · cases rows[i]? with
    | none => rfl
    | some row =>
      simp only [Option.bind_some, List.all_nil, and_true]
      split
      · cases spl row off cs <;> rfl
      · rfl
  · rfl
theorem JsU (n : Nat) (cs : List PV) : bxP n (.data cs) = if cs.length = n then some (cs.map AV.p) else none := by simp [bxP, cellsOf]
theorem JqK (env : List (Nat × AV)) (sto : List Blk) (e : Nat) (rows : List (List PV)) (k : IntKind) (n : Int) : (J3B e (.p (.sl e rows)) (.p (.i k n))).run ⟨env, sto⟩ = (Jb6 rows n).map fun row => ⟨.cp row 0, []⟩ := by
  simp only [J3B, if_true]
  cases Jb6 rows n <;> rfl
def iaB (e b m : Nat) (n : Int) (B : Blk) : Option Eff := match B with
  | .arr _ esz' rows => if e = esz' ∧ 0 + m = rows.length ∧ 0 ≤ n ∧ n < m then some ⟨.ep b rows.length (0 + n.toNat) 0, []⟩ else none
  | _ => none
theorem Jpz (env : List (Nat × AV)) (sto : List Blk) (e b m : Nat) (k : IntKind) (n : Int) : (J3B e (.slr b 0 m) (.p (.i k n))).run ⟨env, sto⟩ = sto[b]?.bind fun B => iaB e b m n B := by
  simp only [J3B, J6Q]
  cases sto[b]? with
  | none => rfl
  | some B =>
    cases B with
    | arr w z rows => simp only [Option.bind_some, iaB]; split <;> rfl
    | _ => rfl
theorem Jr9 (e b m : Nat) (n : Int) (w : Bool) (rows : List (List PV)) : iaB e b m n (.arr w e rows) = if m = rows.length ∧ 0 ≤ n ∧ n < m then some ⟨.ep b rows.length n.toNat 0, []⟩ else none := by
  simp [iaB]
theorem Jqs (env : List (Nat × AV)) (sto : List Blk) (l : List Int) (new : Nat) : (cvR .toStr (.p (.sl 1 (l.map (r_i .u8)))) new).run ⟨env, sto⟩ = some ⟨.p (.s (toStr l)), []⟩ := by
  simp only [cvR, J0n, if_true, run_bind, J1l, Option.bind_some, JdT]
def cvB (n : Nat) (B : Blk) : Option Eff := match B with
  | .arr _ z rows => if 1 = z ∧ 0 + n = rows.length then
      match J6s (rows.drop 0) with
      | some l => some ⟨.p (.s l), []⟩
      | none => none
    else none
  | _ => none
theorem JqL (env : List (Nat × AV)) (sto : List Blk) (b n new : Nat) : (cvR .toStr (.slr b 0 n) new).run ⟨env, sto⟩ = sto[b]?.bind fun B => cvB n B := by
  simp only [cvR, J0n, run_bind, J6Q]
  cases sto[b]? with
  | none => rfl
  | some B =>
    cases B with
    | arr w z rows =>
      simp only [Option.bind_some, cvB]
      split
      · simp only [J1l, Option.bind_some]; cases J6s (rows.drop 0) <;> rfl
      · rfl
    | _ => rfl
theorem Jrj (n : Nat) (w : Bool) (l : List Int) : cvB n (.arr w 1 (l.map (r_i .u8))) = if n = l.length then some ⟨.p (.s (toStr l)), []⟩ else none := by
  simp only [cvB, List.drop_zero, JdT, List.length_map, Nat.zero_add, true_and]
theorem JqG (env : List (Nat × AV)) (sto : List Blk) (l : List UInt8) (new : Nat) : (cvR (.toBytes false) (.p (.s l)) new).run ⟨env, sto⟩ = some ⟨.p (.sl 1 ((J9m l).map (r_i .u8))), []⟩ := by
  simp [cvR, JhH]
theorem Jog (env : List (Nat × AV)) (sto : List Blk) (l : List UInt8) (new : Nat) : (cvR (.toBytes true) (.p (.s l)) new).run ⟨env, sto⟩ = some ⟨.slr new 0 (J9m l).length, [(new, .arr true 1 ((J9m l).map (r_i .u8)))]⟩ := by
  have : (J9m l).length = l.length := by simp [J9m]
  simp [cvR, JhH, this]
theorem Jt3 (env : List (Nat × AV)) (sto : List Blk) (off size : Nat) (x : Opd) (r : List (Nat × Nat × Opd)) : (J30 ((off, size, x) :: r)).run ⟨env, sto⟩ = (evv x env).bind fun v => (cellsOf v).bind fun cs => ((J30 r).run ⟨env, sto⟩).bind fun l => some ((off, size, cs) :: l) := by
  simp only [J30, run_bind, J0N]
  cases evv x env with
  | none => rfl
  | some v =>
    simp only [Option.bind_some]
    cases cellsOf v with
    | none => rfl
    | some cs => simp only [Option.bind_some, run_bind]; cases (J30 r).run ⟨env, sto⟩ <;> rfl
theorem JlR (off size : Nat) (vs cs : List PV) (r : List (Nat × Nat × List AV)) : J1k ((off, size, vs.map AV.p) :: r) (cs.map AV.p) = if vs.length = size then (spl cs off vs).bind fun cs => J1k r (cs.map AV.p) else none := by
  simp only [J1k, List.length_map, Jll]
  split
  · cases spl cs off vs <;> rfl
  · rfl
theorem JqQ (off : Nat) (v : PV) (cs : List PV) (r : List (Nat × Nat × List AV)) : J1k ((off, 1, [AV.p v]) :: r) (cs.map AV.p) = (spl cs off [v]).bind fun cs => J1k r (cs.map AV.p) := by
  have := JlR off 1 [v] cs r
  simpa using this
theorem Jto (env : List (Nat × AV)) (sto : List Blk) (x : Opd) (r : List Opd) : (evs (x :: r)).run ⟨env, sto⟩ = (evv x env).bind fun v => ((evs r).run ⟨env, sto⟩).bind fun vs => some (v :: vs) := by
  simp only [evs, run_bind, J0N]; rfl
theorem JdA (env : List (Nat × AV)) (sto : List Blk) {v : AV} (h : J7P v = .ret (v, [])) (r : List AV) : (JM (v :: r)).run ⟨env, sto⟩ = ((JM r).run ⟨env, sto⟩).bind fun a => some (v :: a.1, a.2) := by
  simp only [JM, h, run_bind, J1l, Option.bind_some, List.nil_append]
def frz (b n : Nat) (B : Blk) : Option (AV × (Nat × Blk)) := match B with
  | .arr _ z rows => if n = rows.length then some (.p (.sl z rows), (b, .arr false z rows)) else none
  | _ => none
def frp (b n : Nat) (B : Blk) : Option (PV × (Nat × Blk)) := match B with
  | .arr _ z rows => if n = rows.length then some (.sl z rows, (b, .arr false z rows)) else none
  | _ => none
theorem Jl6 (env : List (Nat × AV)) (sto : List Blk) (b n : Nat) : (fz (.slr b 0 n)).run ⟨env, sto⟩ = sto[b]?.bind fun B => (frp b n B).bind fun x => some ([x.1], [x.2]) := by
  simp only [fz, J6Q]
  cases sto[b]? with
  | none => rfl
  | some B =>
    cases B with
    | arr w z rows =>
      simp only [Option.bind_some, frp, Nat.zero_add, List.drop_zero]
      split <;> rfl
    | _ => rfl
theorem Jrm (env : List (Nat × AV)) (sto : List Blk) (b n : Nat) : (fz.fz1 (.slr b 0 n)).run ⟨env, sto⟩ = sto[b]?.bind fun B => (frp b n B).bind fun x => some ([x.1], [x.2]) := by
  simp only [fz.fz1, J6Q]
  cases sto[b]? with
  | none => rfl
  | some B =>
    cases B with
    | arr w z rows =>
      simp only [Option.bind_some, frp, Nat.zero_add, List.drop_zero]
      split <;> rfl
    | _ => rfl
theorem JqD (env : List (Nat × AV)) (sto : List Blk) (b n : Nat) (r : List AV) : (JM (.slr b 0 n :: r)).run ⟨env, sto⟩ = sto[b]?.bind fun B => (frz b n B).bind fun x => ((JM r).run ⟨env, sto⟩).bind fun a => some (x.1 :: a.1, x.2 :: a.2) := by
  simp only [JM, J7P, run_bind, Jl6]
  cases sto[b]? with
  | none => rfl
  | some B =>
    cases B with
    | arr w z rows =>
      simp only [Option.bind_some, frp, frz]
      split
      · simp only [Option.bind_some, J1l]; cases (JM r).run ⟨env, sto⟩ <;> rfl
      · rfl
    | _ => rfl
theorem Jps (env : List (Nat × AV)) (sto : List Blk) (cs : List AV) (r : List AV) : (JM (.agg cs :: r)).run ⟨env, sto⟩ = ((fz.fzL cs).run ⟨env, sto⟩).bind fun x => ((JM r).run ⟨env, sto⟩).bind fun a => some (.data x.1 :: a.1, x.2 ++ a.2) := by
  simp only [JM, J7P, run_bind, fz]
  cases (fz.fzL cs).run ⟨env, sto⟩ with
  | none => rfl
  | some x => simp only [Option.bind_some, J1l]
theorem Jqm (env : List (Nat × AV)) (sto : List Blk) (c : PV) (r : List AV) : (fz.fzL (.p c :: r)).run ⟨env, sto⟩ = ((fz.fzL r).run ⟨env, sto⟩).bind fun a => some (c :: a.1, a.2) := by
  simp only [fz.fzL, fz.fz1, run_bind, J1l, Option.bind_some]; rfl
theorem JpM (env : List (Nat × AV)) (sto : List Blk) (b n : Nat) (r : List AV) : (fz.fzL (.slr b 0 n :: r)).run ⟨env, sto⟩ = sto[b]?.bind fun B => (frp b n B).bind fun x => ((fz.fzL r).run ⟨env, sto⟩).bind fun a => some (x.1 :: a.1, x.2 :: a.2) := by
  simp only [fz.fzL, run_bind, Jrm]
  cases sto[b]? with
  | none => rfl
  | some B =>
    simp only [Option.bind_some]
    cases frp b n B with
    | none => rfl
    | some x => simp only [Option.bind_some]; cases (fz.fzL r).run ⟨env, sto⟩ <;> rfl
theorem Jt7 (env : List (Nat × AV)) (sto : List Blk) (b : Nat) : (J7E [] b).run ⟨env, sto⟩ = sto[b]? := by
  simp only [J7E, J6Q]
  cases sto[b]? <;> rfl
theorem Jq4 (env : List (Nat × AV)) (sto : List Blk) (e : Nat) (rows : List (List PV)) : (J0n e (.p (.sl e rows))).run ⟨env, sto⟩ = some rows := by simp [J0n]
theorem JpG (env : List (Nat × AV)) (sto : List Blk) (l : List UInt8) : (J0n 1 (.p (.s l))).run ⟨env, sto⟩ = some ((J9m l).map (r_i .u8)) := by simp [J0n, JhH]
def roB (e n : Nat) (B : Blk) : Option (List (List PV)) := match B with
  | .arr _ z rows => if e = z ∧ 0 + n = rows.length then some (rows.drop 0) else none
  | _ => none
theorem JqR (env : List (Nat × AV)) (sto : List Blk) (e b n : Nat) : (J0n e (.slr b 0 n)).run ⟨env, sto⟩ = sto[b]?.bind fun B => roB e n B := by
  simp only [J0n, J6Q]
  cases sto[b]? with
  | none => rfl
  | some B =>
    cases B with
    | arr w z rows => simp only [Option.bind_some, roB]; split <;> rfl
    | _ => rfl
theorem Jpr (e n : Nat) (w : Bool) (rows : List (List PV)) : roB e n (.arr w e rows) = if n = rows.length then some rows else none := by simp [roB]
theorem JsP (env : List (Nat × AV)) (sto : List Blk) (x : Opd) (r : List Opd) : (fzs (x :: r)).run ⟨env, sto⟩ = (evv x env).bind fun v => ((fz v).run ⟨env, sto⟩).bind fun a => ((fzs r).run ⟨env, sto⟩).bind fun c => some (a.1 :: c.1, a.2 ++ c.2) := by
  simp only [fzs, run_bind, J0N]; rfl
theorem JoB (env : List (Nat × AV)) (sto : List Blk) (b n : Nat) : (fz (.slr b 0 n)).run ⟨env, sto⟩ = sto[b]?.bind fun B => (frp b n B).bind fun x => some ([x.1], [x.2]) := Jl6 ..
theorem JpU (env : List (Nat × AV)) (sto : List Blk) (s : SK) (c : PV) (lo hi : Option AV) : (slR s (.p c) lo hi none).run ⟨env, sto⟩ = (slX s (.p c) lo hi).map fun v => ⟨v, []⟩ := by
  simp only [slR, slX]
  cases J5X s (.p c) lo hi none <;> rfl
theorem Jph (env : List (Nat × AV)) (sto : List Blk) (s : SK) (b n : Nat) (lo hi : Option AV) : (slR s (.slr b 0 n) lo hi none).run ⟨env, sto⟩ = sto[b]?.bind fun B => (frz b n B).bind fun x => (slX s x.1 lo hi).map fun v => ⟨v, [x.2]⟩ := by
  simp only [slR, run_bind, Jl6]
  cases sto[b]? with
  | none => rfl
  | some B =>
    cases B with
    | arr w z rows =>
      simp only [Option.bind_some, frp, frz]
      split
      · simp only [Option.bind_some, slX]; cases J5X s (.p (.sl z rows)) lo hi none <;> rfl
      · rfl
    | _ => rfl
theorem JsY (n : Nat) (live : List Nat) (env : List (Nat × AV)) (sto : List Blk) : J68 n live ⟨env, sto⟩ = if sto.length = n then some ⟨restr live env, sto⟩ else (J8F n sto (restr live env)).bind fun e => (J48 n [] sto (sto.take n)).bind fun l => some ⟨e, l⟩ := by
  simp only [J68]
  split
  · rfl
  · cases J8F n sto (restr live env) with
    | none => rfl
    | some e => cases J48 n [] sto (sto.take n) <;> rfl
theorem Jte (m k : Nat) (sto : List Blk) (x : AV) (r : List (Nat × AV)) : J8F m sto ((k, x) :: r) = (fin m [] sto x).bind fun y => (J8F m sto r).bind fun l => some ((k, y) :: l) := by
  simp only [J8F]
  cases fin m [] sto x with
  | none => rfl
  | some y => cases J8F m sto r <;> rfl
theorem JsN (m : Nat) (ids : List Nat) (sto : List Blk) (x : Blk) (r : List Blk) : J48 m ids sto (x :: r) = (J52 m ids sto x).bind fun y => (J48 m ids sto r).bind fun l => some (y :: l) := by
  simp only [J48]
  cases J52 m ids sto x with
  | none => rfl
  | some y => cases J48 m ids sto r <;> rfl
theorem Js2 (m : Nat) (ids : List Nat) (sto : List Blk) (cs : List AV) : J52 m ids sto (.box cs) = (fin.finL m ids sto cs).map .box := by
  simp only [J52]
  cases fin.finL m ids sto cs <;> rfl
theorem JsW (m : Nat) (ids : List Nat) (sto : List Blk) (x : AV) (r : List AV) : fin.finL m ids sto (x :: r) = (fin m ids sto x).bind fun y => (fin.finL m ids sto r).bind fun l => some (y :: l) := by
  simp only [fin.finL]
  cases fin m ids sto x with
  | none => rfl
  | some y => cases fin.finL m ids sto r <;> rfl
def fsl (k : Option Nat) (n : Nat) (B : Option Blk) : Option AV := match k with
  | some k => some (.slr k 0 n)
  | none => match B with
    | some (.arr _ z rows) => if n = rows.length then some (.p (.sl z rows)) else none
    | _ => none
theorem JrL (m : Nat) (ids : List Nat) (sto : List Blk) (b n : Nat) : fin m ids sto (.slr b 0 n) = if b < m then some (.slr b 0 n) else fsl (J8m b ids m) n sto[b]? := by
  simp only [fin]
  split
  · rfl
  · cases J8m b ids m with
    | some k => rfl
    | none =>
      simp only [fsl]
      cases sto[b]? with
      | none => rfl
      | some B => cases B <;> simp
theorem JrF (m : Nat) (ids : List Nat) (sto : List Blk) (cs : List AV) : fin m ids sto (.agg cs) = (fin.finL m ids sto cs).bind fun l => some (JlK l (unp l)) := by
  simp only [fin]
  cases fin.finL m ids sto cs with
  | none => rfl
  | some l => simp only [Option.bind_some]; cases unp l <;> rfl
theorem Jsc (m : Nat) (ids : List Nat) (sto : List Blk) (x : AV) (cs : List AV) : fin m ids sto (.tup (x :: cs)) = (fin.finL m ids sto (x :: cs)).map .tup := by
  simp only [fin]
  cases fin.finL m ids sto (x :: cs) <;> rfl
theorem JpV (env : List (Nat × AV)) (sto : List Blk) (t : Nat) (r : List JbV) : (J6x (.tmp t :: r)).run ⟨env, sto⟩ = (lk t env).bind fun v => ((J6x r).run ⟨env, sto⟩).bind fun l => some (v :: l) := by
  simp only [J6x, run_bind, Jlu, J1l]
  cases lk t env <;> rfl
theorem JqB (env : List (Nat × AV)) (sto : List Blk) (t n : Nat) (g : Bool) (r : List JbV) : (J6x (.cell t g n :: r)).run ⟨env, sto⟩ = (lk t env).bind fun v => ((J2c g n v).run ⟨env, sto⟩).bind fun e => ((J6x r).run ⟨env, sto⟩).bind fun l => some (e.val :: l) := by
  simp only [J6x, run_bind, Jlu, J1l]
  cases lk t env <;> rfl
def oid (b : Nat) (B : Option Blk) (l : List Nat) : List Nat := match B with
  | some (.box _) => b :: l
  | _ => l
theorem JsM (m b : Nat) (sto : List Blk) (r : List Ent) : J1p m false sto (.whole b :: r) = if b < m then J1p m false sto r else oid b sto[b]? (J1p m false sto r) := by
  simp only [J1p]
  split
  · rfl
  · unfold oid
    cases sto[b]? with
    | none => rfl
    | some B => cases B <;> simp
def ebb (B : Option Blk) (acc : List Ent) : List Ent := match B with
  | some (.box cs) => J0a.entsOfL cs acc
  | _ => acc
theorem Jtw (sto : List Blk) (b : Nat) (r : List Ent) (acc : List Ent) : J7Y sto (.whole b :: r) acc = J7Y sto r (ebb sto[b]? acc) := by
  simp only [J7Y, ebb]
  cases sto[b]? with
  | none => rfl
  | some B => cases B <;> rfl
theorem Jsz (b c : Nat) (r : List Ent) : J86 (.whole b) (.whole c :: r) = if c = b then .whole c :: r else .whole c :: J86 (.whole b) r := by
  simp only [J86, List.any_cons]
  by_cases h : c = b
  · subst h; simp
  · simp [h]
    split <;> simp_all
theorem Jtr (sto : List Blk) (b : Nat) (r : List Nat) : J7v sto (b :: r) = sto[b]?.bind fun x => (J7v sto r).bind fun l => some (x :: l) := by
  simp only [J7v]
  cases sto[b]? with
  | none => rfl
  | some x => cases J7v sto r <;> rfl
theorem JqJ {α : Type} (a : α) (cs : List α) (n : Nat) : sub (a :: cs) 0 (n + 1) = (sub cs 0 n).map (a :: ·) := by
  rw [J6L, J6L]
  by_cases h : n ≤ cs.length
  · rw [if_pos (by simp; omega), if_pos (by omega)]; simp
  · rw [if_neg (by simp; omega), if_neg (by omega)]; rfl
theorem Jq9 {α : Type} (a : α) (cs : List α) (n m : Nat) : sub (a :: cs) (n + 1) m = sub cs n m := by
  rw [J6L, J6L]
  by_cases h : n + m ≤ cs.length
  · rw [if_pos (by simp; omega), if_pos h]; simp
  · rw [if_neg (by simp; omega), if_neg h]
theorem JpE {α : Type} (a b : α) (cs vs : List α) : spl (a :: cs) 0 (b :: vs) = (spl cs 0 vs).map (b :: ·) := by
  rw [J8f, J8f]
  by_cases h : vs.length ≤ cs.length
  · rw [if_pos (by simp; omega), if_pos (by omega)]; simp
  · rw [if_neg (by simp; omega), if_neg (by omega)]; rfl
theorem Jqo {α : Type} (a : α) (cs : List α) (n : Nat) (vs : List α) : spl (a :: cs) (n + 1) vs = (spl cs n vs).map (a :: ·) := by
  rw [J8f, J8f]
  by_cases h : n + vs.length ≤ cs.length
  · rw [if_pos (by simp; omega), if_pos h]
    rw [show n + 1 + vs.length = (n + vs.length) + 1 by omega]; simp
  · rw [if_neg (by simp; omega), if_neg h]; rfl
theorem JpX (off size : Nat) (c : List AV) (a : AV) (cs : List AV) (r : List (Nat × Nat × List AV)) : J1k ((off, size, c) :: r) (a :: cs) = if c.length = size then (spl (a :: cs) off c).bind fun cs => J1k r cs else none := by
  simp only [J1k]
  split
  · cases spl (a :: cs) off c <;> rfl
  · rfl
theorem Jrs (m : Nat) (ids : List Nat) (sto : List Blk) (f : FuncId) (a c : List AV) : fin m ids sto (.fn f a c) = (fin.finL m ids sto a).bind fun a1 => (fin.finL m ids sto c).bind fun c1 => some (.fn f a1 c1) := by
  simp only [fin]
  cases fin.finL m ids sto a with
  | none => rfl
  | some a1 => cases fin.finL m ids sto c <;> rfl
def lwO (x y : Option Blk) : Option Blk := match x with
  | some x => some x
  | none => y
theorem Jtn (b c : Nat) (x : Blk) (r : List (Nat × Blk)) : J2G b ((c, x) :: r) = lwO (J2G b r) (if c = b then some x else none) := by
  simp only [J2G]
  cases J2G b r <;> rfl
theorem Js6 (env : List (Nat × AV)) (sto : List Blk) (b c : Nat) (x : Blk) (ws : List (Nat × Blk)) : (J7E ((c, x) :: ws) b).run ⟨env, sto⟩ = sto[b]?.bind fun y => some ((J2G b ((c, x) :: ws)).getD y) := by
  simp only [J7E, J6Q]
  cases sto[b]? with
  | none => rfl
  | some y => simp only [Option.bind_some]; cases J2G b ((c, x) :: ws) <;> rfl
@[congr] theorem Ju2 {α : Type} {u u' : AV} {k : FuncId → List AV → List AV → Option α} (h : u = u') : cvg u k = cvg u' k := by rw [h]
theorem Jm1 (x : Opd) (s : St) : Jn ((ev x).reads s) = [] := by
  cases x with
  | t n => simp only [ev, RM.reads]; cases lk n s.env <;> rfl
  | c v => rfl
theorem JnB (a b : List Loc) : Jn (a ++ b) = Jn a ++ Jn b := by
  induction a with
  | nil => rfl
  | cons x r ih => cases x <;> simp [Jn, ih]
def rb {α β : Type} (m : Option α) (f : α → List β) : List β := match m with
  | some a => f a
  | none => []
theorem J26 {α β : Type} (m : RM α) (f : α → RM β) (s : St) : Jn ((m.bind f).reads s) = Jn (m.reads s) ++ rb (m.run s) fun a => Jn ((f a).reads s) := by
  rw [J9P, JnB]
  cases m.run s <;> rfl
theorem Jg4 {β : Type} (x : Opd) (f : AV → RM β) (s : St) : Jn (((ev x).bind f).reads s) = rb (evv x s.env) fun a => Jn ((f a).reads s) := by
  rw [J26, Jm1, J0N]; rfl
theorem JfB (o : Option AV) (s : St) : Jn ((Go.Am.val o).reads s) = [] := by cases o <;> rfl
section
variable (F : Orc) (new : Nat) (env : List (Nat × AV)) (sto : List Blk)
theorem Jer {op : AOp} (h : JR op = 0) (s : St) : rdO F op new s = Jn ((opR F op new).reads s) := by
  unfold rdO opD
  rw [J26, h]; rfl
def is1 (b : Option Blk) : Option Unit := match b with
  | some .dead => some ()
  | _ => none
theorem Jo0 {op : AOp} (h : JR op = 1) (s : St) : rdO F op new s = new :: rb (is1 s.sto[new]?) fun _ => Jn ((opR F op new).reads s) := by
  unfold rdO opD
  rw [J26, h]
  simp only [J77, RM.reads, RM.run, Jn]
  cases s.sto[new]? with
  | none => rfl
  | some b => cases b <;> rfl
end
theorem Jta {α β : Type} (m : Option α) : (rb m fun _ => ([] : List β)) = [] := by cases m <;> rfl
theorem Jsg (F : Orc) (new : Nat) (env : List (Nat × AV)) (sto : List Blk) (g : Bool) (n : Nat) (x : Opd) : rdO F (.load g n x) new ⟨env, sto⟩ = rb (evv x env) fun a => Jn ((J2c g n a).reads ⟨env, sto⟩) := by
  rw [Jer (h := rfl)]; exact Jg4 ..
theorem JrO (s : St) (g : Bool) (n b o : Nat) : Jn ((J2c g n (.ptr b o)).reads s) = [b] := by
  simp only [J2c, RM.reads, Jn]
  cases s.sto[b]? with
  | none => rfl
  | some B =>
    cases B with
    | box cs => simp only []; cases sub cs o n with
      | none => rfl
      | some l => simp only [JfB]
    | _ => rfl
theorem Jt8 (s : St) (g : Bool) (n o : Nat) (cs : List PV) : Jn ((J2c g n (.cp cs o)).reads s) = [] := by
  simp only [J2c]
  cases sub cs o n with
  | none => rfl
  | some l => exact JfB ..
theorem JsI (s : St) (g : Bool) (n b e i o : Nat) : Jn ((J2c g n (.ep b e i o)).reads s) = [b] := by
  simp only [J2c, RM.reads, Jn]
  cases s.sto[b]? with
  | none => rfl
  | some B =>
    cases B with
    | arr w z rows =>
      simp only []
      split
      · cases rows[i]? with
        | none => rfl
        | some row =>
          simp only []
          cases sub row o n with
          | none => rfl
          | some l => simp only [JfB]
      · rfl
    | _ => rfl
theorem Jp5 (F : Orc) (new : Nat) (s : St) (z : List PV) : rdO F (.newbox z) new s = [new] := by
  rw [Jo0 (h := rfl)]; simp only [opR, RM.reads, Jn, Jta]
theorem Jqp (F : Orc) (new : Nat) (env : List (Nat × AV)) (sto : List Blk) (n : Nat) (x y : Opd) : rdO F (.store n x y) new ⟨env, sto⟩ = rb (evv x env) fun a => rb (evv y env) fun c => Jn ((J1M n a c).reads ⟨env, sto⟩) := by
  rw [Jer (h := rfl)]
  simp only [opR, Jg4]
theorem Jro (s : St) (n b o : Nat) (v : AV) : Jn ((J1M n (.ptr b o) v).reads s) = [b] := by
  simp only [J1M, RM.reads, Jn]
  cases s.sto[b]? with
  | none => rfl
  | some B =>
    cases B with
    | box cs =>
      simp only []
      cases cellsOf v with
      | none => rfl
      | some l =>
        simp only []
        split
        · cases spl cs o l <;> rfl
        · rfl
    | _ => rfl
theorem Jon (s : St) (n b e i o : Nat) {v : AV} {c : List PV} (hv : fz v = .ret (c, [])) : Jn ((J1M n (.ep b e i o) v).reads s) = [b] := by
  simp only [J1M, RM.reads, Jn]
  cases s.sto[b]? with
  | none => rfl
  | some B =>
    cases B with
    | arr w z rows =>
      cases w with
      | false => rfl
      | true =>
        simp only []
        split
        · cases rows[i]? with
          | none => rfl
          | some row =>
            simp only [hv, J26, RM.reads, Jn, J1l, rb, List.nil_append]
            split
            · cases spl row o c <;> rfl
            · rfl
        · rfl
    | _ => rfl
theorem Jpe (s : St) (n b e i o : Nat) (c : PV) : Jn ((J1M n (.ep b e i o) (.p c)).reads s) = [b] := Jon s n b e i o rfl
theorem Jpv (s : St) (n b e i o : Nat) (c : List PV) : Jn ((J1M n (.ep b e i o) (.data c)).reads s) = [b] := Jon s n b e i o rfl
theorem JfQ (s : St) : ∀ args, Jn ((evs args).reads s) = []
  | [] => rfl
  | x :: r => by
    simp only [evs, Jg4]
    cases evv x s.env with
    | none => rfl
    | some v =>
      simp only [rb, J26, JfQ s r, List.nil_append]
      cases (evs r).run s <;> rfl
theorem Jiz (F : Orc) (g : FuncId) (args : List Opd) (n new : Nat) (s : St) : Jn ((opR F (.call g args n) new).reads s) = rb ((evs args).run s) fun a => Jn ((JM a).reads s) ++ rb ((JM a).run s) fun a => Jn ((Jo F g a n new).reads s) := by
  simp only [opR, J26, JfQ, List.nil_append, Jbk]
theorem Jqv (F : Orc) (new : Nat) (s : St) (g : FuncId) (args : List Opd) : rdO F (.call g args 0) new s = rb ((evs args).run s) fun a => Jn ((JM a).reads s) ++ rb ((JM a).run s) fun a => Jn ((Jo F g a 0 new).reads s) := by
  rw [Jer (h := rfl)]; exact Jiz ..
theorem JpQ (F : Orc) (new : Nat) (s : St) (g : FuncId) (args : List Opd) : rdO F (.call g args 1) new s = new :: rb (is1 s.sto[new]?) fun _ => rb ((evs args).run s) fun a => Jn ((JM a).reads s) ++ rb ((JM a).run s) fun a => Jn ((Jo F g a 1 new).reads s) := by
  rw [Jo0 (h := rfl)]; simp only [Jiz]
theorem Jbs (s : St) {v : AV} (h : J7P v = .ret (v, [])) (r : List AV) : Jn ((JM (v :: r)).reads s) = Jn ((JM r).reads s) := by
  simp only [JM, h, J26, RM.reads, Jn, J1l, rb, List.nil_append]
  cases (JM r).run s <;> simp [RM.reads, Jn]
theorem Jft (s : St) (b n : Nat) : Jn ((fz (.slr b 0 n)).reads s) = [b] := by
  simp only [fz, RM.reads, Jn]
  cases s.sto[b]? with
  | none => rfl
  | some B =>
    cases B with
    | arr w z rows => simp only []; split <;> rfl
    | _ => rfl
theorem JrJ (s : St) (b n : Nat) (r : List AV) : Jn ((JM (.slr b 0 n :: r)).reads s) = b :: rb ((J7P (.slr b 0 n)).run s) fun _ => Jn ((JM r).reads s) := by
  have h1 : Jn ((J7P (.slr b 0 n)).reads s) = [b] := by
    simp only [J7P, J26, Jft]
    cases (fz (.slr b 0 n)).run s with
    | none => rfl
    | some a =>
      simp only [rb]
      match a.1 with
      | [] => rfl
      | [_] => rfl
      | _ :: _ :: _ => rfl
  simp only [JM, J26, h1]
  cases (J7P (.slr b 0 n)).run s with
  | none => rfl
  | some a => simp only [rb]; cases (JM r).run s <;> simp [RM.reads, Jn]
theorem J4h {F : Orc} {f : FuncId} {args : List AV} (hp : args.all J3X = true) (ws : List (Nat × Blk)) (k new : Nat) (s : St) : Jn ((Jo F f (args, ws) k new).reads s) = [] := by
  have e1 : J0a.entsOfL args [] = [] := J5t hp
  simp only [Jo, e1, J7m, J26, RM.reads, Jn, J1l, rb, List.nil_append, List.map_nil, J41, if_true, J6d hp, J4m]
  cases F f args [] with
  | none => rfl
  | some r =>
    simp only []
    split
    · simp only [List.length_nil, List.drop_zero]
      cases bk [] new r.1 with
      | none => rfl
      | some v =>
        cases J3p [] new new r.2 with
        | none => rfl
        | some fr => simp only [J2l, J26, RM.reads, Jn, J1l, rb, List.nil_append]
    · rfl
def cvl {α : Type} (u : AV) (k : FuncId → List AV → List AV → List α) : List α := match u with
  | .fn f a c => k f a c
  | _ => []
theorem Jir (ws : List (Nat × Blk)) (b : Nat) (s : St) : Jn ((J7E ws b).reads s) = [b] := by
  simp only [J7E, RM.reads, Jn]
  cases s.sto[b]? with
  | none => rfl
  | some B => simp only []; cases J2G b ws <;> rfl
theorem Jk5 {ws : List (Nat × Blk)} {s : St} : ∀ {bs : List Nat} {css : List (List AV)} {acc : List Ent}, JB ws s bs css → Ji css = true → Jn ((J7m ws (bs.map .whole) acc).reads s) = bs
  | [], [], _, _, _ => rfl
  | b :: bs, cs :: css, acc, h, hp => by
    simp only [Ji, List.all_cons, Bool.and_eq_true] at hp
    simp only [List.map_cons, J7m, J26, Jir, h.1, rb, J5t hp.1]
    rw [Jk5 (bs := bs) (css := css) h.2 hp.2]
    rfl
theorem JlI {ws : List (Nat × Blk)} {s : St} {ρ : Ent → Option Nat} : ∀ {bs : List Nat} {css : List (List AV)}, JB ws s bs css → Ji css = true → Jn ((J4m ws ρ (bs.map .whole)).reads s) = bs
  | [], [], _, _ => rfl
  | b :: bs, cs :: css, h, hp => by
    simp only [Ji, List.all_cons, Bool.and_eq_true] at hp
    have h2 := JlI (ρ := ρ) (bs := bs) (css := css) h.2 hp.2
    have h3 := Jbv (ρ := ρ) (bs := bs) (css := css) h.2 hp.2
    simp only [List.map_cons, J4m, J26, Jcn, Jir, h.1, rb, J6d hp.1, RM.reads, Jn, run_bind, Option.bind_some, J1l, h2, h3, List.append_nil]
    rfl
theorem Jke {ws : List (Nat × Blk)} {s : St} {es : List Ent} {new : Nat} : ∀ (bs : List Nat) (xs : List Blk), Jn ((J2l ws es new (bs.map .whole) xs).reads s) = []
  | [], _ => rfl
  | b :: bs, [] => rfl
  | b :: bs, B :: l => by
    have g6 : Jn ((J9e ws es new (Ent.whole b) B).reads s) = [] := by
      cases B with
      | box cs => simp only [J9e]; cases bk.bkL es new cs <;> rfl
      | _ => rfl
    simp only [List.map_cons, J2l, J26, g6, List.nil_append]
    cases (J9e ws es new (Ent.whole b) B).run s with
    | none => rfl
    | some y =>
      simp only [rb, Jke bs l, List.nil_append]
      cases (J2l ws es new (bs.map .whole) l).run s <;> rfl
theorem J0Y {F : Orc} {f : FuncId} {args args' : List AV} {bs : List Nat} {css : List (List AV)} (he : J0a.entsOfL args [] = bs.map .whole) (hn : J41 bs = true)
    (hr : ren.renL (fun e => J32 e (bs.map .whole) 0) args = some args') (hp : Ji css = true) (ws : List (Nat × Blk)) (k new : Nat) (s : St) (hb : JB ws s bs css) :
    Jn ((Jo F f (args, ws) k new).reads s) = bs ++ (bs ++ bs) := by
  have e0 : (bs.map Ent.whole).map Ent.id = bs := by rw [List.map_map]; exact List.map_id bs
  simp only [Jo, he, J26, Jk5 hb hp, JcA hb hp, rb, e0, hn, if_true, hr, JlI hb hp, Jbv hb hp]
  congr 2
  cases F f args' (css.map .box) with
  | none => simp [RM.reads, Jn]
  | some r =>
    simp only []
    split
    · cases bk (bs.map Ent.whole) new r.1 with
      | none => simp [RM.reads, Jn]
      | some v =>
        cases J3p (bs.map Ent.whole) new new (r.2.drop (bs.map Ent.whole).length) with
        | none => simp [RM.reads, Jn]
        | some fr =>
          simp only [J26, Jke, List.nil_append]
          cases (J2l ws (bs.map Ent.whole) new (bs.map Ent.whole) r.2).run s <;> simp [rb, RM.reads, Jn]
    · simp [RM.reads, Jn]
theorem Jpa (F : Orc) (new : Nat) (env : List (Nat × AV)) (sto : List Blk) (g : Opd) (args : List Opd) : rdO F (.callv g args 0) new ⟨env, sto⟩ = rb (evv g env) fun u => cvl u fun h a1 c1 => rb ((evs args).run ⟨env, sto⟩) fun a => Jn ((JM (a1 ++ a ++ c1)).reads ⟨env, sto⟩) ++ rb ((JM (a1 ++ a ++ c1)).run ⟨env, sto⟩) fun a => Jn ((Jo F h a 0 new).reads ⟨env, sto⟩) := by
  rw [Jer (h := rfl)]
  simp only [opR, J26, Jm1, J0N, List.nil_append]
  cases evv g env with
  | none => rfl
  | some u =>
    simp only [rb]
    cases u <;> first | rfl | skip
    simp only [cvl, J26, JfQ, List.nil_append]
    cases (evs args).run ⟨env, sto⟩ with
    | none => rfl
    | some a => simp only [rb, Jbk, J26]
theorem Jkf (s : St) (o : Bool) (e n new : Nat) (z : List PV) (ps : List (Nat × Opd)) : Jn ((ltR o e n z ps new).reads s) = Jn ((fzs (ps.map (·.2))).reads s) := by
  simp only [ltR, J26]
  cases (fzs (ps.map (·.2))).run s with
  | none => simp [rb]
  | some a =>
    simp only [rb]
    cases J4B e ((ps.map (·.1)).zip a.1) (List.replicate n z) with
    | none => simp [RM.reads, Jn]
    | some rows => cases o <;> simp [RM.reads, Jn]
theorem Jpd (F : Orc) (new : Nat) (s : St) (e n : Nat) (z : List PV) (ps : List (Nat × Opd)) : rdO F (.lits false e n z ps) new s = Jn ((fzs (ps.map (·.2))).reads s) := by
  rw [Jer (h := rfl)]; exact Jkf ..
theorem Jqu (F : Orc) (new : Nat) (s : St) (e n : Nat) (z : List PV) (ps : List (Nat × Opd)) : rdO F (.lits true e n z ps) new s = new :: rb (is1 s.sto[new]?) fun _ => Jn ((fzs (ps.map (·.2))).reads s) := by
  rw [Jo0 (h := rfl)]
  congr 2; funext _
  exact Jkf ..
theorem Jsq (s : St) (x : Opd) (r : List Opd) : Jn ((fzs (x :: r)).reads s) = rb (evv x s.env) fun v => Jn ((fz v).reads s) ++ rb ((fz v).run s) fun _ => Jn ((fzs r).reads s) := by
  have e0 : fzs (x :: r) = (ev x).bind fun v => (fz v).bind fun a => (fzs r).bind fun c => .ret (a.1 :: c.1, a.2 ++ c.2) := rfl
  rw [e0, Jg4]
  cases evv x s.env with
  | none => rfl
  | some v =>
    dsimp only [rb]
    rw [J26]
    cases (fz v).run s with
    | none => rfl
    | some a =>
      dsimp only [rb]
      rw [J26]
      cases (fzs r).run s <;> simp [rb, RM.reads, Jn]
theorem Jpq (F : Orc) (new : Nat) (s : St) (x : Opd) : rdO F (.conv .toStr x) new s = rb (evv x s.env) fun a => Jn ((J0n 1 a).reads s) := by
  rw [Jer (h := rfl)]
  simp only [opR, Jg4]
  congr 1; funext a
  simp only [J26]
  cases (J0n 1 a).run s with
  | none => simp [rb]
  | some rows => simp only [rb]; cases J6s rows <;> simp [RM.reads, Jn]
theorem JoU (s : St) (e b n : Nat) : Jn ((J0n e (.slr b 0 n)).reads s) = [b] := by
  simp only [J0n, RM.reads, Jn]
  cases s.sto[b]? with
  | none => rfl
  | some B =>
    cases B with
    | arr w z rows => simp only []; split <;> rfl
    | _ => rfl
theorem JqC (s : St) (e z : Nat) (rows : List (List PV)) : Jn ((J0n e (.p (.sl z rows))).reads s) = [] := by
  simp only [J0n]; split <;> rfl
theorem Jqi (F : Orc) (new : Nat) (s : St) (e : Nat) (x i : Opd) : rdO F (.iaddr e x i) new s = rb (evv x s.env) fun a => rb (evv i s.env) fun c => Jn ((J3B e a c).reads s) := by
  rw [Jer (h := rfl)]; simp only [opR, Jg4]
theorem JoA (s : St) (e b n : Nat) (k : IntKind) (i : Int) : Jn ((J3B e (.slr b 0 n) (.p (.i k i))).reads s) = [b] := by
  simp only [J3B, RM.reads, Jn]
  cases s.sto[b]? with
  | none => rfl
  | some B =>
    cases B with
    | arr w z rows => simp only []; split <;> rfl
    | _ => rfl
theorem Jpi (s : St) (e z : Nat) (rows : List (List PV)) (k : IntKind) (i : Int) : Jn ((J3B e (.p (.sl z rows)) (.p (.i k i))).reads s) = [] := by
  simp only [J3B]
  split
  · cases Jb6 rows i <;> rfl
  · rfl
theorem Jle (env : List (Nat × AV)) (sto : List Blk) (l : List Int) (new : Nat) : (cvR .toStr (.p (.sl 1 (l.map (r_i .u8)))) new).run ⟨env, sto⟩ = some ⟨.p (.s (toStr l)), []⟩ := Jqs ..
theorem JtO (n : Nat) (w : Bool) (l : List Int) : cvB n (.arr w 1 (l.map (r_i .u8))) = if n = l.length then some ⟨.p (.s (toStr l)), []⟩ else none := Jrj ..
theorem fr (b n z : Nat) (w : Bool) (rows : List (List PV)) : frz b n (.arr w z rows) = if n = rows.length then some (.p (.sl z rows), (b, .arr false z rows)) else none := rfl
theorem mk (o : Bool) (e b new : Nat) (z : List PV) (k k2 : IntKind) (n m : Int) : mkP o e b z (.p (.i k n)) (.p (.i k2 m)) new = if 0 ≤ n ∧ n ≤ m ∧ b * m ≤ 281474976710656 ∧ m ≤ 281474976710656 then some (if o then ⟨.slr new 0 n.toNat, [(new, .arr true e (List.replicate n.toNat z))]⟩ else ⟨.p (.sl e (List.replicate n.toNat z)), []⟩) else none := rfl
theorem cl (n : Nat) (live : List Nat) (env : List (Nat × AV)) (sto : List Blk) : J68 n live ⟨env, sto⟩ = if sto.length = n then some ⟨restr live env, sto⟩ else (J8F n sto (restr live env)).bind fun e => (J48 n [] sto (sto.take n)).bind fun l => some ⟨e, l⟩ := JsY ..
theorem JsB {α : Type} (l : List α) : [] ++ l = l := rfl
theorem JsS {α : Type} (l : List α) : l ++ [] = l := List.append_nil l
theorem JsG {α : Type} (a : α) (l r : List α) : (a :: l) ++ r = a :: (l ++ r) := rfl
theorem Jsr {α β : Type} (g : α → β) : List.map g [] = [] := rfl
theorem Jst {α β : Type} (g : α → β) (a : α) (l : List α) : List.map g (a :: l) = g a :: List.map g l := rfl
theorem Jt9 {α : Type} : ([] : List α).length = 0 := rfl
theorem Jsw {α : Type} (a : α) (l : List α) : (a :: l).length = l.length + 1 := rfl
theorem Jsp (k : IntKind) (n : Int) : r_i k n = [.i k n] := rfl
theorem JsO (x : Bool) : r_b x = [.b x] := rfl
theorem JqY (x : List UInt8) : r_s x = [.s x] := rfl
theorem Jtj {α : Type} (e : Nat) (g : α → List PV) (l : List α) : Jju e g l = [.sl e (l.map g)] := rfl
theorem s1 (a : PV) : sub [a] 0 1 = some [a] := rfl
set_option maxRecDepth 30000 in
theorem Da : (∀ T f m k s, rk T f m k (X T .skip s) = rk T f m k (some (.normal, s))) ∧
  (∀ T f m k a b s, rk T f m k (X T (.seq a b) s) = rk T f m (.sq b :: k) (X T a s)) ∧
  (∀ T f m k d ins env sto, rk T f m k (X T (.reg d [] ins) ⟨env, sto⟩) = rk T f m k (JpY (JD (AF T) ins sto.length ⟨env, room (news ins) sto⟩ none))) ∧
  (∀ T f m k d q ps ins env sto, rk T f m k (X T (.reg d (q :: ps) ins) ⟨env, sto⟩) = rk T f m k (Jnu (q :: ps) (JD (AF T) ins sto.length ⟨env, room (news ins) sto⟩ (some [])))) ∧
  (∀ T f m k i c s, rk T f m k (X T (.block i c) s) = rk T f m (.bl i :: k) (X T c s)) ∧
  (∀ T f m k c s, rk T f m k (X T (.scope c) s) = rk T f m k (X T c s)) ∧
  (∀ T f m k i s, rk T f m k (X T (.exit i) s) = rk T f m k (some (.exit i, s))) ∧
  (∀ T f m k s, rk T f m k (X T .ret s) = rk T f m k (some (.ret, s))) ∧
  (∀ T f m k live c env sto, rk T f m k (X T (.keep live c) ⟨env, sto⟩) = rk T f m k (X T c ⟨restr live env, sto⟩)) ∧
  (∀ T f m k live c env sto, rk T f m k (X T (.tidy live c) ⟨env, sto⟩) = rk T f m (.td sto.length live :: k) (X T c ⟨env, sto⟩)) ∧
  (∀ T f m k live c env sto, rk T f m k (X T (.loop live c) ⟨env, sto⟩) = rk T f m k (X T (.lp sto.length live c) ⟨restr live env, sto⟩)) ∧
  (∀ T f m k x a b env sto, rk T f m k (X T (.cond x a b) ⟨env, sto⟩) = rk T f m k (cnd (evv x env) (J7R (X T a ⟨env, sto⟩) (.mk _)) (J7R (X T b ⟨env, sto⟩) (.mk _)) (J7R (fun _ => same (X T a ⟨env, sto⟩) (X T b ⟨env, sto⟩)) (.mk _)))) ∧
  (∀ a b h c, cnd (some (.p (.b true))) (J7R a h) b c = a) ∧
  (∀ a b h c, cnd (some (.p (.b false))) a (J7R b h) c = b) ∧
  (∀ T f m k b s, rk T f m (.sq b :: k) (some (.normal, s)) = rk T f m k (X T b s)) ∧
  (∀ T f m k b i s, rk T f m (.sq b :: k) (some (.exit i, s)) = rk T f m k (some (.exit i, s))) ∧
  (∀ T f m k b s, rk T f m (.sq b :: k) (some (.ret, s)) = rk T f m k (some (.ret, s))) ∧
  (∀ T f m k i s, rk T f m (.bl i :: k) (some (.normal, s)) = rk T f m k (some (.normal, s))) ∧
  (∀ T f m k i j s, rk T f m (.bl i :: k) (some (.exit j, s)) = if j = i then rk T f m k (some (.normal, s)) else rk T f m k (some (.exit j, s))) ∧
  (∀ T f m k i s, rk T f m (.bl i :: k) (some (.ret, s)) = rk T f m k (some (.ret, s))) ∧
  (∀ T f m k n live e s, rk T f m (.td n live :: k) (some (e, s)) = rk T f m k (tdn e (J68 n live s))) ∧
  (∀ e s, tdn e (some s) = some (e, s)) ∧
  (∀ T f m k n live c s, rk T f m (.lo n live c :: k) (some (.normal, s)) = rk T f m k (again T n live c (J68 n live s))) ∧
  (∀ T n live c s, again T n live c (some s) = X T (.lp n live c) s) ∧
  (∀ T f m k n live c i s, rk T f m (.lo n live c :: k) (some (.exit i, s)) = rk T f m k (some (.exit i, s))) ∧
  (∀ T f m k n live c s, rk T f m (.lo n live c :: k) (some (.ret, s)) = rk T f m k (some (.ret, s))) ∧
  (∀ T f m s, rk T f m [] (some (.normal, s)) = JhF f.res f.fresh m s) ∧
  (∀ T f m s, rk T f m [] (some (.ret, s)) = JhF f.res f.fresh m s) ∧
  (∀ s l, JpY (some (s, l)) = some (.normal, s)) ∧
  (∀ s l ps, Jnu ps (some (s, some l)) = if J8S l ps = true then some (.normal, s) else none) ∧
  (∀ l, J8S l [] = true) ∧
  (∀ l i j ps, J8S l ((i, j) :: ps) = (pkk l[i]? l[j]? && J8S l ps)) ∧
  (∀ a b, lgA none a b = none) ∧
  (∀ l a b, lgA (some l) a b = some (l ++ [(a, b)])) ∧
  (∀ {α : Type} (a : α) (l : List α), (a :: l)[0]? = some a) ∧
  (∀ {α : Type} (a : α) (l : List α) (n : Nat), (a :: l)[n + 1]? = l[n]?) ∧
  (∀ F new s lg, JD F [] new s lg = some (s, lg)) ∧
  (∀ F r new env sto lg d x, JD F (⟨.mv x, some d, none⟩ :: r) new ⟨env, sto⟩ lg = (evv x env).bind fun v => JD F r new ⟨(d, v) :: env, sto⟩ (lgA lg (rdO F (.mv x) new ⟨env, sto⟩) [])) ∧
  (∀ F r new env sto lg d c a b, JD F (⟨.pick c a b, some d, none⟩ :: r) new ⟨env, sto⟩ lg = (evv c env).bind fun u => pkh u (evv a env) (evv b env) (J7R (fun v => JD F r new ⟨(d, v) :: env, sto⟩ (lgA lg (rdO F (.pick c a b) new ⟨env, sto⟩) [])) (.mk _))) ∧
  (∀ F r new env sto lg d op t x y, JD F (⟨.bin op t x y, some d, none⟩ :: r) new ⟨env, sto⟩ lg = (evv x env).bind fun a => (evv y env).bind fun c => (J0M op t a c).bind fun v => JD F r new ⟨(d, v) :: env, sto⟩ (lgA lg (rdO F (.bin op t x y) new ⟨env, sto⟩) [])) ∧
  (∀ F r new env sto lg d op x, JD F (⟨.un op x, some d, none⟩ :: r) new ⟨env, sto⟩ lg = (evv x env).bind fun a => (unP op a).bind fun v => JD F r new ⟨(d, v) :: env, sto⟩ (lgA lg (rdO F (.un op x) new ⟨env, sto⟩) [])) ∧
  (∀ F r new env sto lg d g off n x, JD F (⟨.field g off n x, some d, none⟩ :: r) new ⟨env, sto⟩ lg = (evv x env).bind fun a => (J5W g off n a).bind fun v => JD F r new ⟨(d, v) :: env, sto⟩ (lgA lg (rdO F (.field g off n x) new ⟨env, sto⟩) [])) ∧
  (∀ F r new env sto lg d off x, JD F (⟨.faddr off x, some d, none⟩ :: r) new ⟨env, sto⟩ lg = (evv x env).bind fun a => (JaG off a).bind fun v => JD F r new ⟨(d, v) :: env, sto⟩ (lgA lg (rdO F (.faddr off x) new ⟨env, sto⟩) [])) ∧
  (∀ F r new env sto lg d x i, JD F (⟨.extr x i, some d, none⟩ :: r) new ⟨env, sto⟩ lg = (evv x env).bind fun a => (JfV i a).bind fun v => JD F r new ⟨(d, v) :: env, sto⟩ (lgA lg (rdO F (.extr x i) new ⟨env, sto⟩) [])) ∧
  (∀ F r new env sto lg d b x, JD F (⟨.len b x, some d, none⟩ :: r) new ⟨env, sto⟩ lg = (evv x env).bind fun a => (Jfw b a).bind fun v => JD F r new ⟨(d, v) :: env, sto⟩ (lgA lg (rdO F (.len b x) new ⟨env, sto⟩) [])) ∧
  (∀ F r new env sto lg d n, JD F (⟨.alen n, some d, none⟩ :: r) new ⟨env, sto⟩ lg = JD F r new ⟨(d, .p (.i .i64 n)) :: env, sto⟩ (lgA lg (rdO F (.alen n) new ⟨env, sto⟩) [])) ∧
  (∀ F r new env sto lg d b x y, JD F (⟨.mm b x y, some d, none⟩ :: r) new ⟨env, sto⟩ lg = (evv x env).bind fun a => (evv y env).bind fun c => (mmP b a c).bind fun v => JD F r new ⟨(d, v) :: env, sto⟩ (lgA lg (rdO F (.mm b x y) new ⟨env, sto⟩) [])) ∧
  (∀ F r new env sto lg d n e x i, JD F (⟨.aaddr n e x i, some d, none⟩ :: r) new ⟨env, sto⟩ lg = (evv x env).bind fun a => (evv i env).bind fun c => (JaB n e a c).bind fun v => JD F r new ⟨(d, v) :: env, sto⟩ (lgA lg (rdO F (.aaddr n e x i) new ⟨env, sto⟩) [])) ∧
  (∀ F r new env sto lg d e x i, JD F (⟨.iaddr e x i, some d, none⟩ :: r) new ⟨env, sto⟩ lg = (evv x env).bind fun a => (evv i env).bind fun c => ((J3B e a c).run ⟨env, sto⟩).bind fun q => JD F r new ⟨(d, q.val) :: env, upd q.ws sto⟩ (lgA lg (rdO F (.iaddr e x i) new ⟨env, sto⟩) (q.ws.map (·.1)))) ∧
  (∀ F r new env sto lg d x i, JD F (⟨.sidx x i, some d, none⟩ :: r) new ⟨env, sto⟩ lg = (evv x env).bind fun a => (evv i env).bind fun c => (Jjf a c).bind fun v => JD F r new ⟨(d, v) :: env, sto⟩ (lgA lg (rdO F (.sidx x i) new ⟨env, sto⟩) [])) ∧
  (∀ F r new env sto lg d g n e x i, JD F (⟨.aidx g n e x i, some d, none⟩ :: r) new ⟨env, sto⟩ lg = (evv x env).bind fun a => (evv i env).bind fun c => (Ji6 g n e a c).bind fun v => JD F r new ⟨(d, v) :: env, sto⟩ (lgA lg (rdO F (.aidx g n e x i) new ⟨env, sto⟩) [])) ∧
  (∀ F r new env sto lg d x, JD F (⟨.nilchk x, some d, none⟩ :: r) new ⟨env, sto⟩ lg = (evv x env).bind fun a => (JlQ a).bind fun v => JD F r new ⟨(d, v) :: env, sto⟩ (lgA lg (rdO F (.nilchk x) new ⟨env, sto⟩) [])) ∧
  (∀ F r new env sto lg d g n x, JD F (⟨.load g n x, some d, none⟩ :: r) new ⟨env, sto⟩ lg = (evv x env).bind fun a => ((J2c g n a).run ⟨env, sto⟩).bind fun q => JD F r new ⟨(d, q.val) :: env, upd q.ws sto⟩ (lgA lg (rdO F (.load g n x) new ⟨env, sto⟩) (q.ws.map (·.1)))) ∧
  (∀ F r new env sto lg n x y, JD F (⟨.store n x y, none, none⟩ :: r) new ⟨env, sto⟩ lg = (evv x env).bind fun a => (evv y env).bind fun c => ((J1M n a c).run ⟨env, sto⟩).bind fun q => JD F r new ⟨env, upd q.ws sto⟩ (lgA lg (rdO F (.store n x y) new ⟨env, sto⟩) (q.ws.map (·.1)))) ∧
  (∀ F r new env sto lg d c x, JD F (⟨.conv c x, some d, none⟩ :: r) new ⟨env, sto⟩ lg = (evv x env).bind fun a => dds (JR (.conv c x)) new sto (((cvR c a new).run ⟨env, sto⟩).bind fun e => JD F r (new + JR (.conv c x)) ⟨(d, e.val) :: env, upd e.ws sto⟩ (lgA lg (rdO F (.conv c x) new ⟨env, sto⟩) (e.ws.map (·.1))))) ∧
  (∀ F r new env sto lg d z ps, JD F (⟨.build z ps, some d, none⟩ :: r) new ⟨env, sto⟩ lg = ((J30 ps).run ⟨env, sto⟩).bind fun l => (J1k l (z.map .p)).bind fun cs => (J1T true cs).bind fun v => JD F r new ⟨(d, v) :: env, sto⟩ (lgA lg (rdO F (.build z ps) new ⟨env, sto⟩) [])) ∧
  (∀ F r new env sto lg d s x lo hi mx, JD F (⟨.slice s x lo hi mx, some d, none⟩ :: r) new ⟨env, sto⟩ lg = (evv x env).bind fun a => (J98 lo env).bind fun lo1 => (J98 hi env).bind fun hi1 => (J98 mx env).bind fun mx1 => ((slR s a lo1 hi1 mx1).run ⟨env, sto⟩).bind fun q => JD F r new ⟨(d, q.val) :: env, upd q.ws sto⟩ (lgA lg (rdO F (.slice s x lo hi mx) new ⟨env, sto⟩) (q.ws.map (·.1)))) ∧
  (∀ F r new env sto lg d e b z x y, JD F (⟨.app e b z x y, some d, none⟩ :: r) new ⟨env, sto⟩ lg = (evv x env).bind fun a => (evv y env).bind fun c => ((J7j e b a c).run ⟨env, sto⟩).bind fun q => JD F r new ⟨(d, q.val) :: env, upd q.ws sto⟩ (lgA lg (rdO F (.app e b z x y) new ⟨env, sto⟩) (q.ws.map (·.1)))) ∧
  (∀ F r new env sto lg d e b z x y, JD F (⟨.appz e b z x y, some d, none⟩ :: r) new ⟨env, sto⟩ lg = (evv x env).bind fun a => (evv y env).bind fun c => (zrs e z c).bind fun c1 => ((J7j e b a c1).run ⟨env, sto⟩).bind fun q => JD F r new ⟨(d, q.val) :: env, upd q.ws sto⟩ (lgA lg (rdO F (.appz e b z x y) new ⟨env, sto⟩) (q.ws.map (·.1)))) ∧
  (∀ F r new env sto lg d g a c, JD F (⟨.mkfn g a c, some d, none⟩ :: r) new ⟨env, sto⟩ lg = ((evs a).run ⟨env, sto⟩).bind fun a1 => ((evs c).run ⟨env, sto⟩).bind fun c1 => JD F r new ⟨(d, .fn g a1 c1) :: env, sto⟩ (lgA lg (rdO F (.mkfn g a c) new ⟨env, sto⟩) [])) ∧
  (∀ F r new env sto lg d g args n, JD F (⟨.callv g args n, some d, none⟩ :: r) new ⟨env, sto⟩ lg = (evv g env).bind fun u => cvg u fun h a1 c1 => dds n new sto (((evs args).run ⟨env, sto⟩).bind fun a => ((JM (a1 ++ a ++ c1)).run ⟨env, sto⟩).bind fun a => ((Jo F h a n new).run ⟨env, sto⟩).bind fun q => JD F r (new + n) ⟨(d, q.val) :: env, upd q.ws sto⟩ (lgA lg (rdO F (.callv g args n) new ⟨env, sto⟩) (q.ws.map (·.1))))) ∧
  (∀ F r new env sto lg g args n, JD F (⟨.callv g args n, none, none⟩ :: r) new ⟨env, sto⟩ lg = (evv g env).bind fun u => cvg u fun h a1 c1 => dds n new sto (((evs args).run ⟨env, sto⟩).bind fun a => ((JM (a1 ++ a ++ c1)).run ⟨env, sto⟩).bind fun a => ((Jo F h a n new).run ⟨env, sto⟩).bind fun q => JD F r (new + n) ⟨env, upd q.ws sto⟩ (lgA lg (rdO F (.callv g args n) new ⟨env, sto⟩) (q.ws.map (·.1))))) ∧
  (∀ {α : Type} (f : FuncId) (a c : List AV) (k : FuncId → List AV → List AV → Option α), cvg (.fn f a c) k = k f a c) ∧
  (∀ F r new env sto lg d e b z y, JD F (⟨.appn e b z y, some d, none⟩ :: r) new ⟨env, sto⟩ lg = (evv y env).bind fun c => ((J0n e c).run ⟨env, sto⟩).bind fun rows => if J5E rows.length b = true then dds 1 new sto (JD F r (new + 1) ⟨(d, .slr new 0 rows.length) :: env, sto.set new (.arr true e rows)⟩ (lgA lg (rdO F (.appn e b z y) new ⟨env, sto⟩) [new])) else none) ∧
  (∀ F r new env sto lg d e b z x y, JD F (⟨.appc e b z x y, some d, none⟩ :: r) new ⟨env, sto⟩ lg = (evv x env).bind fun a => (evv y env).bind fun c => ((J0n e c).run ⟨env, sto⟩).bind fun add => (Jm9 e b a add).bind fun rows => dds 1 new sto (JD F r (new + 1) ⟨(d, .slr new 0 rows.length) :: env, sto.set new (.arr true e rows)⟩ (lgA lg (rdO F (.appc e b z x y) new ⟨env, sto⟩) [new]))) ∧
  (∀ F r new env sto lg d z, JD F (⟨.newbox z, some d, none⟩ :: r) new ⟨env, sto⟩ lg = dds 1 new sto (JD F r (new + 1) ⟨(d, .ptr new 0) :: env, sto.set new (.box (z.map .p))⟩ (lgA lg (rdO F (.newbox z) new ⟨env, sto⟩) [new]))) ∧
  (∀ F r new env sto lg d e x, JD F (⟨.mkarr e x, some d, none⟩ :: r) new ⟨env, sto⟩ lg = dds 1 new sto (JD F r (new + 1) ⟨(d, .slr new 0 0) :: env, sto.set new (.arr true e [])⟩ (lgA lg (rdO F (.mkarr e x) new ⟨env, sto⟩) [new]))) ∧
  (∀ F r new env sto lg d n x, JD F (⟨.box n x, some d, none⟩ :: r) new ⟨env, sto⟩ lg = (evv x env).bind fun a => (bxP n a).bind fun cs => dds 1 new sto (JD F r (new + 1) ⟨(d, .ptr new 0) :: env, sto.set new (.box cs)⟩ (lgA lg (rdO F (.box n x) new ⟨env, sto⟩) [new]))) ∧
  (∀ F r new env sto lg d o e n z ps, JD F (⟨.lits o e n z ps, some d, none⟩ :: r) new ⟨env, sto⟩ lg = dds (if o then 1 else 0) new sto (((ltR o e n z ps new).run ⟨env, sto⟩).bind fun x => JD F r (new + if o then 1 else 0) ⟨(d, x.val) :: env, upd x.ws sto⟩ (lgA lg (rdO F (.lits o e n z ps) new ⟨env, sto⟩) (x.ws.map (·.1))))) ∧
  (∀ F r new env sto lg d o e b z l c, JD F (⟨.mkslice o e b z l c, some d, none⟩ :: r) new ⟨env, sto⟩ lg = (evv l env).bind fun a => (evv c env).bind fun x => dds (if o then 1 else 0) new sto ((mkP o e b z a x new).bind fun x => JD F r (new + if o then 1 else 0) ⟨(d, x.val) :: env, upd x.ws sto⟩ (lgA lg (rdO F (.mkslice o e b z l c) new ⟨env, sto⟩) (x.ws.map (·.1))))) ∧
  (∀ F r new env sto lg d g args n, JD F (⟨.call g args n, some d, none⟩ :: r) new ⟨env, sto⟩ lg = dds n new sto (((evs args).run ⟨env, sto⟩).bind fun a => ((JM a).run ⟨env, sto⟩).bind fun a => ((Jo F g a n new).run ⟨env, sto⟩).bind fun e => JD F r (new + n) ⟨(d, e.val) :: env, upd e.ws sto⟩ (lgA lg (rdO F (.call g args n) new ⟨env, sto⟩) (e.ws.map (·.1))))) ∧
  (∀ F r new env sto lg g args n, JD F (⟨.call g args n, none, none⟩ :: r) new ⟨env, sto⟩ lg = dds n new sto (((evs args).run ⟨env, sto⟩).bind fun a => ((JM a).run ⟨env, sto⟩).bind fun a => ((Jo F g a n new).run ⟨env, sto⟩).bind fun e => JD F r (new + n) ⟨env, upd e.ws sto⟩ (lgA lg (rdO F (.call g args n) new ⟨env, sto⟩) (e.ws.map (·.1))))) ∧
  (∀ F r new env sto lg d z os, JD F (⟨.newboxo z os, some d, none⟩ :: r) new ⟨env, sto⟩ lg = dds (os.length + 1) new sto (JD F r (new + (os.length + 1)) ⟨(d, .ptr (new + os.length) 0) :: env, upd (J3M os new ++ [(new + os.length, .box (J7I os new (z.map .p)))]) sto⟩ (lgA lg (rdO F (.newboxo z os) new ⟨env, sto⟩) ((J3M os new ++ [(new + os.length, Blk.box (J7I os new (z.map .p)))]).map (·.1))))) ∧
  (∀ F r new env sto lg e x, JD F (⟨.storen e x, none, none⟩ :: r) new ⟨env, sto⟩ lg = (evv x env).bind fun a => dds 1 new sto (((J1M 1 a (.slr new 0 0)).run ⟨env, sto⟩).bind fun q => JD F r (new + 1) ⟨env, upd ((new, .arr true e []) :: q.ws) sto⟩ (lgA lg (rdO F (.storen e x) new ⟨env, sto⟩) (new :: q.ws.map (·.1))))) ∧
  (∀ F r new env sto lg d z ps os, JD F (⟨.buildo z ps os, some d, none⟩ :: r) new ⟨env, sto⟩ lg = ((J30 ps).run ⟨env, sto⟩).bind fun l => (J1k l (J7I os new (z.map .p))).bind fun cs => (J1T true cs).bind fun v => dds os.length new sto (JD F r (new + os.length) ⟨(d, v) :: env, upd (J3M os new) sto⟩ (lgA lg (rdO F (.buildo z ps os) new ⟨env, sto⟩) ((J3M os new).map (·.1))))) ∧
  (∀ F r new env sto lg d g kp args n, JD F (⟨.callo g kp args n, some d, none⟩ :: r) new ⟨env, sto⟩ lg = dds n new sto (((evs args).run ⟨env, sto⟩).bind fun a => ((J2F kp a).run ⟨env, sto⟩).bind fun a => ((J3y F g a n new).run ⟨env, sto⟩).bind fun e => JD F r (new + n) ⟨(d, e.val) :: env, upd e.ws sto⟩ (lgA lg (rdO F (.callo g kp args n) new ⟨env, sto⟩) (e.ws.map (·.1))))) ∧
  (∀ F r new env sto lg g kp args n, JD F (⟨.callo g kp args n, none, none⟩ :: r) new ⟨env, sto⟩ lg = dds n new sto (((evs args).run ⟨env, sto⟩).bind fun a => ((J2F kp a).run ⟨env, sto⟩).bind fun a => ((J3y F g a n new).run ⟨env, sto⟩).bind fun e => JD F r (new + n) ⟨env, upd e.ws sto⟩ (lgA lg (rdO F (.callo g kp args n) new ⟨env, sto⟩) (e.ws.map (·.1))))) ∧
  (∀ {α : Type} (n new : Nat) (sto : List Blk) (o : Option α), dds (n + 1) new sto o = dd1 sto[new]? (dds n (new + 1) sto o)) ∧
  (∀ F r new env sto lg op d g w, JD F (⟨op, d, some (g, w)⟩ :: r) new ⟨env, sto⟩ lg = grd (lk g env) w (J7R (JD F (⟨op, d, none⟩ :: r) new ⟨env, sto⟩ lg) (.mk _)) (J7R (JD F r (new + JR op) (put d ⟨J1c, []⟩ ⟨env, sto⟩) (lgA lg [] [])) (.mk _))) ∧
  (∀ {α : Type} (a b : Option α) (h : Dum a), grd (some (.p (.b true))) true (J7R a h) b = a) ∧
  (∀ {α : Type} (a b : Option α) (h : Dum b), grd (some (.p (.b true))) false a (J7R b h) = b) ∧
  (∀ {α : Type} (a b : Option α) (h : Dum b), grd (some (.p (.b false))) true a (J7R b h) = b) ∧
  (∀ {α : Type} (a b : Option α) (h : Dum a), grd (some (.p (.b false))) false (J7R a h) b = a) ∧
  (∀ {α : Type} (w : Bool) (a b : Option α) (h : Dum b), grd (some (.tup [])) w a (J7R b h) = b) ∧
  (∀ {β : Type} (a b : Option AV) (K : AV → Option β) (h : Dum K), pkh (.p (.b true)) a b (J7R K h) = a.bind K) ∧
  (∀ {β : Type} (a b : Option AV) (K : AV → Option β) (h : Dum K), pkh (.p (.b false)) a b (J7R K h) = b.bind K) ∧
  (∀ {α β : Type} (a : α) (f : α → Option β), Option.bind (some a) f = f a) ∧
  (∀ {α : Type} (new : Nat) (sto : List Blk) (o : Option α), dds 0 new sto o = o) ∧
  (∀ {α : Type} (new : Nat) (sto : List Blk) (o : Option α), dds 1 new sto o = dd1 sto[new]? o) ∧
  (∀ {α : Type} (o : Option α), dd1 (some .dead) o = o) :=
  ⟨by intro T f m k s; exact Jsb T f m k s,
  by intro T f m k a b s; exact Jtl T f m k a b s,
  by intro T f m k d ins env sto; exact Jrg T f m k d ins env sto,
  by intro T f m k d q ps ins env sto; exact Jsm T f m k d q ps ins env sto,
  by intro T f m k i c s; exact Jq5 T f m k i c s,
  by intro T f m k c s; exact JpS T f m k c s,
  by intro T f m k i s; exact JrU T f m k i s,
  by intro T f m k s; exact Jtm T f m k s,
  by intro T f m k live c env sto; exact JrP T f m k live c env sto,
  by intro T f m k live c env sto; exact Jsj T f m k live c env sto,
  by intro T f m k live c env sto; exact JrI T f m k live c env sto,
  by intro T f m k x a b env sto; exact Jrp T f m k x a b env sto,
  by intros; rfl,
  by intros; rfl,
  by intros; rfl,
  by intros; rfl,
  by intros; rfl,
  by intros; rfl,
  by intro T f m k i j s; exact Jry T f m k i j s,
  by intros; rfl,
  by intro T f m k n live e s; exact (JtJ T f m k n live e s).trans (by cases J68 n live s <;> rfl),
  by intros; rfl,
  by intros; rfl,
  by intros; rfl,
  by intros; rfl,
  by intros; rfl,
  by intro T f m s; exact Jrw T f m s,
  by intro T f m s; exact Jqr T f m s,
  by intros; rfl,
  by intros; rfl,
  by intros; rfl,
  by intros; rfl,
  by intros; rfl,
  by intros; rfl,
  by intros; rfl,
  by intros; rfl,
  by intros; rfl,
  by intro F r new env sto lg d x; rw [st0 (h := rfl)]; simp only [opR, run_bind, J0N]; exact Jts,
  by intro F r new env sto lg d c a b; rw [st0 (h := rfl)]; simp only [opR, run_bind, J0N]; exact Jq6,
  by intro F r new env sto lg d op t x y; rw [st0 (h := rfl)]; simp only [opR, run_bind, J0N]; exact Jje (g := fun a c => J0M op t a c),
  by intro F r new env sto lg d op x; rw [st0 (h := rfl)]; simp only [opR, run_bind, J0N]; exact Jdf (g := fun a => unP op a),
  by intro F r new env sto lg d g off n x; rw [st0 (h := rfl)]; simp only [opR, run_bind, J0N]; exact Jdf (g := fun a => J5W g off n a),
  by intro F r new env sto lg d off x; rw [st0 (h := rfl)]; simp only [opR, run_bind, J0N]; exact Jdf (g := fun a => JaG off a),
  by intro F r new env sto lg d x i; rw [st0 (h := rfl)]; simp only [opR, run_bind, J0N]; exact Jdf (g := fun a => JfV i a),
  by intro F r new env sto lg d b x; rw [st0 (h := rfl)]; simp only [opR, run_bind, J0N]; exact Jdf (g := fun a => Jfw b a),
  by intro F r new env sto lg d n; rw [st0 (h := rfl)]; rfl,
  by intro F r new env sto lg d b x y; rw [st0 (h := rfl)]; simp only [opR, run_bind, J0N]; exact Jje (g := fun a c => mmP b a c),
  by intro F r new env sto lg d n e x i; rw [st0 (h := rfl)]; simp only [opR, run_bind, J0N]; exact Jje (g := fun a c => JaB n e a c),
  by intro F r new env sto lg d e x i; rw [st0 (h := rfl)]; simp only [opR, run_bind, J0N]; exact JhL (g := fun a c => (J3B e a c).run ⟨env, sto⟩),
  by intro F r new env sto lg d x i; rw [st0 (h := rfl)]; simp only [opR, run_bind, J0N]; exact Jsk,
  by intro F r new env sto lg d g n e x i; rw [st0 (h := rfl)]; simp only [opR, run_bind, J0N]; exact Jrl,
  by intro F r new env sto lg d x; rw [st0 (h := rfl)]; simp only [opR, run_bind, J0N]; exact Js1,
  by intro F r new env sto lg d g n x; rw [st0 (h := rfl)]; simp only [opR, run_bind, J0N]; exact JlD (g := fun a => (J2c g n a).run ⟨env, sto⟩),
  by intro F r new env sto lg n x y; rw [Jul (h := rfl)]; simp only [opR, run_bind, J0N]; exact JhL (g := fun a c => (J1M n a c).run ⟨env, sto⟩),
  by intro F r new env sto lg d c x; exact Jpy,
  by intro F r new env sto lg d z ps; exact Jol,
  by intro F r new env sto lg d s x lo hi mx; exact JoH,
  by intro F r new env sto lg d e b z x y; rw [st0 (h := rfl)]; simp only [opR, run_bind, J0N]; exact JhL (g := fun a c => (J7j e b a c).run ⟨env, sto⟩),
  by intro F r new env sto lg d e b z x y; rw [st0 (h := rfl)]; simp only [opR, run_bind, J0N]; exact Jp2,
  by intro F r new env sto lg d g a c; exact JqU,
  by intro F r new env sto lg d g args n; exact Jp3,
  by intro F r new env sto lg g args n; exact Jnt,
  by intros; rfl,
  by intro F r new env sto lg d e b z y; exact Jqq,
  by intro F r new env sto lg d e b z x y; exact JpA,
  by intro F r new env sto lg d z; exact Jnz,
  by intro F r new env sto lg d e x; exact JoM,
  by intro F r new env sto lg d n x; exact Jsn,
  by intro F r new env sto lg d o e n z ps; exact Jpm,
  by intro F r new env sto lg d o e b z l c; exact JmR,
  by intro F r new env sto lg d g args n; exact Jq7,
  by intro F r new env sto lg g args n; exact Job,
  by intro F r new env sto lg d z os; exact Jmu,
  by intro F r new env sto lg e x; exact JnW,
  by intro F r new env sto lg d z ps os; exact JnV,
  by intro F r new env sto lg d g kp args n; exact Joi,
  by intro F r new env sto lg g kp args n; exact JnP,
  by intro α n new sto o; exact Jue ..,
  by intro F r new env sto lg op d g w; exact JrQ ..,
  by intros; rfl,
  by intros; rfl,
  by intros; rfl,
  by intros; rfl,
  by intros; rfl,
  by intros; rfl,
  by intros; rfl,
  by intros; rfl,
  by intros; rfl,
  by intro α new sto o; exact Juf ..,
  by intros; rfl⟩
set_option maxRecDepth 30000 in
theorem Ua : (∀ n m v r, lk n ((m, v) :: r) = if n = m then some v else lk n r) ∧
  (∀ n env, evv (.t n) env = lk n env) ∧
  (∀ v env, evv (.c v) env = some v) ∧
  (∀ a b, pk (.p (.b true)) a b = a) ∧
  (∀ a b, pk (.p (.b false)) a b = b) ∧
  (∀ env, restr [] env = []) ∧
  (∀ k l env, restr (k :: l) env = JnD k (lk k env) (restr l env)) ∧
  (∀ k v l, JnD k (some v) l = (k, v) :: l) ∧
  (∀ k l, JnD k none l = l) ∧
  (∀ n, lk n [] = none) ∧
  (news [] = 0) ∧
  (∀ i r, news (i :: r) = JR i.op + news r) ∧
  (∀ x, JR (.mv x) = 0) ∧
  (∀ e x, JR (.mkarr e x) = 1) ∧
  (∀ a b c, JR (.pick a b c) = 0) ∧
  (∀ z, JR (.newbox z) = 1) ∧
  (∀ n x, JR (.box n x) = 1) ∧
  (∀ z ps, JR (.build z ps) = 0) ∧
  (∀ o e n z ps, JR (.lits o e n z ps) = if o then 1 else 0) ∧
  (∀ g n x, JR (.load g n x) = 0) ∧
  (∀ n x y, JR (.store n x y) = 0) ∧
  (∀ x, JR (.nilchk x) = 0) ∧
  (∀ op t x y, JR (.bin op t x y) = 0) ∧
  (∀ op x, JR (.un op x) = 0) ∧
  (∀ c x, JR (.conv (.int c) x) = 0) ∧
  (∀ x, JR (.conv .same x) = 0) ∧
  (∀ x, JR (.conv .toStr x) = 0) ∧
  (∀ o x, JR (.conv (.toBytes o) x) = if o then 1 else 0) ∧
  (∀ o e b z l c, JR (.mkslice o e b z l c) = if o then 1 else 0) ∧
  (∀ s x lo hi mx, JR (.slice s x lo hi mx) = 0) ∧
  (∀ off x, JR (.faddr off x) = 0) ∧
  (∀ g off n x, JR (.field g off n x) = 0) ∧
  (∀ e x i, JR (.iaddr e x i) = 0) ∧
  (∀ n e x i, JR (.aaddr n e x i) = 0) ∧
  (∀ x i, JR (.sidx x i) = 0) ∧
  (∀ g n e x i, JR (.aidx g n e x i) = 0) ∧
  (∀ x i, JR (.extr x i) = 0) ∧
  (∀ g args n, JR (.call g args n) = n) ∧
  (∀ g args n, JR (.callv g args n) = n) ∧
  (∀ b x, JR (.len b x) = 0) ∧
  (∀ n, JR (.alen n) = 0) ∧
  (∀ e b z x y, JR (.app e b z x y) = 0) ∧
  (∀ e b z x y, JR (.appz e b z x y) = 0) ∧
  (∀ e b z y, JR (.appn e b z y) = 1) ∧
  (∀ e b z x y, JR (.appc e b z x y) = 1) ∧
  (∀ b x y, JR (.mm b x y) = 0) ∧
  (∀ g a c, JR (.mkfn g a c) = 0) ∧
  (∀ z os, JR (.newboxo z os) = os.length + 1) ∧
  (∀ z ps os, JR (.buildo z ps os) = os.length) ∧
  (∀ e x, JR (.storen e x) = 1) ∧
  (∀ g kp args n, JR (.callo g kp args n) = n) ∧
  (∀ sto, room 0 sto = sto) ∧
  (∀ n sto, room (n + 1) sto = sto ++ .dead :: List.replicate n .dead) ∧
  (∀ sto, upd [] sto = sto) ∧
  (∀ b x ws sto, upd ((b, x) :: ws) sto = upd ws (sto.set b x)) ∧
  (∀ d v ws env sto, put (some d) ⟨v, ws⟩ ⟨env, sto⟩ = ⟨(d, v) :: env, upd ws sto⟩) ∧
  (∀ v ws env sto, put none ⟨v, ws⟩ ⟨env, sto⟩ = ⟨env, upd ws sto⟩) ∧
  (J1c = .tup []) ∧
  (∀ {α β : Type} (a : α) (f : α → β), Option.map f (some a) = some (f a)) ∧
  (∀ k x y, J0M .add .plain (.p (.i k x)) (.p (.i k y)) = some (.p (.i k (k.wrap (x + y))))) ∧
  (∀ k x y, J0M .sub .plain (.p (.i k x)) (.p (.i k y)) = some (.p (.i k (k.wrap (x - y))))) ∧
  (∀ k x y, J0M .mul .plain (.p (.i k x)) (.p (.i k y)) = some (.p (.i k (k.wrap (x * y))))) ∧
  (∀ k x y, J0M .and .plain (.p (.i k x)) (.p (.i k y)) = some (.p (.i k (Ju9 k x y)))) ∧
  (∀ k x y, J0M .or .plain (.p (.i k x)) (.p (.i k y)) = some (.p (.i k (orI k x y)))) ∧
  (∀ k x y, J0M .xor .plain (.p (.i k x)) (.p (.i k y)) = some (.p (.i k (JnO k x y)))) ∧
  (∀ k x y, J0M .eql .plain (.p (.i k x)) (.p (.i k y)) = some (.p (.b (x == y)))) ∧
  (∀ k x y, J0M .neq .plain (.p (.i k x)) (.p (.i k y)) = some (.p (.b (x != y)))) ∧
  (∀ k x y, J0M .lss .plain (.p (.i k x)) (.p (.i k y)) = some (.p (.b (decide (x < y))))) ∧
  (∀ k x y, J0M .leq .plain (.p (.i k x)) (.p (.i k y)) = some (.p (.b (decide (x ≤ y))))) ∧
  (∀ k x y, J0M .gtr .plain (.p (.i k x)) (.p (.i k y)) = some (.p (.b (decide (x > y))))) ∧
  (∀ k x y, J0M .geq .plain (.p (.i k x)) (.p (.i k y)) = some (.p (.b (decide (x ≥ y))))) ∧
  (∀ k x y, J0M .quo .plain (.p (.i k x)) (.p (.i k y)) = (Jti k x y).map fun z => .p (.i k z)) ∧
  (∀ k x y, J0M .rem .plain (.p (.i k x)) (.p (.i k y)) = (JjF x y).map fun z => .p (.i k z)) ∧
  (∀ k k2 x y, J0M .shl .plain (.p (.i k x)) (.p (.i k2 y)) = (Jeo k x y).map fun z => .p (.i k z)) ∧
  (∀ k k2 x y, J0M .shr .plain (.p (.i k x)) (.p (.i k2 y)) = (JlL k x y).map fun z => .p (.i k z)) ∧
  (∀ x y, J0M .add .plain (.p (.s x)) (.p (.s y)) = (J9U x y).map fun z => .p (.s z)) ∧
  (∀ x y, J0M .eql .plain (.p (.s x)) (.p (.s y)) = some (.p (.b (x == y)))) ∧
  (∀ x y, J0M .neq .plain (.p (.s x)) (.p (.s y)) = some (.p (.b (!(x == y))))) ∧
  (∀ x y, J0M .lss .plain (.p (.s x)) (.p (.s y)) = some (.p (.b (Op.bytesLess x y)))) ∧
  (∀ x y, J0M .leq .plain (.p (.s x)) (.p (.s y)) = some (.p (.b (Op.bytesLess x y || x == y)))) ∧
  (∀ x y, J0M .gtr .plain (.p (.s x)) (.p (.s y)) = some (.p (.b (!(Op.bytesLess x y || x == y))))) ∧
  (∀ x y, J0M .geq .plain (.p (.s x)) (.p (.s y)) = some (.p (.b (!Op.bytesLess x y)))) ∧
  (∀ x y, J0M .eql .bool (.p (.b x)) (.p (.b y)) = some (.p (.b (x == y)))) ∧
  (∀ x y, J0M .neq .bool (.p (.b x)) (.p (.b y)) = some (.p (.b (!(x == y))))) ∧
  (∀ ks a c, J0M .eql (.flat ks) (.data a) (.data c) = (J1g ks a c).map fun x => .p (.b x)) ∧
  (∀ ks a c, J0M .neq (.flat ks) (.data a) (.data c) = (J1g ks a c).map fun x => .p (.b (!x))) ∧
  (∀ b o y, J0M .eql .nilp (.ptr b o) y = some (.p (.b false))) ∧
  (∀ b o y, J0M .neq .nilp (.ptr b o) y = some (.p (.b true))) ∧
  (∀ k n, unP .neg (.p (.i k n)) = some (.p (.i k (k.wrap (0 - n))))) ∧
  (∀ k n, unP .xor (.p (.i k n)) = some (.p (.i k (Jun k n)))) ∧
  (∀ x, unP .not (.p (.b x)) = some (.p (.b (!x)))) ∧
  ((!true) = false) ∧
  ((!false) = true) ∧
  (∀ k x y, mmP true (.p (.i k x)) (.p (.i k y)) = some (.p (.i k (Jf4 x y)))) ∧
  (∀ k x y, mmP false (.p (.i k x)) (.p (.i k y)) = some (.p (.i k (JhP x y)))) ∧
  (∀ off b o, JaG off (.ptr b o) = some (.ptr b (o + off))) ∧
  (∀ off o cs, JaG off (.cp cs o) = some (.cp cs (o + off))) ∧
  (∀ off b e i o, JaG off (.ep b e i o) = some (.ep b e i (o + off))) ∧
  (∀ g off n cs, J5W g off n (.data cs) = (sub cs off n).bind (J29 g)) ∧
  (∀ g off n c cs, J5W g off n (.agg (c :: cs)) = (sub (c :: cs) off n).bind (J1T g)) ∧
  (∀ cs, J29 true cs = some (.data cs)) ∧
  (∀ c, J29 false [c] = some (.p c)) ∧
  (∀ cs, J1T true (cs.map AV.p) = some (.data cs)) ∧
  (∀ c cs, J1T true (c :: cs) = some (JlK (c :: cs) (unp (c :: cs)))) ∧
  (∀ c, J1T false [c] = some c) ∧
  (∀ cs l, JlK cs (some l) = .data l) ∧
  (∀ c, Option.map (fun l => c :: l) (none : Option (List PV)) = none) ∧
  (∀ cs, JlK cs none = .agg cs) ∧
  (unp [] = some []) ∧
  (∀ c r, unp (.p c :: r) = (unp r).map fun l => c :: l) ∧
  (∀ b i n r, unp (.slr b i n :: r) = none) ∧
  (∀ b i r, unp (.ptr b i :: r) = none) ∧
  (∀ b e i o r, unp (.ep b e i o :: r) = none) ∧
  (∀ f a c r, unp (.fn f a c :: r) = none) ∧
  (∀ i vs, JfV i (.tup vs) = vs[i]?) ∧
  (∀ l, Jfw true (.p (.s l)) = some (.p (.i .i64 l.length))) ∧
  (∀ e rows, Jfw false (.p (.sl e rows)) = some (.p (.i .i64 rows.length))) ∧
  (∀ b i n, Jfw false (.slr b i n) = some (.p (.i .i64 n))) ∧
  (∀ {α β : Type} (g : α → β) (l : List α), (l.map g).length = l.length) ∧
  (∀ b o, JlQ (.ptr b o) = some (.ptr b o)) ∧
  (∀ cs o, JlQ (.cp cs o) = some (.cp cs o)) ∧
  (∀ b e i o, JlQ (.ep b e i o) = some (.ep b e i o)) ∧
  (∀ env sto g n cs off, (J2c g n (.cp cs off)).run ⟨env, sto⟩ = (sub cs off n).bind fun l => (J29 g l).map fun v => ⟨v, []⟩) ∧
  (∀ env sto g n b off, (J2c g n (.ptr b off)).run ⟨env, sto⟩ = sto[b]?.bind fun B => ldB g n off B) ∧
  (∀ env sto g n b e i off, (J2c g n (.ep b e i off)).run ⟨env, sto⟩ = sto[b]?.bind fun B => ldE g n e i off B) ∧
  (∀ g n off cs, ldB g n off (.box (cs.map AV.p)) = (sub cs off n).bind fun l => (J29 g l).map fun v => ⟨v, []⟩) ∧
  (∀ g n off c cs, ldB g n off (.box (c :: cs)) = (sub (c :: cs) off n).bind fun l => (J1T g l).map fun v => ⟨v, []⟩) ∧
  (∀ g n e i off z w rows, ldE g n e i off (.arr w z rows) = if e = rows.length then rows[i]?.bind fun row => (sub row off n).bind fun l => (J29 g l).map fun v => ⟨v, []⟩ else none) ∧
  (∀ env sto n b off v, (J1M n (.ptr b off) v).run ⟨env, sto⟩ = sto[b]?.bind fun B => (cellsOf v).bind fun l => stB n b off l B) ∧
  (∀ n b off cs vs, stB n b off (vs.map AV.p) (.box (cs.map AV.p)) = if vs.length = n then (spl cs off vs).map fun cs => ⟨J1c, [(b, .box (cs.map AV.p))]⟩ else none) ∧
  (∀ b off cs v, stB 1 b off [AV.p v] (.box (cs.map AV.p)) = (spl cs off [v]).map fun cs => ⟨J1c, [(b, .box (cs.map AV.p))]⟩) ∧
  (∀ env sto n b e i off v, (J1M n (.ep b e i off) v).run ⟨env, sto⟩ = sto[b]?.bind fun B => stE n b e i off v B ⟨env, sto⟩) ∧
  (∀ n b e i off z c rows s, stE n b e i off (.p c) (.arr true z rows) s = if e = rows.length then rows[i]?.bind fun row => if 1 = n then (spl row off [c]).map fun row => ⟨J1c, [(b, .arr true z (rows.set i row))]⟩ else none else none) ∧
  (∀ n b e i off z cs rows s, stE n b e i off (.data cs) (.arr true z rows) s = if e = rows.length then rows[i]?.bind fun row => if cs.length = n then (spl row off cs).map fun row => ⟨J1c, [(b, .arr true z (rows.set i row))]⟩ else none else none) ∧
  (∀ c, cellsOf (.p c) = some [.p c]) ∧
  (∀ cs, cellsOf (.data cs) = some (cs.map AV.p)) ∧
  (∀ cs, cellsOf (.agg cs) = some cs) ∧
  (∀ f a c, cellsOf (.fn f a c) = some [.fn f a c]) ∧
  (∀ b i n, cellsOf (.slr b i n) = some [.slr b i n]) ∧
  (∀ b o, cellsOf (.ptr b o) = some [.ptr b o]) ∧
  (∀ c, bxP 1 (.p c) = some [.p c]) ∧
  (∀ n cs, bxP n (.data cs) = if cs.length = n then some (cs.map AV.p) else none) ∧
  (∀ n cs, bxP n (.agg cs) = if cs.length = n then some cs else none) ∧
  (∀ b i n, bxP 1 (.slr b i n) = some [.slr b i n]) ∧
  (∀ env sto e rows k n, (J3B e (.p (.sl e rows)) (.p (.i k n))).run ⟨env, sto⟩ = (Jb6 rows n).map fun row => ⟨.cp row 0, []⟩) ∧
  (∀ env sto e b m k n, (J3B e (.slr b 0 m) (.p (.i k n))).run ⟨env, sto⟩ = sto[b]?.bind fun B => iaB e b m n B) ∧
  (∀ e b m n w rows, iaB e b m n (.arr w e rows) = if m = rows.length ∧ 0 ≤ n ∧ n < m then some ⟨.ep b rows.length n.toNat 0, []⟩ else none) ∧
  (∀ n e b off k i, JaB n e (.ptr b off) (.p (.i k i)) = if 0 ≤ i ∧ i < n then some (.ptr b (off + i.toNat * e)) else none) ∧
  (∀ n e off cs k i, JaB n e (.cp cs off) (.p (.i k i)) = if 0 ≤ i ∧ i < n then some (.cp cs (off + i.toNat * e)) else none) ∧
  (∀ n e b x j off k i, JaB n e (.ep b x j off) (.p (.i k i)) = if 0 ≤ i ∧ i < n then some (.ep b x j (off + i.toNat * e)) else none) ∧
  (∀ l k n, Jjf (.p (.s l)) (.p (.i k n)) = (Jfi l n).map fun v => .p (.i .u8 v)) ∧
  (∀ g n e cs k i, Ji6 g n e (.agg cs) (.p (.i k i)) = if 0 ≤ i ∧ i < n then J5W g (i.toNat * e) e (.agg cs) else none) ∧
  (∀ g n e cs k i, Ji6 g n e (.data cs) (.p (.i k i)) = if 0 ≤ i ∧ i < n then (sub cs (i.toNat * e) e).bind (J29 g) else none) ∧
  (∀ env sto c k n new, (cvR (.int c) (.p (.i k n)) new).run ⟨env, sto⟩ = some ⟨.p (.i c (c.wrap n)), []⟩) ∧
  (∀ env sto l new, (cvR .same (.p (.s l)) new).run ⟨env, sto⟩ = some ⟨.p (.s l), []⟩) ∧
  (∀ env sto l new, (cvR .toStr (.p (.sl 1 (l.map (r_i .u8)))) new).run ⟨env, sto⟩ = some ⟨.p (.s (toStr l)), []⟩) ∧
  (∀ env sto b n new, (cvR .toStr (.slr b 0 n) new).run ⟨env, sto⟩ = sto[b]?.bind fun B => cvB n B) ∧
  (∀ n w l, cvB n (.arr w 1 (l.map (r_i .u8))) = if n = l.length then some ⟨.p (.s (toStr l)), []⟩ else none) ∧
  (∀ env sto l new, (cvR (.toBytes false) (.p (.s l)) new).run ⟨env, sto⟩ = some ⟨.p (.sl 1 ((J9m l).map (r_i .u8))), []⟩) ∧
  (∀ env sto l new, (cvR (.toBytes true) (.p (.s l)) new).run ⟨env, sto⟩ = some ⟨.slr new 0 (J9m l).length, [(new, .arr true 1 ((J9m l).map (r_i .u8)))]⟩) ∧
  (∀ env sto, (J30 []).run ⟨env, sto⟩ = some []) ∧
  (∀ env sto off size x r, (J30 ((off, size, x) :: r)).run ⟨env, sto⟩ = (evv x env).bind fun v => (cellsOf v).bind fun cs => ((J30 r).run ⟨env, sto⟩).bind fun l => some ((off, size, cs) :: l)) ∧
  (∀ cs, J1k [] cs = some cs) ∧
  (∀ off size vs cs r, J1k ((off, size, vs.map AV.p) :: r) (cs.map AV.p) = if vs.length = size then (spl cs off vs).bind fun cs => J1k r (cs.map AV.p) else none) ∧
  (∀ off v cs r, J1k ((off, 1, [AV.p v]) :: r) (cs.map AV.p) = (spl cs off [v]).bind fun cs => J1k r (cs.map AV.p)) ∧
  (∀ env sto, (evs []).run ⟨env, sto⟩ = some []) ∧
  (∀ env sto x r, (evs (x :: r)).run ⟨env, sto⟩ = (evv x env).bind fun v => ((evs r).run ⟨env, sto⟩).bind fun vs => some (v :: vs)) ∧
  (∀ n, J3M [] n = []) ∧
  (∀ o e r n, J3M ((o, e) :: r) n = (n, .arr true e []) :: J3M r (n + 1)) ∧
  (∀ n cs, J7I [] n cs = cs) ∧
  (∀ o e r n cs, J7I ((o, e) :: r) n cs = J7I r (n + 1) (cs.set o (.slr n 0 0))) ∧
  (∀ env sto m, (J2F m []).run ⟨env, sto⟩ = some ([], [])) ∧
  (∀ env sto l, (J2F [] l).run ⟨env, sto⟩ = (JM l).run ⟨env, sto⟩) ∧
  (∀ env sto x m r, (J2F (true :: m) (x :: r)).run ⟨env, sto⟩ = ((J2F m r).run ⟨env, sto⟩).bind fun c => some (x :: c.1, c.2)) ∧
  (∀ env sto x m r, (J2F (false :: m) (x :: r)).run ⟨env, sto⟩ = ((JM [x]).run ⟨env, sto⟩).bind fun a => ((J2F m r).run ⟨env, sto⟩).bind fun c => some (a.1 ++ c.1, a.2 ++ c.2)) ∧
  (∀ env sto, (JM []).run ⟨env, sto⟩ = some ([], [])) ∧
  (∀ env sto c r, (JM (.p c :: r)).run ⟨env, sto⟩ = ((JM r).run ⟨env, sto⟩).bind fun a => some (.p c :: a.1, a.2)) ∧
  (∀ env sto c r, (JM (.data c :: r)).run ⟨env, sto⟩ = ((JM r).run ⟨env, sto⟩).bind fun a => some (.data c :: a.1, a.2)) ∧
  (∀ env sto b o r, (JM (.ptr b o :: r)).run ⟨env, sto⟩ = ((JM r).run ⟨env, sto⟩).bind fun a => some (.ptr b o :: a.1, a.2)) ∧
  (∀ env sto c o r, (JM (.cp c o :: r)).run ⟨env, sto⟩ = ((JM r).run ⟨env, sto⟩).bind fun a => some (.cp c o :: a.1, a.2)) ∧
  (∀ env sto b x i o r, (JM (.ep b x i o :: r)).run ⟨env, sto⟩ = ((JM r).run ⟨env, sto⟩).bind fun a => some (.ep b x i o :: a.1, a.2)) ∧
  (∀ env sto b n r, (JM (.slr b 0 n :: r)).run ⟨env, sto⟩ = sto[b]?.bind fun B => (frz b n B).bind fun x => ((JM r).run ⟨env, sto⟩).bind fun a => some (x.1 :: a.1, x.2 :: a.2)) ∧
  (∀ env sto cs r, (JM (.agg cs :: r)).run ⟨env, sto⟩ = ((fz.fzL cs).run ⟨env, sto⟩).bind fun x => ((JM r).run ⟨env, sto⟩).bind fun a => some (.data x.1 :: a.1, x.2 ++ a.2)) ∧
  (∀ b n z w rows, frz b n (.arr w z rows) = if n = rows.length then some (.p (.sl z rows), (b, .arr false z rows)) else none) ∧
  (∀ env sto, (fz.fzL []).run ⟨env, sto⟩ = some ([], [])) ∧
  (∀ env sto c r, (fz.fzL (.p c :: r)).run ⟨env, sto⟩ = ((fz.fzL r).run ⟨env, sto⟩).bind fun a => some (c :: a.1, a.2)) ∧
  (∀ env sto b n r, (fz.fzL (.slr b 0 n :: r)).run ⟨env, sto⟩ = sto[b]?.bind fun B => (frp b n B).bind fun x => ((fz.fzL r).run ⟨env, sto⟩).bind fun a => some (x.1 :: a.1, x.2 :: a.2)) ∧
  (∀ b n z w rows, frp b n (.arr w z rows) = if n = rows.length then some (.sl z rows, (b, .arr false z rows)) else none) ∧
  (∀ env sto f a c r, (JM (.fn f a c :: r)).run ⟨env, sto⟩ = ((JM r).run ⟨env, sto⟩).bind fun x => some (.fn f a c :: x.1, x.2)) ∧
  (∀ m ids sto f a c, fin m ids sto (.fn f a c) = (fin.finL m ids sto a).bind fun a1 => (fin.finL m ids sto c).bind fun c1 => some (.fn f a1 c1)) ∧
  (∀ f a c l, J0a (.fn f a c) l = J0a.entsOfL c (J0a.entsOfL a l)) ∧
  (∀ ws s, JB ws s [] [] = True) ∧
  (∀ ws s b bs cs css, JB ws s (b :: bs) (cs :: css) = ((J7E ws b).run s = some (.box cs) ∧ JB ws s bs css)) ∧
  (∀ env sto b c x ws, (J7E ((c, x) :: ws) b).run ⟨env, sto⟩ = sto[b]?.bind fun y => some ((J2G b ((c, x) :: ws)).getD y)) ∧
  (∀ b, J2G b [] = none) ∧
  (∀ b c x r, J2G b ((c, x) :: r) = lwO (J2G b r) (if c = b then some x else none)) ∧
  (∀ x y, lwO (some x) y = some x) ∧
  (∀ y, lwO none y = y) ∧
  (∀ {α : Type} (a b : α), (some a).getD b = a) ∧
  (∀ {α : Type} (b : α), (none : Option α).getD b = b) ∧
  (∀ env sto b, (J7E [] b).run ⟨env, sto⟩ = sto[b]?) ∧
  (∀ env sto e rows, (J0n e (.p (.sl e rows))).run ⟨env, sto⟩ = some rows) ∧
  (∀ env sto l, (J0n 1 (.p (.s l))).run ⟨env, sto⟩ = some ((J9m l).map (r_i .u8))) ∧
  (∀ env sto e b n, (J0n e (.slr b 0 n)).run ⟨env, sto⟩ = sto[b]?.bind fun B => roB e n B) ∧
  (∀ e n w rows, roB e n (.arr w e rows) = if n = rows.length then some rows else none) ∧
  (∀ env sto o e n new z ps, (ltR o e n z ps new).run ⟨env, sto⟩ = ((fzs (ps.map (·.2))).run ⟨env, sto⟩).bind fun a => (J4B e ((ps.map (·.1)).zip a.1) (List.replicate n z)).map fun rows => if o then ⟨.slr new 0 n, a.2 ++ [(new, .arr true e rows)]⟩ else ⟨.p (.sl e rows), a.2⟩) ∧
  (∀ env sto, (fzs []).run ⟨env, sto⟩ = some ([], [])) ∧
  (∀ env sto x r, (fzs (x :: r)).run ⟨env, sto⟩ = (evv x env).bind fun v => ((fz v).run ⟨env, sto⟩).bind fun a => ((fzs r).run ⟨env, sto⟩).bind fun c => some (a.1 :: c.1, a.2 ++ c.2)) ∧
  (∀ env sto c, (fz (.p c)).run ⟨env, sto⟩ = some ([c], [])) ∧
  (∀ env sto cs, (fz (.data cs)).run ⟨env, sto⟩ = some (cs, [])) ∧
  (∀ env sto cs, (fz (.agg cs)).run ⟨env, sto⟩ = (fz.fzL cs).run ⟨env, sto⟩) ∧
  (∀ env sto b n, (fz (.slr b 0 n)).run ⟨env, sto⟩ = sto[b]?.bind fun B => (frp b n B).bind fun x => some ([x.1], [x.2])) ∧
  (∀ e rows, J4B e [] rows = some rows) ∧
  (∀ e i c r rows, J4B e ((i, c) :: r) rows = if c.length = e ∧ i < rows.length then J4B e r (rows.set i c) else none) ∧
  (∀ o e b new z k k2 n m, mkP o e b z (.p (.i k n)) (.p (.i k2 m)) new = if 0 ≤ n ∧ n ≤ m ∧ b * m ≤ 281474976710656 ∧ m ≤ 281474976710656 then some (if o then ⟨.slr new 0 n.toNat, [(new, .arr true e (List.replicate n.toNat z))]⟩ else ⟨.p (.sl e (List.replicate n.toNat z)), []⟩) else none) ∧
  (∀ env, J98 none env = some none) ∧
  (∀ x env, J98 (some x) env = (evv x env).map some) ∧
  (∀ env sto s c lo hi, (slR s (.p c) lo hi none).run ⟨env, sto⟩ = (slX s (.p c) lo hi).map fun v => ⟨v, []⟩) ∧
  (∀ env sto s b n lo hi, (slR s (.slr b 0 n) lo hi none).run ⟨env, sto⟩ = sto[b]?.bind fun B => (frz b n B).bind fun x => (slX s x.1 lo hi).map fun v => ⟨v, [x.2]⟩) ∧
  (∀ x lo hi, slX .str x lo hi = J61 x lo hi) ∧
  (∀ e x lo hi, slX (.sl e) x lo hi = J8C e x lo hi) ∧
  (∀ n live env sto, J68 n live ⟨env, sto⟩ = if sto.length = n then some ⟨restr live env, sto⟩ else (J8F n sto (restr live env)).bind fun e => (J48 n [] sto (sto.take n)).bind fun l => some ⟨e, l⟩) ∧
  (∀ m sto, J8F m sto [] = some []) ∧
  (∀ m k sto x r, J8F m sto ((k, x) :: r) = (fin m [] sto x).bind fun y => (J8F m sto r).bind fun l => some ((k, y) :: l)) ∧
  (∀ m ids sto, J48 m ids sto [] = some []) ∧
  (∀ m ids sto x r, J48 m ids sto (x :: r) = (J52 m ids sto x).bind fun y => (J48 m ids sto r).bind fun l => some (y :: l)) ∧
  (∀ m ids sto, J52 m ids sto .dead = some .dead) ∧
  (∀ m ids sto w z rows, J52 m ids sto (.arr w z rows) = some (.arr w z rows)) ∧
  (∀ m ids sto cs, J52 m ids sto (.box cs) = (fin.finL m ids sto cs).map .box) ∧
  (∀ (m : Nat) (ids : List Nat) (sto : List Blk) (l : List PV), fin.finL m ids sto (l.map AV.p) = some (l.map AV.p)) ∧
  (∀ m ids sto, fin.finL m ids sto [] = some []) ∧
  (∀ m ids sto x r, fin.finL m ids sto (x :: r) = (fin m ids sto x).bind fun y => (fin.finL m ids sto r).bind fun l => some (y :: l)) ∧
  (∀ m ids sto c, fin m ids sto (.p c) = some (.p c)) ∧
  (∀ m ids sto c, fin m ids sto (.data c) = some (.data c)) ∧
  (∀ m ids sto c o, fin m ids sto (.cp c o) = some (.cp c o)) ∧
  (∀ m ids sto, fin m ids sto (.tup []) = some (.tup [])) ∧
  (∀ m ids sto b off, fin m ids sto (.ptr b off) = if b < m then some (.ptr b off) else (J8m b ids m).map fun k => .ptr k off) ∧
  (∀ m ids sto b n, fin m ids sto (.slr b 0 n) = if b < m then some (.slr b 0 n) else fsl (J8m b ids m) n sto[b]?) ∧
  (∀ k n o, fsl (some k) n o = some (.slr k 0 n)) ∧
  (∀ n z w rows, fsl none n (some (.arr w z rows)) = if n = rows.length then some (.p (.sl z rows)) else none) ∧
  (∀ m ids sto cs, fin m ids sto (.agg cs) = (fin.finL m ids sto cs).bind fun l => some (JlK l (unp l))) ∧
  (∀ m ids sto x cs, fin m ids sto (.tup (x :: cs)) = (fin.finL m ids sto (x :: cs)).map .tup) ∧
  (∀ b k, J8m b [] k = none) ∧
  (∀ b x k r, J8m b (x :: r) k = if x = b then some k else J8m b r (k + 1)) ∧
  (∀ res fresh m env sto, JhF res fresh m ⟨env, sto⟩ = ((J6x res).run ⟨env, sto⟩).bind fun vs => if sto.length = m then some (one vs, sto) else JnU fresh m vs sto (J1p m fresh sto (J7Y sto (J0a.entsOfL vs []) (J0a.entsOfL vs [])))) ∧
  (∀ fresh m vs sto ids, JnU fresh m vs sto ids = if J41 ids = true then (fin.finL m ids sto vs).bind fun ws => (J48 m ids sto (sto.take m)).bind fun l => (J7v sto ids).bind fun q => (J48 m ids sto q).bind fun q => some (one ws, l ++ q) else none) ∧
  (∀ env sto, (J6x []).run ⟨env, sto⟩ = some []) ∧
  (∀ env sto t r, (J6x (.tmp t :: r)).run ⟨env, sto⟩ = (lk t env).bind fun v => ((J6x r).run ⟨env, sto⟩).bind fun l => some (v :: l)) ∧
  (∀ env sto t n g r, (J6x (.cell t g n :: r)).run ⟨env, sto⟩ = (lk t env).bind fun v => ((J2c g n v).run ⟨env, sto⟩).bind fun e => ((J6x r).run ⟨env, sto⟩).bind fun l => some (e.val :: l)) ∧
  (∀ x, one [x] = x) ∧
  (one [] = .tup []) ∧
  (∀ x y r, one (x :: y :: r) = .tup (x :: y :: r)) ∧
  (∀ m fresh sto, J1p m fresh sto [] = []) ∧
  (∀ m b sto r, J1p m false sto (.whole b :: r) = if b < m then J1p m false sto r else oid b sto[b]? (J1p m false sto r)) ∧
  (∀ m b sto r, J1p m true sto (.whole b :: r) = if b < m then J1p m true sto r else Jld b sto[b]? (J1p m true sto r)) ∧
  (∀ b cs l, Jld b (some (.box cs)) l = b :: l) ∧
  (∀ b z w rows l, Jld b (some (.arr w z rows)) l = b :: l) ∧
  (∀ b cs l, oid b (some (.box cs)) l = b :: l) ∧
  (∀ b z w rows l, oid b (some (.arr w z rows)) l = l) ∧
  (∀ sto acc, J7Y sto [] acc = acc) ∧
  (∀ sto b r acc, J7Y sto (.whole b :: r) acc = J7Y sto r (ebb sto[b]? acc)) ∧
  (∀ cs acc, ebb (some (.box cs)) acc = J0a.entsOfL cs acc) ∧
  (∀ z w rows acc, ebb (some (.arr w z rows)) acc = acc) ∧
  (∀ l, J0a.entsOfL [] l = l) ∧
  (∀ x r l, J0a.entsOfL (x :: r) l = J0a.entsOfL r (J0a x l)) ∧
  (∀ (cs : List PV) (l : List Ent), J0a.entsOfL (cs.map AV.p) l = l) ∧
  (∀ c l, J0a (.p c) l = l) ∧
  (∀ c l, J0a (.data c) l = l) ∧
  (∀ c o l, J0a (.cp c o) l = l) ∧
  (∀ b o l, J0a (.ptr b o) l = J86 (.whole b) l) ∧
  (∀ b i n l, J0a (.slr b i n) l = J86 (.whole b) l) ∧
  (∀ cs l, J0a (.agg cs) l = J0a.entsOfL cs l) ∧
  (∀ cs l, J0a (.tup cs) l = J0a.entsOfL cs l) ∧
  (∀ e, J86 e [] = [e]) ∧
  (∀ b c r, J86 (.whole b) (.whole c :: r) = if c = b then .whole c :: r else .whole c :: J86 (.whole b) r) ∧
  (J41 [] = true) ∧
  (∀ x, J41 [x] = true) ∧
  (∀ sto, J7v sto [] = some []) ∧
  (∀ sto b r, J7v sto (b :: r) = sto[b]?.bind fun x => (J7v sto r).bind fun l => some (x :: l)) ∧
  (∀ {α : Type} (a : α) (l : List α), (a :: l)[0]? = some a) ∧
  (∀ {α : Type} (a : α) (l : List α) (n : Nat), (a :: l)[n + 1]? = l[n]?) ∧
  (∀ {α : Type} (n : Nat), ([] : List α)[n]? = none) ∧
  (∀ {α : Type} (a b : α) (l : List α), (a :: l).set 0 b = b :: l) ∧
  (∀ {α : Type} (a b : α) (l : List α) (n : Nat), (a :: l).set (n + 1) b = a :: l.set n b) ∧
  (∀ {α : Type} (l : List α), [] ++ l = l) ∧
  (∀ {α : Type} (l : List α), l ++ [] = l) ∧
  (∀ {α : Type} (a : α) (l r : List α), (a :: l) ++ r = a :: (l ++ r)) ∧
  (∀ {α : Type} (a : α), List.replicate 0 a = []) ∧
  (∀ {α : Type} (a : α) (n : Nat), List.replicate (n + 1) a = a :: List.replicate n a) ∧
  (∀ {α β : Type} (g : α → β), List.map g [] = []) ∧
  (∀ {α β : Type} (g : α → β) (a : α) (l : List α), List.map g (a :: l) = g a :: List.map g l) ∧
  (∀ {α : Type}, ([] : List α).length = 0) ∧
  (∀ {α : Type} (a : α) (l : List α), (a :: l).length = l.length + 1) ∧
  (∀ {α : Type} (l : List α), l.take 0 = []) ∧
  (∀ {α : Type} (a : α) (l : List α) (n : Nat), (a :: l).take (n + 1) = a :: l.take n) ∧
  (∀ {α β : Type} (l : List β), ([] : List α).zip l = []) ∧
  (∀ {α β : Type} (a : α) (b : β) (l : List α) (r : List β), (a :: l).zip (b :: r) = (a, b) :: l.zip r) ∧
  (∀ n, 0 + n = n) ∧
  (∀ n, n + 0 = n) ∧
  (∀ k n, r_i k n = [.i k n]) ∧
  (∀ x, r_b x = [.b x]) ∧
  (∀ x, r_s x = [.s x]) ∧
  (∀ {α : Type} (e : Nat) (g : α → List PV) (l : List α), Jju e g l = [.sl e (l.map g)]) ∧
  (∀ (a : PV), sub [a] 0 1 = some [a]) ∧
  (∀ (a b : PV), spl [a] 0 [b] = some [b]) ∧
  (∀ {α : Type} (cs : List α), sub cs 0 0 = some []) ∧
  (∀ {α : Type} (a : α) (cs : List α) (n : Nat), sub (a :: cs) 0 (n + 1) = (sub cs 0 n).map (a :: ·)) ∧
  (∀ {α : Type} (a : α) (cs : List α) (n m : Nat), sub (a :: cs) (n + 1) m = sub cs n m) ∧
  (∀ {α : Type} (cs : List α), spl cs 0 [] = some cs) ∧
  (∀ {α : Type} (a b : α) (cs vs : List α), spl (a :: cs) 0 (b :: vs) = (spl cs 0 vs).map (b :: ·)) ∧
  (∀ {α : Type} (a : α) (cs : List α) (n : Nat) (vs : List α), spl (a :: cs) (n + 1) vs = (spl cs n vs).map (a :: ·)) ∧
  (∀ n b off l c cs, stB n b off l (.box (c :: cs)) = if l.length = n then (spl (c :: cs) off l).map fun cs => ⟨J1c, [(b, .box cs)]⟩ else none) ∧
  (∀ off size c a cs r, J1k ((off, size, c) :: r) (a :: cs) = if c.length = size then (spl (a :: cs) off c).bind fun cs => J1k r cs else none) ∧
  (∀ {α : Type} (a b : α), (if True then a else b) = a) ∧
  (∀ {α : Type} (a b : α), (if False then a else b) = b) ∧
  (∀ {α : Type} (a b : α), (if true = true then a else b) = a) ∧
  (∀ {α : Type} (a b : α), (if false = true then a else b) = b) ∧
  (∀ a, (True ∧ a) = a) ∧
  (∀ a, (a ∧ True) = a) ∧
  (∀ {α : Type} (a : α), (a = a) = True) ∧
  (∀ {α β : Type} (a : α) (b : β), (a, b).1 = a) ∧
  (∀ {α β : Type} (a : α) (b : β), (a, b).2 = b) :=
  ⟨by intros; rfl,
  by intros; rfl,
  by intros; rfl,
  by intros; rfl,
  by intros; rfl,
  by intros; rfl,
  by intros; rfl,
  by intros; rfl,
  by intros; rfl,
  by intros; rfl,
  rfl,
  by intros; rfl,
  by intros; rfl,
  by intros; rfl,
  by intros; rfl,
  by intros; rfl,
  by intros; rfl,
  by intros; rfl,
  by intros; rfl,
  by intros; rfl,
  by intros; rfl,
  by intros; rfl,
  by intros; rfl,
  by intros; rfl,
  by intros; rfl,
  by intros; rfl,
  by intros; rfl,
  by intros; rfl,
  by intros; rfl,
  by intros; rfl,
  by intros; rfl,
  by intros; rfl,
  by intros; rfl,
  by intros; rfl,
  by intros; rfl,
  by intros; rfl,
  by intros; rfl,
  by intros; rfl,
  by intros; rfl,
  by intros; rfl,
  by intros; rfl,
  by intros; rfl,
  by intros; rfl,
  by intros; rfl,
  by intros; rfl,
  by intros; rfl,
  by intros; rfl,
  by intros; rfl,
  by intros; rfl,
  by intros; rfl,
  by intros; rfl,
  by intros; rfl,
  by intros; rfl,
  by intros; rfl,
  by intros; rfl,
  by intros; rfl,
  by intros; rfl,
  rfl,
  by intros; rfl,
  by intro k x y; simp only [J0M, if_true, J8o, Option.map_some]; try rfl,
  by intro k x y; simp only [J0M, if_true, J8o, Option.map_some]; try rfl,
  by intro k x y; simp only [J0M, if_true, J8o, Option.map_some]; try rfl,
  by intro k x y; simp only [J0M, if_true, J8o, Option.map_some]; try rfl,
  by intro k x y; simp only [J0M, if_true, J8o, Option.map_some]; try rfl,
  by intro k x y; simp only [J0M, if_true, J8o, Option.map_some]; try rfl,
  by intro k x y; simp only [J0M, if_true, J8o, Option.map_some]; try rfl,
  by intro k x y; simp only [J0M, if_true, J8o, Option.map_some]; try rfl,
  by intro k x y; simp only [J0M, if_true, J8o, Option.map_some]; try rfl,
  by intro k x y; simp only [J0M, if_true, J8o, Option.map_some]; try rfl,
  by intro k x y; simp only [J0M, if_true, J8o, Option.map_some]; try rfl,
  by intro k x y; simp only [J0M, if_true, J8o, Option.map_some]; try rfl,
  by intro k x y; simp only [J0M, if_true, J8o, Jti]; split <;> rfl,
  by intro k x y; simp only [J0M, if_true, J8o, JjF]; split <;> rfl,
  by intro k k2 x y; simp only [J0M, JbT, Jeo]; split <;> rfl,
  by intro k k2 x y; simp only [J0M, JbT, JlL]; split <;> rfl,
  by intro x y; simp only [J0M, Jl9, J9U]; split <;> rfl,
  by intro x y; rfl,
  by intro x y; rfl,
  by intro x y; rfl,
  by intro x y; rfl,
  by intro x y; rfl,
  by intro x y; rfl,
  by intros; rfl,
  by intros; rfl,
  by intro ks a c; simp only [J0M, J8B]; cases J1g ks a c <;> rfl,
  by intro ks a c; simp only [J0M, J8B]; cases J1g ks a c <;> rfl,
  by intros; rfl,
  by intros; rfl,
  by intros; rfl,
  by intros; rfl,
  by intros; rfl,
  rfl,
  rfl,
  by intros; rfl,
  by intros; rfl,
  by intros; rfl,
  by intros; rfl,
  by intros; rfl,
  by intro g off n cs; simp only [J5W]; cases sub cs off n <;> rfl,
  by intro g off n c cs; simp only [J5W]; cases sub (c :: cs) off n <;> rfl,
  by intros; rfl,
  by intros; rfl,
  by intro cs; exact JgW cs,
  by intro c cs; simp only [J1T, if_true]; cases unp (c :: cs) <;> rfl,
  by intros; rfl,
  by intros; rfl,
  by intros; rfl,
  by intros; rfl,
  rfl,
  by intro c r; simp only [unp]; cases unp r <;> rfl,
  by intros; rfl,
  by intros; rfl,
  by intros; rfl,
  by intros; rfl,
  by intros; rfl,
  by intros; rfl,
  by intros; rfl,
  by intros; rfl,
  by intro α β g l; simp,
  by intros; rfl,
  by intros; rfl,
  by intros; rfl,
  by intro env sto g n cs off; exact Jso ..,
  by intro env sto g n b off; exact Js5 ..,
  by intro env sto g n b e i off; exact JrR ..,
  by intro g n off cs; exact JtB ..,
  by intros; rfl,
  by intros; rfl,
  by intro env sto n b off v; exact Jsl ..,
  by intro n b off cs vs; exact Jr1 ..,
  by intro b off cs v; exact JtT ..,
  by intro env sto n b e i off v; exact JrE ..,
  by intro n b e i off z c rows s; exact JtQ ..,
  by intro n b e i off z cs rows s; exact JtG ..,
  by intros; rfl,
  by intros; rfl,
  by intros; rfl,
  by intros; rfl,
  by intros; rfl,
  by intros; rfl,
  by intros; rfl,
  by intro n cs; exact JsU ..,
  by intros; rfl,
  by intros; rfl,
  by intro env sto e rows k n; exact JqK ..,
  by intro env sto e b m k n; exact Jpz ..,
  by intro e b m n w rows; exact Jr9 ..,
  by intros; rfl,
  by intros; rfl,
  by intros; rfl,
  by intro l k n; exact JsT ..,
  by intros; rfl,
  by intro g n e cs k i; exact Jt4 ..,
  by intros; rfl,
  by intros; rfl,
  @Jle,
  by intro env sto b n new; exact JqL ..,
  @JtO,
  by intro env sto l new; exact JqG ..,
  by intro env sto l new; exact Jog ..,
  by intros; rfl,
  by intro env sto off size x r; exact Jt3 ..,
  by intros; rfl,
  by intro off size vs cs r; exact JlR ..,
  by intro off v cs r; exact JqQ ..,
  by intros; rfl,
  by intro env sto x r; exact Jto ..,
  by intros; rfl,
  by intros; rfl,
  by intros; rfl,
  by intros; rfl,
  by intro env sto m; cases m <;> rfl,
  by intro env sto l; rw [Jkk],
  by intro env sto x m r; exact Jr4 ..,
  by intro env sto x m r; exact Jrb ..,
  by intros; rfl,
  by intro env sto c r; exact JdA _ _ rfl ..,
  by intro env sto c r; exact JdA _ _ rfl ..,
  by intro env sto b o r; exact JdA _ _ rfl ..,
  by intro env sto c o r; exact JdA _ _ rfl ..,
  by intro env sto b x i o r; exact JdA _ _ rfl ..,
  by intro env sto b n r; exact JqD ..,
  by intro env sto cs r; exact Jps ..,
  @fr,
  by intros; rfl,
  by intro env sto c r; exact Jqm ..,
  by intro env sto b n r; exact JpM ..,
  by intros; rfl,
  by intro env sto f a c r; exact JdA _ _ rfl ..,
  by intro m ids sto f a c; exact Jrs ..,
  by intros; rfl,
  by intros; rfl,
  by intros; rfl,
  by intro env sto b c x ws; exact Js6 ..,
  by intros; rfl,
  by intro b c x r; exact Jtn ..,
  by intros; rfl,
  by intros; rfl,
  by intros; rfl,
  by intros; rfl,
  by intro env sto b; exact Jt7 ..,
  by intro env sto e rows; exact Jq4 ..,
  by intro env sto l; exact JpG ..,
  by intro env sto e b n; exact JqR ..,
  by intro e n w rows; exact Jpr ..,
  by intro env sto o e n new z ps; exact Jtd ..,
  by intros; rfl,
  by intro env sto x r; exact JsP ..,
  by intros; rfl,
  by intros; rfl,
  by intros; rfl,
  by intro env sto b n; exact JoB ..,
  by intros; rfl,
  by intros; rfl,
  @mk,
  by intros; rfl,
  by intros; rfl,
  by intro env sto s c lo hi; exact JpU ..,
  by intro env sto s b n lo hi; exact Jph ..,
  by intros; rfl,
  by intros; rfl,
  @cl,
  by intros; rfl,
  by intro m k sto x r; exact Jte ..,
  by intros; rfl,
  by intro m ids sto x r; exact JsN ..,
  by intros; rfl,
  by intros; rfl,
  by intro m ids sto cs; exact Js2 ..,
  by intro m ids sto l; exact Jk4 m ids sto l,
  by intros; rfl,
  by intro m ids sto x r; exact JsW ..,
  by intros; rfl,
  by intros; rfl,
  by intros; rfl,
  by intros; rfl,
  by intros; rfl,
  by intro m ids sto b n; exact JrL ..,
  by intros; rfl,
  by intros; rfl,
  by intro m ids sto cs; exact JrF ..,
  by intro m ids sto x cs; exact Jsc ..,
  by intros; rfl,
  by intros; rfl,
  by intros; rfl,
  by intros; rfl,
  by intros; rfl,
  by intro env sto t r; exact JpV ..,
  by intro env sto t n g r; exact JqB ..,
  by intros; rfl,
  rfl,
  by intros; rfl,
  by intros; rfl,
  by intro m b sto r; exact JsM ..,
  by intro m b sto r; exact Jsd ..,
  by intros; rfl,
  by intros; rfl,
  by intros; rfl,
  by intros; rfl,
  by intros; rfl,
  by intro sto b r acc; exact Jtw ..,
  by intros; rfl,
  by intros; rfl,
  by intros; rfl,
  by intros; rfl,
  by intro cs l; exact Jp0 cs l,
  by intros; rfl,
  by intros; rfl,
  by intros; rfl,
  by intros; rfl,
  by intros; rfl,
  by intros; rfl,
  by intros; rfl,
  by intros; rfl,
  by intro b c r; exact Jsz ..,
  rfl,
  by intros; rfl,
  by intros; rfl,
  by intro sto b r; exact Jtr ..,
  by intros; rfl,
  by intros; rfl,
  by intros; rfl,
  by intros; rfl,
  by intros; rfl,
  @JsB,
  @JsS,
  @JsG,
  by intros; rfl,
  by intros; rfl,
  @Jsr,
  @Jst,
  @Jt9,
  @Jsw,
  by intros; rfl,
  by intros; rfl,
  by intros; rfl,
  by intros; rfl,
  by intro n; exact Nat.zero_add n,
  by intros; rfl,
  @Jsp,
  @JsO,
  @JqY,
  @Jtj,
  @s1,
  by intros; rfl,
  by intro α cs; rw [J6L]; simp,
  by intro α a cs n; exact JqJ ..,
  by intro α a cs n m; exact Jq9 ..,
  by intro α cs; rw [J8f]; simp,
  by intro α a b cs vs; exact JpE ..,
  by intro α a cs n vs; exact Jqo ..,
  by intros; rfl,
  by intro off size c a cs r; exact JpX ..,
  by intros; rfl,
  by intros; rfl,
  by intros; rfl,
  by intros; rfl,
  by intro a; simp,
  by intro a; simp,
  by intro α a; simp,
  by intros; rfl,
  by intros; rfl⟩
set_option maxRecDepth 30000 in
theorem Nf : (∀ {α : Type} (l : List α), [] ++ l = l) ∧
  (∀ {α : Type} (l : List α), l ++ [] = l) ∧
  (∀ {α : Type} (a : α) (l r : List α), (a :: l) ++ r = a :: (l ++ r)) ∧
  (∀ {α β : Type} (g : α → β), List.map g [] = []) ∧
  (∀ {α β : Type} (g : α → β) (a : α) (l : List α), List.map g (a :: l) = g a :: List.map g l) ∧
  (∀ {α : Type}, ([] : List α).length = 0) ∧
  (∀ {α : Type} (a : α) (l : List α), (a :: l).length = l.length + 1) ∧
  (∀ k n, r_i k n = [.i k n]) ∧
  (∀ x, r_b x = [.b x]) ∧
  (∀ x, r_s x = [.s x]) ∧
  (∀ {α : Type} (e : Nat) (g : α → List PV) (l : List α), Jju e g l = [.sl e (l.map g)]) :=
  ⟨@JsB,
  @JsS,
  @JsG,
  @Jsr,
  @Jst,
  @Jt9,
  @Jsw,
  @Jsp,
  @JsO,
  @JqY,
  @Jtj⟩
set_option maxRecDepth 30000 in
theorem Ra : (∀ F new env sto g n x, rdO F (.load g n x) new ⟨env, sto⟩ = rb (evv x env) fun a => Jn ((J2c g n a).reads ⟨env, sto⟩)) ∧
  (∀ s g n b o, Jn ((J2c g n (.ptr b o)).reads s) = [b]) ∧
  (∀ s g n o cs, Jn ((J2c g n (.cp cs o)).reads s) = []) ∧
  (∀ s g n b e i o, Jn ((J2c g n (.ep b e i o)).reads s) = [b]) ∧
  (∀ F new s z, rdO F (.newbox z) new s = [new]) ∧
  (∀ F new env sto n x y, rdO F (.store n x y) new ⟨env, sto⟩ = rb (evv x env) fun a => rb (evv y env) fun c => Jn ((J1M n a c).reads ⟨env, sto⟩)) ∧
  (∀ s n b o v, Jn ((J1M n (.ptr b o) v).reads s) = [b]) ∧
  (∀ s n b e i o c, Jn ((J1M n (.ep b e i o) (.p c)).reads s) = [b]) ∧
  (∀ s n b e i o c, Jn ((J1M n (.ep b e i o) (.data c)).reads s) = [b]) ∧
  (∀ F new env sto g args, rdO F (.call g args 0) new ⟨env, sto⟩ = rb ((evs args).run ⟨env, sto⟩) fun a => Jn ((JM a).reads ⟨env, sto⟩) ++ rb ((JM a).run ⟨env, sto⟩) fun a => Jn ((Jo F g a 0 new).reads ⟨env, sto⟩)) ∧
  (∀ F new env sto g args, rdO F (.call g args 1) new ⟨env, sto⟩ = new :: rb (is1 sto[new]?) fun _ => rb ((evs args).run ⟨env, sto⟩) fun a => Jn ((JM a).reads ⟨env, sto⟩) ++ rb ((JM a).run ⟨env, sto⟩) fun a => Jn ((Jo F g a 1 new).reads ⟨env, sto⟩)) ∧
  (is1 (some .dead) = some ()) ∧
  (∀ {α β : Type} (a : α) (f : α → List β), rb (some a) f = f a) ∧
  (∀ F new env sto g args, rdO F (.callv g args 0) new ⟨env, sto⟩ = rb (evv g env) fun u => cvl u fun h a1 c1 => rb ((evs args).run ⟨env, sto⟩) fun a => Jn ((JM (a1 ++ a ++ c1)).reads ⟨env, sto⟩) ++ rb ((JM (a1 ++ a ++ c1)).run ⟨env, sto⟩) fun a => Jn ((Jo F h a 0 new).reads ⟨env, sto⟩)) ∧
  (∀ {α : Type} (f : FuncId) (a c : List AV) (k : FuncId → List AV → List AV → List α), cvl (.fn f a c) k = k f a c) ∧
  (∀ s, Jn ((JM []).reads s) = []) ∧
  (∀ s c r, Jn ((JM (.p c :: r)).reads s) = Jn ((JM r).reads s)) ∧
  (∀ s c r, Jn ((JM (.data c :: r)).reads s) = Jn ((JM r).reads s)) ∧
  (∀ s b o r, Jn ((JM (.ptr b o :: r)).reads s) = Jn ((JM r).reads s)) ∧
  (∀ s c o r, Jn ((JM (.cp c o :: r)).reads s) = Jn ((JM r).reads s)) ∧
  (∀ s b x i o r, Jn ((JM (.ep b x i o :: r)).reads s) = Jn ((JM r).reads s)) ∧
  (∀ s b n r, Jn ((JM (.slr b 0 n :: r)).reads s) = b :: rb ((J7P (.slr b 0 n)).run s) fun _ => Jn ((JM r).reads s)) ∧
  (∀ F new s e n z ps, rdO F (.lits false e n z ps) new s = Jn ((fzs (ps.map (·.2))).reads s)) ∧
  (∀ F new env sto e n z ps, rdO F (.lits true e n z ps) new ⟨env, sto⟩ = new :: rb (is1 sto[new]?) fun _ => Jn ((fzs (ps.map (·.2))).reads ⟨env, sto⟩)) ∧
  (∀ s, Jn ((fzs []).reads s) = []) ∧
  (∀ env sto x r, Jn ((fzs (x :: r)).reads ⟨env, sto⟩) = rb (evv x env) fun v => Jn ((fz v).reads ⟨env, sto⟩) ++ rb ((fz v).run ⟨env, sto⟩) fun _ => Jn ((fzs r).reads ⟨env, sto⟩)) ∧
  (∀ s c, Jn ((fz (.p c)).reads s) = []) ∧
  (∀ s c, Jn ((fz (.data c)).reads s) = []) ∧
  (∀ s b n, Jn ((fz (.slr b 0 n)).reads s) = [b]) ∧
  (∀ F new env sto x, rdO F (.conv .toStr x) new ⟨env, sto⟩ = rb (evv x env) fun a => Jn ((J0n 1 a).reads ⟨env, sto⟩)) ∧
  (∀ s e b n, Jn ((J0n e (.slr b 0 n)).reads s) = [b]) ∧
  (∀ s e z rows, Jn ((J0n e (.p (.sl z rows))).reads s) = []) ∧
  (∀ F new env sto e x i, rdO F (.iaddr e x i) new ⟨env, sto⟩ = rb (evv x env) fun a => rb (evv i env) fun c => Jn ((J3B e a c).reads ⟨env, sto⟩)) ∧
  (∀ s e b n k i, Jn ((J3B e (.slr b 0 n) (.p (.i k i))).reads s) = [b]) ∧
  (∀ s e z rows k i, Jn ((J3B e (.p (.sl z rows)) (.p (.i k i))).reads s) = []) ∧
  (∀ a b c d, pkk (some (a, b)) (some (c, d)) = (J67 b c && J67 b d && J67 a d)) ∧
  (∀ b, J67 [] b = true) ∧
  (∀ x a b, J67 (x :: a) b = (!(b.contains x) && J67 a b)) ∧
  (∀ x, ([] : List Nat).contains x = false) ∧
  (∀ (x y : Nat) (l : List Nat), (y :: l).contains x = (x == y || l.contains x)) ∧
  (∀ a, (true && a) = a) ∧
  (∀ a, (false && a) = false) ∧
  (∀ a, (true || a) = true) ∧
  (∀ a, (false || a) = a) :=
  ⟨by intro F new env sto g n x; exact Jsg ..,
  by intro s g n b o; exact JrO ..,
  by intro s g n o cs; exact Jt8 ..,
  by intro s g n b e i o; exact JsI ..,
  by intro F new s z; exact Jp5 ..,
  by intro F new env sto n x y; exact Jqp ..,
  by intro s n b o v; exact Jro ..,
  by intro s n b e i o c; exact Jpe ..,
  by intro s n b e i o c; exact Jpv ..,
  by intro F new env sto g args; exact Jqv ..,
  by intro F new env sto g args; exact JpQ ..,
  rfl,
  by intros; rfl,
  by intro F new env sto g args; exact Jpa ..,
  by intros; rfl,
  by intros; rfl,
  by intro s c r; exact Jbs s rfl r,
  by intro s c r; exact Jbs s rfl r,
  by intro s b o r; exact Jbs s rfl r,
  by intro s c o r; exact Jbs s rfl r,
  by intro s b x i o r; exact Jbs s rfl r,
  by intro s b n r; exact JrJ ..,
  by intro F new s e n z ps; exact Jpd ..,
  by intro F new env sto e n z ps; exact Jqu ..,
  by intros; rfl,
  by intro env sto x r; exact Jsq ..,
  by intros; rfl,
  by intros; rfl,
  by intro s b n; exact Jft ..,
  by intro F new env sto x; exact Jpq ..,
  by intro s e b n; exact JoU ..,
  by intro s e z rows; exact JqC ..,
  by intro F new env sto e x i; exact Jqi ..,
  by intro s e b n k i; exact JoA ..,
  by intro s e z rows k i; exact Jpi ..,
  by intros; rfl,
  by intros; rfl,
  by intro x a b; simp [J67],
  by intros; rfl,
  by intro x y l; rw [List.contains_cons],
  by intro a; simp,
  by intro a; simp,
  by intro a; simp,
  by intro a; simp⟩
end Go.Am
end
