/-
  Parts of a proof: AmEv.
-/
import Derived.Test.YtiallbcnaadmoaaM5
set_option linter.unusedSimpArgs false
set_option linter.unusedVariables false
section
namespace Go.Am
@[congr] theorem Jux {T : J4E} {f : AFn} {m : Nat} {k : List Fr} {o o' : Option Out} (h : o = o') : rk T f m k o = rk T f m k o' := by rw [h]
def tdn (e : AX) (o : Option St) : Option Out := match o with
  | some s => some (e, s)
  | none => none
def JnV (fresh : Bool) (m : Nat) (vs : List AV) (sto : List Blk) (ids : List Nat) : Option Res :=
  if J3u ids = true then (fin.finL m ids sto vs).bind fun ws => (J31 m ids sto (sto.take m)).bind fun l => (J61 sto ids).bind fun q => (J31 m ids sto q).bind fun q => some (one ws, l ++ q) else none
def JgB (res : List Jbf) (fresh : Bool) (m : Nat) (s : St) : Option Res :=
  ((J58 res).run s).bind fun vs => if s.sto.length = m then some (one vs, s.sto) else JnV fresh m vs s.sto (J1h m fresh s.sto (J6x s.sto (J0d.entsOfL vs []) (J0d.entsOfL vs [])))
theorem Jgm (res : List Jbf) (fresh : Bool) (m : Nat) (s : St) : J42 ⟨0, 0, .skip, res, fresh⟩ m s = JgB res fresh m s := by
  unfold J42 JgB
  dsimp only
  cases (J58 res).run s with
  | none => rfl
  | some vs =>
    simp only [Option.bind_some]
    split
    · rfl
    · unfold JnV
      split
      · generalize J1h m fresh s.sto _ = ids
        cases fin.finL m ids s.sto vs <;> cases J31 m ids s.sto (s.sto.take m) <;> cases J61 s.sto ids <;> try rfl
        rename_i q
        simp only [Option.bind_some]
        cases J31 m ids s.sto q <;> rfl
      · rfl
theorem Jrr (T : J4E) (f : AFn) (m : Nat) (s : St) : rk T f m [] (some (.normal, s)) = JgB f.res f.fresh m s := (JqQ T f m s).trans (Jgm ..)
theorem Jpu (T : J4E) (f : AFn) (m : Nat) (s : St) : rk T f m [] (some (.ret, s)) = JgB f.res f.fresh m s := (JpH T f m s).trans (Jgm ..)
def dds {α : Type} (n new : Nat) (sto : List Blk) (o : Option α) : Option α := match (J5B new n).run ⟨[], sto⟩ with
  | some _ => o
  | none => none
def dd1 {α : Type} (b : Option Blk) (o : Option α) : Option α := match b with
  | some .dead => o
  | _ => none
@[congr] theorem Ju7 {α : Type} {b b' : Option Blk} {o : Option α} (h : b = b') : dd1 b o = dd1 b' o := by rw [h]
theorem Juk {α : Type} (new : Nat) (sto : List Blk) (o : Option α) : dds 1 new sto o = dd1 sto[new]? o := by
  unfold dds dd1
  simp only [J5B, RM.run]
  cases sto[new]? with
  | none => rfl
  | some b => cases b <;> rfl
section
variable {F : Orc} {r : List J15} {new d : Nat} {env : List (Nat × AV)} {sto : List Blk}
theorem JkU (n : Nat) : ∀ new, (J5B new n).run ⟨env, sto⟩ = (J5B new n).run ⟨[], sto⟩ := by
  induction n with
  | zero => intro new; rfl
  | succ n ih =>
    intro new
    simp only [J5B, RM.run]
    cases sto[new]? with
    | none => rfl
    | some b => cases b <;> first | exact ih _ | rfl
def lgA (l : Option Log) (a b : List Nat) : Option Log := l.map (· ++ [(a, b)])
def rdO (F : Orc) (op : AOp) (new : Nat) (s : St) : List Nat := Jm ((opD F op new).reads s)
abbrev GR := Option (St × Option Log)
def Jw (F : Orc) : List J15 → Nat → St → Option Log → GR
  | [], _, s, l => some (s, l)
  | i :: r, new, s, l => match (J1H F i new).run s with
    | some e => Jw F r (new + JP i.op) (put i.dst e s) (lgA l (Jm ((J1H F i new).reads s)) (e.ws.map (·.1)))
    | none => none
theorem Jow (F : Orc) (ins : List J15) : ∀ new s, Jw F ins new s none = (J2q F ins new s).map fun s => (s, none) := by
  induction ins with
  | nil => intro new s; rfl
  | cons i r ih =>
    intro new s
    simp only [Jw, J2q]
    cases (J1H F i new).run s with
    | none => rfl
    | some e => exact ih _ _
theorem Jpy (F : Orc) (ins : List J15) : ∀ new s l, Jw F ins new s (some l) = (J4k F ins new s l).map fun x => (x.1, some x.2) := by
  induction ins with
  | nil => intro new s l; rfl
  | cons i r ih =>
    intro new s l
    simp only [Jw, J4k]
    cases (J1H F i new).run s with
    | none => rfl
    | some e => exact ih _ _ _
def JqL (o : GR) : Option Out := match o with
  | some (s, _) => some (.normal, s)
  | none => none
def JnO (ps : List (Nat × Nat)) (o : GR) : Option Out := match o with
  | some (s, some l) => if J7B l ps = true then some (.normal, s) else none
  | _ => none
theorem JrT (T : J4E) (f : AFn) (m : Nat) (k : List Fr) (d ins env sto) : rk T f m k (X T (.reg d [] ins) ⟨env, sto⟩) = rk T f m k (JqL (Jw (AF T) ins sto.length ⟨env, room (news ins) sto⟩ none)) := by
  rw [Jtg, Jow]
  cases J2q (AF T) ins sto.length ⟨env, room (news ins) sto⟩ <;> rfl
theorem Jre (T : J4E) (f : AFn) (m : Nat) (k : List Fr) (d p ps ins env sto) : rk T f m k (X T (.reg d (p :: ps) ins) ⟨env, sto⟩) = rk T f m k (JnO (p :: ps) (Jw (AF T) ins sto.length ⟨env, room (news ins) sto⟩ (some []))) := by
  rw [Jr1, Jpy]
  simp only [region]
  cases J4k (AF T) ins sto.length ⟨env, room (news ins) sto⟩ [] with
  | none => rfl
  | some x =>
    obtain ⟨s, l⟩ := x
    simp only [Option.map_some, JnO]
    split <;> rfl
theorem stD {lg : Option Log} (op : AOp) : Jw F (⟨op, some d, none⟩ :: r) new ⟨env, sto⟩ lg = dds (JP op) new sto (((opR F op new).run ⟨env, sto⟩).bind fun e => Jw F r (new + JP op) ⟨(d, e.val) :: env, upd e.ws sto⟩ (lgA lg (rdO F op new ⟨env, sto⟩) (e.ws.map (·.1)))) := by
  have e0 : (J1H F ⟨op, some d, none⟩ new).run ⟨env, sto⟩ = dds (JP op) new sto ((opR F op new).run ⟨env, sto⟩) := by
    simp only [J1H, opD, run_bind, JkU (env := env)]
    unfold dds
    cases (J5B new (JP op)).run ⟨[], sto⟩ <;> rfl
  simp only [Jw, e0]
  unfold dds
  cases (J5B new (JP op)).run ⟨[], sto⟩ with
  | none => rfl
  | some u => simp only []; cases (opR F op new).run ⟨env, sto⟩ <;> rfl
theorem JlO {lg : Option Log} (op : AOp) : Jw F (⟨op, none, none⟩ :: r) new ⟨env, sto⟩ lg = dds (JP op) new sto (((opR F op new).run ⟨env, sto⟩).bind fun e => Jw F r (new + JP op) ⟨env, upd e.ws sto⟩ (lgA lg (rdO F op new ⟨env, sto⟩) (e.ws.map (·.1)))) := by
  have e0 : (J1H F ⟨op, none, none⟩ new).run ⟨env, sto⟩ = dds (JP op) new sto ((opR F op new).run ⟨env, sto⟩) := by
    simp only [J1H, opD, run_bind, JkU (env := env)]
    unfold dds
    cases (J5B new (JP op)).run ⟨[], sto⟩ <;> rfl
  simp only [Jw, e0]
  unfold dds
  cases (J5B new (JP op)).run ⟨[], sto⟩ with
  | none => rfl
  | some u => simp only []; cases (opR F op new).run ⟨env, sto⟩ <;> rfl
theorem st0 {lg : Option Log} {op : AOp} (h : JP op = 0) : Jw F (⟨op, some d, none⟩ :: r) new ⟨env, sto⟩ lg = ((opR F op new).run ⟨env, sto⟩).bind fun e => Jw F r new ⟨(d, e.val) :: env, upd e.ws sto⟩ (lgA lg (rdO F op new ⟨env, sto⟩) (e.ws.map (·.1))) := by
  rw [stD, h]; rfl
theorem Juw {lg : Option Log} {op : AOp} (h : JP op = 0) : Jw F (⟨op, none, none⟩ :: r) new ⟨env, sto⟩ lg = ((opR F op new).run ⟨env, sto⟩).bind fun e => Jw F r new ⟨env, upd e.ws sto⟩ (lgA lg (rdO F op new ⟨env, sto⟩) (e.ws.map (·.1))) := by
  rw [JlO, h]; rfl
def pk (u : AV) (a b : Option AV) : Option AV := match u with
  | .p (.b x) => if x = true then a else b
  | _ => none
@[congr] theorem Juh {α : Type} {n n' new new' : Nat} {sto : List Blk} {o : Option α} (h : n = n') (h' : new = new') : dds n new sto o = dds n' new' sto o := by rw [h, h']
theorem J1D {α : Type} (n new : Nat) (sto : List Blk) : dds n new sto (none : Option α) = none := by
  unfold dds; split <;> rfl
theorem Jps {α β : Type} (n new : Nat) (sto : List Blk) (o : Option α) (g : α → Option β) : dds n new sto (o.bind g) = o.bind fun a => dds n new sto (g a) := by
  cases o with
  | none => exact J1D ..
  | some a => rfl
theorem Jtq {β : Type} {K : Eff → Option β} {o : Option AV} : ((o.bind fun v => some ⟨v, []⟩).bind K) = o.bind fun v => K ⟨v, []⟩ := by cases o <;> rfl
def pkk (a b : Option (List Nat × List Nat)) : Bool := match a, b with
  | some a, some b => J4M a.2 b.1 && J4M a.2 b.2 && J4M a.1 b.2
  | _, _ => false
theorem bi {α β : Type} {o : Option α} {f : α → Option β} {r : β} (h : Option.bind o f = some r) : ∃ x, o = some x ∧ f x = some r := Option.bind_eq_some_iff.1 h
theorem sj {α : Type} {a b : α} (h : some a = some b) : a = b := Option.some.inj h
theorem mi {α β : Type} {o : Option α} {f : α → β} {r : β} (h : Option.map f o = some r) : ∃ x, o = some x ∧ f x = r := Option.map_eq_some_iff.1 h
inductive Dum {α : Type} : α → Type where
  | mk (a : α) : Dum a
def J6v {α : Type} (a : α) (_ : Dum a) : α := a
def pkh {β : Type} (u : AV) (a b : Option AV) (K : AV → Option β) : Option β := (pk u a b).bind K
theorem Jqv {β : Type} {K : Eff → Option β} {a b : Opd} {o : Option AV} : ((o.bind fun u => RM.run (match u with
    | .p (.b x) => if x = true then (ev a).bind fun v => .ret ⟨v, []⟩ else (ev b).bind fun v => .ret ⟨v, []⟩
    | _ => .fail) ⟨env, sto⟩).bind K) = o.bind fun u => (pk u (evv a env) (evv b env)).bind fun v => K ⟨v, []⟩ := by
  cases o with
  | none => rfl
  | some u =>
    simp only [Option.bind_some]
    cases u with
    | p c =>
      cases c with
      | b x =>
        cases x with
        | true => simp only [if_true, run_bind, J0N, pk]; cases evv a env <;> rfl
        | false => simp only [Bool.false_eq_true, if_false, run_bind, J0N, pk]; cases evv b env <;> rfl
      | _ => rfl
    | _ => rfl
theorem JcR {β : Type} {K : Eff → Option β} {o : Option AV} (g : AV → Option AV) : ((o.bind fun a => (Go.Am.val (g a)).run ⟨env, sto⟩).bind K) = o.bind fun a => (g a).bind fun v => K ⟨v, []⟩ := by
  cases o with
  | none => rfl
  | some a => simp only [Option.bind_some]; cases g a <;> rfl
theorem Jj6 {β : Type} {K : Eff → Option β} {o o' : Option AV} (g : AV → AV → Option AV) : ((o.bind fun a => o'.bind fun c => (Go.Am.val (g a c)).run ⟨env, sto⟩).bind K) = o.bind fun a => o'.bind fun c => (g a c).bind fun v => K ⟨v, []⟩ := by
  cases o with
  | none => rfl
  | some a =>
    cases o' with
    | none => rfl
    | some c => simp only [Option.bind_some]; cases g a c <;> rfl
theorem JlM {β : Type} {o : Option AV} (g : AV → Option Eff) {k : Eff → Option β} : ((o.bind fun a => g a).bind k) = o.bind fun a => (g a).bind k := by
  cases o <;> rfl
theorem Jpe {β : Type} {o o' : Option AV} {e b : Nat} {z : List PV} {s : St} {k : Eff → Option β} : ((o.bind fun a => o'.bind fun c => RM.run (match zrs e z c with
    | some c1 => J6Z e b a c1
    | none => .fail) s).bind k) = o.bind fun a => o'.bind fun c => (zrs e z c).bind fun c1 => ((J6Z e b a c1).run s).bind k := by
  cases o with
  | none => rfl
  | some a => cases o' with
    | none => rfl
    | some c =>
      simp only [Option.bind_some]
      cases zrs e z c <;> rfl
theorem Jhm {β : Type} {o o' : Option AV} (g : AV → AV → Option Eff) {k : Eff → Option β} : ((o.bind fun a => o'.bind fun c => g a c).bind k) = o.bind fun a => o'.bind fun c => (g a c).bind k := by
  cases o <;> cases o' <;> rfl
def JiA (a c : AV) : Option AV := match a, c with
  | .p (.s l), .p (.i _ n) => if 0 ≤ n then
      match l[n.toNat]? with
      | some u => some (.p (.i .u8 u.toNat))
      | none => none
    else none
  | _, _ => none
theorem Js7 {β : Type} {K : Eff → Option β} {o o' : Option AV} : ((o.bind fun a => o'.bind fun c => RM.run (match a, c with
    | .p (.s l), .p (.i _ n) => if 0 ≤ n then
        match l[n.toNat]? with
        | some u => .ret ⟨.p (.i .u8 u.toNat), []⟩
        | none => .fail
      else .fail
    | _, _ => .fail) ⟨env, sto⟩).bind K) = o.bind fun a => o'.bind fun c => (JiA a c).bind fun v => K ⟨v, []⟩ := by
  cases o with
  | none => rfl
  | some a =>
    cases o' with
    | none => rfl
    | some c =>
      simp only [Option.bind_some, JiA]
      split
      · split
        · split <;> rfl
        · rfl
      · rfl
theorem JsC (l : List UInt8) (k : IntKind) (n : Int) : JiA (.p (.s l)) (.p (.i k n)) = (Jbq l n).map fun v => .p (.i .u8 v) := by
  simp only [JiA, Jbq]
  by_cases h : 0 ≤ n
  · simp only [if_pos h]; cases l[n.toNat]? <;> rfl
  · simp only [if_neg h]; rfl
def JgW (g : Bool) (n e : Nat) (a c : AV) : Option AV := match c with
  | .p (.i _ i) => if 0 ≤ i ∧ i < n then J4K g (i.toNat * e) e a else none
  | _ => none
theorem Jso {β : Type} {K : Eff → Option β} {g : Bool} {n e : Nat} {o o' : Option AV} : ((o.bind fun a => o'.bind fun c => RM.run (match c with
    | .p (.i _ i) => if 0 ≤ i ∧ i < n then Go.Am.val (J4K g (i.toNat * e) e a) else .fail
    | _ => .fail) ⟨env, sto⟩).bind K) = o.bind fun a => o'.bind fun c => (JgW g n e a c).bind fun v => K ⟨v, []⟩ := by
  cases o with
  | none => rfl
  | some a =>
    cases o' with
    | none => rfl
    | some c =>
      simp only [Option.bind_some, JgW]
      split
      · split
        · cases J4K g _ e a <;> rfl
        · rfl
      · rfl
theorem JsS (g : Bool) (n e : Nat) (cs : List PV) (k : IntKind) (i : Int) : JgW g n e (.data cs) (.p (.i k i)) = if 0 ≤ i ∧ i < n then (sub cs (i.toNat * e) e).bind (J1U g) else none := by
  simp only [JgW, J4K]
  split
  · cases sub cs (i.toNat * e) e <;> rfl
  · rfl
def Jm8 : AV → Option AV
  | .ptr b o => some (.ptr b o)
  | .cp cs o => some (.cp cs o)
  | .ep b e i o => some (.ep b e i o)
  | .fn f u c => some (.fn f u c)
  | _ => none
theorem Jsu {β : Type} {K : Eff → Option β} {o : Option AV} : ((o.bind fun a => RM.run (match a with
    | .ptr b o => .ret ⟨.ptr b o, []⟩
    | .cp cs o => .ret ⟨.cp cs o, []⟩
    | .ep b e i o => .ret ⟨.ep b e i o, []⟩
    | .fn f u c => .ret ⟨.fn f u c, []⟩
    | _ => .fail) ⟨env, sto⟩).bind K) = o.bind fun a => (Jm8 a).bind fun v => K ⟨v, []⟩ := by
  cases o with
  | none => rfl
  | some a => cases a <;> rfl
def cvR (k : CK) (a : AV) (new : Nat) : RM Eff := match k, a with
  | .int k, .p (.i _ n) => .ret ⟨.p (.i k (k.wrap n)), []⟩
  | .same, .p (.s l) => .ret ⟨.p (.s l), []⟩
  | .toStr, a => (J0q 1 a).bind fun rows => match J4T rows with
    | some l => .ret ⟨.p (.s l), []⟩
    | none => .fail
  | .toBytes own, .p (.s l) => if own then .ret ⟨.slr new 0 l.length, [(new, .arr true 1 (l.map J3C))]⟩ else .ret ⟨.p (.sl 1 (l.map J3C)), []⟩
  | _, _ => .fail
theorem JpQ {lg : Option Log} {c : CK} {x : Opd} : Jw F (⟨.conv c x, some d, none⟩ :: r) new ⟨env, sto⟩ lg = (evv x env).bind fun a => dds (JP (.conv c x)) new sto (((cvR c a new).run ⟨env, sto⟩).bind fun e => Jw F r (new + JP (.conv c x)) ⟨(d, e.val) :: env, upd e.ws sto⟩ (lgA lg (rdO F (.conv c x) new ⟨env, sto⟩) (e.ws.map (·.1)))) := by
  rw [stD]
  have : (opR F (.conv c x) new).run ⟨env, sto⟩ = (evv x env).bind fun a => (cvR c a new).run ⟨env, sto⟩ := by
    simp only [opR, run_bind, J0N]; rfl
  rw [this, JlM (fun a => (cvR c a new).run ⟨env, sto⟩), Jps]
theorem Joe {lg : Option Log} {z : List PV} {ps : List (Nat × Nat × Opd)} : Jw F (⟨.build z ps, some d, none⟩ :: r) new ⟨env, sto⟩ lg = ((J2l ps).run ⟨env, sto⟩).bind fun l => (J1f l (z.map .p)).bind fun cs => (J1E true cs).bind fun v => Jw F r new ⟨(d, v) :: env, sto⟩ (lgA lg (rdO F (.build z ps) new ⟨env, sto⟩) []) := by
  rw [st0 (h := rfl)]
  simp only [opR, run_bind]
  cases (J2l ps).run ⟨env, sto⟩ with
  | none => rfl
  | some l =>
    simp only [Option.bind_some]
    cases J1f l (z.map .p) with
    | none => rfl
    | some cs => simp only [Option.bind_some]; cases J1E true cs <;> rfl
def J7R (x : Option Opd) (env : List (Nat × AV)) : Option (Option AV) := match x with
  | none => some none
  | some x => (evv x env).map some
theorem JrD (x : Option Opd) : (evo x).run ⟨env, sto⟩ = J7R x env := by
  cases x with
  | none => rfl
  | some x => simp only [evo, run_bind, J0N, J7R]; cases evv x env <;> rfl
def slR (s : SK) (a : AV) (lo hi mx : Option AV) : RM Eff := match a with
  | .slr b i n => (fz (.slr b i n)).bind fun y => match y.1 with
    | [c] => match J4J s (.p c) lo hi mx with
      | some v => .ret ⟨v, y.2⟩
      | none => .fail
    | _ => .fail
  | a => Go.Am.val (J4J s a lo hi mx)
theorem JoC {lg : Option Log} {s : SK} {x : Opd} {lo hi mx : Option Opd} : Jw F (⟨.slice s x lo hi mx, some d, none⟩ :: r) new ⟨env, sto⟩ lg = (evv x env).bind fun a => (J7R lo env).bind fun lo1 => (J7R hi env).bind fun hi1 => (J7R mx env).bind fun mx1 => ((slR s a lo1 hi1 mx1).run ⟨env, sto⟩).bind fun e => Jw F r new ⟨(d, e.val) :: env, upd e.ws sto⟩ (lgA lg (rdO F (.slice s x lo hi mx) new ⟨env, sto⟩) (e.ws.map (·.1))) := by
  rw [st0 (h := rfl)]
  have : (opR F (.slice s x lo hi mx) new).run ⟨env, sto⟩ = (evv x env).bind fun a => (J7R lo env).bind fun lo => (J7R hi env).bind fun hi => (J7R mx env).bind fun mx => (slR s a lo hi mx).run ⟨env, sto⟩ := by
    simp only [opR, run_bind, J0N, JrD]; rfl
  rw [this]
  cases evv x env with
  | none => rfl
  | some a =>
    cases J7R lo env with
    | none => rfl
    | some lo =>
      cases J7R hi env with
      | none => rfl
      | some hi => cases J7R mx env <;> rfl
def slX (s : SK) (x : AV) (lo hi : Option AV) : Option AV := J4J s x lo hi none
theorem JnD {lg : Option Log} {z : List PV} : Jw F (⟨.newbox z, some d, none⟩ :: r) new ⟨env, sto⟩ lg = dds 1 new sto (Jw F r (new + 1) ⟨(d, .ptr new 0) :: env, sto.set new (.box (z.map .p))⟩ (lgA lg (rdO F (.newbox z) new ⟨env, sto⟩) [new])) := by
  rw [stD]; rfl
def JkR (e b : Nat) (a : AV) (add : List (List PV)) : Option (List (List PV)) := match a with
  | .p (.slc e' rows) => if e = e' ∧ 0 < add.length ∧ J8e (rows.length + add.length) b = true then some (rows ++ add) else none
  | _ => none
theorem Jq8 {lg : Option Log} {e b : Nat} {z : List PV} {x y : Opd} : Jw F (⟨.appc e b z x y, some d, none⟩ :: r) new ⟨env, sto⟩ lg = (evv x env).bind fun a => (evv y env).bind fun c => ((J0q e c).run ⟨env, sto⟩).bind fun add => (JkR e b a add).bind fun rows => dds 1 new sto (Jw F r (new + 1) ⟨(d, .slr new 0 rows.length) :: env, sto.set new (.arr true e rows)⟩ (lgA lg (rdO F (.appc e b z x y) new ⟨env, sto⟩) [new])) := by
  rw [stD]
  simp only [opR, run_bind, J0N, JP]
  cases evv x env with
  | none => exact J1D ..
  | some a =>
    simp only [Option.bind_some]
    cases evv y env with
    | none => exact J1D ..
    | some c =>
      simp only [Option.bind_some]
      cases hq : (J0q e c).run ⟨env, sto⟩ with
      | none =>
        have : (JgO e b a c new).run ⟨env, sto⟩ = none := by
          unfold JgO; split
          · simp only [run_bind, hq]; rfl
          · rfl
        rw [this]; exact J1D ..
      | some add =>
        simp only [Option.bind_some]
        have : (JgO e b a c new).run ⟨env, sto⟩ = (JkR e b a add).map fun rows => ⟨.slr new 0 rows.length, [(new, .arr true e rows)]⟩ := by
          cases a with
          | p q => cases q with
            | slc e' rows =>
              simp only [JgO, JkR, run_bind, hq, Option.bind_some]
              split
              · simp [J1p]
              · rfl
            | _ => rfl
          | _ => rfl
        rw [this]
        cases JkR e b a add with
        | none => exact J1D ..
        | some rows => rfl
theorem Jpm {lg : Option Log} {e b : Nat} {z : List PV} {y : Opd} : Jw F (⟨.appn e b z y, some d, none⟩ :: r) new ⟨env, sto⟩ lg = (evv y env).bind fun c => ((J0q e c).run ⟨env, sto⟩).bind fun rows => if J8e rows.length b = true then dds 1 new sto (Jw F r (new + 1) ⟨(d, .slr new 0 rows.length) :: env, sto.set new (.arr true e rows)⟩ (lgA lg (rdO F (.appn e b z y) new ⟨env, sto⟩) [new])) else none := by
  rw [stD]
  simp only [opR, run_bind, J0N, JP]
  cases evv y env with
  | none => exact J1D ..
  | some c =>
    simp only [Option.bind_some]
    cases (J0q e c).run ⟨env, sto⟩ with
    | none => exact J1D ..
    | some rows =>
      simp only [Option.bind_some]
      split
      · rfl
      · exact J1D ..
theorem Joh {lg : Option Log} {e : Nat} {x : Opd} : Jw F (⟨.mkarr e x, some d, none⟩ :: r) new ⟨env, sto⟩ lg = dds 1 new sto (Jw F r (new + 1) ⟨(d, .slr new 0 0) :: env, sto.set new (.arr true e [])⟩ (lgA lg (rdO F (.mkarr e x) new ⟨env, sto⟩) [new])) := by
  rw [stD]; rfl
def bxP (n : Nat) (a : AV) : Option (List AV) := match cellsOf a with
  | some cs => if cs.length = n then some cs else none
  | none => none
theorem Jrk {lg : Option Log} {n : Nat} {x : Opd} : Jw F (⟨.box n x, some d, none⟩ :: r) new ⟨env, sto⟩ lg = (evv x env).bind fun a => (bxP n a).bind fun cs => dds 1 new sto (Jw F r (new + 1) ⟨(d, .ptr new 0) :: env, sto.set new (.box cs)⟩ (lgA lg (rdO F (.box n x) new ⟨env, sto⟩) [new])) := by
  rw [stD]
  simp only [opR, run_bind, J0N, JP]
  cases evv x env with
  | none => exact J1D ..
  | some a =>
    simp only [Option.bind_some, bxP]
    cases cellsOf a with
    | none => exact J1D ..
    | some cs =>
      dsimp only
      split
      · rfl
      · exact J1D ..
def ltR (o : Bool) (e n : Nat) (z : List PV) (ps : List (Nat × Opd)) (new : Nat) : RM Eff := (fzs (ps.map (·.2))).bind fun a =>
    match J3t e ((ps.map (·.1)).zip a.1) (List.replicate n z) with
    | some rows => if o then .ret ⟨.slr new 0 n, a.2 ++ [(new, .arr true e rows)]⟩ else .ret ⟨.p (.sl e rows), a.2⟩
    | none => .fail
theorem JpG {lg : Option Log} {o : Bool} {e n : Nat} {z : List PV} {ps : List (Nat × Opd)} : Jw F (⟨.lits o e n z ps, some d, none⟩ :: r) new ⟨env, sto⟩ lg = dds (if o then 1 else 0) new sto (((ltR o e n z ps new).run ⟨env, sto⟩).bind fun x => Jw F r (new + if o then 1 else 0) ⟨(d, x.val) :: env, upd x.ws sto⟩ (lgA lg (rdO F (.lits o e n z ps) new ⟨env, sto⟩) (x.ws.map (·.1)))) := by
  rw [stD]; rfl
theorem Jth (env : List (Nat × AV)) (sto : List Blk) (o : Bool) (e n new : Nat) (z : List PV) (ps : List (Nat × Opd)) : (ltR o e n z ps new).run ⟨env, sto⟩ = ((fzs (ps.map (·.2))).run ⟨env, sto⟩).bind fun a => (J3t e ((ps.map (·.1)).zip a.1) (List.replicate n z)).map fun rows => if o then ⟨.slr new 0 n, a.2 ++ [(new, .arr true e rows)]⟩ else ⟨.p (.sl e rows), a.2⟩ := by
  simp only [ltR, run_bind]
  cases (fzs (ps.map (·.2))).run ⟨env, sto⟩ with
  | none => rfl
  | some a =>
    simp only [Option.bind_some]
    cases J3t e ((ps.map (·.1)).zip a.1) (List.replicate n z) with
    | none => rfl
    | some rows => cases o <;> rfl
def mkP (o : Bool) (e b : Nat) (z : List PV) (a c : AV) (new : Nat) : Option Eff := match a, c with
  | .p (.i _ n), .p (.i _ m) =>
    if 0 ≤ n ∧ n ≤ m ∧ b * m ≤ 281474976710656 ∧ m ≤ 281474976710656 then
      some (if o then ⟨.slr new 0 n.toNat, [(new, .arr true e (List.replicate n.toNat z))]⟩ else ⟨.p (.sl e (List.replicate n.toNat z)), []⟩)
    else none
  | _, _ => none
theorem JsO (o : Bool) (e b : Nat) (z : List PV) (a c : AV) (new : Nat) (s : St) : RM.run (match a, c with
    | .p (.i _ n), .p (.i _ m) =>
      if 0 ≤ n ∧ n ≤ m ∧ b * m ≤ 281474976710656 ∧ m ≤ 281474976710656 then
        if o then .ret ⟨.slr new 0 n.toNat, [(new, .arr true e (List.replicate n.toNat z))]⟩
        else .ret ⟨.p (.sl e (List.replicate n.toNat z)), []⟩
      else .fail
    | _, _ => .fail) s = mkP o e b z a c new := by
  unfold mkP
  split
  · rename_i k n k2 m
    by_cases h : 0 ≤ n ∧ n ≤ m ∧ b * m ≤ 281474976710656 ∧ m ≤ 281474976710656
    · simp only [if_pos h]; cases o <;> rfl
    · simp only [if_neg h]; rfl
  · rfl
theorem Jmm {lg : Option Log} {o : Bool} {e b : Nat} {z : List PV} {l c : Opd} : Jw F (⟨.mkslice o e b z l c, some d, none⟩ :: r) new ⟨env, sto⟩ lg = (evv l env).bind fun a => (evv c env).bind fun x => dds (if o then 1 else 0) new sto ((mkP o e b z a x new).bind fun x => Jw F r (new + if o then 1 else 0) ⟨(d, x.val) :: env, upd x.ws sto⟩ (lgA lg (rdO F (.mkslice o e b z l c) new ⟨env, sto⟩) (x.ws.map (·.1)))) := by
  rw [stD]
  simp only [opR, run_bind, J0N, JP]
  cases evv l env with
  | none => exact J1D ..
  | some a =>
    cases evv c env with
    | none => exact J1D ..
    | some x =>
      simp only [Option.bind_some]
      exact congrArg (fun y => dds (if o then 1 else 0) new sto (y.bind fun x => Jw F r (new + if o then 1 else 0) ⟨(d, x.val) :: env, upd x.ws sto⟩ (lgA lg (rdO F (.mkslice o e b z l c) new ⟨env, sto⟩) (x.ws.map (·.1))))) (JsO o e b z a x new ⟨env, sto⟩)
theorem Jm9 {F : Orc} {f : FuncId} {args args' : List AV} {b ext i esz : Nat} {row row' : List PV} {rows : List (List PV)} {bs : List Nat} {css css' : List (List AV)} {v : AV} (he : J0d.entsOfL args [] = .elem b ext i :: bs.map .whole) (hn : J3u (b :: bs) = true)
    (hr : ren.renL (fun e => J2P e (.elem b ext i :: bs.map .whole) 0) args = some args') (hp : J02 css = true) (hF : F f args' (.box (row.map .p) :: css.map .box) = some (v, .box (row'.map .p) :: css'.map .box)) (hl : bs.length = css'.length) (hv : Jf8 v = true) (hp' : J02 css' = true)
    (ws : List (Nat × Blk)) (new : Nat) (s : St) (ha : (J7g ws b).run s = some (.arr true esz rows)) (hx : ext = rows.length) (hi : rows[i]? = some row) (hb : J1o ws s bs css) :
    (Jx F f (args, ws) 0 new).run s = some ⟨v, ws ++ (b, .arr true esz (rows.set i row')) :: bs.zip (css'.map .box)⟩ := by
  have e0 : ((Ent.elem b ext i :: bs.map Ent.whole)).map Ent.id = b :: bs := by rw [List.map_cons, List.map_map]; exact congrArg _ (List.map_id bs)
  have x1 : ∀ acc, (J6Y ws (.elem b ext i :: bs.map .whole) acc).run s = some acc := fun acc => Jet hb hp
  have rp : ren.renL (fun e => J2P e (Ent.elem b ext i :: bs.map .whole) 0) (row.map AV.p) = some (row.map AV.p) := J6i (Jy row)
  have i1 : (J4i ws (fun e => J2P e (Ent.elem b ext i :: bs.map .whole) 0) (.elem b ext i :: bs.map .whole)).run s = some (.box (row.map .p) :: css.map .box) := by
    simp only [J4i, run_bind, JcW, ha, Option.bind_some, hx, if_true, hi, J1p]
    have := Jhh (ρ := fun e => J2P e (Ent.elem b ext i :: bs.map .whole) 0) hb hp
    rw [hx] at this
    rw [this]
    rfl
  have o1 : (J3h ws (Ent.elem b ext i :: bs.map .whole) new (.elem b ext i :: bs.map .whole) (.box (row'.map .p) :: css'.map .box)).run s = some ((b, .arr true esz (rows.set i row')) :: bs.zip (css'.map .box)) := by
    simp only [J3h, run_bind, Jb4, ha, Option.bind_some, Jgs, J1p, JeU hl hp']
  have e1 : (Blk.box (row'.map AV.p) :: css'.map Blk.box).length = (Ent.elem b ext i :: bs.map Ent.whole).length + 0 := by simp [hl]
  have e2 : (Blk.box (row'.map AV.p) :: css'.map Blk.box).drop (Ent.elem b ext i :: bs.map Ent.whole).length = [] := by simp [hl]
  simp only [Jx, run_bind, he, x1, Option.bind_some, e0, hn, if_true, hr, i1, hF, e1, e2, JeR hv, J3i, o1, J1p, List.append_nil]
theorem JpC {F : Orc} {f : FuncId} {args : List AV} {v : AV} (hp : args.all J3c = true) (hF : F f args [] = some (v, [])) (hb : ∀ new, bk [] new v = some v) (ws : List (Nat × Blk)) (new : Nat) (s : St) :
    (Jx F f (args, ws) 0 new).run s = some ⟨v, ws⟩ := by
  have e1 : J0d.entsOfL args [] = [] := J5H hp
  simp [Jx, run_bind, e1, J6Y, J1p, J3u, J6i hp, J4i, hF, J3i, J3h, hb]
def Jl8 (b : Nat) (B : Option Blk) (l : List Nat) : List Nat := match B with
  | some (.box _) => b :: l
  | some (.arr _ _ _) => b :: l
  | _ => l
theorem Jrv (m b : Nat) (sto : List Blk) (r : List Ent) : J1h m true sto (.whole b :: r) = if b < m then J1h m true sto r else Jl8 b sto[b]? (J1h m true sto r) := by
  simp only [J1h, Jl8]
  split
  · rfl
  · split <;> simp_all
theorem Jus {α : Type} (n new : Nat) (sto : List Blk) (o : Option α) : dds (n + 1) new sto o = dd1 sto[new]? (dds n (new + 1) sto o) := by
  unfold dds dd1
  simp only [J5B, RM.run]
  cases sto[new]? with
  | none => rfl
  | some b => cases b <;> rfl
theorem JmK {lg : Option Log} {z : List PV} {os : List (Nat × Nat)} : Jw F (⟨.newboxo z os, some d, none⟩ :: r) new ⟨env, sto⟩ lg =
    dds (os.length + 1) new sto (Jw F r (new + (os.length + 1)) ⟨(d, .ptr (new + os.length) 0) :: env, upd (J2L os new ++ [(new + os.length, .box (J63 os new (z.map .p)))]) sto⟩
      (lgA lg (rdO F (.newboxo z os) new ⟨env, sto⟩) ((J2L os new ++ [(new + os.length, Blk.box (J63 os new (z.map .p)))]).map (·.1)))) := by
  rw [stD]; rfl
theorem JnP {lg : Option Log} {e : Nat} {x : Opd} : Jw F (⟨.storen e x, none, none⟩ :: r) new ⟨env, sto⟩ lg =
    (evv x env).bind fun a => dds 1 new sto (((J1C 1 a (.slr new 0 0)).run ⟨env, sto⟩).bind fun q => Jw F r (new + 1) ⟨env, upd ((new, .arr true e []) :: q.ws) sto⟩ (lgA lg (rdO F (.storen e x) new ⟨env, sto⟩) (new :: q.ws.map (·.1)))) := by
  rw [JlO]
  simp only [opR, run_bind, J0N, JP]
  cases evv x env with
  | none => exact J1D ..
  | some a => simp only [Option.bind_some]; cases (J1C 1 a (.slr new 0 0)).run ⟨env, sto⟩ <;> rfl
theorem JnL {lg : Option Log} {z : List PV} {ps : List (Nat × Nat × Opd)} {os : List (Nat × Nat)} : Jw F (⟨.buildo z ps os, some d, none⟩ :: r) new ⟨env, sto⟩ lg =
    ((J2l ps).run ⟨env, sto⟩).bind fun l => (J1f l (J63 os new (z.map .p))).bind fun cs => (J1E true cs).bind fun v =>
      dds os.length new sto (Jw F r (new + os.length) ⟨(d, v) :: env, upd (J2L os new) sto⟩ (lgA lg (rdO F (.buildo z ps os) new ⟨env, sto⟩) ((J2L os new).map (·.1)))) := by
  rw [stD]
  simp only [opR, run_bind, JP]
  cases (J2l ps).run ⟨env, sto⟩ with
  | none => exact J1D ..
  | some l =>
    simp only [Option.bind_some]
    cases J1f l (J63 os new (z.map .p)) with
    | none => exact J1D ..
    | some cs =>
      simp only [Option.bind_some]
      cases J1E true cs with
      | none => exact J1D ..
      | some v => rfl
theorem JoZ {lg : Option Log} {g : FuncId} {kp : List Bool} {args : List Opd} {n : Nat} : Jw F (⟨.callo g kp args n, some d, none⟩ :: r) new ⟨env, sto⟩ lg = dds n new sto (((evs args).run ⟨env, sto⟩).bind fun a => ((J2a kp a).run ⟨env, sto⟩).bind fun a => ((J3Z F g a n new).run ⟨env, sto⟩).bind fun e => Jw F r (new + n) ⟨(d, e.val) :: env, upd e.ws sto⟩ (lgA lg (rdO F (.callo g kp args n) new ⟨env, sto⟩) (e.ws.map (·.1)))) := by
  rw [stD]
  simp only [opR, run_bind, JP]
  cases (evs args).run ⟨env, sto⟩ with
  | none => rfl
  | some a => simp only [Option.bind_some]; cases (J2a kp a).run ⟨env, sto⟩ <;> rfl
theorem JnX {lg : Option Log} {g : FuncId} {kp : List Bool} {args : List Opd} {n : Nat} : Jw F (⟨.callo g kp args n, none, none⟩ :: r) new ⟨env, sto⟩ lg = dds n new sto (((evs args).run ⟨env, sto⟩).bind fun a => ((J2a kp a).run ⟨env, sto⟩).bind fun a => ((J3Z F g a n new).run ⟨env, sto⟩).bind fun e => Jw F r (new + n) ⟨env, upd e.ws sto⟩ (lgA lg (rdO F (.callo g kp args n) new ⟨env, sto⟩) (e.ws.map (·.1)))) := by
  rw [JlO]
  simp only [opR, run_bind, JP]
  cases (evs args).run ⟨env, sto⟩ with
  | none => rfl
  | some a => simp only [Option.bind_some]; cases (J2a kp a).run ⟨env, sto⟩ <;> rfl
theorem JjP : ∀ l : List AV, J2a [] l = JL l
  | [] => rfl
  | x :: r => by simp only [J2a, JL, JjP r]
theorem Jsk (x : AV) (m : List Bool) (r : List AV) : (J2a (false :: m) (x :: r)).run ⟨env, sto⟩ = ((JL [x]).run ⟨env, sto⟩).bind fun a => ((J2a m r).run ⟨env, sto⟩).bind fun c => some (a.1 ++ c.1, a.2 ++ c.2) := by
  simp only [J2a, JL, run_bind]
  cases (J6z x).run ⟨env, sto⟩ with
  | none => rfl
  | some a => simp only [Option.bind_some, RM.run]; cases (J2a m r).run ⟨env, sto⟩ <;> simp
theorem JrX (x : AV) (m : List Bool) (r : List AV) : (J2a (true :: m) (x :: r)).run ⟨env, sto⟩ = ((J2a m r).run ⟨env, sto⟩).bind fun c => some (x :: c.1, c.2) := by
  simp only [J2a, run_bind]
  cases (J2a m r).run ⟨env, sto⟩ <;> rfl
theorem Jqj {lg : Option Log} {g : FuncId} {args : List Opd} {n : Nat} : Jw F (⟨.call g args n, some d, none⟩ :: r) new ⟨env, sto⟩ lg = dds n new sto (((evs args).run ⟨env, sto⟩).bind fun a => ((JL a).run ⟨env, sto⟩).bind fun a => ((Jx F g a n new).run ⟨env, sto⟩).bind fun e => Jw F r (new + n) ⟨(d, e.val) :: env, upd e.ws sto⟩ (lgA lg (rdO F (.call g args n) new ⟨env, sto⟩) (e.ws.map (·.1)))) := by
  rw [stD]
  simp only [opR, run_bind, JP, JaP]
  cases (evs args).run ⟨env, sto⟩ with
  | none => rfl
  | some a => simp only [Option.bind_some]; cases (JL a).run ⟨env, sto⟩ <;> rfl
theorem Jp9 {lg : Option Log} {g : FuncId} {args : List Opd} {n : Nat} : Jw F (⟨.call g args n, none, none⟩ :: r) new ⟨env, sto⟩ lg = dds n new sto (((evs args).run ⟨env, sto⟩).bind fun a => ((JL a).run ⟨env, sto⟩).bind fun a => ((Jx F g a n new).run ⟨env, sto⟩).bind fun e => Jw F r (new + n) ⟨env, upd e.ws sto⟩ (lgA lg (rdO F (.call g args n) new ⟨env, sto⟩) (e.ws.map (·.1)))) := by
  rw [JlO]
  simp only [opR, run_bind, JP, JaP]
  cases (evs args).run ⟨env, sto⟩ with
  | none => rfl
  | some a => simp only [Option.bind_some]; cases (JL a).run ⟨env, sto⟩ <;> rfl
def cvg {α : Type} (u : AV) (k : FuncId → List AV → List AV → Option α) : Option α := match u with
  | .fn f a c => k f a c
  | _ => none
theorem Jq0 {lg : Option Log} {g : FuncId} {a c : List Opd} : Jw F (⟨.mkfn g a c, some d, none⟩ :: r) new ⟨env, sto⟩ lg = ((evs a).run ⟨env, sto⟩).bind fun a1 => ((evs c).run ⟨env, sto⟩).bind fun c1 => Jw F r new ⟨(d, .fn g a1 c1) :: env, sto⟩ (lgA lg (rdO F (.mkfn g a c) new ⟨env, sto⟩) []) := by
  rw [st0 (h := rfl)]
  simp only [opR, run_bind]
  cases (evs a).run ⟨env, sto⟩ with
  | none => rfl
  | some a1 => simp only [Option.bind_some]; cases (evs c).run ⟨env, sto⟩ <;> rfl
theorem Jp5 {lg : Option Log} {g : Opd} {args : List Opd} {n : Nat} : Jw F (⟨.callv g args n, some d, none⟩ :: r) new ⟨env, sto⟩ lg = (evv g env).bind fun u => cvg u fun h a1 c1 => dds n new sto (((evs args).run ⟨env, sto⟩).bind fun a => ((JL (a1 ++ a ++ c1)).run ⟨env, sto⟩).bind fun a => ((Jx F h a n new).run ⟨env, sto⟩).bind fun q => Jw F r (new + n) ⟨(d, q.val) :: env, upd q.ws sto⟩ (lgA lg (rdO F (.callv g args n) new ⟨env, sto⟩) (q.ws.map (·.1)))) := by
  rw [stD]
  simp only [opR, run_bind, J0N, JP]
  cases evv g env with
  | none => exact J1D ..
  | some u =>
    simp only [Option.bind_some]
    cases u with
    | fn h a1 c1 =>
      simp only [cvg, run_bind, JaP]
      cases (evs args).run ⟨env, sto⟩ with
      | none => rfl
      | some a => simp only [Option.bind_some]; cases (JL (a1 ++ a ++ c1)).run ⟨env, sto⟩ <;> rfl
    | _ => exact J1D ..
theorem JnG {lg : Option Log} {g : Opd} {args : List Opd} {n : Nat} : Jw F (⟨.callv g args n, none, none⟩ :: r) new ⟨env, sto⟩ lg = (evv g env).bind fun u => cvg u fun h a1 c1 => dds n new sto (((evs args).run ⟨env, sto⟩).bind fun a => ((JL (a1 ++ a ++ c1)).run ⟨env, sto⟩).bind fun a => ((Jx F h a n new).run ⟨env, sto⟩).bind fun q => Jw F r (new + n) ⟨env, upd q.ws sto⟩ (lgA lg (rdO F (.callv g args n) new ⟨env, sto⟩) (q.ws.map (·.1)))) := by
  rw [JlO]
  simp only [opR, run_bind, J0N, JP]
  cases evv g env with
  | none => exact J1D ..
  | some u =>
    simp only [Option.bind_some]
    cases u with
    | fn h a1 c1 =>
      simp only [cvg, run_bind, JaP]
      cases (evs args).run ⟨env, sto⟩ with
      | none => rfl
      | some a => simp only [Option.bind_some]; cases (JL (a1 ++ a ++ c1)).run ⟨env, sto⟩ <;> rfl
    | _ => exact J1D ..
def grd {α : Type} (x : Option AV) (w : Bool) (a b : Option α) : Option α := match x with
  | some (.p (.b x)) => if x = w then a else b
  | some (.tup []) => b
  | _ => none
end
@[congr] theorem Juc {α : Type} {x x' : Option AV} {w : Bool} {a b : Option α} (h : x = x') : grd x w a b = grd x' w a b := by rw [h]
theorem Js5 (F : Orc) (r : List J15) (new : Nat) (env : List (Nat × AV)) (sto : List Blk) (lg : Option Log) (op : AOp) (d : Option Nat) (g : Nat) (w : Bool) :
    Jw F (⟨op, d, some (g, w)⟩ :: r) new ⟨env, sto⟩ lg = grd (lk g env) w (Jw F (⟨op, d, none⟩ :: r) new ⟨env, sto⟩ lg) (Jw F r (new + JP op) (put d ⟨J16, []⟩ ⟨env, sto⟩) (lgA lg [] [])) := by
  simp only [Jw, J1H, RM.run, RM.reads]
  cases lk g env with
  | none => rfl
  | some v =>
    dsimp only
    cases v with
    | p c =>
      cases c with
      | b x =>
        simp only [grd]
        by_cases h : x = w
        · subst h; simp only [if_true]; rfl
        · simp only [if_neg h]; rfl
      | _ => rfl
    | tup l => cases l <;> rfl
    | _ => rfl
def JnB (k : Nat) (v : Option AV) (l : List (Nat × AV)) : List (Nat × AV) := match v with
  | some v => (k, v) :: l
  | none => l
def Jlw (cs : List AV) (l : Option (List PV)) : AV := match l with
  | some l => .data l
  | none => .agg cs
def ldB (g : Bool) (n off : Nat) (B : Blk) : Option Eff := match B with
  | .box cs => (sub cs off n).bind fun l => (J1E g l).map fun v => ⟨v, []⟩
  | _ => none
def ldE (g : Bool) (n e i off : Nat) (B : Blk) : Option Eff := match B with
  | .arr _ _ rows => if e = rows.length then rows[i]?.bind fun row => (sub row off n).bind fun l => (J1U g l).map fun v => ⟨v, []⟩ else none
  | _ => none
theorem Jrw (env : List (Nat × AV)) (sto : List Blk) (g : Bool) (n : Nat) (cs : List PV) (off : Nat) : (J1Y g n (.cp cs off)).run ⟨env, sto⟩ = (sub cs off n).bind fun l => (J1U g l).map fun v => ⟨v, []⟩ := by
  simp only [J1Y]
  cases sub cs off n with
  | none => rfl
  | some l => simp only [Option.bind_some]; cases J1U g l <;> rfl
theorem Jsv (env : List (Nat × AV)) (sto : List Blk) (g : Bool) (n b off : Nat) : (J1Y g n (.ptr b off)).run ⟨env, sto⟩ = sto[b]?.bind fun B => ldB g n off B := by
  simp only [J1Y, J5k]
  cases sto[b]? with
  | none => rfl
  | some B =>
    cases B with
    | box cs =>
      simp only [Option.bind_some, ldB]
      cases sub cs off n with
      | none => rfl
      | some l => simp only [Option.bind_some]; cases J1E g l <;> rfl
    | _ => rfl
theorem JtK (g : Bool) (n off : Nat) (cs : List PV) : ldB g n off (.box (cs.map AV.p)) = (sub cs off n).bind fun l => (J1U g l).map fun v => ⟨v, []⟩ := by
  simp only [ldB, Jqd]
  cases sub cs off n with
  | none => rfl
  | some l =>
    simp only [Option.map_some, Option.bind_some]
    cases g with
    | true => rw [Jgo]; rfl
    | false => match l with
      | [] => rfl
      | [_] => rfl
      | _ :: _ :: _ => rfl
theorem Jsw (env : List (Nat × AV)) (sto : List Blk) (g : Bool) (n b e i off : Nat) : (J1Y g n (.ep b e i off)).run ⟨env, sto⟩ = sto[b]?.bind fun B => ldE g n e i off B := by
  simp only [J1Y, J5k]
  cases sto[b]? with
  | none => rfl
  | some B =>
    cases B with
    | arr w z rows =>
      simp only [Option.bind_some, ldE]
      split
      · cases rows[i]? with
        | none => rfl
        | some row =>
          simp only [Option.bind_some]
          cases sub row off n with
          | none => rfl
          | some l => simp only [Option.bind_some]; cases J1U g l <;> rfl
      · rfl
    | _ => rfl
def stB (n b off : Nat) (l : List AV) (B : Blk) : Option Eff := match B with
  | .box cs => if l.length = n then (spl cs off l).map fun cs => ⟨J16, [(b, .box cs)]⟩ else none
  | _ => none
theorem Jrc (env : List (Nat × AV)) (sto : List Blk) (n b off : Nat) (v : AV) : (J1C n (.ptr b off) v).run ⟨env, sto⟩ = sto[b]?.bind fun B => (cellsOf v).bind fun l => stB n b off l B := by
  simp only [J1C, J5k]
  cases sto[b]? with
  | none => rfl
  | some B =>
    simp only [Option.bind_some]
    cases B with
    | box cs =>
      dsimp only
      cases cellsOf v with
      | none => rfl
      | some l =>
        simp only [Option.bind_some, stB]
        split
        · cases spl cs off l <;> rfl
        · rfl
    | dead => cases cellsOf v <;> rfl
    | arr w z rows => cases cellsOf v <;> rfl
theorem JqX (n b off : Nat) (cs vs : List PV) : stB n b off (vs.map AV.p) (.box (cs.map AV.p)) = if vs.length = n then (spl cs off vs).map fun cs => ⟨J16, [(b, .box (cs.map AV.p))]⟩ else none := by
  simp only [stB, List.length_map, Jll]
  split
  · cases spl cs off vs <;> rfl
  · rfl
theorem JtT (b off : Nat) (cs : List PV) (v : PV) : stB 1 b off [AV.p v] (.box (cs.map AV.p)) = (spl cs off [v]).map fun cs => ⟨J16, [(b, .box (cs.map AV.p))]⟩ := by
  have := JqX 1 b off cs [v]
  simpa using this
def stE (n b e i off : Nat) (v : AV) (B : Blk) (s : St) : Option Eff := match B with
  | .arr true z rows => if e = rows.length then
      match rows[i]? with
      | some row => ((fz v).run s).bind fun a =>
        if a.1.length = n ∧ (a.2.all fun y => y.1 != b) = true then
          match spl row off a.1 with
          | some row' => some ⟨J16, a.2 ++ [(b, .arr true z (rows.set i row'))]⟩
          | none => none
        else none
      | none => none
    else none
  | _ => none
theorem Jr6 (env : List (Nat × AV)) (sto : List Blk) (n b e i off : Nat) (v : AV) : (J1C n (.ep b e i off) v).run ⟨env, sto⟩ = sto[b]?.bind fun B => stE n b e i off v B ⟨env, sto⟩ := by
  simp only [J1C, J5k]
  cases sto[b]? with
  | none => rfl
  | some B =>
    simp only [Option.bind_some]
    cases B with
    | arr w z rows =>
      cases w with
      | false => rfl
      | true =>
        simp only [stE]
        split
        · cases rows[i]? with
          | none => rfl
          | some row =>
            simp only [run_bind]
            cases (fz v).run ⟨env, sto⟩ with
            | none => rfl
            | some a =>
              simp only [Option.bind_some]
              split
              · cases spl row off a.1 <;> rfl
              · rfl
        · rfl
    | _ => rfl
theorem JtN (n b e i off z : Nat) (c : PV) (rows : List (List PV)) (s : St) : stE n b e i off (.p c) (.arr true z rows) s = if e = rows.length then rows[i]?.bind fun row => if 1 = n then (spl row off [c]).map fun row => ⟨J16, [(b, .arr true z (rows.set i row))]⟩ else none else none := by
  simp only [stE, fz, J1p, Option.bind_some]
  split
  · cases rows[i]? with
    | none => rfl
    | some row =>
      simp only [Option.bind_some, List.length_cons, List.length_nil, List.all_nil, and_true]
      simp only [Nat.zero_add]
      split
      · cases spl row off [c] <;> rfl
      · rfl
  · rfl
theorem Ju1 (n b e i off z : Nat) (cs : List PV) (rows : List (List PV)) (s : St) : stE n b e i off (.data cs) (.arr true z rows) s = if e = rows.length then rows[i]?.bind fun row => if cs.length = n then (spl row off cs).map fun row => ⟨J16, [(b, .arr true z (rows.set i row))]⟩ else none else none := by
  simp only [stE, fz, J1p, Option.bind_some]
  split
  · cases rows[i]? with
    | none => rfl
    | some row =>
      simp only [Option.bind_some, List.all_nil, and_true]
      split
      · cases spl row off cs <;> rfl
      · rfl
  · rfl
theorem JsQ (n : Nat) (cs : List PV) : bxP n (.data cs) = if cs.length = n then some (cs.map AV.p) else none := by simp [bxP, cellsOf]
theorem JqV (env : List (Nat × AV)) (sto : List Blk) (e : Nat) (rows : List (List PV)) (k : IntKind) (n : Int) : (J2A e (.p (.sl e rows)) (.p (.i k n))).run ⟨env, sto⟩ = (JaC rows n).map fun row => ⟨.cp row 0, []⟩ := by
  simp only [J2A, if_true]
  cases JaC rows n <;> rfl
def iaB (e b m : Nat) (n : Int) (B : Blk) : Option Eff := match B with
  | .arr _ esz' rows => if e = esz' ∧ 0 + m = rows.length ∧ 0 ≤ n ∧ n < m then some ⟨.ep b rows.length (0 + n.toNat) 0, []⟩ else none
  | _ => none
theorem Jpr (env : List (Nat × AV)) (sto : List Blk) (e b m : Nat) (k : IntKind) (n : Int) : (J2A e (.slr b 0 m) (.p (.i k n))).run ⟨env, sto⟩ = sto[b]?.bind fun B => iaB e b m n B := by
  simp only [J2A, J5k]
  cases sto[b]? with
  | none => rfl
  | some B =>
    cases B with
    | arr w z rows => simp only [Option.bind_some, iaB]; split <;> rfl
    | _ => rfl
theorem Js4 (e b m : Nat) (n : Int) (w : Bool) (rows : List (List PV)) : iaB e b m n (.arr w e rows) = if m = rows.length ∧ 0 ≤ n ∧ n < m then some ⟨.ep b rows.length n.toNat 0, []⟩ else none := by
  simp [iaB]
theorem Jqf (env : List (Nat × AV)) (sto : List Blk) (l : List Int) (new : Nat) : (cvR .toStr (.p (.sl 1 (l.map (r_i .u8)))) new).run ⟨env, sto⟩ = some ⟨.p (.s (toStr l)), []⟩ := by
  simp only [cvR, J0q, if_true, run_bind, J1p, Option.bind_some, JdH]
def cvB (n : Nat) (B : Blk) : Option Eff := match B with
  | .arr _ z rows => if 1 = z ∧ 0 + n = rows.length then
      match J4T (rows.drop 0) with
      | some l => some ⟨.p (.s l), []⟩
      | none => none
    else none
  | _ => none
theorem Jpv (env : List (Nat × AV)) (sto : List Blk) (b n new : Nat) : (cvR .toStr (.slr b 0 n) new).run ⟨env, sto⟩ = sto[b]?.bind fun B => cvB n B := by
  simp only [cvR, J0q, run_bind, J5k]
  cases sto[b]? with
  | none => rfl
  | some B =>
    cases B with
    | arr w z rows =>
      simp only [Option.bind_some, cvB]
      split
      · simp only [J1p, Option.bind_some]; cases J4T (rows.drop 0) <;> rfl
      · rfl
    | _ => rfl
theorem Jsc (n : Nat) (w : Bool) (l : List Int) : cvB n (.arr w 1 (l.map (r_i .u8))) = if n = l.length then some ⟨.p (.s (toStr l)), []⟩ else none := by
  simp only [cvB, List.drop_zero, JdH, List.length_map, Nat.zero_add, true_and]
theorem Jqe (env : List (Nat × AV)) (sto : List Blk) (l : List UInt8) (new : Nat) : (cvR (.toBytes false) (.p (.s l)) new).run ⟨env, sto⟩ = some ⟨.p (.sl 1 ((J8g l).map (r_i .u8))), []⟩ := by
  simp [cvR, Jhe]
theorem JoH (env : List (Nat × AV)) (sto : List Blk) (l : List UInt8) (new : Nat) : (cvR (.toBytes true) (.p (.s l)) new).run ⟨env, sto⟩ = some ⟨.slr new 0 (J8g l).length, [(new, .arr true 1 ((J8g l).map (r_i .u8)))]⟩ := by
  have : (J8g l).length = l.length := by simp [J8g]
  simp [cvR, Jhe, this]
theorem JsK (env : List (Nat × AV)) (sto : List Blk) (off size : Nat) (x : Opd) (r : List (Nat × Nat × Opd)) : (J2l ((off, size, x) :: r)).run ⟨env, sto⟩ = (evv x env).bind fun v => (cellsOf v).bind fun cs => ((J2l r).run ⟨env, sto⟩).bind fun l => some ((off, size, cs) :: l) := by
  simp only [J2l, run_bind, J0N]
  cases evv x env with
  | none => rfl
  | some v =>
    simp only [Option.bind_some]
    cases cellsOf v with
    | none => rfl
    | some cs => simp only [Option.bind_some, run_bind]; cases (J2l r).run ⟨env, sto⟩ <;> rfl
theorem JkP (off size : Nat) (vs cs : List PV) (r : List (Nat × Nat × List AV)) : J1f ((off, size, vs.map AV.p) :: r) (cs.map AV.p) = if vs.length = size then (spl cs off vs).bind fun cs => J1f r (cs.map AV.p) else none := by
  simp only [J1f, List.length_map, Jll]
  split
  · cases spl cs off vs <;> rfl
  · rfl
theorem JpM (off : Nat) (v : PV) (cs : List PV) (r : List (Nat × Nat × List AV)) : J1f ((off, 1, [AV.p v]) :: r) (cs.map AV.p) = (spl cs off [v]).bind fun cs => J1f r (cs.map AV.p) := by
  have := JkP off 1 [v] cs r
  simpa using this
theorem JsY (env : List (Nat × AV)) (sto : List Blk) (x : Opd) (r : List Opd) : (evs (x :: r)).run ⟨env, sto⟩ = (evv x env).bind fun v => ((evs r).run ⟨env, sto⟩).bind fun vs => some (v :: vs) := by
  simp only [evs, run_bind, J0N]; rfl
theorem Jco (env : List (Nat × AV)) (sto : List Blk) {v : AV} (h : J6z v = .ret (v, [])) (r : List AV) : (JL (v :: r)).run ⟨env, sto⟩ = ((JL r).run ⟨env, sto⟩).bind fun a => some (v :: a.1, a.2) := by
  simp only [JL, h, run_bind, J1p, Option.bind_some, List.nil_append]
def frz (b n : Nat) (B : Blk) : Option (AV × (Nat × Blk)) := match B with
  | .arr _ z rows => if n = rows.length then some (.p (.sl z rows), (b, .arr false z rows)) else none
  | _ => none
def frp (b n : Nat) (B : Blk) : Option (PV × (Nat × Blk)) := match B with
  | .arr _ z rows => if n = rows.length then some (.sl z rows, (b, .arr false z rows)) else none
  | _ => none
theorem JlW (env : List (Nat × AV)) (sto : List Blk) (b n : Nat) : (fz (.slr b 0 n)).run ⟨env, sto⟩ = sto[b]?.bind fun B => (frp b n B).bind fun x => some ([x.1], [x.2]) := by
  simp only [fz, J5k]
  cases sto[b]? with
  | none => rfl
  | some B =>
    cases B with
    | arr w z rows =>
      simp only [Option.bind_some, frp, Nat.zero_add, List.drop_zero]
      split <;> rfl
    | _ => rfl
theorem Js0 (env : List (Nat × AV)) (sto : List Blk) (b n : Nat) : (fz.fz1 (.slr b 0 n)).run ⟨env, sto⟩ = sto[b]?.bind fun B => (frp b n B).bind fun x => some ([x.1], [x.2]) := by
  simp only [fz.fz1, J5k]
  cases sto[b]? with
  | none => rfl
  | some B =>
    cases B with
    | arr w z rows =>
      simp only [Option.bind_some, frp, Nat.zero_add, List.drop_zero]
      split <;> rfl
    | _ => rfl
theorem Jql (env : List (Nat × AV)) (sto : List Blk) (b n : Nat) (r : List AV) : (JL (.slr b 0 n :: r)).run ⟨env, sto⟩ = sto[b]?.bind fun B => (frz b n B).bind fun x => ((JL r).run ⟨env, sto⟩).bind fun a => some (x.1 :: a.1, x.2 :: a.2) := by
  simp only [JL, J6z, run_bind, JlW]
  cases sto[b]? with
  | none => rfl
  | some B =>
    cases B with
    | arr w z rows =>
      simp only [Option.bind_some, frp, frz]
      split
      · simp only [Option.bind_some, J1p]; cases (JL r).run ⟨env, sto⟩ <;> rfl
      · rfl
    | _ => rfl
theorem Jq6 (env : List (Nat × AV)) (sto : List Blk) (cs : List AV) (r : List AV) : (JL (.agg cs :: r)).run ⟨env, sto⟩ = ((fz.fzL cs).run ⟨env, sto⟩).bind fun x => ((JL r).run ⟨env, sto⟩).bind fun a => some (.data x.1 :: a.1, x.2 ++ a.2) := by
  simp only [JL, J6z, run_bind, fz]
  cases (fz.fzL cs).run ⟨env, sto⟩ with
  | none => rfl
  | some x => simp only [Option.bind_some, J1p]
theorem JpL (env : List (Nat × AV)) (sto : List Blk) (c : PV) (r : List AV) : (fz.fzL (.p c :: r)).run ⟨env, sto⟩ = ((fz.fzL r).run ⟨env, sto⟩).bind fun a => some (c :: a.1, a.2) := by
  simp only [fz.fzL, fz.fz1, run_bind, J1p, Option.bind_some]; rfl
theorem Jqh (env : List (Nat × AV)) (sto : List Blk) (b n : Nat) (r : List AV) : (fz.fzL (.slr b 0 n :: r)).run ⟨env, sto⟩ = sto[b]?.bind fun B => (frp b n B).bind fun x => ((fz.fzL r).run ⟨env, sto⟩).bind fun a => some (x.1 :: a.1, x.2 :: a.2) := by
  simp only [fz.fzL, run_bind, Js0]
  cases sto[b]? with
  | none => rfl
  | some B =>
    simp only [Option.bind_some]
    cases frp b n B with
    | none => rfl
    | some x => simp only [Option.bind_some]; cases (fz.fzL r).run ⟨env, sto⟩ <;> rfl
theorem Jtx (env : List (Nat × AV)) (sto : List Blk) (b : Nat) : (J7g [] b).run ⟨env, sto⟩ = sto[b]? := by
  simp only [J7g, J5k]
  cases sto[b]? <;> rfl
theorem Jph (env : List (Nat × AV)) (sto : List Blk) (e : Nat) (rows : List (List PV)) : (J0q e (.p (.sl e rows))).run ⟨env, sto⟩ = some rows := by simp [J0q]
theorem JqE (env : List (Nat × AV)) (sto : List Blk) (l : List UInt8) : (J0q 1 (.p (.s l))).run ⟨env, sto⟩ = some ((J8g l).map (r_i .u8)) := by simp [J0q, Jhe]
def roB (e n : Nat) (B : Blk) : Option (List (List PV)) := match B with
  | .arr _ z rows => if e = z ∧ 0 + n = rows.length then some (rows.drop 0) else none
  | _ => none
theorem JqJ (env : List (Nat × AV)) (sto : List Blk) (e b n : Nat) : (J0q e (.slr b 0 n)).run ⟨env, sto⟩ = sto[b]?.bind fun B => roB e n B := by
  simp only [J0q, J5k]
  cases sto[b]? with
  | none => rfl
  | some B =>
    cases B with
    | arr w z rows => simp only [Option.bind_some, roB]; split <;> rfl
    | _ => rfl
theorem JpE (e n : Nat) (w : Bool) (rows : List (List PV)) : roB e n (.arr w e rows) = if n = rows.length then some rows else none := by simp [roB]
theorem JtC (env : List (Nat × AV)) (sto : List Blk) (x : Opd) (r : List Opd) : (fzs (x :: r)).run ⟨env, sto⟩ = (evv x env).bind fun v => ((fz v).run ⟨env, sto⟩).bind fun a => ((fzs r).run ⟨env, sto⟩).bind fun c => some (a.1 :: c.1, a.2 ++ c.2) := by
  simp only [fzs, run_bind, J0N]; rfl
theorem Jp8 (env : List (Nat × AV)) (sto : List Blk) (b n : Nat) : (fz (.slr b 0 n)).run ⟨env, sto⟩ = sto[b]?.bind fun B => (frp b n B).bind fun x => some ([x.1], [x.2]) := JlW ..
theorem Jpp (env : List (Nat × AV)) (sto : List Blk) (s : SK) (c : PV) (lo hi : Option AV) : (slR s (.p c) lo hi none).run ⟨env, sto⟩ = (slX s (.p c) lo hi).map fun v => ⟨v, []⟩ := by
  simp only [slR, slX]
  cases J4J s (.p c) lo hi none <;> rfl
theorem Jpw (env : List (Nat × AV)) (sto : List Blk) (s : SK) (b n : Nat) (lo hi : Option AV) : (slR s (.slr b 0 n) lo hi none).run ⟨env, sto⟩ = sto[b]?.bind fun B => (frz b n B).bind fun x => (slX s x.1 lo hi).map fun v => ⟨v, [x.2]⟩ := by
  simp only [slR, run_bind, JlW]
  cases sto[b]? with
  | none => rfl
  | some B =>
    cases B with
    | arr w z rows =>
      simp only [Option.bind_some, frp, frz]
      split
      · simp only [Option.bind_some, slX]; cases J4J s (.p (.sl z rows)) lo hi none <;> rfl
      · rfl
    | _ => rfl
theorem Jtp (n : Nat) (live : List Nat) (env : List (Nat × AV)) (sto : List Blk) : J4P n live ⟨env, sto⟩ = if sto.length = n then some ⟨restr live env, sto⟩ else (J7n n sto (restr live env)).bind fun e => (J31 n [] sto (sto.take n)).bind fun l => some ⟨e, l⟩ := by
  simp only [J4P]
  split
  · rfl
  · cases J7n n sto (restr live env) with
    | none => rfl
    | some e => cases J31 n [] sto (sto.take n) <;> rfl
theorem JsP (m k : Nat) (sto : List Blk) (x : AV) (r : List (Nat × AV)) : J7n m sto ((k, x) :: r) = (fin m [] sto x).bind fun y => (J7n m sto r).bind fun l => some ((k, y) :: l) := by
  simp only [J7n]
  cases fin m [] sto x with
  | none => rfl
  | some y => cases J7n m sto r <;> rfl
theorem Jty (m : Nat) (ids : List Nat) (sto : List Blk) (x : Blk) (r : List Blk) : J31 m ids sto (x :: r) = (J3V m ids sto x).bind fun y => (J31 m ids sto r).bind fun l => some (y :: l) := by
  simp only [J31]
  cases J3V m ids sto x with
  | none => rfl
  | some y => cases J31 m ids sto r <;> rfl
theorem Jrg (m : Nat) (ids : List Nat) (sto : List Blk) (cs : List AV) : J3V m ids sto (.box cs) = (fin.finL m ids sto cs).map .box := by
  simp only [J3V]
  cases fin.finL m ids sto cs <;> rfl
theorem JsF (m : Nat) (ids : List Nat) (sto : List Blk) (x : AV) (r : List AV) : fin.finL m ids sto (x :: r) = (fin m ids sto x).bind fun y => (fin.finL m ids sto r).bind fun l => some (y :: l) := by
  simp only [fin.finL]
  cases fin m ids sto x with
  | none => rfl
  | some y => cases fin.finL m ids sto r <;> rfl
def fsl (k : Option Nat) (n : Nat) (B : Option Blk) : Option AV := match k with
  | some k => some (.slr k 0 n)
  | none => match B with
    | some (.arr _ z rows) => if n = rows.length then some (.p (.sl z rows)) else none
    | _ => none
theorem JrJ (m : Nat) (ids : List Nat) (sto : List Blk) (b n : Nat) : fin m ids sto (.slr b 0 n) = if b < m then some (.slr b 0 n) else fsl (J6T b ids m) n sto[b]? := by
  simp only [fin]
  split
  · rfl
  · cases J6T b ids m with
    | some k => rfl
    | none =>
      simp only [fsl]
      cases sto[b]? with
      | none => rfl
      | some B => cases B <;> simp
theorem Js9 (m : Nat) (ids : List Nat) (sto : List Blk) (cs : List AV) : fin m ids sto (.agg cs) = (fin.finL m ids sto cs).bind fun l => some (Jlw l (unp l)) := by
  simp only [fin]
  cases fin.finL m ids sto cs with
  | none => rfl
  | some l => simp only [Option.bind_some]; cases unp l <;> rfl
theorem JrH (m : Nat) (ids : List Nat) (sto : List Blk) (x : AV) (cs : List AV) : fin m ids sto (.tup (x :: cs)) = (fin.finL m ids sto (x :: cs)).map .tup := by
  simp only [fin]
  cases fin.finL m ids sto (x :: cs) <;> rfl
theorem JqG (env : List (Nat × AV)) (sto : List Blk) (t : Nat) (r : List Jbf) : (J58 (.tmp t :: r)).run ⟨env, sto⟩ = (lk t env).bind fun v => ((J58 r).run ⟨env, sto⟩).bind fun l => some (v :: l) := by
  simp only [J58, run_bind, Jl7, J1p]
  cases lk t env <;> rfl
theorem Jqa (env : List (Nat × AV)) (sto : List Blk) (t n : Nat) (g : Bool) (r : List Jbf) : (J58 (.cell t g n :: r)).run ⟨env, sto⟩ = (lk t env).bind fun v => ((J1Y g n v).run ⟨env, sto⟩).bind fun e => ((J58 r).run ⟨env, sto⟩).bind fun l => some (e.val :: l) := by
  simp only [J58, run_bind, Jl7, J1p]
  cases lk t env <;> rfl
def oid (b : Nat) (B : Option Blk) (l : List Nat) : List Nat := match B with
  | some (.box _) => b :: l
  | _ => l
theorem JsX (m b : Nat) (sto : List Blk) (r : List Ent) : J1h m false sto (.whole b :: r) = if b < m then J1h m false sto r else oid b sto[b]? (J1h m false sto r) := by
  simp only [J1h]
  split
  · rfl
  · unfold oid
    cases sto[b]? with
    | none => rfl
    | some B => cases B <;> simp
def ebb (B : Option Blk) (acc : List Ent) : List Ent := match B with
  | some (.box cs) => J0d.entsOfL cs acc
  | _ => acc
theorem Jto (sto : List Blk) (b : Nat) (r : List Ent) (acc : List Ent) : J6x sto (.whole b :: r) acc = J6x sto r (ebb sto[b]? acc) := by
  simp only [J6x, ebb]
  cases sto[b]? with
  | none => rfl
  | some B => cases B <;> rfl
theorem Jsx (b c : Nat) (r : List Ent) : J6B (.whole b) (.whole c :: r) = if c = b then .whole c :: r else .whole c :: J6B (.whole b) r := by
  simp only [J6B, List.any_cons]
  by_cases h : c = b
  · subst h; simp
  · simp [h]
    split <;> simp_all
theorem Jti (sto : List Blk) (b : Nat) (r : List Nat) : J61 sto (b :: r) = sto[b]?.bind fun x => (J61 sto r).bind fun l => some (x :: l) := by
  simp only [J61]
  cases sto[b]? with
  | none => rfl
  | some x => cases J61 sto r <;> rfl
theorem Jq2 {α : Type} (a : α) (cs : List α) (n : Nat) : sub (a :: cs) 0 (n + 1) = (sub cs 0 n).map (a :: ·) := by
  rw [J5s, J5s]
  by_cases h : n ≤ cs.length
  · rw [if_pos (by simp; omega), if_pos (by omega)]; simp
  · rw [if_neg (by simp; omega), if_neg (by omega)]; rfl
theorem JqT {α : Type} (a : α) (cs : List α) (n m : Nat) : sub (a :: cs) (n + 1) m = sub cs n m := by
  rw [J5s, J5s]
  by_cases h : n + m ≤ cs.length
  · rw [if_pos (by simp; omega), if_pos h]; simp
  · rw [if_neg (by simp; omega), if_neg h]
theorem JqC {α : Type} (a b : α) (cs vs : List α) : spl (a :: cs) 0 (b :: vs) = (spl cs 0 vs).map (b :: ·) := by
  rw [J6c, J6c]
  by_cases h : vs.length ≤ cs.length
  · rw [if_pos (by simp; omega), if_pos (by omega)]; simp
  · rw [if_neg (by simp; omega), if_neg (by omega)]; rfl
theorem Jqy {α : Type} (a : α) (cs : List α) (n : Nat) (vs : List α) : spl (a :: cs) (n + 1) vs = (spl cs n vs).map (a :: ·) := by
  rw [J6c, J6c]
  by_cases h : n + vs.length ≤ cs.length
  · rw [if_pos (by simp; omega), if_pos h]
    rw [show n + 1 + vs.length = (n + vs.length) + 1 by omega]; simp
  · rw [if_neg (by simp; omega), if_neg h]; rfl
theorem JpV (off size : Nat) (c : List AV) (a : AV) (cs : List AV) (r : List (Nat × Nat × List AV)) : J1f ((off, size, c) :: r) (a :: cs) = if c.length = size then (spl (a :: cs) off c).bind fun cs => J1f r cs else none := by
  simp only [J1f]
  split
  · cases spl (a :: cs) off c <;> rfl
  · rfl
theorem JrP (m : Nat) (ids : List Nat) (sto : List Blk) (f : FuncId) (a c : List AV) : fin m ids sto (.fn f a c) = (fin.finL m ids sto a).bind fun a1 => (fin.finL m ids sto c).bind fun c1 => some (.fn f a1 c1) := by
  simp only [fin]
  cases fin.finL m ids sto a with
  | none => rfl
  | some a1 => cases fin.finL m ids sto c <;> rfl
def lwO (x y : Option Blk) : Option Blk := match x with
  | some x => some x
  | none => y
theorem JsB (b c : Nat) (x : Blk) (r : List (Nat × Blk)) : J2n b ((c, x) :: r) = lwO (J2n b r) (if c = b then some x else none) := by
  simp only [J2n]
  cases J2n b r <;> rfl
theorem Jrh (env : List (Nat × AV)) (sto : List Blk) (b c : Nat) (x : Blk) (ws : List (Nat × Blk)) : (J7g ((c, x) :: ws) b).run ⟨env, sto⟩ = sto[b]?.bind fun y => some ((J2n b ((c, x) :: ws)).getD y) := by
  simp only [J7g, J5k]
  cases sto[b]? with
  | none => rfl
  | some y => simp only [Option.bind_some]; cases J2n b ((c, x) :: ws) <;> rfl
@[congr] theorem Jud {α : Type} {u u' : AV} {k : FuncId → List AV → List AV → Option α} (h : u = u') : cvg u k = cvg u' k := by rw [h]
theorem Jls (x : Opd) (s : St) : Jm ((ev x).reads s) = [] := by
  cases x with
  | t n => simp only [ev, RM.reads]; cases lk n s.env <;> rfl
  | c v => rfl
theorem Jo5 (a b : List Loc) : Jm (a ++ b) = Jm a ++ Jm b := by
  induction a with
  | nil => rfl
  | cons x r ih => cases x <;> simp [Jm, ih]
def rb {α β : Type} (m : Option α) (f : α → List β) : List β := match m with
  | some a => f a
  | none => []
theorem J2U {α β : Type} (m : RM α) (f : α → RM β) (s : St) : Jm ((m.bind f).reads s) = Jm (m.reads s) ++ rb (m.run s) fun a => Jm ((f a).reads s) := by
  rw [J8Y, Jo5]
  cases m.run s <;> rfl
theorem Jfl {β : Type} (x : Opd) (f : AV → RM β) (s : St) : Jm (((ev x).bind f).reads s) = rb (evv x s.env) fun a => Jm ((f a).reads s) := by
  rw [J2U, Jls, J0N]; rfl
theorem Jel (o : Option AV) (s : St) : Jm ((Go.Am.val o).reads s) = [] := by cases o <;> rfl
section
variable (F : Orc) (new : Nat) (env : List (Nat × AV)) (sto : List Blk)
theorem Jdo {op : AOp} (h : JP op = 0) (s : St) : rdO F op new s = Jm ((opR F op new).reads s) := by
  unfold rdO opD
  rw [J2U, h]; rfl
def is1 (b : Option Blk) : Option Unit := match b with
  | some .dead => some ()
  | _ => none
theorem Jny {op : AOp} (h : JP op = 1) (s : St) : rdO F op new s = new :: rb (is1 s.sto[new]?) fun _ => Jm ((opR F op new).reads s) := by
  unfold rdO opD
  rw [J2U, h]
  simp only [J5B, RM.reads, RM.run, Jm]
  cases s.sto[new]? with
  | none => rfl
  | some b => cases b <;> rfl
end
theorem Jtz {α β : Type} (m : Option α) : (rb m fun _ => ([] : List β)) = [] := by cases m <;> rfl
theorem Js6 (F : Orc) (new : Nat) (env : List (Nat × AV)) (sto : List Blk) (g : Bool) (n : Nat) (x : Opd) : rdO F (.load g n x) new ⟨env, sto⟩ = rb (evv x env) fun a => Jm ((J1Y g n a).reads ⟨env, sto⟩) := by
  rw [Jdo (h := rfl)]; exact Jfl ..
theorem JrU (s : St) (g : Bool) (n b o : Nat) : Jm ((J1Y g n (.ptr b o)).reads s) = [b] := by
  simp only [J1Y, RM.reads, Jm]
  cases s.sto[b]? with
  | none => rfl
  | some B =>
    cases B with
    | box cs => simp only []; cases sub cs o n with
      | none => rfl
      | some l => simp only [Jel]
    | _ => rfl
theorem Jtn (s : St) (g : Bool) (n o : Nat) (cs : List PV) : Jm ((J1Y g n (.cp cs o)).reads s) = [] := by
  simp only [J1Y]
  cases sub cs o n with
  | none => rfl
  | some l => exact Jel ..
theorem Jtl (s : St) (g : Bool) (n b e i o : Nat) : Jm ((J1Y g n (.ep b e i o)).reads s) = [b] := by
  simp only [J1Y, RM.reads, Jm]
  cases s.sto[b]? with
  | none => rfl
  | some B =>
    cases B with
    | arr w z rows =>
      simp only []
      split
      · cases rows[i]? with
        | none => rfl
        | some row =>
          simp only []
          cases sub row o n with
          | none => rfl
          | some l => simp only [Jel]
      · rfl
    | _ => rfl
theorem JoR (F : Orc) (new : Nat) (s : St) (z : List PV) : rdO F (.newbox z) new s = [new] := by
  rw [Jny (h := rfl)]; simp only [opR, RM.reads, Jm, Jtz]
theorem JqP (F : Orc) (new : Nat) (env : List (Nat × AV)) (sto : List Blk) (n : Nat) (x y : Opd) : rdO F (.store n x y) new ⟨env, sto⟩ = rb (evv x env) fun a => rb (evv y env) fun c => Jm ((J1C n a c).reads ⟨env, sto⟩) := by
  rw [Jdo (h := rfl)]
  simp only [opR, Jfl]
theorem Jsi (s : St) (n b o : Nat) (v : AV) : Jm ((J1C n (.ptr b o) v).reads s) = [b] := by
  simp only [J1C, RM.reads, Jm]
  cases s.sto[b]? with
  | none => rfl
  | some B =>
    cases B with
    | box cs =>
      simp only []
      cases cellsOf v with
      | none => rfl
      | some l =>
        simp only []
        split
        · cases spl cs o l <;> rfl
        · rfl
    | _ => rfl
theorem Job (s : St) (n b e i o : Nat) {v : AV} {c : List PV} (hv : fz v = .ret (c, [])) : Jm ((J1C n (.ep b e i o) v).reads s) = [b] := by
  simp only [J1C, RM.reads, Jm]
  cases s.sto[b]? with
  | none => rfl
  | some B =>
    cases B with
    | arr w z rows =>
      cases w with
      | false => rfl
      | true =>
        simp only []
        split
        · cases rows[i]? with
          | none => rfl
          | some row =>
            simp only [hv, J2U, RM.reads, Jm, J1p, rb, List.nil_append]
            split
            · cases spl row o c <;> rfl
            · rfl
        · rfl
    | _ => rfl
theorem JqS (s : St) (n b e i o : Nat) (c : PV) : Jm ((J1C n (.ep b e i o) (.p c)).reads s) = [b] := Job s n b e i o rfl
theorem JpR (s : St) (n b e i o : Nat) (c : List PV) : Jm ((J1C n (.ep b e i o) (.data c)).reads s) = [b] := Job s n b e i o rfl
theorem JeO (s : St) : ∀ args, Jm ((evs args).reads s) = []
  | [] => rfl
  | x :: r => by
    simp only [evs, Jfl]
    cases evv x s.env with
    | none => rfl
    | some v =>
      simp only [rb, J2U, JeO s r, List.nil_append]
      cases (evs r).run s <;> rfl
theorem Jiy (F : Orc) (g : FuncId) (args : List Opd) (n new : Nat) (s : St) : Jm ((opR F (.call g args n) new).reads s) = rb ((evs args).run s) fun a => Jm ((JL a).reads s) ++ rb ((JL a).run s) fun a => Jm ((Jx F g a n new).reads s) := by
  simp only [opR, J2U, JeO, List.nil_append, JaP]
theorem Jq3 (F : Orc) (new : Nat) (s : St) (g : FuncId) (args : List Opd) : rdO F (.call g args 0) new s = rb ((evs args).run s) fun a => Jm ((JL a).reads s) ++ rb ((JL a).run s) fun a => Jm ((Jx F g a 0 new).reads s) := by
  rw [Jdo (h := rfl)]; exact Jiy ..
theorem JpB (F : Orc) (new : Nat) (s : St) (g : FuncId) (args : List Opd) : rdO F (.call g args 1) new s = new :: rb (is1 s.sto[new]?) fun _ => rb ((evs args).run s) fun a => Jm ((JL a).reads s) ++ rb ((JL a).run s) fun a => Jm ((Jx F g a 1 new).reads s) := by
  rw [Jny (h := rfl)]; simp only [Jiy]
theorem Jbb (s : St) {v : AV} (h : J6z v = .ret (v, [])) (r : List AV) : Jm ((JL (v :: r)).reads s) = Jm ((JL r).reads s) := by
  simp only [JL, h, J2U, RM.reads, Jm, J1p, rb, List.nil_append]
  cases (JL r).run s <;> simp [RM.reads, Jm]
theorem JeE (s : St) (b n : Nat) : Jm ((fz (.slr b 0 n)).reads s) = [b] := by
  simp only [fz, RM.reads, Jm]
  cases s.sto[b]? with
  | none => rfl
  | some B =>
    cases B with
    | arr w z rows => simp only []; split <;> rfl
    | _ => rfl
theorem Jrd (s : St) (b n : Nat) (r : List AV) : Jm ((JL (.slr b 0 n :: r)).reads s) = b :: rb ((J6z (.slr b 0 n)).run s) fun _ => Jm ((JL r).reads s) := by
  have h1 : Jm ((J6z (.slr b 0 n)).reads s) = [b] := by
    simp only [J6z, J2U, JeE]
    cases (fz (.slr b 0 n)).run s with
    | none => rfl
    | some a =>
      simp only [rb]
      match a.1 with
      | [] => rfl
      | [_] => rfl
      | _ :: _ :: _ => rfl
  simp only [JL, J2U, h1]
  cases (J6z (.slr b 0 n)).run s with
  | none => rfl
  | some a => simp only [rb]; cases (JL r).run s <;> simp [RM.reads, Jm]
theorem J12 {F : Orc} {f : FuncId} {args : List AV} (hp : args.all J3c = true) (ws : List (Nat × Blk)) (k new : Nat) (s : St) : Jm ((Jx F f (args, ws) k new).reads s) = [] := by
  have e1 : J0d.entsOfL args [] = [] := J5H hp
  simp only [Jx, e1, J6Y, J2U, RM.reads, Jm, J1p, rb, List.nil_append, List.map_nil, J3u, if_true, J6i hp, J4i]
  cases F f args [] with
  | none => rfl
  | some r =>
    simp only []
    split
    · simp only [List.length_nil, List.drop_zero]
      cases bk [] new r.1 with
      | none => rfl
      | some v =>
        cases J3i [] new new r.2 with
        | none => rfl
        | some fr => simp only [J3h, J2U, RM.reads, Jm, J1p, rb, List.nil_append]
    · rfl
def cvl {α : Type} (u : AV) (k : FuncId → List AV → List AV → List α) : List α := match u with
  | .fn f a c => k f a c
  | _ => []
theorem Jol (F : Orc) (new : Nat) (env : List (Nat × AV)) (sto : List Blk) (g : Opd) (args : List Opd) : rdO F (.callv g args 0) new ⟨env, sto⟩ = rb (evv g env) fun u => cvl u fun h a1 c1 => rb ((evs args).run ⟨env, sto⟩) fun a => Jm ((JL (a1 ++ a ++ c1)).reads ⟨env, sto⟩) ++ rb ((JL (a1 ++ a ++ c1)).run ⟨env, sto⟩) fun a => Jm ((Jx F h a 0 new).reads ⟨env, sto⟩) := by
  rw [Jdo (h := rfl)]
  simp only [opR, J2U, Jls, J0N, List.nil_append]
  cases evv g env with
  | none => rfl
  | some u =>
    simp only [rb]
    cases u <;> first | rfl | skip
    simp only [cvl, J2U, JeO, List.nil_append]
    cases (evs args).run ⟨env, sto⟩ with
    | none => rfl
    | some a => simp only [rb, JaP, J2U]
theorem Jjr (s : St) (o : Bool) (e n new : Nat) (z : List PV) (ps : List (Nat × Opd)) : Jm ((ltR o e n z ps new).reads s) = Jm ((fzs (ps.map (·.2))).reads s) := by
  simp only [ltR, J2U]
  cases (fzs (ps.map (·.2))).run s with
  | none => simp [rb]
  | some a =>
    simp only [rb]
    cases J3t e ((ps.map (·.1)).zip a.1) (List.replicate n z) with
    | none => simp [RM.reads, Jm]
    | some rows => cases o <;> simp [RM.reads, Jm]
theorem JpX (F : Orc) (new : Nat) (s : St) (e n : Nat) (z : List PV) (ps : List (Nat × Opd)) : rdO F (.lits false e n z ps) new s = Jm ((fzs (ps.map (·.2))).reads s) := by
  rw [Jdo (h := rfl)]; exact Jjr ..
theorem Jq1 (F : Orc) (new : Nat) (s : St) (e n : Nat) (z : List PV) (ps : List (Nat × Opd)) : rdO F (.lits true e n z ps) new s = new :: rb (is1 s.sto[new]?) fun _ => Jm ((fzs (ps.map (·.2))).reads s) := by
  rw [Jny (h := rfl)]
  congr 2; funext _
  exact Jjr ..
theorem JsR (s : St) (x : Opd) (r : List Opd) : Jm ((fzs (x :: r)).reads s) = rb (evv x s.env) fun v => Jm ((fz v).reads s) ++ rb ((fz v).run s) fun _ => Jm ((fzs r).reads s) := by
  have e0 : fzs (x :: r) = (ev x).bind fun v => (fz v).bind fun a => (fzs r).bind fun c => .ret (a.1 :: c.1, a.2 ++ c.2) := rfl
  rw [e0, Jfl]
  cases evv x s.env with
  | none => rfl
  | some v =>
    dsimp only [rb]
    rw [J2U]
    cases (fz v).run s with
    | none => rfl
    | some a =>
      dsimp only [rb]
      rw [J2U]
      cases (fzs r).run s <;> simp [rb, RM.reads, Jm]
theorem Jpz (F : Orc) (new : Nat) (s : St) (x : Opd) : rdO F (.conv .toStr x) new s = rb (evv x s.env) fun a => Jm ((J0q 1 a).reads s) := by
  rw [Jdo (h := rfl)]
  simp only [opR, Jfl]
  congr 1; funext a
  simp only [J2U]
  cases (J0q 1 a).run s with
  | none => simp [rb]
  | some rows => simp only [rb]; cases J4T rows <;> simp [RM.reads, Jm]
theorem Jop (s : St) (e b n : Nat) : Jm ((J0q e (.slr b 0 n)).reads s) = [b] := by
  simp only [J0q, RM.reads, Jm]
  cases s.sto[b]? with
  | none => rfl
  | some B =>
    cases B with
    | arr w z rows => simp only []; split <;> rfl
    | _ => rfl
theorem Jq4 (s : St) (e z : Nat) (rows : List (List PV)) : Jm ((J0q e (.p (.sl z rows))).reads s) = [] := by
  simp only [J0q]; split <;> rfl
theorem Jqm (F : Orc) (new : Nat) (s : St) (e : Nat) (x i : Opd) : rdO F (.iaddr e x i) new s = rb (evv x s.env) fun a => rb (evv i s.env) fun c => Jm ((J2A e a c).reads s) := by
  rw [Jdo (h := rfl)]; simp only [opR, Jfl]
theorem Jox (s : St) (e b n : Nat) (k : IntKind) (i : Int) : Jm ((J2A e (.slr b 0 n) (.p (.i k i))).reads s) = [b] := by
  simp only [J2A, RM.reads, Jm]
  cases s.sto[b]? with
  | none => rfl
  | some B =>
    cases B with
    | arr w z rows => simp only []; split <;> rfl
    | _ => rfl
theorem Jqi (s : St) (e z : Nat) (rows : List (List PV)) (k : IntKind) (i : Int) : Jm ((J2A e (.p (.sl z rows)) (.p (.i k i))).reads s) = [] := by
  simp only [J2A]
  split
  · cases JaC rows i <;> rfl
  · rfl
theorem Juj (env : List (Nat × AV)) (sto : List Blk) (l : List Int) (new : Nat) : (cvR .toStr (.p (.sl 1 (l.map (r_i .u8)))) new).run ⟨env, sto⟩ = some ⟨.p (.s (toStr l)), []⟩ := Jqf ..
theorem JtJ (n : Nat) (w : Bool) (l : List Int) : cvB n (.arr w 1 (l.map (r_i .u8))) = if n = l.length then some ⟨.p (.s (toStr l)), []⟩ else none := Jsc ..
theorem fr (b n z : Nat) (w : Bool) (rows : List (List PV)) : frz b n (.arr w z rows) = if n = rows.length then some (.p (.sl z rows), (b, .arr false z rows)) else none := rfl
theorem mk (o : Bool) (e b new : Nat) (z : List PV) (k k2 : IntKind) (n m : Int) : mkP o e b z (.p (.i k n)) (.p (.i k2 m)) new = if 0 ≤ n ∧ n ≤ m ∧ b * m ≤ 281474976710656 ∧ m ≤ 281474976710656 then some (if o then ⟨.slr new 0 n.toNat, [(new, .arr true e (List.replicate n.toNat z))]⟩ else ⟨.p (.sl e (List.replicate n.toNat z)), []⟩) else none := rfl
theorem cl (n : Nat) (live : List Nat) (env : List (Nat × AV)) (sto : List Blk) : J4P n live ⟨env, sto⟩ = if sto.length = n then some ⟨restr live env, sto⟩ else (J7n n sto (restr live env)).bind fun e => (J31 n [] sto (sto.take n)).bind fun l => some ⟨e, l⟩ := Jtp ..
theorem JsW {α : Type} (l : List α) : [] ++ l = l := rfl
theorem JsL {α : Type} (l : List α) : l ++ [] = l := List.append_nil l
theorem Jts {α : Type} (a : α) (l r : List α) : (a :: l) ++ r = a :: (l ++ r) := rfl
theorem JsT {α β : Type} (g : α → β) : List.map g [] = [] := rfl
theorem JsA {α β : Type} (g : α → β) (a : α) (l : List α) : List.map g (a :: l) = g a :: List.map g l := rfl
theorem Jt7 {α : Type} : ([] : List α).length = 0 := rfl
theorem Jtf {α : Type} (a : α) (l : List α) : (a :: l).length = l.length + 1 := rfl
theorem JsM (k : IntKind) (n : Int) : r_i k n = [.i k n] := rfl
theorem JtD (x : Bool) : r_b x = [.b x] := rfl
theorem Jr0 (x : List UInt8) : r_s x = [.s x] := rfl
theorem JsE {α : Type} (e : Nat) (g : α → List PV) (l : List α) : JiD e g l = [.sl e (l.map g)] := rfl
theorem s1 (a : PV) : sub [a] 0 1 = some [a] := rfl
set_option maxRecDepth 30000 in
theorem Da : (∀ T f m k s, rk T f m k (X T .skip s) = rk T f m k (some (.normal, s))) ∧
  (∀ T f m k a b s, rk T f m k (X T (.seq a b) s) = rk T f m (.sq b :: k) (X T a s)) ∧
  (∀ T f m k d ins env sto, rk T f m k (X T (.reg d [] ins) ⟨env, sto⟩) = rk T f m k (JqL (Jw (AF T) ins sto.length ⟨env, room (news ins) sto⟩ none))) ∧
  (∀ T f m k d q ps ins env sto, rk T f m k (X T (.reg d (q :: ps) ins) ⟨env, sto⟩) = rk T f m k (JnO (q :: ps) (Jw (AF T) ins sto.length ⟨env, room (news ins) sto⟩ (some [])))) ∧
  (∀ T f m k i c s, rk T f m k (X T (.block i c) s) = rk T f m (.bl i :: k) (X T c s)) ∧
  (∀ T f m k c s, rk T f m k (X T (.scope c) s) = rk T f m k (X T c s)) ∧
  (∀ T f m k i s, rk T f m k (X T (.exit i) s) = rk T f m k (some (.exit i, s))) ∧
  (∀ T f m k s, rk T f m k (X T .ret s) = rk T f m k (some (.ret, s))) ∧
  (∀ T f m k live c env sto, rk T f m k (X T (.keep live c) ⟨env, sto⟩) = rk T f m k (X T c ⟨restr live env, sto⟩)) ∧
  (∀ T f m k live c env sto, rk T f m k (X T (.tidy live c) ⟨env, sto⟩) = rk T f m (.td sto.length live :: k) (X T c ⟨env, sto⟩)) ∧
  (∀ T f m k live c env sto, rk T f m k (X T (.loop live c) ⟨env, sto⟩) = rk T f m k (X T (.lp sto.length live c) ⟨restr live env, sto⟩)) ∧
  (∀ T f m k x a b env sto, rk T f m k (X T (.cond x a b) ⟨env, sto⟩) = rk T f m k (cnd (evv x env) (J6v (X T a ⟨env, sto⟩) (.mk _)) (J6v (X T b ⟨env, sto⟩) (.mk _)) (J6v (fun _ => same (X T a ⟨env, sto⟩) (X T b ⟨env, sto⟩)) (.mk _)))) ∧
  (∀ a b h c, cnd (some (.p (.b true))) (J6v a h) b c = a) ∧
  (∀ a b h c, cnd (some (.p (.b false))) a (J6v b h) c = b) ∧
  (∀ T f m k b s, rk T f m (.sq b :: k) (some (.normal, s)) = rk T f m k (X T b s)) ∧
  (∀ T f m k b i s, rk T f m (.sq b :: k) (some (.exit i, s)) = rk T f m k (some (.exit i, s))) ∧
  (∀ T f m k b s, rk T f m (.sq b :: k) (some (.ret, s)) = rk T f m k (some (.ret, s))) ∧
  (∀ T f m k i s, rk T f m (.bl i :: k) (some (.normal, s)) = rk T f m k (some (.normal, s))) ∧
  (∀ T f m k i j s, rk T f m (.bl i :: k) (some (.exit j, s)) = if j = i then rk T f m k (some (.normal, s)) else rk T f m k (some (.exit j, s))) ∧
  (∀ T f m k i s, rk T f m (.bl i :: k) (some (.ret, s)) = rk T f m k (some (.ret, s))) ∧
  (∀ T f m k n live e s, rk T f m (.td n live :: k) (some (e, s)) = rk T f m k (tdn e (J4P n live s))) ∧
  (∀ e s, tdn e (some s) = some (e, s)) ∧
  (∀ T f m k n live c s, rk T f m (.lo n live c :: k) (some (.normal, s)) = rk T f m k (again T n live c (J4P n live s))) ∧
  (∀ T n live c s, again T n live c (some s) = X T (.lp n live c) s) ∧
  (∀ T f m k n live c i s, rk T f m (.lo n live c :: k) (some (.exit i, s)) = rk T f m k (some (.exit i, s))) ∧
  (∀ T f m k n live c s, rk T f m (.lo n live c :: k) (some (.ret, s)) = rk T f m k (some (.ret, s))) ∧
  (∀ T f m s, rk T f m [] (some (.normal, s)) = JgB f.res f.fresh m s) ∧
  (∀ T f m s, rk T f m [] (some (.ret, s)) = JgB f.res f.fresh m s) ∧
  (∀ s l, JqL (some (s, l)) = some (.normal, s)) ∧
  (∀ s l ps, JnO ps (some (s, some l)) = if J7B l ps = true then some (.normal, s) else none) ∧
  (∀ l, J7B l [] = true) ∧
  (∀ l i j ps, J7B l ((i, j) :: ps) = (pkk l[i]? l[j]? && J7B l ps)) ∧
  (∀ a b, lgA none a b = none) ∧
  (∀ l a b, lgA (some l) a b = some (l ++ [(a, b)])) ∧
  (∀ {α : Type} (a : α) (l : List α), (a :: l)[0]? = some a) ∧
  (∀ {α : Type} (a : α) (l : List α) (n : Nat), (a :: l)[n + 1]? = l[n]?) ∧
  (∀ F new s lg, Jw F [] new s lg = some (s, lg)) ∧
  (∀ F r new env sto lg d x, Jw F (⟨.mv x, some d, none⟩ :: r) new ⟨env, sto⟩ lg = (evv x env).bind fun v => Jw F r new ⟨(d, v) :: env, sto⟩ (lgA lg (rdO F (.mv x) new ⟨env, sto⟩) [])) ∧
  (∀ F r new env sto lg d c a b, Jw F (⟨.pick c a b, some d, none⟩ :: r) new ⟨env, sto⟩ lg = (evv c env).bind fun u => pkh u (evv a env) (evv b env) (J6v (fun v => Jw F r new ⟨(d, v) :: env, sto⟩ (lgA lg (rdO F (.pick c a b) new ⟨env, sto⟩) [])) (.mk _))) ∧
  (∀ F r new env sto lg d op t x y, Jw F (⟨.bin op t x y, some d, none⟩ :: r) new ⟨env, sto⟩ lg = (evv x env).bind fun a => (evv y env).bind fun c => (J0L op t a c).bind fun v => Jw F r new ⟨(d, v) :: env, sto⟩ (lgA lg (rdO F (.bin op t x y) new ⟨env, sto⟩) [])) ∧
  (∀ F r new env sto lg d op x, Jw F (⟨.un op x, some d, none⟩ :: r) new ⟨env, sto⟩ lg = (evv x env).bind fun a => (unP op a).bind fun v => Jw F r new ⟨(d, v) :: env, sto⟩ (lgA lg (rdO F (.un op x) new ⟨env, sto⟩) [])) ∧
  (∀ F r new env sto lg d g off n x, Jw F (⟨.field g off n x, some d, none⟩ :: r) new ⟨env, sto⟩ lg = (evv x env).bind fun a => (J4K g off n a).bind fun v => Jw F r new ⟨(d, v) :: env, sto⟩ (lgA lg (rdO F (.field g off n x) new ⟨env, sto⟩) [])) ∧
  (∀ F r new env sto lg d off x, Jw F (⟨.faddr off x, some d, none⟩ :: r) new ⟨env, sto⟩ lg = (evv x env).bind fun a => (J9N off a).bind fun v => Jw F r new ⟨(d, v) :: env, sto⟩ (lgA lg (rdO F (.faddr off x) new ⟨env, sto⟩) [])) ∧
  (∀ F r new env sto lg d x i, Jw F (⟨.extr x i, some d, none⟩ :: r) new ⟨env, sto⟩ lg = (evv x env).bind fun a => (Jfi i a).bind fun v => Jw F r new ⟨(d, v) :: env, sto⟩ (lgA lg (rdO F (.extr x i) new ⟨env, sto⟩) [])) ∧
  (∀ F r new env sto lg d b x, Jw F (⟨.len b x, some d, none⟩ :: r) new ⟨env, sto⟩ lg = (evv x env).bind fun a => (Jf0 b a).bind fun v => Jw F r new ⟨(d, v) :: env, sto⟩ (lgA lg (rdO F (.len b x) new ⟨env, sto⟩) [])) ∧
  (∀ F r new env sto lg d n, Jw F (⟨.alen n, some d, none⟩ :: r) new ⟨env, sto⟩ lg = Jw F r new ⟨(d, .p (.i .i64 n)) :: env, sto⟩ (lgA lg (rdO F (.alen n) new ⟨env, sto⟩) [])) ∧
  (∀ F r new env sto lg d b x y, Jw F (⟨.mm b x y, some d, none⟩ :: r) new ⟨env, sto⟩ lg = (evv x env).bind fun a => (evv y env).bind fun c => (mmP b a c).bind fun v => Jw F r new ⟨(d, v) :: env, sto⟩ (lgA lg (rdO F (.mm b x y) new ⟨env, sto⟩) [])) ∧
  (∀ F r new env sto lg d n e x i, Jw F (⟨.aaddr n e x i, some d, none⟩ :: r) new ⟨env, sto⟩ lg = (evv x env).bind fun a => (evv i env).bind fun c => (J9L n e a c).bind fun v => Jw F r new ⟨(d, v) :: env, sto⟩ (lgA lg (rdO F (.aaddr n e x i) new ⟨env, sto⟩) [])) ∧
  (∀ F r new env sto lg d e x i, Jw F (⟨.iaddr e x i, some d, none⟩ :: r) new ⟨env, sto⟩ lg = (evv x env).bind fun a => (evv i env).bind fun c => ((J2A e a c).run ⟨env, sto⟩).bind fun q => Jw F r new ⟨(d, q.val) :: env, upd q.ws sto⟩ (lgA lg (rdO F (.iaddr e x i) new ⟨env, sto⟩) (q.ws.map (·.1)))) ∧
  (∀ F r new env sto lg d x i, Jw F (⟨.sidx x i, some d, none⟩ :: r) new ⟨env, sto⟩ lg = (evv x env).bind fun a => (evv i env).bind fun c => (JiA a c).bind fun v => Jw F r new ⟨(d, v) :: env, sto⟩ (lgA lg (rdO F (.sidx x i) new ⟨env, sto⟩) [])) ∧
  (∀ F r new env sto lg d g n e x i, Jw F (⟨.aidx g n e x i, some d, none⟩ :: r) new ⟨env, sto⟩ lg = (evv x env).bind fun a => (evv i env).bind fun c => (JgW g n e a c).bind fun v => Jw F r new ⟨(d, v) :: env, sto⟩ (lgA lg (rdO F (.aidx g n e x i) new ⟨env, sto⟩) [])) ∧
  (∀ F r new env sto lg d x, Jw F (⟨.nilchk x, some d, none⟩ :: r) new ⟨env, sto⟩ lg = (evv x env).bind fun a => (Jm8 a).bind fun v => Jw F r new ⟨(d, v) :: env, sto⟩ (lgA lg (rdO F (.nilchk x) new ⟨env, sto⟩) [])) ∧
  (∀ F r new env sto lg d g n x, Jw F (⟨.load g n x, some d, none⟩ :: r) new ⟨env, sto⟩ lg = (evv x env).bind fun a => ((J1Y g n a).run ⟨env, sto⟩).bind fun q => Jw F r new ⟨(d, q.val) :: env, upd q.ws sto⟩ (lgA lg (rdO F (.load g n x) new ⟨env, sto⟩) (q.ws.map (·.1)))) ∧
  (∀ F r new env sto lg n x y, Jw F (⟨.store n x y, none, none⟩ :: r) new ⟨env, sto⟩ lg = (evv x env).bind fun a => (evv y env).bind fun c => ((J1C n a c).run ⟨env, sto⟩).bind fun q => Jw F r new ⟨env, upd q.ws sto⟩ (lgA lg (rdO F (.store n x y) new ⟨env, sto⟩) (q.ws.map (·.1)))) ∧
  (∀ F r new env sto lg d c x, Jw F (⟨.conv c x, some d, none⟩ :: r) new ⟨env, sto⟩ lg = (evv x env).bind fun a => dds (JP (.conv c x)) new sto (((cvR c a new).run ⟨env, sto⟩).bind fun e => Jw F r (new + JP (.conv c x)) ⟨(d, e.val) :: env, upd e.ws sto⟩ (lgA lg (rdO F (.conv c x) new ⟨env, sto⟩) (e.ws.map (·.1))))) ∧
  (∀ F r new env sto lg d z ps, Jw F (⟨.build z ps, some d, none⟩ :: r) new ⟨env, sto⟩ lg = ((J2l ps).run ⟨env, sto⟩).bind fun l => (J1f l (z.map .p)).bind fun cs => (J1E true cs).bind fun v => Jw F r new ⟨(d, v) :: env, sto⟩ (lgA lg (rdO F (.build z ps) new ⟨env, sto⟩) [])) ∧
  (∀ F r new env sto lg d s x lo hi mx, Jw F (⟨.slice s x lo hi mx, some d, none⟩ :: r) new ⟨env, sto⟩ lg = (evv x env).bind fun a => (J7R lo env).bind fun lo1 => (J7R hi env).bind fun hi1 => (J7R mx env).bind fun mx1 => ((slR s a lo1 hi1 mx1).run ⟨env, sto⟩).bind fun q => Jw F r new ⟨(d, q.val) :: env, upd q.ws sto⟩ (lgA lg (rdO F (.slice s x lo hi mx) new ⟨env, sto⟩) (q.ws.map (·.1)))) ∧
  (∀ F r new env sto lg d e b z x y, Jw F (⟨.app e b z x y, some d, none⟩ :: r) new ⟨env, sto⟩ lg = (evv x env).bind fun a => (evv y env).bind fun c => ((J6Z e b a c).run ⟨env, sto⟩).bind fun q => Jw F r new ⟨(d, q.val) :: env, upd q.ws sto⟩ (lgA lg (rdO F (.app e b z x y) new ⟨env, sto⟩) (q.ws.map (·.1)))) ∧
  (∀ F r new env sto lg d e b z x y, Jw F (⟨.appz e b z x y, some d, none⟩ :: r) new ⟨env, sto⟩ lg = (evv x env).bind fun a => (evv y env).bind fun c => (zrs e z c).bind fun c1 => ((J6Z e b a c1).run ⟨env, sto⟩).bind fun q => Jw F r new ⟨(d, q.val) :: env, upd q.ws sto⟩ (lgA lg (rdO F (.appz e b z x y) new ⟨env, sto⟩) (q.ws.map (·.1)))) ∧
  (∀ F r new env sto lg d g a c, Jw F (⟨.mkfn g a c, some d, none⟩ :: r) new ⟨env, sto⟩ lg = ((evs a).run ⟨env, sto⟩).bind fun a1 => ((evs c).run ⟨env, sto⟩).bind fun c1 => Jw F r new ⟨(d, .fn g a1 c1) :: env, sto⟩ (lgA lg (rdO F (.mkfn g a c) new ⟨env, sto⟩) [])) ∧
  (∀ F r new env sto lg d g args n, Jw F (⟨.callv g args n, some d, none⟩ :: r) new ⟨env, sto⟩ lg = (evv g env).bind fun u => cvg u fun h a1 c1 => dds n new sto (((evs args).run ⟨env, sto⟩).bind fun a => ((JL (a1 ++ a ++ c1)).run ⟨env, sto⟩).bind fun a => ((Jx F h a n new).run ⟨env, sto⟩).bind fun q => Jw F r (new + n) ⟨(d, q.val) :: env, upd q.ws sto⟩ (lgA lg (rdO F (.callv g args n) new ⟨env, sto⟩) (q.ws.map (·.1))))) ∧
  (∀ F r new env sto lg g args n, Jw F (⟨.callv g args n, none, none⟩ :: r) new ⟨env, sto⟩ lg = (evv g env).bind fun u => cvg u fun h a1 c1 => dds n new sto (((evs args).run ⟨env, sto⟩).bind fun a => ((JL (a1 ++ a ++ c1)).run ⟨env, sto⟩).bind fun a => ((Jx F h a n new).run ⟨env, sto⟩).bind fun q => Jw F r (new + n) ⟨env, upd q.ws sto⟩ (lgA lg (rdO F (.callv g args n) new ⟨env, sto⟩) (q.ws.map (·.1))))) ∧
  (∀ {α : Type} (f : FuncId) (a c : List AV) (k : FuncId → List AV → List AV → Option α), cvg (.fn f a c) k = k f a c) ∧
  (∀ F r new env sto lg d e b z y, Jw F (⟨.appn e b z y, some d, none⟩ :: r) new ⟨env, sto⟩ lg = (evv y env).bind fun c => ((J0q e c).run ⟨env, sto⟩).bind fun rows => if J8e rows.length b = true then dds 1 new sto (Jw F r (new + 1) ⟨(d, .slr new 0 rows.length) :: env, sto.set new (.arr true e rows)⟩ (lgA lg (rdO F (.appn e b z y) new ⟨env, sto⟩) [new])) else none) ∧
  (∀ F r new env sto lg d e b z x y, Jw F (⟨.appc e b z x y, some d, none⟩ :: r) new ⟨env, sto⟩ lg = (evv x env).bind fun a => (evv y env).bind fun c => ((J0q e c).run ⟨env, sto⟩).bind fun add => (JkR e b a add).bind fun rows => dds 1 new sto (Jw F r (new + 1) ⟨(d, .slr new 0 rows.length) :: env, sto.set new (.arr true e rows)⟩ (lgA lg (rdO F (.appc e b z x y) new ⟨env, sto⟩) [new]))) ∧
  (∀ F r new env sto lg d z, Jw F (⟨.newbox z, some d, none⟩ :: r) new ⟨env, sto⟩ lg = dds 1 new sto (Jw F r (new + 1) ⟨(d, .ptr new 0) :: env, sto.set new (.box (z.map .p))⟩ (lgA lg (rdO F (.newbox z) new ⟨env, sto⟩) [new]))) ∧
  (∀ F r new env sto lg d e x, Jw F (⟨.mkarr e x, some d, none⟩ :: r) new ⟨env, sto⟩ lg = dds 1 new sto (Jw F r (new + 1) ⟨(d, .slr new 0 0) :: env, sto.set new (.arr true e [])⟩ (lgA lg (rdO F (.mkarr e x) new ⟨env, sto⟩) [new]))) ∧
  (∀ F r new env sto lg d n x, Jw F (⟨.box n x, some d, none⟩ :: r) new ⟨env, sto⟩ lg = (evv x env).bind fun a => (bxP n a).bind fun cs => dds 1 new sto (Jw F r (new + 1) ⟨(d, .ptr new 0) :: env, sto.set new (.box cs)⟩ (lgA lg (rdO F (.box n x) new ⟨env, sto⟩) [new]))) ∧
  (∀ F r new env sto lg d o e n z ps, Jw F (⟨.lits o e n z ps, some d, none⟩ :: r) new ⟨env, sto⟩ lg = dds (if o then 1 else 0) new sto (((ltR o e n z ps new).run ⟨env, sto⟩).bind fun x => Jw F r (new + if o then 1 else 0) ⟨(d, x.val) :: env, upd x.ws sto⟩ (lgA lg (rdO F (.lits o e n z ps) new ⟨env, sto⟩) (x.ws.map (·.1))))) ∧
  (∀ F r new env sto lg d o e b z l c, Jw F (⟨.mkslice o e b z l c, some d, none⟩ :: r) new ⟨env, sto⟩ lg = (evv l env).bind fun a => (evv c env).bind fun x => dds (if o then 1 else 0) new sto ((mkP o e b z a x new).bind fun x => Jw F r (new + if o then 1 else 0) ⟨(d, x.val) :: env, upd x.ws sto⟩ (lgA lg (rdO F (.mkslice o e b z l c) new ⟨env, sto⟩) (x.ws.map (·.1))))) ∧
  (∀ F r new env sto lg d g args n, Jw F (⟨.call g args n, some d, none⟩ :: r) new ⟨env, sto⟩ lg = dds n new sto (((evs args).run ⟨env, sto⟩).bind fun a => ((JL a).run ⟨env, sto⟩).bind fun a => ((Jx F g a n new).run ⟨env, sto⟩).bind fun e => Jw F r (new + n) ⟨(d, e.val) :: env, upd e.ws sto⟩ (lgA lg (rdO F (.call g args n) new ⟨env, sto⟩) (e.ws.map (·.1))))) ∧
  (∀ F r new env sto lg g args n, Jw F (⟨.call g args n, none, none⟩ :: r) new ⟨env, sto⟩ lg = dds n new sto (((evs args).run ⟨env, sto⟩).bind fun a => ((JL a).run ⟨env, sto⟩).bind fun a => ((Jx F g a n new).run ⟨env, sto⟩).bind fun e => Jw F r (new + n) ⟨env, upd e.ws sto⟩ (lgA lg (rdO F (.call g args n) new ⟨env, sto⟩) (e.ws.map (·.1))))) ∧
  (∀ F r new env sto lg d z os, Jw F (⟨.newboxo z os, some d, none⟩ :: r) new ⟨env, sto⟩ lg = dds (os.length + 1) new sto (Jw F r (new + (os.length + 1)) ⟨(d, .ptr (new + os.length) 0) :: env, upd (J2L os new ++ [(new + os.length, .box (J63 os new (z.map .p)))]) sto⟩ (lgA lg (rdO F (.newboxo z os) new ⟨env, sto⟩) ((J2L os new ++ [(new + os.length, Blk.box (J63 os new (z.map .p)))]).map (·.1))))) ∧
  (∀ F r new env sto lg e x, Jw F (⟨.storen e x, none, none⟩ :: r) new ⟨env, sto⟩ lg = (evv x env).bind fun a => dds 1 new sto (((J1C 1 a (.slr new 0 0)).run ⟨env, sto⟩).bind fun q => Jw F r (new + 1) ⟨env, upd ((new, .arr true e []) :: q.ws) sto⟩ (lgA lg (rdO F (.storen e x) new ⟨env, sto⟩) (new :: q.ws.map (·.1))))) ∧
  (∀ F r new env sto lg d z ps os, Jw F (⟨.buildo z ps os, some d, none⟩ :: r) new ⟨env, sto⟩ lg = ((J2l ps).run ⟨env, sto⟩).bind fun l => (J1f l (J63 os new (z.map .p))).bind fun cs => (J1E true cs).bind fun v => dds os.length new sto (Jw F r (new + os.length) ⟨(d, v) :: env, upd (J2L os new) sto⟩ (lgA lg (rdO F (.buildo z ps os) new ⟨env, sto⟩) ((J2L os new).map (·.1))))) ∧
  (∀ F r new env sto lg d g kp args n, Jw F (⟨.callo g kp args n, some d, none⟩ :: r) new ⟨env, sto⟩ lg = dds n new sto (((evs args).run ⟨env, sto⟩).bind fun a => ((J2a kp a).run ⟨env, sto⟩).bind fun a => ((J3Z F g a n new).run ⟨env, sto⟩).bind fun e => Jw F r (new + n) ⟨(d, e.val) :: env, upd e.ws sto⟩ (lgA lg (rdO F (.callo g kp args n) new ⟨env, sto⟩) (e.ws.map (·.1))))) ∧
  (∀ F r new env sto lg g kp args n, Jw F (⟨.callo g kp args n, none, none⟩ :: r) new ⟨env, sto⟩ lg = dds n new sto (((evs args).run ⟨env, sto⟩).bind fun a => ((J2a kp a).run ⟨env, sto⟩).bind fun a => ((J3Z F g a n new).run ⟨env, sto⟩).bind fun e => Jw F r (new + n) ⟨env, upd e.ws sto⟩ (lgA lg (rdO F (.callo g kp args n) new ⟨env, sto⟩) (e.ws.map (·.1))))) ∧
  (∀ {α : Type} (n new : Nat) (sto : List Blk) (o : Option α), dds (n + 1) new sto o = dd1 sto[new]? (dds n (new + 1) sto o)) ∧
  (∀ F r new env sto lg op d g w, Jw F (⟨op, d, some (g, w)⟩ :: r) new ⟨env, sto⟩ lg = grd (lk g env) w (J6v (Jw F (⟨op, d, none⟩ :: r) new ⟨env, sto⟩ lg) (.mk _)) (J6v (Jw F r (new + JP op) (put d ⟨J16, []⟩ ⟨env, sto⟩) (lgA lg [] [])) (.mk _))) ∧
  (∀ {α : Type} (a b : Option α) (h : Dum a), grd (some (.p (.b true))) true (J6v a h) b = a) ∧
  (∀ {α : Type} (a b : Option α) (h : Dum b), grd (some (.p (.b true))) false a (J6v b h) = b) ∧
  (∀ {α : Type} (a b : Option α) (h : Dum b), grd (some (.p (.b false))) true a (J6v b h) = b) ∧
  (∀ {α : Type} (a b : Option α) (h : Dum a), grd (some (.p (.b false))) false (J6v a h) b = a) ∧
  (∀ {α : Type} (w : Bool) (a b : Option α) (h : Dum b), grd (some (.tup [])) w a (J6v b h) = b) ∧
  (∀ {β : Type} (a b : Option AV) (K : AV → Option β) (h : Dum K), pkh (.p (.b true)) a b (J6v K h) = a.bind K) ∧
  (∀ {β : Type} (a b : Option AV) (K : AV → Option β) (h : Dum K), pkh (.p (.b false)) a b (J6v K h) = b.bind K) ∧
  (∀ {α β : Type} (a : α) (f : α → Option β), Option.bind (some a) f = f a) ∧
  (∀ {α : Type} (new : Nat) (sto : List Blk) (o : Option α), dds 0 new sto o = o) ∧
  (∀ {α : Type} (new : Nat) (sto : List Blk) (o : Option α), dds 1 new sto o = dd1 sto[new]? o) ∧
  (∀ {α : Type} (o : Option α), dd1 (some .dead) o = o) :=
  ⟨by intro T f m k s; exact JrL T f m k s,
  by intro T f m k a b s; exact JsV T f m k a b s,
  by intro T f m k d ins env sto; exact JrT T f m k d ins env sto,
  by intro T f m k d q ps ins env sto; exact Jre T f m k d q ps ins env sto,
  by intro T f m k i c s; exact Jq9 T f m k i c s,
  by intro T f m k c s; exact Jpf T f m k c s,
  by intro T f m k i s; exact JrQ T f m k i s,
  by intro T f m k s; exact JtB T f m k s,
  by intro T f m k live c env sto; exact JrM T f m k live c env sto,
  by intro T f m k live c env sto; exact Jr9 T f m k live c env sto,
  by intro T f m k live c env sto; exact Jr5 T f m k live c env sto,
  by intro T f m k x a b env sto; exact Jru T f m k x a b env sto,
  by intros; rfl,
  by intros; rfl,
  by intros; rfl,
  by intros; rfl,
  by intros; rfl,
  by intros; rfl,
  by intro T f m k i j s; exact Jss T f m k i j s,
  by intros; rfl,
  by intro T f m k n live e s; exact (JtU T f m k n live e s).trans (by cases J4P n live s <;> rfl),
  by intros; rfl,
  by intros; rfl,
  by intros; rfl,
  by intros; rfl,
  by intros; rfl,
  by intro T f m s; exact Jrr T f m s,
  by intro T f m s; exact Jpu T f m s,
  by intros; rfl,
  by intros; rfl,
  by intros; rfl,
  by intros; rfl,
  by intros; rfl,
  by intros; rfl,
  by intros; rfl,
  by intros; rfl,
  by intros; rfl,
  by intro F r new env sto lg d x; rw [st0 (h := rfl)]; simp only [opR, run_bind, J0N]; exact Jtq,
  by intro F r new env sto lg d c a b; rw [st0 (h := rfl)]; simp only [opR, run_bind, J0N]; exact Jqv,
  by intro F r new env sto lg d op t x y; rw [st0 (h := rfl)]; simp only [opR, run_bind, J0N]; exact Jj6 (g := fun a c => J0L op t a c),
  by intro F r new env sto lg d op x; rw [st0 (h := rfl)]; simp only [opR, run_bind, J0N]; exact JcR (g := fun a => unP op a),
  by intro F r new env sto lg d g off n x; rw [st0 (h := rfl)]; simp only [opR, run_bind, J0N]; exact JcR (g := fun a => J4K g off n a),
  by intro F r new env sto lg d off x; rw [st0 (h := rfl)]; simp only [opR, run_bind, J0N]; exact JcR (g := fun a => J9N off a),
  by intro F r new env sto lg d x i; rw [st0 (h := rfl)]; simp only [opR, run_bind, J0N]; exact JcR (g := fun a => Jfi i a),
  by intro F r new env sto lg d b x; rw [st0 (h := rfl)]; simp only [opR, run_bind, J0N]; exact JcR (g := fun a => Jf0 b a),
  by intro F r new env sto lg d n; rw [st0 (h := rfl)]; rfl,
  by intro F r new env sto lg d b x y; rw [st0 (h := rfl)]; simp only [opR, run_bind, J0N]; exact Jj6 (g := fun a c => mmP b a c),
  by intro F r new env sto lg d n e x i; rw [st0 (h := rfl)]; simp only [opR, run_bind, J0N]; exact Jj6 (g := fun a c => J9L n e a c),
  by intro F r new env sto lg d e x i; rw [st0 (h := rfl)]; simp only [opR, run_bind, J0N]; exact Jhm (g := fun a c => (J2A e a c).run ⟨env, sto⟩),
  by intro F r new env sto lg d x i; rw [st0 (h := rfl)]; simp only [opR, run_bind, J0N]; exact Js7,
  by intro F r new env sto lg d g n e x i; rw [st0 (h := rfl)]; simp only [opR, run_bind, J0N]; exact Jso,
  by intro F r new env sto lg d x; rw [st0 (h := rfl)]; simp only [opR, run_bind, J0N]; exact Jsu,
  by intro F r new env sto lg d g n x; rw [st0 (h := rfl)]; simp only [opR, run_bind, J0N]; exact JlM (g := fun a => (J1Y g n a).run ⟨env, sto⟩),
  by intro F r new env sto lg n x y; rw [Juw (h := rfl)]; simp only [opR, run_bind, J0N]; exact Jhm (g := fun a c => (J1C n a c).run ⟨env, sto⟩),
  by intro F r new env sto lg d c x; exact JpQ,
  by intro F r new env sto lg d z ps; exact Joe,
  by intro F r new env sto lg d s x lo hi mx; exact JoC,
  by intro F r new env sto lg d e b z x y; rw [st0 (h := rfl)]; simp only [opR, run_bind, J0N]; exact Jhm (g := fun a c => (J6Z e b a c).run ⟨env, sto⟩),
  by intro F r new env sto lg d e b z x y; rw [st0 (h := rfl)]; simp only [opR, run_bind, J0N]; exact Jpe,
  by intro F r new env sto lg d g a c; exact Jq0,
  by intro F r new env sto lg d g args n; exact Jp5,
  by intro F r new env sto lg g args n; exact JnG,
  by intros; rfl,
  by intro F r new env sto lg d e b z y; exact Jpm,
  by intro F r new env sto lg d e b z x y; exact Jq8,
  by intro F r new env sto lg d z; exact JnD,
  by intro F r new env sto lg d e x; exact Joh,
  by intro F r new env sto lg d n x; exact Jrk,
  by intro F r new env sto lg d o e n z ps; exact JpG,
  by intro F r new env sto lg d o e b z l c; exact Jmm,
  by intro F r new env sto lg d g args n; exact Jqj,
  by intro F r new env sto lg g args n; exact Jp9,
  by intro F r new env sto lg d z os; exact JmK,
  by intro F r new env sto lg e x; exact JnP,
  by intro F r new env sto lg d z ps os; exact JnL,
  by intro F r new env sto lg d g kp args n; exact JoZ,
  by intro F r new env sto lg g kp args n; exact JnX,
  by intro α n new sto o; exact Jus ..,
  by intro F r new env sto lg op d g w; exact Js5 ..,
  by intros; rfl,
  by intros; rfl,
  by intros; rfl,
  by intros; rfl,
  by intros; rfl,
  by intros; rfl,
  by intros; rfl,
  by intros; rfl,
  by intros; rfl,
  by intro α new sto o; exact Juk ..,
  by intros; rfl⟩
set_option maxRecDepth 30000 in
theorem Ua : (∀ n m v r, lk n ((m, v) :: r) = if n = m then some v else lk n r) ∧
  (∀ n env, evv (.t n) env = lk n env) ∧
  (∀ v env, evv (.c v) env = some v) ∧
  (∀ a b, pk (.p (.b true)) a b = a) ∧
  (∀ a b, pk (.p (.b false)) a b = b) ∧
  (∀ env, restr [] env = []) ∧
  (∀ k l env, restr (k :: l) env = JnB k (lk k env) (restr l env)) ∧
  (∀ k v l, JnB k (some v) l = (k, v) :: l) ∧
  (∀ k l, JnB k none l = l) ∧
  (∀ n, lk n [] = none) ∧
  (news [] = 0) ∧
  (∀ i r, news (i :: r) = JP i.op + news r) ∧
  (∀ x, JP (.mv x) = 0) ∧
  (∀ e x, JP (.mkarr e x) = 1) ∧
  (∀ a b c, JP (.pick a b c) = 0) ∧
  (∀ z, JP (.newbox z) = 1) ∧
  (∀ n x, JP (.box n x) = 1) ∧
  (∀ z ps, JP (.build z ps) = 0) ∧
  (∀ o e n z ps, JP (.lits o e n z ps) = if o then 1 else 0) ∧
  (∀ g n x, JP (.load g n x) = 0) ∧
  (∀ n x y, JP (.store n x y) = 0) ∧
  (∀ x, JP (.nilchk x) = 0) ∧
  (∀ op t x y, JP (.bin op t x y) = 0) ∧
  (∀ op x, JP (.un op x) = 0) ∧
  (∀ c x, JP (.conv (.int c) x) = 0) ∧
  (∀ x, JP (.conv .same x) = 0) ∧
  (∀ x, JP (.conv .toStr x) = 0) ∧
  (∀ o x, JP (.conv (.toBytes o) x) = if o then 1 else 0) ∧
  (∀ o e b z l c, JP (.mkslice o e b z l c) = if o then 1 else 0) ∧
  (∀ s x lo hi mx, JP (.slice s x lo hi mx) = 0) ∧
  (∀ off x, JP (.faddr off x) = 0) ∧
  (∀ g off n x, JP (.field g off n x) = 0) ∧
  (∀ e x i, JP (.iaddr e x i) = 0) ∧
  (∀ n e x i, JP (.aaddr n e x i) = 0) ∧
  (∀ x i, JP (.sidx x i) = 0) ∧
  (∀ g n e x i, JP (.aidx g n e x i) = 0) ∧
  (∀ x i, JP (.extr x i) = 0) ∧
  (∀ g args n, JP (.call g args n) = n) ∧
  (∀ g args n, JP (.callv g args n) = n) ∧
  (∀ b x, JP (.len b x) = 0) ∧
  (∀ n, JP (.alen n) = 0) ∧
  (∀ e b z x y, JP (.app e b z x y) = 0) ∧
  (∀ e b z x y, JP (.appz e b z x y) = 0) ∧
  (∀ e b z y, JP (.appn e b z y) = 1) ∧
  (∀ e b z x y, JP (.appc e b z x y) = 1) ∧
  (∀ b x y, JP (.mm b x y) = 0) ∧
  (∀ g a c, JP (.mkfn g a c) = 0) ∧
  (∀ z os, JP (.newboxo z os) = os.length + 1) ∧
  (∀ z ps os, JP (.buildo z ps os) = os.length) ∧
  (∀ e x, JP (.storen e x) = 1) ∧
  (∀ g kp args n, JP (.callo g kp args n) = n) ∧
  (∀ sto, room 0 sto = sto) ∧
  (∀ n sto, room (n + 1) sto = sto ++ .dead :: List.replicate n .dead) ∧
  (∀ sto, upd [] sto = sto) ∧
  (∀ b x ws sto, upd ((b, x) :: ws) sto = upd ws (sto.set b x)) ∧
  (∀ d v ws env sto, put (some d) ⟨v, ws⟩ ⟨env, sto⟩ = ⟨(d, v) :: env, upd ws sto⟩) ∧
  (∀ v ws env sto, put none ⟨v, ws⟩ ⟨env, sto⟩ = ⟨env, upd ws sto⟩) ∧
  (J16 = .tup []) ∧
  (∀ {α β : Type} (a : α) (f : α → β), Option.map f (some a) = some (f a)) ∧
  (∀ k x y, J0L .add .plain (.p (.i k x)) (.p (.i k y)) = some (.p (.i k (k.wrap (x + y))))) ∧
  (∀ k x y, J0L .sub .plain (.p (.i k x)) (.p (.i k y)) = some (.p (.i k (k.wrap (x - y))))) ∧
  (∀ k x y, J0L .mul .plain (.p (.i k x)) (.p (.i k y)) = some (.p (.i k (k.wrap (x * y))))) ∧
  (∀ k x y, J0L .and .plain (.p (.i k x)) (.p (.i k y)) = some (.p (.i k (J4t k x y)))) ∧
  (∀ k x y, J0L .or .plain (.p (.i k x)) (.p (.i k y)) = some (.p (.i k (orI k x y)))) ∧
  (∀ k x y, J0L .xor .plain (.p (.i k x)) (.p (.i k y)) = some (.p (.i k (J56 k x y)))) ∧
  (∀ k x y, J0L .eql .plain (.p (.i k x)) (.p (.i k y)) = some (.p (.b (x == y)))) ∧
  (∀ k x y, J0L .neq .plain (.p (.i k x)) (.p (.i k y)) = some (.p (.b (x != y)))) ∧
  (∀ k x y, J0L .lss .plain (.p (.i k x)) (.p (.i k y)) = some (.p (.b (decide (x < y))))) ∧
  (∀ k x y, J0L .leq .plain (.p (.i k x)) (.p (.i k y)) = some (.p (.b (decide (x ≤ y))))) ∧
  (∀ k x y, J0L .gtr .plain (.p (.i k x)) (.p (.i k y)) = some (.p (.b (decide (x > y))))) ∧
  (∀ k x y, J0L .geq .plain (.p (.i k x)) (.p (.i k y)) = some (.p (.b (decide (x ≥ y))))) ∧
  (∀ k x y, J0L .quo .plain (.p (.i k x)) (.p (.i k y)) = (Jtj k x y).map fun z => .p (.i k z)) ∧
  (∀ k x y, J0L .rem .plain (.p (.i k x)) (.p (.i k y)) = (Jcb x y).map fun z => .p (.i k z)) ∧
  (∀ k k2 x y, J0L .shl .plain (.p (.i k x)) (.p (.i k2 y)) = (Jc6 k x y).map fun z => .p (.i k z)) ∧
  (∀ k k2 x y, J0L .shr .plain (.p (.i k x)) (.p (.i k2 y)) = (J8p k x y).map fun z => .p (.i k z)) ∧
  (∀ x y, J0L .add .plain (.p (.s x)) (.p (.s y)) = (J37 x y).map fun z => .p (.s z)) ∧
  (∀ x y, J0L .eql .plain (.p (.s x)) (.p (.s y)) = some (.p (.b (x == y)))) ∧
  (∀ x y, J0L .neq .plain (.p (.s x)) (.p (.s y)) = some (.p (.b (!(x == y))))) ∧
  (∀ x y, J0L .lss .plain (.p (.s x)) (.p (.s y)) = some (.p (.b (Op.bytesLess x y)))) ∧
  (∀ x y, J0L .leq .plain (.p (.s x)) (.p (.s y)) = some (.p (.b (Op.bytesLess x y || x == y)))) ∧
  (∀ x y, J0L .gtr .plain (.p (.s x)) (.p (.s y)) = some (.p (.b (!(Op.bytesLess x y || x == y))))) ∧
  (∀ x y, J0L .geq .plain (.p (.s x)) (.p (.s y)) = some (.p (.b (!Op.bytesLess x y)))) ∧
  (∀ x y, J0L .eql .bool (.p (.b x)) (.p (.b y)) = some (.p (.b (x == y)))) ∧
  (∀ x y, J0L .neq .bool (.p (.b x)) (.p (.b y)) = some (.p (.b (!(x == y))))) ∧
  (∀ ks a c, J0L .eql (.flat ks) (.data a) (.data c) = (J13 ks a c).map fun x => .p (.b x)) ∧
  (∀ ks a c, J0L .neq (.flat ks) (.data a) (.data c) = (J13 ks a c).map fun x => .p (.b (!x))) ∧
  (∀ b o y, J0L .eql .nilp (.ptr b o) y = some (.p (.b false))) ∧
  (∀ b o y, J0L .neq .nilp (.ptr b o) y = some (.p (.b true))) ∧
  (∀ k n, unP .neg (.p (.i k n)) = some (.p (.i k (k.wrap (0 - n))))) ∧
  (∀ k n, unP .xor (.p (.i k n)) = some (.p (.i k (Jjd k n)))) ∧
  (∀ x, unP .not (.p (.b x)) = some (.p (.b (!x)))) ∧
  ((!true) = false) ∧
  ((!false) = true) ∧
  (∀ k x y, mmP true (.p (.i k x)) (.p (.i k y)) = some (.p (.i k (JeN x y)))) ∧
  (∀ k x y, mmP false (.p (.i k x)) (.p (.i k y)) = some (.p (.i k (Jho x y)))) ∧
  (∀ off b o, J9N off (.ptr b o) = some (.ptr b (o + off))) ∧
  (∀ off o cs, J9N off (.cp cs o) = some (.cp cs (o + off))) ∧
  (∀ off b e i o, J9N off (.ep b e i o) = some (.ep b e i (o + off))) ∧
  (∀ g off n cs, J4K g off n (.data cs) = (sub cs off n).bind (J1U g)) ∧
  (∀ g off n c cs, J4K g off n (.agg (c :: cs)) = (sub (c :: cs) off n).bind (J1E g)) ∧
  (∀ cs, J1U true cs = some (.data cs)) ∧
  (∀ c, J1U false [c] = some (.p c)) ∧
  (∀ cs, J1E true (cs.map AV.p) = some (.data cs)) ∧
  (∀ c cs, J1E true (c :: cs) = some (Jlw (c :: cs) (unp (c :: cs)))) ∧
  (∀ c, J1E false [c] = some c) ∧
  (∀ cs l, Jlw cs (some l) = .data l) ∧
  (∀ c, Option.map (fun l => c :: l) (none : Option (List PV)) = none) ∧
  (∀ cs, Jlw cs none = .agg cs) ∧
  (unp [] = some []) ∧
  (∀ c r, unp (.p c :: r) = (unp r).map fun l => c :: l) ∧
  (∀ b i n r, unp (.slr b i n :: r) = none) ∧
  (∀ b i r, unp (.ptr b i :: r) = none) ∧
  (∀ b e i o r, unp (.ep b e i o :: r) = none) ∧
  (∀ f a c r, unp (.fn f a c :: r) = none) ∧
  (∀ i vs, Jfi i (.tup vs) = vs[i]?) ∧
  (∀ l, Jf0 true (.p (.s l)) = some (.p (.i .i64 l.length))) ∧
  (∀ e rows, Jf0 false (.p (.sl e rows)) = some (.p (.i .i64 rows.length))) ∧
  (∀ b i n, Jf0 false (.slr b i n) = some (.p (.i .i64 n))) ∧
  (∀ {α β : Type} (g : α → β) (l : List α), (l.map g).length = l.length) ∧
  (∀ b o, Jm8 (.ptr b o) = some (.ptr b o)) ∧
  (∀ cs o, Jm8 (.cp cs o) = some (.cp cs o)) ∧
  (∀ b e i o, Jm8 (.ep b e i o) = some (.ep b e i o)) ∧
  (∀ env sto g n cs off, (J1Y g n (.cp cs off)).run ⟨env, sto⟩ = (sub cs off n).bind fun l => (J1U g l).map fun v => ⟨v, []⟩) ∧
  (∀ env sto g n b off, (J1Y g n (.ptr b off)).run ⟨env, sto⟩ = sto[b]?.bind fun B => ldB g n off B) ∧
  (∀ env sto g n b e i off, (J1Y g n (.ep b e i off)).run ⟨env, sto⟩ = sto[b]?.bind fun B => ldE g n e i off B) ∧
  (∀ g n off cs, ldB g n off (.box (cs.map AV.p)) = (sub cs off n).bind fun l => (J1U g l).map fun v => ⟨v, []⟩) ∧
  (∀ g n off c cs, ldB g n off (.box (c :: cs)) = (sub (c :: cs) off n).bind fun l => (J1E g l).map fun v => ⟨v, []⟩) ∧
  (∀ g n e i off z w rows, ldE g n e i off (.arr w z rows) = if e = rows.length then rows[i]?.bind fun row => (sub row off n).bind fun l => (J1U g l).map fun v => ⟨v, []⟩ else none) ∧
  (∀ env sto n b off v, (J1C n (.ptr b off) v).run ⟨env, sto⟩ = sto[b]?.bind fun B => (cellsOf v).bind fun l => stB n b off l B) ∧
  (∀ n b off cs vs, stB n b off (vs.map AV.p) (.box (cs.map AV.p)) = if vs.length = n then (spl cs off vs).map fun cs => ⟨J16, [(b, .box (cs.map AV.p))]⟩ else none) ∧
  (∀ b off cs v, stB 1 b off [AV.p v] (.box (cs.map AV.p)) = (spl cs off [v]).map fun cs => ⟨J16, [(b, .box (cs.map AV.p))]⟩) ∧
  (∀ env sto n b e i off v, (J1C n (.ep b e i off) v).run ⟨env, sto⟩ = sto[b]?.bind fun B => stE n b e i off v B ⟨env, sto⟩) ∧
  (∀ n b e i off z c rows s, stE n b e i off (.p c) (.arr true z rows) s = if e = rows.length then rows[i]?.bind fun row => if 1 = n then (spl row off [c]).map fun row => ⟨J16, [(b, .arr true z (rows.set i row))]⟩ else none else none) ∧
  (∀ n b e i off z cs rows s, stE n b e i off (.data cs) (.arr true z rows) s = if e = rows.length then rows[i]?.bind fun row => if cs.length = n then (spl row off cs).map fun row => ⟨J16, [(b, .arr true z (rows.set i row))]⟩ else none else none) ∧
  (∀ c, cellsOf (.p c) = some [.p c]) ∧
  (∀ cs, cellsOf (.data cs) = some (cs.map AV.p)) ∧
  (∀ cs, cellsOf (.agg cs) = some cs) ∧
  (∀ f a c, cellsOf (.fn f a c) = some [.fn f a c]) ∧
  (∀ b i n, cellsOf (.slr b i n) = some [.slr b i n]) ∧
  (∀ b o, cellsOf (.ptr b o) = some [.ptr b o]) ∧
  (∀ c, bxP 1 (.p c) = some [.p c]) ∧
  (∀ n cs, bxP n (.data cs) = if cs.length = n then some (cs.map AV.p) else none) ∧
  (∀ n cs, bxP n (.agg cs) = if cs.length = n then some cs else none) ∧
  (∀ b i n, bxP 1 (.slr b i n) = some [.slr b i n]) ∧
  (∀ env sto e rows k n, (J2A e (.p (.sl e rows)) (.p (.i k n))).run ⟨env, sto⟩ = (JaC rows n).map fun row => ⟨.cp row 0, []⟩) ∧
  (∀ env sto e b m k n, (J2A e (.slr b 0 m) (.p (.i k n))).run ⟨env, sto⟩ = sto[b]?.bind fun B => iaB e b m n B) ∧
  (∀ e b m n w rows, iaB e b m n (.arr w e rows) = if m = rows.length ∧ 0 ≤ n ∧ n < m then some ⟨.ep b rows.length n.toNat 0, []⟩ else none) ∧
  (∀ n e b off k i, J9L n e (.ptr b off) (.p (.i k i)) = if 0 ≤ i ∧ i < n then some (.ptr b (off + i.toNat * e)) else none) ∧
  (∀ n e off cs k i, J9L n e (.cp cs off) (.p (.i k i)) = if 0 ≤ i ∧ i < n then some (.cp cs (off + i.toNat * e)) else none) ∧
  (∀ n e b x j off k i, J9L n e (.ep b x j off) (.p (.i k i)) = if 0 ≤ i ∧ i < n then some (.ep b x j (off + i.toNat * e)) else none) ∧
  (∀ l k n, JiA (.p (.s l)) (.p (.i k n)) = (Jbq l n).map fun v => .p (.i .u8 v)) ∧
  (∀ g n e cs k i, JgW g n e (.agg cs) (.p (.i k i)) = if 0 ≤ i ∧ i < n then J4K g (i.toNat * e) e (.agg cs) else none) ∧
  (∀ g n e cs k i, JgW g n e (.data cs) (.p (.i k i)) = if 0 ≤ i ∧ i < n then (sub cs (i.toNat * e) e).bind (J1U g) else none) ∧
  (∀ env sto c k n new, (cvR (.int c) (.p (.i k n)) new).run ⟨env, sto⟩ = some ⟨.p (.i c (c.wrap n)), []⟩) ∧
  (∀ env sto l new, (cvR .same (.p (.s l)) new).run ⟨env, sto⟩ = some ⟨.p (.s l), []⟩) ∧
  (∀ env sto l new, (cvR .toStr (.p (.sl 1 (l.map (r_i .u8)))) new).run ⟨env, sto⟩ = some ⟨.p (.s (toStr l)), []⟩) ∧
  (∀ env sto b n new, (cvR .toStr (.slr b 0 n) new).run ⟨env, sto⟩ = sto[b]?.bind fun B => cvB n B) ∧
  (∀ n w l, cvB n (.arr w 1 (l.map (r_i .u8))) = if n = l.length then some ⟨.p (.s (toStr l)), []⟩ else none) ∧
  (∀ env sto l new, (cvR (.toBytes false) (.p (.s l)) new).run ⟨env, sto⟩ = some ⟨.p (.sl 1 ((J8g l).map (r_i .u8))), []⟩) ∧
  (∀ env sto l new, (cvR (.toBytes true) (.p (.s l)) new).run ⟨env, sto⟩ = some ⟨.slr new 0 (J8g l).length, [(new, .arr true 1 ((J8g l).map (r_i .u8)))]⟩) ∧
  (∀ env sto, (J2l []).run ⟨env, sto⟩ = some []) ∧
  (∀ env sto off size x r, (J2l ((off, size, x) :: r)).run ⟨env, sto⟩ = (evv x env).bind fun v => (cellsOf v).bind fun cs => ((J2l r).run ⟨env, sto⟩).bind fun l => some ((off, size, cs) :: l)) ∧
  (∀ cs, J1f [] cs = some cs) ∧
  (∀ off size vs cs r, J1f ((off, size, vs.map AV.p) :: r) (cs.map AV.p) = if vs.length = size then (spl cs off vs).bind fun cs => J1f r (cs.map AV.p) else none) ∧
  (∀ off v cs r, J1f ((off, 1, [AV.p v]) :: r) (cs.map AV.p) = (spl cs off [v]).bind fun cs => J1f r (cs.map AV.p)) ∧
  (∀ env sto, (evs []).run ⟨env, sto⟩ = some []) ∧
  (∀ env sto x r, (evs (x :: r)).run ⟨env, sto⟩ = (evv x env).bind fun v => ((evs r).run ⟨env, sto⟩).bind fun vs => some (v :: vs)) ∧
  (∀ n, J2L [] n = []) ∧
  (∀ o e r n, J2L ((o, e) :: r) n = (n, .arr true e []) :: J2L r (n + 1)) ∧
  (∀ n cs, J63 [] n cs = cs) ∧
  (∀ o e r n cs, J63 ((o, e) :: r) n cs = J63 r (n + 1) (cs.set o (.slr n 0 0))) ∧
  (∀ env sto m, (J2a m []).run ⟨env, sto⟩ = some ([], [])) ∧
  (∀ env sto l, (J2a [] l).run ⟨env, sto⟩ = (JL l).run ⟨env, sto⟩) ∧
  (∀ env sto x m r, (J2a (true :: m) (x :: r)).run ⟨env, sto⟩ = ((J2a m r).run ⟨env, sto⟩).bind fun c => some (x :: c.1, c.2)) ∧
  (∀ env sto x m r, (J2a (false :: m) (x :: r)).run ⟨env, sto⟩ = ((JL [x]).run ⟨env, sto⟩).bind fun a => ((J2a m r).run ⟨env, sto⟩).bind fun c => some (a.1 ++ c.1, a.2 ++ c.2)) ∧
  (∀ env sto, (JL []).run ⟨env, sto⟩ = some ([], [])) ∧
  (∀ env sto c r, (JL (.p c :: r)).run ⟨env, sto⟩ = ((JL r).run ⟨env, sto⟩).bind fun a => some (.p c :: a.1, a.2)) ∧
  (∀ env sto c r, (JL (.data c :: r)).run ⟨env, sto⟩ = ((JL r).run ⟨env, sto⟩).bind fun a => some (.data c :: a.1, a.2)) ∧
  (∀ env sto b o r, (JL (.ptr b o :: r)).run ⟨env, sto⟩ = ((JL r).run ⟨env, sto⟩).bind fun a => some (.ptr b o :: a.1, a.2)) ∧
  (∀ env sto c o r, (JL (.cp c o :: r)).run ⟨env, sto⟩ = ((JL r).run ⟨env, sto⟩).bind fun a => some (.cp c o :: a.1, a.2)) ∧
  (∀ env sto b x i o r, (JL (.ep b x i o :: r)).run ⟨env, sto⟩ = ((JL r).run ⟨env, sto⟩).bind fun a => some (.ep b x i o :: a.1, a.2)) ∧
  (∀ env sto b n r, (JL (.slr b 0 n :: r)).run ⟨env, sto⟩ = sto[b]?.bind fun B => (frz b n B).bind fun x => ((JL r).run ⟨env, sto⟩).bind fun a => some (x.1 :: a.1, x.2 :: a.2)) ∧
  (∀ env sto cs r, (JL (.agg cs :: r)).run ⟨env, sto⟩ = ((fz.fzL cs).run ⟨env, sto⟩).bind fun x => ((JL r).run ⟨env, sto⟩).bind fun a => some (.data x.1 :: a.1, x.2 ++ a.2)) ∧
  (∀ b n z w rows, frz b n (.arr w z rows) = if n = rows.length then some (.p (.sl z rows), (b, .arr false z rows)) else none) ∧
  (∀ env sto, (fz.fzL []).run ⟨env, sto⟩ = some ([], [])) ∧
  (∀ env sto c r, (fz.fzL (.p c :: r)).run ⟨env, sto⟩ = ((fz.fzL r).run ⟨env, sto⟩).bind fun a => some (c :: a.1, a.2)) ∧
  (∀ env sto b n r, (fz.fzL (.slr b 0 n :: r)).run ⟨env, sto⟩ = sto[b]?.bind fun B => (frp b n B).bind fun x => ((fz.fzL r).run ⟨env, sto⟩).bind fun a => some (x.1 :: a.1, x.2 :: a.2)) ∧
  (∀ b n z w rows, frp b n (.arr w z rows) = if n = rows.length then some (.sl z rows, (b, .arr false z rows)) else none) ∧
  (∀ env sto f a c r, (JL (.fn f a c :: r)).run ⟨env, sto⟩ = ((JL r).run ⟨env, sto⟩).bind fun x => some (.fn f a c :: x.1, x.2)) ∧
  (∀ m ids sto f a c, fin m ids sto (.fn f a c) = (fin.finL m ids sto a).bind fun a1 => (fin.finL m ids sto c).bind fun c1 => some (.fn f a1 c1)) ∧
  (∀ f a c l, J0d (.fn f a c) l = J0d.entsOfL c (J0d.entsOfL a l)) ∧
  (∀ ws s, J1o ws s [] [] = True) ∧
  (∀ ws s b bs cs css, J1o ws s (b :: bs) (cs :: css) = ((J7g ws b).run s = some (.box cs) ∧ J1o ws s bs css)) ∧
  (∀ env sto b c x ws, (J7g ((c, x) :: ws) b).run ⟨env, sto⟩ = sto[b]?.bind fun y => some ((J2n b ((c, x) :: ws)).getD y)) ∧
  (∀ b, J2n b [] = none) ∧
  (∀ b c x r, J2n b ((c, x) :: r) = lwO (J2n b r) (if c = b then some x else none)) ∧
  (∀ x y, lwO (some x) y = some x) ∧
  (∀ y, lwO none y = y) ∧
  (∀ {α : Type} (a b : α), (some a).getD b = a) ∧
  (∀ {α : Type} (b : α), (none : Option α).getD b = b) ∧
  (∀ env sto b, (J7g [] b).run ⟨env, sto⟩ = sto[b]?) ∧
  (∀ env sto e rows, (J0q e (.p (.sl e rows))).run ⟨env, sto⟩ = some rows) ∧
  (∀ env sto l, (J0q 1 (.p (.s l))).run ⟨env, sto⟩ = some ((J8g l).map (r_i .u8))) ∧
  (∀ env sto e b n, (J0q e (.slr b 0 n)).run ⟨env, sto⟩ = sto[b]?.bind fun B => roB e n B) ∧
  (∀ e n w rows, roB e n (.arr w e rows) = if n = rows.length then some rows else none) ∧
  (∀ env sto o e n new z ps, (ltR o e n z ps new).run ⟨env, sto⟩ = ((fzs (ps.map (·.2))).run ⟨env, sto⟩).bind fun a => (J3t e ((ps.map (·.1)).zip a.1) (List.replicate n z)).map fun rows => if o then ⟨.slr new 0 n, a.2 ++ [(new, .arr true e rows)]⟩ else ⟨.p (.sl e rows), a.2⟩) ∧
  (∀ env sto, (fzs []).run ⟨env, sto⟩ = some ([], [])) ∧
  (∀ env sto x r, (fzs (x :: r)).run ⟨env, sto⟩ = (evv x env).bind fun v => ((fz v).run ⟨env, sto⟩).bind fun a => ((fzs r).run ⟨env, sto⟩).bind fun c => some (a.1 :: c.1, a.2 ++ c.2)) ∧
  (∀ env sto c, (fz (.p c)).run ⟨env, sto⟩ = some ([c], [])) ∧
  (∀ env sto cs, (fz (.data cs)).run ⟨env, sto⟩ = some (cs, [])) ∧
  (∀ env sto cs, (fz (.agg cs)).run ⟨env, sto⟩ = (fz.fzL cs).run ⟨env, sto⟩) ∧
  (∀ env sto b n, (fz (.slr b 0 n)).run ⟨env, sto⟩ = sto[b]?.bind fun B => (frp b n B).bind fun x => some ([x.1], [x.2])) ∧
  (∀ e rows, J3t e [] rows = some rows) ∧
  (∀ e i c r rows, J3t e ((i, c) :: r) rows = if c.length = e ∧ i < rows.length then J3t e r (rows.set i c) else none) ∧
  (∀ o e b new z k k2 n m, mkP o e b z (.p (.i k n)) (.p (.i k2 m)) new = if 0 ≤ n ∧ n ≤ m ∧ b * m ≤ 281474976710656 ∧ m ≤ 281474976710656 then some (if o then ⟨.slr new 0 n.toNat, [(new, .arr true e (List.replicate n.toNat z))]⟩ else ⟨.p (.sl e (List.replicate n.toNat z)), []⟩) else none) ∧
  (∀ env, J7R none env = some none) ∧
  (∀ x env, J7R (some x) env = (evv x env).map some) ∧
  (∀ env sto s c lo hi, (slR s (.p c) lo hi none).run ⟨env, sto⟩ = (slX s (.p c) lo hi).map fun v => ⟨v, []⟩) ∧
  (∀ env sto s b n lo hi, (slR s (.slr b 0 n) lo hi none).run ⟨env, sto⟩ = sto[b]?.bind fun B => (frz b n B).bind fun x => (slX s x.1 lo hi).map fun v => ⟨v, [x.2]⟩) ∧
  (∀ x lo hi, slX .str x lo hi = J5a x lo hi) ∧
  (∀ e x lo hi, slX (.sl e) x lo hi = J7p e x lo hi) ∧
  (∀ n live env sto, J4P n live ⟨env, sto⟩ = if sto.length = n then some ⟨restr live env, sto⟩ else (J7n n sto (restr live env)).bind fun e => (J31 n [] sto (sto.take n)).bind fun l => some ⟨e, l⟩) ∧
  (∀ m sto, J7n m sto [] = some []) ∧
  (∀ m k sto x r, J7n m sto ((k, x) :: r) = (fin m [] sto x).bind fun y => (J7n m sto r).bind fun l => some ((k, y) :: l)) ∧
  (∀ m ids sto, J31 m ids sto [] = some []) ∧
  (∀ m ids sto x r, J31 m ids sto (x :: r) = (J3V m ids sto x).bind fun y => (J31 m ids sto r).bind fun l => some (y :: l)) ∧
  (∀ m ids sto, J3V m ids sto .dead = some .dead) ∧
  (∀ m ids sto w z rows, J3V m ids sto (.arr w z rows) = some (.arr w z rows)) ∧
  (∀ m ids sto cs, J3V m ids sto (.box cs) = (fin.finL m ids sto cs).map .box) ∧
  (∀ (m : Nat) (ids : List Nat) (sto : List Blk) (l : List PV), fin.finL m ids sto (l.map AV.p) = some (l.map AV.p)) ∧
  (∀ m ids sto, fin.finL m ids sto [] = some []) ∧
  (∀ m ids sto x r, fin.finL m ids sto (x :: r) = (fin m ids sto x).bind fun y => (fin.finL m ids sto r).bind fun l => some (y :: l)) ∧
  (∀ m ids sto c, fin m ids sto (.p c) = some (.p c)) ∧
  (∀ m ids sto c, fin m ids sto (.data c) = some (.data c)) ∧
  (∀ m ids sto c o, fin m ids sto (.cp c o) = some (.cp c o)) ∧
  (∀ m ids sto, fin m ids sto (.tup []) = some (.tup [])) ∧
  (∀ m ids sto b off, fin m ids sto (.ptr b off) = if b < m then some (.ptr b off) else (J6T b ids m).map fun k => .ptr k off) ∧
  (∀ m ids sto b n, fin m ids sto (.slr b 0 n) = if b < m then some (.slr b 0 n) else fsl (J6T b ids m) n sto[b]?) ∧
  (∀ k n o, fsl (some k) n o = some (.slr k 0 n)) ∧
  (∀ n z w rows, fsl none n (some (.arr w z rows)) = if n = rows.length then some (.p (.sl z rows)) else none) ∧
  (∀ m ids sto cs, fin m ids sto (.agg cs) = (fin.finL m ids sto cs).bind fun l => some (Jlw l (unp l))) ∧
  (∀ m ids sto x cs, fin m ids sto (.tup (x :: cs)) = (fin.finL m ids sto (x :: cs)).map .tup) ∧
  (∀ b k, J6T b [] k = none) ∧
  (∀ b x k r, J6T b (x :: r) k = if x = b then some k else J6T b r (k + 1)) ∧
  (∀ res fresh m env sto, JgB res fresh m ⟨env, sto⟩ = ((J58 res).run ⟨env, sto⟩).bind fun vs => if sto.length = m then some (one vs, sto) else JnV fresh m vs sto (J1h m fresh sto (J6x sto (J0d.entsOfL vs []) (J0d.entsOfL vs [])))) ∧
  (∀ fresh m vs sto ids, JnV fresh m vs sto ids = if J3u ids = true then (fin.finL m ids sto vs).bind fun ws => (J31 m ids sto (sto.take m)).bind fun l => (J61 sto ids).bind fun q => (J31 m ids sto q).bind fun q => some (one ws, l ++ q) else none) ∧
  (∀ env sto, (J58 []).run ⟨env, sto⟩ = some []) ∧
  (∀ env sto t r, (J58 (.tmp t :: r)).run ⟨env, sto⟩ = (lk t env).bind fun v => ((J58 r).run ⟨env, sto⟩).bind fun l => some (v :: l)) ∧
  (∀ env sto t n g r, (J58 (.cell t g n :: r)).run ⟨env, sto⟩ = (lk t env).bind fun v => ((J1Y g n v).run ⟨env, sto⟩).bind fun e => ((J58 r).run ⟨env, sto⟩).bind fun l => some (e.val :: l)) ∧
  (∀ x, one [x] = x) ∧
  (one [] = .tup []) ∧
  (∀ x y r, one (x :: y :: r) = .tup (x :: y :: r)) ∧
  (∀ m fresh sto, J1h m fresh sto [] = []) ∧
  (∀ m b sto r, J1h m false sto (.whole b :: r) = if b < m then J1h m false sto r else oid b sto[b]? (J1h m false sto r)) ∧
  (∀ m b sto r, J1h m true sto (.whole b :: r) = if b < m then J1h m true sto r else Jl8 b sto[b]? (J1h m true sto r)) ∧
  (∀ b cs l, Jl8 b (some (.box cs)) l = b :: l) ∧
  (∀ b z w rows l, Jl8 b (some (.arr w z rows)) l = b :: l) ∧
  (∀ b cs l, oid b (some (.box cs)) l = b :: l) ∧
  (∀ b z w rows l, oid b (some (.arr w z rows)) l = l) ∧
  (∀ sto acc, J6x sto [] acc = acc) ∧
  (∀ sto b r acc, J6x sto (.whole b :: r) acc = J6x sto r (ebb sto[b]? acc)) ∧
  (∀ cs acc, ebb (some (.box cs)) acc = J0d.entsOfL cs acc) ∧
  (∀ z w rows acc, ebb (some (.arr w z rows)) acc = acc) ∧
  (∀ l, J0d.entsOfL [] l = l) ∧
  (∀ x r l, J0d.entsOfL (x :: r) l = J0d.entsOfL r (J0d x l)) ∧
  (∀ (cs : List PV) (l : List Ent), J0d.entsOfL (cs.map AV.p) l = l) ∧
  (∀ c l, J0d (.p c) l = l) ∧
  (∀ c l, J0d (.data c) l = l) ∧
  (∀ c o l, J0d (.cp c o) l = l) ∧
  (∀ b o l, J0d (.ptr b o) l = J6B (.whole b) l) ∧
  (∀ b i n l, J0d (.slr b i n) l = J6B (.whole b) l) ∧
  (∀ cs l, J0d (.agg cs) l = J0d.entsOfL cs l) ∧
  (∀ cs l, J0d (.tup cs) l = J0d.entsOfL cs l) ∧
  (∀ e, J6B e [] = [e]) ∧
  (∀ b c r, J6B (.whole b) (.whole c :: r) = if c = b then .whole c :: r else .whole c :: J6B (.whole b) r) ∧
  (J3u [] = true) ∧
  (∀ x, J3u [x] = true) ∧
  (∀ sto, J61 sto [] = some []) ∧
  (∀ sto b r, J61 sto (b :: r) = sto[b]?.bind fun x => (J61 sto r).bind fun l => some (x :: l)) ∧
  (∀ {α : Type} (a : α) (l : List α), (a :: l)[0]? = some a) ∧
  (∀ {α : Type} (a : α) (l : List α) (n : Nat), (a :: l)[n + 1]? = l[n]?) ∧
  (∀ {α : Type} (n : Nat), ([] : List α)[n]? = none) ∧
  (∀ {α : Type} (a b : α) (l : List α), (a :: l).set 0 b = b :: l) ∧
  (∀ {α : Type} (a b : α) (l : List α) (n : Nat), (a :: l).set (n + 1) b = a :: l.set n b) ∧
  (∀ {α : Type} (l : List α), [] ++ l = l) ∧
  (∀ {α : Type} (l : List α), l ++ [] = l) ∧
  (∀ {α : Type} (a : α) (l r : List α), (a :: l) ++ r = a :: (l ++ r)) ∧
  (∀ {α : Type} (a : α), List.replicate 0 a = []) ∧
  (∀ {α : Type} (a : α) (n : Nat), List.replicate (n + 1) a = a :: List.replicate n a) ∧
  (∀ {α β : Type} (g : α → β), List.map g [] = []) ∧
  (∀ {α β : Type} (g : α → β) (a : α) (l : List α), List.map g (a :: l) = g a :: List.map g l) ∧
  (∀ {α : Type}, ([] : List α).length = 0) ∧
  (∀ {α : Type} (a : α) (l : List α), (a :: l).length = l.length + 1) ∧
  (∀ {α : Type} (l : List α), l.take 0 = []) ∧
  (∀ {α : Type} (a : α) (l : List α) (n : Nat), (a :: l).take (n + 1) = a :: l.take n) ∧
  (∀ {α β : Type} (l : List β), ([] : List α).zip l = []) ∧
  (∀ {α β : Type} (a : α) (b : β) (l : List α) (r : List β), (a :: l).zip (b :: r) = (a, b) :: l.zip r) ∧
  (∀ n, 0 + n = n) ∧
  (∀ n, n + 0 = n) ∧
  (∀ k n, r_i k n = [.i k n]) ∧
  (∀ x, r_b x = [.b x]) ∧
  (∀ x, r_s x = [.s x]) ∧
  (∀ {α : Type} (e : Nat) (g : α → List PV) (l : List α), JiD e g l = [.sl e (l.map g)]) ∧
  (∀ (a : PV), sub [a] 0 1 = some [a]) ∧
  (∀ (a b : PV), spl [a] 0 [b] = some [b]) ∧
  (∀ {α : Type} (cs : List α), sub cs 0 0 = some []) ∧
  (∀ {α : Type} (a : α) (cs : List α) (n : Nat), sub (a :: cs) 0 (n + 1) = (sub cs 0 n).map (a :: ·)) ∧
  (∀ {α : Type} (a : α) (cs : List α) (n m : Nat), sub (a :: cs) (n + 1) m = sub cs n m) ∧
  (∀ {α : Type} (cs : List α), spl cs 0 [] = some cs) ∧
  (∀ {α : Type} (a b : α) (cs vs : List α), spl (a :: cs) 0 (b :: vs) = (spl cs 0 vs).map (b :: ·)) ∧
  (∀ {α : Type} (a : α) (cs : List α) (n : Nat) (vs : List α), spl (a :: cs) (n + 1) vs = (spl cs n vs).map (a :: ·)) ∧
  (∀ n b off l c cs, stB n b off l (.box (c :: cs)) = if l.length = n then (spl (c :: cs) off l).map fun cs => ⟨J16, [(b, .box cs)]⟩ else none) ∧
  (∀ off size c a cs r, J1f ((off, size, c) :: r) (a :: cs) = if c.length = size then (spl (a :: cs) off c).bind fun cs => J1f r cs else none) ∧
  (∀ {α : Type} (a b : α), (if True then a else b) = a) ∧
  (∀ {α : Type} (a b : α), (if False then a else b) = b) ∧
  (∀ {α : Type} (a b : α), (if true = true then a else b) = a) ∧
  (∀ {α : Type} (a b : α), (if false = true then a else b) = b) ∧
  (∀ a, (True ∧ a) = a) ∧
  (∀ a, (a ∧ True) = a) ∧
  (∀ {α : Type} (a : α), (a = a) = True) ∧
  (∀ {α β : Type} (a : α) (b : β), (a, b).1 = a) ∧
  (∀ {α β : Type} (a : α) (b : β), (a, b).2 = b) :=
  ⟨by intros; rfl,
  by intros; rfl,
  by intros; rfl,
  by intros; rfl,
  by intros; rfl,
  by intros; rfl,
  by intros; rfl,
  by intros; rfl,
  by intros; rfl,
  by intros; rfl,
  rfl,
  by intros; rfl,
  by intros; rfl,
  by intros; rfl,
  by intros; rfl,
  by intros; rfl,
  by intros; rfl,
  by intros; rfl,
  by intros; rfl,
  by intros; rfl,
  by intros; rfl,
  by intros; rfl,
  by intros; rfl,
  by intros; rfl,
  by intros; rfl,
  by intros; rfl,
  by intros; rfl,
  by intros; rfl,
  by intros; rfl,
  by intros; rfl,
  by intros; rfl,
  by intros; rfl,
  by intros; rfl,
  by intros; rfl,
  by intros; rfl,
  by intros; rfl,
  by intros; rfl,
  by intros; rfl,
  by intros; rfl,
  by intros; rfl,
  by intros; rfl,
  by intros; rfl,
  by intros; rfl,
  by intros; rfl,
  by intros; rfl,
  by intros; rfl,
  by intros; rfl,
  by intros; rfl,
  by intros; rfl,
  by intros; rfl,
  by intros; rfl,
  by intros; rfl,
  by intros; rfl,
  by intros; rfl,
  by intros; rfl,
  by intros; rfl,
  by intros; rfl,
  rfl,
  by intros; rfl,
  by intro k x y; simp only [J0L, if_true, J6U, Option.map_some]; try rfl,
  by intro k x y; simp only [J0L, if_true, J6U, Option.map_some]; try rfl,
  by intro k x y; simp only [J0L, if_true, J6U, Option.map_some]; try rfl,
  by intro k x y; simp only [J0L, if_true, J6U, Option.map_some]; try rfl,
  by intro k x y; simp only [J0L, if_true, J6U, Option.map_some]; try rfl,
  by intro k x y; simp only [J0L, if_true, J6U, Option.map_some]; try rfl,
  by intro k x y; simp only [J0L, if_true, J6U, Option.map_some]; try rfl,
  by intro k x y; simp only [J0L, if_true, J6U, Option.map_some]; try rfl,
  by intro k x y; simp only [J0L, if_true, J6U, Option.map_some]; try rfl,
  by intro k x y; simp only [J0L, if_true, J6U, Option.map_some]; try rfl,
  by intro k x y; simp only [J0L, if_true, J6U, Option.map_some]; try rfl,
  by intro k x y; simp only [J0L, if_true, J6U, Option.map_some]; try rfl,
  by intro k x y; simp only [J0L, if_true, J6U, Jtj]; split <;> rfl,
  by intro k x y; simp only [J0L, if_true, J6U, Jcb]; split <;> rfl,
  by intro k k2 x y; simp only [J0L, Jbh, Jc6]; split <;> rfl,
  by intro k k2 x y; simp only [J0L, Jbh, J8p]; split <;> rfl,
  by intro x y; simp only [J0L, JlA, J37]; split <;> rfl,
  by intro x y; rfl,
  by intro x y; rfl,
  by intro x y; rfl,
  by intro x y; rfl,
  by intro x y; rfl,
  by intro x y; rfl,
  by intros; rfl,
  by intros; rfl,
  by intro ks a c; simp only [J0L, J7o]; cases J13 ks a c <;> rfl,
  by intro ks a c; simp only [J0L, J7o]; cases J13 ks a c <;> rfl,
  by intros; rfl,
  by intros; rfl,
  by intros; rfl,
  by intros; rfl,
  by intros; rfl,
  rfl,
  rfl,
  by intros; rfl,
  by intros; rfl,
  by intros; rfl,
  by intros; rfl,
  by intros; rfl,
  by intro g off n cs; simp only [J4K]; cases sub cs off n <;> rfl,
  by intro g off n c cs; simp only [J4K]; cases sub (c :: cs) off n <;> rfl,
  by intros; rfl,
  by intros; rfl,
  by intro cs; exact Jgo cs,
  by intro c cs; simp only [J1E, if_true]; cases unp (c :: cs) <;> rfl,
  by intros; rfl,
  by intros; rfl,
  by intros; rfl,
  by intros; rfl,
  rfl,
  by intro c r; simp only [unp]; cases unp r <;> rfl,
  by intros; rfl,
  by intros; rfl,
  by intros; rfl,
  by intros; rfl,
  by intros; rfl,
  by intros; rfl,
  by intros; rfl,
  by intros; rfl,
  by intro α β g l; simp,
  by intros; rfl,
  by intros; rfl,
  by intros; rfl,
  by intro env sto g n cs off; exact Jrw ..,
  by intro env sto g n b off; exact Jsv ..,
  by intro env sto g n b e i off; exact Jsw ..,
  by intro g n off cs; exact JtK ..,
  by intros; rfl,
  by intros; rfl,
  by intro env sto n b off v; exact Jrc ..,
  by intro n b off cs vs; exact JqX ..,
  by intro b off cs v; exact JtT ..,
  by intro env sto n b e i off v; exact Jr6 ..,
  by intro n b e i off z c rows s; exact JtN ..,
  by intro n b e i off z cs rows s; exact Ju1 ..,
  by intros; rfl,
  by intros; rfl,
  by intros; rfl,
  by intros; rfl,
  by intros; rfl,
  by intros; rfl,
  by intros; rfl,
  by intro n cs; exact JsQ ..,
  by intros; rfl,
  by intros; rfl,
  by intro env sto e rows k n; exact JqV ..,
  by intro env sto e b m k n; exact Jpr ..,
  by intro e b m n w rows; exact Js4 ..,
  by intros; rfl,
  by intros; rfl,
  by intros; rfl,
  by intro l k n; exact JsC ..,
  by intros; rfl,
  by intro g n e cs k i; exact JsS ..,
  by intros; rfl,
  by intros; rfl,
  @Juj,
  by intro env sto b n new; exact Jpv ..,
  @JtJ,
  by intro env sto l new; exact Jqe ..,
  by intro env sto l new; exact JoH ..,
  by intros; rfl,
  by intro env sto off size x r; exact JsK ..,
  by intros; rfl,
  by intro off size vs cs r; exact JkP ..,
  by intro off v cs r; exact JpM ..,
  by intros; rfl,
  by intro env sto x r; exact JsY ..,
  by intros; rfl,
  by intros; rfl,
  by intros; rfl,
  by intros; rfl,
  by intro env sto m; cases m <;> rfl,
  by intro env sto l; rw [JjP],
  by intro env sto x m r; exact JrX ..,
  by intro env sto x m r; exact Jsk ..,
  by intros; rfl,
  by intro env sto c r; exact Jco _ _ rfl ..,
  by intro env sto c r; exact Jco _ _ rfl ..,
  by intro env sto b o r; exact Jco _ _ rfl ..,
  by intro env sto c o r; exact Jco _ _ rfl ..,
  by intro env sto b x i o r; exact Jco _ _ rfl ..,
  by intro env sto b n r; exact Jql ..,
  by intro env sto cs r; exact Jq6 ..,
  @fr,
  by intros; rfl,
  by intro env sto c r; exact JpL ..,
  by intro env sto b n r; exact Jqh ..,
  by intros; rfl,
  by intro env sto f a c r; exact Jco _ _ rfl ..,
  by intro m ids sto f a c; exact JrP ..,
  by intros; rfl,
  by intros; rfl,
  by intros; rfl,
  by intro env sto b c x ws; exact Jrh ..,
  by intros; rfl,
  by intro b c x r; exact JsB ..,
  by intros; rfl,
  by intros; rfl,
  by intros; rfl,
  by intros; rfl,
  by intro env sto b; exact Jtx ..,
  by intro env sto e rows; exact Jph ..,
  by intro env sto l; exact JqE ..,
  by intro env sto e b n; exact JqJ ..,
  by intro e n w rows; exact JpE ..,
  by intro env sto o e n new z ps; exact Jth ..,
  by intros; rfl,
  by intro env sto x r; exact JtC ..,
  by intros; rfl,
  by intros; rfl,
  by intros; rfl,
  by intro env sto b n; exact Jp8 ..,
  by intros; rfl,
  by intros; rfl,
  @mk,
  by intros; rfl,
  by intros; rfl,
  by intro env sto s c lo hi; exact Jpp ..,
  by intro env sto s b n lo hi; exact Jpw ..,
  by intros; rfl,
  by intros; rfl,
  @cl,
  by intros; rfl,
  by intro m k sto x r; exact JsP ..,
  by intros; rfl,
  by intro m ids sto x r; exact Jty ..,
  by intros; rfl,
  by intros; rfl,
  by intro m ids sto cs; exact Jrg ..,
  by intro m ids sto l; exact Jjs m ids sto l,
  by intros; rfl,
  by intro m ids sto x r; exact JsF ..,
  by intros; rfl,
  by intros; rfl,
  by intros; rfl,
  by intros; rfl,
  by intros; rfl,
  by intro m ids sto b n; exact JrJ ..,
  by intros; rfl,
  by intros; rfl,
  by intro m ids sto cs; exact Js9 ..,
  by intro m ids sto x cs; exact JrH ..,
  by intros; rfl,
  by intros; rfl,
  by intros; rfl,
  by intros; rfl,
  by intros; rfl,
  by intro env sto t r; exact JqG ..,
  by intro env sto t n g r; exact Jqa ..,
  by intros; rfl,
  rfl,
  by intros; rfl,
  by intros; rfl,
  by intro m b sto r; exact JsX ..,
  by intro m b sto r; exact Jrv ..,
  by intros; rfl,
  by intros; rfl,
  by intros; rfl,
  by intros; rfl,
  by intros; rfl,
  by intro sto b r acc; exact Jto ..,
  by intros; rfl,
  by intros; rfl,
  by intros; rfl,
  by intros; rfl,
  by intro cs l; exact Jp0 cs l,
  by intros; rfl,
  by intros; rfl,
  by intros; rfl,
  by intros; rfl,
  by intros; rfl,
  by intros; rfl,
  by intros; rfl,
  by intros; rfl,
  by intro b c r; exact Jsx ..,
  rfl,
  by intros; rfl,
  by intros; rfl,
  by intro sto b r; exact Jti ..,
  by intros; rfl,
  by intros; rfl,
  by intros; rfl,
  by intros; rfl,
  by intros; rfl,
  @JsW,
  @JsL,
  @Jts,
  by intros; rfl,
  by intros; rfl,
  @JsT,
  @JsA,
  @Jt7,
  @Jtf,
  by intros; rfl,
  by intros; rfl,
  by intros; rfl,
  by intros; rfl,
  by intro n; exact Nat.zero_add n,
  by intros; rfl,
  @JsM,
  @JtD,
  @Jr0,
  @JsE,
  @s1,
  by intros; rfl,
  by intro α cs; rw [J5s]; simp,
  by intro α a cs n; exact Jq2 ..,
  by intro α a cs n m; exact JqT ..,
  by intro α cs; rw [J6c]; simp,
  by intro α a b cs vs; exact JqC ..,
  by intro α a cs n vs; exact Jqy ..,
  by intros; rfl,
  by intro off size c a cs r; exact JpV ..,
  by intros; rfl,
  by intros; rfl,
  by intros; rfl,
  by intros; rfl,
  by intro a; simp,
  by intro a; simp,
  by intro α a; simp,
  by intros; rfl,
  by intros; rfl⟩
set_option maxRecDepth 30000 in
theorem Nf : (∀ {α : Type} (l : List α), [] ++ l = l) ∧
  (∀ {α : Type} (l : List α), l ++ [] = l) ∧
  (∀ {α : Type} (a : α) (l r : List α), (a :: l) ++ r = a :: (l ++ r)) ∧
  (∀ {α β : Type} (g : α → β), List.map g [] = []) ∧
  (∀ {α β : Type} (g : α → β) (a : α) (l : List α), List.map g (a :: l) = g a :: List.map g l) ∧
  (∀ {α : Type}, ([] : List α).length = 0) ∧
  (∀ {α : Type} (a : α) (l : List α), (a :: l).length = l.length + 1) ∧
  (∀ k n, r_i k n = [.i k n]) ∧
  (∀ x, r_b x = [.b x]) ∧
  (∀ x, r_s x = [.s x]) ∧
  (∀ {α : Type} (e : Nat) (g : α → List PV) (l : List α), JiD e g l = [.sl e (l.map g)]) :=
  ⟨@JsW,
  @JsL,
  @Jts,
  @JsT,
  @JsA,
  @Jt7,
  @Jtf,
  @JsM,
  @JtD,
  @Jr0,
  @JsE⟩
set_option maxRecDepth 30000 in
theorem Ra : (∀ F new env sto g n x, rdO F (.load g n x) new ⟨env, sto⟩ = rb (evv x env) fun a => Jm ((J1Y g n a).reads ⟨env, sto⟩)) ∧
  (∀ s g n b o, Jm ((J1Y g n (.ptr b o)).reads s) = [b]) ∧
  (∀ s g n o cs, Jm ((J1Y g n (.cp cs o)).reads s) = []) ∧
  (∀ s g n b e i o, Jm ((J1Y g n (.ep b e i o)).reads s) = [b]) ∧
  (∀ F new s z, rdO F (.newbox z) new s = [new]) ∧
  (∀ F new env sto n x y, rdO F (.store n x y) new ⟨env, sto⟩ = rb (evv x env) fun a => rb (evv y env) fun c => Jm ((J1C n a c).reads ⟨env, sto⟩)) ∧
  (∀ s n b o v, Jm ((J1C n (.ptr b o) v).reads s) = [b]) ∧
  (∀ s n b e i o c, Jm ((J1C n (.ep b e i o) (.p c)).reads s) = [b]) ∧
  (∀ s n b e i o c, Jm ((J1C n (.ep b e i o) (.data c)).reads s) = [b]) ∧
  (∀ F new env sto g args, rdO F (.call g args 0) new ⟨env, sto⟩ = rb ((evs args).run ⟨env, sto⟩) fun a => Jm ((JL a).reads ⟨env, sto⟩) ++ rb ((JL a).run ⟨env, sto⟩) fun a => Jm ((Jx F g a 0 new).reads ⟨env, sto⟩)) ∧
  (∀ F new env sto g args, rdO F (.call g args 1) new ⟨env, sto⟩ = new :: rb (is1 sto[new]?) fun _ => rb ((evs args).run ⟨env, sto⟩) fun a => Jm ((JL a).reads ⟨env, sto⟩) ++ rb ((JL a).run ⟨env, sto⟩) fun a => Jm ((Jx F g a 1 new).reads ⟨env, sto⟩)) ∧
  (is1 (some .dead) = some ()) ∧
  (∀ {α β : Type} (a : α) (f : α → List β), rb (some a) f = f a) ∧
  (∀ F new env sto g args, rdO F (.callv g args 0) new ⟨env, sto⟩ = rb (evv g env) fun u => cvl u fun h a1 c1 => rb ((evs args).run ⟨env, sto⟩) fun a => Jm ((JL (a1 ++ a ++ c1)).reads ⟨env, sto⟩) ++ rb ((JL (a1 ++ a ++ c1)).run ⟨env, sto⟩) fun a => Jm ((Jx F h a 0 new).reads ⟨env, sto⟩)) ∧
  (∀ {α : Type} (f : FuncId) (a c : List AV) (k : FuncId → List AV → List AV → List α), cvl (.fn f a c) k = k f a c) ∧
  (∀ s, Jm ((JL []).reads s) = []) ∧
  (∀ s c r, Jm ((JL (.p c :: r)).reads s) = Jm ((JL r).reads s)) ∧
  (∀ s c r, Jm ((JL (.data c :: r)).reads s) = Jm ((JL r).reads s)) ∧
  (∀ s b o r, Jm ((JL (.ptr b o :: r)).reads s) = Jm ((JL r).reads s)) ∧
  (∀ s c o r, Jm ((JL (.cp c o :: r)).reads s) = Jm ((JL r).reads s)) ∧
  (∀ s b x i o r, Jm ((JL (.ep b x i o :: r)).reads s) = Jm ((JL r).reads s)) ∧
  (∀ s b n r, Jm ((JL (.slr b 0 n :: r)).reads s) = b :: rb ((J6z (.slr b 0 n)).run s) fun _ => Jm ((JL r).reads s)) ∧
  (∀ F new s e n z ps, rdO F (.lits false e n z ps) new s = Jm ((fzs (ps.map (·.2))).reads s)) ∧
  (∀ F new env sto e n z ps, rdO F (.lits true e n z ps) new ⟨env, sto⟩ = new :: rb (is1 sto[new]?) fun _ => Jm ((fzs (ps.map (·.2))).reads ⟨env, sto⟩)) ∧
  (∀ s, Jm ((fzs []).reads s) = []) ∧
  (∀ env sto x r, Jm ((fzs (x :: r)).reads ⟨env, sto⟩) = rb (evv x env) fun v => Jm ((fz v).reads ⟨env, sto⟩) ++ rb ((fz v).run ⟨env, sto⟩) fun _ => Jm ((fzs r).reads ⟨env, sto⟩)) ∧
  (∀ s c, Jm ((fz (.p c)).reads s) = []) ∧
  (∀ s c, Jm ((fz (.data c)).reads s) = []) ∧
  (∀ s b n, Jm ((fz (.slr b 0 n)).reads s) = [b]) ∧
  (∀ F new env sto x, rdO F (.conv .toStr x) new ⟨env, sto⟩ = rb (evv x env) fun a => Jm ((J0q 1 a).reads ⟨env, sto⟩)) ∧
  (∀ s e b n, Jm ((J0q e (.slr b 0 n)).reads s) = [b]) ∧
  (∀ s e z rows, Jm ((J0q e (.p (.sl z rows))).reads s) = []) ∧
  (∀ F new env sto e x i, rdO F (.iaddr e x i) new ⟨env, sto⟩ = rb (evv x env) fun a => rb (evv i env) fun c => Jm ((J2A e a c).reads ⟨env, sto⟩)) ∧
  (∀ s e b n k i, Jm ((J2A e (.slr b 0 n) (.p (.i k i))).reads s) = [b]) ∧
  (∀ s e z rows k i, Jm ((J2A e (.p (.sl z rows)) (.p (.i k i))).reads s) = []) ∧
  (∀ a b c d, pkk (some (a, b)) (some (c, d)) = (J4M b c && J4M b d && J4M a d)) ∧
  (∀ b, J4M [] b = true) ∧
  (∀ x a b, J4M (x :: a) b = (!(b.contains x) && J4M a b)) ∧
  (∀ x, ([] : List Nat).contains x = false) ∧
  (∀ (x y : Nat) (l : List Nat), (y :: l).contains x = (x == y || l.contains x)) ∧
  (∀ a, (true && a) = a) ∧
  (∀ a, (false && a) = false) ∧
  (∀ a, (true || a) = true) ∧
  (∀ a, (false || a) = a) :=
  ⟨by intro F new env sto g n x; exact Js6 ..,
  by intro s g n b o; exact JrU ..,
  by intro s g n o cs; exact Jtn ..,
  by intro s g n b e i o; exact Jtl ..,
  by intro F new s z; exact JoR ..,
  by intro F new env sto n x y; exact JqP ..,
  by intro s n b o v; exact Jsi ..,
  by intro s n b e i o c; exact JqS ..,
  by intro s n b e i o c; exact JpR ..,
  by intro F new env sto g args; exact Jq3 ..,
  by intro F new env sto g args; exact JpB ..,
  rfl,
  by intros; rfl,
  by intro F new env sto g args; exact Jol ..,
  by intros; rfl,
  by intros; rfl,
  by intro s c r; exact Jbb s rfl r,
  by intro s c r; exact Jbb s rfl r,
  by intro s b o r; exact Jbb s rfl r,
  by intro s c o r; exact Jbb s rfl r,
  by intro s b x i o r; exact Jbb s rfl r,
  by intro s b n r; exact Jrd ..,
  by intro F new s e n z ps; exact JpX ..,
  by intro F new env sto e n z ps; exact Jq1 ..,
  by intros; rfl,
  by intro env sto x r; exact JsR ..,
  by intros; rfl,
  by intros; rfl,
  by intro s b n; exact JeE ..,
  by intro F new env sto x; exact Jpz ..,
  by intro s e b n; exact Jop ..,
  by intro s e z rows; exact Jq4 ..,
  by intro F new env sto e x i; exact Jqm ..,
  by intro s e b n k i; exact Jox ..,
  by intro s e z rows k i; exact Jqi ..,
  by intros; rfl,
  by intros; rfl,
  by intro x a b; simp [J4M],
  by intros; rfl,
  by intro x y l; rw [List.contains_cons],
  by intro a; simp,
  by intro a; simp,
  by intro a; simp,
  by intro a; simp⟩
end Go.Am
end
