/-
  Parts of a proof: AmEv.
-/
import Derived.Test.YtiallbcnaadmoaaM5
set_option linter.unusedSimpArgs false
set_option linter.unusedVariables false
section
namespace Go.Am
@[congr] theorem Jq3 {T : J3n} {f : AFn} {m : Nat} {k : List Fr} {o o' : Option Out} (h : o = o') : rk T f m k o = rk T f m k o' := by rw [h]
def tdn (e : AX) (o : Option St) : Option Out := match o with
  | some s => some (e, s)
  | none => none
def Jj5 (fresh : Bool) (m : Nat) (vs : List AV) (sto : List Blk) (ids : List Nat) : Option Res :=
  if J2P ids = true then (fin.finL m ids sto vs).bind fun ws => (J27 m ids sto (sto.take m)).bind fun l => (J4H sto ids).bind fun q => (J27 m ids sto q).bind fun q => some (one ws, l ++ q) else none
def Jdi (res : List J8I) (fresh : Bool) (m : Nat) (s : St) : Option Res :=
  ((J3O res).run s).bind fun vs => if s.sto.length = m then some (one vs, s.sto) else Jj5 fresh m vs s.sto (J0M m fresh s.sto (J5g s.sto (JL.entsOfL vs []) (JL.entsOfL vs [])))
theorem Jcx (res : List J8I) (fresh : Bool) (m : Nat) (s : St) : J2N ⟨0, 0, .skip, res, fresh⟩ m s = Jdi res fresh m s := by
  unfold J2N Jdi
  dsimp only
  cases (J3O res).run s with
  | none => rfl
  | some vs =>
    simp only [Option.bind_some]
    split
    · rfl
    · unfold Jj5
      split
      · generalize J0M m fresh s.sto _ = ids
        cases fin.finL m ids s.sto vs <;> cases J27 m ids s.sto (s.sto.take m) <;> cases J4H s.sto ids <;> try rfl
        rename_i q
        simp only [Option.bind_some]
        cases J27 m ids s.sto q <;> rfl
      · rfl
theorem Jnd (T : J3n) (f : AFn) (m : Nat) (s : St) : rk T f m [] (some (.normal, s)) = Jdi f.res f.fresh m s := (JkU T f m s).trans (Jcx ..)
theorem Jmb (T : J3n) (f : AFn) (m : Nat) (s : St) : rk T f m [] (some (.ret, s)) = Jdi f.res f.fresh m s := (Jlr T f m s).trans (Jcx ..)
def dds {α : Type} (n new : Nat) (sto : List Blk) (o : Option α) : Option α := match (J4v new n).run ⟨[], sto⟩ with
  | some _ => o
  | none => none
def dd1 {α : Type} (b : Option Blk) (o : Option α) : Option α := match b with
  | some .dead => o
  | _ => none
@[congr] theorem JpG {α : Type} {b b' : Option Blk} {o : Option α} (h : b = b') : dd1 b o = dd1 b' o := by rw [h]
theorem JpW {α : Type} (new : Nat) (sto : List Blk) (o : Option α) : dds 1 new sto o = dd1 sto[new]? o := by
  unfold dds dd1
  simp only [J4v, RM.run]
  cases sto[new]? with
  | none => rfl
  | some b => cases b <;> rfl
section
variable {F : Orc} {r : List J0A} {new d : Nat} {env : List (Nat × AV)} {sto : List Blk}
theorem JgM (n : Nat) : ∀ new, (J4v new n).run ⟨env, sto⟩ = (J4v new n).run ⟨[], sto⟩ := by
  induction n with
  | zero => intro new; rfl
  | succ n ih =>
    intro new
    simp only [J4v, RM.run]
    cases sto[new]? with
    | none => rfl
    | some b => cases b <;> first | exact ih _ | rfl
def lgA (l : Option Log) (a b : List Nat) : Option Log := l.map (· ++ [(a, b)])
def rdO (F : Orc) (op : AOp) (new : Nat) (s : St) : List Nat := Jd ((opD F op new).reads s)
abbrev GR := Option (St × Option Log)
def Jl (F : Orc) : List J0A → Nat → St → Option Log → GR
  | [], _, s, l => some (s, l)
  | i :: r, new, s, l => match (J15 F i new).run s with
    | some e => Jl F r (new + Jy i.op) (put i.dst e s) (lgA l (Jd ((J15 F i new).reads s)) (e.ws.map (·.1)))
    | none => none
theorem Jkm (F : Orc) (ins : List J0A) : ∀ new s, Jl F ins new s none = (J1F F ins new s).map fun s => (s, none) := by
  induction ins with
  | nil => intro new s; rfl
  | cons i r ih =>
    intro new s
    simp only [Jl, J1F]
    cases (J15 F i new).run s with
    | none => rfl
    | some e => exact ih _ _
theorem JlB (F : Orc) (ins : List J0A) : ∀ new s l, Jl F ins new s (some l) = (J36 F ins new s l).map fun x => (x.1, some x.2) := by
  induction ins with
  | nil => intro new s l; rfl
  | cons i r ih =>
    intro new s l
    simp only [Jl, J36]
    cases (J15 F i new).run s with
    | none => rfl
    | some e => exact ih _ _ _
def JkN (o : GR) : Option Out := match o with
  | some (s, _) => some (.normal, s)
  | none => none
def JiQ (ps : List (Nat × Nat)) (o : GR) : Option Out := match o with
  | some (s, some l) => if J6j l ps = true then some (.normal, s) else none
  | _ => none
theorem Jnq (T : J3n) (f : AFn) (m : Nat) (k : List Fr) (d ins env sto) : rk T f m k (X T (.reg d [] ins) ⟨env, sto⟩) = rk T f m k (JkN (Jl (AF T) ins sto.length ⟨env, room (news ins) sto⟩ none)) := by
  rw [Jp5, Jkm]
  cases J1F (AF T) ins sto.length ⟨env, room (news ins) sto⟩ <;> rfl
theorem JmN (T : J3n) (f : AFn) (m : Nat) (k : List Fr) (d p ps ins env sto) : rk T f m k (X T (.reg d (p :: ps) ins) ⟨env, sto⟩) = rk T f m k (JiQ (p :: ps) (Jl (AF T) ins sto.length ⟨env, room (news ins) sto⟩ (some []))) := by
  rw [Jmv, JlB]
  simp only [region]
  cases J36 (AF T) ins sto.length ⟨env, room (news ins) sto⟩ [] with
  | none => rfl
  | some x =>
    obtain ⟨s, l⟩ := x
    simp only [Option.map_some, JiQ]
    split <;> rfl
theorem stD {lg : Option Log} (op : AOp) : Jl F (⟨op, some d, none⟩ :: r) new ⟨env, sto⟩ lg = dds (Jy op) new sto (((opR F op new).run ⟨env, sto⟩).bind fun e => Jl F r (new + Jy op) ⟨(d, e.val) :: env, upd e.ws sto⟩ (lgA lg (rdO F op new ⟨env, sto⟩) (e.ws.map (·.1)))) := by
  have e0 : (J15 F ⟨op, some d, none⟩ new).run ⟨env, sto⟩ = dds (Jy op) new sto ((opR F op new).run ⟨env, sto⟩) := by
    simp only [J15, opD, run_bind, JgM (env := env)]
    unfold dds
    cases (J4v new (Jy op)).run ⟨[], sto⟩ <;> rfl
  simp only [Jl, e0]
  unfold dds
  cases (J4v new (Jy op)).run ⟨[], sto⟩ with
  | none => rfl
  | some u => simp only []; cases (opR F op new).run ⟨env, sto⟩ <;> rfl
theorem Jgm {lg : Option Log} (op : AOp) : Jl F (⟨op, none, none⟩ :: r) new ⟨env, sto⟩ lg = dds (Jy op) new sto (((opR F op new).run ⟨env, sto⟩).bind fun e => Jl F r (new + Jy op) ⟨env, upd e.ws sto⟩ (lgA lg (rdO F op new ⟨env, sto⟩) (e.ws.map (·.1)))) := by
  have e0 : (J15 F ⟨op, none, none⟩ new).run ⟨env, sto⟩ = dds (Jy op) new sto ((opR F op new).run ⟨env, sto⟩) := by
    simp only [J15, opD, run_bind, JgM (env := env)]
    unfold dds
    cases (J4v new (Jy op)).run ⟨[], sto⟩ <;> rfl
  simp only [Jl, e0]
  unfold dds
  cases (J4v new (Jy op)).run ⟨[], sto⟩ with
  | none => rfl
  | some u => simp only []; cases (opR F op new).run ⟨env, sto⟩ <;> rfl
theorem st0 {lg : Option Log} {op : AOp} (h : Jy op = 0) : Jl F (⟨op, some d, none⟩ :: r) new ⟨env, sto⟩ lg = ((opR F op new).run ⟨env, sto⟩).bind fun e => Jl F r new ⟨(d, e.val) :: env, upd e.ws sto⟩ (lgA lg (rdO F op new ⟨env, sto⟩) (e.ws.map (·.1))) := by
  rw [stD, h]; rfl
theorem JpZ {lg : Option Log} {op : AOp} (h : Jy op = 0) : Jl F (⟨op, none, none⟩ :: r) new ⟨env, sto⟩ lg = ((opR F op new).run ⟨env, sto⟩).bind fun e => Jl F r new ⟨env, upd e.ws sto⟩ (lgA lg (rdO F op new ⟨env, sto⟩) (e.ws.map (·.1))) := by
  rw [Jgm, h]; rfl
def pk (u : AV) (a b : Option AV) : Option AV := match u with
  | .p (.b x) => if x = true then a else b
  | _ => none
@[congr] theorem JpJ {α : Type} {n n' new new' : Nat} {sto : List Blk} {o : Option α} (h : n = n') (h' : new = new') : dds n new sto o = dds n' new' sto o := by rw [h, h']
theorem J0Z {α : Type} (n new : Nat) (sto : List Blk) : dds n new sto (none : Option α) = none := by
  unfold dds; split <;> rfl
theorem JlZ {α β : Type} (n new : Nat) (sto : List Blk) (o : Option α) (g : α → Option β) : dds n new sto (o.bind g) = o.bind fun a => dds n new sto (g a) := by
  cases o with
  | none => exact J0Z ..
  | some a => rfl
theorem Jp2 {β : Type} {K : Eff → Option β} {o : Option AV} : ((o.bind fun v => some ⟨v, []⟩).bind K) = o.bind fun v => K ⟨v, []⟩ := by cases o <;> rfl
def pkk (a b : Option (List Nat × List Nat)) : Bool := match a, b with
  | some a, some b => J3x a.2 b.1 && J3x a.2 b.2 && J3x a.1 b.2
  | _, _ => false
theorem bi {α β : Type} {o : Option α} {f : α → Option β} {r : β} (h : Option.bind o f = some r) : ∃ x, o = some x ∧ f x = some r := Option.bind_eq_some_iff.1 h
theorem sj {α : Type} {a b : α} (h : some a = some b) : a = b := Option.some.inj h
theorem mi {α β : Type} {o : Option α} {f : α → β} {r : β} (h : Option.map f o = some r) : ∃ x, o = some x ∧ f x = r := Option.map_eq_some_iff.1 h
inductive Dum {α : Type} : α → Type where
  | mk (a : α) : Dum a
def J5i {α : Type} (a : α) (_ : Dum a) : α := a
def pkh {β : Type} (u : AV) (a b : Option AV) (K : AV → Option β) : Option β := (pk u a b).bind K
theorem Jm7 {β : Type} {K : Eff → Option β} {a b : Opd} {o : Option AV} : ((o.bind fun u => RM.run (match u with
    | .p (.b x) => if x = true then (ev a).bind fun v => .ret ⟨v, []⟩ else (ev b).bind fun v => .ret ⟨v, []⟩
    | _ => .fail) ⟨env, sto⟩).bind K) = o.bind fun u => (pk u (evv a env) (evv b env)).bind fun v => K ⟨v, []⟩ := by
  cases o with
  | none => rfl
  | some u =>
    simp only [Option.bind_some]
    cases u with
    | p c =>
      cases c with
      | b x =>
        cases x with
        | true => simp only [if_true, run_bind, J0g, pk]; cases evv a env <;> rfl
        | false => simp only [Bool.false_eq_true, if_false, run_bind, J0g, pk]; cases evv b env <;> rfl
      | _ => rfl
    | _ => rfl
theorem J9C {β : Type} {K : Eff → Option β} {o : Option AV} (g : AV → Option AV) : ((o.bind fun a => (Go.Am.val (g a)).run ⟨env, sto⟩).bind K) = o.bind fun a => (g a).bind fun v => K ⟨v, []⟩ := by
  cases o with
  | none => rfl
  | some a => simp only [Option.bind_some]; cases g a <;> rfl
theorem Jew {β : Type} {K : Eff → Option β} {o o' : Option AV} (g : AV → AV → Option AV) : ((o.bind fun a => o'.bind fun c => (Go.Am.val (g a c)).run ⟨env, sto⟩).bind K) = o.bind fun a => o'.bind fun c => (g a c).bind fun v => K ⟨v, []⟩ := by
  cases o with
  | none => rfl
  | some a =>
    cases o' with
    | none => rfl
    | some c => simp only [Option.bind_some]; cases g a c <;> rfl
theorem Jgs {β : Type} {o : Option AV} (g : AV → Option Eff) {k : Eff → Option β} : ((o.bind fun a => g a).bind k) = o.bind fun a => (g a).bind k := by
  cases o <;> rfl
theorem JjK {β : Type} {o o' : Option AV} {e b : Nat} {z : List PV} {s : St} {k : Eff → Option β} : ((o.bind fun a => o'.bind fun c => RM.run (match zrs e z c with
    | some c1 => J5G e b a c1
    | none => .fail) s).bind k) = o.bind fun a => o'.bind fun c => (zrs e z c).bind fun c1 => ((J5G e b a c1).run s).bind k := by
  cases o with
  | none => rfl
  | some a => cases o' with
    | none => rfl
    | some c =>
      simp only [Option.bind_some]
      cases zrs e z c <;> rfl
theorem JcW {β : Type} {o o' : Option AV} (g : AV → AV → Option Eff) {k : Eff → Option β} : ((o.bind fun a => o'.bind fun c => g a c).bind k) = o.bind fun a => o'.bind fun c => (g a c).bind k := by
  cases o <;> cases o' <;> rfl
def Jep (a c : AV) : Option AV := match a, c with
  | .p (.s l), .p (.i _ n) => if 0 ≤ n then
      match l[n.toNat]? with
      | some u => some (.p (.i .u8 u.toNat))
      | none => none
    else none
  | _, _ => none
theorem Jn5 {β : Type} {K : Eff → Option β} {o o' : Option AV} : ((o.bind fun a => o'.bind fun c => RM.run (match a, c with
    | .p (.s l), .p (.i _ n) => if 0 ≤ n then
        match l[n.toNat]? with
        | some u => .ret ⟨.p (.i .u8 u.toNat), []⟩
        | none => .fail
      else .fail
    | _, _ => .fail) ⟨env, sto⟩).bind K) = o.bind fun a => o'.bind fun c => (Jep a c).bind fun v => K ⟨v, []⟩ := by
  cases o with
  | none => rfl
  | some a =>
    cases o' with
    | none => rfl
    | some c =>
      simp only [Option.bind_some, Jep]
      split
      · split
        · split <;> rfl
        · rfl
      · rfl
theorem JoT (l : List UInt8) (k : IntKind) (n : Int) : Jep (.p (.s l)) (.p (.i k n)) = (JeL l n).map fun v => .p (.i .u8 v) := by
  simp only [Jep, JeL]
  by_cases h : 0 ≤ n
  · simp only [if_pos h]; cases l[n.toNat]? <;> rfl
  · simp only [if_neg h]; rfl
def Jdh (g : Bool) (n e : Nat) (a c : AV) : Option AV := match c with
  | .p (.i _ i) => if 0 ≤ i ∧ i < n then J3s g (i.toNat * e) e a else none
  | _ => none
theorem Jnr {β : Type} {K : Eff → Option β} {g : Bool} {n e : Nat} {o o' : Option AV} : ((o.bind fun a => o'.bind fun c => RM.run (match c with
    | .p (.i _ i) => if 0 ≤ i ∧ i < n then Go.Am.val (J3s g (i.toNat * e) e a) else .fail
    | _ => .fail) ⟨env, sto⟩).bind K) = o.bind fun a => o'.bind fun c => (Jdh g n e a c).bind fun v => K ⟨v, []⟩ := by
  cases o with
  | none => rfl
  | some a =>
    cases o' with
    | none => rfl
    | some c =>
      simp only [Option.bind_some, Jdh]
      split
      · split
        · cases J3s g _ e a <;> rfl
        · rfl
      · rfl
theorem Jp3 (g : Bool) (n e : Nat) (cs : List PV) (k : IntKind) (i : Int) : Jdh g n e (.data cs) (.p (.i k i)) = if 0 ≤ i ∧ i < n then (sub cs (i.toNat * e) e).bind (J1a g) else none := by
  simp only [Jdh, J3s]
  split
  · cases sub cs (i.toNat * e) e <;> rfl
  · rfl
def JhA : AV → Option AV
  | .ptr b o => some (.ptr b o)
  | .cp cs o => some (.cp cs o)
  | .ep b e i o => some (.ep b e i o)
  | .fn f u c => some (.fn f u c)
  | _ => none
theorem JmE {β : Type} {K : Eff → Option β} {o : Option AV} : ((o.bind fun a => RM.run (match a with
    | .ptr b o => .ret ⟨.ptr b o, []⟩
    | .cp cs o => .ret ⟨.cp cs o, []⟩
    | .ep b e i o => .ret ⟨.ep b e i o, []⟩
    | .fn f u c => .ret ⟨.fn f u c, []⟩
    | _ => .fail) ⟨env, sto⟩).bind K) = o.bind fun a => (JhA a).bind fun v => K ⟨v, []⟩ := by
  cases o with
  | none => rfl
  | some a => cases a <;> rfl
def cvR (k : CK) (a : AV) (new : Nat) : RM Eff := match k, a with
  | .int k, .p (.i _ n) => .ret ⟨.p (.i k (k.wrap n)), []⟩
  | .same, .p (.s l) => .ret ⟨.p (.s l), []⟩
  | .toStr, a => (JU 1 a).bind fun rows => match J3J rows with
    | some l => .ret ⟨.p (.s l), []⟩
    | none => .fail
  | .toBytes own, .p (.s l) => if own then .ret ⟨.slr new 0 l.length, [(new, .arr true 1 (l.map J2A))]⟩ else .ret ⟨.p (.sl 1 (l.map J2A)), []⟩
  | _, _ => .fail
theorem JlX {lg : Option Log} {c : CK} {x : Opd} : Jl F (⟨.conv c x, some d, none⟩ :: r) new ⟨env, sto⟩ lg = (evv x env).bind fun a => dds (Jy (.conv c x)) new sto (((cvR c a new).run ⟨env, sto⟩).bind fun e => Jl F r (new + Jy (.conv c x)) ⟨(d, e.val) :: env, upd e.ws sto⟩ (lgA lg (rdO F (.conv c x) new ⟨env, sto⟩) (e.ws.map (·.1)))) := by
  rw [stD]
  have : (opR F (.conv c x) new).run ⟨env, sto⟩ = (evv x env).bind fun a => (cvR c a new).run ⟨env, sto⟩ := by
    simp only [opR, run_bind, J0g]; rfl
  rw [this, Jgs (fun a => (cvR c a new).run ⟨env, sto⟩), JlZ]
theorem Jka {lg : Option Log} {z : List PV} {ps : List (Nat × Nat × Opd)} : Jl F (⟨.build z ps, some d, none⟩ :: r) new ⟨env, sto⟩ lg = ((J1y ps).run ⟨env, sto⟩).bind fun l => (J0I l (z.map .p)).bind fun cs => (J12 true cs).bind fun v => Jl F r new ⟨(d, v) :: env, sto⟩ (lgA lg (rdO F (.build z ps) new ⟨env, sto⟩) []) := by
  rw [st0 (h := rfl)]
  simp only [opR, run_bind]
  cases (J1y ps).run ⟨env, sto⟩ with
  | none => rfl
  | some l =>
    simp only [Option.bind_some]
    cases J0I l (z.map .p) with
    | none => rfl
    | some cs => simp only [Option.bind_some]; cases J12 true cs <;> rfl
def J6C (x : Option Opd) (env : List (Nat × AV)) : Option (Option AV) := match x with
  | none => some none
  | some x => (evv x env).map some
theorem JmZ (x : Option Opd) : (evo x).run ⟨env, sto⟩ = J6C x env := by
  cases x with
  | none => rfl
  | some x => simp only [evo, run_bind, J0g, J6C]; cases evv x env <;> rfl
def slR (s : SK) (a : AV) (lo hi mx : Option AV) : RM Eff := match a with
  | .slr b i n => (fz (.slr b i n)).bind fun y => match y.1 with
    | [c] => match J35 s (.p c) lo hi mx with
      | some v => .ret ⟨v, y.2⟩
      | none => .fail
    | _ => .fail
  | a => Go.Am.val (J35 s a lo hi mx)
theorem JjZ {lg : Option Log} {s : SK} {x : Opd} {lo hi mx : Option Opd} : Jl F (⟨.slice s x lo hi mx, some d, none⟩ :: r) new ⟨env, sto⟩ lg = (evv x env).bind fun a => (J6C lo env).bind fun lo1 => (J6C hi env).bind fun hi1 => (J6C mx env).bind fun mx1 => ((slR s a lo1 hi1 mx1).run ⟨env, sto⟩).bind fun e => Jl F r new ⟨(d, e.val) :: env, upd e.ws sto⟩ (lgA lg (rdO F (.slice s x lo hi mx) new ⟨env, sto⟩) (e.ws.map (·.1))) := by
  rw [st0 (h := rfl)]
  have : (opR F (.slice s x lo hi mx) new).run ⟨env, sto⟩ = (evv x env).bind fun a => (J6C lo env).bind fun lo => (J6C hi env).bind fun hi => (J6C mx env).bind fun mx => (slR s a lo hi mx).run ⟨env, sto⟩ := by
    simp only [opR, run_bind, J0g, JmZ]; rfl
  rw [this]
  cases evv x env with
  | none => rfl
  | some a =>
    cases J6C lo env with
    | none => rfl
    | some lo =>
      cases J6C hi env with
      | none => rfl
      | some hi => cases J6C mx env <;> rfl
def slX (s : SK) (x : AV) (lo hi : Option AV) : Option AV := J35 s x lo hi none
theorem JiX {lg : Option Log} {z : List PV} : Jl F (⟨.newbox z, some d, none⟩ :: r) new ⟨env, sto⟩ lg = dds 1 new sto (Jl F r (new + 1) ⟨(d, .ptr new 0) :: env, sto.set new (.box (z.map .p))⟩ (lgA lg (rdO F (.newbox z) new ⟨env, sto⟩) [new])) := by
  rw [stD]; rfl
def JcU (e b : Nat) (a : AV) (add : List (List PV)) : Option (List (List PV)) := match a with
  | .p (.slc e' rows) => if e = e' ∧ 0 < add.length ∧ J5L (rows.length + add.length) b = true then some (rows ++ add) else none
  | _ => none
theorem JlM {lg : Option Log} {e b : Nat} {z : List PV} {x y : Opd} : Jl F (⟨.appc e b z x y, some d, none⟩ :: r) new ⟨env, sto⟩ lg = (evv x env).bind fun a => (evv y env).bind fun c => ((JU e c).run ⟨env, sto⟩).bind fun add => (JcU e b a add).bind fun rows => dds 1 new sto (Jl F r (new + 1) ⟨(d, .slr new 0 rows.length) :: env, sto.set new (.arr true e rows)⟩ (lgA lg (rdO F (.appc e b z x y) new ⟨env, sto⟩) [new])) := by
  rw [stD]
  simp only [opR, run_bind, J0g, Jy]
  cases evv x env with
  | none => exact J0Z ..
  | some a =>
    simp only [Option.bind_some]
    cases evv y env with
    | none => exact J0Z ..
    | some c =>
      simp only [Option.bind_some]
      cases hq : (JU e c).run ⟨env, sto⟩ with
      | none =>
        have : (Jdm e b a c new).run ⟨env, sto⟩ = none := by
          unfold Jdm; split
          · simp only [run_bind, hq]; rfl
          · rfl
        rw [this]; exact J0Z ..
      | some add =>
        simp only [Option.bind_some]
        have : (Jdm e b a c new).run ⟨env, sto⟩ = (JcU e b a add).map fun rows => ⟨.slr new 0 rows.length, [(new, .arr true e rows)]⟩ := by
          cases a with
          | p q => cases q with
            | slc e' rows =>
              simp only [Jdm, JcU, run_bind, hq, Option.bind_some]
              split
              · simp [J0O]
              · rfl
            | _ => rfl
          | _ => rfl
        rw [this]
        cases JcU e b a add with
        | none => exact J0Z ..
        | some rows => rfl
theorem JnG {α : Type} (r : α → List PV) {e b : Nat} {l l' m : List α} (h : JcJ b l l' = some m) : JcU e b (.p (.slc e (l.map r))) (l'.map r) = some (m.map r) := by
  unfold JcJ at h
  split at h
  · rename_i hc
    injection h with h; subst h
    show (if e = e ∧ 0 < (l'.map r).length ∧ J5L ((l.map r).length + (l'.map r).length) b = true then some (l.map r ++ l'.map r) else none) = _
    rw [if_pos ⟨rfl, by simpa using hc.1, by rw [List.length_map, List.length_map]; exact hc.2⟩, List.map_append]
  · cases h
theorem Jnw {α : Type} (r : α → List PV) {e : Nat} (l : List α) (env : List (Nat × AV)) (sto : List Blk) : (slR (.sl e) (.p (.sl e (l.map r))) none (some (.p (.i .i64 ((l.length : Nat) : Int)))) (some (.p (.i .i64 ((l.length : Nat) : Int))))).run ⟨env, sto⟩ = some ⟨.p (.slc e (l.map r)), []⟩ := by
  simp [slR, J35, Jgc, Go.Am.val, RM.run]
theorem Jlb {lg : Option Log} {e b : Nat} {z : List PV} {y : Opd} : Jl F (⟨.appn e b z y, some d, none⟩ :: r) new ⟨env, sto⟩ lg = (evv y env).bind fun c => ((JU e c).run ⟨env, sto⟩).bind fun rows => if J5L rows.length b = true then dds 1 new sto (Jl F r (new + 1) ⟨(d, .slr new 0 rows.length) :: env, sto.set new (.arr true e rows)⟩ (lgA lg (rdO F (.appn e b z y) new ⟨env, sto⟩) [new])) else none := by
  rw [stD]
  simp only [opR, run_bind, J0g, Jy]
  cases evv y env with
  | none => exact J0Z ..
  | some c =>
    simp only [Option.bind_some]
    cases (JU e c).run ⟨env, sto⟩ with
    | none => exact J0Z ..
    | some rows =>
      simp only [Option.bind_some]
      split
      · rfl
      · exact J0Z ..
theorem Jke {lg : Option Log} {e : Nat} {x : Opd} : Jl F (⟨.mkarr e x, some d, none⟩ :: r) new ⟨env, sto⟩ lg = dds 1 new sto (Jl F r (new + 1) ⟨(d, .slr new 0 0) :: env, sto.set new (.arr true e [])⟩ (lgA lg (rdO F (.mkarr e x) new ⟨env, sto⟩) [new])) := by
  rw [stD]; rfl
def bxP (n : Nat) (a : AV) : Option (List AV) := match cellsOf a with
  | some cs => if cs.length = n then some cs else none
  | none => none
theorem Jnz {lg : Option Log} {n : Nat} {x : Opd} : Jl F (⟨.box n x, some d, none⟩ :: r) new ⟨env, sto⟩ lg = (evv x env).bind fun a => (bxP n a).bind fun cs => dds 1 new sto (Jl F r (new + 1) ⟨(d, .ptr new 0) :: env, sto.set new (.box cs)⟩ (lgA lg (rdO F (.box n x) new ⟨env, sto⟩) [new])) := by
  rw [stD]
  simp only [opR, run_bind, J0g, Jy]
  cases evv x env with
  | none => exact J0Z ..
  | some a =>
    simp only [Option.bind_some, bxP]
    cases cellsOf a with
    | none => exact J0Z ..
    | some cs =>
      dsimp only
      split
      · rfl
      · exact J0Z ..
def ltR (o : Bool) (e n : Nat) (z : List PV) (ps : List (Nat × Opd)) (new : Nat) : RM Eff := (fzs (ps.map (·.2))).bind fun a =>
    match J2h e ((ps.map (·.1)).zip a.1) (List.replicate n z) with
    | some rows => if o then .ret ⟨.slr new 0 n, a.2 ++ [(new, .arr true e rows)]⟩ else .ret ⟨.p (.sl e rows), a.2⟩
    | none => .fail
theorem JlJ {lg : Option Log} {o : Bool} {e n : Nat} {z : List PV} {ps : List (Nat × Opd)} : Jl F (⟨.lits o e n z ps, some d, none⟩ :: r) new ⟨env, sto⟩ lg = dds (if o then 1 else 0) new sto (((ltR o e n z ps new).run ⟨env, sto⟩).bind fun x => Jl F r (new + if o then 1 else 0) ⟨(d, x.val) :: env, upd x.ws sto⟩ (lgA lg (rdO F (.lits o e n z ps) new ⟨env, sto⟩) (x.ws.map (·.1)))) := by
  rw [stD]; rfl
theorem Jog (env : List (Nat × AV)) (sto : List Blk) (o : Bool) (e n new : Nat) (z : List PV) (ps : List (Nat × Opd)) : (ltR o e n z ps new).run ⟨env, sto⟩ = ((fzs (ps.map (·.2))).run ⟨env, sto⟩).bind fun a => (J2h e ((ps.map (·.1)).zip a.1) (List.replicate n z)).map fun rows => if o then ⟨.slr new 0 n, a.2 ++ [(new, .arr true e rows)]⟩ else ⟨.p (.sl e rows), a.2⟩ := by
  simp only [ltR, run_bind]
  cases (fzs (ps.map (·.2))).run ⟨env, sto⟩ with
  | none => rfl
  | some a =>
    simp only [Option.bind_some]
    cases J2h e ((ps.map (·.1)).zip a.1) (List.replicate n z) with
    | none => rfl
    | some rows => cases o <;> rfl
def mkP (o : Bool) (e b : Nat) (z : List PV) (a c : AV) (new : Nat) : Option Eff := match a, c with
  | .p (.i _ n), .p (.i _ m) =>
    if 0 ≤ n ∧ n ≤ m ∧ b * m ≤ 281474976710656 ∧ m ≤ 281474976710656 then
      some (if o then ⟨.slr new 0 n.toNat, [(new, .arr true e (List.replicate n.toNat z))]⟩ else ⟨.p (.sl e (List.replicate n.toNat z)), []⟩)
    else none
  | _, _ => none
theorem JoQ (o : Bool) (e b : Nat) (z : List PV) (a c : AV) (new : Nat) (s : St) : RM.run (match a, c with
    | .p (.i _ n), .p (.i _ m) =>
      if 0 ≤ n ∧ n ≤ m ∧ b * m ≤ 281474976710656 ∧ m ≤ 281474976710656 then
        if o then .ret ⟨.slr new 0 n.toNat, [(new, .arr true e (List.replicate n.toNat z))]⟩
        else .ret ⟨.p (.sl e (List.replicate n.toNat z)), []⟩
      else .fail
    | _, _ => .fail) s = mkP o e b z a c new := by
  unfold mkP
  split
  · rename_i k n k2 m
    by_cases h : 0 ≤ n ∧ n ≤ m ∧ b * m ≤ 281474976710656 ∧ m ≤ 281474976710656
    · simp only [if_pos h]; cases o <;> rfl
    · simp only [if_neg h]; rfl
  · rfl
theorem Ji2 {lg : Option Log} {o : Bool} {e b : Nat} {z : List PV} {l c : Opd} : Jl F (⟨.mkslice o e b z l c, some d, none⟩ :: r) new ⟨env, sto⟩ lg = (evv l env).bind fun a => (evv c env).bind fun x => dds (if o then 1 else 0) new sto ((mkP o e b z a x new).bind fun x => Jl F r (new + if o then 1 else 0) ⟨(d, x.val) :: env, upd x.ws sto⟩ (lgA lg (rdO F (.mkslice o e b z l c) new ⟨env, sto⟩) (x.ws.map (·.1)))) := by
  rw [stD]
  simp only [opR, run_bind, J0g, Jy]
  cases evv l env with
  | none => exact J0Z ..
  | some a =>
    cases evv c env with
    | none => exact J0Z ..
    | some x =>
      simp only [Option.bind_some]
      exact congrArg (fun y => dds (if o then 1 else 0) new sto (y.bind fun x => Jl F r (new + if o then 1 else 0) ⟨(d, x.val) :: env, upd x.ws sto⟩ (lgA lg (rdO F (.mkslice o e b z l c) new ⟨env, sto⟩) (x.ws.map (·.1))))) (JoQ o e b z a x new ⟨env, sto⟩)
theorem Je9 {F : Orc} {f : FuncId} {args args' : List AV} {b e : Nat} {rows rows' : List (List PV)} {w w' : Bool} {v v' : AV} (he : JL.entsOfL args [] = [.whole b]) (hr : ren.renL (fun x => J25 x [Ent.whole b] 0) args = some args')
    (hF : F f args' [.arr w e rows] = some (v, [.arr w' e rows'])) (hb : ∀ new, bk [.whole b] new v = some v') (ws : List (Nat × Blk)) (new : Nat) (s : St) (hB : (J5J ws b).run s = some (.arr w e rows)) :
    (J1P F f (args, ws) 0 new).run s = some ⟨v', ws ++ [(b, .arr w' e rows')]⟩ := by
  have e2 : (J5B ws [.whole b] [.whole b]).run s = some [.whole b] := by
    simp only [J5B, run_bind, hB, Option.bind_some, J0O]
  have e3 : (J3r ws (fun x => J25 x [Ent.whole b] 0) [Ent.whole b]).run s = some [.arr w e rows] := by
    simp only [J3r, run_bind, Ja4, hB, Option.bind_some, J0O]
  have n1 : J2P ([Ent.whole b].map Ent.id) = true := rfl
  simp only [J1P, run_bind, he, e2, Option.bind_some, n1, if_true, hr, e3, hF]
  simp [hb, J2B, J2Y, J8D, J0O, run_bind]
def JgW (b : Nat) (B : Option Blk) (l : List Nat) : List Nat := match B with
  | some (.box _) => b :: l
  | some (.arr _ _ _) => b :: l
  | _ => l
theorem JmD (m b : Nat) (sto : List Blk) (r : List Ent) : J0M m true sto (.whole b :: r) = if b < m then J0M m true sto r else JgW b sto[b]? (J0M m true sto r) := by
  simp only [J0M, JgW]
  split
  · rfl
  · split <;> simp_all
theorem Jq0 {α : Type} (n new : Nat) (sto : List Blk) (o : Option α) : dds (n + 1) new sto o = dd1 sto[new]? (dds n (new + 1) sto o) := by
  unfold dds dd1
  simp only [J4v, RM.run]
  cases sto[new]? with
  | none => rfl
  | some b => cases b <;> rfl
theorem JhW {lg : Option Log} {z : List PV} {os : List (Nat × Nat)} : Jl F (⟨.newboxo z os, some d, none⟩ :: r) new ⟨env, sto⟩ lg =
    dds (os.length + 1) new sto (Jl F r (new + (os.length + 1)) ⟨(d, .ptr (new + os.length) 0) :: env, upd (J1U os new ++ [(new + os.length, .box (J4Q os new (z.map .p)))]) sto⟩
      (lgA lg (rdO F (.newboxo z os) new ⟨env, sto⟩) ((J1U os new ++ [(new + os.length, Blk.box (J4Q os new (z.map .p)))]).map (·.1)))) := by
  rw [stD]; rfl
theorem Jj6 {lg : Option Log} {e : Nat} {x : Opd} : Jl F (⟨.storen e x, none, none⟩ :: r) new ⟨env, sto⟩ lg =
    (evv x env).bind fun a => dds 1 new sto (((J0X 1 a (.slr new 0 0)).run ⟨env, sto⟩).bind fun q => Jl F r (new + 1) ⟨env, upd ((new, .arr true e []) :: q.ws) sto⟩ (lgA lg (rdO F (.storen e x) new ⟨env, sto⟩) (new :: q.ws.map (·.1)))) := by
  rw [Jgm]
  simp only [opR, run_bind, J0g, Jy]
  cases evv x env with
  | none => exact J0Z ..
  | some a => simp only [Option.bind_some]; cases (J0X 1 a (.slr new 0 0)).run ⟨env, sto⟩ <;> rfl
theorem Jjz {lg : Option Log} {z : List PV} {ps : List (Nat × Nat × Opd)} {os : List (Nat × Nat)} : Jl F (⟨.buildo z ps os, some d, none⟩ :: r) new ⟨env, sto⟩ lg =
    ((J1y ps).run ⟨env, sto⟩).bind fun l => (J0I l (J4Q os new (z.map .p))).bind fun cs => (J12 true cs).bind fun v =>
      dds os.length new sto (Jl F r (new + os.length) ⟨(d, v) :: env, upd (J1U os new) sto⟩ (lgA lg (rdO F (.buildo z ps os) new ⟨env, sto⟩) ((J1U os new).map (·.1)))) := by
  rw [stD]
  simp only [opR, run_bind, Jy]
  cases (J1y ps).run ⟨env, sto⟩ with
  | none => exact J0Z ..
  | some l =>
    simp only [Option.bind_some]
    cases J0I l (J4Q os new (z.map .p)) with
    | none => exact J0Z ..
    | some cs =>
      simp only [Option.bind_some]
      cases J12 true cs with
      | none => exact J0Z ..
      | some v => rfl
theorem JkA {lg : Option Log} {g : FuncId} {kp : List Bool} {args : List Opd} {n : Nat} : Jl F (⟨.callo g kp args n, some d, none⟩ :: r) new ⟨env, sto⟩ lg = dds n new sto (((evs args).run ⟨env, sto⟩).bind fun a => ((J1p kp a).run ⟨env, sto⟩).bind fun a => ((J1P F g a n new).run ⟨env, sto⟩).bind fun e => Jl F r (new + n) ⟨(d, e.val) :: env, upd e.ws sto⟩ (lgA lg (rdO F (.callo g kp args n) new ⟨env, sto⟩) (e.ws.map (·.1)))) := by
  rw [stD]
  simp only [opR, run_bind, Jy]
  cases (evs args).run ⟨env, sto⟩ with
  | none => rfl
  | some a => simp only [Option.bind_some]; cases (J1p kp a).run ⟨env, sto⟩ <;> rfl
theorem Jja {lg : Option Log} {g : FuncId} {kp : List Bool} {args : List Opd} {n : Nat} : Jl F (⟨.callo g kp args n, none, none⟩ :: r) new ⟨env, sto⟩ lg = dds n new sto (((evs args).run ⟨env, sto⟩).bind fun a => ((J1p kp a).run ⟨env, sto⟩).bind fun a => ((J1P F g a n new).run ⟨env, sto⟩).bind fun e => Jl F r (new + n) ⟨env, upd e.ws sto⟩ (lgA lg (rdO F (.callo g kp args n) new ⟨env, sto⟩) (e.ws.map (·.1)))) := by
  rw [Jgm]
  simp only [opR, run_bind, Jy]
  cases (evs args).run ⟨env, sto⟩ with
  | none => rfl
  | some a => simp only [Option.bind_some]; cases (J1p kp a).run ⟨env, sto⟩ <;> rfl
theorem JfE : ∀ l : List AV, J1p [] l = Ju l
  | [] => rfl
  | x :: r => by simp only [J1p, Ju, JfE r]
theorem JnQ (x : AV) (m : List Bool) (r : List AV) : (J1p (false :: m) (x :: r)).run ⟨env, sto⟩ = ((Ju [x]).run ⟨env, sto⟩).bind fun a => ((J1p m r).run ⟨env, sto⟩).bind fun c => some (a.1 ++ c.1, a.2 ++ c.2) := by
  simp only [J1p, Ju, run_bind]
  cases (J5h x).run ⟨env, sto⟩ with
  | none => rfl
  | some a => simp only [Option.bind_some, RM.run]; cases (J1p m r).run ⟨env, sto⟩ <;> simp
theorem JnK (x : AV) (m : List Bool) (r : List AV) : (J1p (true :: m) (x :: r)).run ⟨env, sto⟩ = ((J1p m r).run ⟨env, sto⟩).bind fun c => some (x :: c.1, c.2) := by
  simp only [J1p, run_bind]
  cases (J1p m r).run ⟨env, sto⟩ <;> rfl
theorem Jmp {lg : Option Log} {g : FuncId} {args : List Opd} {n : Nat} : Jl F (⟨.call g args n, some d, none⟩ :: r) new ⟨env, sto⟩ lg = dds n new sto (((evs args).run ⟨env, sto⟩).bind fun a => ((Ju a).run ⟨env, sto⟩).bind fun a => ((Jr F g a n new).run ⟨env, sto⟩).bind fun e => Jl F r (new + n) ⟨(d, e.val) :: env, upd e.ws sto⟩ (lgA lg (rdO F (.call g args n) new ⟨env, sto⟩) (e.ws.map (·.1)))) := by
  rw [stD]
  simp only [opR, run_bind, Jy, J8p]
  cases (evs args).run ⟨env, sto⟩ with
  | none => rfl
  | some a => simp only [Option.bind_some]; cases (Ju a).run ⟨env, sto⟩ <;> rfl
theorem JkD {lg : Option Log} {g : FuncId} {args : List Opd} {n : Nat} : Jl F (⟨.call g args n, none, none⟩ :: r) new ⟨env, sto⟩ lg = dds n new sto (((evs args).run ⟨env, sto⟩).bind fun a => ((Ju a).run ⟨env, sto⟩).bind fun a => ((Jr F g a n new).run ⟨env, sto⟩).bind fun e => Jl F r (new + n) ⟨env, upd e.ws sto⟩ (lgA lg (rdO F (.call g args n) new ⟨env, sto⟩) (e.ws.map (·.1)))) := by
  rw [Jgm]
  simp only [opR, run_bind, Jy, J8p]
  cases (evs args).run ⟨env, sto⟩ with
  | none => rfl
  | some a => simp only [Option.bind_some]; cases (Ju a).run ⟨env, sto⟩ <;> rfl
def cvg {α : Type} (u : AV) (k : FuncId → List AV → List AV → Option α) : Option α := match u with
  | .fn f a c => k f a c
  | _ => none
theorem JlO {lg : Option Log} {g : FuncId} {a c : List Opd} : Jl F (⟨.mkfn g a c, some d, none⟩ :: r) new ⟨env, sto⟩ lg = ((evs a).run ⟨env, sto⟩).bind fun a1 => ((evs c).run ⟨env, sto⟩).bind fun c1 => Jl F r new ⟨(d, .fn g a1 c1) :: env, sto⟩ (lgA lg (rdO F (.mkfn g a c) new ⟨env, sto⟩) []) := by
  rw [st0 (h := rfl)]
  simp only [opR, run_bind]
  cases (evs a).run ⟨env, sto⟩ with
  | none => rfl
  | some a1 => simp only [Option.bind_some]; cases (evs c).run ⟨env, sto⟩ <;> rfl
theorem Jkx {lg : Option Log} {g : Opd} {args : List Opd} {n : Nat} : Jl F (⟨.callv g args n, some d, none⟩ :: r) new ⟨env, sto⟩ lg = (evv g env).bind fun u => cvg u fun h a1 c1 => dds n new sto (((evs args).run ⟨env, sto⟩).bind fun a => ((Ju (a1 ++ a ++ c1)).run ⟨env, sto⟩).bind fun a => ((Jr F h a n new).run ⟨env, sto⟩).bind fun q => Jl F r (new + n) ⟨(d, q.val) :: env, upd q.ws sto⟩ (lgA lg (rdO F (.callv g args n) new ⟨env, sto⟩) (q.ws.map (·.1)))) := by
  rw [stD]
  simp only [opR, run_bind, J0g, Jy]
  cases evv g env with
  | none => exact J0Z ..
  | some u =>
    simp only [Option.bind_some]
    cases u with
    | fn h a1 c1 =>
      simp only [cvg, run_bind, J8p]
      cases (evs args).run ⟨env, sto⟩ with
      | none => rfl
      | some a => simp only [Option.bind_some]; cases (Ju (a1 ++ a ++ c1)).run ⟨env, sto⟩ <;> rfl
    | _ => exact J0Z ..
theorem Jjg {lg : Option Log} {g : Opd} {args : List Opd} {n : Nat} : Jl F (⟨.callv g args n, none, none⟩ :: r) new ⟨env, sto⟩ lg = (evv g env).bind fun u => cvg u fun h a1 c1 => dds n new sto (((evs args).run ⟨env, sto⟩).bind fun a => ((Ju (a1 ++ a ++ c1)).run ⟨env, sto⟩).bind fun a => ((Jr F h a n new).run ⟨env, sto⟩).bind fun q => Jl F r (new + n) ⟨env, upd q.ws sto⟩ (lgA lg (rdO F (.callv g args n) new ⟨env, sto⟩) (q.ws.map (·.1)))) := by
  rw [Jgm]
  simp only [opR, run_bind, J0g, Jy]
  cases evv g env with
  | none => exact J0Z ..
  | some u =>
    simp only [Option.bind_some]
    cases u with
    | fn h a1 c1 =>
      simp only [cvg, run_bind, J8p]
      cases (evs args).run ⟨env, sto⟩ with
      | none => rfl
      | some a => simp only [Option.bind_some]; cases (Ju (a1 ++ a ++ c1)).run ⟨env, sto⟩ <;> rfl
    | _ => exact J0Z ..
def grd {α : Type} (x : Option AV) (w : Bool) (a b : Option α) : Option α := match x with
  | some (.p (.b x)) => if x = w then a else b
  | some (.tup []) => b
  | _ => none
end
@[congr] theorem JpK {α : Type} {x x' : Option AV} {w : Bool} {a b : Option α} (h : x = x') : grd x w a b = grd x' w a b := by rw [h]
theorem Jnt (F : Orc) (r : List J0A) (new : Nat) (env : List (Nat × AV)) (sto : List Blk) (lg : Option Log) (op : AOp) (d : Option Nat) (g : Nat) (w : Bool) :
    Jl F (⟨op, d, some (g, w)⟩ :: r) new ⟨env, sto⟩ lg = grd (lk g env) w (Jl F (⟨op, d, none⟩ :: r) new ⟨env, sto⟩ lg) (Jl F r (new + Jy op) (put d ⟨J0D, []⟩ ⟨env, sto⟩) (lgA lg [] [])) := by
  simp only [Jl, J15, RM.run, RM.reads]
  cases lk g env with
  | none => rfl
  | some v =>
    dsimp only
    cases v with
    | p c =>
      cases c with
      | b x =>
        simp only [grd]
        by_cases h : x = w
        · subst h; simp only [if_true]; rfl
        · simp only [if_neg h]; rfl
      | _ => rfl
    | tup l => cases l <;> rfl
    | _ => rfl
def JiM (k : Nat) (v : Option AV) (l : List (Nat × AV)) : List (Nat × AV) := match v with
  | some v => (k, v) :: l
  | none => l
def Jgy (cs : List AV) (l : Option (List PV)) : AV := match l with
  | some l => .data l
  | none => .agg cs
def ldB (g : Bool) (n off : Nat) (B : Blk) : Option Eff := match B with
  | .box cs => (sub cs off n).bind fun l => (J12 g l).map fun v => ⟨v, []⟩
  | _ => none
def ldE (g : Bool) (n e i off : Nat) (B : Blk) : Option Eff := match B with
  | .arr _ _ rows => if e = rows.length then rows[i]?.bind fun row => (sub row off n).bind fun l => (J1a g l).map fun v => ⟨v, []⟩ else none
  | _ => none
theorem Jn8 (env : List (Nat × AV)) (sto : List Blk) (g : Bool) (n : Nat) (cs : List PV) (off : Nat) : (J1d g n (.cp cs off)).run ⟨env, sto⟩ = (sub cs off n).bind fun l => (J1a g l).map fun v => ⟨v, []⟩ := by
  simp only [J1d]
  cases sub cs off n with
  | none => rfl
  | some l => simp only [Option.bind_some]; cases J1a g l <;> rfl
theorem JnO (env : List (Nat × AV)) (sto : List Blk) (g : Bool) (n b off : Nat) : (J1d g n (.ptr b off)).run ⟨env, sto⟩ = sto[b]?.bind fun B => ldB g n off B := by
  simp only [J1d, J41]
  cases sto[b]? with
  | none => rfl
  | some B =>
    cases B with
    | box cs =>
      simp only [Option.bind_some, ldB]
      cases sub cs off n with
      | none => rfl
      | some l => simp only [Option.bind_some]; cases J12 g l <;> rfl
    | _ => rfl
theorem Jpz (g : Bool) (n off : Nat) (cs : List PV) : ldB g n off (.box (cs.map AV.p)) = (sub cs off n).bind fun l => (J1a g l).map fun v => ⟨v, []⟩ := by
  simp only [ldB, JkM]
  cases sub cs off n with
  | none => rfl
  | some l =>
    simp only [Option.map_some, Option.bind_some]
    cases g with
    | true => rw [JcA]; rfl
    | false => match l with
      | [] => rfl
      | [_] => rfl
      | _ :: _ :: _ => rfl
theorem JnX (env : List (Nat × AV)) (sto : List Blk) (g : Bool) (n b e i off : Nat) : (J1d g n (.ep b e i off)).run ⟨env, sto⟩ = sto[b]?.bind fun B => ldE g n e i off B := by
  simp only [J1d, J41]
  cases sto[b]? with
  | none => rfl
  | some B =>
    cases B with
    | arr w z rows =>
      simp only [Option.bind_some, ldE]
      split
      · cases rows[i]? with
        | none => rfl
        | some row =>
          simp only [Option.bind_some]
          cases sub row off n with
          | none => rfl
          | some l => simp only [Option.bind_some]; cases J1a g l <;> rfl
      · rfl
    | _ => rfl
def stB (n b off : Nat) (l : List AV) (B : Blk) : Option Eff := match B with
  | .box cs => if l.length = n then (spl cs off l).map fun cs => ⟨J0D, [(b, .box cs)]⟩ else none
  | _ => none
theorem JnC (env : List (Nat × AV)) (sto : List Blk) (n b off : Nat) (v : AV) : (J0X n (.ptr b off) v).run ⟨env, sto⟩ = sto[b]?.bind fun B => (cellsOf v).bind fun l => stB n b off l B := by
  simp only [J0X, J41]
  cases sto[b]? with
  | none => rfl
  | some B =>
    simp only [Option.bind_some]
    cases B with
    | box cs =>
      dsimp only
      cases cellsOf v with
      | none => rfl
      | some l =>
        simp only [Option.bind_some, stB]
        split
        · cases spl cs off l <;> rfl
        · rfl
    | dead => cases cellsOf v <;> rfl
    | arr w z rows => cases cellsOf v <;> rfl
theorem Jmw (n b off : Nat) (cs vs : List PV) : stB n b off (vs.map AV.p) (.box (cs.map AV.p)) = if vs.length = n then (spl cs off vs).map fun cs => ⟨J0D, [(b, .box (cs.map AV.p))]⟩ else none := by
  simp only [stB, List.length_map, JgU]
  split
  · cases spl cs off vs <;> rfl
  · rfl
theorem Jpi (b off : Nat) (cs : List PV) (v : PV) : stB 1 b off [AV.p v] (.box (cs.map AV.p)) = (spl cs off [v]).map fun cs => ⟨J0D, [(b, .box (cs.map AV.p))]⟩ := by
  have := Jmw 1 b off cs [v]
  simpa using this
def stE (n b e i off : Nat) (v : AV) (B : Blk) (s : St) : Option Eff := match B with
  | .arr true z rows => if e = rows.length then
      match rows[i]? with
      | some row => ((fz v).run s).bind fun a =>
        if a.1.length = n ∧ (a.2.all fun y => y.1 != b) = true then
          match spl row off a.1 with
          | some row' => some ⟨J0D, a.2 ++ [(b, .arr true z (rows.set i row'))]⟩
          | none => none
        else none
      | none => none
    else none
  | _ => none
theorem Jo1 (env : List (Nat × AV)) (sto : List Blk) (n b e i off : Nat) (v : AV) : (J0X n (.ep b e i off) v).run ⟨env, sto⟩ = sto[b]?.bind fun B => stE n b e i off v B ⟨env, sto⟩ := by
  simp only [J0X, J41]
  cases sto[b]? with
  | none => rfl
  | some B =>
    simp only [Option.bind_some]
    cases B with
    | arr w z rows =>
      cases w with
      | false => rfl
      | true =>
        simp only [stE]
        split
        · cases rows[i]? with
          | none => rfl
          | some row =>
            simp only [run_bind]
            cases (fz v).run ⟨env, sto⟩ with
            | none => rfl
            | some a =>
              simp only [Option.bind_some]
              split
              · cases spl row off a.1 <;> rfl
              · rfl
        · rfl
    | _ => rfl
theorem JpA (n b e i off z : Nat) (c : PV) (rows : List (List PV)) (s : St) : stE n b e i off (.p c) (.arr true z rows) s = if e = rows.length then rows[i]?.bind fun row => if 1 = n then (spl row off [c]).map fun row => ⟨J0D, [(b, .arr true z (rows.set i row))]⟩ else none else none := by
  simp only [stE, fz, J0O, Option.bind_some]
  split
  · cases rows[i]? with
    | none => rfl
    | some row =>
      simp only [Option.bind_some, List.length_cons, List.length_nil, List.all_nil, and_true]
      simp only [Nat.zero_add]
      split
      · cases spl row off [c] <;> rfl
      · rfl
  · rfl
theorem Jpv (n b e i off z : Nat) (cs : List PV) (rows : List (List PV)) (s : St) : stE n b e i off (.data cs) (.arr true z rows) s = if e = rows.length then rows[i]?.bind fun row => if cs.length = n then (spl row off cs).map fun row => ⟨J0D, [(b, .arr true z (rows.set i row))]⟩ else none else none := by
  simp only [stE, fz, J0O, Option.bind_some]
  split
  · cases rows[i]? with
    | none => rfl
    | some row =>
      simp only [Option.bind_some, List.all_nil, and_true]
      split
      · cases spl row off cs <;> rfl
      · rfl
  · rfl
theorem JoP (n : Nat) (cs : List PV) : bxP n (.data cs) = if cs.length = n then some (cs.map AV.p) else none := by simp [bxP, cellsOf]
theorem Jlu (env : List (Nat × AV)) (sto : List Blk) (e : Nat) (rows : List (List PV)) (k : IntKind) (n : Int) : (J1O e (.p (.sl e rows)) (.p (.i k n))).run ⟨env, sto⟩ = (J8k rows n).map fun row => ⟨.cp row 0, []⟩ := by
  simp only [J1O, if_true]
  cases J8k rows n <;> rfl
def iaB (e b m : Nat) (n : Int) (B : Blk) : Option Eff := match B with
  | .arr _ esz' rows => if e = esz' ∧ 0 + m = rows.length ∧ 0 ≤ n ∧ n < m then some ⟨.ep b rows.length (0 + n.toNat) 0, []⟩ else none
  | _ => none
theorem JkY (env : List (Nat × AV)) (sto : List Blk) (e b m : Nat) (k : IntKind) (n : Int) : (J1O e (.slr b 0 m) (.p (.i k n))).run ⟨env, sto⟩ = sto[b]?.bind fun B => iaB e b m n B := by
  simp only [J1O, J41]
  cases sto[b]? with
  | none => rfl
  | some B =>
    cases B with
    | arr w z rows => simp only [Option.bind_some, iaB]; split <;> rfl
    | _ => rfl
theorem Jn9 (e b m : Nat) (n : Int) (w : Bool) (rows : List (List PV)) : iaB e b m n (.arr w e rows) = if m = rows.length ∧ 0 ≤ n ∧ n < m then some ⟨.ep b rows.length n.toNat 0, []⟩ else none := by
  simp [iaB]
theorem JlP (env : List (Nat × AV)) (sto : List Blk) (l : List Int) (new : Nat) : (cvR .toStr (.p (.sl 1 (l.map (r_i .u8)))) new).run ⟨env, sto⟩ = some ⟨.p (.s (toStr l)), []⟩ := by
  simp only [cvR, JU, if_true, run_bind, J0O, Option.bind_some, Ja1]
def cvB (n : Nat) (B : Blk) : Option Eff := match B with
  | .arr _ z rows => if 1 = z ∧ 0 + n = rows.length then
      match J3J (rows.drop 0) with
      | some l => some ⟨.p (.s l), []⟩
      | none => none
    else none
  | _ => none
theorem Jls (env : List (Nat × AV)) (sto : List Blk) (b n new : Nat) : (cvR .toStr (.slr b 0 n) new).run ⟨env, sto⟩ = sto[b]?.bind fun B => cvB n B := by
  simp only [cvR, JU, run_bind, J41]
  cases sto[b]? with
  | none => rfl
  | some B =>
    cases B with
    | arr w z rows =>
      simp only [Option.bind_some, cvB]
      split
      · simp only [J0O, Option.bind_some]; cases J3J (rows.drop 0) <;> rfl
      · rfl
    | _ => rfl
theorem Jny (n : Nat) (w : Bool) (l : List Int) : cvB n (.arr w 1 (l.map (r_i .u8))) = if n = l.length then some ⟨.p (.s (toStr l)), []⟩ else none := by
  simp only [cvB, List.drop_zero, Ja1, List.length_map, Nat.zero_add, true_and]
theorem Jlm (env : List (Nat × AV)) (sto : List Blk) (l : List UInt8) (new : Nat) : (cvR (.toBytes false) (.p (.s l)) new).run ⟨env, sto⟩ = some ⟨.p (.sl 1 ((J6X l).map (r_i .u8))), []⟩ := by
  simp [cvR, Jdl]
theorem JkB (env : List (Nat × AV)) (sto : List Blk) (l : List UInt8) (new : Nat) : (cvR (.toBytes true) (.p (.s l)) new).run ⟨env, sto⟩ = some ⟨.slr new 0 (J6X l).length, [(new, .arr true 1 ((J6X l).map (r_i .u8)))]⟩ := by
  have : (J6X l).length = l.length := by simp [J6X]
  simp [cvR, Jdl, this]
theorem Joj (env : List (Nat × AV)) (sto : List Blk) (off size : Nat) (x : Opd) (r : List (Nat × Nat × Opd)) : (J1y ((off, size, x) :: r)).run ⟨env, sto⟩ = (evv x env).bind fun v => (cellsOf v).bind fun cs => ((J1y r).run ⟨env, sto⟩).bind fun l => some ((off, size, cs) :: l) := by
  simp only [J1y, run_bind, J0g]
  cases evv x env with
  | none => rfl
  | some v =>
    simp only [Option.bind_some]
    cases cellsOf v with
    | none => rfl
    | some cs => simp only [Option.bind_some, run_bind]; cases (J1y r).run ⟨env, sto⟩ <;> rfl
theorem Jgw (off size : Nat) (vs cs : List PV) (r : List (Nat × Nat × List AV)) : J0I ((off, size, vs.map AV.p) :: r) (cs.map AV.p) = if vs.length = size then (spl cs off vs).bind fun cs => J0I r (cs.map AV.p) else none := by
  simp only [J0I, List.length_map, JgU]
  split
  · cases spl cs off vs <;> rfl
  · rfl
theorem Jl3 (off : Nat) (v : PV) (cs : List PV) (r : List (Nat × Nat × List AV)) : J0I ((off, 1, [AV.p v]) :: r) (cs.map AV.p) = (spl cs off [v]).bind fun cs => J0I r (cs.map AV.p) := by
  have := Jgw off 1 [v] cs r
  simpa using this
theorem Jol (env : List (Nat × AV)) (sto : List Blk) (x : Opd) (r : List Opd) : (evs (x :: r)).run ⟨env, sto⟩ = (evv x env).bind fun v => ((evs r).run ⟨env, sto⟩).bind fun vs => some (v :: vs) := by
  simp only [evs, run_bind, J0g]; rfl
theorem J9A (env : List (Nat × AV)) (sto : List Blk) {v : AV} (h : J5h v = .ret (v, [])) (r : List AV) : (Ju (v :: r)).run ⟨env, sto⟩ = ((Ju r).run ⟨env, sto⟩).bind fun a => some (v :: a.1, a.2) := by
  simp only [Ju, h, run_bind, J0O, Option.bind_some, List.nil_append]
def frz (b n : Nat) (B : Blk) : Option (AV × (Nat × Blk)) := match B with
  | .arr _ z rows => if n = rows.length then some (.p (.sl z rows), (b, .arr false z rows)) else none
  | _ => none
def frp (b n : Nat) (B : Blk) : Option (PV × (Nat × Blk)) := match B with
  | .arr _ z rows => if n = rows.length then some (.sl z rows, (b, .arr false z rows)) else none
  | _ => none
theorem Jh6 (env : List (Nat × AV)) (sto : List Blk) (b n : Nat) : (fz (.slr b 0 n)).run ⟨env, sto⟩ = sto[b]?.bind fun B => (frp b n B).bind fun x => some ([x.1], [x.2]) := by
  simp only [fz, J41]
  cases sto[b]? with
  | none => rfl
  | some B =>
    cases B with
    | arr w z rows =>
      simp only [Option.bind_some, frp, Nat.zero_add, List.drop_zero]
      split <;> rfl
    | _ => rfl
theorem JnY (env : List (Nat × AV)) (sto : List Blk) (b n : Nat) : (fz.fz1 (.slr b 0 n)).run ⟨env, sto⟩ = sto[b]?.bind fun B => (frp b n B).bind fun x => some ([x.1], [x.2]) := by
  simp only [fz.fz1, J41]
  cases sto[b]? with
  | none => rfl
  | some B =>
    cases B with
    | arr w z rows =>
      simp only [Option.bind_some, frp, Nat.zero_add, List.drop_zero]
      split <;> rfl
    | _ => rfl
theorem Jlq (env : List (Nat × AV)) (sto : List Blk) (b n : Nat) (r : List AV) : (Ju (.slr b 0 n :: r)).run ⟨env, sto⟩ = sto[b]?.bind fun B => (frz b n B).bind fun x => ((Ju r).run ⟨env, sto⟩).bind fun a => some (x.1 :: a.1, x.2 :: a.2) := by
  simp only [Ju, J5h, run_bind, Jh6]
  cases sto[b]? with
  | none => rfl
  | some B =>
    cases B with
    | arr w z rows =>
      simp only [Option.bind_some, frp, frz]
      split
      · simp only [Option.bind_some, J0O]; cases (Ju r).run ⟨env, sto⟩ <;> rfl
      · rfl
    | _ => rfl
theorem Jlz (env : List (Nat × AV)) (sto : List Blk) (cs : List AV) (r : List AV) : (Ju (.agg cs :: r)).run ⟨env, sto⟩ = ((fz.fzL cs).run ⟨env, sto⟩).bind fun x => ((Ju r).run ⟨env, sto⟩).bind fun a => some (.data x.1 :: a.1, x.2 ++ a.2) := by
  simp only [Ju, J5h, run_bind, fz]
  cases (fz.fzL cs).run ⟨env, sto⟩ with
  | none => rfl
  | some x => simp only [Option.bind_some, J0O]
theorem Jmo (env : List (Nat × AV)) (sto : List Blk) (c : PV) (r : List AV) : (fz.fzL (.p c :: r)).run ⟨env, sto⟩ = ((fz.fzL r).run ⟨env, sto⟩).bind fun a => some (c :: a.1, a.2) := by
  simp only [fz.fzL, fz.fz1, run_bind, J0O, Option.bind_some]; rfl
theorem Jm8 (env : List (Nat × AV)) (sto : List Blk) (b n : Nat) (r : List AV) : (fz.fzL (.slr b 0 n :: r)).run ⟨env, sto⟩ = sto[b]?.bind fun B => (frp b n B).bind fun x => ((fz.fzL r).run ⟨env, sto⟩).bind fun a => some (x.1 :: a.1, x.2 :: a.2) := by
  simp only [fz.fzL, run_bind, JnY]
  cases sto[b]? with
  | none => rfl
  | some B =>
    simp only [Option.bind_some]
    cases frp b n B with
    | none => rfl
    | some x => simp only [Option.bind_some]; cases (fz.fzL r).run ⟨env, sto⟩ <;> rfl
theorem Jos (env : List (Nat × AV)) (sto : List Blk) (b : Nat) : (J5J [] b).run ⟨env, sto⟩ = sto[b]? := by
  simp only [J5J, J41]
  cases sto[b]? <;> rfl
theorem Jmm (env : List (Nat × AV)) (sto : List Blk) (e : Nat) (rows : List (List PV)) : (JU e (.p (.sl e rows))).run ⟨env, sto⟩ = some rows := by simp [JU]
theorem JlD (env : List (Nat × AV)) (sto : List Blk) (l : List UInt8) : (JU 1 (.p (.s l))).run ⟨env, sto⟩ = some ((J6X l).map (r_i .u8)) := by simp [JU, Jdl]
def roB (e n : Nat) (B : Blk) : Option (List (List PV)) := match B with
  | .arr _ z rows => if e = z ∧ 0 + n = rows.length then some (rows.drop 0) else none
  | _ => none
theorem Jl1 (env : List (Nat × AV)) (sto : List Blk) (e b n : Nat) : (JU e (.slr b 0 n)).run ⟨env, sto⟩ = sto[b]?.bind fun B => roB e n B := by
  simp only [JU, J41]
  cases sto[b]? with
  | none => rfl
  | some B =>
    cases B with
    | arr w z rows => simp only [Option.bind_some, roB]; split <;> rfl
    | _ => rfl
theorem JlS (e n : Nat) (w : Bool) (rows : List (List PV)) : roB e n (.arr w e rows) = if n = rows.length then some rows else none := by simp [roB]
theorem JoJ (env : List (Nat × AV)) (sto : List Blk) (x : Opd) (r : List Opd) : (fzs (x :: r)).run ⟨env, sto⟩ = (evv x env).bind fun v => ((fz v).run ⟨env, sto⟩).bind fun a => ((fzs r).run ⟨env, sto⟩).bind fun c => some (a.1 :: c.1, a.2 ++ c.2) := by
  simp only [fzs, run_bind, J0g]; rfl
theorem Jk7 (env : List (Nat × AV)) (sto : List Blk) (b n : Nat) : (fz (.slr b 0 n)).run ⟨env, sto⟩ = sto[b]?.bind fun B => (frp b n B).bind fun x => some ([x.1], [x.2]) := Jh6 ..
theorem Jlk (env : List (Nat × AV)) (sto : List Blk) (s : SK) (c : PV) (lo hi : Option AV) : (slR s (.p c) lo hi none).run ⟨env, sto⟩ = (slX s (.p c) lo hi).map fun v => ⟨v, []⟩ := by
  simp only [slR, slX]
  cases J35 s (.p c) lo hi none <;> rfl
theorem JkV (env : List (Nat × AV)) (sto : List Blk) (s : SK) (b n : Nat) (lo hi : Option AV) : (slR s (.slr b 0 n) lo hi none).run ⟨env, sto⟩ = sto[b]?.bind fun B => (frz b n B).bind fun x => (slX s x.1 lo hi).map fun v => ⟨v, [x.2]⟩ := by
  simp only [slR, run_bind, Jh6]
  cases sto[b]? with
  | none => rfl
  | some B =>
    cases B with
    | arr w z rows =>
      simp only [Option.bind_some, frp, frz]
      split
      · simp only [Option.bind_some, slX]; cases J35 s (.p (.sl z rows)) lo hi none <;> rfl
      · rfl
    | _ => rfl
theorem JoY (n : Nat) (live : List Nat) (env : List (Nat × AV)) (sto : List Blk) : J3y n live ⟨env, sto⟩ = if sto.length = n then some ⟨restr live env, sto⟩ else (J6b n sto (restr live env)).bind fun e => (J27 n [] sto (sto.take n)).bind fun l => some ⟨e, l⟩ := by
  simp only [J3y]
  split
  · rfl
  · cases J6b n sto (restr live env) with
    | none => rfl
    | some e => cases J27 n [] sto (sto.take n) <;> rfl
theorem Jou (m k : Nat) (sto : List Blk) (x : AV) (r : List (Nat × AV)) : J6b m sto ((k, x) :: r) = (fin m [] sto x).bind fun y => (J6b m sto r).bind fun l => some ((k, y) :: l) := by
  simp only [J6b]
  cases fin m [] sto x with
  | none => rfl
  | some y => cases J6b m sto r <;> rfl
theorem JoL (m : Nat) (ids : List Nat) (sto : List Blk) (x : Blk) (r : List Blk) : J27 m ids sto (x :: r) = (J2K m ids sto x).bind fun y => (J27 m ids sto r).bind fun l => some (y :: l) := by
  simp only [J27]
  cases J2K m ids sto x with
  | none => rfl
  | some y => cases J27 m ids sto r <;> rfl
theorem JmJ (m : Nat) (ids : List Nat) (sto : List Blk) (cs : List AV) : J2K m ids sto (.box cs) = (fin.finL m ids sto cs).map .box := by
  simp only [J2K]
  cases fin.finL m ids sto cs <;> rfl
theorem Jok (m : Nat) (ids : List Nat) (sto : List Blk) (x : AV) (r : List AV) : fin.finL m ids sto (x :: r) = (fin m ids sto x).bind fun y => (fin.finL m ids sto r).bind fun l => some (y :: l) := by
  simp only [fin.finL]
  cases fin m ids sto x with
  | none => rfl
  | some y => cases fin.finL m ids sto r <;> rfl
def fsl (k : Option Nat) (n : Nat) (B : Option Blk) : Option AV := match k with
  | some k => some (.slr k 0 n)
  | none => match B with
    | some (.arr _ z rows) => if n = rows.length then some (.p (.sl z rows)) else none
    | _ => none
theorem JnR (m : Nat) (ids : List Nat) (sto : List Blk) (b n : Nat) : fin m ids sto (.slr b 0 n) = if b < m then some (.slr b 0 n) else fsl (J5I b ids m) n sto[b]? := by
  simp only [fin]
  split
  · rfl
  · cases J5I b ids m with
    | some k => rfl
    | none =>
      simp only [fsl]
      cases sto[b]? with
      | none => rfl
      | some B => cases B <;> simp
theorem JnW (m : Nat) (ids : List Nat) (sto : List Blk) (cs : List AV) : fin m ids sto (.agg cs) = (fin.finL m ids sto cs).bind fun l => some (Jgy l (unp l)) := by
  simp only [fin]
  cases fin.finL m ids sto cs with
  | none => rfl
  | some l => simp only [Option.bind_some]; cases unp l <;> rfl
theorem JmU (m : Nat) (ids : List Nat) (sto : List Blk) (x : AV) (cs : List AV) : fin m ids sto (.tup (x :: cs)) = (fin.finL m ids sto (x :: cs)).map .tup := by
  simp only [fin]
  cases fin.finL m ids sto (x :: cs) <;> rfl
theorem Jlc (env : List (Nat × AV)) (sto : List Blk) (t : Nat) (r : List J8I) : (J3O (.tmp t :: r)).run ⟨env, sto⟩ = (lk t env).bind fun v => ((J3O r).run ⟨env, sto⟩).bind fun l => some (v :: l) := by
  simp only [J3O, run_bind, JgY, J0O]
  cases lk t env <;> rfl
theorem JlW (env : List (Nat × AV)) (sto : List Blk) (t n : Nat) (g : Bool) (r : List J8I) : (J3O (.cell t g n :: r)).run ⟨env, sto⟩ = (lk t env).bind fun v => ((J1d g n v).run ⟨env, sto⟩).bind fun e => ((J3O r).run ⟨env, sto⟩).bind fun l => some (e.val :: l) := by
  simp only [J3O, run_bind, JgY, J0O]
  cases lk t env <;> rfl
def oid (b : Nat) (B : Option Blk) (l : List Nat) : List Nat := match B with
  | some (.box _) => b :: l
  | _ => l
theorem JoA (m b : Nat) (sto : List Blk) (r : List Ent) : J0M m false sto (.whole b :: r) = if b < m then J0M m false sto r else oid b sto[b]? (J0M m false sto r) := by
  simp only [J0M]
  split
  · rfl
  · unfold oid
    cases sto[b]? with
    | none => rfl
    | some B => cases B <;> simp
def ebb (B : Option Blk) (acc : List Ent) : List Ent := match B with
  | some (.box cs) => JL.entsOfL cs acc
  | _ => acc
theorem Jo5 (sto : List Blk) (b : Nat) (r : List Ent) (acc : List Ent) : J5g sto (.whole b :: r) acc = J5g sto r (ebb sto[b]? acc) := by
  simp only [J5g, ebb]
  cases sto[b]? with
  | none => rfl
  | some B => cases B <;> rfl
theorem Jod (b c : Nat) (r : List Ent) : J5l (.whole b) (.whole c :: r) = if c = b then .whole c :: r else .whole c :: J5l (.whole b) r := by
  simp only [J5l, List.any_cons]
  by_cases h : c = b
  · subst h; simp
  · simp [h]
    split <;> simp_all
theorem Jo4 (sto : List Blk) (b : Nat) (r : List Nat) : J4H sto (b :: r) = sto[b]?.bind fun x => (J4H sto r).bind fun l => some (x :: l) := by
  simp only [J4H]
  cases sto[b]? with
  | none => rfl
  | some x => cases J4H sto r <;> rfl
theorem Jlo {α : Type} (a : α) (cs : List α) (n : Nat) : sub (a :: cs) 0 (n + 1) = (sub cs 0 n).map (a :: ·) := by
  rw [J52, J52]
  by_cases h : n ≤ cs.length
  · rw [if_pos (by simp; omega), if_pos (by omega)]; simp
  · rw [if_neg (by simp; omega), if_neg (by omega)]; rfl
theorem Jl6 {α : Type} (a : α) (cs : List α) (n m : Nat) : sub (a :: cs) (n + 1) m = sub cs n m := by
  rw [J52, J52]
  by_cases h : n + m ≤ cs.length
  · rw [if_pos (by simp; omega), if_pos h]; simp
  · rw [if_neg (by simp; omega), if_neg h]
theorem JlT {α : Type} (a b : α) (cs vs : List α) : spl (a :: cs) 0 (b :: vs) = (spl cs 0 vs).map (b :: ·) := by
  rw [J5t, J5t]
  by_cases h : vs.length ≤ cs.length
  · rw [if_pos (by simp; omega), if_pos (by omega)]; simp
  · rw [if_neg (by simp; omega), if_neg (by omega)]; rfl
theorem Jl0 {α : Type} (a : α) (cs : List α) (n : Nat) (vs : List α) : spl (a :: cs) (n + 1) vs = (spl cs n vs).map (a :: ·) := by
  rw [J5t, J5t]
  by_cases h : n + vs.length ≤ cs.length
  · rw [if_pos (by simp; omega), if_pos h]
    rw [show n + 1 + vs.length = (n + vs.length) + 1 by omega]; simp
  · rw [if_neg (by simp; omega), if_neg h]; rfl
theorem Jmi (off size : Nat) (c : List AV) (a : AV) (cs : List AV) (r : List (Nat × Nat × List AV)) : J0I ((off, size, c) :: r) (a :: cs) = if c.length = size then (spl (a :: cs) off c).bind fun cs => J0I r cs else none := by
  simp only [J0I]
  split
  · cases spl (a :: cs) off c <;> rfl
  · rfl
theorem Jnu (m : Nat) (ids : List Nat) (sto : List Blk) (f : FuncId) (a c : List AV) : fin m ids sto (.fn f a c) = (fin.finL m ids sto a).bind fun a1 => (fin.finL m ids sto c).bind fun c1 => some (.fn f a1 c1) := by
  simp only [fin]
  cases fin.finL m ids sto a with
  | none => rfl
  | some a1 => cases fin.finL m ids sto c <;> rfl
def lwO (x y : Option Blk) : Option Blk := match x with
  | some x => some x
  | none => y
theorem JoZ (b c : Nat) (x : Blk) (r : List (Nat × Blk)) : J1w b ((c, x) :: r) = lwO (J1w b r) (if c = b then some x else none) := by
  simp only [J1w]
  cases J1w b r <;> rfl
theorem Jnj (env : List (Nat × AV)) (sto : List Blk) (b c : Nat) (x : Blk) (ws : List (Nat × Blk)) : (J5J ((c, x) :: ws) b).run ⟨env, sto⟩ = sto[b]?.bind fun y => some ((J1w b ((c, x) :: ws)).getD y) := by
  simp only [J5J, J41]
  cases sto[b]? with
  | none => rfl
  | some y => simp only [Option.bind_some]; cases J1w b ((c, x) :: ws) <;> rfl
@[congr] theorem JpN {α : Type} {u u' : AV} {k : FuncId → List AV → List AV → Option α} (h : u = u') : cvg u k = cvg u' k := by rw [h]
theorem Jha (x : Opd) (s : St) : Jd ((ev x).reads s) = [] := by
  cases x with
  | t n => simp only [ev, RM.reads]; cases lk n s.env <;> rfl
  | c v => rfl
theorem Jj0 (a b : List Loc) : Jd (a ++ b) = Jd a ++ Jd b := by
  induction a with
  | nil => rfl
  | cons x r ih => cases x <;> simp [Jd, ih]
def rb {α β : Type} (m : Option α) (f : α → List β) : List β := match m with
  | some a => f a
  | none => []
theorem J1W {α β : Type} (m : RM α) (f : α → RM β) (s : St) : Jd ((m.bind f).reads s) = Jd (m.reads s) ++ rb (m.run s) fun a => Jd ((f a).reads s) := by
  rw [J7c, Jj0]
  cases m.run s <;> rfl
theorem JbX {β : Type} (x : Opd) (f : AV → RM β) (s : St) : Jd (((ev x).bind f).reads s) = rb (evv x s.env) fun a => Jd ((f a).reads s) := by
  rw [J1W, Jha, J0g]; rfl
theorem Jbh (o : Option AV) (s : St) : Jd ((Go.Am.val o).reads s) = [] := by cases o <;> rfl
section
variable (F : Orc) (new : Nat) (env : List (Nat × AV)) (sto : List Blk)
theorem Jab {op : AOp} (h : Jy op = 0) (s : St) : rdO F op new s = Jd ((opR F op new).reads s) := by
  unfold rdO opD
  rw [J1W, h]; rfl
def is1 (b : Option Blk) : Option Unit := match b with
  | some .dead => some ()
  | _ => none
theorem JiO {op : AOp} (h : Jy op = 1) (s : St) : rdO F op new s = new :: rb (is1 s.sto[new]?) fun _ => Jd ((opR F op new).reads s) := by
  unfold rdO opD
  rw [J1W, h]
  simp only [J4v, RM.reads, RM.run, Jd]
  cases s.sto[new]? with
  | none => rfl
  | some b => cases b <;> rfl
end
theorem Jof {α β : Type} (m : Option α) : (rb m fun _ => ([] : List β)) = [] := by cases m <;> rfl
theorem JnF (F : Orc) (new : Nat) (env : List (Nat × AV)) (sto : List Blk) (g : Bool) (n : Nat) (x : Opd) : rdO F (.load g n x) new ⟨env, sto⟩ = rb (evv x env) fun a => Jd ((J1d g n a).reads ⟨env, sto⟩) := by
  rw [Jab (h := rfl)]; exact JbX ..
theorem JnZ (s : St) (g : Bool) (n b o : Nat) : Jd ((J1d g n (.ptr b o)).reads s) = [b] := by
  simp only [J1d, RM.reads, Jd]
  cases s.sto[b]? with
  | none => rfl
  | some B =>
    cases B with
    | box cs => simp only []; cases sub cs o n with
      | none => rfl
      | some l => simp only [Jbh]
    | _ => rfl
theorem Jp1 (s : St) (g : Bool) (n o : Nat) (cs : List PV) : Jd ((J1d g n (.cp cs o)).reads s) = [] := by
  simp only [J1d]
  cases sub cs o n with
  | none => rfl
  | some l => exact Jbh ..
theorem Jo6 (s : St) (g : Bool) (n b e i o : Nat) : Jd ((J1d g n (.ep b e i o)).reads s) = [b] := by
  simp only [J1d, RM.reads, Jd]
  cases s.sto[b]? with
  | none => rfl
  | some B =>
    cases B with
    | arr w z rows =>
      simp only []
      split
      · cases rows[i]? with
        | none => rfl
        | some row =>
          simp only []
          cases sub row o n with
          | none => rfl
          | some l => simp only [Jbh]
      · rfl
    | _ => rfl
theorem JjF (F : Orc) (new : Nat) (s : St) (z : List PV) : rdO F (.newbox z) new s = [new] := by
  rw [JiO (h := rfl)]; simp only [opR, RM.reads, Jd, Jof]
theorem Jli (F : Orc) (new : Nat) (env : List (Nat × AV)) (sto : List Blk) (n : Nat) (x y : Opd) : rdO F (.store n x y) new ⟨env, sto⟩ = rb (evv x env) fun a => rb (evv y env) fun c => Jd ((J0X n a c).reads ⟨env, sto⟩) := by
  rw [Jab (h := rfl)]
  simp only [opR, JbX]
theorem JmG (s : St) (n b o : Nat) (v : AV) : Jd ((J0X n (.ptr b o) v).reads s) = [b] := by
  simp only [J0X, RM.reads, Jd]
  cases s.sto[b]? with
  | none => rfl
  | some B =>
    cases B with
    | box cs =>
      simp only []
      cases cellsOf v with
      | none => rfl
      | some l =>
        simp only []
        split
        · cases spl cs o l <;> rfl
        · rfl
    | _ => rfl
theorem JjN (s : St) (n b e i o : Nat) {v : AV} {c : List PV} (hv : fz v = .ret (c, [])) : Jd ((J0X n (.ep b e i o) v).reads s) = [b] := by
  simp only [J0X, RM.reads, Jd]
  cases s.sto[b]? with
  | none => rfl
  | some B =>
    cases B with
    | arr w z rows =>
      cases w with
      | false => rfl
      | true =>
        simp only []
        split
        · cases rows[i]? with
          | none => rfl
          | some row =>
            simp only [hv, J1W, RM.reads, Jd, J0O, rb, List.nil_append]
            split
            · cases spl row o c <;> rfl
            · rfl
        · rfl
    | _ => rfl
theorem JlA (s : St) (n b e i o : Nat) (c : PV) : Jd ((J0X n (.ep b e i o) (.p c)).reads s) = [b] := JjN s n b e i o rfl
theorem JkR (s : St) (n b e i o : Nat) (c : List PV) : Jd ((J0X n (.ep b e i o) (.data c)).reads s) = [b] := JjN s n b e i o rfl
theorem JaV (s : St) : ∀ args, Jd ((evs args).reads s) = []
  | [] => rfl
  | x :: r => by
    simp only [evs, JbX]
    cases evv x s.env with
    | none => rfl
    | some v =>
      simp only [rb, J1W, JaV s r, List.nil_append]
      cases (evs r).run s <;> rfl
theorem JdO (F : Orc) (g : FuncId) (args : List Opd) (n new : Nat) (s : St) : Jd ((opR F (.call g args n) new).reads s) = rb ((evs args).run s) fun a => Jd ((Ju a).reads s) ++ rb ((Ju a).run s) fun a => Jd ((Jr F g a n new).reads s) := by
  simp only [opR, J1W, JaV, List.nil_append, J8p]
theorem Jlp (F : Orc) (new : Nat) (s : St) (g : FuncId) (args : List Opd) : rdO F (.call g args 0) new s = rb ((evs args).run s) fun a => Jd ((Ju a).reads s) ++ rb ((Ju a).run s) fun a => Jd ((Jr F g a 0 new).reads s) := by
  rw [Jab (h := rfl)]; exact JdO ..
theorem JkL (F : Orc) (new : Nat) (s : St) (g : FuncId) (args : List Opd) : rdO F (.call g args 1) new s = new :: rb (is1 s.sto[new]?) fun _ => rb ((evs args).run s) fun a => Jd ((Ju a).reads s) ++ rb ((Ju a).run s) fun a => Jd ((Jr F g a 1 new).reads s) := by
  rw [JiO (h := rfl)]; simp only [JdO]
theorem J8y (s : St) {v : AV} (h : J5h v = .ret (v, [])) (r : List AV) : Jd ((Ju (v :: r)).reads s) = Jd ((Ju r).reads s) := by
  simp only [Ju, h, J1W, RM.reads, Jd, J0O, rb, List.nil_append]
  cases (Ju r).run s <;> simp [RM.reads, Jd]
theorem Jbk (s : St) (b n : Nat) : Jd ((fz (.slr b 0 n)).reads s) = [b] := by
  simp only [fz, RM.reads, Jd]
  cases s.sto[b]? with
  | none => rfl
  | some B =>
    cases B with
    | arr w z rows => simp only []; split <;> rfl
    | _ => rfl
theorem JmS (s : St) (b n : Nat) (r : List AV) : Jd ((Ju (.slr b 0 n :: r)).reads s) = b :: rb ((J5h (.slr b 0 n)).run s) fun _ => Jd ((Ju r).reads s) := by
  have h1 : Jd ((J5h (.slr b 0 n)).reads s) = [b] := by
    simp only [J5h, J1W, Jbk]
    cases (fz (.slr b 0 n)).run s with
    | none => rfl
    | some a =>
      simp only [rb]
      match a.1 with
      | [] => rfl
      | [_] => rfl
      | _ :: _ :: _ => rfl
  simp only [Ju, J1W, h1]
  cases (J5h (.slr b 0 n)).run s with
  | none => rfl
  | some a => simp only [rb]; cases (Ju r).run s <;> simp [RM.reads, Jd]
theorem J0W {F : Orc} {f : FuncId} {args : List AV} (hp : args.all J2l = true) (ws : List (Nat × Blk)) (k new : Nat) (s : St) : Jd ((Jr F f (args, ws) k new).reads s) = [] := by
  have e1 : JL.entsOfL args [] = [] := J55 hp
  simp only [Jr, e1, J5B, J1W, RM.reads, Jd, J0O, rb, List.nil_append, List.map_nil, J2P, if_true, J73 hp, J3r]
  cases F f args [] with
  | none => rfl
  | some r =>
    simp only []
    split
    · simp only [List.length_nil, List.drop_zero]
      cases bk [] new r.1 with
      | none => rfl
      | some v =>
        cases J2B [] new new r.2 with
        | none => rfl
        | some fr => simp only [J2Y, J1W, RM.reads, Jd, J0O, rb, List.nil_append]
    · rfl
def cvl {α : Type} (u : AV) (k : FuncId → List AV → List AV → List α) : List α := match u with
  | .fn f a c => k f a c
  | _ => []
theorem JjU (F : Orc) (new : Nat) (env : List (Nat × AV)) (sto : List Blk) (g : Opd) (args : List Opd) : rdO F (.callv g args 0) new ⟨env, sto⟩ = rb (evv g env) fun u => cvl u fun h a1 c1 => rb ((evs args).run ⟨env, sto⟩) fun a => Jd ((Ju (a1 ++ a ++ c1)).reads ⟨env, sto⟩) ++ rb ((Ju (a1 ++ a ++ c1)).run ⟨env, sto⟩) fun a => Jd ((Jr F h a 0 new).reads ⟨env, sto⟩) := by
  rw [Jab (h := rfl)]
  simp only [opR, J1W, Jha, J0g, List.nil_append]
  cases evv g env with
  | none => rfl
  | some u =>
    simp only [rb]
    cases u <;> first | rfl | skip
    simp only [cvl, J1W, JaV, List.nil_append]
    cases (evs args).run ⟨env, sto⟩ with
    | none => rfl
    | some a => simp only [rb, J8p, J1W]
theorem Jfz (s : St) (o : Bool) (e n new : Nat) (z : List PV) (ps : List (Nat × Opd)) : Jd ((ltR o e n z ps new).reads s) = Jd ((fzs (ps.map (·.2))).reads s) := by
  simp only [ltR, J1W]
  cases (fzs (ps.map (·.2))).run s with
  | none => simp [rb]
  | some a =>
    simp only [rb]
    cases J2h e ((ps.map (·.1)).zip a.1) (List.replicate n z) with
    | none => simp [RM.reads, Jd]
    | some rows => cases o <;> simp [RM.reads, Jd]
theorem Jlg (F : Orc) (new : Nat) (s : St) (e n : Nat) (z : List PV) (ps : List (Nat × Opd)) : rdO F (.lits false e n z ps) new s = Jd ((fzs (ps.map (·.2))).reads s) := by
  rw [Jab (h := rfl)]; exact Jfz ..
theorem JlI (F : Orc) (new : Nat) (s : St) (e n : Nat) (z : List PV) (ps : List (Nat × Opd)) : rdO F (.lits true e n z ps) new s = new :: rb (is1 s.sto[new]?) fun _ => Jd ((fzs (ps.map (·.2))).reads s) := by
  rw [JiO (h := rfl)]
  congr 2; funext _
  exact Jfz ..
theorem JoW (s : St) (x : Opd) (r : List Opd) : Jd ((fzs (x :: r)).reads s) = rb (evv x s.env) fun v => Jd ((fz v).reads s) ++ rb ((fz v).run s) fun _ => Jd ((fzs r).reads s) := by
  have e0 : fzs (x :: r) = (ev x).bind fun v => (fz v).bind fun a => (fzs r).bind fun c => .ret (a.1 :: c.1, a.2 ++ c.2) := rfl
  rw [e0, JbX]
  cases evv x s.env with
  | none => rfl
  | some v =>
    dsimp only [rb]
    rw [J1W]
    cases (fz v).run s with
    | none => rfl
    | some a =>
      dsimp only [rb]
      rw [J1W]
      cases (fzs r).run s <;> simp [rb, RM.reads, Jd]
theorem Jmq (F : Orc) (new : Nat) (s : St) (x : Opd) : rdO F (.conv .toStr x) new s = rb (evv x s.env) fun a => Jd ((JU 1 a).reads s) := by
  rw [Jab (h := rfl)]
  simp only [opR, JbX]
  congr 1; funext a
  simp only [J1W]
  cases (JU 1 a).run s with
  | none => simp [rb]
  | some rows => simp only [rb]; cases J3J rows <;> simp [RM.reads, Jd]
theorem Jkh (s : St) (e b n : Nat) : Jd ((JU e (.slr b 0 n)).reads s) = [b] := by
  simp only [JU, RM.reads, Jd]
  cases s.sto[b]? with
  | none => rfl
  | some B =>
    cases B with
    | arr w z rows => simp only []; split <;> rfl
    | _ => rfl
theorem JkK (s : St) (e z : Nat) (rows : List (List PV)) : Jd ((JU e (.p (.sl z rows))).reads s) = [] := by
  simp only [JU]; split <;> rfl
theorem JkS (F : Orc) (new : Nat) (s : St) (e : Nat) (x i : Opd) : rdO F (.iaddr e x i) new s = rb (evv x s.env) fun a => rb (evv i s.env) fun c => Jd ((J1O e a c).reads s) := by
  rw [Jab (h := rfl)]; simp only [opR, JbX]
theorem Jkb (s : St) (e b n : Nat) (k : IntKind) (i : Int) : Jd ((J1O e (.slr b 0 n) (.p (.i k i))).reads s) = [b] := by
  simp only [J1O, RM.reads, Jd]
  cases s.sto[b]? with
  | none => rfl
  | some B =>
    cases B with
    | arr w z rows => simp only []; split <;> rfl
    | _ => rfl
theorem JkX (s : St) (e z : Nat) (rows : List (List PV)) (k : IntKind) (i : Int) : Jd ((J1O e (.p (.sl z rows)) (.p (.i k i))).reads s) = [] := by
  simp only [J1O]
  split
  · cases J8k rows i <;> rfl
  · rfl
theorem Jq5 (env : List (Nat × AV)) (sto : List Blk) (l : List Int) (new : Nat) : (cvR .toStr (.p (.sl 1 (l.map (r_i .u8)))) new).run ⟨env, sto⟩ = some ⟨.p (.s (toStr l)), []⟩ := JlP ..
theorem JpE (n : Nat) (w : Bool) (l : List Int) : cvB n (.arr w 1 (l.map (r_i .u8))) = if n = l.length then some ⟨.p (.s (toStr l)), []⟩ else none := Jny ..
theorem fr (b n z : Nat) (w : Bool) (rows : List (List PV)) : frz b n (.arr w z rows) = if n = rows.length then some (.p (.sl z rows), (b, .arr false z rows)) else none := rfl
theorem mk (o : Bool) (e b new : Nat) (z : List PV) (k k2 : IntKind) (n m : Int) : mkP o e b z (.p (.i k n)) (.p (.i k2 m)) new = if 0 ≤ n ∧ n ≤ m ∧ b * m ≤ 281474976710656 ∧ m ≤ 281474976710656 then some (if o then ⟨.slr new 0 n.toNat, [(new, .arr true e (List.replicate n.toNat z))]⟩ else ⟨.p (.sl e (List.replicate n.toNat z)), []⟩) else none := rfl
theorem cl (n : Nat) (live : List Nat) (env : List (Nat × AV)) (sto : List Blk) : J3y n live ⟨env, sto⟩ = if sto.length = n then some ⟨restr live env, sto⟩ else (J6b n sto (restr live env)).bind fun e => (J27 n [] sto (sto.take n)).bind fun l => some ⟨e, l⟩ := JoY ..
theorem Joi {α : Type} (l : List α) : [] ++ l = l := rfl
theorem JoV {α : Type} (l : List α) : l ++ [] = l := List.append_nil l
theorem JoF {α : Type} (a : α) (l r : List α) : (a :: l) ++ r = a :: (l ++ r) := rfl
theorem Jp9 {α β : Type} (g : α → β) : List.map g [] = [] := rfl
theorem Joy {α β : Type} (g : α → β) (a : α) (l : List α) : List.map g (a :: l) = g a :: List.map g l := rfl
theorem Jpa {α : Type} : ([] : List α).length = 0 := rfl
theorem Job {α : Type} (a : α) (l : List α) : (a :: l).length = l.length + 1 := rfl
theorem Jo9 (k : IntKind) (n : Int) : r_i k n = [.i k n] := rfl
theorem JoD (x : Bool) : r_b x = [.b x] := rfl
theorem Jmt (x : List UInt8) : r_s x = [.s x] := rfl
theorem Jop {α : Type} (e : Nat) (g : α → List PV) (l : List α) : Jek e g l = [.sl e (l.map g)] := rfl
theorem s1 (a : PV) : sub [a] 0 1 = some [a] := rfl
set_option maxRecDepth 30000 in
theorem Da : (∀ T f m k s, rk T f m k (X T .skip s) = rk T f m k (some (.normal, s))) ∧
  (∀ T f m k a b s, rk T f m k (X T (.seq a b) s) = rk T f m (.sq b :: k) (X T a s)) ∧
  (∀ T f m k d ins env sto, rk T f m k (X T (.reg d [] ins) ⟨env, sto⟩) = rk T f m k (JkN (Jl (AF T) ins sto.length ⟨env, room (news ins) sto⟩ none))) ∧
  (∀ T f m k d q ps ins env sto, rk T f m k (X T (.reg d (q :: ps) ins) ⟨env, sto⟩) = rk T f m k (JiQ (q :: ps) (Jl (AF T) ins sto.length ⟨env, room (news ins) sto⟩ (some [])))) ∧
  (∀ T f m k i c s, rk T f m k (X T (.block i c) s) = rk T f m (.bl i :: k) (X T c s)) ∧
  (∀ T f m k c s, rk T f m k (X T (.scope c) s) = rk T f m k (X T c s)) ∧
  (∀ T f m k i s, rk T f m k (X T (.exit i) s) = rk T f m k (some (.exit i, s))) ∧
  (∀ T f m k s, rk T f m k (X T .ret s) = rk T f m k (some (.ret, s))) ∧
  (∀ T f m k live c env sto, rk T f m k (X T (.keep live c) ⟨env, sto⟩) = rk T f m k (X T c ⟨restr live env, sto⟩)) ∧
  (∀ T f m k live c env sto, rk T f m k (X T (.tidy live c) ⟨env, sto⟩) = rk T f m (.td sto.length live :: k) (X T c ⟨env, sto⟩)) ∧
  (∀ T f m k live c env sto, rk T f m k (X T (.loop live c) ⟨env, sto⟩) = rk T f m k (X T (.lp sto.length live c) ⟨restr live env, sto⟩)) ∧
  (∀ T f m k x a b env sto, rk T f m k (X T (.cond x a b) ⟨env, sto⟩) = rk T f m k (cnd (evv x env) (J5i (X T a ⟨env, sto⟩) (.mk _)) (J5i (X T b ⟨env, sto⟩) (.mk _)) (J5i (fun _ => same (X T a ⟨env, sto⟩) (X T b ⟨env, sto⟩)) (.mk _)))) ∧
  (∀ a b h c, cnd (some (.p (.b true))) (J5i a h) b c = a) ∧
  (∀ a b h c, cnd (some (.p (.b false))) a (J5i b h) c = b) ∧
  (∀ T f m k b s, rk T f m (.sq b :: k) (some (.normal, s)) = rk T f m k (X T b s)) ∧
  (∀ T f m k b i s, rk T f m (.sq b :: k) (some (.exit i, s)) = rk T f m k (some (.exit i, s))) ∧
  (∀ T f m k b s, rk T f m (.sq b :: k) (some (.ret, s)) = rk T f m k (some (.ret, s))) ∧
  (∀ T f m k i s, rk T f m (.bl i :: k) (some (.normal, s)) = rk T f m k (some (.normal, s))) ∧
  (∀ T f m k i j s, rk T f m (.bl i :: k) (some (.exit j, s)) = if j = i then rk T f m k (some (.normal, s)) else rk T f m k (some (.exit j, s))) ∧
  (∀ T f m k i s, rk T f m (.bl i :: k) (some (.ret, s)) = rk T f m k (some (.ret, s))) ∧
  (∀ T f m k n live e s, rk T f m (.td n live :: k) (some (e, s)) = rk T f m k (tdn e (J3y n live s))) ∧
  (∀ e s, tdn e (some s) = some (e, s)) ∧
  (∀ T f m k n live c s, rk T f m (.lo n live c :: k) (some (.normal, s)) = rk T f m k (again T n live c (J3y n live s))) ∧
  (∀ T n live c s, again T n live c (some s) = X T (.lp n live c) s) ∧
  (∀ T f m k n live c i s, rk T f m (.lo n live c :: k) (some (.exit i, s)) = rk T f m k (some (.exit i, s))) ∧
  (∀ T f m k n live c s, rk T f m (.lo n live c :: k) (some (.ret, s)) = rk T f m k (some (.ret, s))) ∧
  (∀ T f m s, rk T f m [] (some (.normal, s)) = Jdi f.res f.fresh m s) ∧
  (∀ T f m s, rk T f m [] (some (.ret, s)) = Jdi f.res f.fresh m s) ∧
  (∀ s l, JkN (some (s, l)) = some (.normal, s)) ∧
  (∀ s l ps, JiQ ps (some (s, some l)) = if J6j l ps = true then some (.normal, s) else none) ∧
  (∀ l, J6j l [] = true) ∧
  (∀ l i j ps, J6j l ((i, j) :: ps) = (pkk l[i]? l[j]? && J6j l ps)) ∧
  (∀ a b, lgA none a b = none) ∧
  (∀ l a b, lgA (some l) a b = some (l ++ [(a, b)])) ∧
  (∀ {α : Type} (a : α) (l : List α), (a :: l)[0]? = some a) ∧
  (∀ {α : Type} (a : α) (l : List α) (n : Nat), (a :: l)[n + 1]? = l[n]?) ∧
  (∀ F new s lg, Jl F [] new s lg = some (s, lg)) ∧
  (∀ F r new env sto lg d x, Jl F (⟨.mv x, some d, none⟩ :: r) new ⟨env, sto⟩ lg = (evv x env).bind fun v => Jl F r new ⟨(d, v) :: env, sto⟩ (lgA lg (rdO F (.mv x) new ⟨env, sto⟩) [])) ∧
  (∀ F r new env sto lg d c a b, Jl F (⟨.pick c a b, some d, none⟩ :: r) new ⟨env, sto⟩ lg = (evv c env).bind fun u => pkh u (evv a env) (evv b env) (J5i (fun v => Jl F r new ⟨(d, v) :: env, sto⟩ (lgA lg (rdO F (.pick c a b) new ⟨env, sto⟩) [])) (.mk _))) ∧
  (∀ F r new env sto lg d op t x y, Jl F (⟨.bin op t x y, some d, none⟩ :: r) new ⟨env, sto⟩ lg = (evv x env).bind fun a => (evv y env).bind fun c => (J0f op t a c).bind fun v => Jl F r new ⟨(d, v) :: env, sto⟩ (lgA lg (rdO F (.bin op t x y) new ⟨env, sto⟩) [])) ∧
  (∀ F r new env sto lg d op x, Jl F (⟨.un op x, some d, none⟩ :: r) new ⟨env, sto⟩ lg = (evv x env).bind fun a => (unP op a).bind fun v => Jl F r new ⟨(d, v) :: env, sto⟩ (lgA lg (rdO F (.un op x) new ⟨env, sto⟩) [])) ∧
  (∀ F r new env sto lg d g off n x, Jl F (⟨.field g off n x, some d, none⟩ :: r) new ⟨env, sto⟩ lg = (evv x env).bind fun a => (J3s g off n a).bind fun v => Jl F r new ⟨(d, v) :: env, sto⟩ (lgA lg (rdO F (.field g off n x) new ⟨env, sto⟩) [])) ∧
  (∀ F r new env sto lg d off x, Jl F (⟨.faddr off x, some d, none⟩ :: r) new ⟨env, sto⟩ lg = (evv x env).bind fun a => (J7P off a).bind fun v => Jl F r new ⟨(d, v) :: env, sto⟩ (lgA lg (rdO F (.faddr off x) new ⟨env, sto⟩) [])) ∧
  (∀ F r new env sto lg d x i, Jl F (⟨.extr x i, some d, none⟩ :: r) new ⟨env, sto⟩ lg = (evv x env).bind fun a => (JbV i a).bind fun v => Jl F r new ⟨(d, v) :: env, sto⟩ (lgA lg (rdO F (.extr x i) new ⟨env, sto⟩) [])) ∧
  (∀ F r new env sto lg d b x, Jl F (⟨.len b x, some d, none⟩ :: r) new ⟨env, sto⟩ lg = (evv x env).bind fun a => (Jb0 b a).bind fun v => Jl F r new ⟨(d, v) :: env, sto⟩ (lgA lg (rdO F (.len b x) new ⟨env, sto⟩) [])) ∧
  (∀ F r new env sto lg d n, Jl F (⟨.alen n, some d, none⟩ :: r) new ⟨env, sto⟩ lg = Jl F r new ⟨(d, .p (.i .i64 n)) :: env, sto⟩ (lgA lg (rdO F (.alen n) new ⟨env, sto⟩) [])) ∧
  (∀ F r new env sto lg d b x y, Jl F (⟨.mm b x y, some d, none⟩ :: r) new ⟨env, sto⟩ lg = (evv x env).bind fun a => (evv y env).bind fun c => (mmP b a c).bind fun v => Jl F r new ⟨(d, v) :: env, sto⟩ (lgA lg (rdO F (.mm b x y) new ⟨env, sto⟩) [])) ∧
  (∀ F r new env sto lg d n e x i, Jl F (⟨.aaddr n e x i, some d, none⟩ :: r) new ⟨env, sto⟩ lg = (evv x env).bind fun a => (evv i env).bind fun c => (J7T n e a c).bind fun v => Jl F r new ⟨(d, v) :: env, sto⟩ (lgA lg (rdO F (.aaddr n e x i) new ⟨env, sto⟩) [])) ∧
  (∀ F r new env sto lg d e x i, Jl F (⟨.iaddr e x i, some d, none⟩ :: r) new ⟨env, sto⟩ lg = (evv x env).bind fun a => (evv i env).bind fun c => ((J1O e a c).run ⟨env, sto⟩).bind fun q => Jl F r new ⟨(d, q.val) :: env, upd q.ws sto⟩ (lgA lg (rdO F (.iaddr e x i) new ⟨env, sto⟩) (q.ws.map (·.1)))) ∧
  (∀ F r new env sto lg d x i, Jl F (⟨.sidx x i, some d, none⟩ :: r) new ⟨env, sto⟩ lg = (evv x env).bind fun a => (evv i env).bind fun c => (Jep a c).bind fun v => Jl F r new ⟨(d, v) :: env, sto⟩ (lgA lg (rdO F (.sidx x i) new ⟨env, sto⟩) [])) ∧
  (∀ F r new env sto lg d g n e x i, Jl F (⟨.aidx g n e x i, some d, none⟩ :: r) new ⟨env, sto⟩ lg = (evv x env).bind fun a => (evv i env).bind fun c => (Jdh g n e a c).bind fun v => Jl F r new ⟨(d, v) :: env, sto⟩ (lgA lg (rdO F (.aidx g n e x i) new ⟨env, sto⟩) [])) ∧
  (∀ F r new env sto lg d x, Jl F (⟨.nilchk x, some d, none⟩ :: r) new ⟨env, sto⟩ lg = (evv x env).bind fun a => (JhA a).bind fun v => Jl F r new ⟨(d, v) :: env, sto⟩ (lgA lg (rdO F (.nilchk x) new ⟨env, sto⟩) [])) ∧
  (∀ F r new env sto lg d g n x, Jl F (⟨.load g n x, some d, none⟩ :: r) new ⟨env, sto⟩ lg = (evv x env).bind fun a => ((J1d g n a).run ⟨env, sto⟩).bind fun q => Jl F r new ⟨(d, q.val) :: env, upd q.ws sto⟩ (lgA lg (rdO F (.load g n x) new ⟨env, sto⟩) (q.ws.map (·.1)))) ∧
  (∀ F r new env sto lg n x y, Jl F (⟨.store n x y, none, none⟩ :: r) new ⟨env, sto⟩ lg = (evv x env).bind fun a => (evv y env).bind fun c => ((J0X n a c).run ⟨env, sto⟩).bind fun q => Jl F r new ⟨env, upd q.ws sto⟩ (lgA lg (rdO F (.store n x y) new ⟨env, sto⟩) (q.ws.map (·.1)))) ∧
  (∀ F r new env sto lg d c x, Jl F (⟨.conv c x, some d, none⟩ :: r) new ⟨env, sto⟩ lg = (evv x env).bind fun a => dds (Jy (.conv c x)) new sto (((cvR c a new).run ⟨env, sto⟩).bind fun e => Jl F r (new + Jy (.conv c x)) ⟨(d, e.val) :: env, upd e.ws sto⟩ (lgA lg (rdO F (.conv c x) new ⟨env, sto⟩) (e.ws.map (·.1))))) ∧
  (∀ F r new env sto lg d z ps, Jl F (⟨.build z ps, some d, none⟩ :: r) new ⟨env, sto⟩ lg = ((J1y ps).run ⟨env, sto⟩).bind fun l => (J0I l (z.map .p)).bind fun cs => (J12 true cs).bind fun v => Jl F r new ⟨(d, v) :: env, sto⟩ (lgA lg (rdO F (.build z ps) new ⟨env, sto⟩) [])) ∧
  (∀ F r new env sto lg d s x lo hi mx, Jl F (⟨.slice s x lo hi mx, some d, none⟩ :: r) new ⟨env, sto⟩ lg = (evv x env).bind fun a => (J6C lo env).bind fun lo1 => (J6C hi env).bind fun hi1 => (J6C mx env).bind fun mx1 => ((slR s a lo1 hi1 mx1).run ⟨env, sto⟩).bind fun q => Jl F r new ⟨(d, q.val) :: env, upd q.ws sto⟩ (lgA lg (rdO F (.slice s x lo hi mx) new ⟨env, sto⟩) (q.ws.map (·.1)))) ∧
  (∀ F r new env sto lg d e b z x y, Jl F (⟨.app e b z x y, some d, none⟩ :: r) new ⟨env, sto⟩ lg = (evv x env).bind fun a => (evv y env).bind fun c => ((J5G e b a c).run ⟨env, sto⟩).bind fun q => Jl F r new ⟨(d, q.val) :: env, upd q.ws sto⟩ (lgA lg (rdO F (.app e b z x y) new ⟨env, sto⟩) (q.ws.map (·.1)))) ∧
  (∀ F r new env sto lg d e b z x y, Jl F (⟨.appz e b z x y, some d, none⟩ :: r) new ⟨env, sto⟩ lg = (evv x env).bind fun a => (evv y env).bind fun c => (zrs e z c).bind fun c1 => ((J5G e b a c1).run ⟨env, sto⟩).bind fun q => Jl F r new ⟨(d, q.val) :: env, upd q.ws sto⟩ (lgA lg (rdO F (.appz e b z x y) new ⟨env, sto⟩) (q.ws.map (·.1)))) ∧
  (∀ F r new env sto lg d g a c, Jl F (⟨.mkfn g a c, some d, none⟩ :: r) new ⟨env, sto⟩ lg = ((evs a).run ⟨env, sto⟩).bind fun a1 => ((evs c).run ⟨env, sto⟩).bind fun c1 => Jl F r new ⟨(d, .fn g a1 c1) :: env, sto⟩ (lgA lg (rdO F (.mkfn g a c) new ⟨env, sto⟩) [])) ∧
  (∀ F r new env sto lg d g args n, Jl F (⟨.callv g args n, some d, none⟩ :: r) new ⟨env, sto⟩ lg = (evv g env).bind fun u => cvg u fun h a1 c1 => dds n new sto (((evs args).run ⟨env, sto⟩).bind fun a => ((Ju (a1 ++ a ++ c1)).run ⟨env, sto⟩).bind fun a => ((Jr F h a n new).run ⟨env, sto⟩).bind fun q => Jl F r (new + n) ⟨(d, q.val) :: env, upd q.ws sto⟩ (lgA lg (rdO F (.callv g args n) new ⟨env, sto⟩) (q.ws.map (·.1))))) ∧
  (∀ F r new env sto lg g args n, Jl F (⟨.callv g args n, none, none⟩ :: r) new ⟨env, sto⟩ lg = (evv g env).bind fun u => cvg u fun h a1 c1 => dds n new sto (((evs args).run ⟨env, sto⟩).bind fun a => ((Ju (a1 ++ a ++ c1)).run ⟨env, sto⟩).bind fun a => ((Jr F h a n new).run ⟨env, sto⟩).bind fun q => Jl F r (new + n) ⟨env, upd q.ws sto⟩ (lgA lg (rdO F (.callv g args n) new ⟨env, sto⟩) (q.ws.map (·.1))))) ∧
  (∀ {α : Type} (f : FuncId) (a c : List AV) (k : FuncId → List AV → List AV → Option α), cvg (.fn f a c) k = k f a c) ∧
  (∀ F r new env sto lg d e b z y, Jl F (⟨.appn e b z y, some d, none⟩ :: r) new ⟨env, sto⟩ lg = (evv y env).bind fun c => ((JU e c).run ⟨env, sto⟩).bind fun rows => if J5L rows.length b = true then dds 1 new sto (Jl F r (new + 1) ⟨(d, .slr new 0 rows.length) :: env, sto.set new (.arr true e rows)⟩ (lgA lg (rdO F (.appn e b z y) new ⟨env, sto⟩) [new])) else none) ∧
  (∀ F r new env sto lg d e b z x y, Jl F (⟨.appc e b z x y, some d, none⟩ :: r) new ⟨env, sto⟩ lg = (evv x env).bind fun a => (evv y env).bind fun c => ((JU e c).run ⟨env, sto⟩).bind fun add => (JcU e b a add).bind fun rows => dds 1 new sto (Jl F r (new + 1) ⟨(d, .slr new 0 rows.length) :: env, sto.set new (.arr true e rows)⟩ (lgA lg (rdO F (.appc e b z x y) new ⟨env, sto⟩) [new]))) ∧
  (∀ F r new env sto lg d z, Jl F (⟨.newbox z, some d, none⟩ :: r) new ⟨env, sto⟩ lg = dds 1 new sto (Jl F r (new + 1) ⟨(d, .ptr new 0) :: env, sto.set new (.box (z.map .p))⟩ (lgA lg (rdO F (.newbox z) new ⟨env, sto⟩) [new]))) ∧
  (∀ F r new env sto lg d e x, Jl F (⟨.mkarr e x, some d, none⟩ :: r) new ⟨env, sto⟩ lg = dds 1 new sto (Jl F r (new + 1) ⟨(d, .slr new 0 0) :: env, sto.set new (.arr true e [])⟩ (lgA lg (rdO F (.mkarr e x) new ⟨env, sto⟩) [new]))) ∧
  (∀ F r new env sto lg d n x, Jl F (⟨.box n x, some d, none⟩ :: r) new ⟨env, sto⟩ lg = (evv x env).bind fun a => (bxP n a).bind fun cs => dds 1 new sto (Jl F r (new + 1) ⟨(d, .ptr new 0) :: env, sto.set new (.box cs)⟩ (lgA lg (rdO F (.box n x) new ⟨env, sto⟩) [new]))) ∧
  (∀ F r new env sto lg d o e n z ps, Jl F (⟨.lits o e n z ps, some d, none⟩ :: r) new ⟨env, sto⟩ lg = dds (if o then 1 else 0) new sto (((ltR o e n z ps new).run ⟨env, sto⟩).bind fun x => Jl F r (new + if o then 1 else 0) ⟨(d, x.val) :: env, upd x.ws sto⟩ (lgA lg (rdO F (.lits o e n z ps) new ⟨env, sto⟩) (x.ws.map (·.1))))) ∧
  (∀ F r new env sto lg d o e b z l c, Jl F (⟨.mkslice o e b z l c, some d, none⟩ :: r) new ⟨env, sto⟩ lg = (evv l env).bind fun a => (evv c env).bind fun x => dds (if o then 1 else 0) new sto ((mkP o e b z a x new).bind fun x => Jl F r (new + if o then 1 else 0) ⟨(d, x.val) :: env, upd x.ws sto⟩ (lgA lg (rdO F (.mkslice o e b z l c) new ⟨env, sto⟩) (x.ws.map (·.1))))) ∧
  (∀ F r new env sto lg d g args n, Jl F (⟨.call g args n, some d, none⟩ :: r) new ⟨env, sto⟩ lg = dds n new sto (((evs args).run ⟨env, sto⟩).bind fun a => ((Ju a).run ⟨env, sto⟩).bind fun a => ((Jr F g a n new).run ⟨env, sto⟩).bind fun e => Jl F r (new + n) ⟨(d, e.val) :: env, upd e.ws sto⟩ (lgA lg (rdO F (.call g args n) new ⟨env, sto⟩) (e.ws.map (·.1))))) ∧
  (∀ F r new env sto lg g args n, Jl F (⟨.call g args n, none, none⟩ :: r) new ⟨env, sto⟩ lg = dds n new sto (((evs args).run ⟨env, sto⟩).bind fun a => ((Ju a).run ⟨env, sto⟩).bind fun a => ((Jr F g a n new).run ⟨env, sto⟩).bind fun e => Jl F r (new + n) ⟨env, upd e.ws sto⟩ (lgA lg (rdO F (.call g args n) new ⟨env, sto⟩) (e.ws.map (·.1))))) ∧
  (∀ F r new env sto lg d z os, Jl F (⟨.newboxo z os, some d, none⟩ :: r) new ⟨env, sto⟩ lg = dds (os.length + 1) new sto (Jl F r (new + (os.length + 1)) ⟨(d, .ptr (new + os.length) 0) :: env, upd (J1U os new ++ [(new + os.length, .box (J4Q os new (z.map .p)))]) sto⟩ (lgA lg (rdO F (.newboxo z os) new ⟨env, sto⟩) ((J1U os new ++ [(new + os.length, Blk.box (J4Q os new (z.map .p)))]).map (·.1))))) ∧
  (∀ F r new env sto lg e x, Jl F (⟨.storen e x, none, none⟩ :: r) new ⟨env, sto⟩ lg = (evv x env).bind fun a => dds 1 new sto (((J0X 1 a (.slr new 0 0)).run ⟨env, sto⟩).bind fun q => Jl F r (new + 1) ⟨env, upd ((new, .arr true e []) :: q.ws) sto⟩ (lgA lg (rdO F (.storen e x) new ⟨env, sto⟩) (new :: q.ws.map (·.1))))) ∧
  (∀ F r new env sto lg d z ps os, Jl F (⟨.buildo z ps os, some d, none⟩ :: r) new ⟨env, sto⟩ lg = ((J1y ps).run ⟨env, sto⟩).bind fun l => (J0I l (J4Q os new (z.map .p))).bind fun cs => (J12 true cs).bind fun v => dds os.length new sto (Jl F r (new + os.length) ⟨(d, v) :: env, upd (J1U os new) sto⟩ (lgA lg (rdO F (.buildo z ps os) new ⟨env, sto⟩) ((J1U os new).map (·.1))))) ∧
  (∀ F r new env sto lg d g kp args n, Jl F (⟨.callo g kp args n, some d, none⟩ :: r) new ⟨env, sto⟩ lg = dds n new sto (((evs args).run ⟨env, sto⟩).bind fun a => ((J1p kp a).run ⟨env, sto⟩).bind fun a => ((J1P F g a n new).run ⟨env, sto⟩).bind fun e => Jl F r (new + n) ⟨(d, e.val) :: env, upd e.ws sto⟩ (lgA lg (rdO F (.callo g kp args n) new ⟨env, sto⟩) (e.ws.map (·.1))))) ∧
  (∀ F r new env sto lg g kp args n, Jl F (⟨.callo g kp args n, none, none⟩ :: r) new ⟨env, sto⟩ lg = dds n new sto (((evs args).run ⟨env, sto⟩).bind fun a => ((J1p kp a).run ⟨env, sto⟩).bind fun a => ((J1P F g a n new).run ⟨env, sto⟩).bind fun e => Jl F r (new + n) ⟨env, upd e.ws sto⟩ (lgA lg (rdO F (.callo g kp args n) new ⟨env, sto⟩) (e.ws.map (·.1))))) ∧
  (∀ {α : Type} (n new : Nat) (sto : List Blk) (o : Option α), dds (n + 1) new sto o = dd1 sto[new]? (dds n (new + 1) sto o)) ∧
  (∀ F r new env sto lg op d g w, Jl F (⟨op, d, some (g, w)⟩ :: r) new ⟨env, sto⟩ lg = grd (lk g env) w (J5i (Jl F (⟨op, d, none⟩ :: r) new ⟨env, sto⟩ lg) (.mk _)) (J5i (Jl F r (new + Jy op) (put d ⟨J0D, []⟩ ⟨env, sto⟩) (lgA lg [] [])) (.mk _))) ∧
  (∀ {α : Type} (a b : Option α) (h : Dum a), grd (some (.p (.b true))) true (J5i a h) b = a) ∧
  (∀ {α : Type} (a b : Option α) (h : Dum b), grd (some (.p (.b true))) false a (J5i b h) = b) ∧
  (∀ {α : Type} (a b : Option α) (h : Dum b), grd (some (.p (.b false))) true a (J5i b h) = b) ∧
  (∀ {α : Type} (a b : Option α) (h : Dum a), grd (some (.p (.b false))) false (J5i a h) b = a) ∧
  (∀ {α : Type} (w : Bool) (a b : Option α) (h : Dum b), grd (some (.tup [])) w a (J5i b h) = b) ∧
  (∀ {β : Type} (a b : Option AV) (K : AV → Option β) (h : Dum K), pkh (.p (.b true)) a b (J5i K h) = a.bind K) ∧
  (∀ {β : Type} (a b : Option AV) (K : AV → Option β) (h : Dum K), pkh (.p (.b false)) a b (J5i K h) = b.bind K) ∧
  (∀ {α β : Type} (a : α) (f : α → Option β), Option.bind (some a) f = f a) ∧
  (∀ {α : Type} (new : Nat) (sto : List Blk) (o : Option α), dds 0 new sto o = o) ∧
  (∀ {α : Type} (new : Nat) (sto : List Blk) (o : Option α), dds 1 new sto o = dd1 sto[new]? o) ∧
  (∀ {α : Type} (o : Option α), dd1 (some .dead) o = o) :=
  ⟨by intro T f m k s; exact Jnv T f m k s,
  by intro T f m k a b s; exact Jo8 T f m k a b s,
  by intro T f m k d ins env sto; exact Jnq T f m k d ins env sto,
  by intro T f m k d q ps ins env sto; exact JmN T f m k d q ps ins env sto,
  by intro T f m k i c s; exact Jm0 T f m k i c s,
  by intro T f m k c s; exact Jmn T f m k c s,
  by intro T f m k i s; exact Jnn T f m k i s,
  by intro T f m k s; exact JoR T f m k s,
  by intro T f m k live c env sto; exact JnA T f m k live c env sto,
  by intro T f m k live c env sto; exact JnH T f m k live c env sto,
  by intro T f m k live c env sto; exact JmH T f m k live c env sto,
  by intro T f m k x a b env sto; exact JnU T f m k x a b env sto,
  by intros; rfl,
  by intros; rfl,
  by intros; rfl,
  by intros; rfl,
  by intros; rfl,
  by intros; rfl,
  by intro T f m k i j s; exact JmP T f m k i j s,
  by intros; rfl,
  by intro T f m k n live e s; exact (Jpw T f m k n live e s).trans (by cases J3y n live s <;> rfl),
  by intros; rfl,
  by intros; rfl,
  by intros; rfl,
  by intros; rfl,
  by intros; rfl,
  by intro T f m s; exact Jnd T f m s,
  by intro T f m s; exact Jmb T f m s,
  by intros; rfl,
  by intros; rfl,
  by intros; rfl,
  by intros; rfl,
  by intros; rfl,
  by intros; rfl,
  by intros; rfl,
  by intros; rfl,
  by intros; rfl,
  by intro F r new env sto lg d x; rw [st0 (h := rfl)]; simp only [opR, run_bind, J0g]; exact Jp2,
  by intro F r new env sto lg d c a b; rw [st0 (h := rfl)]; simp only [opR, run_bind, J0g]; exact Jm7,
  by intro F r new env sto lg d op t x y; rw [st0 (h := rfl)]; simp only [opR, run_bind, J0g]; exact Jew (g := fun a c => J0f op t a c),
  by intro F r new env sto lg d op x; rw [st0 (h := rfl)]; simp only [opR, run_bind, J0g]; exact J9C (g := fun a => unP op a),
  by intro F r new env sto lg d g off n x; rw [st0 (h := rfl)]; simp only [opR, run_bind, J0g]; exact J9C (g := fun a => J3s g off n a),
  by intro F r new env sto lg d off x; rw [st0 (h := rfl)]; simp only [opR, run_bind, J0g]; exact J9C (g := fun a => J7P off a),
  by intro F r new env sto lg d x i; rw [st0 (h := rfl)]; simp only [opR, run_bind, J0g]; exact J9C (g := fun a => JbV i a),
  by intro F r new env sto lg d b x; rw [st0 (h := rfl)]; simp only [opR, run_bind, J0g]; exact J9C (g := fun a => Jb0 b a),
  by intro F r new env sto lg d n; rw [st0 (h := rfl)]; rfl,
  by intro F r new env sto lg d b x y; rw [st0 (h := rfl)]; simp only [opR, run_bind, J0g]; exact Jew (g := fun a c => mmP b a c),
  by intro F r new env sto lg d n e x i; rw [st0 (h := rfl)]; simp only [opR, run_bind, J0g]; exact Jew (g := fun a c => J7T n e a c),
  by intro F r new env sto lg d e x i; rw [st0 (h := rfl)]; simp only [opR, run_bind, J0g]; exact JcW (g := fun a c => (J1O e a c).run ⟨env, sto⟩),
  by intro F r new env sto lg d x i; rw [st0 (h := rfl)]; simp only [opR, run_bind, J0g]; exact Jn5,
  by intro F r new env sto lg d g n e x i; rw [st0 (h := rfl)]; simp only [opR, run_bind, J0g]; exact Jnr,
  by intro F r new env sto lg d x; rw [st0 (h := rfl)]; simp only [opR, run_bind, J0g]; exact JmE,
  by intro F r new env sto lg d g n x; rw [st0 (h := rfl)]; simp only [opR, run_bind, J0g]; exact Jgs (g := fun a => (J1d g n a).run ⟨env, sto⟩),
  by intro F r new env sto lg n x y; rw [JpZ (h := rfl)]; simp only [opR, run_bind, J0g]; exact JcW (g := fun a c => (J0X n a c).run ⟨env, sto⟩),
  by intro F r new env sto lg d c x; exact JlX,
  by intro F r new env sto lg d z ps; exact Jka,
  by intro F r new env sto lg d s x lo hi mx; exact JjZ,
  by intro F r new env sto lg d e b z x y; rw [st0 (h := rfl)]; simp only [opR, run_bind, J0g]; exact JcW (g := fun a c => (J5G e b a c).run ⟨env, sto⟩),
  by intro F r new env sto lg d e b z x y; rw [st0 (h := rfl)]; simp only [opR, run_bind, J0g]; exact JjK,
  by intro F r new env sto lg d g a c; exact JlO,
  by intro F r new env sto lg d g args n; exact Jkx,
  by intro F r new env sto lg g args n; exact Jjg,
  by intros; rfl,
  by intro F r new env sto lg d e b z y; exact Jlb,
  by intro F r new env sto lg d e b z x y; exact JlM,
  by intro F r new env sto lg d z; exact JiX,
  by intro F r new env sto lg d e x; exact Jke,
  by intro F r new env sto lg d n x; exact Jnz,
  by intro F r new env sto lg d o e n z ps; exact JlJ,
  by intro F r new env sto lg d o e b z l c; exact Ji2,
  by intro F r new env sto lg d g args n; exact Jmp,
  by intro F r new env sto lg g args n; exact JkD,
  by intro F r new env sto lg d z os; exact JhW,
  by intro F r new env sto lg e x; exact Jj6,
  by intro F r new env sto lg d z ps os; exact Jjz,
  by intro F r new env sto lg d g kp args n; exact JkA,
  by intro F r new env sto lg g kp args n; exact Jja,
  by intro α n new sto o; exact Jq0 ..,
  by intro F r new env sto lg op d g w; exact Jnt ..,
  by intros; rfl,
  by intros; rfl,
  by intros; rfl,
  by intros; rfl,
  by intros; rfl,
  by intros; rfl,
  by intros; rfl,
  by intros; rfl,
  by intros; rfl,
  by intro α new sto o; exact JpW ..,
  by intros; rfl⟩
set_option maxRecDepth 30000 in
theorem Ua : (∀ n m v r, lk n ((m, v) :: r) = if n = m then some v else lk n r) ∧
  (∀ n env, evv (.t n) env = lk n env) ∧
  (∀ v env, evv (.c v) env = some v) ∧
  (∀ a b, pk (.p (.b true)) a b = a) ∧
  (∀ a b, pk (.p (.b false)) a b = b) ∧
  (∀ env, restr [] env = []) ∧
  (∀ k l env, restr (k :: l) env = JiM k (lk k env) (restr l env)) ∧
  (∀ k v l, JiM k (some v) l = (k, v) :: l) ∧
  (∀ k l, JiM k none l = l) ∧
  (∀ n, lk n [] = none) ∧
  (news [] = 0) ∧
  (∀ i r, news (i :: r) = Jy i.op + news r) ∧
  (∀ x, Jy (.mv x) = 0) ∧
  (∀ e x, Jy (.mkarr e x) = 1) ∧
  (∀ a b c, Jy (.pick a b c) = 0) ∧
  (∀ z, Jy (.newbox z) = 1) ∧
  (∀ n x, Jy (.box n x) = 1) ∧
  (∀ z ps, Jy (.build z ps) = 0) ∧
  (∀ o e n z ps, Jy (.lits o e n z ps) = if o then 1 else 0) ∧
  (∀ g n x, Jy (.load g n x) = 0) ∧
  (∀ n x y, Jy (.store n x y) = 0) ∧
  (∀ x, Jy (.nilchk x) = 0) ∧
  (∀ op t x y, Jy (.bin op t x y) = 0) ∧
  (∀ op x, Jy (.un op x) = 0) ∧
  (∀ c x, Jy (.conv (.int c) x) = 0) ∧
  (∀ x, Jy (.conv .same x) = 0) ∧
  (∀ x, Jy (.conv .toStr x) = 0) ∧
  (∀ o x, Jy (.conv (.toBytes o) x) = if o then 1 else 0) ∧
  (∀ o e b z l c, Jy (.mkslice o e b z l c) = if o then 1 else 0) ∧
  (∀ s x lo hi mx, Jy (.slice s x lo hi mx) = 0) ∧
  (∀ off x, Jy (.faddr off x) = 0) ∧
  (∀ g off n x, Jy (.field g off n x) = 0) ∧
  (∀ e x i, Jy (.iaddr e x i) = 0) ∧
  (∀ n e x i, Jy (.aaddr n e x i) = 0) ∧
  (∀ x i, Jy (.sidx x i) = 0) ∧
  (∀ g n e x i, Jy (.aidx g n e x i) = 0) ∧
  (∀ x i, Jy (.extr x i) = 0) ∧
  (∀ g args n, Jy (.call g args n) = n) ∧
  (∀ g args n, Jy (.callv g args n) = n) ∧
  (∀ b x, Jy (.len b x) = 0) ∧
  (∀ n, Jy (.alen n) = 0) ∧
  (∀ e b z x y, Jy (.app e b z x y) = 0) ∧
  (∀ e b z x y, Jy (.appz e b z x y) = 0) ∧
  (∀ e b z y, Jy (.appn e b z y) = 1) ∧
  (∀ e b z x y, Jy (.appc e b z x y) = 1) ∧
  (∀ b x y, Jy (.mm b x y) = 0) ∧
  (∀ g a c, Jy (.mkfn g a c) = 0) ∧
  (∀ z os, Jy (.newboxo z os) = os.length + 1) ∧
  (∀ z ps os, Jy (.buildo z ps os) = os.length) ∧
  (∀ e x, Jy (.storen e x) = 1) ∧
  (∀ g kp args n, Jy (.callo g kp args n) = n) ∧
  (∀ sto, room 0 sto = sto) ∧
  (∀ n sto, room (n + 1) sto = sto ++ .dead :: List.replicate n .dead) ∧
  (∀ sto, upd [] sto = sto) ∧
  (∀ b x ws sto, upd ((b, x) :: ws) sto = upd ws (sto.set b x)) ∧
  (∀ d v ws env sto, put (some d) ⟨v, ws⟩ ⟨env, sto⟩ = ⟨(d, v) :: env, upd ws sto⟩) ∧
  (∀ v ws env sto, put none ⟨v, ws⟩ ⟨env, sto⟩ = ⟨env, upd ws sto⟩) ∧
  (J0D = .tup []) ∧
  (∀ {α β : Type} (a : α) (f : α → β), Option.map f (some a) = some (f a)) ∧
  (∀ k x y, J0f .add .plain (.p (.i k x)) (.p (.i k y)) = some (.p (.i k (k.wrap (x + y))))) ∧
  (∀ k x y, J0f .sub .plain (.p (.i k x)) (.p (.i k y)) = some (.p (.i k (k.wrap (x - y))))) ∧
  (∀ k x y, J0f .mul .plain (.p (.i k x)) (.p (.i k y)) = some (.p (.i k (k.wrap (x * y))))) ∧
  (∀ k x y, J0f .and .plain (.p (.i k x)) (.p (.i k y)) = some (.p (.i k (J3B k x y)))) ∧
  (∀ k x y, J0f .or .plain (.p (.i k x)) (.p (.i k y)) = some (.p (.i k (orI k x y)))) ∧
  (∀ k x y, J0f .xor .plain (.p (.i k x)) (.p (.i k y)) = some (.p (.i k (J4V k x y)))) ∧
  (∀ k x y, J0f .eql .plain (.p (.i k x)) (.p (.i k y)) = some (.p (.b (x == y)))) ∧
  (∀ k x y, J0f .neq .plain (.p (.i k x)) (.p (.i k y)) = some (.p (.b (x != y)))) ∧
  (∀ k x y, J0f .lss .plain (.p (.i k x)) (.p (.i k y)) = some (.p (.b (decide (x < y))))) ∧
  (∀ k x y, J0f .leq .plain (.p (.i k x)) (.p (.i k y)) = some (.p (.b (decide (x ≤ y))))) ∧
  (∀ k x y, J0f .gtr .plain (.p (.i k x)) (.p (.i k y)) = some (.p (.b (decide (x > y))))) ∧
  (∀ k x y, J0f .geq .plain (.p (.i k x)) (.p (.i k y)) = some (.p (.b (decide (x ≥ y))))) ∧
  (∀ k x y, J0f .quo .plain (.p (.i k x)) (.p (.i k y)) = (Joh k x y).map fun z => .p (.i k z)) ∧
  (∀ k x y, J0f .rem .plain (.p (.i k x)) (.p (.i k y)) = (Jbq x y).map fun z => .p (.i k z)) ∧
  (∀ k k2 x y, J0f .shl .plain (.p (.i k x)) (.p (.i k2 y)) = (JoB k x y).map fun z => .p (.i k z)) ∧
  (∀ k k2 x y, J0f .shr .plain (.p (.i k x)) (.p (.i k2 y)) = (J9i k x y).map fun z => .p (.i k z)) ∧
  (∀ x y, J0f .add .plain (.p (.s x)) (.p (.s y)) = (J9h x y).map fun z => .p (.s z)) ∧
  (∀ x y, J0f .eql .plain (.p (.s x)) (.p (.s y)) = some (.p (.b (x == y)))) ∧
  (∀ x y, J0f .neq .plain (.p (.s x)) (.p (.s y)) = some (.p (.b (!(x == y))))) ∧
  (∀ x y, J0f .lss .plain (.p (.s x)) (.p (.s y)) = some (.p (.b (Op.bytesLess x y)))) ∧
  (∀ x y, J0f .leq .plain (.p (.s x)) (.p (.s y)) = some (.p (.b (Op.bytesLess x y || x == y)))) ∧
  (∀ x y, J0f .gtr .plain (.p (.s x)) (.p (.s y)) = some (.p (.b (!(Op.bytesLess x y || x == y))))) ∧
  (∀ x y, J0f .geq .plain (.p (.s x)) (.p (.s y)) = some (.p (.b (!Op.bytesLess x y)))) ∧
  (∀ x y, J0f .eql .bool (.p (.b x)) (.p (.b y)) = some (.p (.b (x == y)))) ∧
  (∀ x y, J0f .neq .bool (.p (.b x)) (.p (.b y)) = some (.p (.b (!(x == y))))) ∧
  (∀ ks a c, J0f .eql (.flat ks) (.data a) (.data c) = (J14 ks a c).map fun x => .p (.b x)) ∧
  (∀ ks a c, J0f .neq (.flat ks) (.data a) (.data c) = (J14 ks a c).map fun x => .p (.b (!x))) ∧
  (∀ b o y, J0f .eql .nilp (.ptr b o) y = some (.p (.b false))) ∧
  (∀ b o y, J0f .neq .nilp (.ptr b o) y = some (.p (.b true))) ∧
  (∀ k n, unP .neg (.p (.i k n)) = some (.p (.i k (k.wrap (0 - n))))) ∧
  (∀ k n, unP .xor (.p (.i k n)) = some (.p (.i k (JkQ k n)))) ∧
  (∀ x, unP .not (.p (.b x)) = some (.p (.b (!x)))) ∧
  ((!true) = false) ∧
  ((!false) = true) ∧
  (∀ k x y, mmP true (.p (.i k x)) (.p (.i k y)) = some (.p (.i k (J71 x y)))) ∧
  (∀ k x y, mmP false (.p (.i k x)) (.p (.i k y)) = some (.p (.i k (JpR x y)))) ∧
  (∀ off b o, J7P off (.ptr b o) = some (.ptr b (o + off))) ∧
  (∀ off o cs, J7P off (.cp cs o) = some (.cp cs (o + off))) ∧
  (∀ off b e i o, J7P off (.ep b e i o) = some (.ep b e i (o + off))) ∧
  (∀ g off n cs, J3s g off n (.data cs) = (sub cs off n).bind (J1a g)) ∧
  (∀ g off n c cs, J3s g off n (.agg (c :: cs)) = (sub (c :: cs) off n).bind (J12 g)) ∧
  (∀ cs, J1a true cs = some (.data cs)) ∧
  (∀ c, J1a false [c] = some (.p c)) ∧
  (∀ cs, J12 true (cs.map AV.p) = some (.data cs)) ∧
  (∀ c cs, J12 true (c :: cs) = some (Jgy (c :: cs) (unp (c :: cs)))) ∧
  (∀ c, J12 false [c] = some c) ∧
  (∀ cs l, Jgy cs (some l) = .data l) ∧
  (∀ c, Option.map (fun l => c :: l) (none : Option (List PV)) = none) ∧
  (∀ cs, Jgy cs none = .agg cs) ∧
  (unp [] = some []) ∧
  (∀ c r, unp (.p c :: r) = (unp r).map fun l => c :: l) ∧
  (∀ b i n r, unp (.slr b i n :: r) = none) ∧
  (∀ b i r, unp (.ptr b i :: r) = none) ∧
  (∀ b e i o r, unp (.ep b e i o :: r) = none) ∧
  (∀ f a c r, unp (.fn f a c :: r) = none) ∧
  (∀ i vs, JbV i (.tup vs) = vs[i]?) ∧
  (∀ l, Jb0 true (.p (.s l)) = some (.p (.i .i64 l.length))) ∧
  (∀ e rows, Jb0 false (.p (.sl e rows)) = some (.p (.i .i64 rows.length))) ∧
  (∀ b i n, Jb0 false (.slr b i n) = some (.p (.i .i64 n))) ∧
  (∀ {α β : Type} (g : α → β) (l : List α), (l.map g).length = l.length) ∧
  (∀ b o, JhA (.ptr b o) = some (.ptr b o)) ∧
  (∀ cs o, JhA (.cp cs o) = some (.cp cs o)) ∧
  (∀ b e i o, JhA (.ep b e i o) = some (.ep b e i o)) ∧
  (∀ env sto g n cs off, (J1d g n (.cp cs off)).run ⟨env, sto⟩ = (sub cs off n).bind fun l => (J1a g l).map fun v => ⟨v, []⟩) ∧
  (∀ env sto g n b off, (J1d g n (.ptr b off)).run ⟨env, sto⟩ = sto[b]?.bind fun B => ldB g n off B) ∧
  (∀ env sto g n b e i off, (J1d g n (.ep b e i off)).run ⟨env, sto⟩ = sto[b]?.bind fun B => ldE g n e i off B) ∧
  (∀ g n off cs, ldB g n off (.box (cs.map AV.p)) = (sub cs off n).bind fun l => (J1a g l).map fun v => ⟨v, []⟩) ∧
  (∀ g n off c cs, ldB g n off (.box (c :: cs)) = (sub (c :: cs) off n).bind fun l => (J12 g l).map fun v => ⟨v, []⟩) ∧
  (∀ g n e i off z w rows, ldE g n e i off (.arr w z rows) = if e = rows.length then rows[i]?.bind fun row => (sub row off n).bind fun l => (J1a g l).map fun v => ⟨v, []⟩ else none) ∧
  (∀ env sto n b off v, (J0X n (.ptr b off) v).run ⟨env, sto⟩ = sto[b]?.bind fun B => (cellsOf v).bind fun l => stB n b off l B) ∧
  (∀ n b off cs vs, stB n b off (vs.map AV.p) (.box (cs.map AV.p)) = if vs.length = n then (spl cs off vs).map fun cs => ⟨J0D, [(b, .box (cs.map AV.p))]⟩ else none) ∧
  (∀ b off cs v, stB 1 b off [AV.p v] (.box (cs.map AV.p)) = (spl cs off [v]).map fun cs => ⟨J0D, [(b, .box (cs.map AV.p))]⟩) ∧
  (∀ env sto n b e i off v, (J0X n (.ep b e i off) v).run ⟨env, sto⟩ = sto[b]?.bind fun B => stE n b e i off v B ⟨env, sto⟩) ∧
  (∀ n b e i off z c rows s, stE n b e i off (.p c) (.arr true z rows) s = if e = rows.length then rows[i]?.bind fun row => if 1 = n then (spl row off [c]).map fun row => ⟨J0D, [(b, .arr true z (rows.set i row))]⟩ else none else none) ∧
  (∀ n b e i off z cs rows s, stE n b e i off (.data cs) (.arr true z rows) s = if e = rows.length then rows[i]?.bind fun row => if cs.length = n then (spl row off cs).map fun row => ⟨J0D, [(b, .arr true z (rows.set i row))]⟩ else none else none) ∧
  (∀ c, cellsOf (.p c) = some [.p c]) ∧
  (∀ cs, cellsOf (.data cs) = some (cs.map AV.p)) ∧
  (∀ cs, cellsOf (.agg cs) = some cs) ∧
  (∀ f a c, cellsOf (.fn f a c) = some [.fn f a c]) ∧
  (∀ b i n, cellsOf (.slr b i n) = some [.slr b i n]) ∧
  (∀ b o, cellsOf (.ptr b o) = some [.ptr b o]) ∧
  (∀ c, bxP 1 (.p c) = some [.p c]) ∧
  (∀ n cs, bxP n (.data cs) = if cs.length = n then some (cs.map AV.p) else none) ∧
  (∀ n cs, bxP n (.agg cs) = if cs.length = n then some cs else none) ∧
  (∀ b i n, bxP 1 (.slr b i n) = some [.slr b i n]) ∧
  (∀ env sto e rows k n, (J1O e (.p (.sl e rows)) (.p (.i k n))).run ⟨env, sto⟩ = (J8k rows n).map fun row => ⟨.cp row 0, []⟩) ∧
  (∀ env sto e b m k n, (J1O e (.slr b 0 m) (.p (.i k n))).run ⟨env, sto⟩ = sto[b]?.bind fun B => iaB e b m n B) ∧
  (∀ e b m n w rows, iaB e b m n (.arr w e rows) = if m = rows.length ∧ 0 ≤ n ∧ n < m then some ⟨.ep b rows.length n.toNat 0, []⟩ else none) ∧
  (∀ n e b off k i, J7T n e (.ptr b off) (.p (.i k i)) = if 0 ≤ i ∧ i < n then some (.ptr b (off + i.toNat * e)) else none) ∧
  (∀ n e off cs k i, J7T n e (.cp cs off) (.p (.i k i)) = if 0 ≤ i ∧ i < n then some (.cp cs (off + i.toNat * e)) else none) ∧
  (∀ n e b x j off k i, J7T n e (.ep b x j off) (.p (.i k i)) = if 0 ≤ i ∧ i < n then some (.ep b x j (off + i.toNat * e)) else none) ∧
  (∀ l k n, Jep (.p (.s l)) (.p (.i k n)) = (JeL l n).map fun v => .p (.i .u8 v)) ∧
  (∀ g n e cs k i, Jdh g n e (.agg cs) (.p (.i k i)) = if 0 ≤ i ∧ i < n then J3s g (i.toNat * e) e (.agg cs) else none) ∧
  (∀ g n e cs k i, Jdh g n e (.data cs) (.p (.i k i)) = if 0 ≤ i ∧ i < n then (sub cs (i.toNat * e) e).bind (J1a g) else none) ∧
  (∀ env sto c k n new, (cvR (.int c) (.p (.i k n)) new).run ⟨env, sto⟩ = some ⟨.p (.i c (c.wrap n)), []⟩) ∧
  (∀ env sto l new, (cvR .same (.p (.s l)) new).run ⟨env, sto⟩ = some ⟨.p (.s l), []⟩) ∧
  (∀ env sto l new, (cvR .toStr (.p (.sl 1 (l.map (r_i .u8)))) new).run ⟨env, sto⟩ = some ⟨.p (.s (toStr l)), []⟩) ∧
  (∀ env sto b n new, (cvR .toStr (.slr b 0 n) new).run ⟨env, sto⟩ = sto[b]?.bind fun B => cvB n B) ∧
  (∀ n w l, cvB n (.arr w 1 (l.map (r_i .u8))) = if n = l.length then some ⟨.p (.s (toStr l)), []⟩ else none) ∧
  (∀ env sto l new, (cvR (.toBytes false) (.p (.s l)) new).run ⟨env, sto⟩ = some ⟨.p (.sl 1 ((J6X l).map (r_i .u8))), []⟩) ∧
  (∀ env sto l new, (cvR (.toBytes true) (.p (.s l)) new).run ⟨env, sto⟩ = some ⟨.slr new 0 (J6X l).length, [(new, .arr true 1 ((J6X l).map (r_i .u8)))]⟩) ∧
  (∀ env sto, (J1y []).run ⟨env, sto⟩ = some []) ∧
  (∀ env sto off size x r, (J1y ((off, size, x) :: r)).run ⟨env, sto⟩ = (evv x env).bind fun v => (cellsOf v).bind fun cs => ((J1y r).run ⟨env, sto⟩).bind fun l => some ((off, size, cs) :: l)) ∧
  (∀ cs, J0I [] cs = some cs) ∧
  (∀ off size vs cs r, J0I ((off, size, vs.map AV.p) :: r) (cs.map AV.p) = if vs.length = size then (spl cs off vs).bind fun cs => J0I r (cs.map AV.p) else none) ∧
  (∀ off v cs r, J0I ((off, 1, [AV.p v]) :: r) (cs.map AV.p) = (spl cs off [v]).bind fun cs => J0I r (cs.map AV.p)) ∧
  (∀ env sto, (evs []).run ⟨env, sto⟩ = some []) ∧
  (∀ env sto x r, (evs (x :: r)).run ⟨env, sto⟩ = (evv x env).bind fun v => ((evs r).run ⟨env, sto⟩).bind fun vs => some (v :: vs)) ∧
  (∀ n, J1U [] n = []) ∧
  (∀ o e r n, J1U ((o, e) :: r) n = (n, .arr true e []) :: J1U r (n + 1)) ∧
  (∀ n cs, J4Q [] n cs = cs) ∧
  (∀ o e r n cs, J4Q ((o, e) :: r) n cs = J4Q r (n + 1) (cs.set o (.slr n 0 0))) ∧
  (∀ env sto m, (J1p m []).run ⟨env, sto⟩ = some ([], [])) ∧
  (∀ env sto l, (J1p [] l).run ⟨env, sto⟩ = (Ju l).run ⟨env, sto⟩) ∧
  (∀ env sto x m r, (J1p (true :: m) (x :: r)).run ⟨env, sto⟩ = ((J1p m r).run ⟨env, sto⟩).bind fun c => some (x :: c.1, c.2)) ∧
  (∀ env sto x m r, (J1p (false :: m) (x :: r)).run ⟨env, sto⟩ = ((Ju [x]).run ⟨env, sto⟩).bind fun a => ((J1p m r).run ⟨env, sto⟩).bind fun c => some (a.1 ++ c.1, a.2 ++ c.2)) ∧
  (∀ env sto, (Ju []).run ⟨env, sto⟩ = some ([], [])) ∧
  (∀ env sto c r, (Ju (.p c :: r)).run ⟨env, sto⟩ = ((Ju r).run ⟨env, sto⟩).bind fun a => some (.p c :: a.1, a.2)) ∧
  (∀ env sto c r, (Ju (.data c :: r)).run ⟨env, sto⟩ = ((Ju r).run ⟨env, sto⟩).bind fun a => some (.data c :: a.1, a.2)) ∧
  (∀ env sto b o r, (Ju (.ptr b o :: r)).run ⟨env, sto⟩ = ((Ju r).run ⟨env, sto⟩).bind fun a => some (.ptr b o :: a.1, a.2)) ∧
  (∀ env sto c o r, (Ju (.cp c o :: r)).run ⟨env, sto⟩ = ((Ju r).run ⟨env, sto⟩).bind fun a => some (.cp c o :: a.1, a.2)) ∧
  (∀ env sto b x i o r, (Ju (.ep b x i o :: r)).run ⟨env, sto⟩ = ((Ju r).run ⟨env, sto⟩).bind fun a => some (.ep b x i o :: a.1, a.2)) ∧
  (∀ env sto b n r, (Ju (.slr b 0 n :: r)).run ⟨env, sto⟩ = sto[b]?.bind fun B => (frz b n B).bind fun x => ((Ju r).run ⟨env, sto⟩).bind fun a => some (x.1 :: a.1, x.2 :: a.2)) ∧
  (∀ env sto cs r, (Ju (.agg cs :: r)).run ⟨env, sto⟩ = ((fz.fzL cs).run ⟨env, sto⟩).bind fun x => ((Ju r).run ⟨env, sto⟩).bind fun a => some (.data x.1 :: a.1, x.2 ++ a.2)) ∧
  (∀ b n z w rows, frz b n (.arr w z rows) = if n = rows.length then some (.p (.sl z rows), (b, .arr false z rows)) else none) ∧
  (∀ env sto, (fz.fzL []).run ⟨env, sto⟩ = some ([], [])) ∧
  (∀ env sto c r, (fz.fzL (.p c :: r)).run ⟨env, sto⟩ = ((fz.fzL r).run ⟨env, sto⟩).bind fun a => some (c :: a.1, a.2)) ∧
  (∀ env sto b n r, (fz.fzL (.slr b 0 n :: r)).run ⟨env, sto⟩ = sto[b]?.bind fun B => (frp b n B).bind fun x => ((fz.fzL r).run ⟨env, sto⟩).bind fun a => some (x.1 :: a.1, x.2 :: a.2)) ∧
  (∀ b n z w rows, frp b n (.arr w z rows) = if n = rows.length then some (.sl z rows, (b, .arr false z rows)) else none) ∧
  (∀ env sto f a c r, (Ju (.fn f a c :: r)).run ⟨env, sto⟩ = ((Ju r).run ⟨env, sto⟩).bind fun x => some (.fn f a c :: x.1, x.2)) ∧
  (∀ m ids sto f a c, fin m ids sto (.fn f a c) = (fin.finL m ids sto a).bind fun a1 => (fin.finL m ids sto c).bind fun c1 => some (.fn f a1 c1)) ∧
  (∀ f a c l, JL (.fn f a c) l = JL.entsOfL c (JL.entsOfL a l)) ∧
  (∀ ws s, J2Q ws s [] [] = True) ∧
  (∀ ws s b bs cs css, J2Q ws s (b :: bs) (cs :: css) = ((J5J ws b).run s = some (.box cs) ∧ J2Q ws s bs css)) ∧
  (∀ env sto b c x ws, (J5J ((c, x) :: ws) b).run ⟨env, sto⟩ = sto[b]?.bind fun y => some ((J1w b ((c, x) :: ws)).getD y)) ∧
  (∀ b, J1w b [] = none) ∧
  (∀ b c x r, J1w b ((c, x) :: r) = lwO (J1w b r) (if c = b then some x else none)) ∧
  (∀ x y, lwO (some x) y = some x) ∧
  (∀ y, lwO none y = y) ∧
  (∀ {α : Type} (a b : α), (some a).getD b = a) ∧
  (∀ {α : Type} (b : α), (none : Option α).getD b = b) ∧
  (∀ env sto b, (J5J [] b).run ⟨env, sto⟩ = sto[b]?) ∧
  (∀ env sto e rows, (JU e (.p (.sl e rows))).run ⟨env, sto⟩ = some rows) ∧
  (∀ env sto l, (JU 1 (.p (.s l))).run ⟨env, sto⟩ = some ((J6X l).map (r_i .u8))) ∧
  (∀ env sto e b n, (JU e (.slr b 0 n)).run ⟨env, sto⟩ = sto[b]?.bind fun B => roB e n B) ∧
  (∀ e n w rows, roB e n (.arr w e rows) = if n = rows.length then some rows else none) ∧
  (∀ env sto o e n new z ps, (ltR o e n z ps new).run ⟨env, sto⟩ = ((fzs (ps.map (·.2))).run ⟨env, sto⟩).bind fun a => (J2h e ((ps.map (·.1)).zip a.1) (List.replicate n z)).map fun rows => if o then ⟨.slr new 0 n, a.2 ++ [(new, .arr true e rows)]⟩ else ⟨.p (.sl e rows), a.2⟩) ∧
  (∀ env sto, (fzs []).run ⟨env, sto⟩ = some ([], [])) ∧
  (∀ env sto x r, (fzs (x :: r)).run ⟨env, sto⟩ = (evv x env).bind fun v => ((fz v).run ⟨env, sto⟩).bind fun a => ((fzs r).run ⟨env, sto⟩).bind fun c => some (a.1 :: c.1, a.2 ++ c.2)) ∧
  (∀ env sto c, (fz (.p c)).run ⟨env, sto⟩ = some ([c], [])) ∧
  (∀ env sto cs, (fz (.data cs)).run ⟨env, sto⟩ = some (cs, [])) ∧
  (∀ env sto cs, (fz (.agg cs)).run ⟨env, sto⟩ = (fz.fzL cs).run ⟨env, sto⟩) ∧
  (∀ env sto b n, (fz (.slr b 0 n)).run ⟨env, sto⟩ = sto[b]?.bind fun B => (frp b n B).bind fun x => some ([x.1], [x.2])) ∧
  (∀ e rows, J2h e [] rows = some rows) ∧
  (∀ e i c r rows, J2h e ((i, c) :: r) rows = if c.length = e ∧ i < rows.length then J2h e r (rows.set i c) else none) ∧
  (∀ o e b new z k k2 n m, mkP o e b z (.p (.i k n)) (.p (.i k2 m)) new = if 0 ≤ n ∧ n ≤ m ∧ b * m ≤ 281474976710656 ∧ m ≤ 281474976710656 then some (if o then ⟨.slr new 0 n.toNat, [(new, .arr true e (List.replicate n.toNat z))]⟩ else ⟨.p (.sl e (List.replicate n.toNat z)), []⟩) else none) ∧
  (∀ env, J6C none env = some none) ∧
  (∀ x env, J6C (some x) env = (evv x env).map some) ∧
  (∀ env sto s c lo hi, (slR s (.p c) lo hi none).run ⟨env, sto⟩ = (slX s (.p c) lo hi).map fun v => ⟨v, []⟩) ∧
  (∀ env sto s b n lo hi, (slR s (.slr b 0 n) lo hi none).run ⟨env, sto⟩ = sto[b]?.bind fun B => (frz b n B).bind fun x => (slX s x.1 lo hi).map fun v => ⟨v, [x.2]⟩) ∧
  (∀ x lo hi, slX .str x lo hi = J7Q x lo hi) ∧
  (∀ e x lo hi, slX (.sl e) x lo hi = J68 e x lo hi) ∧
  (∀ n live env sto, J3y n live ⟨env, sto⟩ = if sto.length = n then some ⟨restr live env, sto⟩ else (J6b n sto (restr live env)).bind fun e => (J27 n [] sto (sto.take n)).bind fun l => some ⟨e, l⟩) ∧
  (∀ m sto, J6b m sto [] = some []) ∧
  (∀ m k sto x r, J6b m sto ((k, x) :: r) = (fin m [] sto x).bind fun y => (J6b m sto r).bind fun l => some ((k, y) :: l)) ∧
  (∀ m ids sto, J27 m ids sto [] = some []) ∧
  (∀ m ids sto x r, J27 m ids sto (x :: r) = (J2K m ids sto x).bind fun y => (J27 m ids sto r).bind fun l => some (y :: l)) ∧
  (∀ m ids sto, J2K m ids sto .dead = some .dead) ∧
  (∀ m ids sto w z rows, J2K m ids sto (.arr w z rows) = some (.arr w z rows)) ∧
  (∀ m ids sto cs, J2K m ids sto (.box cs) = (fin.finL m ids sto cs).map .box) ∧
  (∀ (m : Nat) (ids : List Nat) (sto : List Blk) (l : List PV), fin.finL m ids sto (l.map AV.p) = some (l.map AV.p)) ∧
  (∀ m ids sto, fin.finL m ids sto [] = some []) ∧
  (∀ m ids sto x r, fin.finL m ids sto (x :: r) = (fin m ids sto x).bind fun y => (fin.finL m ids sto r).bind fun l => some (y :: l)) ∧
  (∀ m ids sto c, fin m ids sto (.p c) = some (.p c)) ∧
  (∀ m ids sto c, fin m ids sto (.data c) = some (.data c)) ∧
  (∀ m ids sto c o, fin m ids sto (.cp c o) = some (.cp c o)) ∧
  (∀ m ids sto, fin m ids sto (.tup []) = some (.tup [])) ∧
  (∀ m ids sto b off, fin m ids sto (.ptr b off) = if b < m then some (.ptr b off) else (J5I b ids m).map fun k => .ptr k off) ∧
  (∀ m ids sto b n, fin m ids sto (.slr b 0 n) = if b < m then some (.slr b 0 n) else fsl (J5I b ids m) n sto[b]?) ∧
  (∀ k n o, fsl (some k) n o = some (.slr k 0 n)) ∧
  (∀ n z w rows, fsl none n (some (.arr w z rows)) = if n = rows.length then some (.p (.sl z rows)) else none) ∧
  (∀ m ids sto cs, fin m ids sto (.agg cs) = (fin.finL m ids sto cs).bind fun l => some (Jgy l (unp l))) ∧
  (∀ m ids sto x cs, fin m ids sto (.tup (x :: cs)) = (fin.finL m ids sto (x :: cs)).map .tup) ∧
  (∀ b k, J5I b [] k = none) ∧
  (∀ b x k r, J5I b (x :: r) k = if x = b then some k else J5I b r (k + 1)) ∧
  (∀ res fresh m env sto, Jdi res fresh m ⟨env, sto⟩ = ((J3O res).run ⟨env, sto⟩).bind fun vs => if sto.length = m then some (one vs, sto) else Jj5 fresh m vs sto (J0M m fresh sto (J5g sto (JL.entsOfL vs []) (JL.entsOfL vs [])))) ∧
  (∀ fresh m vs sto ids, Jj5 fresh m vs sto ids = if J2P ids = true then (fin.finL m ids sto vs).bind fun ws => (J27 m ids sto (sto.take m)).bind fun l => (J4H sto ids).bind fun q => (J27 m ids sto q).bind fun q => some (one ws, l ++ q) else none) ∧
  (∀ env sto, (J3O []).run ⟨env, sto⟩ = some []) ∧
  (∀ env sto t r, (J3O (.tmp t :: r)).run ⟨env, sto⟩ = (lk t env).bind fun v => ((J3O r).run ⟨env, sto⟩).bind fun l => some (v :: l)) ∧
  (∀ env sto t n g r, (J3O (.cell t g n :: r)).run ⟨env, sto⟩ = (lk t env).bind fun v => ((J1d g n v).run ⟨env, sto⟩).bind fun e => ((J3O r).run ⟨env, sto⟩).bind fun l => some (e.val :: l)) ∧
  (∀ x, one [x] = x) ∧
  (one [] = .tup []) ∧
  (∀ x y r, one (x :: y :: r) = .tup (x :: y :: r)) ∧
  (∀ m fresh sto, J0M m fresh sto [] = []) ∧
  (∀ m b sto r, J0M m false sto (.whole b :: r) = if b < m then J0M m false sto r else oid b sto[b]? (J0M m false sto r)) ∧
  (∀ m b sto r, J0M m true sto (.whole b :: r) = if b < m then J0M m true sto r else JgW b sto[b]? (J0M m true sto r)) ∧
  (∀ b cs l, JgW b (some (.box cs)) l = b :: l) ∧
  (∀ b z w rows l, JgW b (some (.arr w z rows)) l = b :: l) ∧
  (∀ b cs l, oid b (some (.box cs)) l = b :: l) ∧
  (∀ b z w rows l, oid b (some (.arr w z rows)) l = l) ∧
  (∀ sto acc, J5g sto [] acc = acc) ∧
  (∀ sto b r acc, J5g sto (.whole b :: r) acc = J5g sto r (ebb sto[b]? acc)) ∧
  (∀ cs acc, ebb (some (.box cs)) acc = JL.entsOfL cs acc) ∧
  (∀ z w rows acc, ebb (some (.arr w z rows)) acc = acc) ∧
  (∀ l, JL.entsOfL [] l = l) ∧
  (∀ x r l, JL.entsOfL (x :: r) l = JL.entsOfL r (JL x l)) ∧
  (∀ (cs : List PV) (l : List Ent), JL.entsOfL (cs.map AV.p) l = l) ∧
  (∀ c l, JL (.p c) l = l) ∧
  (∀ c l, JL (.data c) l = l) ∧
  (∀ c o l, JL (.cp c o) l = l) ∧
  (∀ b o l, JL (.ptr b o) l = J5l (.whole b) l) ∧
  (∀ b i n l, JL (.slr b i n) l = J5l (.whole b) l) ∧
  (∀ cs l, JL (.agg cs) l = JL.entsOfL cs l) ∧
  (∀ cs l, JL (.tup cs) l = JL.entsOfL cs l) ∧
  (∀ e, J5l e [] = [e]) ∧
  (∀ b c r, J5l (.whole b) (.whole c :: r) = if c = b then .whole c :: r else .whole c :: J5l (.whole b) r) ∧
  (J2P [] = true) ∧
  (∀ x, J2P [x] = true) ∧
  (∀ sto, J4H sto [] = some []) ∧
  (∀ sto b r, J4H sto (b :: r) = sto[b]?.bind fun x => (J4H sto r).bind fun l => some (x :: l)) ∧
  (∀ {α : Type} (a : α) (l : List α), (a :: l)[0]? = some a) ∧
  (∀ {α : Type} (a : α) (l : List α) (n : Nat), (a :: l)[n + 1]? = l[n]?) ∧
  (∀ {α : Type} (n : Nat), ([] : List α)[n]? = none) ∧
  (∀ {α : Type} (a b : α) (l : List α), (a :: l).set 0 b = b :: l) ∧
  (∀ {α : Type} (a b : α) (l : List α) (n : Nat), (a :: l).set (n + 1) b = a :: l.set n b) ∧
  (∀ {α : Type} (l : List α), [] ++ l = l) ∧
  (∀ {α : Type} (l : List α), l ++ [] = l) ∧
  (∀ {α : Type} (a : α) (l r : List α), (a :: l) ++ r = a :: (l ++ r)) ∧
  (∀ {α : Type} (a : α), List.replicate 0 a = []) ∧
  (∀ {α : Type} (a : α) (n : Nat), List.replicate (n + 1) a = a :: List.replicate n a) ∧
  (∀ {α β : Type} (g : α → β), List.map g [] = []) ∧
  (∀ {α β : Type} (g : α → β) (a : α) (l : List α), List.map g (a :: l) = g a :: List.map g l) ∧
  (∀ {α : Type}, ([] : List α).length = 0) ∧
  (∀ {α : Type} (a : α) (l : List α), (a :: l).length = l.length + 1) ∧
  (∀ {α : Type} (l : List α), l.take 0 = []) ∧
  (∀ {α : Type} (a : α) (l : List α) (n : Nat), (a :: l).take (n + 1) = a :: l.take n) ∧
  (∀ {α β : Type} (l : List β), ([] : List α).zip l = []) ∧
  (∀ {α β : Type} (a : α) (b : β) (l : List α) (r : List β), (a :: l).zip (b :: r) = (a, b) :: l.zip r) ∧
  (∀ n, 0 + n = n) ∧
  (∀ n, n + 0 = n) ∧
  (∀ k n, r_i k n = [.i k n]) ∧
  (∀ x, r_b x = [.b x]) ∧
  (∀ x, r_s x = [.s x]) ∧
  (∀ {α : Type} (e : Nat) (g : α → List PV) (l : List α), Jek e g l = [.sl e (l.map g)]) ∧
  (∀ (a : PV), sub [a] 0 1 = some [a]) ∧
  (∀ (a b : PV), spl [a] 0 [b] = some [b]) ∧
  (∀ {α : Type} (cs : List α), sub cs 0 0 = some []) ∧
  (∀ {α : Type} (a : α) (cs : List α) (n : Nat), sub (a :: cs) 0 (n + 1) = (sub cs 0 n).map (a :: ·)) ∧
  (∀ {α : Type} (a : α) (cs : List α) (n m : Nat), sub (a :: cs) (n + 1) m = sub cs n m) ∧
  (∀ {α : Type} (cs : List α), spl cs 0 [] = some cs) ∧
  (∀ {α : Type} (a b : α) (cs vs : List α), spl (a :: cs) 0 (b :: vs) = (spl cs 0 vs).map (b :: ·)) ∧
  (∀ {α : Type} (a : α) (cs : List α) (n : Nat) (vs : List α), spl (a :: cs) (n + 1) vs = (spl cs n vs).map (a :: ·)) ∧
  (∀ n b off l c cs, stB n b off l (.box (c :: cs)) = if l.length = n then (spl (c :: cs) off l).map fun cs => ⟨J0D, [(b, .box cs)]⟩ else none) ∧
  (∀ off size c a cs r, J0I ((off, size, c) :: r) (a :: cs) = if c.length = size then (spl (a :: cs) off c).bind fun cs => J0I r cs else none) ∧
  (∀ {α : Type} (a b : α), (if True then a else b) = a) ∧
  (∀ {α : Type} (a b : α), (if False then a else b) = b) ∧
  (∀ {α : Type} (a b : α), (if true = true then a else b) = a) ∧
  (∀ {α : Type} (a b : α), (if false = true then a else b) = b) ∧
  (∀ a, (True ∧ a) = a) ∧
  (∀ a, (a ∧ True) = a) ∧
  (∀ {α : Type} (a : α), (a = a) = True) ∧
  (∀ {α β : Type} (a : α) (b : β), (a, b).1 = a) ∧
  (∀ {α β : Type} (a : α) (b : β), (a, b).2 = b) :=
  ⟨by intros; rfl,
  by intros; rfl,
  by intros; rfl,
  by intros; rfl,
  by intros; rfl,
  by intros; rfl,
  by intros; rfl,
  by intros; rfl,
  by intros; rfl,
  by intros; rfl,
  rfl,
  by intros; rfl,
  by intros; rfl,
  by intros; rfl,
  by intros; rfl,
  by intros; rfl,
  by intros; rfl,
  by intros; rfl,
  by intros; rfl,
  by intros; rfl,
  by intros; rfl,
  by intros; rfl,
  by intros; rfl,
  by intros; rfl,
  by intros; rfl,
  by intros; rfl,
  by intros; rfl,
  by intros; rfl,
  by intros; rfl,
  by intros; rfl,
  by intros; rfl,
  by intros; rfl,
  by intros; rfl,
  by intros; rfl,
  by intros; rfl,
  by intros; rfl,
  by intros; rfl,
  by intros; rfl,
  by intros; rfl,
  by intros; rfl,
  by intros; rfl,
  by intros; rfl,
  by intros; rfl,
  by intros; rfl,
  by intros; rfl,
  by intros; rfl,
  by intros; rfl,
  by intros; rfl,
  by intros; rfl,
  by intros; rfl,
  by intros; rfl,
  by intros; rfl,
  by intros; rfl,
  by intros; rfl,
  by intros; rfl,
  by intros; rfl,
  by intros; rfl,
  rfl,
  by intros; rfl,
  by intro k x y; simp only [J0f, if_true, J5K, Option.map_some]; try rfl,
  by intro k x y; simp only [J0f, if_true, J5K, Option.map_some]; try rfl,
  by intro k x y; simp only [J0f, if_true, J5K, Option.map_some]; try rfl,
  by intro k x y; simp only [J0f, if_true, J5K, Option.map_some]; try rfl,
  by intro k x y; simp only [J0f, if_true, J5K, Option.map_some]; try rfl,
  by intro k x y; simp only [J0f, if_true, J5K, Option.map_some]; try rfl,
  by intro k x y; simp only [J0f, if_true, J5K, Option.map_some]; try rfl,
  by intro k x y; simp only [J0f, if_true, J5K, Option.map_some]; try rfl,
  by intro k x y; simp only [J0f, if_true, J5K, Option.map_some]; try rfl,
  by intro k x y; simp only [J0f, if_true, J5K, Option.map_some]; try rfl,
  by intro k x y; simp only [J0f, if_true, J5K, Option.map_some]; try rfl,
  by intro k x y; simp only [J0f, if_true, J5K, Option.map_some]; try rfl,
  by intro k x y; simp only [J0f, if_true, J5K, Joh]; split <;> rfl,
  by intro k x y; simp only [J0f, if_true, J5K, Jbq]; split <;> rfl,
  by intro k k2 x y; simp only [J0f, J8P, JoB]; split <;> rfl,
  by intro k k2 x y; simp only [J0f, J8P, J9i]; split <;> rfl,
  by intro x y; simp only [J0f, Jh4, J9h]; split <;> rfl,
  by intro x y; rfl,
  by intro x y; rfl,
  by intro x y; rfl,
  by intro x y; rfl,
  by intro x y; rfl,
  by intro x y; rfl,
  by intros; rfl,
  by intros; rfl,
  by intro ks a c; simp only [J0f, J67]; cases J14 ks a c <;> rfl,
  by intro ks a c; simp only [J0f, J67]; cases J14 ks a c <;> rfl,
  by intros; rfl,
  by intros; rfl,
  by intros; rfl,
  by intros; rfl,
  by intros; rfl,
  rfl,
  rfl,
  by intros; rfl,
  by intros; rfl,
  by intros; rfl,
  by intros; rfl,
  by intros; rfl,
  by intro g off n cs; simp only [J3s]; cases sub cs off n <;> rfl,
  by intro g off n c cs; simp only [J3s]; cases sub (c :: cs) off n <;> rfl,
  by intros; rfl,
  by intros; rfl,
  by intro cs; exact JcA cs,
  by intro c cs; simp only [J12, if_true]; cases unp (c :: cs) <;> rfl,
  by intros; rfl,
  by intros; rfl,
  by intros; rfl,
  by intros; rfl,
  rfl,
  by intro c r; simp only [unp]; cases unp r <;> rfl,
  by intros; rfl,
  by intros; rfl,
  by intros; rfl,
  by intros; rfl,
  by intros; rfl,
  by intros; rfl,
  by intros; rfl,
  by intros; rfl,
  by intro α β g l; simp,
  by intros; rfl,
  by intros; rfl,
  by intros; rfl,
  by intro env sto g n cs off; exact Jn8 ..,
  by intro env sto g n b off; exact JnO ..,
  by intro env sto g n b e i off; exact JnX ..,
  by intro g n off cs; exact Jpz ..,
  by intros; rfl,
  by intros; rfl,
  by intro env sto n b off v; exact JnC ..,
  by intro n b off cs vs; exact Jmw ..,
  by intro b off cs v; exact Jpi ..,
  by intro env sto n b e i off v; exact Jo1 ..,
  by intro n b e i off z c rows s; exact JpA ..,
  by intro n b e i off z cs rows s; exact Jpv ..,
  by intros; rfl,
  by intros; rfl,
  by intros; rfl,
  by intros; rfl,
  by intros; rfl,
  by intros; rfl,
  by intros; rfl,
  by intro n cs; exact JoP ..,
  by intros; rfl,
  by intros; rfl,
  by intro env sto e rows k n; exact Jlu ..,
  by intro env sto e b m k n; exact JkY ..,
  by intro e b m n w rows; exact Jn9 ..,
  by intros; rfl,
  by intros; rfl,
  by intros; rfl,
  by intro l k n; exact JoT ..,
  by intros; rfl,
  by intro g n e cs k i; exact Jp3 ..,
  by intros; rfl,
  by intros; rfl,
  @Jq5,
  by intro env sto b n new; exact Jls ..,
  @JpE,
  by intro env sto l new; exact Jlm ..,
  by intro env sto l new; exact JkB ..,
  by intros; rfl,
  by intro env sto off size x r; exact Joj ..,
  by intros; rfl,
  by intro off size vs cs r; exact Jgw ..,
  by intro off v cs r; exact Jl3 ..,
  by intros; rfl,
  by intro env sto x r; exact Jol ..,
  by intros; rfl,
  by intros; rfl,
  by intros; rfl,
  by intros; rfl,
  by intro env sto m; cases m <;> rfl,
  by intro env sto l; rw [JfE],
  by intro env sto x m r; exact JnK ..,
  by intro env sto x m r; exact JnQ ..,
  by intros; rfl,
  by intro env sto c r; exact J9A _ _ rfl ..,
  by intro env sto c r; exact J9A _ _ rfl ..,
  by intro env sto b o r; exact J9A _ _ rfl ..,
  by intro env sto c o r; exact J9A _ _ rfl ..,
  by intro env sto b x i o r; exact J9A _ _ rfl ..,
  by intro env sto b n r; exact Jlq ..,
  by intro env sto cs r; exact Jlz ..,
  @fr,
  by intros; rfl,
  by intro env sto c r; exact Jmo ..,
  by intro env sto b n r; exact Jm8 ..,
  by intros; rfl,
  by intro env sto f a c r; exact J9A _ _ rfl ..,
  by intro m ids sto f a c; exact Jnu ..,
  by intros; rfl,
  by intros; rfl,
  by intros; rfl,
  by intro env sto b c x ws; exact Jnj ..,
  by intros; rfl,
  by intro b c x r; exact JoZ ..,
  by intros; rfl,
  by intros; rfl,
  by intros; rfl,
  by intros; rfl,
  by intro env sto b; exact Jos ..,
  by intro env sto e rows; exact Jmm ..,
  by intro env sto l; exact JlD ..,
  by intro env sto e b n; exact Jl1 ..,
  by intro e n w rows; exact JlS ..,
  by intro env sto o e n new z ps; exact Jog ..,
  by intros; rfl,
  by intro env sto x r; exact JoJ ..,
  by intros; rfl,
  by intros; rfl,
  by intros; rfl,
  by intro env sto b n; exact Jk7 ..,
  by intros; rfl,
  by intros; rfl,
  @mk,
  by intros; rfl,
  by intros; rfl,
  by intro env sto s c lo hi; exact Jlk ..,
  by intro env sto s b n lo hi; exact JkV ..,
  by intros; rfl,
  by intros; rfl,
  @cl,
  by intros; rfl,
  by intro m k sto x r; exact Jou ..,
  by intros; rfl,
  by intro m ids sto x r; exact JoL ..,
  by intros; rfl,
  by intros; rfl,
  by intro m ids sto cs; exact JmJ ..,
  by intro m ids sto l; exact JfA m ids sto l,
  by intros; rfl,
  by intro m ids sto x r; exact Jok ..,
  by intros; rfl,
  by intros; rfl,
  by intros; rfl,
  by intros; rfl,
  by intros; rfl,
  by intro m ids sto b n; exact JnR ..,
  by intros; rfl,
  by intros; rfl,
  by intro m ids sto cs; exact JnW ..,
  by intro m ids sto x cs; exact JmU ..,
  by intros; rfl,
  by intros; rfl,
  by intros; rfl,
  by intros; rfl,
  by intros; rfl,
  by intro env sto t r; exact Jlc ..,
  by intro env sto t n g r; exact JlW ..,
  by intros; rfl,
  rfl,
  by intros; rfl,
  by intros; rfl,
  by intro m b sto r; exact JoA ..,
  by intro m b sto r; exact JmD ..,
  by intros; rfl,
  by intros; rfl,
  by intros; rfl,
  by intros; rfl,
  by intros; rfl,
  by intro sto b r acc; exact Jo5 ..,
  by intros; rfl,
  by intros; rfl,
  by intros; rfl,
  by intros; rfl,
  by intro cs l; exact JjY cs l,
  by intros; rfl,
  by intros; rfl,
  by intros; rfl,
  by intros; rfl,
  by intros; rfl,
  by intros; rfl,
  by intros; rfl,
  by intros; rfl,
  by intro b c r; exact Jod ..,
  rfl,
  by intros; rfl,
  by intros; rfl,
  by intro sto b r; exact Jo4 ..,
  by intros; rfl,
  by intros; rfl,
  by intros; rfl,
  by intros; rfl,
  by intros; rfl,
  @Joi,
  @JoV,
  @JoF,
  by intros; rfl,
  by intros; rfl,
  @Jp9,
  @Joy,
  @Jpa,
  @Job,
  by intros; rfl,
  by intros; rfl,
  by intros; rfl,
  by intros; rfl,
  by intro n; exact Nat.zero_add n,
  by intros; rfl,
  @Jo9,
  @JoD,
  @Jmt,
  @Jop,
  @s1,
  by intros; rfl,
  by intro α cs; rw [J52]; simp,
  by intro α a cs n; exact Jlo ..,
  by intro α a cs n m; exact Jl6 ..,
  by intro α cs; rw [J5t]; simp,
  by intro α a b cs vs; exact JlT ..,
  by intro α a cs n vs; exact Jl0 ..,
  by intros; rfl,
  by intro off size c a cs r; exact Jmi ..,
  by intros; rfl,
  by intros; rfl,
  by intros; rfl,
  by intros; rfl,
  by intro a; simp,
  by intro a; simp,
  by intro α a; simp,
  by intros; rfl,
  by intros; rfl⟩
set_option maxRecDepth 30000 in
theorem Nf : (∀ {α : Type} (l : List α), [] ++ l = l) ∧
  (∀ {α : Type} (l : List α), l ++ [] = l) ∧
  (∀ {α : Type} (a : α) (l r : List α), (a :: l) ++ r = a :: (l ++ r)) ∧
  (∀ {α β : Type} (g : α → β), List.map g [] = []) ∧
  (∀ {α β : Type} (g : α → β) (a : α) (l : List α), List.map g (a :: l) = g a :: List.map g l) ∧
  (∀ {α : Type}, ([] : List α).length = 0) ∧
  (∀ {α : Type} (a : α) (l : List α), (a :: l).length = l.length + 1) ∧
  (∀ k n, r_i k n = [.i k n]) ∧
  (∀ x, r_b x = [.b x]) ∧
  (∀ x, r_s x = [.s x]) ∧
  (∀ {α : Type} (e : Nat) (g : α → List PV) (l : List α), Jek e g l = [.sl e (l.map g)]) :=
  ⟨@Joi,
  @JoV,
  @JoF,
  @Jp9,
  @Joy,
  @Jpa,
  @Job,
  @Jo9,
  @JoD,
  @Jmt,
  @Jop⟩
set_option maxRecDepth 30000 in
theorem Ra : (∀ F new env sto g n x, rdO F (.load g n x) new ⟨env, sto⟩ = rb (evv x env) fun a => Jd ((J1d g n a).reads ⟨env, sto⟩)) ∧
  (∀ s g n b o, Jd ((J1d g n (.ptr b o)).reads s) = [b]) ∧
  (∀ s g n o cs, Jd ((J1d g n (.cp cs o)).reads s) = []) ∧
  (∀ s g n b e i o, Jd ((J1d g n (.ep b e i o)).reads s) = [b]) ∧
  (∀ F new s z, rdO F (.newbox z) new s = [new]) ∧
  (∀ F new env sto n x y, rdO F (.store n x y) new ⟨env, sto⟩ = rb (evv x env) fun a => rb (evv y env) fun c => Jd ((J0X n a c).reads ⟨env, sto⟩)) ∧
  (∀ s n b o v, Jd ((J0X n (.ptr b o) v).reads s) = [b]) ∧
  (∀ s n b e i o c, Jd ((J0X n (.ep b e i o) (.p c)).reads s) = [b]) ∧
  (∀ s n b e i o c, Jd ((J0X n (.ep b e i o) (.data c)).reads s) = [b]) ∧
  (∀ F new env sto g args, rdO F (.call g args 0) new ⟨env, sto⟩ = rb ((evs args).run ⟨env, sto⟩) fun a => Jd ((Ju a).reads ⟨env, sto⟩) ++ rb ((Ju a).run ⟨env, sto⟩) fun a => Jd ((Jr F g a 0 new).reads ⟨env, sto⟩)) ∧
  (∀ F new env sto g args, rdO F (.call g args 1) new ⟨env, sto⟩ = new :: rb (is1 sto[new]?) fun _ => rb ((evs args).run ⟨env, sto⟩) fun a => Jd ((Ju a).reads ⟨env, sto⟩) ++ rb ((Ju a).run ⟨env, sto⟩) fun a => Jd ((Jr F g a 1 new).reads ⟨env, sto⟩)) ∧
  (is1 (some .dead) = some ()) ∧
  (∀ {α β : Type} (a : α) (f : α → List β), rb (some a) f = f a) ∧
  (∀ F new env sto g args, rdO F (.callv g args 0) new ⟨env, sto⟩ = rb (evv g env) fun u => cvl u fun h a1 c1 => rb ((evs args).run ⟨env, sto⟩) fun a => Jd ((Ju (a1 ++ a ++ c1)).reads ⟨env, sto⟩) ++ rb ((Ju (a1 ++ a ++ c1)).run ⟨env, sto⟩) fun a => Jd ((Jr F h a 0 new).reads ⟨env, sto⟩)) ∧
  (∀ {α : Type} (f : FuncId) (a c : List AV) (k : FuncId → List AV → List AV → List α), cvl (.fn f a c) k = k f a c) ∧
  (∀ s, Jd ((Ju []).reads s) = []) ∧
  (∀ s c r, Jd ((Ju (.p c :: r)).reads s) = Jd ((Ju r).reads s)) ∧
  (∀ s c r, Jd ((Ju (.data c :: r)).reads s) = Jd ((Ju r).reads s)) ∧
  (∀ s b o r, Jd ((Ju (.ptr b o :: r)).reads s) = Jd ((Ju r).reads s)) ∧
  (∀ s c o r, Jd ((Ju (.cp c o :: r)).reads s) = Jd ((Ju r).reads s)) ∧
  (∀ s b x i o r, Jd ((Ju (.ep b x i o :: r)).reads s) = Jd ((Ju r).reads s)) ∧
  (∀ s b n r, Jd ((Ju (.slr b 0 n :: r)).reads s) = b :: rb ((J5h (.slr b 0 n)).run s) fun _ => Jd ((Ju r).reads s)) ∧
  (∀ F new s e n z ps, rdO F (.lits false e n z ps) new s = Jd ((fzs (ps.map (·.2))).reads s)) ∧
  (∀ F new env sto e n z ps, rdO F (.lits true e n z ps) new ⟨env, sto⟩ = new :: rb (is1 sto[new]?) fun _ => Jd ((fzs (ps.map (·.2))).reads ⟨env, sto⟩)) ∧
  (∀ s, Jd ((fzs []).reads s) = []) ∧
  (∀ env sto x r, Jd ((fzs (x :: r)).reads ⟨env, sto⟩) = rb (evv x env) fun v => Jd ((fz v).reads ⟨env, sto⟩) ++ rb ((fz v).run ⟨env, sto⟩) fun _ => Jd ((fzs r).reads ⟨env, sto⟩)) ∧
  (∀ s c, Jd ((fz (.p c)).reads s) = []) ∧
  (∀ s c, Jd ((fz (.data c)).reads s) = []) ∧
  (∀ s b n, Jd ((fz (.slr b 0 n)).reads s) = [b]) ∧
  (∀ F new env sto x, rdO F (.conv .toStr x) new ⟨env, sto⟩ = rb (evv x env) fun a => Jd ((JU 1 a).reads ⟨env, sto⟩)) ∧
  (∀ s e b n, Jd ((JU e (.slr b 0 n)).reads s) = [b]) ∧
  (∀ s e z rows, Jd ((JU e (.p (.sl z rows))).reads s) = []) ∧
  (∀ F new env sto e x i, rdO F (.iaddr e x i) new ⟨env, sto⟩ = rb (evv x env) fun a => rb (evv i env) fun c => Jd ((J1O e a c).reads ⟨env, sto⟩)) ∧
  (∀ s e b n k i, Jd ((J1O e (.slr b 0 n) (.p (.i k i))).reads s) = [b]) ∧
  (∀ s e z rows k i, Jd ((J1O e (.p (.sl z rows)) (.p (.i k i))).reads s) = []) ∧
  (∀ a b c d, pkk (some (a, b)) (some (c, d)) = (J3x b c && J3x b d && J3x a d)) ∧
  (∀ b, J3x [] b = true) ∧
  (∀ x a b, J3x (x :: a) b = (!(b.contains x) && J3x a b)) ∧
  (∀ x, ([] : List Nat).contains x = false) ∧
  (∀ (x y : Nat) (l : List Nat), (y :: l).contains x = (x == y || l.contains x)) ∧
  (∀ a, (true && a) = a) ∧
  (∀ a, (false && a) = false) ∧
  (∀ a, (true || a) = true) ∧
  (∀ a, (false || a) = a) :=
  ⟨by intro F new env sto g n x; exact JnF ..,
  by intro s g n b o; exact JnZ ..,
  by intro s g n o cs; exact Jp1 ..,
  by intro s g n b e i o; exact Jo6 ..,
  by intro F new s z; exact JjF ..,
  by intro F new env sto n x y; exact Jli ..,
  by intro s n b o v; exact JmG ..,
  by intro s n b e i o c; exact JlA ..,
  by intro s n b e i o c; exact JkR ..,
  by intro F new env sto g args; exact Jlp ..,
  by intro F new env sto g args; exact JkL ..,
  rfl,
  by intros; rfl,
  by intro F new env sto g args; exact JjU ..,
  by intros; rfl,
  by intros; rfl,
  by intro s c r; exact J8y s rfl r,
  by intro s c r; exact J8y s rfl r,
  by intro s b o r; exact J8y s rfl r,
  by intro s c o r; exact J8y s rfl r,
  by intro s b x i o r; exact J8y s rfl r,
  by intro s b n r; exact JmS ..,
  by intro F new s e n z ps; exact Jlg ..,
  by intro F new env sto e n z ps; exact JlI ..,
  by intros; rfl,
  by intro env sto x r; exact JoW ..,
  by intros; rfl,
  by intros; rfl,
  by intro s b n; exact Jbk ..,
  by intro F new env sto x; exact Jmq ..,
  by intro s e b n; exact Jkh ..,
  by intro s e z rows; exact JkK ..,
  by intro F new env sto e x i; exact JkS ..,
  by intro s e b n k i; exact Jkb ..,
  by intro s e z rows k i; exact JkX ..,
  by intros; rfl,
  by intros; rfl,
  by intro x a b; simp [J3x],
  by intros; rfl,
  by intro x y l; rw [List.contains_cons],
  by intro a; simp,
  by intro a; simp,
  by intro a; simp,
  by intro a; simp⟩
end Go.Am
end
