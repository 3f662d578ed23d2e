/-
  Parts of a proof: AmEv.
-/
import Derived.Test.YteiakclfpfmigaaM5
set_option linter.unusedSimpArgs false
set_option linter.unusedVariables false
section
namespace Go.Am
@[congr] theorem Jnz {T : J3r} {f : AFn} {m : Nat} {k : List Fr} {o o' : Option Out} (h : o = o') : rk T f m k o = rk T f m k o' := by rw [h]
def tdn (e : AX) (o : Option St) : Option Out := match o with
  | some s => some (e, s)
  | none => none
def JhD (fresh : Bool) (m : Nat) (vs : List AV) (sto : List Blk) (ids : List Nat) : Option Res :=
  if J2k ids = true then (fin.finL m ids sto vs).bind fun ws => (J2p m ids sto (sto.take m)).bind fun l => (J4H sto ids).bind fun q => (J2p m ids sto q).bind fun q => some (one ws, l ++ q) else none
def Jcb (res : List J8e) (fresh : Bool) (m : Nat) (s : St) : Option Res :=
  ((J3X res).run s).bind fun vs => if s.sto.length = m then some (one vs, s.sto) else JhD fresh m vs s.sto (J0S m fresh s.sto (J58 s.sto (JX.entsOfL vs []) (JX.entsOfL vs [])))
theorem JbX (res : List J8e) (fresh : Bool) (m : Nat) (s : St) : J2V ⟨0, 0, .skip, res, fresh⟩ m s = Jcb res fresh m s := by
  unfold J2V Jcb
  dsimp only
  cases (J3X res).run s with
  | none => rfl
  | some vs =>
    simp only [Option.bind_some]
    split
    · rfl
    · unfold JhD
      split
      · generalize J0S m fresh s.sto _ = ids
        cases fin.finL m ids s.sto vs <;> cases J2p m ids s.sto (s.sto.take m) <;> cases J4H s.sto ids <;> try rfl
        rename_i q
        simp only [Option.bind_some]
        cases J2p m ids s.sto q <;> rfl
      · rfl
theorem Jlf (T : J3r) (f : AFn) (m : Nat) (s : St) : rk T f m [] (some (.normal, s)) = Jcb f.res f.fresh m s := (Jjd T f m s).trans (JbX ..)
theorem Jkg (T : J3r) (f : AFn) (m : Nat) (s : St) : rk T f m [] (some (.ret, s)) = Jcb f.res f.fresh m s := (JiT T f m s).trans (JbX ..)
def dds {α : Type} (n new : Nat) (sto : List Blk) (o : Option α) : Option α := match (J4v new n).run ⟨[], sto⟩ with
  | some _ => o
  | none => none
def dd1 {α : Type} (b : Option Blk) (o : Option α) : Option α := match b with
  | some .dead => o
  | _ => none
@[congr] theorem Jnr {α : Type} {b b' : Option Blk} {o : Option α} (h : b = b') : dd1 b o = dd1 b' o := by rw [h]
theorem JnH {α : Type} (new : Nat) (sto : List Blk) (o : Option α) : dds 1 new sto o = dd1 sto[new]? o := by
  unfold dds dd1
  simp only [J4v, RM.run]
  cases sto[new]? with
  | none => rfl
  | some b => cases b <;> rfl
section
variable {F : Orc} {r : List J0J} {new d : Nat} {env : List (Nat × AV)} {sto : List Blk}
theorem Jg4 (n : Nat) : ∀ new, (J4v new n).run ⟨env, sto⟩ = (J4v new n).run ⟨[], sto⟩ := by
  induction n with
  | zero => intro new; rfl
  | succ n ih =>
    intro new
    simp only [J4v, RM.run]
    cases sto[new]? with
    | none => rfl
    | some b => cases b <;> first | exact ih _ | rfl
def lgA (l : Option Log) (a b : List Nat) : Option Log := l.map (· ++ [(a, b)])
def rdO (F : Orc) (op : AOp) (new : Nat) (s : St) : List Nat := Jb ((opD F op new).reads s)
abbrev GR := Option (St × Option Log)
def Jo (F : Orc) : List J0J → Nat → St → Option Log → GR
  | [], _, s, l => some (s, l)
  | i :: r, new, s, l => match (J1g F i new).run s with
    | some e => Jo F r (new + JJ i.op) (put i.dst e s) (lgA l (Jb ((J1g F i new).reads s)) (e.ws.map (·.1)))
    | none => none
theorem Ji3 (F : Orc) (ins : List J0J) : ∀ new s, Jo F ins new s none = (J20 F ins new s).map fun s => (s, none) := by
  induction ins with
  | nil => intro new s; rfl
  | cons i r ih =>
    intro new s
    simp only [Jo, J20]
    cases (J1g F i new).run s with
    | none => rfl
    | some e => exact ih _ _
theorem JiX (F : Orc) (ins : List J0J) : ∀ new s l, Jo F ins new s (some l) = (J3e F ins new s l).map fun x => (x.1, some x.2) := by
  induction ins with
  | nil => intro new s l; rfl
  | cons i r ih =>
    intro new s l
    simp only [Jo, J3e]
    cases (J1g F i new).run s with
    | none => rfl
    | some e => exact ih _ _ _
def Jke (o : GR) : Option Out := match o with
  | some (s, _) => some (.normal, s)
  | none => none
def Jhv (ps : List (Nat × Nat)) (o : GR) : Option Out := match o with
  | some (s, some l) => if J5P l ps = true then some (.normal, s) else none
  | _ => none
theorem Jlr (T : J3r) (f : AFn) (m : Nat) (k : List Fr) (d ins env sto) : rk T f m k (X T (.reg d [] ins) ⟨env, sto⟩) = rk T f m k (Jke (Jo (AF T) ins sto.length ⟨env, room (news ins) sto⟩ none)) := by
  rw [Jmz, Ji3]
  cases J20 (AF T) ins sto.length ⟨env, room (news ins) sto⟩ <;> rfl
theorem Jlh (T : J3r) (f : AFn) (m : Nat) (k : List Fr) (d p ps ins env sto) : rk T f m k (X T (.reg d (p :: ps) ins) ⟨env, sto⟩) = rk T f m k (Jhv (p :: ps) (Jo (AF T) ins sto.length ⟨env, room (news ins) sto⟩ (some []))) := by
  rw [Jkr, JiX]
  simp only [region]
  cases J3e (AF T) ins sto.length ⟨env, room (news ins) sto⟩ [] with
  | none => rfl
  | some x =>
    obtain ⟨s, l⟩ := x
    simp only [Option.map_some, Jhv]
    split <;> rfl
theorem stD {lg : Option Log} (op : AOp) : Jo F (⟨op, some d, none⟩ :: r) new ⟨env, sto⟩ lg = dds (JJ op) new sto (((opR F op new).run ⟨env, sto⟩).bind fun e => Jo F r (new + JJ op) ⟨(d, e.val) :: env, upd e.ws sto⟩ (lgA lg (rdO F op new ⟨env, sto⟩) (e.ws.map (·.1)))) := by
  have e0 : (J1g F ⟨op, some d, none⟩ new).run ⟨env, sto⟩ = dds (JJ op) new sto ((opR F op new).run ⟨env, sto⟩) := by
    simp only [J1g, opD, run_bind, Jg4 (env := env)]
    unfold dds
    cases (J4v new (JJ op)).run ⟨[], sto⟩ <;> rfl
  simp only [Jo, e0]
  unfold dds
  cases (J4v new (JJ op)).run ⟨[], sto⟩ with
  | none => rfl
  | some u => simp only []; cases (opR F op new).run ⟨env, sto⟩ <;> rfl
theorem Jft {lg : Option Log} (op : AOp) : Jo F (⟨op, none, none⟩ :: r) new ⟨env, sto⟩ lg = dds (JJ op) new sto (((opR F op new).run ⟨env, sto⟩).bind fun e => Jo F r (new + JJ op) ⟨env, upd e.ws sto⟩ (lgA lg (rdO F op new ⟨env, sto⟩) (e.ws.map (·.1)))) := by
  have e0 : (J1g F ⟨op, none, none⟩ new).run ⟨env, sto⟩ = dds (JJ op) new sto ((opR F op new).run ⟨env, sto⟩) := by
    simp only [J1g, opD, run_bind, Jg4 (env := env)]
    unfold dds
    cases (J4v new (JJ op)).run ⟨[], sto⟩ <;> rfl
  simp only [Jo, e0]
  unfold dds
  cases (J4v new (JJ op)).run ⟨[], sto⟩ with
  | none => rfl
  | some u => simp only []; cases (opR F op new).run ⟨env, sto⟩ <;> rfl
theorem st0 {lg : Option Log} {op : AOp} (h : JJ op = 0) : Jo F (⟨op, some d, none⟩ :: r) new ⟨env, sto⟩ lg = ((opR F op new).run ⟨env, sto⟩).bind fun e => Jo F r new ⟨(d, e.val) :: env, upd e.ws sto⟩ (lgA lg (rdO F op new ⟨env, sto⟩) (e.ws.map (·.1))) := by
  rw [stD, h]; rfl
theorem JnK {lg : Option Log} {op : AOp} (h : JJ op = 0) : Jo F (⟨op, none, none⟩ :: r) new ⟨env, sto⟩ lg = ((opR F op new).run ⟨env, sto⟩).bind fun e => Jo F r new ⟨env, upd e.ws sto⟩ (lgA lg (rdO F op new ⟨env, sto⟩) (e.ws.map (·.1))) := by
  rw [Jft, h]; rfl
def pk (u : AV) (a b : Option AV) : Option AV := match u with
  | .p (.b x) => if x = true then a else b
  | _ => none
@[congr] theorem Jnl {α : Type} {n n' new new' : Nat} {sto : List Blk} {o : Option α} (h : n = n') (h' : new = new') : dds n new sto o = dds n' new' sto o := by rw [h, h']
theorem J1c {α : Type} (n new : Nat) (sto : List Blk) : dds n new sto (none : Option α) = none := by
  unfold dds; split <;> rfl
theorem JjX {α β : Type} (n new : Nat) (sto : List Blk) (o : Option α) (g : α → Option β) : dds n new sto (o.bind g) = o.bind fun a => dds n new sto (g a) := by
  cases o with
  | none => exact J1c ..
  | some a => rfl
theorem JlP {β : Type} {K : Eff → Option β} {o : Option AV} : ((o.bind fun v => some ⟨v, []⟩).bind K) = o.bind fun v => K ⟨v, []⟩ := by cases o <;> rfl
def pkk (a b : Option (List Nat × List Nat)) : Bool := match a, b with
  | some a, some b => J3D a.2 b.1 && J3D a.2 b.2 && J3D a.1 b.2
  | _, _ => false
theorem bi {α β : Type} {o : Option α} {f : α → Option β} {r : β} (h : Option.bind o f = some r) : ∃ x, o = some x ∧ f x = some r := Option.bind_eq_some_iff.1 h
theorem sj {α : Type} {a b : α} (h : some a = some b) : a = b := Option.some.inj h
theorem mi {α β : Type} {o : Option α} {f : α → β} {r : β} (h : Option.map f o = some r) : ∃ x, o = some x ∧ f x = r := Option.map_eq_some_iff.1 h
inductive Dum {α : Type} : α → Type where
  | mk (a : α) : Dum a
def J54 {α : Type} (a : α) (_ : Dum a) : α := a
def pkh {β : Type} (u : AV) (a b : Option AV) (K : AV → Option β) : Option β := (pk u a b).bind K
theorem Jkk {β : Type} {K : Eff → Option β} {a b : Opd} {o : Option AV} : ((o.bind fun u => RM.run (match u with
    | .p (.b x) => if x = true then (ev a).bind fun v => .ret ⟨v, []⟩ else (ev b).bind fun v => .ret ⟨v, []⟩
    | _ => .fail) ⟨env, sto⟩).bind K) = o.bind fun u => (pk u (evv a env) (evv b env)).bind fun v => K ⟨v, []⟩ := by
  cases o with
  | none => rfl
  | some u =>
    simp only [Option.bind_some]
    cases u with
    | p c =>
      cases c with
      | b x =>
        cases x with
        | true => simp only [if_true, run_bind, J0t, pk]; cases evv a env <;> rfl
        | false => simp only [Bool.false_eq_true, if_false, run_bind, J0t, pk]; cases evv b env <;> rfl
      | _ => rfl
    | _ => rfl
theorem J9a {β : Type} {K : Eff → Option β} {o : Option AV} (g : AV → Option AV) : ((o.bind fun a => (Go.Am.val (g a)).run ⟨env, sto⟩).bind K) = o.bind fun a => (g a).bind fun v => K ⟨v, []⟩ := by
  cases o with
  | none => rfl
  | some a => simp only [Option.bind_some]; cases g a <;> rfl
theorem Je6 {β : Type} {K : Eff → Option β} {o o' : Option AV} (g : AV → AV → Option AV) : ((o.bind fun a => o'.bind fun c => (Go.Am.val (g a c)).run ⟨env, sto⟩).bind K) = o.bind fun a => o'.bind fun c => (g a c).bind fun v => K ⟨v, []⟩ := by
  cases o with
  | none => rfl
  | some a =>
    cases o' with
    | none => rfl
    | some c => simp only [Option.bind_some]; cases g a c <;> rfl
theorem Jfx {β : Type} {o : Option AV} (g : AV → Option Eff) {k : Eff → Option β} : ((o.bind fun a => g a).bind k) = o.bind fun a => (g a).bind k := by
  cases o <;> rfl
theorem Jib {β : Type} {o o' : Option AV} {e b : Nat} {z : List PV} {s : St} {k : Eff → Option β} : ((o.bind fun a => o'.bind fun c => RM.run (match zrs e z c with
    | some c1 => J5m e b a c1
    | none => .fail) s).bind k) = o.bind fun a => o'.bind fun c => (zrs e z c).bind fun c1 => ((J5m e b a c1).run s).bind k := by
  cases o with
  | none => rfl
  | some a => cases o' with
    | none => rfl
    | some c =>
      simp only [Option.bind_some]
      cases zrs e z c <;> rfl
theorem JcE {β : Type} {o o' : Option AV} (g : AV → AV → Option Eff) {k : Eff → Option β} : ((o.bind fun a => o'.bind fun c => g a c).bind k) = o.bind fun a => o'.bind fun c => (g a c).bind k := by
  cases o <;> cases o' <;> rfl
def JdT (a c : AV) : Option AV := match a, c with
  | .p (.s l), .p (.i _ n) => if 0 ≤ n then
      match l[n.toNat]? with
      | some u => some (.p (.i .u8 u.toNat))
      | none => none
    else none
  | _, _ => none
theorem JkY {β : Type} {K : Eff → Option β} {o o' : Option AV} : ((o.bind fun a => o'.bind fun c => RM.run (match a, c with
    | .p (.s l), .p (.i _ n) => if 0 ≤ n then
        match l[n.toNat]? with
        | some u => .ret ⟨.p (.i .u8 u.toNat), []⟩
        | none => .fail
      else .fail
    | _, _ => .fail) ⟨env, sto⟩).bind K) = o.bind fun a => o'.bind fun c => (JdT a c).bind fun v => K ⟨v, []⟩ := by
  cases o with
  | none => rfl
  | some a =>
    cases o' with
    | none => rfl
    | some c =>
      simp only [Option.bind_some, JdT]
      split
      · split
        · split <;> rfl
        · rfl
      · rfl
theorem JmO (l : List UInt8) (k : IntKind) (n : Int) : JdT (.p (.s l)) (.p (.i k n)) = (JdJ l n).map fun v => .p (.i .u8 v) := by
  simp only [JdT, JdJ]
  by_cases h : 0 ≤ n
  · simp only [if_pos h]; cases l[n.toNat]? <;> rfl
  · simp only [if_neg h]; rfl
def JcF (g : Bool) (n e : Nat) (a c : AV) : Option AV := match c with
  | .p (.i _ i) => if 0 ≤ i ∧ i < n then J3z g (i.toNat * e) e a else none
  | _ => none
theorem JkT {β : Type} {K : Eff → Option β} {g : Bool} {n e : Nat} {o o' : Option AV} : ((o.bind fun a => o'.bind fun c => RM.run (match c with
    | .p (.i _ i) => if 0 ≤ i ∧ i < n then Go.Am.val (J3z g (i.toNat * e) e a) else .fail
    | _ => .fail) ⟨env, sto⟩).bind K) = o.bind fun a => o'.bind fun c => (JcF g n e a c).bind fun v => K ⟨v, []⟩ := by
  cases o with
  | none => rfl
  | some a =>
    cases o' with
    | none => rfl
    | some c =>
      simp only [Option.bind_some, JcF]
      split
      · split
        · cases J3z g _ e a <;> rfl
        · rfl
      · rfl
theorem JmH (g : Bool) (n e : Nat) (cs : List PV) (k : IntKind) (i : Int) : JcF g n e (.data cs) (.p (.i k i)) = if 0 ≤ i ∧ i < n then (sub cs (i.toNat * e) e).bind (J1o g) else none := by
  simp only [JcF, J3z]
  split
  · cases sub cs (i.toNat * e) e <;> rfl
  · rfl
def Jff : AV → Option AV
  | .ptr b o => some (.ptr b o)
  | .cp cs o => some (.cp cs o)
  | .ep b e i o => some (.ep b e i o)
  | .fn f u c => some (.fn f u c)
  | _ => none
theorem JkH {β : Type} {K : Eff → Option β} {o : Option AV} : ((o.bind fun a => RM.run (match a with
    | .ptr b o => .ret ⟨.ptr b o, []⟩
    | .cp cs o => .ret ⟨.cp cs o, []⟩
    | .ep b e i o => .ret ⟨.ep b e i o, []⟩
    | .fn f u c => .ret ⟨.fn f u c, []⟩
    | _ => .fail) ⟨env, sto⟩).bind K) = o.bind fun a => (Jff a).bind fun v => K ⟨v, []⟩ := by
  cases o with
  | none => rfl
  | some a => cases a <;> rfl
def cvR (k : CK) (a : AV) (new : Nat) : RM Eff := match k, a with
  | .int k, .p (.i _ n) => .ret ⟨.p (.i k (k.wrap n)), []⟩
  | .same, .p (.s l) => .ret ⟨.p (.s l), []⟩
  | .toStr, a => (J0e 1 a).bind fun rows => match J3P rows with
    | some l => .ret ⟨.p (.s l), []⟩
    | none => .fail
  | .toBytes own, .p (.s l) => if own then .ret ⟨.slr new 0 l.length, [(new, .arr true 1 (l.map J2M))]⟩ else .ret ⟨.p (.sl 1 (l.map J2M)), []⟩
  | _, _ => .fail
theorem JjE {lg : Option Log} {c : CK} {x : Opd} : Jo F (⟨.conv c x, some d, none⟩ :: r) new ⟨env, sto⟩ lg = (evv x env).bind fun a => dds (JJ (.conv c x)) new sto (((cvR c a new).run ⟨env, sto⟩).bind fun e => Jo F r (new + JJ (.conv c x)) ⟨(d, e.val) :: env, upd e.ws sto⟩ (lgA lg (rdO F (.conv c x) new ⟨env, sto⟩) (e.ws.map (·.1)))) := by
  rw [stD]
  have : (opR F (.conv c x) new).run ⟨env, sto⟩ = (evv x env).bind fun a => (cvR c a new).run ⟨env, sto⟩ := by
    simp only [opR, run_bind, J0t]; rfl
  rw [this, Jfx (fun a => (cvR c a new).run ⟨env, sto⟩), JjX]
theorem JiF {lg : Option Log} {z : List PV} {ps : List (Nat × Nat × Opd)} : Jo F (⟨.build z ps, some d, none⟩ :: r) new ⟨env, sto⟩ lg = ((J1P ps).run ⟨env, sto⟩).bind fun l => (J0O l (z.map .p)).bind fun cs => (J1d true cs).bind fun v => Jo F r new ⟨(d, v) :: env, sto⟩ (lgA lg (rdO F (.build z ps) new ⟨env, sto⟩) []) := by
  rw [st0 (h := rfl)]
  simp only [opR, run_bind]
  cases (J1P ps).run ⟨env, sto⟩ with
  | none => rfl
  | some l =>
    simp only [Option.bind_some]
    cases J0O l (z.map .p) with
    | none => rfl
    | some cs => simp only [Option.bind_some]; cases J1d true cs <;> rfl
def J5W (x : Option Opd) (env : List (Nat × AV)) : Option (Option AV) := match x with
  | none => some none
  | some x => (evv x env).map some
theorem Jlo (x : Option Opd) : (evo x).run ⟨env, sto⟩ = J5W x env := by
  cases x with
  | none => rfl
  | some x => simp only [evo, run_bind, J0t, J5W]; cases evv x env <;> rfl
def slR (s : SK) (a : AV) (lo hi mx : Option AV) : RM Eff := match a with
  | .slr b i n => (fz (.slr b i n)).bind fun y => match y.1 with
    | [c] => match J3y s (.p c) lo hi mx with
      | some v => .ret ⟨v, y.2⟩
      | none => .fail
    | _ => .fail
  | a => Go.Am.val (J3y s a lo hi mx)
theorem Jia {lg : Option Log} {s : SK} {x : Opd} {lo hi mx : Option Opd} : Jo F (⟨.slice s x lo hi mx, some d, none⟩ :: r) new ⟨env, sto⟩ lg = (evv x env).bind fun a => (J5W lo env).bind fun lo1 => (J5W hi env).bind fun hi1 => (J5W mx env).bind fun mx1 => ((slR s a lo1 hi1 mx1).run ⟨env, sto⟩).bind fun e => Jo F r new ⟨(d, e.val) :: env, upd e.ws sto⟩ (lgA lg (rdO F (.slice s x lo hi mx) new ⟨env, sto⟩) (e.ws.map (·.1))) := by
  rw [st0 (h := rfl)]
  have : (opR F (.slice s x lo hi mx) new).run ⟨env, sto⟩ = (evv x env).bind fun a => (J5W lo env).bind fun lo => (J5W hi env).bind fun hi => (J5W mx env).bind fun mx => (slR s a lo hi mx).run ⟨env, sto⟩ := by
    simp only [opR, run_bind, J0t, Jlo]; rfl
  rw [this]
  cases evv x env with
  | none => rfl
  | some a =>
    cases J5W lo env with
    | none => rfl
    | some lo =>
      cases J5W hi env with
      | none => rfl
      | some hi => cases J5W mx env <;> rfl
def slX (s : SK) (x : AV) (lo hi : Option AV) : Option AV := J3y s x lo hi none
theorem Jhs {lg : Option Log} {z : List PV} : Jo F (⟨.newbox z, some d, none⟩ :: r) new ⟨env, sto⟩ lg = dds 1 new sto (Jo F r (new + 1) ⟨(d, .ptr new 0) :: env, sto.set new (.box (z.map .p))⟩ (lgA lg (rdO F (.newbox z) new ⟨env, sto⟩) [new])) := by
  rw [stD]; rfl
def JfV (e b : Nat) (a : AV) (add : List (List PV)) : Option (List (List PV)) := match a with
  | .p (.slc e' rows) => if e = e' ∧ 0 < add.length ∧ J6a (rows.length + add.length) b = true then some (rows ++ add) else none
  | _ => none
theorem Jk2 {lg : Option Log} {e b : Nat} {z : List PV} {x y : Opd} : Jo F (⟨.appc e b z x y, some d, none⟩ :: r) new ⟨env, sto⟩ lg = (evv x env).bind fun a => (evv y env).bind fun c => ((J0e e c).run ⟨env, sto⟩).bind fun add => (JfV e b a add).bind fun rows => dds 1 new sto (Jo F r (new + 1) ⟨(d, .slr new 0 rows.length) :: env, sto.set new (.arr true e rows)⟩ (lgA lg (rdO F (.appc e b z x y) new ⟨env, sto⟩) [new])) := by
  rw [stD]
  simp only [opR, run_bind, J0t, JJ]
  cases evv x env with
  | none => exact J1c ..
  | some a =>
    simp only [Option.bind_some]
    cases evv y env with
    | none => exact J1c ..
    | some c =>
      simp only [Option.bind_some]
      cases hq : (J0e e c).run ⟨env, sto⟩ with
      | none =>
        have : (JcN e b a c new).run ⟨env, sto⟩ = none := by
          unfold JcN; split
          · simp only [run_bind, hq]; rfl
          · rfl
        rw [this]; exact J1c ..
      | some add =>
        simp only [Option.bind_some]
        have : (JcN e b a c new).run ⟨env, sto⟩ = (JfV e b a add).map fun rows => ⟨.slr new 0 rows.length, [(new, .arr true e rows)]⟩ := by
          cases a with
          | p q => cases q with
            | slc e' rows =>
              simp only [JcN, JfV, run_bind, hq, Option.bind_some]
              split
              · simp [J0P]
              · rfl
            | _ => rfl
          | _ => rfl
        rw [this]
        cases JfV e b a add with
        | none => exact J1c ..
        | some rows => rfl
theorem Jj2 {lg : Option Log} {e b : Nat} {z : List PV} {y : Opd} : Jo F (⟨.appn e b z y, some d, none⟩ :: r) new ⟨env, sto⟩ lg = (evv y env).bind fun c => ((J0e e c).run ⟨env, sto⟩).bind fun rows => if J6a rows.length b = true then dds 1 new sto (Jo F r (new + 1) ⟨(d, .slr new 0 rows.length) :: env, sto.set new (.arr true e rows)⟩ (lgA lg (rdO F (.appn e b z y) new ⟨env, sto⟩) [new])) else none := by
  rw [stD]
  simp only [opR, run_bind, J0t, JJ]
  cases evv y env with
  | none => exact J1c ..
  | some c =>
    simp only [Option.bind_some]
    cases (J0e e c).run ⟨env, sto⟩ with
    | none => exact J1c ..
    | some rows =>
      simp only [Option.bind_some]
      split
      · rfl
      · exact J1c ..
theorem Ji1 {lg : Option Log} {e : Nat} {x : Opd} : Jo F (⟨.mkarr e x, some d, none⟩ :: r) new ⟨env, sto⟩ lg = dds 1 new sto (Jo F r (new + 1) ⟨(d, .slr new 0 0) :: env, sto.set new (.arr true e [])⟩ (lgA lg (rdO F (.mkarr e x) new ⟨env, sto⟩) [new])) := by
  rw [stD]; rfl
def bxP (n : Nat) (a : AV) : Option (List AV) := match cellsOf a with
  | some cs => if cs.length = n then some cs else none
  | none => none
theorem JlA {lg : Option Log} {n : Nat} {x : Opd} : Jo F (⟨.box n x, some d, none⟩ :: r) new ⟨env, sto⟩ lg = (evv x env).bind fun a => (bxP n a).bind fun cs => dds 1 new sto (Jo F r (new + 1) ⟨(d, .ptr new 0) :: env, sto.set new (.box cs)⟩ (lgA lg (rdO F (.box n x) new ⟨env, sto⟩) [new])) := by
  rw [stD]
  simp only [opR, run_bind, J0t, JJ]
  cases evv x env with
  | none => exact J1c ..
  | some a =>
    simp only [Option.bind_some, bxP]
    cases cellsOf a with
    | none => exact J1c ..
    | some cs =>
      dsimp only
      split
      · rfl
      · exact J1c ..
def ltR (o : Bool) (e n : Nat) (z : List PV) (ps : List (Nat × Opd)) (new : Nat) : RM Eff := (fzs (ps.map (·.2))).bind fun a =>
    match J2G e ((ps.map (·.1)).zip a.1) (List.replicate n z) with
    | some rows => if o then .ret ⟨.slr new 0 n, a.2 ++ [(new, .arr true e rows)]⟩ else .ret ⟨.p (.sl e rows), a.2⟩
    | none => .fail
theorem Jka {lg : Option Log} {o : Bool} {e n : Nat} {z : List PV} {ps : List (Nat × Opd)} : Jo F (⟨.lits o e n z ps, some d, none⟩ :: r) new ⟨env, sto⟩ lg = dds (if o then 1 else 0) new sto (((ltR o e n z ps new).run ⟨env, sto⟩).bind fun x => Jo F r (new + if o then 1 else 0) ⟨(d, x.val) :: env, upd x.ws sto⟩ (lgA lg (rdO F (.lits o e n z ps) new ⟨env, sto⟩) (x.ws.map (·.1)))) := by
  rw [stD]; rfl
theorem Jm4 (env : List (Nat × AV)) (sto : List Blk) (o : Bool) (e n new : Nat) (z : List PV) (ps : List (Nat × Opd)) : (ltR o e n z ps new).run ⟨env, sto⟩ = ((fzs (ps.map (·.2))).run ⟨env, sto⟩).bind fun a => (J2G e ((ps.map (·.1)).zip a.1) (List.replicate n z)).map fun rows => if o then ⟨.slr new 0 n, a.2 ++ [(new, .arr true e rows)]⟩ else ⟨.p (.sl e rows), a.2⟩ := by
  simp only [ltR, run_bind]
  cases (fzs (ps.map (·.2))).run ⟨env, sto⟩ with
  | none => rfl
  | some a =>
    simp only [Option.bind_some]
    cases J2G e ((ps.map (·.1)).zip a.1) (List.replicate n z) with
    | none => rfl
    | some rows => cases o <;> rfl
def mkP (o : Bool) (e b : Nat) (z : List PV) (a c : AV) (new : Nat) : Option Eff := match a, c with
  | .p (.i _ n), .p (.i _ m) =>
    if 0 ≤ n ∧ n ≤ m ∧ b * m ≤ 281474976710656 ∧ m ≤ 281474976710656 then
      some (if o then ⟨.slr new 0 n.toNat, [(new, .arr true e (List.replicate n.toNat z))]⟩ else ⟨.p (.sl e (List.replicate n.toNat z)), []⟩)
    else none
  | _, _ => none
theorem Jmq (o : Bool) (e b : Nat) (z : List PV) (a c : AV) (new : Nat) (s : St) : RM.run (match a, c with
    | .p (.i _ n), .p (.i _ m) =>
      if 0 ≤ n ∧ n ≤ m ∧ b * m ≤ 281474976710656 ∧ m ≤ 281474976710656 then
        if o then .ret ⟨.slr new 0 n.toNat, [(new, .arr true e (List.replicate n.toNat z))]⟩
        else .ret ⟨.p (.sl e (List.replicate n.toNat z)), []⟩
      else .fail
    | _, _ => .fail) s = mkP o e b z a c new := by
  unfold mkP
  split
  · rename_i k n k2 m
    by_cases h : 0 ≤ n ∧ n ≤ m ∧ b * m ≤ 281474976710656 ∧ m ≤ 281474976710656
    · simp only [if_pos h]; cases o <;> rfl
    · simp only [if_neg h]; rfl
  · rfl
theorem Jgq {lg : Option Log} {o : Bool} {e b : Nat} {z : List PV} {l c : Opd} : Jo F (⟨.mkslice o e b z l c, some d, none⟩ :: r) new ⟨env, sto⟩ lg = (evv l env).bind fun a => (evv c env).bind fun x => dds (if o then 1 else 0) new sto ((mkP o e b z a x new).bind fun x => Jo F r (new + if o then 1 else 0) ⟨(d, x.val) :: env, upd x.ws sto⟩ (lgA lg (rdO F (.mkslice o e b z l c) new ⟨env, sto⟩) (x.ws.map (·.1)))) := by
  rw [stD]
  simp only [opR, run_bind, J0t, JJ]
  cases evv l env with
  | none => exact J1c ..
  | some a =>
    cases evv c env with
    | none => exact J1c ..
    | some x =>
      simp only [Option.bind_some]
      exact congrArg (fun y => dds (if o then 1 else 0) new sto (y.bind fun x => Jo F r (new + if o then 1 else 0) ⟨(d, x.val) :: env, upd x.ws sto⟩ (lgA lg (rdO F (.mkslice o e b z l c) new ⟨env, sto⟩) (x.ws.map (·.1))))) (Jmq o e b z a x new ⟨env, sto⟩)
theorem JbZ {F : Orc} {f : FuncId} {args args' : List AV} {b ext i esz : Nat} {row row' : List PV} {rows : List (List PV)} {bs : List Nat} {css css' : List (List AV)} {v : AV} (he : JX.entsOfL args [] = .elem b ext i :: bs.map .whole) (hn : J2k (b :: bs) = true)
    (hr : ren.renL (fun e => J1R e (.elem b ext i :: bs.map .whole) 0) args = some args') (hp : Jx css = true) (hF : F f args' (.box (row.map .p) :: css.map .box) = some (v, .box (row'.map .p) :: css'.map .box)) (hl : bs.length = css'.length) (hv : Jb6 v = true) (hp' : Jx css' = true)
    (ws : List (Nat × Blk)) (new : Nat) (s : St) (ha : (J4V ws b).run s = some (.arr true esz rows)) (hx : ext = rows.length) (hi : rows[i]? = some row) (hb : J0a ws s bs css) :
    (Jr F f (args, ws) 0 new).run s = some ⟨v, ws ++ (b, .arr true esz (rows.set i row')) :: bs.zip (css'.map .box)⟩ := by
  have e0 : ((Ent.elem b ext i :: bs.map Ent.whole)).map Ent.id = b :: bs := by rw [List.map_cons, List.map_map]; exact congrArg _ (List.map_id bs)
  have x1 : ∀ acc, (J4x ws (.elem b ext i :: bs.map .whole) acc).run s = some acc := fun acc => J8E hb hp
  have rp : ren.renL (fun e => J1R e (Ent.elem b ext i :: bs.map .whole) 0) (row.map AV.p) = some (row.map AV.p) := J3I (Ji row)
  have i1 : (J2A ws (fun e => J1R e (Ent.elem b ext i :: bs.map .whole) 0) (.elem b ext i :: bs.map .whole)).run s = some (.box (row.map .p) :: css.map .box) := by
    simp only [J2A, run_bind, J8s, ha, Option.bind_some, hx, if_true, hi, J0P]
    have := J83 (ρ := fun e => J1R e (Ent.elem b ext i :: bs.map .whole) 0) hb hp
    rw [hx] at this
    rw [this]
    rfl
  have o1 : (J1v ws (Ent.elem b ext i :: bs.map .whole) new (.elem b ext i :: bs.map .whole) (.box (row'.map .p) :: css'.map .box)).run s = some ((b, .arr true esz (rows.set i row')) :: bs.zip (css'.map .box)) := by
    simp only [J1v, run_bind, J65, ha, Option.bind_some, JcO, J0P, Jb8 hl hp']
  have e1 : (Blk.box (row'.map AV.p) :: css'.map Blk.box).length = (Ent.elem b ext i :: bs.map Ent.whole).length + 0 := by simp [hl]
  have e2 : (Blk.box (row'.map AV.p) :: css'.map Blk.box).drop (Ent.elem b ext i :: bs.map Ent.whole).length = [] := by simp [hl]
  simp only [Jr, run_bind, he, x1, Option.bind_some, e0, hn, if_true, hr, i1, hF, e1, e2, Jb4 hv, J25, o1, J0P, List.append_nil]
theorem Jjp {F : Orc} {f : FuncId} {args : List AV} {v : AV} (hp : args.all J2n = true) (hF : F f args [] = some (v, [])) (hb : ∀ new, bk [] new v = some v) (ws : List (Nat × Blk)) (new : Nat) (s : St) :
    (Jr F f (args, ws) 0 new).run s = some ⟨v, ws⟩ := by
  have e1 : JX.entsOfL args [] = [] := J3c hp
  simp [Jr, run_bind, e1, J4x, J0P, J2k, J3I hp, J2A, hF, J25, J1v, hb]
theorem Jhn {F : Orc} {f : FuncId} {args : List AV} {v : AV} {bs : List Blk} {k : Nat} {v' : Nat → AV} {ws' : Nat → List (Nat × Blk)} (hp : args.all J2n = true) (hF : F f args [] = some (v, bs)) (hb : ∀ new, bk [] new v = some (v' new))
    (hn : ∀ new, J25 [] new new bs = some (ws' new)) (hk : bs.length ≤ k) (ws : List (Nat × Blk)) (new : Nat) (s : St) : (J2o F f (args, ws) k new).run s = some ⟨v' new, ws ++ ws' new⟩ := by
  have e1 : JX.entsOfL args [] = [] := J3c hp
  simp [J2o, run_bind, e1, J4x, J0P, J2k, J3I hp, J2A, hF, J1v, hb, hn, hk]
def Jg6 (b : Nat) (B : Option Blk) (l : List Nat) : List Nat := match B with
  | some (.box _) => b :: l
  | some (.arr _ _ _) => b :: l
  | _ => l
theorem JkW (m b : Nat) (sto : List Blk) (r : List Ent) : J0S m true sto (.whole b :: r) = if b < m then J0S m true sto r else Jg6 b sto[b]? (J0S m true sto r) := by
  simp only [J0S, Jg6]
  split
  · rfl
  · split <;> simp_all
theorem JnD {α : Type} (n new : Nat) (sto : List Blk) (o : Option α) : dds (n + 1) new sto o = dd1 sto[new]? (dds n (new + 1) sto o) := by
  unfold dds dd1
  simp only [J4v, RM.run]
  cases sto[new]? with
  | none => rfl
  | some b => cases b <;> rfl
theorem JgD {lg : Option Log} {z : List PV} {os : List (Nat × Nat)} : Jo F (⟨.newboxo z os, some d, none⟩ :: r) new ⟨env, sto⟩ lg =
    dds (os.length + 1) new sto (Jo F r (new + (os.length + 1)) ⟨(d, .ptr (new + os.length) 0) :: env, upd (J2d os new ++ [(new + os.length, .box (J4S os new (z.map .p)))]) sto⟩
      (lgA lg (rdO F (.newboxo z os) new ⟨env, sto⟩) ((J2d os new ++ [(new + os.length, Blk.box (J4S os new (z.map .p)))]).map (·.1)))) := by
  rw [stD]; rfl
theorem JhF {lg : Option Log} {e : Nat} {x : Opd} : Jo F (⟨.storen e x, none, none⟩ :: r) new ⟨env, sto⟩ lg =
    (evv x env).bind fun a => dds 1 new sto (((J18 1 a (.slr new 0 0)).run ⟨env, sto⟩).bind fun q => Jo F r (new + 1) ⟨env, upd ((new, .arr true e []) :: q.ws) sto⟩ (lgA lg (rdO F (.storen e x) new ⟨env, sto⟩) (new :: q.ws.map (·.1)))) := by
  rw [Jft]
  simp only [opR, run_bind, J0t, JJ]
  cases evv x env with
  | none => exact J1c ..
  | some a => simp only [Option.bind_some]; cases (J18 1 a (.slr new 0 0)).run ⟨env, sto⟩ <;> rfl
theorem JhQ {lg : Option Log} {z : List PV} {ps : List (Nat × Nat × Opd)} {os : List (Nat × Nat)} : Jo F (⟨.buildo z ps os, some d, none⟩ :: r) new ⟨env, sto⟩ lg =
    ((J1P ps).run ⟨env, sto⟩).bind fun l => (J0O l (J4S os new (z.map .p))).bind fun cs => (J1d true cs).bind fun v =>
      dds os.length new sto (Jo F r (new + os.length) ⟨(d, v) :: env, upd (J2d os new) sto⟩ (lgA lg (rdO F (.buildo z ps os) new ⟨env, sto⟩) ((J2d os new).map (·.1)))) := by
  rw [stD]
  simp only [opR, run_bind, JJ]
  cases (J1P ps).run ⟨env, sto⟩ with
  | none => exact J1c ..
  | some l =>
    simp only [Option.bind_some]
    cases J0O l (J4S os new (z.map .p)) with
    | none => exact J1c ..
    | some cs =>
      simp only [Option.bind_some]
      cases J1d true cs with
      | none => exact J1c ..
      | some v => rfl
theorem Ji2 {lg : Option Log} {g : FuncId} {kp : List Bool} {args : List Opd} {n : Nat} : Jo F (⟨.callo g kp args n, some d, none⟩ :: r) new ⟨env, sto⟩ lg = dds n new sto (((evs args).run ⟨env, sto⟩).bind fun a => ((J1H kp a).run ⟨env, sto⟩).bind fun a => ((J2o F g a n new).run ⟨env, sto⟩).bind fun e => Jo F r (new + n) ⟨(d, e.val) :: env, upd e.ws sto⟩ (lgA lg (rdO F (.callo g kp args n) new ⟨env, sto⟩) (e.ws.map (·.1)))) := by
  rw [stD]
  simp only [opR, run_bind, JJ]
  cases (evs args).run ⟨env, sto⟩ with
  | none => rfl
  | some a => simp only [Option.bind_some]; cases (J1H kp a).run ⟨env, sto⟩ <;> rfl
theorem Jho {lg : Option Log} {g : FuncId} {kp : List Bool} {args : List Opd} {n : Nat} : Jo F (⟨.callo g kp args n, none, none⟩ :: r) new ⟨env, sto⟩ lg = dds n new sto (((evs args).run ⟨env, sto⟩).bind fun a => ((J1H kp a).run ⟨env, sto⟩).bind fun a => ((J2o F g a n new).run ⟨env, sto⟩).bind fun e => Jo F r (new + n) ⟨env, upd e.ws sto⟩ (lgA lg (rdO F (.callo g kp args n) new ⟨env, sto⟩) (e.ws.map (·.1)))) := by
  rw [Jft]
  simp only [opR, run_bind, JJ]
  cases (evs args).run ⟨env, sto⟩ with
  | none => rfl
  | some a => simp only [Option.bind_some]; cases (J1H kp a).run ⟨env, sto⟩ <;> rfl
theorem JeA : ∀ l : List AV, J1H [] l = JE l
  | [] => rfl
  | x :: r => by simp only [J1H, JE, JeA r]
theorem JlK (x : AV) (m : List Bool) (r : List AV) : (J1H (false :: m) (x :: r)).run ⟨env, sto⟩ = ((JE [x]).run ⟨env, sto⟩).bind fun a => ((J1H m r).run ⟨env, sto⟩).bind fun c => some (a.1 ++ c.1, a.2 ++ c.2) := by
  simp only [J1H, JE, run_bind]
  cases (J51 x).run ⟨env, sto⟩ with
  | none => rfl
  | some a => simp only [Option.bind_some, RM.run]; cases (J1H m r).run ⟨env, sto⟩ <;> simp
theorem JlM (x : AV) (m : List Bool) (r : List AV) : (J1H (true :: m) (x :: r)).run ⟨env, sto⟩ = ((J1H m r).run ⟨env, sto⟩).bind fun c => some (x :: c.1, c.2) := by
  simp only [J1H, run_bind]
  cases (J1H m r).run ⟨env, sto⟩ <;> rfl
theorem JjN {lg : Option Log} {g : FuncId} {args : List Opd} {n : Nat} : Jo F (⟨.call g args n, some d, none⟩ :: r) new ⟨env, sto⟩ lg = dds n new sto (((evs args).run ⟨env, sto⟩).bind fun a => ((JE a).run ⟨env, sto⟩).bind fun a => ((Jr F g a n new).run ⟨env, sto⟩).bind fun e => Jo F r (new + n) ⟨(d, e.val) :: env, upd e.ws sto⟩ (lgA lg (rdO F (.call g args n) new ⟨env, sto⟩) (e.ws.map (·.1)))) := by
  rw [stD]
  simp only [opR, run_bind, JJ, J7M]
  cases (evs args).run ⟨env, sto⟩ with
  | none => rfl
  | some a => simp only [Option.bind_some]; cases (JE a).run ⟨env, sto⟩ <;> rfl
theorem JiM {lg : Option Log} {g : FuncId} {args : List Opd} {n : Nat} : Jo F (⟨.call g args n, none, none⟩ :: r) new ⟨env, sto⟩ lg = dds n new sto (((evs args).run ⟨env, sto⟩).bind fun a => ((JE a).run ⟨env, sto⟩).bind fun a => ((Jr F g a n new).run ⟨env, sto⟩).bind fun e => Jo F r (new + n) ⟨env, upd e.ws sto⟩ (lgA lg (rdO F (.call g args n) new ⟨env, sto⟩) (e.ws.map (·.1)))) := by
  rw [Jft]
  simp only [opR, run_bind, JJ, J7M]
  cases (evs args).run ⟨env, sto⟩ with
  | none => rfl
  | some a => simp only [Option.bind_some]; cases (JE a).run ⟨env, sto⟩ <;> rfl
def cvg {α : Type} (u : AV) (k : FuncId → List AV → List AV → Option α) : Option α := match u with
  | .fn f a c => k f a c
  | _ => none
theorem JjR {lg : Option Log} {g : FuncId} {a c : List Opd} : Jo F (⟨.mkfn g a c, some d, none⟩ :: r) new ⟨env, sto⟩ lg = ((evs a).run ⟨env, sto⟩).bind fun a1 => ((evs c).run ⟨env, sto⟩).bind fun c1 => Jo F r new ⟨(d, .fn g a1 c1) :: env, sto⟩ (lgA lg (rdO F (.mkfn g a c) new ⟨env, sto⟩) []) := by
  rw [st0 (h := rfl)]
  simp only [opR, run_bind]
  cases (evs a).run ⟨env, sto⟩ with
  | none => rfl
  | some a1 => simp only [Option.bind_some]; cases (evs c).run ⟨env, sto⟩ <;> rfl
theorem Jiz {lg : Option Log} {g : Opd} {args : List Opd} {n : Nat} : Jo F (⟨.callv g args n, some d, none⟩ :: r) new ⟨env, sto⟩ lg = (evv g env).bind fun u => cvg u fun h a1 c1 => dds n new sto (((evs args).run ⟨env, sto⟩).bind fun a => ((JE (a1 ++ a ++ c1)).run ⟨env, sto⟩).bind fun a => ((Jr F h a n new).run ⟨env, sto⟩).bind fun q => Jo F r (new + n) ⟨(d, q.val) :: env, upd q.ws sto⟩ (lgA lg (rdO F (.callv g args n) new ⟨env, sto⟩) (q.ws.map (·.1)))) := by
  rw [stD]
  simp only [opR, run_bind, J0t, JJ]
  cases evv g env with
  | none => exact J1c ..
  | some u =>
    simp only [Option.bind_some]
    cases u with
    | fn h a1 c1 =>
      simp only [cvg, run_bind, J7M]
      cases (evs args).run ⟨env, sto⟩ with
      | none => rfl
      | some a => simp only [Option.bind_some]; cases (JE (a1 ++ a ++ c1)).run ⟨env, sto⟩ <;> rfl
    | _ => exact J1c ..
theorem JhR {lg : Option Log} {g : Opd} {args : List Opd} {n : Nat} : Jo F (⟨.callv g args n, none, none⟩ :: r) new ⟨env, sto⟩ lg = (evv g env).bind fun u => cvg u fun h a1 c1 => dds n new sto (((evs args).run ⟨env, sto⟩).bind fun a => ((JE (a1 ++ a ++ c1)).run ⟨env, sto⟩).bind fun a => ((Jr F h a n new).run ⟨env, sto⟩).bind fun q => Jo F r (new + n) ⟨env, upd q.ws sto⟩ (lgA lg (rdO F (.callv g args n) new ⟨env, sto⟩) (q.ws.map (·.1)))) := by
  rw [Jft]
  simp only [opR, run_bind, J0t, JJ]
  cases evv g env with
  | none => exact J1c ..
  | some u =>
    simp only [Option.bind_some]
    cases u with
    | fn h a1 c1 =>
      simp only [cvg, run_bind, J7M]
      cases (evs args).run ⟨env, sto⟩ with
      | none => rfl
      | some a => simp only [Option.bind_some]; cases (JE (a1 ++ a ++ c1)).run ⟨env, sto⟩ <;> rfl
    | _ => exact J1c ..
def grd {α : Type} (x : Option AV) (w : Bool) (a b : Option α) : Option α := match x with
  | some (.p (.b x)) => if x = w then a else b
  | some (.tup []) => b
  | _ => none
end
@[congr] theorem Jnq {α : Type} {x x' : Option AV} {w : Bool} {a b : Option α} (h : x = x') : grd x w a b = grd x' w a b := by rw [h]
theorem Jl7 (F : Orc) (r : List J0J) (new : Nat) (env : List (Nat × AV)) (sto : List Blk) (lg : Option Log) (op : AOp) (d : Option Nat) (g : Nat) (w : Bool) :
    Jo F (⟨op, d, some (g, w)⟩ :: r) new ⟨env, sto⟩ lg = grd (lk g env) w (Jo F (⟨op, d, none⟩ :: r) new ⟨env, sto⟩ lg) (Jo F r (new + JJ op) (put d ⟨J0L, []⟩ ⟨env, sto⟩) (lgA lg [] [])) := by
  simp only [Jo, J1g, RM.run, RM.reads]
  cases lk g env with
  | none => rfl
  | some v =>
    dsimp only
    cases v with
    | p c =>
      cases c with
      | b x =>
        simp only [grd]
        by_cases h : x = w
        · subst h; simp only [if_true]; rfl
        · simp only [if_neg h]; rfl
      | _ => rfl
    | tup l => cases l <;> rfl
    | _ => rfl
def JhA (k : Nat) (v : Option AV) (l : List (Nat × AV)) : List (Nat × AV) := match v with
  | some v => (k, v) :: l
  | none => l
def Jg7 (cs : List AV) (l : Option (List PV)) : AV := match l with
  | some l => .data l
  | none => .agg cs
def ldB (g : Bool) (n off : Nat) (B : Blk) : Option Eff := match B with
  | .box cs => (sub cs off n).bind fun l => (J1d g l).map fun v => ⟨v, []⟩
  | _ => none
def ldE (g : Bool) (n e i off : Nat) (B : Blk) : Option Eff := match B with
  | .arr _ _ rows => if e = rows.length then rows[i]?.bind fun row => (sub row off n).bind fun l => (J1o g l).map fun v => ⟨v, []⟩ else none
  | _ => none
theorem Jlp (env : List (Nat × AV)) (sto : List Blk) (g : Bool) (n : Nat) (cs : List PV) (off : Nat) : (J1s g n (.cp cs off)).run ⟨env, sto⟩ = (sub cs off n).bind fun l => (J1o g l).map fun v => ⟨v, []⟩ := by
  simp only [J1s]
  cases sub cs off n with
  | none => rfl
  | some l => simp only [Option.bind_some]; cases J1o g l <;> rfl
theorem JlN (env : List (Nat × AV)) (sto : List Blk) (g : Bool) (n b off : Nat) : (J1s g n (.ptr b off)).run ⟨env, sto⟩ = sto[b]?.bind fun B => ldB g n off B := by
  simp only [J1s, J44]
  cases sto[b]? with
  | none => rfl
  | some B =>
    cases B with
    | box cs =>
      simp only [Option.bind_some, ldB]
      cases sub cs off n with
      | none => rfl
      | some l => simp only [Option.bind_some]; cases J1d g l <;> rfl
    | _ => rfl
theorem JmX (g : Bool) (n off : Nat) (cs : List PV) : ldB g n off (.box (cs.map AV.p)) = (sub cs off n).bind fun l => (J1o g l).map fun v => ⟨v, []⟩ := by
  simp only [ldB, JjF]
  cases sub cs off n with
  | none => rfl
  | some l =>
    simp only [Option.map_some, Option.bind_some]
    cases g with
    | true => rw [Jc3]; rfl
    | false => match l with
      | [] => rfl
      | [_] => rfl
      | _ :: _ :: _ => rfl
theorem Jkv (env : List (Nat × AV)) (sto : List Blk) (g : Bool) (n b e i off : Nat) : (J1s g n (.ep b e i off)).run ⟨env, sto⟩ = sto[b]?.bind fun B => ldE g n e i off B := by
  simp only [J1s, J44]
  cases sto[b]? with
  | none => rfl
  | some B =>
    cases B with
    | arr w z rows =>
      simp only [Option.bind_some, ldE]
      split
      · cases rows[i]? with
        | none => rfl
        | some row =>
          simp only [Option.bind_some]
          cases sub row off n with
          | none => rfl
          | some l => simp only [Option.bind_some]; cases J1o g l <;> rfl
      · rfl
    | _ => rfl
def stB (n b off : Nat) (l : List AV) (B : Blk) : Option Eff := match B with
  | .box cs => if l.length = n then (spl cs off l).map fun cs => ⟨J0L, [(b, .box cs)]⟩ else none
  | _ => none
theorem JkR (env : List (Nat × AV)) (sto : List Blk) (n b off : Nat) (v : AV) : (J18 n (.ptr b off) v).run ⟨env, sto⟩ = sto[b]?.bind fun B => (cellsOf v).bind fun l => stB n b off l B := by
  simp only [J18, J44]
  cases sto[b]? with
  | none => rfl
  | some B =>
    simp only [Option.bind_some]
    cases B with
    | box cs =>
      dsimp only
      cases cellsOf v with
      | none => rfl
      | some l =>
        simp only [Option.bind_some, stB]
        split
        · cases spl cs off l <;> rfl
        · rfl
    | dead => cases cellsOf v <;> rfl
    | arr w z rows => cases cellsOf v <;> rfl
theorem Jko (n b off : Nat) (cs vs : List PV) : stB n b off (vs.map AV.p) (.box (cs.map AV.p)) = if vs.length = n then (spl cs off vs).map fun cs => ⟨J0L, [(b, .box (cs.map AV.p))]⟩ else none := by
  simp only [stB, List.length_map, Jga]
  split
  · cases spl cs off vs <;> rfl
  · rfl
theorem JmZ (b off : Nat) (cs : List PV) (v : PV) : stB 1 b off [AV.p v] (.box (cs.map AV.p)) = (spl cs off [v]).map fun cs => ⟨J0L, [(b, .box (cs.map AV.p))]⟩ := by
  have := Jko 1 b off cs [v]
  simpa using this
def stE (n b e i off : Nat) (v : AV) (B : Blk) (s : St) : Option Eff := match B with
  | .arr true z rows => if e = rows.length then
      match rows[i]? with
      | some row => ((fz v).run s).bind fun a =>
        if a.1.length = n ∧ (a.2.all fun y => y.1 != b) = true then
          match spl row off a.1 with
          | some row' => some ⟨J0L, a.2 ++ [(b, .arr true z (rows.set i row'))]⟩
          | none => none
        else none
      | none => none
    else none
  | _ => none
theorem Jlv (env : List (Nat × AV)) (sto : List Blk) (n b e i off : Nat) (v : AV) : (J18 n (.ep b e i off) v).run ⟨env, sto⟩ = sto[b]?.bind fun B => stE n b e i off v B ⟨env, sto⟩ := by
  simp only [J18, J44]
  cases sto[b]? with
  | none => rfl
  | some B =>
    simp only [Option.bind_some]
    cases B with
    | arr w z rows =>
      cases w with
      | false => rfl
      | true =>
        simp only [stE]
        split
        · cases rows[i]? with
          | none => rfl
          | some row =>
            simp only [run_bind]
            cases (fz v).run ⟨env, sto⟩ with
            | none => rfl
            | some a =>
              simp only [Option.bind_some]
              split
              · cases spl row off a.1 <;> rfl
              · rfl
        · rfl
    | _ => rfl
theorem Jnd (n b e i off z : Nat) (c : PV) (rows : List (List PV)) (s : St) : stE n b e i off (.p c) (.arr true z rows) s = if e = rows.length then rows[i]?.bind fun row => if 1 = n then (spl row off [c]).map fun row => ⟨J0L, [(b, .arr true z (rows.set i row))]⟩ else none else none := by
  simp only [stE, fz, J0P, Option.bind_some]
  split
  · cases rows[i]? with
    | none => rfl
    | some row =>
      simp only [Option.bind_some, List.length_cons, List.length_nil, List.all_nil, and_true]
      simp only [Nat.zero_add]
      split
      · cases spl row off [c] <;> rfl
      · rfl
  · rfl
theorem Jnf (n b e i off z : Nat) (cs : List PV) (rows : List (List PV)) (s : St) : stE n b e i off (.data cs) (.arr true z rows) s = if e = rows.length then rows[i]?.bind fun row => if cs.length = n then (spl row off cs).map fun row => ⟨J0L, [(b, .arr true z (rows.set i row))]⟩ else none else none := by
  simp only [stE, fz, J0P, Option.bind_some]
  split
  · cases rows[i]? with
    | none => rfl
    | some row =>
      simp only [Option.bind_some, List.all_nil, and_true]
      split
      · cases spl row off cs <;> rfl
      · rfl
  · rfl
theorem JmN (n : Nat) (cs : List PV) : bxP n (.data cs) = if cs.length = n then some (cs.map AV.p) else none := by simp [bxP, cellsOf]
theorem JiO (env : List (Nat × AV)) (sto : List Blk) (e : Nat) (rows : List (List PV)) (k : IntKind) (n : Int) : (J29 e (.p (.sl e rows)) (.p (.i k n))).run ⟨env, sto⟩ = (J7I rows n).map fun row => ⟨.cp row 0, []⟩ := by
  simp only [J29, if_true]
  cases J7I rows n <;> rfl
def iaB (e b m : Nat) (n : Int) (B : Blk) : Option Eff := match B with
  | .arr _ esz' rows => if e = esz' ∧ 0 + m = rows.length ∧ 0 ≤ n ∧ n < m then some ⟨.ep b rows.length (0 + n.toNat) 0, []⟩ else none
  | _ => none
theorem Jjv (env : List (Nat × AV)) (sto : List Blk) (e b m : Nat) (k : IntKind) (n : Int) : (J29 e (.slr b 0 m) (.p (.i k n))).run ⟨env, sto⟩ = sto[b]?.bind fun B => iaB e b m n B := by
  simp only [J29, J44]
  cases sto[b]? with
  | none => rfl
  | some B =>
    cases B with
    | arr w z rows => simp only [Option.bind_some, iaB]; split <;> rfl
    | _ => rfl
theorem JkZ (e b m : Nat) (n : Int) (w : Bool) (rows : List (List PV)) : iaB e b m n (.arr w e rows) = if m = rows.length ∧ 0 ≤ n ∧ n < m then some ⟨.ep b rows.length n.toNat 0, []⟩ else none := by
  simp [iaB]
theorem Jjf (env : List (Nat × AV)) (sto : List Blk) (l : List Int) (new : Nat) : (cvR .toStr (.p (.sl 1 (l.map (r_i .u8)))) new).run ⟨env, sto⟩ = some ⟨.p (.s (toStr l)), []⟩ := by
  simp only [cvR, J0e, if_true, run_bind, J0P, Option.bind_some, Jad]
def cvB (n : Nat) (B : Blk) : Option Eff := match B with
  | .arr _ z rows => if 1 = z ∧ 0 + n = rows.length then
      match J3P (rows.drop 0) with
      | some l => some ⟨.p (.s l), []⟩
      | none => none
    else none
  | _ => none
theorem JjW (env : List (Nat × AV)) (sto : List Blk) (b n new : Nat) : (cvR .toStr (.slr b 0 n) new).run ⟨env, sto⟩ = sto[b]?.bind fun B => cvB n B := by
  simp only [cvR, J0e, run_bind, J44]
  cases sto[b]? with
  | none => rfl
  | some B =>
    cases B with
    | arr w z rows =>
      simp only [Option.bind_some, cvB]
      split
      · simp only [J0P, Option.bind_some]; cases J3P (rows.drop 0) <;> rfl
      · rfl
    | _ => rfl
theorem Jl4 (n : Nat) (w : Bool) (l : List Int) : cvB n (.arr w 1 (l.map (r_i .u8))) = if n = l.length then some ⟨.p (.s (toStr l)), []⟩ else none := by
  simp only [cvB, List.drop_zero, Jad, List.length_map, Nat.zero_add, true_and]
theorem Jk1 (env : List (Nat × AV)) (sto : List Blk) (l : List UInt8) (new : Nat) : (cvR (.toBytes false) (.p (.s l)) new).run ⟨env, sto⟩ = some ⟨.p (.sl 1 ((J6h l).map (r_i .u8))), []⟩ := by
  simp [cvR, Jcs]
theorem Jio (env : List (Nat × AV)) (sto : List Blk) (l : List UInt8) (new : Nat) : (cvR (.toBytes true) (.p (.s l)) new).run ⟨env, sto⟩ = some ⟨.slr new 0 (J6h l).length, [(new, .arr true 1 ((J6h l).map (r_i .u8)))]⟩ := by
  have : (J6h l).length = l.length := by simp [J6h]
  simp [cvR, Jcs, this]
theorem JlV (env : List (Nat × AV)) (sto : List Blk) (off size : Nat) (x : Opd) (r : List (Nat × Nat × Opd)) : (J1P ((off, size, x) :: r)).run ⟨env, sto⟩ = (evv x env).bind fun v => (cellsOf v).bind fun cs => ((J1P r).run ⟨env, sto⟩).bind fun l => some ((off, size, cs) :: l) := by
  simp only [J1P, run_bind, J0t]
  cases evv x env with
  | none => rfl
  | some v =>
    simp only [Option.bind_some]
    cases cellsOf v with
    | none => rfl
    | some cs => simp only [Option.bind_some, run_bind]; cases (J1P r).run ⟨env, sto⟩ <;> rfl
theorem Jfb (off size : Nat) (vs cs : List PV) (r : List (Nat × Nat × List AV)) : J0O ((off, size, vs.map AV.p) :: r) (cs.map AV.p) = if vs.length = size then (spl cs off vs).bind fun cs => J0O r (cs.map AV.p) else none := by
  simp only [J0O, List.length_map, Jga]
  split
  · cases spl cs off vs <;> rfl
  · rfl
theorem JiZ (off : Nat) (v : PV) (cs : List PV) (r : List (Nat × Nat × List AV)) : J0O ((off, 1, [AV.p v]) :: r) (cs.map AV.p) = (spl cs off [v]).bind fun cs => J0O r (cs.map AV.p) := by
  have := Jfb off 1 [v] cs r
  simpa using this
theorem Jmj (env : List (Nat × AV)) (sto : List Blk) (x : Opd) (r : List Opd) : (evs (x :: r)).run ⟨env, sto⟩ = (evv x env).bind fun v => ((evs r).run ⟨env, sto⟩).bind fun vs => some (v :: vs) := by
  simp only [evs, run_bind, J0t]; rfl
theorem J96 (env : List (Nat × AV)) (sto : List Blk) {v : AV} (h : J51 v = .ret (v, [])) (r : List AV) : (JE (v :: r)).run ⟨env, sto⟩ = ((JE r).run ⟨env, sto⟩).bind fun a => some (v :: a.1, a.2) := by
  simp only [JE, h, run_bind, J0P, Option.bind_some, List.nil_append]
def frz (b n : Nat) (B : Blk) : Option (AV × (Nat × Blk)) := match B with
  | .arr _ z rows => if n = rows.length then some (.p (.sl z rows), (b, .arr false z rows)) else none
  | _ => none
def frp (b n : Nat) (B : Blk) : Option (PV × (Nat × Blk)) := match B with
  | .arr _ z rows => if n = rows.length then some (.sl z rows, (b, .arr false z rows)) else none
  | _ => none
theorem Jfp (env : List (Nat × AV)) (sto : List Blk) (b n : Nat) : (fz (.slr b 0 n)).run ⟨env, sto⟩ = sto[b]?.bind fun B => (frp b n B).bind fun x => some ([x.1], [x.2]) := by
  simp only [fz, J44]
  cases sto[b]? with
  | none => rfl
  | some B =>
    cases B with
    | arr w z rows =>
      simp only [Option.bind_some, frp, Nat.zero_add, List.drop_zero]
      split <;> rfl
    | _ => rfl
theorem Jlk (env : List (Nat × AV)) (sto : List Blk) (b n : Nat) : (fz.fz1 (.slr b 0 n)).run ⟨env, sto⟩ = sto[b]?.bind fun B => (frp b n B).bind fun x => some ([x.1], [x.2]) := by
  simp only [fz.fz1, J44]
  cases sto[b]? with
  | none => rfl
  | some B =>
    cases B with
    | arr w z rows =>
      simp only [Option.bind_some, frp, Nat.zero_add, List.drop_zero]
      split <;> rfl
    | _ => rfl
theorem JiY (env : List (Nat × AV)) (sto : List Blk) (b n : Nat) (r : List AV) : (JE (.slr b 0 n :: r)).run ⟨env, sto⟩ = sto[b]?.bind fun B => (frz b n B).bind fun x => ((JE r).run ⟨env, sto⟩).bind fun a => some (x.1 :: a.1, x.2 :: a.2) := by
  simp only [JE, J51, run_bind, Jfp]
  cases sto[b]? with
  | none => rfl
  | some B =>
    cases B with
    | arr w z rows =>
      simp only [Option.bind_some, frp, frz]
      split
      · simp only [Option.bind_some, J0P]; cases (JE r).run ⟨env, sto⟩ <;> rfl
      · rfl
    | _ => rfl
theorem Jk4 (env : List (Nat × AV)) (sto : List Blk) (cs : List AV) (r : List AV) : (JE (.agg cs :: r)).run ⟨env, sto⟩ = ((fz.fzL cs).run ⟨env, sto⟩).bind fun x => ((JE r).run ⟨env, sto⟩).bind fun a => some (.data x.1 :: a.1, x.2 ++ a.2) := by
  simp only [JE, J51, run_bind, fz]
  cases (fz.fzL cs).run ⟨env, sto⟩ with
  | none => rfl
  | some x => simp only [Option.bind_some, J0P]
theorem Jk7 (env : List (Nat × AV)) (sto : List Blk) (c : PV) (r : List AV) : (fz.fzL (.p c :: r)).run ⟨env, sto⟩ = ((fz.fzL r).run ⟨env, sto⟩).bind fun a => some (c :: a.1, a.2) := by
  simp only [fz.fzL, fz.fz1, run_bind, J0P, Option.bind_some]; rfl
theorem Jjw (env : List (Nat × AV)) (sto : List Blk) (b n : Nat) (r : List AV) : (fz.fzL (.slr b 0 n :: r)).run ⟨env, sto⟩ = sto[b]?.bind fun B => (frp b n B).bind fun x => ((fz.fzL r).run ⟨env, sto⟩).bind fun a => some (x.1 :: a.1, x.2 :: a.2) := by
  simp only [fz.fzL, run_bind, Jlk]
  cases sto[b]? with
  | none => rfl
  | some B =>
    simp only [Option.bind_some]
    cases frp b n B with
    | none => rfl
    | some x => simp only [Option.bind_some]; cases (fz.fzL r).run ⟨env, sto⟩ <;> rfl
theorem Jm3 (env : List (Nat × AV)) (sto : List Blk) (b : Nat) : (J4V [] b).run ⟨env, sto⟩ = sto[b]? := by
  simp only [J4V, J44]
  cases sto[b]? <;> rfl
theorem Jjh (env : List (Nat × AV)) (sto : List Blk) (e : Nat) (rows : List (List PV)) : (J0e e (.p (.sl e rows))).run ⟨env, sto⟩ = some rows := by simp [J0e]
theorem Jja (env : List (Nat × AV)) (sto : List Blk) (l : List UInt8) : (J0e 1 (.p (.s l))).run ⟨env, sto⟩ = some ((J6h l).map (r_i .u8)) := by simp [J0e, Jcs]
def roB (e n : Nat) (B : Blk) : Option (List (List PV)) := match B with
  | .arr _ z rows => if e = z ∧ 0 + n = rows.length then some (rows.drop 0) else none
  | _ => none
theorem JjB (env : List (Nat × AV)) (sto : List Blk) (e b n : Nat) : (J0e e (.slr b 0 n)).run ⟨env, sto⟩ = sto[b]?.bind fun B => roB e n B := by
  simp only [J0e, J44]
  cases sto[b]? with
  | none => rfl
  | some B =>
    cases B with
    | arr w z rows => simp only [Option.bind_some, roB]; split <;> rfl
    | _ => rfl
theorem Jj4 (e n : Nat) (w : Bool) (rows : List (List PV)) : roB e n (.arr w e rows) = if n = rows.length then some rows else none := by simp [roB]
theorem Jmk (env : List (Nat × AV)) (sto : List Blk) (x : Opd) (r : List Opd) : (fzs (x :: r)).run ⟨env, sto⟩ = (evv x env).bind fun v => ((fz v).run ⟨env, sto⟩).bind fun a => ((fzs r).run ⟨env, sto⟩).bind fun c => some (a.1 :: c.1, a.2 ++ c.2) := by
  simp only [fzs, run_bind, J0t]; rfl
theorem JhT (env : List (Nat × AV)) (sto : List Blk) (b n : Nat) : (fz (.slr b 0 n)).run ⟨env, sto⟩ = sto[b]?.bind fun B => (frp b n B).bind fun x => some ([x.1], [x.2]) := Jfp ..
theorem Jj1 (env : List (Nat × AV)) (sto : List Blk) (s : SK) (c : PV) (lo hi : Option AV) : (slR s (.p c) lo hi none).run ⟨env, sto⟩ = (slX s (.p c) lo hi).map fun v => ⟨v, []⟩ := by
  simp only [slR, slX]
  cases J3y s (.p c) lo hi none <;> rfl
theorem JjM (env : List (Nat × AV)) (sto : List Blk) (s : SK) (b n : Nat) (lo hi : Option AV) : (slR s (.slr b 0 n) lo hi none).run ⟨env, sto⟩ = sto[b]?.bind fun B => (frz b n B).bind fun x => (slX s x.1 lo hi).map fun v => ⟨v, [x.2]⟩ := by
  simp only [slR, run_bind, Jfp]
  cases sto[b]? with
  | none => rfl
  | some B =>
    cases B with
    | arr w z rows =>
      simp only [Option.bind_some, frp, frz]
      split
      · simp only [Option.bind_some, slX]; cases J3y s (.p (.sl z rows)) lo hi none <;> rfl
      · rfl
    | _ => rfl
theorem Jm7 (n : Nat) (live : List Nat) (env : List (Nat × AV)) (sto : List Blk) : J3B n live ⟨env, sto⟩ = if sto.length = n then some ⟨restr live env, sto⟩ else (J5A n sto (restr live env)).bind fun e => (J2p n [] sto (sto.take n)).bind fun l => some ⟨e, l⟩ := by
  simp only [J3B]
  split
  · rfl
  · cases J5A n sto (restr live env) with
    | none => rfl
    | some e => cases J2p n [] sto (sto.take n) <;> rfl
theorem JmJ (m k : Nat) (sto : List Blk) (x : AV) (r : List (Nat × AV)) : J5A m sto ((k, x) :: r) = (fin m [] sto x).bind fun y => (J5A m sto r).bind fun l => some ((k, y) :: l) := by
  simp only [J5A]
  cases fin m [] sto x with
  | none => rfl
  | some y => cases J5A m sto r <;> rfl
theorem Jmf (m : Nat) (ids : List Nat) (sto : List Blk) (x : Blk) (r : List Blk) : J2p m ids sto (x :: r) = (J2R m ids sto x).bind fun y => (J2p m ids sto r).bind fun l => some (y :: l) := by
  simp only [J2p]
  cases J2R m ids sto x with
  | none => rfl
  | some y => cases J2p m ids sto r <;> rfl
theorem Jlb (m : Nat) (ids : List Nat) (sto : List Blk) (cs : List AV) : J2R m ids sto (.box cs) = (fin.finL m ids sto cs).map .box := by
  simp only [J2R]
  cases fin.finL m ids sto cs <;> rfl
theorem Jm2 (m : Nat) (ids : List Nat) (sto : List Blk) (x : AV) (r : List AV) : fin.finL m ids sto (x :: r) = (fin m ids sto x).bind fun y => (fin.finL m ids sto r).bind fun l => some (y :: l) := by
  simp only [fin.finL]
  cases fin m ids sto x with
  | none => rfl
  | some y => cases fin.finL m ids sto r <;> rfl
def fsl (k : Option Nat) (n : Nat) (B : Option Blk) : Option AV := match k with
  | some k => some (.slr k 0 n)
  | none => match B with
    | some (.arr _ z rows) => if n = rows.length then some (.p (.sl z rows)) else none
    | _ => none
theorem Jlx (m : Nat) (ids : List Nat) (sto : List Blk) (b n : Nat) : fin m ids sto (.slr b 0 n) = if b < m then some (.slr b 0 n) else fsl (J5p b ids m) n sto[b]? := by
  simp only [fin]
  split
  · rfl
  · cases J5p b ids m with
    | some k => rfl
    | none =>
      simp only [fsl]
      cases sto[b]? with
      | none => rfl
      | some B => cases B <;> simp
theorem Jkz (m : Nat) (ids : List Nat) (sto : List Blk) (cs : List AV) : fin m ids sto (.agg cs) = (fin.finL m ids sto cs).bind fun l => some (Jg7 l (unp l)) := by
  simp only [fin]
  cases fin.finL m ids sto cs with
  | none => rfl
  | some l => simp only [Option.bind_some]; cases unp l <;> rfl
theorem JlC (m : Nat) (ids : List Nat) (sto : List Blk) (x : AV) (cs : List AV) : fin m ids sto (.tup (x :: cs)) = (fin.finL m ids sto (x :: cs)).map .tup := by
  simp only [fin]
  cases fin.finL m ids sto (x :: cs) <;> rfl
theorem Jjs (env : List (Nat × AV)) (sto : List Blk) (t : Nat) (r : List J8e) : (J3X (.tmp t :: r)).run ⟨env, sto⟩ = (lk t env).bind fun v => ((J3X r).run ⟨env, sto⟩).bind fun l => some (v :: l) := by
  simp only [J3X, run_bind, Jfc, J0P]
  cases lk t env <;> rfl
theorem Jjt (env : List (Nat × AV)) (sto : List Blk) (t n : Nat) (g : Bool) (r : List J8e) : (J3X (.cell t g n :: r)).run ⟨env, sto⟩ = (lk t env).bind fun v => ((J1s g n v).run ⟨env, sto⟩).bind fun e => ((J3X r).run ⟨env, sto⟩).bind fun l => some (e.val :: l) := by
  simp only [J3X, run_bind, Jfc, J0P]
  cases lk t env <;> rfl
def oid (b : Nat) (B : Option Blk) (l : List Nat) : List Nat := match B with
  | some (.box _) => b :: l
  | _ => l
theorem Jme (m b : Nat) (sto : List Blk) (r : List Ent) : J0S m false sto (.whole b :: r) = if b < m then J0S m false sto r else oid b sto[b]? (J0S m false sto r) := by
  simp only [J0S]
  split
  · rfl
  · unfold oid
    cases sto[b]? with
    | none => rfl
    | some B => cases B <;> simp
def ebb (B : Option Blk) (acc : List Ent) : List Ent := match B with
  | some (.box cs) => JX.entsOfL cs acc
  | _ => acc
theorem Jmr (sto : List Blk) (b : Nat) (r : List Ent) (acc : List Ent) : J58 sto (.whole b :: r) acc = J58 sto r (ebb sto[b]? acc) := by
  simp only [J58, ebb]
  cases sto[b]? with
  | none => rfl
  | some B => cases B <;> rfl
theorem JlS (b c : Nat) (r : List Ent) : J5c (.whole b) (.whole c :: r) = if c = b then .whole c :: r else .whole c :: J5c (.whole b) r := by
  simp only [J5c, List.any_cons]
  by_cases h : c = b
  · subst h; simp
  · simp [h]
    split <;> simp_all
theorem Jm6 (sto : List Blk) (b : Nat) (r : List Nat) : J4H sto (b :: r) = sto[b]?.bind fun x => (J4H sto r).bind fun l => some (x :: l) := by
  simp only [J4H]
  cases sto[b]? with
  | none => rfl
  | some x => cases J4H sto r <;> rfl
theorem JiU {α : Type} (a : α) (cs : List α) (n : Nat) : sub (a :: cs) 0 (n + 1) = (sub cs 0 n).map (a :: ·) := by
  rw [J5l, J5l]
  by_cases h : n ≤ cs.length
  · rw [if_pos (by simp; omega), if_pos (by omega)]; simp
  · rw [if_neg (by simp; omega), if_neg (by omega)]; rfl
theorem Jje {α : Type} (a : α) (cs : List α) (n m : Nat) : sub (a :: cs) (n + 1) m = sub cs n m := by
  rw [J5l, J5l]
  by_cases h : n + m ≤ cs.length
  · rw [if_pos (by simp; omega), if_pos h]; simp
  · rw [if_neg (by simp; omega), if_neg h]
theorem Jjq {α : Type} (a b : α) (cs vs : List α) : spl (a :: cs) 0 (b :: vs) = (spl cs 0 vs).map (b :: ·) := by
  rw [J5R, J5R]
  by_cases h : vs.length ≤ cs.length
  · rw [if_pos (by simp; omega), if_pos (by omega)]; simp
  · rw [if_neg (by simp; omega), if_neg (by omega)]; rfl
theorem Jjc {α : Type} (a : α) (cs : List α) (n : Nat) (vs : List α) : spl (a :: cs) (n + 1) vs = (spl cs n vs).map (a :: ·) := by
  rw [J5R, J5R]
  by_cases h : n + vs.length ≤ cs.length
  · rw [if_pos (by simp; omega), if_pos h]
    rw [show n + 1 + vs.length = (n + vs.length) + 1 by omega]; simp
  · rw [if_neg (by simp; omega), if_neg h]; rfl
theorem Jjj (off size : Nat) (c : List AV) (a : AV) (cs : List AV) (r : List (Nat × Nat × List AV)) : J0O ((off, size, c) :: r) (a :: cs) = if c.length = size then (spl (a :: cs) off c).bind fun cs => J0O r cs else none := by
  simp only [J0O]
  split
  · cases spl (a :: cs) off c <;> rfl
  · rfl
theorem Jle (m : Nat) (ids : List Nat) (sto : List Blk) (f : FuncId) (a c : List AV) : fin m ids sto (.fn f a c) = (fin.finL m ids sto a).bind fun a1 => (fin.finL m ids sto c).bind fun c1 => some (.fn f a1 c1) := by
  simp only [fin]
  cases fin.finL m ids sto a with
  | none => rfl
  | some a1 => cases fin.finL m ids sto c <;> rfl
def lwO (x y : Option Blk) : Option Blk := match x with
  | some x => some x
  | none => y
theorem JlW (b c : Nat) (x : Blk) (r : List (Nat × Blk)) : J1G b ((c, x) :: r) = lwO (J1G b r) (if c = b then some x else none) := by
  simp only [J1G]
  cases J1G b r <;> rfl
theorem Jlu (env : List (Nat × AV)) (sto : List Blk) (b c : Nat) (x : Blk) (ws : List (Nat × Blk)) : (J4V ((c, x) :: ws) b).run ⟨env, sto⟩ = sto[b]?.bind fun y => some ((J1G b ((c, x) :: ws)).getD y) := by
  simp only [J4V, J44]
  cases sto[b]? with
  | none => rfl
  | some y => simp only [Option.bind_some]; cases J1G b ((c, x) :: ws) <;> rfl
@[congr] theorem Jns {α : Type} {u u' : AV} {k : FuncId → List AV → List AV → Option α} (h : u = u') : cvg u k = cvg u' k := by rw [h]
theorem JfS (x : Opd) (s : St) : Jb ((ev x).reads s) = [] := by
  cases x with
  | t n => simp only [ev, RM.reads]; cases lk n s.env <;> rfl
  | c v => rfl
theorem Jhh (a b : List Loc) : Jb (a ++ b) = Jb a ++ Jb b := by
  induction a with
  | nil => rfl
  | cons x r ih => cases x <;> simp [Jb, ih]
def rb {α β : Type} (m : Option α) (f : α → List β) : List β := match m with
  | some a => f a
  | none => []
theorem J1m {α β : Type} (m : RM α) (f : α → RM β) (s : St) : Jb ((m.bind f).reads s) = Jb (m.reads s) ++ rb (m.run s) fun a => Jb ((f a).reads s) := by
  rw [J6C, Jhh]
  cases m.run s <;> rfl
theorem Jbj {β : Type} (x : Opd) (f : AV → RM β) (s : St) : Jb (((ev x).bind f).reads s) = rb (evv x s.env) fun a => Jb ((f a).reads s) := by
  rw [J1m, JfS, J0t]; rfl
theorem JaU (o : Option AV) (s : St) : Jb ((Go.Am.val o).reads s) = [] := by cases o <;> rfl
section
variable (F : Orc) (new : Nat) (env : List (Nat × AV)) (sto : List Blk)
theorem J9M {op : AOp} (h : JJ op = 0) (s : St) : rdO F op new s = Jb ((opR F op new).reads s) := by
  unfold rdO opD
  rw [J1m, h]; rfl
def is1 (b : Option Blk) : Option Unit := match b with
  | some .dead => some ()
  | _ => none
theorem Jhx {op : AOp} (h : JJ op = 1) (s : St) : rdO F op new s = new :: rb (is1 s.sto[new]?) fun _ => Jb ((opR F op new).reads s) := by
  unfold rdO opD
  rw [J1m, h]
  simp only [J4v, RM.reads, RM.run, Jb]
  cases s.sto[new]? with
  | none => rfl
  | some b => cases b <;> rfl
end
theorem Jm5 {α β : Type} (m : Option α) : (rb m fun _ => ([] : List β)) = [] := by cases m <;> rfl
theorem Jln (F : Orc) (new : Nat) (env : List (Nat × AV)) (sto : List Blk) (g : Bool) (n : Nat) (x : Opd) : rdO F (.load g n x) new ⟨env, sto⟩ = rb (evv x env) fun a => Jb ((J1s g n a).reads ⟨env, sto⟩) := by
  rw [J9M (h := rfl)]; exact Jbj ..
theorem Jl2 (s : St) (g : Bool) (n b o : Nat) : Jb ((J1s g n (.ptr b o)).reads s) = [b] := by
  simp only [J1s, RM.reads, Jb]
  cases s.sto[b]? with
  | none => rfl
  | some B =>
    cases B with
    | box cs => simp only []; cases sub cs o n with
      | none => rfl
      | some l => simp only [JaU]
    | _ => rfl
theorem JlU (s : St) (g : Bool) (n o : Nat) (cs : List PV) : Jb ((J1s g n (.cp cs o)).reads s) = [] := by
  simp only [J1s]
  cases sub cs o n with
  | none => rfl
  | some l => exact JaU ..
theorem JmM (s : St) (g : Bool) (n b e i o : Nat) : Jb ((J1s g n (.ep b e i o)).reads s) = [b] := by
  simp only [J1s, RM.reads, Jb]
  cases s.sto[b]? with
  | none => rfl
  | some B =>
    cases B with
    | arr w z rows =>
      simp only []
      split
      · cases rows[i]? with
        | none => rfl
        | some row =>
          simp only []
          cases sub row o n with
          | none => rfl
          | some l => simp only [JaU]
      · rfl
    | _ => rfl
theorem Jig (F : Orc) (new : Nat) (s : St) (z : List PV) : rdO F (.newbox z) new s = [new] := by
  rw [Jhx (h := rfl)]; simp only [opR, RM.reads, Jb, Jm5]
theorem Jkj (F : Orc) (new : Nat) (env : List (Nat × AV)) (sto : List Blk) (n : Nat) (x y : Opd) : rdO F (.store n x y) new ⟨env, sto⟩ = rb (evv x env) fun a => rb (evv y env) fun c => Jb ((J18 n a c).reads ⟨env, sto⟩) := by
  rw [J9M (h := rfl)]
  simp only [opR, Jbj]
theorem JkJ (s : St) (n b o : Nat) (v : AV) : Jb ((J18 n (.ptr b o) v).reads s) = [b] := by
  simp only [J18, RM.reads, Jb]
  cases s.sto[b]? with
  | none => rfl
  | some B =>
    cases B with
    | box cs =>
      simp only []
      cases cellsOf v with
      | none => rfl
      | some l =>
        simp only []
        split
        · cases spl cs o l <;> rfl
        · rfl
    | _ => rfl
theorem JiJ (s : St) (n b e i o : Nat) {v : AV} {c : List PV} (hv : fz v = .ret (c, [])) : Jb ((J18 n (.ep b e i o) v).reads s) = [b] := by
  simp only [J18, RM.reads, Jb]
  cases s.sto[b]? with
  | none => rfl
  | some B =>
    cases B with
    | arr w z rows =>
      cases w with
      | false => rfl
      | true =>
        simp only []
        split
        · cases rows[i]? with
          | none => rfl
          | some row =>
            simp only [hv, J1m, RM.reads, Jb, J0P, rb, List.nil_append]
            split
            · cases spl row o c <;> rfl
            · rfl
        · rfl
    | _ => rfl
theorem JjQ (s : St) (n b e i o : Nat) (c : PV) : Jb ((J18 n (.ep b e i o) (.p c)).reads s) = [b] := JiJ s n b e i o rfl
theorem Jjr (s : St) (n b e i o : Nat) (c : List PV) : Jb ((J18 n (.ep b e i o) (.data c)).reads s) = [b] := JiJ s n b e i o rfl
theorem Jb3 (s : St) : ∀ args, Jb ((evs args).reads s) = []
  | [] => rfl
  | x :: r => by
    simp only [evs, Jbj]
    cases evv x s.env with
    | none => rfl
    | some v =>
      simp only [rb, J1m, Jb3 s r, List.nil_append]
      cases (evs r).run s <;> rfl
theorem JcZ (F : Orc) (g : FuncId) (args : List Opd) (n new : Nat) (s : St) : Jb ((opR F (.call g args n) new).reads s) = rb ((evs args).run s) fun a => Jb ((JE a).reads s) ++ rb ((JE a).run s) fun a => Jb ((Jr F g a n new).reads s) := by
  simp only [opR, J1m, Jb3, List.nil_append, J7M]
theorem Jki (F : Orc) (new : Nat) (s : St) (g : FuncId) (args : List Opd) : rdO F (.call g args 0) new s = rb ((evs args).run s) fun a => Jb ((JE a).reads s) ++ rb ((JE a).run s) fun a => Jb ((Jr F g a 0 new).reads s) := by
  rw [J9M (h := rfl)]; exact JcZ ..
theorem Jk5 (F : Orc) (new : Nat) (s : St) (g : FuncId) (args : List Opd) : rdO F (.call g args 1) new s = new :: rb (is1 s.sto[new]?) fun _ => rb ((evs args).run s) fun a => Jb ((JE a).reads s) ++ rb ((JE a).run s) fun a => Jb ((Jr F g a 1 new).reads s) := by
  rw [Jhx (h := rfl)]; simp only [JcZ]
theorem J82 (s : St) {v : AV} (h : J51 v = .ret (v, [])) (r : List AV) : Jb ((JE (v :: r)).reads s) = Jb ((JE r).reads s) := by
  simp only [JE, h, J1m, RM.reads, Jb, J0P, rb, List.nil_append]
  cases (JE r).run s <;> simp [RM.reads, Jb]
theorem JaP (s : St) (b n : Nat) : Jb ((fz (.slr b 0 n)).reads s) = [b] := by
  simp only [fz, RM.reads, Jb]
  cases s.sto[b]? with
  | none => rfl
  | some B =>
    cases B with
    | arr w z rows => simp only []; split <;> rfl
    | _ => rfl
theorem JlB (s : St) (b n : Nat) (r : List AV) : Jb ((JE (.slr b 0 n :: r)).reads s) = b :: rb ((J51 (.slr b 0 n)).run s) fun _ => Jb ((JE r).reads s) := by
  have h1 : Jb ((J51 (.slr b 0 n)).reads s) = [b] := by
    simp only [J51, J1m, JaP]
    cases (fz (.slr b 0 n)).run s with
    | none => rfl
    | some a =>
      simp only [rb]
      match a.1 with
      | [] => rfl
      | [_] => rfl
      | _ :: _ :: _ => rfl
  simp only [JE, J1m, h1]
  cases (J51 (.slr b 0 n)).run s with
  | none => rfl
  | some a => simp only [rb]; cases (JE r).run s <;> simp [RM.reads, Jb]
theorem J4u {F : Orc} {f : FuncId} {args : List AV} (hp : args.all J2n = true) (ws : List (Nat × Blk)) (k new : Nat) (s : St) : Jb ((Jr F f (args, ws) k new).reads s) = [] := by
  have e1 : JX.entsOfL args [] = [] := J3c hp
  simp only [Jr, e1, J4x, J1m, RM.reads, Jb, J0P, rb, List.nil_append, List.map_nil, J2k, if_true, J3I hp, J2A]
  cases F f args [] with
  | none => rfl
  | some r =>
    simp only []
    split
    · simp only [List.length_nil, List.drop_zero]
      cases bk [] new r.1 with
      | none => rfl
      | some v =>
        cases J25 [] new new r.2 with
        | none => rfl
        | some fr => simp only [J1v, J1m, RM.reads, Jb, J0P, rb, List.nil_append]
    · rfl
def cvl {α : Type} (u : AV) (k : FuncId → List AV → List AV → List α) : List α := match u with
  | .fn f a c => k f a c
  | _ => []
theorem Jdz (ws : List (Nat × Blk)) (b : Nat) (s : St) : Jb ((J4V ws b).reads s) = [b] := by
  simp only [J4V, RM.reads, Jb]
  cases s.sto[b]? with
  | none => rfl
  | some B => simp only []; cases J1G b ws <;> rfl
theorem Jeg {ws : List (Nat × Blk)} {s : St} : ∀ {bs : List Nat} {css : List (List AV)} {acc : List Ent}, J0a ws s bs css → Jx css = true → Jb ((J4x ws (bs.map .whole) acc).reads s) = bs
  | [], [], _, _, _ => rfl
  | b :: bs, cs :: css, acc, h, hp => by
    simp only [Jx, List.all_cons, Bool.and_eq_true] at hp
    simp only [List.map_cons, J4x, J1m, Jdz, h.1, rb, J3c hp.1]
    rw [Jeg (bs := bs) (css := css) h.2 hp.2]
    rfl
theorem Jfo {ws : List (Nat × Blk)} {s : St} {ρ : Ent → Option Nat} : ∀ {bs : List Nat} {css : List (List AV)}, J0a ws s bs css → Jx css = true → Jb ((J2A ws ρ (bs.map .whole)).reads s) = bs
  | [], [], _, _ => rfl
  | b :: bs, cs :: css, h, hp => by
    simp only [Jx, List.all_cons, Bool.and_eq_true] at hp
    have h2 := Jfo (ρ := ρ) (bs := bs) (css := css) h.2 hp.2
    have h3 := J83 (ρ := ρ) (bs := bs) (css := css) h.2 hp.2
    simp only [List.map_cons, J2A, J1m, J8s, Jdz, h.1, rb, J3I hp.1, RM.reads, Jb, run_bind, Option.bind_some, J0P, h2, h3, List.append_nil]
    rfl
theorem Jey {ws : List (Nat × Blk)} {s : St} {es : List Ent} {new : Nat} : ∀ (bs : List Nat) (xs : List Blk), Jb ((J1v ws es new (bs.map .whole) xs).reads s) = []
  | [], _ => rfl
  | b :: bs, [] => rfl
  | b :: bs, B :: l => by
    have g6 : Jb ((J65 ws es new (Ent.whole b) B).reads s) = [] := by
      cases B with
      | box cs => simp only [J65]; cases bk.bkL es new cs <;> rfl
      | _ => rfl
    simp only [List.map_cons, J1v, J1m, g6, List.nil_append]
    cases (J65 ws es new (Ent.whole b) B).run s with
    | none => rfl
    | some y =>
      simp only [rb, Jey bs l, List.nil_append]
      cases (J1v ws es new (bs.map .whole) l).run s <;> rfl
theorem J1O {F : Orc} {f : FuncId} {args args' : List AV} {bs : List Nat} {css : List (List AV)} (he : JX.entsOfL args [] = bs.map .whole) (hn : J2k bs = true)
    (hr : ren.renL (fun e => J1R e (bs.map .whole) 0) args = some args') (hp : Jx css = true) (ws : List (Nat × Blk)) (k new : Nat) (s : St) (hb : J0a ws s bs css) :
    Jb ((Jr F f (args, ws) k new).reads s) = bs ++ (bs ++ bs) := by
  have e0 : (bs.map Ent.whole).map Ent.id = bs := by rw [List.map_map]; exact List.map_id bs
  simp only [Jr, he, J1m, Jeg hb hp, J8E hb hp, rb, e0, hn, if_true, hr, Jfo hb hp, J83 hb hp]
  congr 2
  cases F f args' (css.map .box) with
  | none => simp [RM.reads, Jb]
  | some r =>
    simp only []
    split
    · cases bk (bs.map Ent.whole) new r.1 with
      | none => simp [RM.reads, Jb]
      | some v =>
        cases J25 (bs.map Ent.whole) new new (r.2.drop (bs.map Ent.whole).length) with
        | none => simp [RM.reads, Jb]
        | some fr =>
          simp only [J1m, Jey, List.nil_append]
          cases (J1v ws (bs.map Ent.whole) new (bs.map Ent.whole) r.2).run s <;> simp [rb, RM.reads, Jb]
    · simp [RM.reads, Jb]
theorem Jic (F : Orc) (new : Nat) (env : List (Nat × AV)) (sto : List Blk) (g : Opd) (args : List Opd) : rdO F (.callv g args 0) new ⟨env, sto⟩ = rb (evv g env) fun u => cvl u fun h a1 c1 => rb ((evs args).run ⟨env, sto⟩) fun a => Jb ((JE (a1 ++ a ++ c1)).reads ⟨env, sto⟩) ++ rb ((JE (a1 ++ a ++ c1)).run ⟨env, sto⟩) fun a => Jb ((Jr F h a 0 new).reads ⟨env, sto⟩) := by
  rw [J9M (h := rfl)]
  simp only [opR, J1m, JfS, J0t, List.nil_append]
  cases evv g env with
  | none => rfl
  | some u =>
    simp only [rb]
    cases u <;> first | rfl | skip
    simp only [cvl, J1m, Jb3, List.nil_append]
    cases (evs args).run ⟨env, sto⟩ with
    | none => rfl
    | some a => simp only [rb, J7M, J1m]
theorem Jed (s : St) (o : Bool) (e n new : Nat) (z : List PV) (ps : List (Nat × Opd)) : Jb ((ltR o e n z ps new).reads s) = Jb ((fzs (ps.map (·.2))).reads s) := by
  simp only [ltR, J1m]
  cases (fzs (ps.map (·.2))).run s with
  | none => simp [rb]
  | some a =>
    simp only [rb]
    cases J2G e ((ps.map (·.1)).zip a.1) (List.replicate n z) with
    | none => simp [RM.reads, Jb]
    | some rows => cases o <;> simp [RM.reads, Jb]
theorem Jj0 (F : Orc) (new : Nat) (s : St) (e n : Nat) (z : List PV) (ps : List (Nat × Opd)) : rdO F (.lits false e n z ps) new s = Jb ((fzs (ps.map (·.2))).reads s) := by
  rw [J9M (h := rfl)]; exact Jed ..
theorem Jji (F : Orc) (new : Nat) (s : St) (e n : Nat) (z : List PV) (ps : List (Nat × Opd)) : rdO F (.lits true e n z ps) new s = new :: rb (is1 s.sto[new]?) fun _ => Jb ((fzs (ps.map (·.2))).reads s) := by
  rw [Jhx (h := rfl)]
  congr 2; funext _
  exact Jed ..
theorem Jmv (s : St) (x : Opd) (r : List Opd) : Jb ((fzs (x :: r)).reads s) = rb (evv x s.env) fun v => Jb ((fz v).reads s) ++ rb ((fz v).run s) fun _ => Jb ((fzs r).reads s) := by
  have e0 : fzs (x :: r) = (ev x).bind fun v => (fz v).bind fun a => (fzs r).bind fun c => .ret (a.1 :: c.1, a.2 ++ c.2) := rfl
  rw [e0, Jbj]
  cases evv x s.env with
  | none => rfl
  | some v =>
    dsimp only [rb]
    rw [J1m]
    cases (fz v).run s with
    | none => rfl
    | some a =>
      dsimp only [rb]
      rw [J1m]
      cases (fzs r).run s <;> simp [rb, RM.reads, Jb]
theorem JiQ (F : Orc) (new : Nat) (s : St) (x : Opd) : rdO F (.conv .toStr x) new s = rb (evv x s.env) fun a => Jb ((J0e 1 a).reads s) := by
  rw [J9M (h := rfl)]
  simp only [opR, Jbj]
  congr 1; funext a
  simp only [J1m]
  cases (J0e 1 a).run s with
  | none => simp [rb]
  | some rows => simp only [rb]; cases J3P rows <;> simp [RM.reads, Jb]
theorem Ji7 (s : St) (e b n : Nat) : Jb ((J0e e (.slr b 0 n)).reads s) = [b] := by
  simp only [J0e, RM.reads, Jb]
  cases s.sto[b]? with
  | none => rfl
  | some B =>
    cases B with
    | arr w z rows => simp only []; split <;> rfl
    | _ => rfl
theorem Jj8 (s : St) (e z : Nat) (rows : List (List PV)) : Jb ((J0e e (.p (.sl z rows))).reads s) = [] := by
  simp only [J0e]; split <;> rfl
theorem JjV (F : Orc) (new : Nat) (s : St) (e : Nat) (x i : Opd) : rdO F (.iaddr e x i) new s = rb (evv x s.env) fun a => rb (evv i s.env) fun c => Jb ((J29 e a c).reads s) := by
  rw [J9M (h := rfl)]; simp only [opR, Jbj]
theorem JiD (s : St) (e b n : Nat) (k : IntKind) (i : Int) : Jb ((J29 e (.slr b 0 n) (.p (.i k i))).reads s) = [b] := by
  simp only [J29, RM.reads, Jb]
  cases s.sto[b]? with
  | none => rfl
  | some B =>
    cases B with
    | arr w z rows => simp only []; split <;> rfl
    | _ => rfl
theorem Jkc (s : St) (e z : Nat) (rows : List (List PV)) (k : IntKind) (i : Int) : Jb ((J29 e (.p (.sl z rows)) (.p (.i k i))).reads s) = [] := by
  simp only [J29]
  split
  · cases J7I rows i <;> rfl
  · rfl
theorem JnE (env : List (Nat × AV)) (sto : List Blk) (l : List Int) (new : Nat) : (cvR .toStr (.p (.sl 1 (l.map (r_i .u8)))) new).run ⟨env, sto⟩ = some ⟨.p (.s (toStr l)), []⟩ := Jjf ..
theorem Jn1 (n : Nat) (w : Bool) (l : List Int) : cvB n (.arr w 1 (l.map (r_i .u8))) = if n = l.length then some ⟨.p (.s (toStr l)), []⟩ else none := Jl4 ..
theorem fr (b n z : Nat) (w : Bool) (rows : List (List PV)) : frz b n (.arr w z rows) = if n = rows.length then some (.p (.sl z rows), (b, .arr false z rows)) else none := rfl
theorem mk (o : Bool) (e b new : Nat) (z : List PV) (k k2 : IntKind) (n m : Int) : mkP o e b z (.p (.i k n)) (.p (.i k2 m)) new = if 0 ≤ n ∧ n ≤ m ∧ b * m ≤ 281474976710656 ∧ m ≤ 281474976710656 then some (if o then ⟨.slr new 0 n.toNat, [(new, .arr true e (List.replicate n.toNat z))]⟩ else ⟨.p (.sl e (List.replicate n.toNat z)), []⟩) else none := rfl
theorem cl (n : Nat) (live : List Nat) (env : List (Nat × AV)) (sto : List Blk) : J3B n live ⟨env, sto⟩ = if sto.length = n then some ⟨restr live env, sto⟩ else (J5A n sto (restr live env)).bind fun e => (J2p n [] sto (sto.take n)).bind fun l => some ⟨e, l⟩ := Jm7 ..
theorem JmE {α : Type} (l : List α) : [] ++ l = l := rfl
theorem JlZ {α : Type} (l : List α) : l ++ [] = l := List.append_nil l
theorem JmR {α : Type} (a : α) (l r : List α) : (a :: l) ++ r = a :: (l ++ r) := rfl
theorem JlQ {α β : Type} (g : α → β) : List.map g [] = [] := rfl
theorem JmF {α β : Type} (g : α → β) (a : α) (l : List α) : List.map g (a :: l) = g a :: List.map g l := rfl
theorem Jm8 {α : Type} : ([] : List α).length = 0 := rfl
theorem Jmt {α : Type} (a : α) (l : List α) : (a :: l).length = l.length + 1 := rfl
theorem Jmw (k : IntKind) (n : Int) : r_i k n = [.i k n] := rfl
theorem JmQ (x : Bool) : r_b x = [.b x] := rfl
theorem Jkp (x : List UInt8) : r_s x = [.s x] := rfl
theorem Jml {α : Type} (e : Nat) (g : α → List PV) (l : List α) : JdY e g l = [.sl e (l.map g)] := rfl
theorem s1 (a : PV) : sub [a] 0 1 = some [a] := rfl
set_option maxRecDepth 30000 in
theorem Da : (∀ T f m k s, rk T f m k (X T .skip s) = rk T f m k (some (.normal, s))) ∧
  (∀ T f m k a b s, rk T f m k (X T (.seq a b) s) = rk T f m (.sq b :: k) (X T a s)) ∧
  (∀ T f m k d ins env sto, rk T f m k (X T (.reg d [] ins) ⟨env, sto⟩) = rk T f m k (Jke (Jo (AF T) ins sto.length ⟨env, room (news ins) sto⟩ none))) ∧
  (∀ T f m k d q ps ins env sto, rk T f m k (X T (.reg d (q :: ps) ins) ⟨env, sto⟩) = rk T f m k (Jhv (q :: ps) (Jo (AF T) ins sto.length ⟨env, room (news ins) sto⟩ (some [])))) ∧
  (∀ T f m k i c s, rk T f m k (X T (.block i c) s) = rk T f m (.bl i :: k) (X T c s)) ∧
  (∀ T f m k c s, rk T f m k (X T (.scope c) s) = rk T f m k (X T c s)) ∧
  (∀ T f m k i s, rk T f m k (X T (.exit i) s) = rk T f m k (some (.exit i, s))) ∧
  (∀ T f m k s, rk T f m k (X T .ret s) = rk T f m k (some (.ret, s))) ∧
  (∀ T f m k live c env sto, rk T f m k (X T (.keep live c) ⟨env, sto⟩) = rk T f m k (X T c ⟨restr live env, sto⟩)) ∧
  (∀ T f m k live c env sto, rk T f m k (X T (.tidy live c) ⟨env, sto⟩) = rk T f m (.td sto.length live :: k) (X T c ⟨env, sto⟩)) ∧
  (∀ T f m k live c env sto, rk T f m k (X T (.loop live c) ⟨env, sto⟩) = rk T f m k (X T (.lp sto.length live c) ⟨restr live env, sto⟩)) ∧
  (∀ T f m k x a b env sto, rk T f m k (X T (.cond x a b) ⟨env, sto⟩) = rk T f m k (cnd (evv x env) (J54 (X T a ⟨env, sto⟩) (.mk _)) (J54 (X T b ⟨env, sto⟩) (.mk _)) (J54 (fun _ => same (X T a ⟨env, sto⟩) (X T b ⟨env, sto⟩)) (.mk _)))) ∧
  (∀ a b h c, cnd (some (.p (.b true))) (J54 a h) b c = a) ∧
  (∀ a b h c, cnd (some (.p (.b false))) a (J54 b h) c = b) ∧
  (∀ T f m k b s, rk T f m (.sq b :: k) (some (.normal, s)) = rk T f m k (X T b s)) ∧
  (∀ T f m k b i s, rk T f m (.sq b :: k) (some (.exit i, s)) = rk T f m k (some (.exit i, s))) ∧
  (∀ T f m k b s, rk T f m (.sq b :: k) (some (.ret, s)) = rk T f m k (some (.ret, s))) ∧
  (∀ T f m k i s, rk T f m (.bl i :: k) (some (.normal, s)) = rk T f m k (some (.normal, s))) ∧
  (∀ T f m k i j s, rk T f m (.bl i :: k) (some (.exit j, s)) = if j = i then rk T f m k (some (.normal, s)) else rk T f m k (some (.exit j, s))) ∧
  (∀ T f m k i s, rk T f m (.bl i :: k) (some (.ret, s)) = rk T f m k (some (.ret, s))) ∧
  (∀ T f m k n live e s, rk T f m (.td n live :: k) (some (e, s)) = rk T f m k (tdn e (J3B n live s))) ∧
  (∀ e s, tdn e (some s) = some (e, s)) ∧
  (∀ T f m k n live c s, rk T f m (.lo n live c :: k) (some (.normal, s)) = rk T f m k (again T n live c (J3B n live s))) ∧
  (∀ T n live c s, again T n live c (some s) = X T (.lp n live c) s) ∧
  (∀ T f m k n live c i s, rk T f m (.lo n live c :: k) (some (.exit i, s)) = rk T f m k (some (.exit i, s))) ∧
  (∀ T f m k n live c s, rk T f m (.lo n live c :: k) (some (.ret, s)) = rk T f m k (some (.ret, s))) ∧
  (∀ T f m s, rk T f m [] (some (.normal, s)) = Jcb f.res f.fresh m s) ∧
  (∀ T f m s, rk T f m [] (some (.ret, s)) = Jcb f.res f.fresh m s) ∧
  (∀ s l, Jke (some (s, l)) = some (.normal, s)) ∧
  (∀ s l ps, Jhv ps (some (s, some l)) = if J5P l ps = true then some (.normal, s) else none) ∧
  (∀ l, J5P l [] = true) ∧
  (∀ l i j ps, J5P l ((i, j) :: ps) = (pkk l[i]? l[j]? && J5P l ps)) ∧
  (∀ a b, lgA none a b = none) ∧
  (∀ l a b, lgA (some l) a b = some (l ++ [(a, b)])) ∧
  (∀ {α : Type} (a : α) (l : List α), (a :: l)[0]? = some a) ∧
  (∀ {α : Type} (a : α) (l : List α) (n : Nat), (a :: l)[n + 1]? = l[n]?) ∧
  (∀ F new s lg, Jo F [] new s lg = some (s, lg)) ∧
  (∀ F r new env sto lg d x, Jo F (⟨.mv x, some d, none⟩ :: r) new ⟨env, sto⟩ lg = (evv x env).bind fun v => Jo F r new ⟨(d, v) :: env, sto⟩ (lgA lg (rdO F (.mv x) new ⟨env, sto⟩) [])) ∧
  (∀ F r new env sto lg d c a b, Jo F (⟨.pick c a b, some d, none⟩ :: r) new ⟨env, sto⟩ lg = (evv c env).bind fun u => pkh u (evv a env) (evv b env) (J54 (fun v => Jo F r new ⟨(d, v) :: env, sto⟩ (lgA lg (rdO F (.pick c a b) new ⟨env, sto⟩) [])) (.mk _))) ∧
  (∀ F r new env sto lg d op t x y, Jo F (⟨.bin op t x y, some d, none⟩ :: r) new ⟨env, sto⟩ lg = (evv x env).bind fun a => (evv y env).bind fun c => (J0r op t a c).bind fun v => Jo F r new ⟨(d, v) :: env, sto⟩ (lgA lg (rdO F (.bin op t x y) new ⟨env, sto⟩) [])) ∧
  (∀ F r new env sto lg d op x, Jo F (⟨.un op x, some d, none⟩ :: r) new ⟨env, sto⟩ lg = (evv x env).bind fun a => (unP op a).bind fun v => Jo F r new ⟨(d, v) :: env, sto⟩ (lgA lg (rdO F (.un op x) new ⟨env, sto⟩) [])) ∧
  (∀ F r new env sto lg d g off n x, Jo F (⟨.field g off n x, some d, none⟩ :: r) new ⟨env, sto⟩ lg = (evv x env).bind fun a => (J3z g off n a).bind fun v => Jo F r new ⟨(d, v) :: env, sto⟩ (lgA lg (rdO F (.field g off n x) new ⟨env, sto⟩) [])) ∧
  (∀ F r new env sto lg d off x, Jo F (⟨.faddr off x, some d, none⟩ :: r) new ⟨env, sto⟩ lg = (evv x env).bind fun a => (J7p off a).bind fun v => Jo F r new ⟨(d, v) :: env, sto⟩ (lgA lg (rdO F (.faddr off x) new ⟨env, sto⟩) [])) ∧
  (∀ F r new env sto lg d x i, Jo F (⟨.extr x i, some d, none⟩ :: r) new ⟨env, sto⟩ lg = (evv x env).bind fun a => (Jbu i a).bind fun v => Jo F r new ⟨(d, v) :: env, sto⟩ (lgA lg (rdO F (.extr x i) new ⟨env, sto⟩) [])) ∧
  (∀ F r new env sto lg d b x, Jo F (⟨.len b x, some d, none⟩ :: r) new ⟨env, sto⟩ lg = (evv x env).bind fun a => (Jb7 b a).bind fun v => Jo F r new ⟨(d, v) :: env, sto⟩ (lgA lg (rdO F (.len b x) new ⟨env, sto⟩) [])) ∧
  (∀ F r new env sto lg d n, Jo F (⟨.alen n, some d, none⟩ :: r) new ⟨env, sto⟩ lg = Jo F r new ⟨(d, .p (.i .i64 n)) :: env, sto⟩ (lgA lg (rdO F (.alen n) new ⟨env, sto⟩) [])) ∧
  (∀ F r new env sto lg d b x y, Jo F (⟨.mm b x y, some d, none⟩ :: r) new ⟨env, sto⟩ lg = (evv x env).bind fun a => (evv y env).bind fun c => (mmP b a c).bind fun v => Jo F r new ⟨(d, v) :: env, sto⟩ (lgA lg (rdO F (.mm b x y) new ⟨env, sto⟩) [])) ∧
  (∀ F r new env sto lg d n e x i, Jo F (⟨.aaddr n e x i, some d, none⟩ :: r) new ⟨env, sto⟩ lg = (evv x env).bind fun a => (evv i env).bind fun c => (J7j n e a c).bind fun v => Jo F r new ⟨(d, v) :: env, sto⟩ (lgA lg (rdO F (.aaddr n e x i) new ⟨env, sto⟩) [])) ∧
  (∀ F r new env sto lg d e x i, Jo F (⟨.iaddr e x i, some d, none⟩ :: r) new ⟨env, sto⟩ lg = (evv x env).bind fun a => (evv i env).bind fun c => ((J29 e a c).run ⟨env, sto⟩).bind fun q => Jo F r new ⟨(d, q.val) :: env, upd q.ws sto⟩ (lgA lg (rdO F (.iaddr e x i) new ⟨env, sto⟩) (q.ws.map (·.1)))) ∧
  (∀ F r new env sto lg d x i, Jo F (⟨.sidx x i, some d, none⟩ :: r) new ⟨env, sto⟩ lg = (evv x env).bind fun a => (evv i env).bind fun c => (JdT a c).bind fun v => Jo F r new ⟨(d, v) :: env, sto⟩ (lgA lg (rdO F (.sidx x i) new ⟨env, sto⟩) [])) ∧
  (∀ F r new env sto lg d g n e x i, Jo F (⟨.aidx g n e x i, some d, none⟩ :: r) new ⟨env, sto⟩ lg = (evv x env).bind fun a => (evv i env).bind fun c => (JcF g n e a c).bind fun v => Jo F r new ⟨(d, v) :: env, sto⟩ (lgA lg (rdO F (.aidx g n e x i) new ⟨env, sto⟩) [])) ∧
  (∀ F r new env sto lg d x, Jo F (⟨.nilchk x, some d, none⟩ :: r) new ⟨env, sto⟩ lg = (evv x env).bind fun a => (Jff a).bind fun v => Jo F r new ⟨(d, v) :: env, sto⟩ (lgA lg (rdO F (.nilchk x) new ⟨env, sto⟩) [])) ∧
  (∀ F r new env sto lg d g n x, Jo F (⟨.load g n x, some d, none⟩ :: r) new ⟨env, sto⟩ lg = (evv x env).bind fun a => ((J1s g n a).run ⟨env, sto⟩).bind fun q => Jo F r new ⟨(d, q.val) :: env, upd q.ws sto⟩ (lgA lg (rdO F (.load g n x) new ⟨env, sto⟩) (q.ws.map (·.1)))) ∧
  (∀ F r new env sto lg n x y, Jo F (⟨.store n x y, none, none⟩ :: r) new ⟨env, sto⟩ lg = (evv x env).bind fun a => (evv y env).bind fun c => ((J18 n a c).run ⟨env, sto⟩).bind fun q => Jo F r new ⟨env, upd q.ws sto⟩ (lgA lg (rdO F (.store n x y) new ⟨env, sto⟩) (q.ws.map (·.1)))) ∧
  (∀ F r new env sto lg d c x, Jo F (⟨.conv c x, some d, none⟩ :: r) new ⟨env, sto⟩ lg = (evv x env).bind fun a => dds (JJ (.conv c x)) new sto (((cvR c a new).run ⟨env, sto⟩).bind fun e => Jo F r (new + JJ (.conv c x)) ⟨(d, e.val) :: env, upd e.ws sto⟩ (lgA lg (rdO F (.conv c x) new ⟨env, sto⟩) (e.ws.map (·.1))))) ∧
  (∀ F r new env sto lg d z ps, Jo F (⟨.build z ps, some d, none⟩ :: r) new ⟨env, sto⟩ lg = ((J1P ps).run ⟨env, sto⟩).bind fun l => (J0O l (z.map .p)).bind fun cs => (J1d true cs).bind fun v => Jo F r new ⟨(d, v) :: env, sto⟩ (lgA lg (rdO F (.build z ps) new ⟨env, sto⟩) [])) ∧
  (∀ F r new env sto lg d s x lo hi mx, Jo F (⟨.slice s x lo hi mx, some d, none⟩ :: r) new ⟨env, sto⟩ lg = (evv x env).bind fun a => (J5W lo env).bind fun lo1 => (J5W hi env).bind fun hi1 => (J5W mx env).bind fun mx1 => ((slR s a lo1 hi1 mx1).run ⟨env, sto⟩).bind fun q => Jo F r new ⟨(d, q.val) :: env, upd q.ws sto⟩ (lgA lg (rdO F (.slice s x lo hi mx) new ⟨env, sto⟩) (q.ws.map (·.1)))) ∧
  (∀ F r new env sto lg d e b z x y, Jo F (⟨.app e b z x y, some d, none⟩ :: r) new ⟨env, sto⟩ lg = (evv x env).bind fun a => (evv y env).bind fun c => ((J5m e b a c).run ⟨env, sto⟩).bind fun q => Jo F r new ⟨(d, q.val) :: env, upd q.ws sto⟩ (lgA lg (rdO F (.app e b z x y) new ⟨env, sto⟩) (q.ws.map (·.1)))) ∧
  (∀ F r new env sto lg d e b z x y, Jo F (⟨.appz e b z x y, some d, none⟩ :: r) new ⟨env, sto⟩ lg = (evv x env).bind fun a => (evv y env).bind fun c => (zrs e z c).bind fun c1 => ((J5m e b a c1).run ⟨env, sto⟩).bind fun q => Jo F r new ⟨(d, q.val) :: env, upd q.ws sto⟩ (lgA lg (rdO F (.appz e b z x y) new ⟨env, sto⟩) (q.ws.map (·.1)))) ∧
  (∀ F r new env sto lg d g a c, Jo F (⟨.mkfn g a c, some d, none⟩ :: r) new ⟨env, sto⟩ lg = ((evs a).run ⟨env, sto⟩).bind fun a1 => ((evs c).run ⟨env, sto⟩).bind fun c1 => Jo F r new ⟨(d, .fn g a1 c1) :: env, sto⟩ (lgA lg (rdO F (.mkfn g a c) new ⟨env, sto⟩) [])) ∧
  (∀ F r new env sto lg d g args n, Jo F (⟨.callv g args n, some d, none⟩ :: r) new ⟨env, sto⟩ lg = (evv g env).bind fun u => cvg u fun h a1 c1 => dds n new sto (((evs args).run ⟨env, sto⟩).bind fun a => ((JE (a1 ++ a ++ c1)).run ⟨env, sto⟩).bind fun a => ((Jr F h a n new).run ⟨env, sto⟩).bind fun q => Jo F r (new + n) ⟨(d, q.val) :: env, upd q.ws sto⟩ (lgA lg (rdO F (.callv g args n) new ⟨env, sto⟩) (q.ws.map (·.1))))) ∧
  (∀ F r new env sto lg g args n, Jo F (⟨.callv g args n, none, none⟩ :: r) new ⟨env, sto⟩ lg = (evv g env).bind fun u => cvg u fun h a1 c1 => dds n new sto (((evs args).run ⟨env, sto⟩).bind fun a => ((JE (a1 ++ a ++ c1)).run ⟨env, sto⟩).bind fun a => ((Jr F h a n new).run ⟨env, sto⟩).bind fun q => Jo F r (new + n) ⟨env, upd q.ws sto⟩ (lgA lg (rdO F (.callv g args n) new ⟨env, sto⟩) (q.ws.map (·.1))))) ∧
  (∀ {α : Type} (f : FuncId) (a c : List AV) (k : FuncId → List AV → List AV → Option α), cvg (.fn f a c) k = k f a c) ∧
  (∀ F r new env sto lg d e b z y, Jo F (⟨.appn e b z y, some d, none⟩ :: r) new ⟨env, sto⟩ lg = (evv y env).bind fun c => ((J0e e c).run ⟨env, sto⟩).bind fun rows => if J6a rows.length b = true then dds 1 new sto (Jo F r (new + 1) ⟨(d, .slr new 0 rows.length) :: env, sto.set new (.arr true e rows)⟩ (lgA lg (rdO F (.appn e b z y) new ⟨env, sto⟩) [new])) else none) ∧
  (∀ F r new env sto lg d e b z x y, Jo F (⟨.appc e b z x y, some d, none⟩ :: r) new ⟨env, sto⟩ lg = (evv x env).bind fun a => (evv y env).bind fun c => ((J0e e c).run ⟨env, sto⟩).bind fun add => (JfV e b a add).bind fun rows => dds 1 new sto (Jo F r (new + 1) ⟨(d, .slr new 0 rows.length) :: env, sto.set new (.arr true e rows)⟩ (lgA lg (rdO F (.appc e b z x y) new ⟨env, sto⟩) [new]))) ∧
  (∀ F r new env sto lg d z, Jo F (⟨.newbox z, some d, none⟩ :: r) new ⟨env, sto⟩ lg = dds 1 new sto (Jo F r (new + 1) ⟨(d, .ptr new 0) :: env, sto.set new (.box (z.map .p))⟩ (lgA lg (rdO F (.newbox z) new ⟨env, sto⟩) [new]))) ∧
  (∀ F r new env sto lg d e x, Jo F (⟨.mkarr e x, some d, none⟩ :: r) new ⟨env, sto⟩ lg = dds 1 new sto (Jo F r (new + 1) ⟨(d, .slr new 0 0) :: env, sto.set new (.arr true e [])⟩ (lgA lg (rdO F (.mkarr e x) new ⟨env, sto⟩) [new]))) ∧
  (∀ F r new env sto lg d n x, Jo F (⟨.box n x, some d, none⟩ :: r) new ⟨env, sto⟩ lg = (evv x env).bind fun a => (bxP n a).bind fun cs => dds 1 new sto (Jo F r (new + 1) ⟨(d, .ptr new 0) :: env, sto.set new (.box cs)⟩ (lgA lg (rdO F (.box n x) new ⟨env, sto⟩) [new]))) ∧
  (∀ F r new env sto lg d o e n z ps, Jo F (⟨.lits o e n z ps, some d, none⟩ :: r) new ⟨env, sto⟩ lg = dds (if o then 1 else 0) new sto (((ltR o e n z ps new).run ⟨env, sto⟩).bind fun x => Jo F r (new + if o then 1 else 0) ⟨(d, x.val) :: env, upd x.ws sto⟩ (lgA lg (rdO F (.lits o e n z ps) new ⟨env, sto⟩) (x.ws.map (·.1))))) ∧
  (∀ F r new env sto lg d o e b z l c, Jo F (⟨.mkslice o e b z l c, some d, none⟩ :: r) new ⟨env, sto⟩ lg = (evv l env).bind fun a => (evv c env).bind fun x => dds (if o then 1 else 0) new sto ((mkP o e b z a x new).bind fun x => Jo F r (new + if o then 1 else 0) ⟨(d, x.val) :: env, upd x.ws sto⟩ (lgA lg (rdO F (.mkslice o e b z l c) new ⟨env, sto⟩) (x.ws.map (·.1))))) ∧
  (∀ F r new env sto lg d g args n, Jo F (⟨.call g args n, some d, none⟩ :: r) new ⟨env, sto⟩ lg = dds n new sto (((evs args).run ⟨env, sto⟩).bind fun a => ((JE a).run ⟨env, sto⟩).bind fun a => ((Jr F g a n new).run ⟨env, sto⟩).bind fun e => Jo F r (new + n) ⟨(d, e.val) :: env, upd e.ws sto⟩ (lgA lg (rdO F (.call g args n) new ⟨env, sto⟩) (e.ws.map (·.1))))) ∧
  (∀ F r new env sto lg g args n, Jo F (⟨.call g args n, none, none⟩ :: r) new ⟨env, sto⟩ lg = dds n new sto (((evs args).run ⟨env, sto⟩).bind fun a => ((JE a).run ⟨env, sto⟩).bind fun a => ((Jr F g a n new).run ⟨env, sto⟩).bind fun e => Jo F r (new + n) ⟨env, upd e.ws sto⟩ (lgA lg (rdO F (.call g args n) new ⟨env, sto⟩) (e.ws.map (·.1))))) ∧
  (∀ F r new env sto lg d z os, Jo F (⟨.newboxo z os, some d, none⟩ :: r) new ⟨env, sto⟩ lg = dds (os.length + 1) new sto (Jo F r (new + (os.length + 1)) ⟨(d, .ptr (new + os.length) 0) :: env, upd (J2d os new ++ [(new + os.length, .box (J4S os new (z.map .p)))]) sto⟩ (lgA lg (rdO F (.newboxo z os) new ⟨env, sto⟩) ((J2d os new ++ [(new + os.length, Blk.box (J4S os new (z.map .p)))]).map (·.1))))) ∧
  (∀ F r new env sto lg e x, Jo F (⟨.storen e x, none, none⟩ :: r) new ⟨env, sto⟩ lg = (evv x env).bind fun a => dds 1 new sto (((J18 1 a (.slr new 0 0)).run ⟨env, sto⟩).bind fun q => Jo F r (new + 1) ⟨env, upd ((new, .arr true e []) :: q.ws) sto⟩ (lgA lg (rdO F (.storen e x) new ⟨env, sto⟩) (new :: q.ws.map (·.1))))) ∧
  (∀ F r new env sto lg d z ps os, Jo F (⟨.buildo z ps os, some d, none⟩ :: r) new ⟨env, sto⟩ lg = ((J1P ps).run ⟨env, sto⟩).bind fun l => (J0O l (J4S os new (z.map .p))).bind fun cs => (J1d true cs).bind fun v => dds os.length new sto (Jo F r (new + os.length) ⟨(d, v) :: env, upd (J2d os new) sto⟩ (lgA lg (rdO F (.buildo z ps os) new ⟨env, sto⟩) ((J2d os new).map (·.1))))) ∧
  (∀ F r new env sto lg d g kp args n, Jo F (⟨.callo g kp args n, some d, none⟩ :: r) new ⟨env, sto⟩ lg = dds n new sto (((evs args).run ⟨env, sto⟩).bind fun a => ((J1H kp a).run ⟨env, sto⟩).bind fun a => ((J2o F g a n new).run ⟨env, sto⟩).bind fun e => Jo F r (new + n) ⟨(d, e.val) :: env, upd e.ws sto⟩ (lgA lg (rdO F (.callo g kp args n) new ⟨env, sto⟩) (e.ws.map (·.1))))) ∧
  (∀ F r new env sto lg g kp args n, Jo F (⟨.callo g kp args n, none, none⟩ :: r) new ⟨env, sto⟩ lg = dds n new sto (((evs args).run ⟨env, sto⟩).bind fun a => ((J1H kp a).run ⟨env, sto⟩).bind fun a => ((J2o F g a n new).run ⟨env, sto⟩).bind fun e => Jo F r (new + n) ⟨env, upd e.ws sto⟩ (lgA lg (rdO F (.callo g kp args n) new ⟨env, sto⟩) (e.ws.map (·.1))))) ∧
  (∀ {α : Type} (n new : Nat) (sto : List Blk) (o : Option α), dds (n + 1) new sto o = dd1 sto[new]? (dds n (new + 1) sto o)) ∧
  (∀ F r new env sto lg op d g w, Jo F (⟨op, d, some (g, w)⟩ :: r) new ⟨env, sto⟩ lg = grd (lk g env) w (J54 (Jo F (⟨op, d, none⟩ :: r) new ⟨env, sto⟩ lg) (.mk _)) (J54 (Jo F r (new + JJ op) (put d ⟨J0L, []⟩ ⟨env, sto⟩) (lgA lg [] [])) (.mk _))) ∧
  (∀ {α : Type} (a b : Option α) (h : Dum a), grd (some (.p (.b true))) true (J54 a h) b = a) ∧
  (∀ {α : Type} (a b : Option α) (h : Dum b), grd (some (.p (.b true))) false a (J54 b h) = b) ∧
  (∀ {α : Type} (a b : Option α) (h : Dum b), grd (some (.p (.b false))) true a (J54 b h) = b) ∧
  (∀ {α : Type} (a b : Option α) (h : Dum a), grd (some (.p (.b false))) false (J54 a h) b = a) ∧
  (∀ {α : Type} (w : Bool) (a b : Option α) (h : Dum b), grd (some (.tup [])) w a (J54 b h) = b) ∧
  (∀ {β : Type} (a b : Option AV) (K : AV → Option β) (h : Dum K), pkh (.p (.b true)) a b (J54 K h) = a.bind K) ∧
  (∀ {β : Type} (a b : Option AV) (K : AV → Option β) (h : Dum K), pkh (.p (.b false)) a b (J54 K h) = b.bind K) ∧
  (∀ {α β : Type} (a : α) (f : α → Option β), Option.bind (some a) f = f a) ∧
  (∀ {α : Type} (new : Nat) (sto : List Blk) (o : Option α), dds 0 new sto o = o) ∧
  (∀ {α : Type} (new : Nat) (sto : List Blk) (o : Option α), dds 1 new sto o = dd1 sto[new]? o) ∧
  (∀ {α : Type} (o : Option α), dd1 (some .dead) o = o) :=
  ⟨by intro T f m k s; exact JkE T f m k s,
  by intro T f m k a b s; exact Jmo T f m k a b s,
  by intro T f m k d ins env sto; exact Jlr T f m k d ins env sto,
  by intro T f m k d q ps ins env sto; exact Jlh T f m k d q ps ins env sto,
  by intro T f m k i c s; exact JjI T f m k i c s,
  by intro T f m k c s; exact JjT T f m k c s,
  by intro T f m k i s; exact JkM T f m k i s,
  by intro T f m k s; exact Jmn T f m k s,
  by intro T f m k live c env sto; exact Jla T f m k live c env sto,
  by intro T f m k live c env sto; exact Jl3 T f m k live c env sto,
  by intro T f m k live c env sto; exact JkO T f m k live c env sto,
  by intro T f m k x a b env sto; exact JkQ T f m k x a b env sto,
  by intros; rfl,
  by intros; rfl,
  by intros; rfl,
  by intros; rfl,
  by intros; rfl,
  by intros; rfl,
  by intro T f m k i j s; exact JkV T f m k i j s,
  by intros; rfl,
  by intro T f m k n live e s; exact (Jn6 T f m k n live e s).trans (by cases J3B n live s <;> rfl),
  by intros; rfl,
  by intros; rfl,
  by intros; rfl,
  by intros; rfl,
  by intros; rfl,
  by intro T f m s; exact Jlf T f m s,
  by intro T f m s; exact Jkg T f m s,
  by intros; rfl,
  by intros; rfl,
  by intros; rfl,
  by intros; rfl,
  by intros; rfl,
  by intros; rfl,
  by intros; rfl,
  by intros; rfl,
  by intros; rfl,
  by intro F r new env sto lg d x; rw [st0 (h := rfl)]; simp only [opR, run_bind, J0t]; exact JlP,
  by intro F r new env sto lg d c a b; rw [st0 (h := rfl)]; simp only [opR, run_bind, J0t]; exact Jkk,
  by intro F r new env sto lg d op t x y; rw [st0 (h := rfl)]; simp only [opR, run_bind, J0t]; exact Je6 (g := fun a c => J0r op t a c),
  by intro F r new env sto lg d op x; rw [st0 (h := rfl)]; simp only [opR, run_bind, J0t]; exact J9a (g := fun a => unP op a),
  by intro F r new env sto lg d g off n x; rw [st0 (h := rfl)]; simp only [opR, run_bind, J0t]; exact J9a (g := fun a => J3z g off n a),
  by intro F r new env sto lg d off x; rw [st0 (h := rfl)]; simp only [opR, run_bind, J0t]; exact J9a (g := fun a => J7p off a),
  by intro F r new env sto lg d x i; rw [st0 (h := rfl)]; simp only [opR, run_bind, J0t]; exact J9a (g := fun a => Jbu i a),
  by intro F r new env sto lg d b x; rw [st0 (h := rfl)]; simp only [opR, run_bind, J0t]; exact J9a (g := fun a => Jb7 b a),
  by intro F r new env sto lg d n; rw [st0 (h := rfl)]; rfl,
  by intro F r new env sto lg d b x y; rw [st0 (h := rfl)]; simp only [opR, run_bind, J0t]; exact Je6 (g := fun a c => mmP b a c),
  by intro F r new env sto lg d n e x i; rw [st0 (h := rfl)]; simp only [opR, run_bind, J0t]; exact Je6 (g := fun a c => J7j n e a c),
  by intro F r new env sto lg d e x i; rw [st0 (h := rfl)]; simp only [opR, run_bind, J0t]; exact JcE (g := fun a c => (J29 e a c).run ⟨env, sto⟩),
  by intro F r new env sto lg d x i; rw [st0 (h := rfl)]; simp only [opR, run_bind, J0t]; exact JkY,
  by intro F r new env sto lg d g n e x i; rw [st0 (h := rfl)]; simp only [opR, run_bind, J0t]; exact JkT,
  by intro F r new env sto lg d x; rw [st0 (h := rfl)]; simp only [opR, run_bind, J0t]; exact JkH,
  by intro F r new env sto lg d g n x; rw [st0 (h := rfl)]; simp only [opR, run_bind, J0t]; exact Jfx (g := fun a => (J1s g n a).run ⟨env, sto⟩),
  by intro F r new env sto lg n x y; rw [JnK (h := rfl)]; simp only [opR, run_bind, J0t]; exact JcE (g := fun a c => (J18 n a c).run ⟨env, sto⟩),
  by intro F r new env sto lg d c x; exact JjE,
  by intro F r new env sto lg d z ps; exact JiF,
  by intro F r new env sto lg d s x lo hi mx; exact Jia,
  by intro F r new env sto lg d e b z x y; rw [st0 (h := rfl)]; simp only [opR, run_bind, J0t]; exact JcE (g := fun a c => (J5m e b a c).run ⟨env, sto⟩),
  by intro F r new env sto lg d e b z x y; rw [st0 (h := rfl)]; simp only [opR, run_bind, J0t]; exact Jib,
  by intro F r new env sto lg d g a c; exact JjR,
  by intro F r new env sto lg d g args n; exact Jiz,
  by intro F r new env sto lg g args n; exact JhR,
  by intros; rfl,
  by intro F r new env sto lg d e b z y; exact Jj2,
  by intro F r new env sto lg d e b z x y; exact Jk2,
  by intro F r new env sto lg d z; exact Jhs,
  by intro F r new env sto lg d e x; exact Ji1,
  by intro F r new env sto lg d n x; exact JlA,
  by intro F r new env sto lg d o e n z ps; exact Jka,
  by intro F r new env sto lg d o e b z l c; exact Jgq,
  by intro F r new env sto lg d g args n; exact JjN,
  by intro F r new env sto lg g args n; exact JiM,
  by intro F r new env sto lg d z os; exact JgD,
  by intro F r new env sto lg e x; exact JhF,
  by intro F r new env sto lg d z ps os; exact JhQ,
  by intro F r new env sto lg d g kp args n; exact Ji2,
  by intro F r new env sto lg g kp args n; exact Jho,
  by intro α n new sto o; exact JnD ..,
  by intro F r new env sto lg op d g w; exact Jl7 ..,
  by intros; rfl,
  by intros; rfl,
  by intros; rfl,
  by intros; rfl,
  by intros; rfl,
  by intros; rfl,
  by intros; rfl,
  by intros; rfl,
  by intros; rfl,
  by intro α new sto o; exact JnH ..,
  by intros; rfl⟩
set_option maxRecDepth 30000 in
theorem Ua : (∀ n m v r, lk n ((m, v) :: r) = if n = m then some v else lk n r) ∧
  (∀ n env, evv (.t n) env = lk n env) ∧
  (∀ v env, evv (.c v) env = some v) ∧
  (∀ a b, pk (.p (.b true)) a b = a) ∧
  (∀ a b, pk (.p (.b false)) a b = b) ∧
  (∀ env, restr [] env = []) ∧
  (∀ k l env, restr (k :: l) env = JhA k (lk k env) (restr l env)) ∧
  (∀ k v l, JhA k (some v) l = (k, v) :: l) ∧
  (∀ k l, JhA k none l = l) ∧
  (∀ n, lk n [] = none) ∧
  (news [] = 0) ∧
  (∀ i r, news (i :: r) = JJ i.op + news r) ∧
  (∀ x, JJ (.mv x) = 0) ∧
  (∀ e x, JJ (.mkarr e x) = 1) ∧
  (∀ a b c, JJ (.pick a b c) = 0) ∧
  (∀ z, JJ (.newbox z) = 1) ∧
  (∀ n x, JJ (.box n x) = 1) ∧
  (∀ z ps, JJ (.build z ps) = 0) ∧
  (∀ o e n z ps, JJ (.lits o e n z ps) = if o then 1 else 0) ∧
  (∀ g n x, JJ (.load g n x) = 0) ∧
  (∀ n x y, JJ (.store n x y) = 0) ∧
  (∀ x, JJ (.nilchk x) = 0) ∧
  (∀ op t x y, JJ (.bin op t x y) = 0) ∧
  (∀ op x, JJ (.un op x) = 0) ∧
  (∀ c x, JJ (.conv (.int c) x) = 0) ∧
  (∀ x, JJ (.conv .same x) = 0) ∧
  (∀ x, JJ (.conv .toStr x) = 0) ∧
  (∀ o x, JJ (.conv (.toBytes o) x) = if o then 1 else 0) ∧
  (∀ o e b z l c, JJ (.mkslice o e b z l c) = if o then 1 else 0) ∧
  (∀ s x lo hi mx, JJ (.slice s x lo hi mx) = 0) ∧
  (∀ off x, JJ (.faddr off x) = 0) ∧
  (∀ g off n x, JJ (.field g off n x) = 0) ∧
  (∀ e x i, JJ (.iaddr e x i) = 0) ∧
  (∀ n e x i, JJ (.aaddr n e x i) = 0) ∧
  (∀ x i, JJ (.sidx x i) = 0) ∧
  (∀ g n e x i, JJ (.aidx g n e x i) = 0) ∧
  (∀ x i, JJ (.extr x i) = 0) ∧
  (∀ g args n, JJ (.call g args n) = n) ∧
  (∀ g args n, JJ (.callv g args n) = n) ∧
  (∀ b x, JJ (.len b x) = 0) ∧
  (∀ n, JJ (.alen n) = 0) ∧
  (∀ e b z x y, JJ (.app e b z x y) = 0) ∧
  (∀ e b z x y, JJ (.appz e b z x y) = 0) ∧
  (∀ e b z y, JJ (.appn e b z y) = 1) ∧
  (∀ e b z x y, JJ (.appc e b z x y) = 1) ∧
  (∀ b x y, JJ (.mm b x y) = 0) ∧
  (∀ g a c, JJ (.mkfn g a c) = 0) ∧
  (∀ z os, JJ (.newboxo z os) = os.length + 1) ∧
  (∀ z ps os, JJ (.buildo z ps os) = os.length) ∧
  (∀ e x, JJ (.storen e x) = 1) ∧
  (∀ g kp args n, JJ (.callo g kp args n) = n) ∧
  (∀ sto, room 0 sto = sto) ∧
  (∀ n sto, room (n + 1) sto = sto ++ .dead :: List.replicate n .dead) ∧
  (∀ sto, upd [] sto = sto) ∧
  (∀ b x ws sto, upd ((b, x) :: ws) sto = upd ws (sto.set b x)) ∧
  (∀ d v ws env sto, put (some d) ⟨v, ws⟩ ⟨env, sto⟩ = ⟨(d, v) :: env, upd ws sto⟩) ∧
  (∀ v ws env sto, put none ⟨v, ws⟩ ⟨env, sto⟩ = ⟨env, upd ws sto⟩) ∧
  (J0L = .tup []) ∧
  (∀ {α β : Type} (a : α) (f : α → β), Option.map f (some a) = some (f a)) ∧
  (∀ k x y, J0r .add .plain (.p (.i k x)) (.p (.i k y)) = some (.p (.i k (k.wrap (x + y))))) ∧
  (∀ k x y, J0r .sub .plain (.p (.i k x)) (.p (.i k y)) = some (.p (.i k (k.wrap (x - y))))) ∧
  (∀ k x y, J0r .mul .plain (.p (.i k x)) (.p (.i k y)) = some (.p (.i k (k.wrap (x * y))))) ∧
  (∀ k x y, J0r .and .plain (.p (.i k x)) (.p (.i k y)) = some (.p (.i k (Jnw k x y)))) ∧
  (∀ k x y, J0r .or .plain (.p (.i k x)) (.p (.i k y)) = some (.p (.i k (orI k x y)))) ∧
  (∀ k x y, J0r .xor .plain (.p (.i k x)) (.p (.i k y)) = some (.p (.i k (Jnv k x y)))) ∧
  (∀ k x y, J0r .eql .plain (.p (.i k x)) (.p (.i k y)) = some (.p (.b (x == y)))) ∧
  (∀ k x y, J0r .neq .plain (.p (.i k x)) (.p (.i k y)) = some (.p (.b (x != y)))) ∧
  (∀ k x y, J0r .lss .plain (.p (.i k x)) (.p (.i k y)) = some (.p (.b (decide (x < y))))) ∧
  (∀ k x y, J0r .leq .plain (.p (.i k x)) (.p (.i k y)) = some (.p (.b (decide (x ≤ y))))) ∧
  (∀ k x y, J0r .gtr .plain (.p (.i k x)) (.p (.i k y)) = some (.p (.b (decide (x > y))))) ∧
  (∀ k x y, J0r .geq .plain (.p (.i k x)) (.p (.i k y)) = some (.p (.b (decide (x ≥ y))))) ∧
  (∀ k x y, J0r .quo .plain (.p (.i k x)) (.p (.i k y)) = (Jms k x y).map fun z => .p (.i k z)) ∧
  (∀ k x y, J0r .rem .plain (.p (.i k x)) (.p (.i k y)) = (JfM x y).map fun z => .p (.i k z)) ∧
  (∀ k k2 x y, J0r .shl .plain (.p (.i k x)) (.p (.i k2 y)) = (JfC k x y).map fun z => .p (.i k z)) ∧
  (∀ k k2 x y, J0r .shr .plain (.p (.i k x)) (.p (.i k2 y)) = (JmC k x y).map fun z => .p (.i k z)) ∧
  (∀ x y, J0r .add .plain (.p (.s x)) (.p (.s y)) = (JmB x y).map fun z => .p (.s z)) ∧
  (∀ x y, J0r .eql .plain (.p (.s x)) (.p (.s y)) = some (.p (.b (x == y)))) ∧
  (∀ x y, J0r .neq .plain (.p (.s x)) (.p (.s y)) = some (.p (.b (!(x == y))))) ∧
  (∀ x y, J0r .lss .plain (.p (.s x)) (.p (.s y)) = some (.p (.b (Op.bytesLess x y)))) ∧
  (∀ x y, J0r .leq .plain (.p (.s x)) (.p (.s y)) = some (.p (.b (Op.bytesLess x y || x == y)))) ∧
  (∀ x y, J0r .gtr .plain (.p (.s x)) (.p (.s y)) = some (.p (.b (!(Op.bytesLess x y || x == y))))) ∧
  (∀ x y, J0r .geq .plain (.p (.s x)) (.p (.s y)) = some (.p (.b (!Op.bytesLess x y)))) ∧
  (∀ x y, J0r .eql .bool (.p (.b x)) (.p (.b y)) = some (.p (.b (x == y)))) ∧
  (∀ x y, J0r .neq .bool (.p (.b x)) (.p (.b y)) = some (.p (.b (!(x == y))))) ∧
  (∀ ks a c, J0r .eql (.flat ks) (.data a) (.data c) = (J0R ks a c).map fun x => .p (.b x)) ∧
  (∀ ks a c, J0r .neq (.flat ks) (.data a) (.data c) = (J0R ks a c).map fun x => .p (.b (!x))) ∧
  (∀ b o y, J0r .eql .nilp (.ptr b o) y = some (.p (.b false))) ∧
  (∀ b o y, J0r .neq .nilp (.ptr b o) y = some (.p (.b true))) ∧
  (∀ k n, unP .neg (.p (.i k n)) = some (.p (.i k (k.wrap (0 - n))))) ∧
  (∀ k n, unP .xor (.p (.i k n)) = some (.p (.i k (Jny k n)))) ∧
  (∀ x, unP .not (.p (.b x)) = some (.p (.b (!x)))) ∧
  ((!true) = false) ∧
  ((!false) = true) ∧
  (∀ k x y, mmP true (.p (.i k x)) (.p (.i k y)) = some (.p (.i k (J7X x y)))) ∧
  (∀ k x y, mmP false (.p (.i k x)) (.p (.i k y)) = some (.p (.i k (JnM x y)))) ∧
  (∀ off b o, J7p off (.ptr b o) = some (.ptr b (o + off))) ∧
  (∀ off o cs, J7p off (.cp cs o) = some (.cp cs (o + off))) ∧
  (∀ off b e i o, J7p off (.ep b e i o) = some (.ep b e i (o + off))) ∧
  (∀ g off n cs, J3z g off n (.data cs) = (sub cs off n).bind (J1o g)) ∧
  (∀ g off n c cs, J3z g off n (.agg (c :: cs)) = (sub (c :: cs) off n).bind (J1d g)) ∧
  (∀ cs, J1o true cs = some (.data cs)) ∧
  (∀ c, J1o false [c] = some (.p c)) ∧
  (∀ cs, J1d true (cs.map AV.p) = some (.data cs)) ∧
  (∀ c cs, J1d true (c :: cs) = some (Jg7 (c :: cs) (unp (c :: cs)))) ∧
  (∀ c, J1d false [c] = some c) ∧
  (∀ cs l, Jg7 cs (some l) = .data l) ∧
  (∀ c, Option.map (fun l => c :: l) (none : Option (List PV)) = none) ∧
  (∀ cs, Jg7 cs none = .agg cs) ∧
  (unp [] = some []) ∧
  (∀ c r, unp (.p c :: r) = (unp r).map fun l => c :: l) ∧
  (∀ b i n r, unp (.slr b i n :: r) = none) ∧
  (∀ b i r, unp (.ptr b i :: r) = none) ∧
  (∀ b e i o r, unp (.ep b e i o :: r) = none) ∧
  (∀ f a c r, unp (.fn f a c :: r) = none) ∧
  (∀ i vs, Jbu i (.tup vs) = vs[i]?) ∧
  (∀ l, Jb7 true (.p (.s l)) = some (.p (.i .i64 l.length))) ∧
  (∀ e rows, Jb7 false (.p (.sl e rows)) = some (.p (.i .i64 rows.length))) ∧
  (∀ b i n, Jb7 false (.slr b i n) = some (.p (.i .i64 n))) ∧
  (∀ {α β : Type} (g : α → β) (l : List α), (l.map g).length = l.length) ∧
  (∀ b o, Jff (.ptr b o) = some (.ptr b o)) ∧
  (∀ cs o, Jff (.cp cs o) = some (.cp cs o)) ∧
  (∀ b e i o, Jff (.ep b e i o) = some (.ep b e i o)) ∧
  (∀ env sto g n cs off, (J1s g n (.cp cs off)).run ⟨env, sto⟩ = (sub cs off n).bind fun l => (J1o g l).map fun v => ⟨v, []⟩) ∧
  (∀ env sto g n b off, (J1s g n (.ptr b off)).run ⟨env, sto⟩ = sto[b]?.bind fun B => ldB g n off B) ∧
  (∀ env sto g n b e i off, (J1s g n (.ep b e i off)).run ⟨env, sto⟩ = sto[b]?.bind fun B => ldE g n e i off B) ∧
  (∀ g n off cs, ldB g n off (.box (cs.map AV.p)) = (sub cs off n).bind fun l => (J1o g l).map fun v => ⟨v, []⟩) ∧
  (∀ g n off c cs, ldB g n off (.box (c :: cs)) = (sub (c :: cs) off n).bind fun l => (J1d g l).map fun v => ⟨v, []⟩) ∧
  (∀ g n e i off z w rows, ldE g n e i off (.arr w z rows) = if e = rows.length then rows[i]?.bind fun row => (sub row off n).bind fun l => (J1o g l).map fun v => ⟨v, []⟩ else none) ∧
  (∀ env sto n b off v, (J18 n (.ptr b off) v).run ⟨env, sto⟩ = sto[b]?.bind fun B => (cellsOf v).bind fun l => stB n b off l B) ∧
  (∀ n b off cs vs, stB n b off (vs.map AV.p) (.box (cs.map AV.p)) = if vs.length = n then (spl cs off vs).map fun cs => ⟨J0L, [(b, .box (cs.map AV.p))]⟩ else none) ∧
  (∀ b off cs v, stB 1 b off [AV.p v] (.box (cs.map AV.p)) = (spl cs off [v]).map fun cs => ⟨J0L, [(b, .box (cs.map AV.p))]⟩) ∧
  (∀ env sto n b e i off v, (J18 n (.ep b e i off) v).run ⟨env, sto⟩ = sto[b]?.bind fun B => stE n b e i off v B ⟨env, sto⟩) ∧
  (∀ n b e i off z c rows s, stE n b e i off (.p c) (.arr true z rows) s = if e = rows.length then rows[i]?.bind fun row => if 1 = n then (spl row off [c]).map fun row => ⟨J0L, [(b, .arr true z (rows.set i row))]⟩ else none else none) ∧
  (∀ n b e i off z cs rows s, stE n b e i off (.data cs) (.arr true z rows) s = if e = rows.length then rows[i]?.bind fun row => if cs.length = n then (spl row off cs).map fun row => ⟨J0L, [(b, .arr true z (rows.set i row))]⟩ else none else none) ∧
  (∀ c, cellsOf (.p c) = some [.p c]) ∧
  (∀ cs, cellsOf (.data cs) = some (cs.map AV.p)) ∧
  (∀ cs, cellsOf (.agg cs) = some cs) ∧
  (∀ f a c, cellsOf (.fn f a c) = some [.fn f a c]) ∧
  (∀ b i n, cellsOf (.slr b i n) = some [.slr b i n]) ∧
  (∀ b o, cellsOf (.ptr b o) = some [.ptr b o]) ∧
  (∀ c, bxP 1 (.p c) = some [.p c]) ∧
  (∀ n cs, bxP n (.data cs) = if cs.length = n then some (cs.map AV.p) else none) ∧
  (∀ n cs, bxP n (.agg cs) = if cs.length = n then some cs else none) ∧
  (∀ b i n, bxP 1 (.slr b i n) = some [.slr b i n]) ∧
  (∀ env sto e rows k n, (J29 e (.p (.sl e rows)) (.p (.i k n))).run ⟨env, sto⟩ = (J7I rows n).map fun row => ⟨.cp row 0, []⟩) ∧
  (∀ env sto e b m k n, (J29 e (.slr b 0 m) (.p (.i k n))).run ⟨env, sto⟩ = sto[b]?.bind fun B => iaB e b m n B) ∧
  (∀ e b m n w rows, iaB e b m n (.arr w e rows) = if m = rows.length ∧ 0 ≤ n ∧ n < m then some ⟨.ep b rows.length n.toNat 0, []⟩ else none) ∧
  (∀ n e b off k i, J7j n e (.ptr b off) (.p (.i k i)) = if 0 ≤ i ∧ i < n then some (.ptr b (off + i.toNat * e)) else none) ∧
  (∀ n e off cs k i, J7j n e (.cp cs off) (.p (.i k i)) = if 0 ≤ i ∧ i < n then some (.cp cs (off + i.toNat * e)) else none) ∧
  (∀ n e b x j off k i, J7j n e (.ep b x j off) (.p (.i k i)) = if 0 ≤ i ∧ i < n then some (.ep b x j (off + i.toNat * e)) else none) ∧
  (∀ l k n, JdT (.p (.s l)) (.p (.i k n)) = (JdJ l n).map fun v => .p (.i .u8 v)) ∧
  (∀ g n e cs k i, JcF g n e (.agg cs) (.p (.i k i)) = if 0 ≤ i ∧ i < n then J3z g (i.toNat * e) e (.agg cs) else none) ∧
  (∀ g n e cs k i, JcF g n e (.data cs) (.p (.i k i)) = if 0 ≤ i ∧ i < n then (sub cs (i.toNat * e) e).bind (J1o g) else none) ∧
  (∀ env sto c k n new, (cvR (.int c) (.p (.i k n)) new).run ⟨env, sto⟩ = some ⟨.p (.i c (c.wrap n)), []⟩) ∧
  (∀ env sto l new, (cvR .same (.p (.s l)) new).run ⟨env, sto⟩ = some ⟨.p (.s l), []⟩) ∧
  (∀ env sto l new, (cvR .toStr (.p (.sl 1 (l.map (r_i .u8)))) new).run ⟨env, sto⟩ = some ⟨.p (.s (toStr l)), []⟩) ∧
  (∀ env sto b n new, (cvR .toStr (.slr b 0 n) new).run ⟨env, sto⟩ = sto[b]?.bind fun B => cvB n B) ∧
  (∀ n w l, cvB n (.arr w 1 (l.map (r_i .u8))) = if n = l.length then some ⟨.p (.s (toStr l)), []⟩ else none) ∧
  (∀ env sto l new, (cvR (.toBytes false) (.p (.s l)) new).run ⟨env, sto⟩ = some ⟨.p (.sl 1 ((J6h l).map (r_i .u8))), []⟩) ∧
  (∀ env sto l new, (cvR (.toBytes true) (.p (.s l)) new).run ⟨env, sto⟩ = some ⟨.slr new 0 (J6h l).length, [(new, .arr true 1 ((J6h l).map (r_i .u8)))]⟩) ∧
  (∀ env sto, (J1P []).run ⟨env, sto⟩ = some []) ∧
  (∀ env sto off size x r, (J1P ((off, size, x) :: r)).run ⟨env, sto⟩ = (evv x env).bind fun v => (cellsOf v).bind fun cs => ((J1P r).run ⟨env, sto⟩).bind fun l => some ((off, size, cs) :: l)) ∧
  (∀ cs, J0O [] cs = some cs) ∧
  (∀ off size vs cs r, J0O ((off, size, vs.map AV.p) :: r) (cs.map AV.p) = if vs.length = size then (spl cs off vs).bind fun cs => J0O r (cs.map AV.p) else none) ∧
  (∀ off v cs r, J0O ((off, 1, [AV.p v]) :: r) (cs.map AV.p) = (spl cs off [v]).bind fun cs => J0O r (cs.map AV.p)) ∧
  (∀ env sto, (evs []).run ⟨env, sto⟩ = some []) ∧
  (∀ env sto x r, (evs (x :: r)).run ⟨env, sto⟩ = (evv x env).bind fun v => ((evs r).run ⟨env, sto⟩).bind fun vs => some (v :: vs)) ∧
  (∀ n, J2d [] n = []) ∧
  (∀ o e r n, J2d ((o, e) :: r) n = (n, .arr true e []) :: J2d r (n + 1)) ∧
  (∀ n cs, J4S [] n cs = cs) ∧
  (∀ o e r n cs, J4S ((o, e) :: r) n cs = J4S r (n + 1) (cs.set o (.slr n 0 0))) ∧
  (∀ env sto m, (J1H m []).run ⟨env, sto⟩ = some ([], [])) ∧
  (∀ env sto l, (J1H [] l).run ⟨env, sto⟩ = (JE l).run ⟨env, sto⟩) ∧
  (∀ env sto x m r, (J1H (true :: m) (x :: r)).run ⟨env, sto⟩ = ((J1H m r).run ⟨env, sto⟩).bind fun c => some (x :: c.1, c.2)) ∧
  (∀ env sto x m r, (J1H (false :: m) (x :: r)).run ⟨env, sto⟩ = ((JE [x]).run ⟨env, sto⟩).bind fun a => ((J1H m r).run ⟨env, sto⟩).bind fun c => some (a.1 ++ c.1, a.2 ++ c.2)) ∧
  (∀ env sto, (JE []).run ⟨env, sto⟩ = some ([], [])) ∧
  (∀ env sto c r, (JE (.p c :: r)).run ⟨env, sto⟩ = ((JE r).run ⟨env, sto⟩).bind fun a => some (.p c :: a.1, a.2)) ∧
  (∀ env sto c r, (JE (.data c :: r)).run ⟨env, sto⟩ = ((JE r).run ⟨env, sto⟩).bind fun a => some (.data c :: a.1, a.2)) ∧
  (∀ env sto b o r, (JE (.ptr b o :: r)).run ⟨env, sto⟩ = ((JE r).run ⟨env, sto⟩).bind fun a => some (.ptr b o :: a.1, a.2)) ∧
  (∀ env sto c o r, (JE (.cp c o :: r)).run ⟨env, sto⟩ = ((JE r).run ⟨env, sto⟩).bind fun a => some (.cp c o :: a.1, a.2)) ∧
  (∀ env sto b x i o r, (JE (.ep b x i o :: r)).run ⟨env, sto⟩ = ((JE r).run ⟨env, sto⟩).bind fun a => some (.ep b x i o :: a.1, a.2)) ∧
  (∀ env sto b n r, (JE (.slr b 0 n :: r)).run ⟨env, sto⟩ = sto[b]?.bind fun B => (frz b n B).bind fun x => ((JE r).run ⟨env, sto⟩).bind fun a => some (x.1 :: a.1, x.2 :: a.2)) ∧
  (∀ env sto cs r, (JE (.agg cs :: r)).run ⟨env, sto⟩ = ((fz.fzL cs).run ⟨env, sto⟩).bind fun x => ((JE r).run ⟨env, sto⟩).bind fun a => some (.data x.1 :: a.1, x.2 ++ a.2)) ∧
  (∀ b n z w rows, frz b n (.arr w z rows) = if n = rows.length then some (.p (.sl z rows), (b, .arr false z rows)) else none) ∧
  (∀ env sto, (fz.fzL []).run ⟨env, sto⟩ = some ([], [])) ∧
  (∀ env sto c r, (fz.fzL (.p c :: r)).run ⟨env, sto⟩ = ((fz.fzL r).run ⟨env, sto⟩).bind fun a => some (c :: a.1, a.2)) ∧
  (∀ env sto b n r, (fz.fzL (.slr b 0 n :: r)).run ⟨env, sto⟩ = sto[b]?.bind fun B => (frp b n B).bind fun x => ((fz.fzL r).run ⟨env, sto⟩).bind fun a => some (x.1 :: a.1, x.2 :: a.2)) ∧
  (∀ b n z w rows, frp b n (.arr w z rows) = if n = rows.length then some (.sl z rows, (b, .arr false z rows)) else none) ∧
  (∀ env sto f a c r, (JE (.fn f a c :: r)).run ⟨env, sto⟩ = ((JE r).run ⟨env, sto⟩).bind fun x => some (.fn f a c :: x.1, x.2)) ∧
  (∀ m ids sto f a c, fin m ids sto (.fn f a c) = (fin.finL m ids sto a).bind fun a1 => (fin.finL m ids sto c).bind fun c1 => some (.fn f a1 c1)) ∧
  (∀ f a c l, JX (.fn f a c) l = JX.entsOfL c (JX.entsOfL a l)) ∧
  (∀ ws s, J0a ws s [] [] = True) ∧
  (∀ ws s b bs cs css, J0a ws s (b :: bs) (cs :: css) = ((J4V ws b).run s = some (.box cs) ∧ J0a ws s bs css)) ∧
  (∀ env sto b c x ws, (J4V ((c, x) :: ws) b).run ⟨env, sto⟩ = sto[b]?.bind fun y => some ((J1G b ((c, x) :: ws)).getD y)) ∧
  (∀ b, J1G b [] = none) ∧
  (∀ b c x r, J1G b ((c, x) :: r) = lwO (J1G b r) (if c = b then some x else none)) ∧
  (∀ x y, lwO (some x) y = some x) ∧
  (∀ y, lwO none y = y) ∧
  (∀ {α : Type} (a b : α), (some a).getD b = a) ∧
  (∀ {α : Type} (b : α), (none : Option α).getD b = b) ∧
  (∀ env sto b, (J4V [] b).run ⟨env, sto⟩ = sto[b]?) ∧
  (∀ env sto e rows, (J0e e (.p (.sl e rows))).run ⟨env, sto⟩ = some rows) ∧
  (∀ env sto l, (J0e 1 (.p (.s l))).run ⟨env, sto⟩ = some ((J6h l).map (r_i .u8))) ∧
  (∀ env sto e b n, (J0e e (.slr b 0 n)).run ⟨env, sto⟩ = sto[b]?.bind fun B => roB e n B) ∧
  (∀ e n w rows, roB e n (.arr w e rows) = if n = rows.length then some rows else none) ∧
  (∀ env sto o e n new z ps, (ltR o e n z ps new).run ⟨env, sto⟩ = ((fzs (ps.map (·.2))).run ⟨env, sto⟩).bind fun a => (J2G e ((ps.map (·.1)).zip a.1) (List.replicate n z)).map fun rows => if o then ⟨.slr new 0 n, a.2 ++ [(new, .arr true e rows)]⟩ else ⟨.p (.sl e rows), a.2⟩) ∧
  (∀ env sto, (fzs []).run ⟨env, sto⟩ = some ([], [])) ∧
  (∀ env sto x r, (fzs (x :: r)).run ⟨env, sto⟩ = (evv x env).bind fun v => ((fz v).run ⟨env, sto⟩).bind fun a => ((fzs r).run ⟨env, sto⟩).bind fun c => some (a.1 :: c.1, a.2 ++ c.2)) ∧
  (∀ env sto c, (fz (.p c)).run ⟨env, sto⟩ = some ([c], [])) ∧
  (∀ env sto cs, (fz (.data cs)).run ⟨env, sto⟩ = some (cs, [])) ∧
  (∀ env sto cs, (fz (.agg cs)).run ⟨env, sto⟩ = (fz.fzL cs).run ⟨env, sto⟩) ∧
  (∀ env sto b n, (fz (.slr b 0 n)).run ⟨env, sto⟩ = sto[b]?.bind fun B => (frp b n B).bind fun x => some ([x.1], [x.2])) ∧
  (∀ e rows, J2G e [] rows = some rows) ∧
  (∀ e i c r rows, J2G e ((i, c) :: r) rows = if c.length = e ∧ i < rows.length then J2G e r (rows.set i c) else none) ∧
  (∀ o e b new z k k2 n m, mkP o e b z (.p (.i k n)) (.p (.i k2 m)) new = if 0 ≤ n ∧ n ≤ m ∧ b * m ≤ 281474976710656 ∧ m ≤ 281474976710656 then some (if o then ⟨.slr new 0 n.toNat, [(new, .arr true e (List.replicate n.toNat z))]⟩ else ⟨.p (.sl e (List.replicate n.toNat z)), []⟩) else none) ∧
  (∀ env, J5W none env = some none) ∧
  (∀ x env, J5W (some x) env = (evv x env).map some) ∧
  (∀ env sto s c lo hi, (slR s (.p c) lo hi none).run ⟨env, sto⟩ = (slX s (.p c) lo hi).map fun v => ⟨v, []⟩) ∧
  (∀ env sto s b n lo hi, (slR s (.slr b 0 n) lo hi none).run ⟨env, sto⟩ = sto[b]?.bind fun B => (frz b n B).bind fun x => (slX s x.1 lo hi).map fun v => ⟨v, [x.2]⟩) ∧
  (∀ x lo hi, slX .str x lo hi = J7o x lo hi) ∧
  (∀ e x lo hi, slX (.sl e) x lo hi = J5B e x lo hi) ∧
  (∀ n live env sto, J3B n live ⟨env, sto⟩ = if sto.length = n then some ⟨restr live env, sto⟩ else (J5A n sto (restr live env)).bind fun e => (J2p n [] sto (sto.take n)).bind fun l => some ⟨e, l⟩) ∧
  (∀ m sto, J5A m sto [] = some []) ∧
  (∀ m k sto x r, J5A m sto ((k, x) :: r) = (fin m [] sto x).bind fun y => (J5A m sto r).bind fun l => some ((k, y) :: l)) ∧
  (∀ m ids sto, J2p m ids sto [] = some []) ∧
  (∀ m ids sto x r, J2p m ids sto (x :: r) = (J2R m ids sto x).bind fun y => (J2p m ids sto r).bind fun l => some (y :: l)) ∧
  (∀ m ids sto, J2R m ids sto .dead = some .dead) ∧
  (∀ m ids sto w z rows, J2R m ids sto (.arr w z rows) = some (.arr w z rows)) ∧
  (∀ m ids sto cs, J2R m ids sto (.box cs) = (fin.finL m ids sto cs).map .box) ∧
  (∀ (m : Nat) (ids : List Nat) (sto : List Blk) (l : List PV), fin.finL m ids sto (l.map AV.p) = some (l.map AV.p)) ∧
  (∀ m ids sto, fin.finL m ids sto [] = some []) ∧
  (∀ m ids sto x r, fin.finL m ids sto (x :: r) = (fin m ids sto x).bind fun y => (fin.finL m ids sto r).bind fun l => some (y :: l)) ∧
  (∀ m ids sto c, fin m ids sto (.p c) = some (.p c)) ∧
  (∀ m ids sto c, fin m ids sto (.data c) = some (.data c)) ∧
  (∀ m ids sto c o, fin m ids sto (.cp c o) = some (.cp c o)) ∧
  (∀ m ids sto, fin m ids sto (.tup []) = some (.tup [])) ∧
  (∀ m ids sto b off, fin m ids sto (.ptr b off) = if b < m then some (.ptr b off) else (J5p b ids m).map fun k => .ptr k off) ∧
  (∀ m ids sto b n, fin m ids sto (.slr b 0 n) = if b < m then some (.slr b 0 n) else fsl (J5p b ids m) n sto[b]?) ∧
  (∀ k n o, fsl (some k) n o = some (.slr k 0 n)) ∧
  (∀ n z w rows, fsl none n (some (.arr w z rows)) = if n = rows.length then some (.p (.sl z rows)) else none) ∧
  (∀ m ids sto cs, fin m ids sto (.agg cs) = (fin.finL m ids sto cs).bind fun l => some (Jg7 l (unp l))) ∧
  (∀ m ids sto x cs, fin m ids sto (.tup (x :: cs)) = (fin.finL m ids sto (x :: cs)).map .tup) ∧
  (∀ b k, J5p b [] k = none) ∧
  (∀ b x k r, J5p b (x :: r) k = if x = b then some k else J5p b r (k + 1)) ∧
  (∀ res fresh m env sto, Jcb res fresh m ⟨env, sto⟩ = ((J3X res).run ⟨env, sto⟩).bind fun vs => if sto.length = m then some (one vs, sto) else JhD fresh m vs sto (J0S m fresh sto (J58 sto (JX.entsOfL vs []) (JX.entsOfL vs [])))) ∧
  (∀ fresh m vs sto ids, JhD fresh m vs sto ids = if J2k ids = true then (fin.finL m ids sto vs).bind fun ws => (J2p m ids sto (sto.take m)).bind fun l => (J4H sto ids).bind fun q => (J2p m ids sto q).bind fun q => some (one ws, l ++ q) else none) ∧
  (∀ env sto, (J3X []).run ⟨env, sto⟩ = some []) ∧
  (∀ env sto t r, (J3X (.tmp t :: r)).run ⟨env, sto⟩ = (lk t env).bind fun v => ((J3X r).run ⟨env, sto⟩).bind fun l => some (v :: l)) ∧
  (∀ env sto t n g r, (J3X (.cell t g n :: r)).run ⟨env, sto⟩ = (lk t env).bind fun v => ((J1s g n v).run ⟨env, sto⟩).bind fun e => ((J3X r).run ⟨env, sto⟩).bind fun l => some (e.val :: l)) ∧
  (∀ x, one [x] = x) ∧
  (one [] = .tup []) ∧
  (∀ x y r, one (x :: y :: r) = .tup (x :: y :: r)) ∧
  (∀ m fresh sto, J0S m fresh sto [] = []) ∧
  (∀ m b sto r, J0S m false sto (.whole b :: r) = if b < m then J0S m false sto r else oid b sto[b]? (J0S m false sto r)) ∧
  (∀ m b sto r, J0S m true sto (.whole b :: r) = if b < m then J0S m true sto r else Jg6 b sto[b]? (J0S m true sto r)) ∧
  (∀ b cs l, Jg6 b (some (.box cs)) l = b :: l) ∧
  (∀ b z w rows l, Jg6 b (some (.arr w z rows)) l = b :: l) ∧
  (∀ b cs l, oid b (some (.box cs)) l = b :: l) ∧
  (∀ b z w rows l, oid b (some (.arr w z rows)) l = l) ∧
  (∀ sto acc, J58 sto [] acc = acc) ∧
  (∀ sto b r acc, J58 sto (.whole b :: r) acc = J58 sto r (ebb sto[b]? acc)) ∧
  (∀ cs acc, ebb (some (.box cs)) acc = JX.entsOfL cs acc) ∧
  (∀ z w rows acc, ebb (some (.arr w z rows)) acc = acc) ∧
  (∀ l, JX.entsOfL [] l = l) ∧
  (∀ x r l, JX.entsOfL (x :: r) l = JX.entsOfL r (JX x l)) ∧
  (∀ (cs : List PV) (l : List Ent), JX.entsOfL (cs.map AV.p) l = l) ∧
  (∀ c l, JX (.p c) l = l) ∧
  (∀ c l, JX (.data c) l = l) ∧
  (∀ c o l, JX (.cp c o) l = l) ∧
  (∀ b o l, JX (.ptr b o) l = J5c (.whole b) l) ∧
  (∀ b i n l, JX (.slr b i n) l = J5c (.whole b) l) ∧
  (∀ cs l, JX (.agg cs) l = JX.entsOfL cs l) ∧
  (∀ cs l, JX (.tup cs) l = JX.entsOfL cs l) ∧
  (∀ e, J5c e [] = [e]) ∧
  (∀ b c r, J5c (.whole b) (.whole c :: r) = if c = b then .whole c :: r else .whole c :: J5c (.whole b) r) ∧
  (J2k [] = true) ∧
  (∀ x, J2k [x] = true) ∧
  (∀ sto, J4H sto [] = some []) ∧
  (∀ sto b r, J4H sto (b :: r) = sto[b]?.bind fun x => (J4H sto r).bind fun l => some (x :: l)) ∧
  (∀ {α : Type} (a : α) (l : List α), (a :: l)[0]? = some a) ∧
  (∀ {α : Type} (a : α) (l : List α) (n : Nat), (a :: l)[n + 1]? = l[n]?) ∧
  (∀ {α : Type} (n : Nat), ([] : List α)[n]? = none) ∧
  (∀ {α : Type} (a b : α) (l : List α), (a :: l).set 0 b = b :: l) ∧
  (∀ {α : Type} (a b : α) (l : List α) (n : Nat), (a :: l).set (n + 1) b = a :: l.set n b) ∧
  (∀ {α : Type} (l : List α), [] ++ l = l) ∧
  (∀ {α : Type} (l : List α), l ++ [] = l) ∧
  (∀ {α : Type} (a : α) (l r : List α), (a :: l) ++ r = a :: (l ++ r)) ∧
  (∀ {α : Type} (a : α), List.replicate 0 a = []) ∧
  (∀ {α : Type} (a : α) (n : Nat), List.replicate (n + 1) a = a :: List.replicate n a) ∧
  (∀ {α β : Type} (g : α → β), List.map g [] = []) ∧
  (∀ {α β : Type} (g : α → β) (a : α) (l : List α), List.map g (a :: l) = g a :: List.map g l) ∧
  (∀ {α : Type}, ([] : List α).length = 0) ∧
  (∀ {α : Type} (a : α) (l : List α), (a :: l).length = l.length + 1) ∧
  (∀ {α : Type} (l : List α), l.take 0 = []) ∧
  (∀ {α : Type} (a : α) (l : List α) (n : Nat), (a :: l).take (n + 1) = a :: l.take n) ∧
  (∀ {α β : Type} (l : List β), ([] : List α).zip l = []) ∧
  (∀ {α β : Type} (a : α) (b : β) (l : List α) (r : List β), (a :: l).zip (b :: r) = (a, b) :: l.zip r) ∧
  (∀ n, 0 + n = n) ∧
  (∀ n, n + 0 = n) ∧
  (∀ k n, r_i k n = [.i k n]) ∧
  (∀ x, r_b x = [.b x]) ∧
  (∀ x, r_s x = [.s x]) ∧
  (∀ {α : Type} (e : Nat) (g : α → List PV) (l : List α), JdY e g l = [.sl e (l.map g)]) ∧
  (∀ (a : PV), sub [a] 0 1 = some [a]) ∧
  (∀ (a b : PV), spl [a] 0 [b] = some [b]) ∧
  (∀ {α : Type} (cs : List α), sub cs 0 0 = some []) ∧
  (∀ {α : Type} (a : α) (cs : List α) (n : Nat), sub (a :: cs) 0 (n + 1) = (sub cs 0 n).map (a :: ·)) ∧
  (∀ {α : Type} (a : α) (cs : List α) (n m : Nat), sub (a :: cs) (n + 1) m = sub cs n m) ∧
  (∀ {α : Type} (cs : List α), spl cs 0 [] = some cs) ∧
  (∀ {α : Type} (a b : α) (cs vs : List α), spl (a :: cs) 0 (b :: vs) = (spl cs 0 vs).map (b :: ·)) ∧
  (∀ {α : Type} (a : α) (cs : List α) (n : Nat) (vs : List α), spl (a :: cs) (n + 1) vs = (spl cs n vs).map (a :: ·)) ∧
  (∀ n b off l c cs, stB n b off l (.box (c :: cs)) = if l.length = n then (spl (c :: cs) off l).map fun cs => ⟨J0L, [(b, .box cs)]⟩ else none) ∧
  (∀ off size c a cs r, J0O ((off, size, c) :: r) (a :: cs) = if c.length = size then (spl (a :: cs) off c).bind fun cs => J0O r cs else none) ∧
  (∀ {α : Type} (a b : α), (if True then a else b) = a) ∧
  (∀ {α : Type} (a b : α), (if False then a else b) = b) ∧
  (∀ {α : Type} (a b : α), (if true = true then a else b) = a) ∧
  (∀ {α : Type} (a b : α), (if false = true then a else b) = b) ∧
  (∀ a, (True ∧ a) = a) ∧
  (∀ a, (a ∧ True) = a) ∧
  (∀ {α : Type} (a : α), (a = a) = True) ∧
  (∀ {α β : Type} (a : α) (b : β), (a, b).1 = a) ∧
  (∀ {α β : Type} (a : α) (b : β), (a, b).2 = b) :=
  ⟨by intros; rfl,
  by intros; rfl,
  by intros; rfl,
  by intros; rfl,
  by intros; rfl,
  by intros; rfl,
  by intros; rfl,
  by intros; rfl,
  by intros; rfl,
  by intros; rfl,
  rfl,
  by intros; rfl,
  by intros; rfl,
  by intros; rfl,
  by intros; rfl,
  by intros; rfl,
  by intros; rfl,
  by intros; rfl,
  by intros; rfl,
  by intros; rfl,
  by intros; rfl,
  by intros; rfl,
  by intros; rfl,
  by intros; rfl,
  by intros; rfl,
  by intros; rfl,
  by intros; rfl,
  by intros; rfl,
  by intros; rfl,
  by intros; rfl,
  by intros; rfl,
  by intros; rfl,
  by intros; rfl,
  by intros; rfl,
  by intros; rfl,
  by intros; rfl,
  by intros; rfl,
  by intros; rfl,
  by intros; rfl,
  by intros; rfl,
  by intros; rfl,
  by intros; rfl,
  by intros; rfl,
  by intros; rfl,
  by intros; rfl,
  by intros; rfl,
  by intros; rfl,
  by intros; rfl,
  by intros; rfl,
  by intros; rfl,
  by intros; rfl,
  by intros; rfl,
  by intros; rfl,
  by intros; rfl,
  by intros; rfl,
  by intros; rfl,
  by intros; rfl,
  rfl,
  by intros; rfl,
  by intro k x y; simp only [J0r, if_true, J5r, Option.map_some]; try rfl,
  by intro k x y; simp only [J0r, if_true, J5r, Option.map_some]; try rfl,
  by intro k x y; simp only [J0r, if_true, J5r, Option.map_some]; try rfl,
  by intro k x y; simp only [J0r, if_true, J5r, Option.map_some]; try rfl,
  by intro k x y; simp only [J0r, if_true, J5r, Option.map_some]; try rfl,
  by intro k x y; simp only [J0r, if_true, J5r, Option.map_some]; try rfl,
  by intro k x y; simp only [J0r, if_true, J5r, Option.map_some]; try rfl,
  by intro k x y; simp only [J0r, if_true, J5r, Option.map_some]; try rfl,
  by intro k x y; simp only [J0r, if_true, J5r, Option.map_some]; try rfl,
  by intro k x y; simp only [J0r, if_true, J5r, Option.map_some]; try rfl,
  by intro k x y; simp only [J0r, if_true, J5r, Option.map_some]; try rfl,
  by intro k x y; simp only [J0r, if_true, J5r, Option.map_some]; try rfl,
  by intro k x y; simp only [J0r, if_true, J5r, Jms]; split <;> rfl,
  by intro k x y; simp only [J0r, if_true, J5r, JfM]; split <;> rfl,
  by intro k k2 x y; simp only [J0r, J7V, JfC]; split <;> rfl,
  by intro k k2 x y; simp only [J0r, J7V, JmC]; split <;> rfl,
  by intro x y; simp only [J0r, Jg5, JmB]; split <;> rfl,
  by intro x y; rfl,
  by intro x y; rfl,
  by intro x y; rfl,
  by intro x y; rfl,
  by intro x y; rfl,
  by intro x y; rfl,
  by intros; rfl,
  by intros; rfl,
  by intro ks a c; simp only [J0r, J5G]; cases J0R ks a c <;> rfl,
  by intro ks a c; simp only [J0r, J5G]; cases J0R ks a c <;> rfl,
  by intros; rfl,
  by intros; rfl,
  by intros; rfl,
  by intros; rfl,
  by intros; rfl,
  rfl,
  rfl,
  by intros; rfl,
  by intros; rfl,
  by intros; rfl,
  by intros; rfl,
  by intros; rfl,
  by intro g off n cs; simp only [J3z]; cases sub cs off n <;> rfl,
  by intro g off n c cs; simp only [J3z]; cases sub (c :: cs) off n <;> rfl,
  by intros; rfl,
  by intros; rfl,
  by intro cs; exact Jc3 cs,
  by intro c cs; simp only [J1d, if_true]; cases unp (c :: cs) <;> rfl,
  by intros; rfl,
  by intros; rfl,
  by intros; rfl,
  by intros; rfl,
  rfl,
  by intro c r; simp only [unp]; cases unp r <;> rfl,
  by intros; rfl,
  by intros; rfl,
  by intros; rfl,
  by intros; rfl,
  by intros; rfl,
  by intros; rfl,
  by intros; rfl,
  by intros; rfl,
  by intro α β g l; simp,
  by intros; rfl,
  by intros; rfl,
  by intros; rfl,
  by intro env sto g n cs off; exact Jlp ..,
  by intro env sto g n b off; exact JlN ..,
  by intro env sto g n b e i off; exact Jkv ..,
  by intro g n off cs; exact JmX ..,
  by intros; rfl,
  by intros; rfl,
  by intro env sto n b off v; exact JkR ..,
  by intro n b off cs vs; exact Jko ..,
  by intro b off cs v; exact JmZ ..,
  by intro env sto n b e i off v; exact Jlv ..,
  by intro n b e i off z c rows s; exact Jnd ..,
  by intro n b e i off z cs rows s; exact Jnf ..,
  by intros; rfl,
  by intros; rfl,
  by intros; rfl,
  by intros; rfl,
  by intros; rfl,
  by intros; rfl,
  by intros; rfl,
  by intro n cs; exact JmN ..,
  by intros; rfl,
  by intros; rfl,
  by intro env sto e rows k n; exact JiO ..,
  by intro env sto e b m k n; exact Jjv ..,
  by intro e b m n w rows; exact JkZ ..,
  by intros; rfl,
  by intros; rfl,
  by intros; rfl,
  by intro l k n; exact JmO ..,
  by intros; rfl,
  by intro g n e cs k i; exact JmH ..,
  by intros; rfl,
  by intros; rfl,
  @JnE,
  by intro env sto b n new; exact JjW ..,
  @Jn1,
  by intro env sto l new; exact Jk1 ..,
  by intro env sto l new; exact Jio ..,
  by intros; rfl,
  by intro env sto off size x r; exact JlV ..,
  by intros; rfl,
  by intro off size vs cs r; exact Jfb ..,
  by intro off v cs r; exact JiZ ..,
  by intros; rfl,
  by intro env sto x r; exact Jmj ..,
  by intros; rfl,
  by intros; rfl,
  by intros; rfl,
  by intros; rfl,
  by intro env sto m; cases m <;> rfl,
  by intro env sto l; rw [JeA],
  by intro env sto x m r; exact JlM ..,
  by intro env sto x m r; exact JlK ..,
  by intros; rfl,
  by intro env sto c r; exact J96 _ _ rfl ..,
  by intro env sto c r; exact J96 _ _ rfl ..,
  by intro env sto b o r; exact J96 _ _ rfl ..,
  by intro env sto c o r; exact J96 _ _ rfl ..,
  by intro env sto b x i o r; exact J96 _ _ rfl ..,
  by intro env sto b n r; exact JiY ..,
  by intro env sto cs r; exact Jk4 ..,
  @fr,
  by intros; rfl,
  by intro env sto c r; exact Jk7 ..,
  by intro env sto b n r; exact Jjw ..,
  by intros; rfl,
  by intro env sto f a c r; exact J96 _ _ rfl ..,
  by intro m ids sto f a c; exact Jle ..,
  by intros; rfl,
  by intros; rfl,
  by intros; rfl,
  by intro env sto b c x ws; exact Jlu ..,
  by intros; rfl,
  by intro b c x r; exact JlW ..,
  by intros; rfl,
  by intros; rfl,
  by intros; rfl,
  by intros; rfl,
  by intro env sto b; exact Jm3 ..,
  by intro env sto e rows; exact Jjh ..,
  by intro env sto l; exact Jja ..,
  by intro env sto e b n; exact JjB ..,
  by intro e n w rows; exact Jj4 ..,
  by intro env sto o e n new z ps; exact Jm4 ..,
  by intros; rfl,
  by intro env sto x r; exact Jmk ..,
  by intros; rfl,
  by intros; rfl,
  by intros; rfl,
  by intro env sto b n; exact JhT ..,
  by intros; rfl,
  by intros; rfl,
  @mk,
  by intros; rfl,
  by intros; rfl,
  by intro env sto s c lo hi; exact Jj1 ..,
  by intro env sto s b n lo hi; exact JjM ..,
  by intros; rfl,
  by intros; rfl,
  @cl,
  by intros; rfl,
  by intro m k sto x r; exact JmJ ..,
  by intros; rfl,
  by intro m ids sto x r; exact Jmf ..,
  by intros; rfl,
  by intros; rfl,
  by intro m ids sto cs; exact Jlb ..,
  by intro m ids sto l; exact Jej m ids sto l,
  by intros; rfl,
  by intro m ids sto x r; exact Jm2 ..,
  by intros; rfl,
  by intros; rfl,
  by intros; rfl,
  by intros; rfl,
  by intros; rfl,
  by intro m ids sto b n; exact Jlx ..,
  by intros; rfl,
  by intros; rfl,
  by intro m ids sto cs; exact Jkz ..,
  by intro m ids sto x cs; exact JlC ..,
  by intros; rfl,
  by intros; rfl,
  by intros; rfl,
  by intros; rfl,
  by intros; rfl,
  by intro env sto t r; exact Jjs ..,
  by intro env sto t n g r; exact Jjt ..,
  by intros; rfl,
  rfl,
  by intros; rfl,
  by intros; rfl,
  by intro m b sto r; exact Jme ..,
  by intro m b sto r; exact JkW ..,
  by intros; rfl,
  by intros; rfl,
  by intros; rfl,
  by intros; rfl,
  by intros; rfl,
  by intro sto b r acc; exact Jmr ..,
  by intros; rfl,
  by intros; rfl,
  by intros; rfl,
  by intros; rfl,
  by intro cs l; exact Jis cs l,
  by intros; rfl,
  by intros; rfl,
  by intros; rfl,
  by intros; rfl,
  by intros; rfl,
  by intros; rfl,
  by intros; rfl,
  by intros; rfl,
  by intro b c r; exact JlS ..,
  rfl,
  by intros; rfl,
  by intros; rfl,
  by intro sto b r; exact Jm6 ..,
  by intros; rfl,
  by intros; rfl,
  by intros; rfl,
  by intros; rfl,
  by intros; rfl,
  @JmE,
  @JlZ,
  @JmR,
  by intros; rfl,
  by intros; rfl,
  @JlQ,
  @JmF,
  @Jm8,
  @Jmt,
  by intros; rfl,
  by intros; rfl,
  by intros; rfl,
  by intros; rfl,
  by intro n; exact Nat.zero_add n,
  by intros; rfl,
  @Jmw,
  @JmQ,
  @Jkp,
  @Jml,
  @s1,
  by intros; rfl,
  by intro α cs; rw [J5l]; simp,
  by intro α a cs n; exact JiU ..,
  by intro α a cs n m; exact Jje ..,
  by intro α cs; rw [J5R]; simp,
  by intro α a b cs vs; exact Jjq ..,
  by intro α a cs n vs; exact Jjc ..,
  by intros; rfl,
  by intro off size c a cs r; exact Jjj ..,
  by intros; rfl,
  by intros; rfl,
  by intros; rfl,
  by intros; rfl,
  by intro a; simp,
  by intro a; simp,
  by intro α a; simp,
  by intros; rfl,
  by intros; rfl⟩
set_option maxRecDepth 30000 in
theorem Nf : (∀ {α : Type} (l : List α), [] ++ l = l) ∧
  (∀ {α : Type} (l : List α), l ++ [] = l) ∧
  (∀ {α : Type} (a : α) (l r : List α), (a :: l) ++ r = a :: (l ++ r)) ∧
  (∀ {α β : Type} (g : α → β), List.map g [] = []) ∧
  (∀ {α β : Type} (g : α → β) (a : α) (l : List α), List.map g (a :: l) = g a :: List.map g l) ∧
  (∀ {α : Type}, ([] : List α).length = 0) ∧
  (∀ {α : Type} (a : α) (l : List α), (a :: l).length = l.length + 1) ∧
  (∀ k n, r_i k n = [.i k n]) ∧
  (∀ x, r_b x = [.b x]) ∧
  (∀ x, r_s x = [.s x]) ∧
  (∀ {α : Type} (e : Nat) (g : α → List PV) (l : List α), JdY e g l = [.sl e (l.map g)]) :=
  ⟨@JmE,
  @JlZ,
  @JmR,
  @JlQ,
  @JmF,
  @Jm8,
  @Jmt,
  @Jmw,
  @JmQ,
  @Jkp,
  @Jml⟩
set_option maxRecDepth 30000 in
theorem Ra : (∀ F new env sto g n x, rdO F (.load g n x) new ⟨env, sto⟩ = rb (evv x env) fun a => Jb ((J1s g n a).reads ⟨env, sto⟩)) ∧
  (∀ s g n b o, Jb ((J1s g n (.ptr b o)).reads s) = [b]) ∧
  (∀ s g n o cs, Jb ((J1s g n (.cp cs o)).reads s) = []) ∧
  (∀ s g n b e i o, Jb ((J1s g n (.ep b e i o)).reads s) = [b]) ∧
  (∀ F new s z, rdO F (.newbox z) new s = [new]) ∧
  (∀ F new env sto n x y, rdO F (.store n x y) new ⟨env, sto⟩ = rb (evv x env) fun a => rb (evv y env) fun c => Jb ((J18 n a c).reads ⟨env, sto⟩)) ∧
  (∀ s n b o v, Jb ((J18 n (.ptr b o) v).reads s) = [b]) ∧
  (∀ s n b e i o c, Jb ((J18 n (.ep b e i o) (.p c)).reads s) = [b]) ∧
  (∀ s n b e i o c, Jb ((J18 n (.ep b e i o) (.data c)).reads s) = [b]) ∧
  (∀ F new env sto g args, rdO F (.call g args 0) new ⟨env, sto⟩ = rb ((evs args).run ⟨env, sto⟩) fun a => Jb ((JE a).reads ⟨env, sto⟩) ++ rb ((JE a).run ⟨env, sto⟩) fun a => Jb ((Jr F g a 0 new).reads ⟨env, sto⟩)) ∧
  (∀ F new env sto g args, rdO F (.call g args 1) new ⟨env, sto⟩ = new :: rb (is1 sto[new]?) fun _ => rb ((evs args).run ⟨env, sto⟩) fun a => Jb ((JE a).reads ⟨env, sto⟩) ++ rb ((JE a).run ⟨env, sto⟩) fun a => Jb ((Jr F g a 1 new).reads ⟨env, sto⟩)) ∧
  (is1 (some .dead) = some ()) ∧
  (∀ {α β : Type} (a : α) (f : α → List β), rb (some a) f = f a) ∧
  (∀ F new env sto g args, rdO F (.callv g args 0) new ⟨env, sto⟩ = rb (evv g env) fun u => cvl u fun h a1 c1 => rb ((evs args).run ⟨env, sto⟩) fun a => Jb ((JE (a1 ++ a ++ c1)).reads ⟨env, sto⟩) ++ rb ((JE (a1 ++ a ++ c1)).run ⟨env, sto⟩) fun a => Jb ((Jr F h a 0 new).reads ⟨env, sto⟩)) ∧
  (∀ {α : Type} (f : FuncId) (a c : List AV) (k : FuncId → List AV → List AV → List α), cvl (.fn f a c) k = k f a c) ∧
  (∀ s, Jb ((JE []).reads s) = []) ∧
  (∀ s c r, Jb ((JE (.p c :: r)).reads s) = Jb ((JE r).reads s)) ∧
  (∀ s c r, Jb ((JE (.data c :: r)).reads s) = Jb ((JE r).reads s)) ∧
  (∀ s b o r, Jb ((JE (.ptr b o :: r)).reads s) = Jb ((JE r).reads s)) ∧
  (∀ s c o r, Jb ((JE (.cp c o :: r)).reads s) = Jb ((JE r).reads s)) ∧
  (∀ s b x i o r, Jb ((JE (.ep b x i o :: r)).reads s) = Jb ((JE r).reads s)) ∧
  (∀ s b n r, Jb ((JE (.slr b 0 n :: r)).reads s) = b :: rb ((J51 (.slr b 0 n)).run s) fun _ => Jb ((JE r).reads s)) ∧
  (∀ F new s e n z ps, rdO F (.lits false e n z ps) new s = Jb ((fzs (ps.map (·.2))).reads s)) ∧
  (∀ F new env sto e n z ps, rdO F (.lits true e n z ps) new ⟨env, sto⟩ = new :: rb (is1 sto[new]?) fun _ => Jb ((fzs (ps.map (·.2))).reads ⟨env, sto⟩)) ∧
  (∀ s, Jb ((fzs []).reads s) = []) ∧
  (∀ env sto x r, Jb ((fzs (x :: r)).reads ⟨env, sto⟩) = rb (evv x env) fun v => Jb ((fz v).reads ⟨env, sto⟩) ++ rb ((fz v).run ⟨env, sto⟩) fun _ => Jb ((fzs r).reads ⟨env, sto⟩)) ∧
  (∀ s c, Jb ((fz (.p c)).reads s) = []) ∧
  (∀ s c, Jb ((fz (.data c)).reads s) = []) ∧
  (∀ s b n, Jb ((fz (.slr b 0 n)).reads s) = [b]) ∧
  (∀ F new env sto x, rdO F (.conv .toStr x) new ⟨env, sto⟩ = rb (evv x env) fun a => Jb ((J0e 1 a).reads ⟨env, sto⟩)) ∧
  (∀ s e b n, Jb ((J0e e (.slr b 0 n)).reads s) = [b]) ∧
  (∀ s e z rows, Jb ((J0e e (.p (.sl z rows))).reads s) = []) ∧
  (∀ F new env sto e x i, rdO F (.iaddr e x i) new ⟨env, sto⟩ = rb (evv x env) fun a => rb (evv i env) fun c => Jb ((J29 e a c).reads ⟨env, sto⟩)) ∧
  (∀ s e b n k i, Jb ((J29 e (.slr b 0 n) (.p (.i k i))).reads s) = [b]) ∧
  (∀ s e z rows k i, Jb ((J29 e (.p (.sl z rows)) (.p (.i k i))).reads s) = []) ∧
  (∀ a b c d, pkk (some (a, b)) (some (c, d)) = (J3D b c && J3D b d && J3D a d)) ∧
  (∀ b, J3D [] b = true) ∧
  (∀ x a b, J3D (x :: a) b = (!(b.contains x) && J3D a b)) ∧
  (∀ x, ([] : List Nat).contains x = false) ∧
  (∀ (x y : Nat) (l : List Nat), (y :: l).contains x = (x == y || l.contains x)) ∧
  (∀ a, (true && a) = a) ∧
  (∀ a, (false && a) = false) ∧
  (∀ a, (true || a) = true) ∧
  (∀ a, (false || a) = a) :=
  ⟨by intro F new env sto g n x; exact Jln ..,
  by intro s g n b o; exact Jl2 ..,
  by intro s g n o cs; exact JlU ..,
  by intro s g n b e i o; exact JmM ..,
  by intro F new s z; exact Jig ..,
  by intro F new env sto n x y; exact Jkj ..,
  by intro s n b o v; exact JkJ ..,
  by intro s n b e i o c; exact JjQ ..,
  by intro s n b e i o c; exact Jjr ..,
  by intro F new env sto g args; exact Jki ..,
  by intro F new env sto g args; exact Jk5 ..,
  rfl,
  by intros; rfl,
  by intro F new env sto g args; exact Jic ..,
  by intros; rfl,
  by intros; rfl,
  by intro s c r; exact J82 s rfl r,
  by intro s c r; exact J82 s rfl r,
  by intro s b o r; exact J82 s rfl r,
  by intro s c o r; exact J82 s rfl r,
  by intro s b x i o r; exact J82 s rfl r,
  by intro s b n r; exact JlB ..,
  by intro F new s e n z ps; exact Jj0 ..,
  by intro F new env sto e n z ps; exact Jji ..,
  by intros; rfl,
  by intro env sto x r; exact Jmv ..,
  by intros; rfl,
  by intros; rfl,
  by intro s b n; exact JaP ..,
  by intro F new env sto x; exact JiQ ..,
  by intro s e b n; exact Ji7 ..,
  by intro s e z rows; exact Jj8 ..,
  by intro F new env sto e x i; exact JjV ..,
  by intro s e b n k i; exact JiD ..,
  by intro s e z rows k i; exact Jkc ..,
  by intros; rfl,
  by intros; rfl,
  by intro x a b; simp [J3D],
  by intros; rfl,
  by intro x y l; rw [List.contains_cons],
  by intro a; simp,
  by intro a; simp,
  by intro a; simp,
  by intro a; simp⟩
end Go.Am
end
