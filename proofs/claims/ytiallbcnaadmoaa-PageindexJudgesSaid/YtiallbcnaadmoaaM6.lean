/-
  Parts of a proof: AmEv.
-/
import Derived.Test.YtiallbcnaadmoaaM5
set_option linter.unusedSimpArgs false
set_option linter.unusedVariables false
section
namespace Go.Am
@[congr] theorem JxF {T : J5T} {f : AFn} {m : Nat} {k : List Fr} {o o' : Option Out} (h : o = o') : rk T f m k o = rk T f m k o' := by rw [h]
def tdn (e : AX) (o : Option St) : Option Out := match o with
  | some s => some (e, s)
  | none => none
def Jr8 (fresh : Bool) (m : Nat) (vs : List AV) (sto : List Blk) (ids : List Nat) : Option Res :=
  if J3W ids = true then (fin.finL m ids sto vs).bind fun ws => (J44 m ids sto (sto.take m)).bind fun l => (J82 sto ids).bind fun q => (J44 m ids sto q).bind fun q => some (one ws, l ++ q) else none
def Jj9 (res : List Jdc) (fresh : Bool) (m : Nat) (s : St) : Option Res :=
  ((J6T res).run s).bind fun vs => if s.sto.length = m then some (one vs, s.sto) else Jr8 fresh m vs s.sto (J1y m fresh s.sto (J8y s.sto (J0f.entsOfL vs []) (J0f.entsOfL vs [])))
theorem Jiq (res : List Jdc) (fresh : Bool) (m : Nat) (s : St) : J5d ⟨0, 0, .skip, res, fresh⟩ m s = Jj9 res fresh m s := by
  unfold J5d Jj9
  dsimp only
  cases (J6T res).run s with
  | none => rfl
  | some vs =>
    simp only [Option.bind_some]
    split
    · rfl
    · unfold Jr8
      split
      · generalize J1y m fresh s.sto _ = ids
        cases fin.finL m ids s.sto vs <;> cases J44 m ids s.sto (s.sto.take m) <;> cases J82 s.sto ids <;> try rfl
        rename_i q
        simp only [Option.bind_some]
        cases J44 m ids s.sto q <;> rfl
      · rfl
theorem Jvi (T : J5T) (f : AFn) (m : Nat) (s : St) : rk T f m [] (some (.normal, s)) = Jj9 f.res f.fresh m s := (Jtt T f m s).trans (Jiq ..)
theorem Jtg (T : J5T) (f : AFn) (m : Nat) (s : St) : rk T f m [] (some (.ret, s)) = Jj9 f.res f.fresh m s := (Jtv T f m s).trans (Jiq ..)
def dds {α : Type} (n new : Nat) (sto : List Blk) (o : Option α) : Option α := match (J7v new n).run ⟨[], sto⟩ with
  | some _ => o
  | none => none
def dd1 {α : Type} (b : Option Blk) (o : Option α) : Option α := match b with
  | some .dead => o
  | _ => none
@[congr] theorem Jxn {α : Type} {b b' : Option Blk} {o : Option α} (h : b = b') : dd1 b o = dd1 b' o := by rw [h]
theorem JxB {α : Type} (new : Nat) (sto : List Blk) (o : Option α) : dds 1 new sto o = dd1 sto[new]? o := by
  unfold dds dd1
  simp only [J7v, RM.run]
  cases sto[new]? with
  | none => rfl
  | some b => cases b <;> rfl
section
variable {F : Orc} {r : List J1d} {new d : Nat} {env : List (Nat × AV)} {sto : List Blk}
theorem JoF (n : Nat) : ∀ new, (J7v new n).run ⟨env, sto⟩ = (J7v new n).run ⟨[], sto⟩ := by
  induction n with
  | zero => intro new; rfl
  | succ n ih =>
    intro new
    simp only [J7v, RM.run]
    cases sto[new]? with
    | none => rfl
    | some b => cases b <;> first | exact ih _ | rfl
def lgA (l : Option Log) (a b : List Nat) : Option Log := l.map (· ++ [(a, b)])
def rdO (F : Orc) (op : AOp) (new : Nat) (s : St) : List Nat := Jm ((opD F op new).reads s)
abbrev GR := Option (St × Option Log)
def Jy (F : Orc) : List J1d → Nat → St → Option Log → GR
  | [], _, s, l => some (s, l)
  | i :: r, new, s, l => match (J27 F i new).run s with
    | some e => Jy F r (new + JW i.op) (put i.dst e s) (lgA l (Jm ((J27 F i new).reads s)) (e.ws.map (·.1)))
    | none => none
theorem JrW (F : Orc) (ins : List J1d) : ∀ new s, Jy F ins new s none = (J3d F ins new s).map fun s => (s, none) := by
  induction ins with
  | nil => intro new s; rfl
  | cons i r ih =>
    intro new s
    simp only [Jy, J3d]
    cases (J27 F i new).run s with
    | none => rfl
    | some e => exact ih _ _
theorem JtI (F : Orc) (ins : List J1d) : ∀ new s l, Jy F ins new s (some l) = (J5F F ins new s l).map fun x => (x.1, some x.2) := by
  induction ins with
  | nil => intro new s l; rfl
  | cons i r ih =>
    intro new s l
    simp only [Jy, J5F]
    cases (J27 F i new).run s with
    | none => rfl
    | some e => exact ih _ _ _
def JtE (o : GR) : Option Out := match o with
  | some (s, _) => some (.normal, s)
  | none => none
def Jr6 (ps : List (Nat × Nat)) (o : GR) : Option Out := match o with
  | some (s, some l) => if J9J l ps = true then some (.normal, s) else none
  | _ => none
theorem Jv6 (T : J5T) (f : AFn) (m : Nat) (k : List Fr) (d ins env sto) : rk T f m k (X T (.reg d [] ins) ⟨env, sto⟩) = rk T f m k (JtE (Jy (AF T) ins sto.length ⟨env, room (news ins) sto⟩ none)) := by
  rw [Jwn, JrW]
  cases J3d (AF T) ins sto.length ⟨env, room (news ins) sto⟩ <;> rfl
theorem Jvl (T : J5T) (f : AFn) (m : Nat) (k : List Fr) (d p ps ins env sto) : rk T f m k (X T (.reg d (p :: ps) ins) ⟨env, sto⟩) = rk T f m k (Jr6 (p :: ps) (Jy (AF T) ins sto.length ⟨env, room (news ins) sto⟩ (some []))) := by
  rw [Jub, JtI]
  simp only [region]
  cases J5F (AF T) ins sto.length ⟨env, room (news ins) sto⟩ [] with
  | none => rfl
  | some x =>
    obtain ⟨s, l⟩ := x
    simp only [Option.map_some, Jr6]
    split <;> rfl
theorem stD {lg : Option Log} (op : AOp) : Jy F (⟨op, some d, none⟩ :: r) new ⟨env, sto⟩ lg = dds (JW op) new sto (((opR F op new).run ⟨env, sto⟩).bind fun e => Jy F r (new + JW op) ⟨(d, e.val) :: env, upd e.ws sto⟩ (lgA lg (rdO F op new ⟨env, sto⟩) (e.ws.map (·.1)))) := by
  have e0 : (J27 F ⟨op, some d, none⟩ new).run ⟨env, sto⟩ = dds (JW op) new sto ((opR F op new).run ⟨env, sto⟩) := by
    simp only [J27, opD, run_bind, JoF (env := env)]
    unfold dds
    cases (J7v new (JW op)).run ⟨[], sto⟩ <;> rfl
  simp only [Jy, e0]
  unfold dds
  cases (J7v new (JW op)).run ⟨[], sto⟩ with
  | none => rfl
  | some u => simp only []; cases (opR F op new).run ⟨env, sto⟩ <;> rfl
theorem Joc {lg : Option Log} (op : AOp) : Jy F (⟨op, none, none⟩ :: r) new ⟨env, sto⟩ lg = dds (JW op) new sto (((opR F op new).run ⟨env, sto⟩).bind fun e => Jy F r (new + JW op) ⟨env, upd e.ws sto⟩ (lgA lg (rdO F op new ⟨env, sto⟩) (e.ws.map (·.1)))) := by
  have e0 : (J27 F ⟨op, none, none⟩ new).run ⟨env, sto⟩ = dds (JW op) new sto ((opR F op new).run ⟨env, sto⟩) := by
    simp only [J27, opD, run_bind, JoF (env := env)]
    unfold dds
    cases (J7v new (JW op)).run ⟨[], sto⟩ <;> rfl
  simp only [Jy, e0]
  unfold dds
  cases (J7v new (JW op)).run ⟨[], sto⟩ with
  | none => rfl
  | some u => simp only []; cases (opR F op new).run ⟨env, sto⟩ <;> rfl
theorem st0 {lg : Option Log} {op : AOp} (h : JW op = 0) : Jy F (⟨op, some d, none⟩ :: r) new ⟨env, sto⟩ lg = ((opR F op new).run ⟨env, sto⟩).bind fun e => Jy F r new ⟨(d, e.val) :: env, upd e.ws sto⟩ (lgA lg (rdO F op new ⟨env, sto⟩) (e.ws.map (·.1))) := by
  rw [stD, h]; rfl
theorem JxK {lg : Option Log} {op : AOp} (h : JW op = 0) : Jy F (⟨op, none, none⟩ :: r) new ⟨env, sto⟩ lg = ((opR F op new).run ⟨env, sto⟩).bind fun e => Jy F r new ⟨env, upd e.ws sto⟩ (lgA lg (rdO F op new ⟨env, sto⟩) (e.ws.map (·.1))) := by
  rw [Joc, h]; rfl
def pk (u : AV) (a b : Option AV) : Option AV := match u with
  | .p (.b x) => if x = true then a else b
  | _ => none
@[congr] theorem Jxr {α : Type} {n n' new new' : Nat} {sto : List Blk} {o : Option α} (h : n = n') (h' : new = new') : dds n new sto o = dds n' new' sto o := by rw [h, h']
theorem J22 {α : Type} (n new : Nat) (sto : List Blk) : dds n new sto (none : Option α) = none := by
  unfold dds; split <;> rfl
theorem JtK {α β : Type} (n new : Nat) (sto : List Blk) (o : Option α) (g : α → Option β) : dds n new sto (o.bind g) = o.bind fun a => dds n new sto (g a) := by
  cases o with
  | none => exact J22 ..
  | some a => rfl
theorem JvH {β : Type} {K : Eff → Option β} {o : Option AV} : ((o.bind fun v => some ⟨v, []⟩).bind K) = o.bind fun v => K ⟨v, []⟩ := by cases o <;> rfl
def pkk (a b : Option (List Nat × List Nat)) : Bool := match a, b with
  | some a, some b => J6m a.2 b.1 && J6m a.2 b.2 && J6m a.1 b.2
  | _, _ => false
theorem bi {α β : Type} {o : Option α} {f : α → Option β} {r : β} (h : Option.bind o f = some r) : ∃ x, o = some x ∧ f x = some r := Option.bind_eq_some_iff.1 h
theorem sj {α : Type} {a b : α} (h : some a = some b) : a = b := Option.some.inj h
theorem mi {α β : Type} {o : Option α} {f : α → β} {r : β} (h : Option.map f o = some r) : ∃ x, o = some x ∧ f x = r := Option.map_eq_some_iff.1 h
inductive Dum {α : Type} : α → Type where
  | mk (a : α) : Dum a
def J8w {α : Type} (a : α) (_ : Dum a) : α := a
def pkh {β : Type} (u : AV) (a b : Option AV) (K : AV → Option β) : Option β := (pk u a b).bind K
theorem Jsz {β : Type} {K : Eff → Option β} {a b : Opd} {o : Option AV} : ((o.bind fun u => RM.run (match u with
    | .p (.b x) => if x = true then (ev a).bind fun v => .ret ⟨v, []⟩ else (ev b).bind fun v => .ret ⟨v, []⟩
    | _ => .fail) ⟨env, sto⟩).bind K) = o.bind fun u => (pk u (evv a env) (evv b env)).bind fun v => K ⟨v, []⟩ := by
  cases o with
  | none => rfl
  | some u =>
    simp only [Option.bind_some]
    cases u with
    | p c =>
      cases c with
      | b x =>
        cases x with
        | true => simp only [if_true, run_bind, J0V, pk]; cases evv a env <;> rfl
        | false => simp only [Bool.false_eq_true, if_false, run_bind, J0V, pk]; cases evv b env <;> rfl
      | _ => rfl
    | _ => rfl
theorem Jet {β : Type} {K : Eff → Option β} {o : Option AV} (g : AV → Option AV) : ((o.bind fun a => (Go.Am.val (g a)).run ⟨env, sto⟩).bind K) = o.bind fun a => (g a).bind fun v => K ⟨v, []⟩ := by
  cases o with
  | none => rfl
  | some a => simp only [Option.bind_some]; cases g a <;> rfl
theorem Jlt {β : Type} {K : Eff → Option β} {o o' : Option AV} (g : AV → AV → Option AV) : ((o.bind fun a => o'.bind fun c => (Go.Am.val (g a c)).run ⟨env, sto⟩).bind K) = o.bind fun a => o'.bind fun c => (g a c).bind fun v => K ⟨v, []⟩ := by
  cases o with
  | none => rfl
  | some a =>
    cases o' with
    | none => rfl
    | some c => simp only [Option.bind_some]; cases g a c <;> rfl
theorem JnY {β : Type} {o : Option AV} (g : AV → Option Eff) {k : Eff → Option β} : ((o.bind fun a => g a).bind k) = o.bind fun a => (g a).bind k := by
  cases o <;> rfl
theorem Js3 {β : Type} {o o' : Option AV} {e b : Nat} {z : List PV} {s : St} {k : Eff → Option β} : ((o.bind fun a => o'.bind fun c => RM.run (match zrs e z c with
    | some c1 => J8s e b a c1
    | none => .fail) s).bind k) = o.bind fun a => o'.bind fun c => (zrs e z c).bind fun c1 => ((J8s e b a c1).run s).bind k := by
  cases o with
  | none => rfl
  | some a => cases o' with
    | none => rfl
    | some c =>
      simp only [Option.bind_some]
      cases zrs e z c <;> rfl
theorem Jja {β : Type} {o o' : Option AV} (g : AV → AV → Option Eff) {k : Eff → Option β} : ((o.bind fun a => o'.bind fun c => g a c).bind k) = o.bind fun a => o'.bind fun c => (g a c).bind k := by
  cases o <;> cases o' <;> rfl
def Jlr (a c : AV) : Option AV := match a, c with
  | .p (.s l), .p (.i _ n) => if 0 ≤ n then
      match l[n.toNat]? with
      | some u => some (.p (.i .u8 u.toNat))
      | none => none
    else none
  | _, _ => none
theorem Jvc {β : Type} {K : Eff → Option β} {o o' : Option AV} : ((o.bind fun a => o'.bind fun c => RM.run (match a, c with
    | .p (.s l), .p (.i _ n) => if 0 ≤ n then
        match l[n.toNat]? with
        | some u => .ret ⟨.p (.i .u8 u.toNat), []⟩
        | none => .fail
      else .fail
    | _, _ => .fail) ⟨env, sto⟩).bind K) = o.bind fun a => o'.bind fun c => (Jlr a c).bind fun v => K ⟨v, []⟩ := by
  cases o with
  | none => rfl
  | some a =>
    cases o' with
    | none => rfl
    | some c =>
      simp only [Option.bind_some, Jlr]
      split
      · split
        · split <;> rfl
        · rfl
      · rfl
theorem Jwp (l : List UInt8) (k : IntKind) (n : Int) : Jlr (.p (.s l)) (.p (.i k n)) = (Jd6 l n).map fun v => .p (.i .u8 v) := by
  simp only [Jlr, Jd6]
  by_cases h : 0 ≤ n
  · simp only [if_pos h]; cases l[n.toNat]? <;> rfl
  · simp only [if_neg h]; rfl
def JiV (g : Bool) (n e : Nat) (a c : AV) : Option AV := match c with
  | .p (.i _ i) => if 0 ≤ i ∧ i < n then J6f g (i.toNat * e) e a else none
  | _ => none
theorem Jv8 {β : Type} {K : Eff → Option β} {g : Bool} {n e : Nat} {o o' : Option AV} : ((o.bind fun a => o'.bind fun c => RM.run (match c with
    | .p (.i _ i) => if 0 ≤ i ∧ i < n then Go.Am.val (J6f g (i.toNat * e) e a) else .fail
    | _ => .fail) ⟨env, sto⟩).bind K) = o.bind fun a => o'.bind fun c => (JiV g n e a c).bind fun v => K ⟨v, []⟩ := by
  cases o with
  | none => rfl
  | some a =>
    cases o' with
    | none => rfl
    | some c =>
      simp only [Option.bind_some, JiV]
      split
      · split
        · cases J6f g _ e a <;> rfl
        · rfl
      · rfl
theorem JvQ (g : Bool) (n e : Nat) (cs : List PV) (k : IntKind) (i : Int) : JiV g n e (.data cs) (.p (.i k i)) = if 0 ≤ i ∧ i < n then (sub cs (i.toNat * e) e).bind (J2j g) else none := by
  simp only [JiV, J6f]
  split
  · cases sub cs (i.toNat * e) e <;> rfl
  · rfl
def JnH : AV → Option AV
  | .ptr b o => some (.ptr b o)
  | .cp cs o => some (.cp cs o)
  | .ep b e i o => some (.ep b e i o)
  | .fn f u c => some (.fn f u c)
  | _ => none
theorem Jue {β : Type} {K : Eff → Option β} {o : Option AV} : ((o.bind fun a => RM.run (match a with
    | .ptr b o => .ret ⟨.ptr b o, []⟩
    | .cp cs o => .ret ⟨.cp cs o, []⟩
    | .ep b e i o => .ret ⟨.ep b e i o, []⟩
    | .fn f u c => .ret ⟨.fn f u c, []⟩
    | _ => .fail) ⟨env, sto⟩).bind K) = o.bind fun a => (JnH a).bind fun v => K ⟨v, []⟩ := by
  cases o with
  | none => rfl
  | some a => cases a <;> rfl
def cvR (k : CK) (a : AV) (new : Nat) : RM Eff := match k, a with
  | .int k, .p (.i _ n) => .ret ⟨.p (.i k (k.wrap n)), []⟩
  | .same, .p (.s l) => .ret ⟨.p (.s l), []⟩
  | .toStr, a => (J0y 1 a).bind fun rows => match J6G rows with
    | some l => .ret ⟨.p (.s l), []⟩
    | none => .fail
  | .toBytes own, .p (.s l) => if own then .ret ⟨.slr new 0 l.length, [(new, .arr true 1 (l.map J4O))]⟩ else .ret ⟨.p (.sl 1 (l.map J4O)), []⟩
  | _, _ => .fail
theorem JsR {lg : Option Log} {c : CK} {x : Opd} : Jy F (⟨.conv c x, some d, none⟩ :: r) new ⟨env, sto⟩ lg = (evv x env).bind fun a => dds (JW (.conv c x)) new sto (((cvR c a new).run ⟨env, sto⟩).bind fun e => Jy F r (new + JW (.conv c x)) ⟨(d, e.val) :: env, upd e.ws sto⟩ (lgA lg (rdO F (.conv c x) new ⟨env, sto⟩) (e.ws.map (·.1)))) := by
  rw [stD]
  have : (opR F (.conv c x) new).run ⟨env, sto⟩ = (evv x env).bind fun a => (cvR c a new).run ⟨env, sto⟩ := by
    simp only [opR, run_bind, J0V]; rfl
  rw [this, JnY (fun a => (cvR c a new).run ⟨env, sto⟩), JtK]
theorem JrM {lg : Option Log} {z : List PV} {ps : List (Nat × Nat × Opd)} : Jy F (⟨.build z ps, some d, none⟩ :: r) new ⟨env, sto⟩ lg = ((J31 ps).run ⟨env, sto⟩).bind fun l => (J1o l (z.map .p)).bind fun cs => (J25 true cs).bind fun v => Jy F r new ⟨(d, v) :: env, sto⟩ (lgA lg (rdO F (.build z ps) new ⟨env, sto⟩) []) := by
  rw [st0 (h := rfl)]
  simp only [opR, run_bind]
  cases (J31 ps).run ⟨env, sto⟩ with
  | none => rfl
  | some l =>
    simp only [Option.bind_some]
    cases J1o l (z.map .p) with
    | none => rfl
    | some cs => simp only [Option.bind_some]; cases J25 true cs <;> rfl
def Ja3 (x : Option Opd) (env : List (Nat × AV)) : Option (Option AV) := match x with
  | none => some none
  | some x => (evv x env).map some
theorem Juz (x : Option Opd) : (evo x).run ⟨env, sto⟩ = Ja3 x env := by
  cases x with
  | none => rfl
  | some x => simp only [evo, run_bind, J0V, Ja3]; cases evv x env <;> rfl
def slR (s : SK) (a : AV) (lo hi mx : Option AV) : RM Eff := match a with
  | .slr b i n => (fz (.slr b i n)).bind fun y => match y.1 with
    | [c] => match J6c s (.p c) lo hi mx with
      | some v => .ret ⟨v, y.2⟩
      | none => .fail
    | _ => .fail
  | a => Go.Am.val (J6c s a lo hi mx)
theorem JrY {lg : Option Log} {s : SK} {x : Opd} {lo hi mx : Option Opd} : Jy F (⟨.slice s x lo hi mx, some d, none⟩ :: r) new ⟨env, sto⟩ lg = (evv x env).bind fun a => (Ja3 lo env).bind fun lo1 => (Ja3 hi env).bind fun hi1 => (Ja3 mx env).bind fun mx1 => ((slR s a lo1 hi1 mx1).run ⟨env, sto⟩).bind fun e => Jy F r new ⟨(d, e.val) :: env, upd e.ws sto⟩ (lgA lg (rdO F (.slice s x lo hi mx) new ⟨env, sto⟩) (e.ws.map (·.1))) := by
  rw [st0 (h := rfl)]
  have : (opR F (.slice s x lo hi mx) new).run ⟨env, sto⟩ = (evv x env).bind fun a => (Ja3 lo env).bind fun lo => (Ja3 hi env).bind fun hi => (Ja3 mx env).bind fun mx => (slR s a lo hi mx).run ⟨env, sto⟩ := by
    simp only [opR, run_bind, J0V, Juz]; rfl
  rw [this]
  cases evv x env with
  | none => rfl
  | some a =>
    cases Ja3 lo env with
    | none => rfl
    | some lo =>
      cases Ja3 hi env with
      | none => rfl
      | some hi => cases Ja3 mx env <;> rfl
def slX (s : SK) (x : AV) (lo hi : Option AV) : Option AV := J6c s x lo hi none
theorem JqP {lg : Option Log} {z : List PV} : Jy F (⟨.newbox z, some d, none⟩ :: r) new ⟨env, sto⟩ lg = dds 1 new sto (Jy F r (new + 1) ⟨(d, .ptr new 0) :: env, sto.set new (.box (z.map .p))⟩ (lgA lg (rdO F (.newbox z) new ⟨env, sto⟩) [new])) := by
  rw [stD]; rfl
def Jnu (e b : Nat) (a : AV) (add : List (List PV)) : Option (List (List PV)) := match a with
  | .p (.slc e' rows) => if e = e' ∧ 0 < add.length ∧ J6Y (rows.length + add.length) b = true then some (rows ++ add) else none
  | _ => none
theorem JsI {lg : Option Log} {e b : Nat} {z : List PV} {x y : Opd} : Jy F (⟨.appc e b z x y, some d, none⟩ :: r) new ⟨env, sto⟩ lg = (evv x env).bind fun a => (evv y env).bind fun c => ((J0y e c).run ⟨env, sto⟩).bind fun add => (Jnu e b a add).bind fun rows => dds 1 new sto (Jy F r (new + 1) ⟨(d, .slr new 0 rows.length) :: env, sto.set new (.arr true e rows)⟩ (lgA lg (rdO F (.appc e b z x y) new ⟨env, sto⟩) [new])) := by
  rw [stD]
  simp only [opR, run_bind, J0V, JW]
  cases evv x env with
  | none => exact J22 ..
  | some a =>
    simp only [Option.bind_some]
    cases evv y env with
    | none => exact J22 ..
    | some c =>
      simp only [Option.bind_some]
      cases hq : (J0y e c).run ⟨env, sto⟩ with
      | none =>
        have : (Jj2 e b a c new).run ⟨env, sto⟩ = none := by
          unfold Jj2; split
          · simp only [run_bind, hq]; rfl
          · rfl
        rw [this]; exact J22 ..
      | some add =>
        simp only [Option.bind_some]
        have : (Jj2 e b a c new).run ⟨env, sto⟩ = (Jnu e b a add).map fun rows => ⟨.slr new 0 rows.length, [(new, .arr true e rows)]⟩ := by
          cases a with
          | p q => cases q with
            | slc e' rows =>
              simp only [Jj2, Jnu, run_bind, hq, Option.bind_some]
              split
              · simp [J1p]
              · rfl
            | _ => rfl
          | _ => rfl
        rw [this]
        cases Jnu e b a add with
        | none => exact J22 ..
        | some rows => rfl
theorem JtT {lg : Option Log} {e b : Nat} {z : List PV} {y : Opd} : Jy F (⟨.appn e b z y, some d, none⟩ :: r) new ⟨env, sto⟩ lg = (evv y env).bind fun c => ((J0y e c).run ⟨env, sto⟩).bind fun rows => if J6Y rows.length b = true then dds 1 new sto (Jy F r (new + 1) ⟨(d, .slr new 0 rows.length) :: env, sto.set new (.arr true e rows)⟩ (lgA lg (rdO F (.appn e b z y) new ⟨env, sto⟩) [new])) else none := by
  rw [stD]
  simp only [opR, run_bind, J0V, JW]
  cases evv y env with
  | none => exact J22 ..
  | some c =>
    simp only [Option.bind_some]
    cases (J0y e c).run ⟨env, sto⟩ with
    | none => exact J22 ..
    | some rows =>
      simp only [Option.bind_some]
      split
      · rfl
      · exact J22 ..
theorem JrR {lg : Option Log} {e : Nat} {x : Opd} : Jy F (⟨.mkarr e x, some d, none⟩ :: r) new ⟨env, sto⟩ lg = dds 1 new sto (Jy F r (new + 1) ⟨(d, .slr new 0 0) :: env, sto.set new (.arr true e [])⟩ (lgA lg (rdO F (.mkarr e x) new ⟨env, sto⟩) [new])) := by
  rw [stD]; rfl
def bxP (n : Nat) (a : AV) : Option (List AV) := match cellsOf a with
  | some cs => if cs.length = n then some cs else none
  | none => none
theorem Jvf {lg : Option Log} {n : Nat} {x : Opd} : Jy F (⟨.box n x, some d, none⟩ :: r) new ⟨env, sto⟩ lg = (evv x env).bind fun a => (bxP n a).bind fun cs => dds 1 new sto (Jy F r (new + 1) ⟨(d, .ptr new 0) :: env, sto.set new (.box cs)⟩ (lgA lg (rdO F (.box n x) new ⟨env, sto⟩) [new])) := by
  rw [stD]
  simp only [opR, run_bind, J0V, JW]
  cases evv x env with
  | none => exact J22 ..
  | some a =>
    simp only [Option.bind_some, bxP]
    cases cellsOf a with
    | none => exact J22 ..
    | some cs =>
      dsimp only
      split
      · rfl
      · exact J22 ..
def ltR (o : Bool) (e n : Nat) (z : List PV) (ps : List (Nat × Opd)) (new : Nat) : RM Eff := (fzs (ps.map (·.2))).bind fun a =>
    match J4x e ((ps.map (·.1)).zip a.1) (List.replicate n z) with
    | some rows => if o then .ret ⟨.slr new 0 n, a.2 ++ [(new, .arr true e rows)]⟩ else .ret ⟨.p (.sl e rows), a.2⟩
    | none => .fail
theorem Jsv {lg : Option Log} {o : Bool} {e n : Nat} {z : List PV} {ps : List (Nat × Opd)} : Jy F (⟨.lits o e n z ps, some d, none⟩ :: r) new ⟨env, sto⟩ lg = dds (if o then 1 else 0) new sto (((ltR o e n z ps new).run ⟨env, sto⟩).bind fun x => Jy F r (new + if o then 1 else 0) ⟨(d, x.val) :: env, upd x.ws sto⟩ (lgA lg (rdO F (.lits o e n z ps) new ⟨env, sto⟩) (x.ws.map (·.1)))) := by
  rw [stD]; rfl
theorem Jwy (env : List (Nat × AV)) (sto : List Blk) (o : Bool) (e n new : Nat) (z : List PV) (ps : List (Nat × Opd)) : (ltR o e n z ps new).run ⟨env, sto⟩ = ((fzs (ps.map (·.2))).run ⟨env, sto⟩).bind fun a => (J4x e ((ps.map (·.1)).zip a.1) (List.replicate n z)).map fun rows => if o then ⟨.slr new 0 n, a.2 ++ [(new, .arr true e rows)]⟩ else ⟨.p (.sl e rows), a.2⟩ := by
  simp only [ltR, run_bind]
  cases (fzs (ps.map (·.2))).run ⟨env, sto⟩ with
  | none => rfl
  | some a =>
    simp only [Option.bind_some]
    cases J4x e ((ps.map (·.1)).zip a.1) (List.replicate n z) with
    | none => rfl
    | some rows => cases o <;> rfl
def mkP (o : Bool) (e b : Nat) (z : List PV) (a c : AV) (new : Nat) : Option Eff := match a, c with
  | .p (.i _ n), .p (.i _ m) =>
    if 0 ≤ n ∧ n ≤ m ∧ b * m ≤ 281474976710656 ∧ m ≤ 281474976710656 then
      some (if o then ⟨.slr new 0 n.toNat, [(new, .arr true e (List.replicate n.toNat z))]⟩ else ⟨.p (.sl e (List.replicate n.toNat z)), []⟩)
    else none
  | _, _ => none
theorem Jwx (o : Bool) (e b : Nat) (z : List PV) (a c : AV) (new : Nat) (s : St) : RM.run (match a, c with
    | .p (.i _ n), .p (.i _ m) =>
      if 0 ≤ n ∧ n ≤ m ∧ b * m ≤ 281474976710656 ∧ m ≤ 281474976710656 then
        if o then .ret ⟨.slr new 0 n.toNat, [(new, .arr true e (List.replicate n.toNat z))]⟩
        else .ret ⟨.p (.sl e (List.replicate n.toNat z)), []⟩
      else .fail
    | _, _ => .fail) s = mkP o e b z a c new := by
  unfold mkP
  split
  · rename_i k n k2 m
    by_cases h : 0 ≤ n ∧ n ≤ m ∧ b * m ≤ 281474976710656 ∧ m ≤ 281474976710656
    · simp only [if_pos h]; cases o <;> rfl
    · simp only [if_neg h]; rfl
  · rfl
theorem Jpl {lg : Option Log} {o : Bool} {e b : Nat} {z : List PV} {l c : Opd} : Jy F (⟨.mkslice o e b z l c, some d, none⟩ :: r) new ⟨env, sto⟩ lg = (evv l env).bind fun a => (evv c env).bind fun x => dds (if o then 1 else 0) new sto ((mkP o e b z a x new).bind fun x => Jy F r (new + if o then 1 else 0) ⟨(d, x.val) :: env, upd x.ws sto⟩ (lgA lg (rdO F (.mkslice o e b z l c) new ⟨env, sto⟩) (x.ws.map (·.1)))) := by
  rw [stD]
  simp only [opR, run_bind, J0V, JW]
  cases evv l env with
  | none => exact J22 ..
  | some a =>
    cases evv c env with
    | none => exact J22 ..
    | some x =>
      simp only [Option.bind_some]
      exact congrArg (fun y => dds (if o then 1 else 0) new sto (y.bind fun x => Jy F r (new + if o then 1 else 0) ⟨(d, x.val) :: env, upd x.ws sto⟩ (lgA lg (rdO F (.mkslice o e b z l c) new ⟨env, sto⟩) (x.ws.map (·.1))))) (Jwx o e b z a x new ⟨env, sto⟩)
theorem Jp4 {F : Orc} {f : FuncId} {args args' : List AV} {b ext i esz : Nat} {row row' : List PV} {rows : List (List PV)} {bs : List Nat} {css css' : List (List AV)} {v : AV} (he : J0f.entsOfL args [] = .elem b ext i :: bs.map .whole) (hn : J3W (b :: bs) = true)
    (hr : ren.renL (fun e => J3m e (.elem b ext i :: bs.map .whole) 0) args = some args') (hp : Jo css = true) (hF : F f args' (.box (row.map .p) :: css.map .box) = some (v, .box (row'.map .p) :: css'.map .box)) (hl : bs.length = css'.length) (hv : JgB v = true) (hp' : Jo css' = true)
    (ws : List (Nat × Blk)) (new : Nat) (s : St) (ha : (J8t ws b).run s = some (.arr true esz rows)) (hx : ext = rows.length) (hi : rows[i]? = some row) (hb : JP ws s bs css) :
    (Jq F f (args, ws) 0 new).run s = some ⟨v, ws ++ (b, .arr true esz (rows.set i row')) :: bs.zip (css'.map .box)⟩ := by
  have e0 : ((Ent.elem b ext i :: bs.map Ent.whole)).map Ent.id = b :: bs := by rw [List.map_cons, List.map_map]; exact congrArg _ (List.map_id bs)
  have x1 : ∀ acc, (J7S ws (.elem b ext i :: bs.map .whole) acc).run s = some acc := fun acc => JdN hb hp
  have rp : ren.renL (fun e => J3m e (Ent.elem b ext i :: bs.map .whole) 0) (row.map AV.p) = some (row.map AV.p) := J6u (Jb row)
  have i1 : (J4o ws (fun e => J3m e (Ent.elem b ext i :: bs.map .whole) 0) (.elem b ext i :: bs.map .whole)).run s = some (.box (row.map .p) :: css.map .box) := by
    simp only [J4o, run_bind, JdH, ha, Option.bind_some, hx, if_true, hi, J1p]
    have := Jd2 (ρ := fun e => J3m e (Ent.elem b ext i :: bs.map .whole) 0) hb hp
    rw [hx] at this
    rw [this]
    rfl
  have o1 : (J2t ws (Ent.elem b ext i :: bs.map .whole) new (.elem b ext i :: bs.map .whole) (.box (row'.map .p) :: css'.map .box)).run s = some ((b, .arr true esz (rows.set i row')) :: bs.zip (css'.map .box)) := by
    simp only [J2t, run_bind, Jai, ha, Option.bind_some, Jjl, J1p, JgZ hl hp']
  have e1 : (Blk.box (row'.map AV.p) :: css'.map Blk.box).length = (Ent.elem b ext i :: bs.map Ent.whole).length + 0 := by simp [hl]
  have e2 : (Blk.box (row'.map AV.p) :: css'.map Blk.box).drop (Ent.elem b ext i :: bs.map Ent.whole).length = [] := by simp [hl]
  simp only [Jq, run_bind, he, x1, Option.bind_some, e0, hn, if_true, hr, i1, hF, e1, e2, JgQ hv, J3j, o1, J1p, List.append_nil]
theorem Jte {F : Orc} {f : FuncId} {args : List AV} {v : AV} (hp : args.all J3U = true) (hF : F f args [] = some (v, [])) (hb : ∀ new, bk [] new v = some v) (ws : List (Nat × Blk)) (new : Nat) (s : St) :
    (Jq F f (args, ws) 0 new).run s = some ⟨v, ws⟩ := by
  have e1 : J0f.entsOfL args [] = [] := J5C hp
  simp [Jq, run_bind, e1, J7S, J1p, J3W, J6u hp, J4o, hF, J3j, J2t, hb]
theorem Jr9 {F : Orc} {f : FuncId} {args : List AV} {v : AV} {bs : List Blk} {k : Nat} {v' : Nat → AV} {ws' : Nat → List (Nat × Blk)} (hp : args.all J3U = true) (hF : F f args [] = some (v, bs)) (hb : ∀ new, bk [] new v = some (v' new))
    (hn : ∀ new, J3j [] new new bs = some (ws' new)) (hk : bs.length ≤ k) (ws : List (Nat × Blk)) (new : Nat) (s : St) : (J3T F f (args, ws) k new).run s = some ⟨v' new, ws ++ ws' new⟩ := by
  have e1 : J0f.entsOfL args [] = [] := J5C hp
  simp [J3T, run_bind, e1, J7S, J1p, J3W, J6u hp, J4o, hF, J2t, hb, hn, hk]
def Jop (b : Nat) (B : Option Blk) (l : List Nat) : List Nat := match B with
  | some (.box _) => b :: l
  | some (.arr _ _ _) => b :: l
  | _ => l
theorem Jvj (m b : Nat) (sto : List Blk) (r : List Ent) : J1y m true sto (.whole b :: r) = if b < m then J1y m true sto r else Jop b sto[b]? (J1y m true sto r) := by
  simp only [J1y, Jop]
  split
  · rfl
  · split <;> simp_all
theorem Jxz {α : Type} (n new : Nat) (sto : List Blk) (o : Option α) : dds (n + 1) new sto o = dd1 sto[new]? (dds n (new + 1) sto o) := by
  unfold dds dd1
  simp only [J7v, RM.run]
  cases sto[new]? with
  | none => rfl
  | some b => cases b <;> rfl
theorem Jpj {lg : Option Log} {z : List PV} {os : List (Nat × Nat)} : Jy F (⟨.newboxo z os, some d, none⟩ :: r) new ⟨env, sto⟩ lg =
    dds (os.length + 1) new sto (Jy F r (new + (os.length + 1)) ⟨(d, .ptr (new + os.length) 0) :: env, upd (J3C os new ++ [(new + os.length, .box (J8i os new (z.map .p)))]) sto⟩
      (lgA lg (rdO F (.newboxo z os) new ⟨env, sto⟩) ((J3C os new ++ [(new + os.length, Blk.box (J8i os new (z.map .p)))]).map (·.1)))) := by
  rw [stD]; rfl
theorem JqU {lg : Option Log} {e : Nat} {x : Opd} : Jy F (⟨.storen e x, none, none⟩ :: r) new ⟨env, sto⟩ lg =
    (evv x env).bind fun a => dds 1 new sto (((J20 1 a (.slr new 0 0)).run ⟨env, sto⟩).bind fun q => Jy F r (new + 1) ⟨env, upd ((new, .arr true e []) :: q.ws) sto⟩ (lgA lg (rdO F (.storen e x) new ⟨env, sto⟩) (new :: q.ws.map (·.1)))) := by
  rw [Joc]
  simp only [opR, run_bind, J0V, JW]
  cases evv x env with
  | none => exact J22 ..
  | some a => simp only [Option.bind_some]; cases (J20 1 a (.slr new 0 0)).run ⟨env, sto⟩ <;> rfl
theorem Jqt {lg : Option Log} {z : List PV} {ps : List (Nat × Nat × Opd)} {os : List (Nat × Nat)} : Jy F (⟨.buildo z ps os, some d, none⟩ :: r) new ⟨env, sto⟩ lg =
    ((J31 ps).run ⟨env, sto⟩).bind fun l => (J1o l (J8i os new (z.map .p))).bind fun cs => (J25 true cs).bind fun v =>
      dds os.length new sto (Jy F r (new + os.length) ⟨(d, v) :: env, upd (J3C os new) sto⟩ (lgA lg (rdO F (.buildo z ps os) new ⟨env, sto⟩) ((J3C os new).map (·.1)))) := by
  rw [stD]
  simp only [opR, run_bind, JW]
  cases (J31 ps).run ⟨env, sto⟩ with
  | none => exact J22 ..
  | some l =>
    simp only [Option.bind_some]
    cases J1o l (J8i os new (z.map .p)) with
    | none => exact J22 ..
    | some cs =>
      simp only [Option.bind_some]
      cases J25 true cs with
      | none => exact J22 ..
      | some v => rfl
theorem JrN {lg : Option Log} {g : FuncId} {kp : List Bool} {args : List Opd} {n : Nat} : Jy F (⟨.callo g kp args n, some d, none⟩ :: r) new ⟨env, sto⟩ lg = dds n new sto (((evs args).run ⟨env, sto⟩).bind fun a => ((J2J kp a).run ⟨env, sto⟩).bind fun a => ((J3T F g a n new).run ⟨env, sto⟩).bind fun e => Jy F r (new + n) ⟨(d, e.val) :: env, upd e.ws sto⟩ (lgA lg (rdO F (.callo g kp args n) new ⟨env, sto⟩) (e.ws.map (·.1)))) := by
  rw [stD]
  simp only [opR, run_bind, JW]
  cases (evs args).run ⟨env, sto⟩ with
  | none => rfl
  | some a => simp only [Option.bind_some]; cases (J2J kp a).run ⟨env, sto⟩ <;> rfl
theorem Jqn {lg : Option Log} {g : FuncId} {kp : List Bool} {args : List Opd} {n : Nat} : Jy F (⟨.callo g kp args n, none, none⟩ :: r) new ⟨env, sto⟩ lg = dds n new sto (((evs args).run ⟨env, sto⟩).bind fun a => ((J2J kp a).run ⟨env, sto⟩).bind fun a => ((J3T F g a n new).run ⟨env, sto⟩).bind fun e => Jy F r (new + n) ⟨env, upd e.ws sto⟩ (lgA lg (rdO F (.callo g kp args n) new ⟨env, sto⟩) (e.ws.map (·.1)))) := by
  rw [Joc]
  simp only [opR, run_bind, JW]
  cases (evs args).run ⟨env, sto⟩ with
  | none => rfl
  | some a => simp only [Option.bind_some]; cases (J2J kp a).run ⟨env, sto⟩ <;> rfl
theorem Jma : ∀ l : List AV, J2J [] l = JT l
  | [] => rfl
  | x :: r => by simp only [J2J, JT, Jma r]
theorem JuI (x : AV) (m : List Bool) (r : List AV) : (J2J (false :: m) (x :: r)).run ⟨env, sto⟩ = ((JT [x]).run ⟨env, sto⟩).bind fun a => ((J2J m r).run ⟨env, sto⟩).bind fun c => some (a.1 ++ c.1, a.2 ++ c.2) := by
  simp only [J2J, JT, run_bind]
  cases (J8B x).run ⟨env, sto⟩ with
  | none => rfl
  | some a => simp only [Option.bind_some, RM.run]; cases (J2J m r).run ⟨env, sto⟩ <;> simp
theorem Jud (x : AV) (m : List Bool) (r : List AV) : (J2J (true :: m) (x :: r)).run ⟨env, sto⟩ = ((J2J m r).run ⟨env, sto⟩).bind fun c => some (x :: c.1, c.2) := by
  simp only [J2J, run_bind]
  cases (J2J m r).run ⟨env, sto⟩ <;> rfl
theorem JtJ {lg : Option Log} {g : FuncId} {args : List Opd} {n : Nat} : Jy F (⟨.call g args n, some d, none⟩ :: r) new ⟨env, sto⟩ lg = dds n new sto (((evs args).run ⟨env, sto⟩).bind fun a => ((JT a).run ⟨env, sto⟩).bind fun a => ((Jq F g a n new).run ⟨env, sto⟩).bind fun e => Jy F r (new + n) ⟨(d, e.val) :: env, upd e.ws sto⟩ (lgA lg (rdO F (.call g args n) new ⟨env, sto⟩) (e.ws.map (·.1)))) := by
  rw [stD]
  simp only [opR, run_bind, JW, JcD]
  cases (evs args).run ⟨env, sto⟩ with
  | none => rfl
  | some a => simp only [Option.bind_some]; cases (JT a).run ⟨env, sto⟩ <;> rfl
theorem JrA {lg : Option Log} {g : FuncId} {args : List Opd} {n : Nat} : Jy F (⟨.call g args n, none, none⟩ :: r) new ⟨env, sto⟩ lg = dds n new sto (((evs args).run ⟨env, sto⟩).bind fun a => ((JT a).run ⟨env, sto⟩).bind fun a => ((Jq F g a n new).run ⟨env, sto⟩).bind fun e => Jy F r (new + n) ⟨env, upd e.ws sto⟩ (lgA lg (rdO F (.call g args n) new ⟨env, sto⟩) (e.ws.map (·.1)))) := by
  rw [Joc]
  simp only [opR, run_bind, JW, JcD]
  cases (evs args).run ⟨env, sto⟩ with
  | none => rfl
  | some a => simp only [Option.bind_some]; cases (JT a).run ⟨env, sto⟩ <;> rfl
def cvg {α : Type} (u : AV) (k : FuncId → List AV → List AV → Option α) : Option α := match u with
  | .fn f a c => k f a c
  | _ => none
theorem Ju2 {lg : Option Log} {g : FuncId} {a c : List Opd} : Jy F (⟨.mkfn g a c, some d, none⟩ :: r) new ⟨env, sto⟩ lg = ((evs a).run ⟨env, sto⟩).bind fun a1 => ((evs c).run ⟨env, sto⟩).bind fun c1 => Jy F r new ⟨(d, .fn g a1 c1) :: env, sto⟩ (lgA lg (rdO F (.mkfn g a c) new ⟨env, sto⟩) []) := by
  rw [st0 (h := rfl)]
  simp only [opR, run_bind]
  cases (evs a).run ⟨env, sto⟩ with
  | none => rfl
  | some a1 => simp only [Option.bind_some]; cases (evs c).run ⟨env, sto⟩ <;> rfl
theorem Jrl {lg : Option Log} {g : Opd} {args : List Opd} {n : Nat} : Jy F (⟨.callv g args n, some d, none⟩ :: r) new ⟨env, sto⟩ lg = (evv g env).bind fun u => cvg u fun h a1 c1 => dds n new sto (((evs args).run ⟨env, sto⟩).bind fun a => ((JT (a1 ++ a ++ c1)).run ⟨env, sto⟩).bind fun a => ((Jq F h a n new).run ⟨env, sto⟩).bind fun q => Jy F r (new + n) ⟨(d, q.val) :: env, upd q.ws sto⟩ (lgA lg (rdO F (.callv g args n) new ⟨env, sto⟩) (q.ws.map (·.1)))) := by
  rw [stD]
  simp only [opR, run_bind, J0V, JW]
  cases evv g env with
  | none => exact J22 ..
  | some u =>
    simp only [Option.bind_some]
    cases u with
    | fn h a1 c1 =>
      simp only [cvg, run_bind, JcD]
      cases (evs args).run ⟨env, sto⟩ with
      | none => rfl
      | some a => simp only [Option.bind_some]; cases (JT (a1 ++ a ++ c1)).run ⟨env, sto⟩ <;> rfl
    | _ => exact J22 ..
theorem JqV {lg : Option Log} {g : Opd} {args : List Opd} {n : Nat} : Jy F (⟨.callv g args n, none, none⟩ :: r) new ⟨env, sto⟩ lg = (evv g env).bind fun u => cvg u fun h a1 c1 => dds n new sto (((evs args).run ⟨env, sto⟩).bind fun a => ((JT (a1 ++ a ++ c1)).run ⟨env, sto⟩).bind fun a => ((Jq F h a n new).run ⟨env, sto⟩).bind fun q => Jy F r (new + n) ⟨env, upd q.ws sto⟩ (lgA lg (rdO F (.callv g args n) new ⟨env, sto⟩) (q.ws.map (·.1)))) := by
  rw [Joc]
  simp only [opR, run_bind, J0V, JW]
  cases evv g env with
  | none => exact J22 ..
  | some u =>
    simp only [Option.bind_some]
    cases u with
    | fn h a1 c1 =>
      simp only [cvg, run_bind, JcD]
      cases (evs args).run ⟨env, sto⟩ with
      | none => rfl
      | some a => simp only [Option.bind_some]; cases (JT (a1 ++ a ++ c1)).run ⟨env, sto⟩ <;> rfl
    | _ => exact J22 ..
def grd {α : Type} (x : Option AV) (w : Bool) (a b : Option α) : Option α := match x with
  | some (.p (.b x)) => if x = w then a else b
  | some (.tup []) => b
  | _ => none
end
@[congr] theorem Jxm {α : Type} {x x' : Option AV} {w : Bool} {a b : Option α} (h : x = x') : grd x w a b = grd x' w a b := by rw [h]
theorem Jvd (F : Orc) (r : List J1d) (new : Nat) (env : List (Nat × AV)) (sto : List Blk) (lg : Option Log) (op : AOp) (d : Option Nat) (g : Nat) (w : Bool) :
    Jy F (⟨op, d, some (g, w)⟩ :: r) new ⟨env, sto⟩ lg = grd (lk g env) w (Jy F (⟨op, d, none⟩ :: r) new ⟨env, sto⟩ lg) (Jy F r (new + JW op) (put d ⟨J1g, []⟩ ⟨env, sto⟩) (lgA lg [] [])) := by
  simp only [Jy, J27, RM.run, RM.reads]
  cases lk g env with
  | none => rfl
  | some v =>
    dsimp only
    cases v with
    | p c =>
      cases c with
      | b x =>
        simp only [grd]
        by_cases h : x = w
        · subst h; simp only [if_true]; rfl
        · simp only [if_neg h]; rfl
      | _ => rfl
    | tup l => cases l <;> rfl
    | _ => rfl
def JqN (k : Nat) (v : Option AV) (l : List (Nat × AV)) : List (Nat × AV) := match v with
  | some v => (k, v) :: l
  | none => l
def Jo6 (cs : List AV) (l : Option (List PV)) : AV := match l with
  | some l => .data l
  | none => .agg cs
def ldB (g : Bool) (n off : Nat) (B : Blk) : Option Eff := match B with
  | .box cs => (sub cs off n).bind fun l => (J25 g l).map fun v => ⟨v, []⟩
  | _ => none
def ldE (g : Bool) (n e i off : Nat) (B : Blk) : Option Eff := match B with
  | .arr _ _ rows => if e = rows.length then rows[i]?.bind fun row => (sub row off n).bind fun l => (J2j g l).map fun v => ⟨v, []⟩ else none
  | _ => none
theorem Jup (env : List (Nat × AV)) (sto : List Blk) (g : Bool) (n : Nat) (cs : List PV) (off : Nat) : (J2q g n (.cp cs off)).run ⟨env, sto⟩ = (sub cs off n).bind fun l => (J2j g l).map fun v => ⟨v, []⟩ := by
  simp only [J2q]
  cases sub cs off n with
  | none => rfl
  | some l => simp only [Option.bind_some]; cases J2j g l <;> rfl
theorem Jvt (env : List (Nat × AV)) (sto : List Blk) (g : Bool) (n b off : Nat) : (J2q g n (.ptr b off)).run ⟨env, sto⟩ = sto[b]?.bind fun B => ldB g n off B := by
  simp only [J2q, J7j]
  cases sto[b]? with
  | none => rfl
  | some B =>
    cases B with
    | box cs =>
      simp only [Option.bind_some, ldB]
      cases sub cs off n with
      | none => rfl
      | some l => simp only [Option.bind_some]; cases J25 g l <;> rfl
    | _ => rfl
theorem Jxg (g : Bool) (n off : Nat) (cs : List PV) : ldB g n off (.box (cs.map AV.p)) = (sub cs off n).bind fun l => (J2j g l).map fun v => ⟨v, []⟩ := by
  simp only [ldB, JsF]
  cases sub cs off n with
  | none => rfl
  | some l =>
    simp only [Option.map_some, Option.bind_some]
    cases g with
    | true => rw [Jit]; rfl
    | false => match l with
      | [] => rfl
      | [_] => rfl
      | _ :: _ :: _ => rfl
theorem Jvn (env : List (Nat × AV)) (sto : List Blk) (g : Bool) (n b e i off : Nat) : (J2q g n (.ep b e i off)).run ⟨env, sto⟩ = sto[b]?.bind fun B => ldE g n e i off B := by
  simp only [J2q, J7j]
  cases sto[b]? with
  | none => rfl
  | some B =>
    cases B with
    | arr w z rows =>
      simp only [Option.bind_some, ldE]
      split
      · cases rows[i]? with
        | none => rfl
        | some row =>
          simp only [Option.bind_some]
          cases sub row off n with
          | none => rfl
          | some l => simp only [Option.bind_some]; cases J2j g l <;> rfl
      · rfl
    | _ => rfl
def stB (n b off : Nat) (l : List AV) (B : Blk) : Option Eff := match B with
  | .box cs => if l.length = n then (spl cs off l).map fun cs => ⟨J1g, [(b, .box cs)]⟩ else none
  | _ => none
theorem Juq (env : List (Nat × AV)) (sto : List Blk) (n b off : Nat) (v : AV) : (J20 n (.ptr b off) v).run ⟨env, sto⟩ = sto[b]?.bind fun B => (cellsOf v).bind fun l => stB n b off l B := by
  simp only [J20, J7j]
  cases sto[b]? with
  | none => rfl
  | some B =>
    simp only [Option.bind_some]
    cases B with
    | box cs =>
      dsimp only
      cases cellsOf v with
      | none => rfl
      | some l =>
        simp only [Option.bind_some, stB]
        split
        · cases spl cs off l <;> rfl
        · rfl
    | dead => cases cellsOf v <;> rfl
    | arr w z rows => cases cellsOf v <;> rfl
theorem Ju9 (n b off : Nat) (cs vs : List PV) : stB n b off (vs.map AV.p) (.box (cs.map AV.p)) = if vs.length = n then (spl cs off vs).map fun cs => ⟨J1g, [(b, .box (cs.map AV.p))]⟩ else none := by
  simp only [stB, List.length_map, Joq]
  split
  · cases spl cs off vs <;> rfl
  · rfl
theorem Jxh (b off : Nat) (cs : List PV) (v : PV) : stB 1 b off [AV.p v] (.box (cs.map AV.p)) = (spl cs off [v]).map fun cs => ⟨J1g, [(b, .box (cs.map AV.p))]⟩ := by
  have := Ju9 1 b off cs [v]
  simpa using this
def stE (n b e i off : Nat) (v : AV) (B : Blk) (s : St) : Option Eff := match B with
  | .arr true z rows => if e = rows.length then
      match rows[i]? with
      | some row => ((fz v).run s).bind fun a =>
        if a.1.length = n ∧ (a.2.all fun y => y.1 != b) = true then
          match spl row off a.1 with
          | some row' => some ⟨J1g, a.2 ++ [(b, .arr true z (rows.set i row'))]⟩
          | none => none
        else none
      | none => none
    else none
  | _ => none
theorem Jvb (env : List (Nat × AV)) (sto : List Blk) (n b e i off : Nat) (v : AV) : (J20 n (.ep b e i off) v).run ⟨env, sto⟩ = sto[b]?.bind fun B => stE n b e i off v B ⟨env, sto⟩ := by
  simp only [J20, J7j]
  cases sto[b]? with
  | none => rfl
  | some B =>
    simp only [Option.bind_some]
    cases B with
    | arr w z rows =>
      cases w with
      | false => rfl
      | true =>
        simp only [stE]
        split
        · cases rows[i]? with
          | none => rfl
          | some row =>
            simp only [run_bind]
            cases (fz v).run ⟨env, sto⟩ with
            | none => rfl
            | some a =>
              simp only [Option.bind_some]
              split
              · cases spl row off a.1 <;> rfl
              · rfl
        · rfl
    | _ => rfl
theorem JwZ (n b e i off z : Nat) (c : PV) (rows : List (List PV)) (s : St) : stE n b e i off (.p c) (.arr true z rows) s = if e = rows.length then rows[i]?.bind fun row => if 1 = n then (spl row off [c]).map fun row => ⟨J1g, [(b, .arr true z (rows.set i row))]⟩ else none else none := by
  simp only [stE, fz, J1p, Option.bind_some]
  split
  · cases rows[i]? with
    | none => rfl
    | some row =>
      simp only [Option.bind_some, List.length_cons, List.length_nil, List.all_nil, and_true]
      simp only [Nat.zero_add]
      split
      · cases spl row off [c] <;> rfl
      · rfl
  · rfl
theorem Jxf (n b e i off z : Nat) (cs : List PV) (rows : List (List PV)) (s : St) : stE n b e i off (.data cs) (.arr true z rows) s = if e = rows.length then rows[i]?.bind fun row => if cs.length = n then (spl row off cs).map fun row => ⟨J1g, [(b, .arr true z (rows.set i row))]⟩ else none else none := by
  simp only [stE, fz, J1p, Option.bind_some]
  split
  · cases rows[i]? with
    | none => rfl
    | some row =>
      simp only [Option.bind_some, List.all_nil, and_true]
      split
      · cases spl row off cs <;> rfl
      · rfl
  · rfl
theorem Jwc (n : Nat) (cs : List PV) : bxP n (.data cs) = if cs.length = n then some (cs.map AV.p) else none := by simp [bxP, cellsOf]
theorem Jtk (env : List (Nat × AV)) (sto : List Blk) (e : Nat) (rows : List (List PV)) (k : IntKind) (n : Int) : (J3q e (.p (.sl e rows)) (.p (.i k n))).run ⟨env, sto⟩ = (Jcz rows n).map fun row => ⟨.cp row 0, []⟩ := by
  simp only [J3q, if_true]
  cases Jcz rows n <;> rfl
def iaB (e b m : Nat) (n : Int) (B : Blk) : Option Eff := match B with
  | .arr _ esz' rows => if e = esz' ∧ 0 + m = rows.length ∧ 0 ≤ n ∧ n < m then some ⟨.ep b rows.length (0 + n.toNat) 0, []⟩ else none
  | _ => none
theorem Jsj (env : List (Nat × AV)) (sto : List Blk) (e b m : Nat) (k : IntKind) (n : Int) : (J3q e (.slr b 0 m) (.p (.i k n))).run ⟨env, sto⟩ = sto[b]?.bind fun B => iaB e b m n B := by
  simp only [J3q, J7j]
  cases sto[b]? with
  | none => rfl
  | some B =>
    cases B with
    | arr w z rows => simp only [Option.bind_some, iaB]; split <;> rfl
    | _ => rfl
theorem Jui (e b m : Nat) (n : Int) (w : Bool) (rows : List (List PV)) : iaB e b m n (.arr w e rows) = if m = rows.length ∧ 0 ≤ n ∧ n < m then some ⟨.ep b rows.length n.toNat 0, []⟩ else none := by
  simp [iaB]
theorem Jsl (env : List (Nat × AV)) (sto : List Blk) (l : List Int) (new : Nat) : (cvR .toStr (.p (.sl 1 (l.map (r_i .u8)))) new).run ⟨env, sto⟩ = some ⟨.p (.s (toStr l)), []⟩ := by
  simp only [cvR, J0y, if_true, run_bind, J1p, Option.bind_some, Jf3]
def cvB (n : Nat) (B : Blk) : Option Eff := match B with
  | .arr _ z rows => if 1 = z ∧ 0 + n = rows.length then
      match J6G (rows.drop 0) with
      | some l => some ⟨.p (.s l), []⟩
      | none => none
    else none
  | _ => none
theorem JtD (env : List (Nat × AV)) (sto : List Blk) (b n new : Nat) : (cvR .toStr (.slr b 0 n) new).run ⟨env, sto⟩ = sto[b]?.bind fun B => cvB n B := by
  simp only [cvR, J0y, run_bind, J7j]
  cases sto[b]? with
  | none => rfl
  | some B =>
    cases B with
    | arr w z rows =>
      simp only [Option.bind_some, cvB]
      split
      · simp only [J1p, Option.bind_some]; cases J6G (rows.drop 0) <;> rfl
      · rfl
    | _ => rfl
theorem JuM (n : Nat) (w : Bool) (l : List Int) : cvB n (.arr w 1 (l.map (r_i .u8))) = if n = l.length then some ⟨.p (.s (toStr l)), []⟩ else none := by
  simp only [cvB, List.drop_zero, Jf3, List.length_map, Nat.zero_add, true_and]
theorem Jt6 (env : List (Nat × AV)) (sto : List Blk) (l : List UInt8) (new : Nat) : (cvR (.toBytes false) (.p (.s l)) new).run ⟨env, sto⟩ = some ⟨.p (.sl 1 ((Jav l).map (r_i .u8))), []⟩ := by
  simp [cvR, JiJ]
theorem Jru (env : List (Nat × AV)) (sto : List Blk) (l : List UInt8) (new : Nat) : (cvR (.toBytes true) (.p (.s l)) new).run ⟨env, sto⟩ = some ⟨.slr new 0 (Jav l).length, [(new, .arr true 1 ((Jav l).map (r_i .u8)))]⟩ := by
  have : (Jav l).length = l.length := by simp [Jav]
  simp [cvR, JiJ, this]
theorem Jwv (env : List (Nat × AV)) (sto : List Blk) (off size : Nat) (x : Opd) (r : List (Nat × Nat × Opd)) : (J31 ((off, size, x) :: r)).run ⟨env, sto⟩ = (evv x env).bind fun v => (cellsOf v).bind fun cs => ((J31 r).run ⟨env, sto⟩).bind fun l => some ((off, size, cs) :: l) := by
  simp only [J31, run_bind, J0V]
  cases evv x env with
  | none => rfl
  | some v =>
    simp only [Option.bind_some]
    cases cellsOf v with
    | none => rfl
    | some cs => simp only [Option.bind_some, run_bind]; cases (J31 r).run ⟨env, sto⟩ <;> rfl
theorem Jo8 (off size : Nat) (vs cs : List PV) (r : List (Nat × Nat × List AV)) : J1o ((off, size, vs.map AV.p) :: r) (cs.map AV.p) = if vs.length = size then (spl cs off vs).bind fun cs => J1o r (cs.map AV.p) else none := by
  simp only [J1o, List.length_map, Joq]
  split
  · cases spl cs off vs <;> rfl
  · rfl
theorem Jtz (off : Nat) (v : PV) (cs : List PV) (r : List (Nat × Nat × List AV)) : J1o ((off, 1, [AV.p v]) :: r) (cs.map AV.p) = (spl cs off [v]).bind fun cs => J1o r (cs.map AV.p) := by
  have := Jo8 off 1 [v] cs r
  simpa using this
theorem JvI (env : List (Nat × AV)) (sto : List Blk) (x : Opd) (r : List Opd) : (evs (x :: r)).run ⟨env, sto⟩ = (evv x env).bind fun v => ((evs r).run ⟨env, sto⟩).bind fun vs => some (v :: vs) := by
  simp only [evs, run_bind, J0V]; rfl
theorem Jex (env : List (Nat × AV)) (sto : List Blk) {v : AV} (h : J8B v = .ret (v, [])) (r : List AV) : (JT (v :: r)).run ⟨env, sto⟩ = ((JT r).run ⟨env, sto⟩).bind fun a => some (v :: a.1, a.2) := by
  simp only [JT, h, run_bind, J1p, Option.bind_some, List.nil_append]
def frz (b n : Nat) (B : Blk) : Option (AV × (Nat × Blk)) := match B with
  | .arr _ z rows => if n = rows.length then some (.p (.sl z rows), (b, .arr false z rows)) else none
  | _ => none
def frp (b n : Nat) (B : Blk) : Option (PV × (Nat × Blk)) := match B with
  | .arr _ z rows => if n = rows.length then some (.sl z rows, (b, .arr false z rows)) else none
  | _ => none
theorem JnB (env : List (Nat × AV)) (sto : List Blk) (b n : Nat) : (fz (.slr b 0 n)).run ⟨env, sto⟩ = sto[b]?.bind fun B => (frp b n B).bind fun x => some ([x.1], [x.2]) := by
  simp only [fz, J7j]
  cases sto[b]? with
  | none => rfl
  | some B =>
    cases B with
    | arr w z rows =>
      simp only [Option.bind_some, frp, Nat.zero_add, List.drop_zero]
      split <;> rfl
    | _ => rfl
theorem Juw (env : List (Nat × AV)) (sto : List Blk) (b n : Nat) : (fz.fz1 (.slr b 0 n)).run ⟨env, sto⟩ = sto[b]?.bind fun B => (frp b n B).bind fun x => some ([x.1], [x.2]) := by
  simp only [fz.fz1, J7j]
  cases sto[b]? with
  | none => rfl
  | some B =>
    cases B with
    | arr w z rows =>
      simp only [Option.bind_some, frp, Nat.zero_add, List.drop_zero]
      split <;> rfl
    | _ => rfl
theorem Jsx (env : List (Nat × AV)) (sto : List Blk) (b n : Nat) (r : List AV) : (JT (.slr b 0 n :: r)).run ⟨env, sto⟩ = sto[b]?.bind fun B => (frz b n B).bind fun x => ((JT r).run ⟨env, sto⟩).bind fun a => some (x.1 :: a.1, x.2 :: a.2) := by
  simp only [JT, J8B, run_bind, JnB]
  cases sto[b]? with
  | none => rfl
  | some B =>
    cases B with
    | arr w z rows =>
      simp only [Option.bind_some, frp, frz]
      split
      · simp only [Option.bind_some, J1p]; cases (JT r).run ⟨env, sto⟩ <;> rfl
      · rfl
    | _ => rfl
theorem Jsr (env : List (Nat × AV)) (sto : List Blk) (cs : List AV) (r : List AV) : (JT (.agg cs :: r)).run ⟨env, sto⟩ = ((fz.fzL cs).run ⟨env, sto⟩).bind fun x => ((JT r).run ⟨env, sto⟩).bind fun a => some (.data x.1 :: a.1, x.2 ++ a.2) := by
  simp only [JT, J8B, run_bind, fz]
  cases (fz.fzL cs).run ⟨env, sto⟩ with
  | none => rfl
  | some x => simp only [Option.bind_some, J1p]
theorem Jt3 (env : List (Nat × AV)) (sto : List Blk) (c : PV) (r : List AV) : (fz.fzL (.p c :: r)).run ⟨env, sto⟩ = ((fz.fzL r).run ⟨env, sto⟩).bind fun a => some (c :: a.1, a.2) := by
  simp only [fz.fzL, fz.fz1, run_bind, J1p, Option.bind_some]; rfl
theorem Jtp (env : List (Nat × AV)) (sto : List Blk) (b n : Nat) (r : List AV) : (fz.fzL (.slr b 0 n :: r)).run ⟨env, sto⟩ = sto[b]?.bind fun B => (frp b n B).bind fun x => ((fz.fzL r).run ⟨env, sto⟩).bind fun a => some (x.1 :: a.1, x.2 :: a.2) := by
  simp only [fz.fzL, run_bind, Juw]
  cases sto[b]? with
  | none => rfl
  | some B =>
    simp only [Option.bind_some]
    cases frp b n B with
    | none => rfl
    | some x => simp only [Option.bind_some]; cases (fz.fzL r).run ⟨env, sto⟩ <;> rfl
theorem JvZ (env : List (Nat × AV)) (sto : List Blk) (b : Nat) : (J8t [] b).run ⟨env, sto⟩ = sto[b]? := by
  simp only [J8t, J7j]
  cases sto[b]? <;> rfl
theorem JsJ (env : List (Nat × AV)) (sto : List Blk) (e : Nat) (rows : List (List PV)) : (J0y e (.p (.sl e rows))).run ⟨env, sto⟩ = some rows := by simp [J0y]
theorem Jtb (env : List (Nat × AV)) (sto : List Blk) (l : List UInt8) : (J0y 1 (.p (.s l))).run ⟨env, sto⟩ = some ((Jav l).map (r_i .u8)) := by simp [J0y, JiJ]
def roB (e n : Nat) (B : Blk) : Option (List (List PV)) := match B with
  | .arr _ z rows => if e = z ∧ 0 + n = rows.length then some (rows.drop 0) else none
  | _ => none
theorem JtG (env : List (Nat × AV)) (sto : List Blk) (e b n : Nat) : (J0y e (.slr b 0 n)).run ⟨env, sto⟩ = sto[b]?.bind fun B => roB e n B := by
  simp only [J0y, J7j]
  cases sto[b]? with
  | none => rfl
  | some B =>
    cases B with
    | arr w z rows => simp only [Option.bind_some, roB]; split <;> rfl
    | _ => rfl
theorem JtY (e n : Nat) (w : Bool) (rows : List (List PV)) : roB e n (.arr w e rows) = if n = rows.length then some rows else none := by simp [roB]
theorem JwN (env : List (Nat × AV)) (sto : List Blk) (x : Opd) (r : List Opd) : (fzs (x :: r)).run ⟨env, sto⟩ = (evv x env).bind fun v => ((fz v).run ⟨env, sto⟩).bind fun a => ((fzs r).run ⟨env, sto⟩).bind fun c => some (a.1 :: c.1, a.2 ++ c.2) := by
  simp only [fzs, run_bind, J0V]; rfl
theorem JrS (env : List (Nat × AV)) (sto : List Blk) (b n : Nat) : (fz (.slr b 0 n)).run ⟨env, sto⟩ = sto[b]?.bind fun B => (frp b n B).bind fun x => some ([x.1], [x.2]) := JnB ..
theorem Jt8 (env : List (Nat × AV)) (sto : List Blk) (s : SK) (c : PV) (lo hi : Option AV) : (slR s (.p c) lo hi none).run ⟨env, sto⟩ = (slX s (.p c) lo hi).map fun v => ⟨v, []⟩ := by
  simp only [slR, slX]
  cases J6c s (.p c) lo hi none <;> rfl
theorem Jsu (env : List (Nat × AV)) (sto : List Blk) (s : SK) (b n : Nat) (lo hi : Option AV) : (slR s (.slr b 0 n) lo hi none).run ⟨env, sto⟩ = sto[b]?.bind fun B => (frz b n B).bind fun x => (slX s x.1 lo hi).map fun v => ⟨v, [x.2]⟩ := by
  simp only [slR, run_bind, JnB]
  cases sto[b]? with
  | none => rfl
  | some B =>
    cases B with
    | arr w z rows =>
      simp only [Option.bind_some, frp, frz]
      split
      · simp only [Option.bind_some, slX]; cases J6c s (.p (.sl z rows)) lo hi none <;> rfl
      · rfl
    | _ => rfl
theorem JwJ (n : Nat) (live : List Nat) (env : List (Nat × AV)) (sto : List Blk) : J6n n live ⟨env, sto⟩ = if sto.length = n then some ⟨restr live env, sto⟩ else (J9z n sto (restr live env)).bind fun e => (J44 n [] sto (sto.take n)).bind fun l => some ⟨e, l⟩ := by
  simp only [J6n]
  split
  · rfl
  · cases J9z n sto (restr live env) with
    | none => rfl
    | some e => cases J44 n [] sto (sto.take n) <;> rfl
theorem Jwm (m k : Nat) (sto : List Blk) (x : AV) (r : List (Nat × AV)) : J9z m sto ((k, x) :: r) = (fin m [] sto x).bind fun y => (J9z m sto r).bind fun l => some ((k, y) :: l) := by
  simp only [J9z]
  cases fin m [] sto x with
  | none => rfl
  | some y => cases J9z m sto r <;> rfl
theorem Jw7 (m : Nat) (ids : List Nat) (sto : List Blk) (x : Blk) (r : List Blk) : J44 m ids sto (x :: r) = (J59 m ids sto x).bind fun y => (J44 m ids sto r).bind fun l => some (y :: l) := by
  simp only [J44]
  cases J59 m ids sto x with
  | none => rfl
  | some y => cases J44 m ids sto r <;> rfl
theorem JuL (m : Nat) (ids : List Nat) (sto : List Blk) (cs : List AV) : J59 m ids sto (.box cs) = (fin.finL m ids sto cs).map .box := by
  simp only [J59]
  cases fin.finL m ids sto cs <;> rfl
theorem Jw4 (m : Nat) (ids : List Nat) (sto : List Blk) (x : AV) (r : List AV) : fin.finL m ids sto (x :: r) = (fin m ids sto x).bind fun y => (fin.finL m ids sto r).bind fun l => some (y :: l) := by
  simp only [fin.finL]
  cases fin m ids sto x with
  | none => rfl
  | some y => cases fin.finL m ids sto r <;> rfl
def fsl (k : Option Nat) (n : Nat) (B : Option Blk) : Option AV := match k with
  | some k => some (.slr k 0 n)
  | none => match B with
    | some (.arr _ z rows) => if n = rows.length then some (.p (.sl z rows)) else none
    | _ => none
theorem Jvq (m : Nat) (ids : List Nat) (sto : List Blk) (b n : Nat) : fin m ids sto (.slr b 0 n) = if b < m then some (.slr b 0 n) else fsl (J9j b ids m) n sto[b]? := by
  simp only [fin]
  split
  · rfl
  · cases J9j b ids m with
    | some k => rfl
    | none =>
      simp only [fsl]
      cases sto[b]? with
      | none => rfl
      | some B => cases B <;> simp
theorem Jug (m : Nat) (ids : List Nat) (sto : List Blk) (cs : List AV) : fin m ids sto (.agg cs) = (fin.finL m ids sto cs).bind fun l => some (Jo6 l (unp l)) := by
  simp only [fin]
  cases fin.finL m ids sto cs with
  | none => rfl
  | some l => simp only [Option.bind_some]; cases unp l <;> rfl
theorem Jv0 (m : Nat) (ids : List Nat) (sto : List Blk) (x : AV) (cs : List AV) : fin m ids sto (.tup (x :: cs)) = (fin.finL m ids sto (x :: cs)).map .tup := by
  simp only [fin]
  cases fin.finL m ids sto (x :: cs) <;> rfl
theorem Jtw (env : List (Nat × AV)) (sto : List Blk) (t : Nat) (r : List Jdc) : (J6T (.tmp t :: r)).run ⟨env, sto⟩ = (lk t env).bind fun v => ((J6T r).run ⟨env, sto⟩).bind fun l => some (v :: l) := by
  simp only [J6T, run_bind, JoC, J1p]
  cases lk t env <;> rfl
theorem JsQ (env : List (Nat × AV)) (sto : List Blk) (t n : Nat) (g : Bool) (r : List Jdc) : (J6T (.cell t g n :: r)).run ⟨env, sto⟩ = (lk t env).bind fun v => ((J2q g n v).run ⟨env, sto⟩).bind fun e => ((J6T r).run ⟨env, sto⟩).bind fun l => some (e.val :: l) := by
  simp only [J6T, run_bind, JoC, J1p]
  cases lk t env <;> rfl
def oid (b : Nat) (B : Option Blk) (l : List Nat) : List Nat := match B with
  | some (.box _) => b :: l
  | _ => l
theorem Jws (m b : Nat) (sto : List Blk) (r : List Ent) : J1y m false sto (.whole b :: r) = if b < m then J1y m false sto r else oid b sto[b]? (J1y m false sto r) := by
  simp only [J1y]
  split
  · rfl
  · unfold oid
    cases sto[b]? with
    | none => rfl
    | some B => cases B <;> simp
def ebb (B : Option Blk) (acc : List Ent) : List Ent := match B with
  | some (.box cs) => J0f.entsOfL cs acc
  | _ => acc
theorem Jw1 (sto : List Blk) (b : Nat) (r : List Ent) (acc : List Ent) : J8y sto (.whole b :: r) acc = J8y sto r (ebb sto[b]? acc) := by
  simp only [J8y, ebb]
  cases sto[b]? with
  | none => rfl
  | some B => cases B <;> rfl
theorem JwH (b c : Nat) (r : List Ent) : J8R (.whole b) (.whole c :: r) = if c = b then .whole c :: r else .whole c :: J8R (.whole b) r := by
  simp only [J8R, List.any_cons]
  by_cases h : c = b
  · subst h; simp
  · simp [h]
    split <;> simp_all
theorem Jwb (sto : List Blk) (b : Nat) (r : List Nat) : J82 sto (b :: r) = sto[b]?.bind fun x => (J82 sto r).bind fun l => some (x :: l) := by
  simp only [J82]
  cases sto[b]? with
  | none => rfl
  | some x => cases J82 sto r <;> rfl
theorem JsW {α : Type} (a : α) (cs : List α) (n : Nat) : sub (a :: cs) 0 (n + 1) = (sub cs 0 n).map (a :: ·) := by
  rw [J7p, J7p]
  by_cases h : n ≤ cs.length
  · rw [if_pos (by simp; omega), if_pos (by omega)]; simp
  · rw [if_neg (by simp; omega), if_neg (by omega)]; rfl
theorem Jsk {α : Type} (a : α) (cs : List α) (n m : Nat) : sub (a :: cs) (n + 1) m = sub cs n m := by
  rw [J7p, J7p]
  by_cases h : n + m ≤ cs.length
  · rw [if_pos (by simp; omega), if_pos h]; simp
  · rw [if_neg (by simp; omega), if_neg h]
theorem JtU {α : Type} (a b : α) (cs vs : List α) : spl (a :: cs) 0 (b :: vs) = (spl cs 0 vs).map (b :: ·) := by
  rw [J8m, J8m]
  by_cases h : vs.length ≤ cs.length
  · rw [if_pos (by simp; omega), if_pos (by omega)]; simp
  · rw [if_neg (by simp; omega), if_neg (by omega)]; rfl
theorem JsX {α : Type} (a : α) (cs : List α) (n : Nat) (vs : List α) : spl (a :: cs) (n + 1) vs = (spl cs n vs).map (a :: ·) := by
  rw [J8m, J8m]
  by_cases h : n + vs.length ≤ cs.length
  · rw [if_pos (by simp; omega), if_pos h]
    rw [show n + 1 + vs.length = (n + vs.length) + 1 by omega]; simp
  · rw [if_neg (by simp; omega), if_neg h]; rfl
theorem JsZ (off size : Nat) (c : List AV) (a : AV) (cs : List AV) (r : List (Nat × Nat × List AV)) : J1o ((off, size, c) :: r) (a :: cs) = if c.length = size then (spl (a :: cs) off c).bind fun cs => J1o r cs else none := by
  simp only [J1o]
  split
  · cases spl (a :: cs) off c <;> rfl
  · rfl
theorem Jvp (m : Nat) (ids : List Nat) (sto : List Blk) (f : FuncId) (a c : List AV) : fin m ids sto (.fn f a c) = (fin.finL m ids sto a).bind fun a1 => (fin.finL m ids sto c).bind fun c1 => some (.fn f a1 c1) := by
  simp only [fin]
  cases fin.finL m ids sto a with
  | none => rfl
  | some a1 => cases fin.finL m ids sto c <;> rfl
def lwO (x y : Option Blk) : Option Blk := match x with
  | some x => some x
  | none => y
theorem JvD (b c : Nat) (x : Blk) (r : List (Nat × Blk)) : J2K b ((c, x) :: r) = lwO (J2K b r) (if c = b then some x else none) := by
  simp only [J2K]
  cases J2K b r <;> rfl
theorem Jv3 (env : List (Nat × AV)) (sto : List Blk) (b c : Nat) (x : Blk) (ws : List (Nat × Blk)) : (J8t ((c, x) :: ws) b).run ⟨env, sto⟩ = sto[b]?.bind fun y => some ((J2K b ((c, x) :: ws)).getD y) := by
  simp only [J8t, J7j]
  cases sto[b]? with
  | none => rfl
  | some y => simp only [Option.bind_some]; cases J2K b ((c, x) :: ws) <;> rfl
@[congr] theorem Jxt {α : Type} {u u' : AV} {k : FuncId → List AV → List AV → Option α} (h : u = u') : cvg u k = cvg u' k := by rw [h]
theorem Jny (x : Opd) (s : St) : Jm ((ev x).reads s) = [] := by
  cases x with
  | t n => simp only [ev, RM.reads]; cases lk n s.env <;> rfl
  | c v => rfl
theorem JqS (a b : List Loc) : Jm (a ++ b) = Jm a ++ Jm b := by
  induction a with
  | nil => rfl
  | cons x r ih => cases x <;> simp [Jm, ih]
def rb {α β : Type} (m : Option α) (f : α → List β) : List β := match m with
  | some a => f a
  | none => []
theorem J2h {α β : Type} (m : RM α) (f : α → RM β) (s : St) : Jm ((m.bind f).reads s) = Jm (m.reads s) ++ rb (m.run s) fun a => Jm ((f a).reads s) := by
  rw [Jb6, JqS]
  cases m.run s <;> rfl
theorem Jha {β : Type} (x : Opd) (f : AV → RM β) (s : St) : Jm (((ev x).bind f).reads s) = rb (evv x s.env) fun a => Jm ((f a).reads s) := by
  rw [J2h, Jny, J0V]; rfl
theorem Jgi (o : Option AV) (s : St) : Jm ((Go.Am.val o).reads s) = [] := by cases o <;> rfl
section
variable (F : Orc) (new : Nat) (env : List (Nat × AV)) (sto : List Blk)
theorem Jfd {op : AOp} (h : JW op = 0) (s : St) : rdO F op new s = Jm ((opR F op new).reads s) := by
  unfold rdO opD
  rw [J2h, h]; rfl
def is1 (b : Option Blk) : Option Unit := match b with
  | some .dead => some ()
  | _ => none
theorem JqW {op : AOp} (h : JW op = 1) (s : St) : rdO F op new s = new :: rb (is1 s.sto[new]?) fun _ => Jm ((opR F op new).reads s) := by
  unfold rdO opD
  rw [J2h, h]
  simp only [J7v, RM.reads, RM.run, Jm]
  cases s.sto[new]? with
  | none => rfl
  | some b => cases b <;> rfl
end
theorem Jwi {α β : Type} (m : Option α) : (rb m fun _ => ([] : List β)) = [] := by cases m <;> rfl
theorem Jvm (F : Orc) (new : Nat) (env : List (Nat × AV)) (sto : List Blk) (g : Bool) (n : Nat) (x : Opd) : rdO F (.load g n x) new ⟨env, sto⟩ = rb (evv x env) fun a => Jm ((J2q g n a).reads ⟨env, sto⟩) := by
  rw [Jfd (h := rfl)]; exact Jha ..
theorem Jvh (s : St) (g : Bool) (n b o : Nat) : Jm ((J2q g n (.ptr b o)).reads s) = [b] := by
  simp only [J2q, RM.reads, Jm]
  cases s.sto[b]? with
  | none => rfl
  | some B =>
    cases B with
    | box cs => simp only []; cases sub cs o n with
      | none => rfl
      | some l => simp only [Jgi]
    | _ => rfl
theorem JvM (s : St) (g : Bool) (n o : Nat) (cs : List PV) : Jm ((J2q g n (.cp cs o)).reads s) = [] := by
  simp only [J2q]
  cases sub cs o n with
  | none => rfl
  | some l => exact Jgi ..
theorem Jwr (s : St) (g : Bool) (n b e i o : Nat) : Jm ((J2q g n (.ep b e i o)).reads s) = [b] := by
  simp only [J2q, RM.reads, Jm]
  cases s.sto[b]? with
  | none => rfl
  | some B =>
    cases B with
    | arr w z rows =>
      simp only []
      split
      · cases rows[i]? with
        | none => rfl
        | some row =>
          simp only []
          cases sub row o n with
          | none => rfl
          | some l => simp only [Jgi]
      · rfl
    | _ => rfl
theorem Jrh (F : Orc) (new : Nat) (s : St) (z : List PV) : rdO F (.newbox z) new s = [new] := by
  rw [JqW (h := rfl)]; simp only [opR, RM.reads, Jm, Jwi]
theorem Jto (F : Orc) (new : Nat) (env : List (Nat × AV)) (sto : List Blk) (n : Nat) (x y : Opd) : rdO F (.store n x y) new ⟨env, sto⟩ = rb (evv x env) fun a => rb (evv y env) fun c => Jm ((J20 n a c).reads ⟨env, sto⟩) := by
  rw [Jfd (h := rfl)]
  simp only [opR, Jha]
theorem JuB (s : St) (n b o : Nat) (v : AV) : Jm ((J20 n (.ptr b o) v).reads s) = [b] := by
  simp only [J20, RM.reads, Jm]
  cases s.sto[b]? with
  | none => rfl
  | some B =>
    cases B with
    | box cs =>
      simp only []
      cases cellsOf v with
      | none => rfl
      | some l =>
        simp only []
        split
        · cases spl cs o l <;> rfl
        · rfl
    | _ => rfl
theorem Jsb (s : St) (n b e i o : Nat) {v : AV} {c : List PV} (hv : fz v = .ret (c, [])) : Jm ((J20 n (.ep b e i o) v).reads s) = [b] := by
  simp only [J20, RM.reads, Jm]
  cases s.sto[b]? with
  | none => rfl
  | some B =>
    cases B with
    | arr w z rows =>
      cases w with
      | false => rfl
      | true =>
        simp only []
        split
        · cases rows[i]? with
          | none => rfl
          | some row =>
            simp only [hv, J2h, RM.reads, Jm, J1p, rb, List.nil_append]
            split
            · cases spl row o c <;> rfl
            · rfl
        · rfl
    | _ => rfl
theorem Ju4 (s : St) (n b e i o : Nat) (c : PV) : Jm ((J20 n (.ep b e i o) (.p c)).reads s) = [b] := Jsb s n b e i o rfl
theorem JtR (s : St) (n b e i o : Nat) (c : List PV) : Jm ((J20 n (.ep b e i o) (.data c)).reads s) = [b] := Jsb s n b e i o rfl
theorem JgX (s : St) : ∀ args, Jm ((evs args).reads s) = []
  | [] => rfl
  | x :: r => by
    simp only [evs, Jha]
    cases evv x s.env with
    | none => rfl
    | some v =>
      simp only [rb, J2h, JgX s r, List.nil_append]
      cases (evs r).run s <;> rfl
theorem Jkd (F : Orc) (g : FuncId) (args : List Opd) (n new : Nat) (s : St) : Jm ((opR F (.call g args n) new).reads s) = rb ((evs args).run s) fun a => Jm ((JT a).reads s) ++ rb ((JT a).run s) fun a => Jm ((Jq F g a n new).reads s) := by
  simp only [opR, J2h, JgX, List.nil_append, JcD]
theorem JtS (F : Orc) (new : Nat) (s : St) (g : FuncId) (args : List Opd) : rdO F (.call g args 0) new s = rb ((evs args).run s) fun a => Jm ((JT a).reads s) ++ rb ((JT a).run s) fun a => Jm ((Jq F g a 0 new).reads s) := by
  rw [Jfd (h := rfl)]; exact Jkd ..
theorem Jtf (F : Orc) (new : Nat) (s : St) (g : FuncId) (args : List Opd) : rdO F (.call g args 1) new s = new :: rb (is1 s.sto[new]?) fun _ => rb ((evs args).run s) fun a => Jm ((JT a).reads s) ++ rb ((JT a).run s) fun a => Jm ((Jq F g a 1 new).reads s) := by
  rw [JqW (h := rfl)]; simp only [Jkd]
theorem Jd4 (s : St) {v : AV} (h : J8B v = .ret (v, [])) (r : List AV) : Jm ((JT (v :: r)).reads s) = Jm ((JT r).reads s) := by
  simp only [JT, h, J2h, RM.reads, Jm, J1p, rb, List.nil_append]
  cases (JT r).run s <;> simp [RM.reads, Jm]
theorem JgF (s : St) (b n : Nat) : Jm ((fz (.slr b 0 n)).reads s) = [b] := by
  simp only [fz, RM.reads, Jm]
  cases s.sto[b]? with
  | none => rfl
  | some B =>
    cases B with
    | arr w z rows => simp only []; split <;> rfl
    | _ => rfl
theorem Jvy (s : St) (b n : Nat) (r : List AV) : Jm ((JT (.slr b 0 n :: r)).reads s) = b :: rb ((J8B (.slr b 0 n)).run s) fun _ => Jm ((JT r).reads s) := by
  have h1 : Jm ((J8B (.slr b 0 n)).reads s) = [b] := by
    simp only [J8B, J2h, JgF]
    cases (fz (.slr b 0 n)).run s with
    | none => rfl
    | some a =>
      simp only [rb]
      match a.1 with
      | [] => rfl
      | [_] => rfl
      | _ :: _ :: _ => rfl
  simp only [JT, J2h, h1]
  cases (J8B (.slr b 0 n)).run s with
  | none => rfl
  | some a => simp only [rb]; cases (JT r).run s <;> simp [RM.reads, Jm]
theorem J1x {F : Orc} {f : FuncId} {args : List AV} (hp : args.all J3U = true) (ws : List (Nat × Blk)) (k new : Nat) (s : St) : Jm ((Jq F f (args, ws) k new).reads s) = [] := by
  have e1 : J0f.entsOfL args [] = [] := J5C hp
  simp only [Jq, e1, J7S, J2h, RM.reads, Jm, J1p, rb, List.nil_append, List.map_nil, J3W, if_true, J6u hp, J4o]
  cases F f args [] with
  | none => rfl
  | some r =>
    simp only []
    split
    · simp only [List.length_nil, List.drop_zero]
      cases bk [] new r.1 with
      | none => rfl
      | some v =>
        cases J3j [] new new r.2 with
        | none => rfl
        | some fr => simp only [J2t, J2h, RM.reads, Jm, J1p, rb, List.nil_append]
    · rfl
def cvl {α : Type} (u : AV) (k : FuncId → List AV → List AV → List α) : List α := match u with
  | .fn f a c => k f a c
  | _ => []
theorem JjU (ws : List (Nat × Blk)) (b : Nat) (s : St) : Jm ((J8t ws b).reads s) = [b] := by
  simp only [J8t, RM.reads, Jm]
  cases s.sto[b]? with
  | none => rfl
  | some B => simp only []; cases J2K b ws <;> rfl
theorem Jmb {ws : List (Nat × Blk)} {s : St} : ∀ {bs : List Nat} {css : List (List AV)} {acc : List Ent}, JP ws s bs css → Jo css = true → Jm ((J7S ws (bs.map .whole) acc).reads s) = bs
  | [], [], _, _, _ => rfl
  | b :: bs, cs :: css, acc, h, hp => by
    simp only [Jo, List.all_cons, Bool.and_eq_true] at hp
    simp only [List.map_cons, J7S, J2h, JjU, h.1, rb, J5C hp.1]
    rw [Jmb (bs := bs) (css := css) h.2 hp.2]
    rfl
theorem JnL {ws : List (Nat × Blk)} {s : St} {ρ : Ent → Option Nat} : ∀ {bs : List Nat} {css : List (List AV)}, JP ws s bs css → Jo css = true → Jm ((J4o ws ρ (bs.map .whole)).reads s) = bs
  | [], [], _, _ => rfl
  | b :: bs, cs :: css, h, hp => by
    simp only [Jo, List.all_cons, Bool.and_eq_true] at hp
    have h2 := JnL (ρ := ρ) (bs := bs) (css := css) h.2 hp.2
    have h3 := Jd2 (ρ := ρ) (bs := bs) (css := css) h.2 hp.2
    simp only [List.map_cons, J4o, J2h, JdH, JjU, h.1, rb, J6u hp.1, RM.reads, Jm, run_bind, Option.bind_some, J1p, h2, h3, List.append_nil]
    rfl
theorem JlV {ws : List (Nat × Blk)} {s : St} {es : List Ent} {new : Nat} : ∀ (bs : List Nat) (xs : List Blk), Jm ((J2t ws es new (bs.map .whole) xs).reads s) = []
  | [], _ => rfl
  | b :: bs, [] => rfl
  | b :: bs, B :: l => by
    have g6 : Jm ((Jai ws es new (Ent.whole b) B).reads s) = [] := by
      cases B with
      | box cs => simp only [Jai]; cases bk.bkL es new cs <;> rfl
      | _ => rfl
    simp only [List.map_cons, J2t, J2h, g6, List.nil_append]
    cases (Jai ws es new (Ent.whole b) B).run s with
    | none => rfl
    | some y =>
      simp only [rb, JlV bs l, List.nil_append]
      cases (J2t ws es new (bs.map .whole) l).run s <;> rfl
theorem J2d {F : Orc} {f : FuncId} {args args' : List AV} {bs : List Nat} {css : List (List AV)} (he : J0f.entsOfL args [] = bs.map .whole) (hn : J3W bs = true)
    (hr : ren.renL (fun e => J3m e (bs.map .whole) 0) args = some args') (hp : Jo css = true) (ws : List (Nat × Blk)) (k new : Nat) (s : St) (hb : JP ws s bs css) :
    Jm ((Jq F f (args, ws) k new).reads s) = bs ++ (bs ++ bs) := by
  have e0 : (bs.map Ent.whole).map Ent.id = bs := by rw [List.map_map]; exact List.map_id bs
  simp only [Jq, he, J2h, Jmb hb hp, JdN hb hp, rb, e0, hn, if_true, hr, JnL hb hp, Jd2 hb hp]
  congr 2
  cases F f args' (css.map .box) with
  | none => simp [RM.reads, Jm]
  | some r =>
    simp only []
    split
    · cases bk (bs.map Ent.whole) new r.1 with
      | none => simp [RM.reads, Jm]
      | some v =>
        cases J3j (bs.map Ent.whole) new new (r.2.drop (bs.map Ent.whole).length) with
        | none => simp [RM.reads, Jm]
        | some fr =>
          simp only [J2h, JlV, List.nil_append]
          cases (J2t ws (bs.map Ent.whole) new (bs.map Ent.whole) r.2).run s <;> simp [rb, RM.reads, Jm]
    · simp [RM.reads, Jm]
theorem Jse (F : Orc) (new : Nat) (env : List (Nat × AV)) (sto : List Blk) (g : Opd) (args : List Opd) : rdO F (.callv g args 0) new ⟨env, sto⟩ = rb (evv g env) fun u => cvl u fun h a1 c1 => rb ((evs args).run ⟨env, sto⟩) fun a => Jm ((JT (a1 ++ a ++ c1)).reads ⟨env, sto⟩) ++ rb ((JT (a1 ++ a ++ c1)).run ⟨env, sto⟩) fun a => Jm ((Jq F h a 0 new).reads ⟨env, sto⟩) := by
  rw [Jfd (h := rfl)]
  simp only [opR, J2h, Jny, J0V, List.nil_append]
  cases evv g env with
  | none => rfl
  | some u =>
    simp only [rb]
    cases u <;> first | rfl | skip
    simp only [cvl, J2h, JgX, List.nil_append]
    cases (evs args).run ⟨env, sto⟩ with
    | none => rfl
    | some a => simp only [rb, JcD, J2h]
theorem JlH (s : St) (o : Bool) (e n new : Nat) (z : List PV) (ps : List (Nat × Opd)) : Jm ((ltR o e n z ps new).reads s) = Jm ((fzs (ps.map (·.2))).reads s) := by
  simp only [ltR, J2h]
  cases (fzs (ps.map (·.2))).run s with
  | none => simp [rb]
  | some a =>
    simp only [rb]
    cases J4x e ((ps.map (·.1)).zip a.1) (List.replicate n z) with
    | none => simp [RM.reads, Jm]
    | some rows => cases o <;> simp [RM.reads, Jm]
theorem JsT (F : Orc) (new : Nat) (s : St) (e n : Nat) (z : List PV) (ps : List (Nat × Opd)) : rdO F (.lits false e n z ps) new s = Jm ((fzs (ps.map (·.2))).reads s) := by
  rw [Jfd (h := rfl)]; exact JlH ..
theorem Ju3 (F : Orc) (new : Nat) (s : St) (e n : Nat) (z : List PV) (ps : List (Nat × Opd)) : rdO F (.lits true e n z ps) new s = new :: rb (is1 s.sto[new]?) fun _ => Jm ((fzs (ps.map (·.2))).reads s) := by
  rw [JqW (h := rfl)]
  congr 2; funext _
  exact JlH ..
theorem Jwk (s : St) (x : Opd) (r : List Opd) : Jm ((fzs (x :: r)).reads s) = rb (evv x s.env) fun v => Jm ((fz v).reads s) ++ rb ((fz v).run s) fun _ => Jm ((fzs r).reads s) := by
  have e0 : fzs (x :: r) = (ev x).bind fun v => (fz v).bind fun a => (fzs r).bind fun c => .ret (a.1 :: c.1, a.2 ++ c.2) := rfl
  rw [e0, Jha]
  cases evv x s.env with
  | none => rfl
  | some v =>
    dsimp only [rb]
    rw [J2h]
    cases (fz v).run s with
    | none => rfl
    | some a =>
      dsimp only [rb]
      rw [J2h]
      cases (fzs r).run s <;> simp [rb, RM.reads, Jm]
theorem Jt0 (F : Orc) (new : Nat) (s : St) (x : Opd) : rdO F (.conv .toStr x) new s = rb (evv x s.env) fun a => Jm ((J0y 1 a).reads s) := by
  rw [Jfd (h := rfl)]
  simp only [opR, Jha]
  congr 1; funext a
  simp only [J2h]
  cases (J0y 1 a).run s with
  | none => simp [rb]
  | some rows => simp only [rb]; cases J6G rows <;> simp [RM.reads, Jm]
theorem JrG (s : St) (e b n : Nat) : Jm ((J0y e (.slr b 0 n)).reads s) = [b] := by
  simp only [J0y, RM.reads, Jm]
  cases s.sto[b]? with
  | none => rfl
  | some B =>
    cases B with
    | arr w z rows => simp only []; split <;> rfl
    | _ => rfl
theorem Jsm (s : St) (e z : Nat) (rows : List (List PV)) : Jm ((J0y e (.p (.sl z rows))).reads s) = [] := by
  simp only [J0y]; split <;> rfl
theorem JsG (F : Orc) (new : Nat) (s : St) (e : Nat) (x i : Opd) : rdO F (.iaddr e x i) new s = rb (evv x s.env) fun a => rb (evv i s.env) fun c => Jm ((J3q e a c).reads s) := by
  rw [Jfd (h := rfl)]; simp only [opR, Jha]
theorem Jry (s : St) (e b n : Nat) (k : IntKind) (i : Int) : Jm ((J3q e (.slr b 0 n) (.p (.i k i))).reads s) = [b] := by
  simp only [J3q, RM.reads, Jm]
  cases s.sto[b]? with
  | none => rfl
  | some B =>
    cases B with
    | arr w z rows => simp only []; split <;> rfl
    | _ => rfl
theorem JtP (s : St) (e z : Nat) (rows : List (List PV)) (k : IntKind) (i : Int) : Jm ((J3q e (.p (.sl z rows)) (.p (.i k i))).reads s) = [] := by
  simp only [J3q]
  split
  · cases Jcz rows i <;> rfl
  · rfl
theorem Jox (env : List (Nat × AV)) (sto : List Blk) (l : List Int) (new : Nat) : (cvR .toStr (.p (.sl 1 (l.map (r_i .u8)))) new).run ⟨env, sto⟩ = some ⟨.p (.s (toStr l)), []⟩ := Jsl ..
theorem Jx6 (n : Nat) (w : Bool) (l : List Int) : cvB n (.arr w 1 (l.map (r_i .u8))) = if n = l.length then some ⟨.p (.s (toStr l)), []⟩ else none := JuM ..
theorem fr (b n z : Nat) (w : Bool) (rows : List (List PV)) : frz b n (.arr w z rows) = if n = rows.length then some (.p (.sl z rows), (b, .arr false z rows)) else none := rfl
theorem mk (o : Bool) (e b new : Nat) (z : List PV) (k k2 : IntKind) (n m : Int) : mkP o e b z (.p (.i k n)) (.p (.i k2 m)) new = if 0 ≤ n ∧ n ≤ m ∧ b * m ≤ 281474976710656 ∧ m ≤ 281474976710656 then some (if o then ⟨.slr new 0 n.toNat, [(new, .arr true e (List.replicate n.toNat z))]⟩ else ⟨.p (.sl e (List.replicate n.toNat z)), []⟩) else none := rfl
theorem cl (n : Nat) (live : List Nat) (env : List (Nat × AV)) (sto : List Blk) : J6n n live ⟨env, sto⟩ = if sto.length = n then some ⟨restr live env, sto⟩ else (J9z n sto (restr live env)).bind fun e => (J44 n [] sto (sto.take n)).bind fun l => some ⟨e, l⟩ := JwJ ..
theorem JwE {α : Type} (l : List α) : [] ++ l = l := rfl
theorem JvG {α : Type} (l : List α) : l ++ [] = l := List.append_nil l
theorem JwC {α : Type} (a : α) (l r : List α) : (a :: l) ++ r = a :: (l ++ r) := rfl
theorem Jwe {α β : Type} (g : α → β) : List.map g [] = [] := rfl
theorem Jwu {α β : Type} (g : α → β) (a : α) (l : List α) : List.map g (a :: l) = g a :: List.map g l := rfl
theorem JvJ {α : Type} : ([] : List α).length = 0 := rfl
theorem JvO {α : Type} (a : α) (l : List α) : (a :: l).length = l.length + 1 := rfl
theorem Jw0 (k : IntKind) (n : Int) : r_i k n = [.i k n] := rfl
theorem Jw5 (x : Bool) : r_b x = [.b x] := rfl
theorem Ju5 (x : List UInt8) : r_s x = [.s x] := rfl
theorem JvF {α : Type} (e : Nat) (g : α → List PV) (l : List α) : JlC e g l = [.sl e (l.map g)] := rfl
theorem s1 (a : PV) : sub [a] 0 1 = some [a] := rfl
set_option maxRecDepth 30000 in
theorem Da : (∀ T f m k s, rk T f m k (X T .skip s) = rk T f m k (some (.normal, s))) ∧
  (∀ T f m k a b s, rk T f m k (X T (.seq a b) s) = rk T f m (.sq b :: k) (X T a s)) ∧
  (∀ T f m k d ins env sto, rk T f m k (X T (.reg d [] ins) ⟨env, sto⟩) = rk T f m k (JtE (Jy (AF T) ins sto.length ⟨env, room (news ins) sto⟩ none))) ∧
  (∀ T f m k d q ps ins env sto, rk T f m k (X T (.reg d (q :: ps) ins) ⟨env, sto⟩) = rk T f m k (Jr6 (q :: ps) (Jy (AF T) ins sto.length ⟨env, room (news ins) sto⟩ (some [])))) ∧
  (∀ T f m k i c s, rk T f m k (X T (.block i c) s) = rk T f m (.bl i :: k) (X T c s)) ∧
  (∀ T f m k c s, rk T f m k (X T (.scope c) s) = rk T f m k (X T c s)) ∧
  (∀ T f m k i s, rk T f m k (X T (.exit i) s) = rk T f m k (some (.exit i, s))) ∧
  (∀ T f m k s, rk T f m k (X T .ret s) = rk T f m k (some (.ret, s))) ∧
  (∀ T f m k live c env sto, rk T f m k (X T (.keep live c) ⟨env, sto⟩) = rk T f m k (X T c ⟨restr live env, sto⟩)) ∧
  (∀ T f m k live c env sto, rk T f m k (X T (.tidy live c) ⟨env, sto⟩) = rk T f m (.td sto.length live :: k) (X T c ⟨env, sto⟩)) ∧
  (∀ T f m k live c env sto, rk T f m k (X T (.loop live c) ⟨env, sto⟩) = rk T f m k (X T (.lp sto.length live c) ⟨restr live env, sto⟩)) ∧
  (∀ T f m k x a b env sto, rk T f m k (X T (.cond x a b) ⟨env, sto⟩) = rk T f m k (cnd (evv x env) (J8w (X T a ⟨env, sto⟩) (.mk _)) (J8w (X T b ⟨env, sto⟩) (.mk _)) (J8w (fun _ => same (X T a ⟨env, sto⟩) (X T b ⟨env, sto⟩)) (.mk _)))) ∧
  (∀ a b h c, cnd (some (.p (.b true))) (J8w a h) b c = a) ∧
  (∀ a b h c, cnd (some (.p (.b false))) a (J8w b h) c = b) ∧
  (∀ T f m k b s, rk T f m (.sq b :: k) (some (.normal, s)) = rk T f m k (X T b s)) ∧
  (∀ T f m k b i s, rk T f m (.sq b :: k) (some (.exit i, s)) = rk T f m k (some (.exit i, s))) ∧
  (∀ T f m k b s, rk T f m (.sq b :: k) (some (.ret, s)) = rk T f m k (some (.ret, s))) ∧
  (∀ T f m k i s, rk T f m (.bl i :: k) (some (.normal, s)) = rk T f m k (some (.normal, s))) ∧
  (∀ T f m k i j s, rk T f m (.bl i :: k) (some (.exit j, s)) = if j = i then rk T f m k (some (.normal, s)) else rk T f m k (some (.exit j, s))) ∧
  (∀ T f m k i s, rk T f m (.bl i :: k) (some (.ret, s)) = rk T f m k (some (.ret, s))) ∧
  (∀ T f m k n live e s, rk T f m (.td n live :: k) (some (e, s)) = rk T f m k (tdn e (J6n n live s))) ∧
  (∀ e s, tdn e (some s) = some (e, s)) ∧
  (∀ T f m k n live c s, rk T f m (.lo n live c :: k) (some (.normal, s)) = rk T f m k (again T n live c (J6n n live s))) ∧
  (∀ T n live c s, again T n live c (some s) = X T (.lp n live c) s) ∧
  (∀ T f m k n live c i s, rk T f m (.lo n live c :: k) (some (.exit i, s)) = rk T f m k (some (.exit i, s))) ∧
  (∀ T f m k n live c s, rk T f m (.lo n live c :: k) (some (.ret, s)) = rk T f m k (some (.ret, s))) ∧
  (∀ T f m s, rk T f m [] (some (.normal, s)) = Jj9 f.res f.fresh m s) ∧
  (∀ T f m s, rk T f m [] (some (.ret, s)) = Jj9 f.res f.fresh m s) ∧
  (∀ s l, JtE (some (s, l)) = some (.normal, s)) ∧
  (∀ s l ps, Jr6 ps (some (s, some l)) = if J9J l ps = true then some (.normal, s) else none) ∧
  (∀ l, J9J l [] = true) ∧
  (∀ l i j ps, J9J l ((i, j) :: ps) = (pkk l[i]? l[j]? && J9J l ps)) ∧
  (∀ a b, lgA none a b = none) ∧
  (∀ l a b, lgA (some l) a b = some (l ++ [(a, b)])) ∧
  (∀ {α : Type} (a : α) (l : List α), (a :: l)[0]? = some a) ∧
  (∀ {α : Type} (a : α) (l : List α) (n : Nat), (a :: l)[n + 1]? = l[n]?) ∧
  (∀ F new s lg, Jy F [] new s lg = some (s, lg)) ∧
  (∀ F r new env sto lg d x, Jy F (⟨.mv x, some d, none⟩ :: r) new ⟨env, sto⟩ lg = (evv x env).bind fun v => Jy F r new ⟨(d, v) :: env, sto⟩ (lgA lg (rdO F (.mv x) new ⟨env, sto⟩) [])) ∧
  (∀ F r new env sto lg d c a b, Jy F (⟨.pick c a b, some d, none⟩ :: r) new ⟨env, sto⟩ lg = (evv c env).bind fun u => pkh u (evv a env) (evv b env) (J8w (fun v => Jy F r new ⟨(d, v) :: env, sto⟩ (lgA lg (rdO F (.pick c a b) new ⟨env, sto⟩) [])) (.mk _))) ∧
  (∀ F r new env sto lg d op t x y, Jy F (⟨.bin op t x y, some d, none⟩ :: r) new ⟨env, sto⟩ lg = (evv x env).bind fun a => (evv y env).bind fun c => (J0T op t a c).bind fun v => Jy F r new ⟨(d, v) :: env, sto⟩ (lgA lg (rdO F (.bin op t x y) new ⟨env, sto⟩) [])) ∧
  (∀ F r new env sto lg d op x, Jy F (⟨.un op x, some d, none⟩ :: r) new ⟨env, sto⟩ lg = (evv x env).bind fun a => (unP op a).bind fun v => Jy F r new ⟨(d, v) :: env, sto⟩ (lgA lg (rdO F (.un op x) new ⟨env, sto⟩) [])) ∧
  (∀ F r new env sto lg d g off n x, Jy F (⟨.field g off n x, some d, none⟩ :: r) new ⟨env, sto⟩ lg = (evv x env).bind fun a => (J6f g off n a).bind fun v => Jy F r new ⟨(d, v) :: env, sto⟩ (lgA lg (rdO F (.field g off n x) new ⟨env, sto⟩) [])) ∧
  (∀ F r new env sto lg d off x, Jy F (⟨.faddr off x, some d, none⟩ :: r) new ⟨env, sto⟩ lg = (evv x env).bind fun a => (JbP off a).bind fun v => Jy F r new ⟨(d, v) :: env, sto⟩ (lgA lg (rdO F (.faddr off x) new ⟨env, sto⟩) [])) ∧
  (∀ F r new env sto lg d x i, Jy F (⟨.extr x i, some d, none⟩ :: r) new ⟨env, sto⟩ lg = (evv x env).bind fun a => (Jho i a).bind fun v => Jy F r new ⟨(d, v) :: env, sto⟩ (lgA lg (rdO F (.extr x i) new ⟨env, sto⟩) [])) ∧
  (∀ F r new env sto lg d b x, Jy F (⟨.len b x, some d, none⟩ :: r) new ⟨env, sto⟩ lg = (evv x env).bind fun a => (JgM b a).bind fun v => Jy F r new ⟨(d, v) :: env, sto⟩ (lgA lg (rdO F (.len b x) new ⟨env, sto⟩) [])) ∧
  (∀ F r new env sto lg d n, Jy F (⟨.alen n, some d, none⟩ :: r) new ⟨env, sto⟩ lg = Jy F r new ⟨(d, .p (.i .i64 n)) :: env, sto⟩ (lgA lg (rdO F (.alen n) new ⟨env, sto⟩) [])) ∧
  (∀ F r new env sto lg d b x y, Jy F (⟨.mm b x y, some d, none⟩ :: r) new ⟨env, sto⟩ lg = (evv x env).bind fun a => (evv y env).bind fun c => (mmP b a c).bind fun v => Jy F r new ⟨(d, v) :: env, sto⟩ (lgA lg (rdO F (.mm b x y) new ⟨env, sto⟩) [])) ∧
  (∀ F r new env sto lg d n e x i, Jy F (⟨.aaddr n e x i, some d, none⟩ :: r) new ⟨env, sto⟩ lg = (evv x env).bind fun a => (evv i env).bind fun c => (JbO n e a c).bind fun v => Jy F r new ⟨(d, v) :: env, sto⟩ (lgA lg (rdO F (.aaddr n e x i) new ⟨env, sto⟩) [])) ∧
  (∀ F r new env sto lg d e x i, Jy F (⟨.iaddr e x i, some d, none⟩ :: r) new ⟨env, sto⟩ lg = (evv x env).bind fun a => (evv i env).bind fun c => ((J3q e a c).run ⟨env, sto⟩).bind fun q => Jy F r new ⟨(d, q.val) :: env, upd q.ws sto⟩ (lgA lg (rdO F (.iaddr e x i) new ⟨env, sto⟩) (q.ws.map (·.1)))) ∧
  (∀ F r new env sto lg d x i, Jy F (⟨.sidx x i, some d, none⟩ :: r) new ⟨env, sto⟩ lg = (evv x env).bind fun a => (evv i env).bind fun c => (Jlr a c).bind fun v => Jy F r new ⟨(d, v) :: env, sto⟩ (lgA lg (rdO F (.sidx x i) new ⟨env, sto⟩) [])) ∧
  (∀ F r new env sto lg d g n e x i, Jy F (⟨.aidx g n e x i, some d, none⟩ :: r) new ⟨env, sto⟩ lg = (evv x env).bind fun a => (evv i env).bind fun c => (JiV g n e a c).bind fun v => Jy F r new ⟨(d, v) :: env, sto⟩ (lgA lg (rdO F (.aidx g n e x i) new ⟨env, sto⟩) [])) ∧
  (∀ F r new env sto lg d x, Jy F (⟨.nilchk x, some d, none⟩ :: r) new ⟨env, sto⟩ lg = (evv x env).bind fun a => (JnH a).bind fun v => Jy F r new ⟨(d, v) :: env, sto⟩ (lgA lg (rdO F (.nilchk x) new ⟨env, sto⟩) [])) ∧
  (∀ F r new env sto lg d g n x, Jy F (⟨.load g n x, some d, none⟩ :: r) new ⟨env, sto⟩ lg = (evv x env).bind fun a => ((J2q g n a).run ⟨env, sto⟩).bind fun q => Jy F r new ⟨(d, q.val) :: env, upd q.ws sto⟩ (lgA lg (rdO F (.load g n x) new ⟨env, sto⟩) (q.ws.map (·.1)))) ∧
  (∀ F r new env sto lg n x y, Jy F (⟨.store n x y, none, none⟩ :: r) new ⟨env, sto⟩ lg = (evv x env).bind fun a => (evv y env).bind fun c => ((J20 n a c).run ⟨env, sto⟩).bind fun q => Jy F r new ⟨env, upd q.ws sto⟩ (lgA lg (rdO F (.store n x y) new ⟨env, sto⟩) (q.ws.map (·.1)))) ∧
  (∀ F r new env sto lg d c x, Jy F (⟨.conv c x, some d, none⟩ :: r) new ⟨env, sto⟩ lg = (evv x env).bind fun a => dds (JW (.conv c x)) new sto (((cvR c a new).run ⟨env, sto⟩).bind fun e => Jy F r (new + JW (.conv c x)) ⟨(d, e.val) :: env, upd e.ws sto⟩ (lgA lg (rdO F (.conv c x) new ⟨env, sto⟩) (e.ws.map (·.1))))) ∧
  (∀ F r new env sto lg d z ps, Jy F (⟨.build z ps, some d, none⟩ :: r) new ⟨env, sto⟩ lg = ((J31 ps).run ⟨env, sto⟩).bind fun l => (J1o l (z.map .p)).bind fun cs => (J25 true cs).bind fun v => Jy F r new ⟨(d, v) :: env, sto⟩ (lgA lg (rdO F (.build z ps) new ⟨env, sto⟩) [])) ∧
  (∀ F r new env sto lg d s x lo hi mx, Jy F (⟨.slice s x lo hi mx, some d, none⟩ :: r) new ⟨env, sto⟩ lg = (evv x env).bind fun a => (Ja3 lo env).bind fun lo1 => (Ja3 hi env).bind fun hi1 => (Ja3 mx env).bind fun mx1 => ((slR s a lo1 hi1 mx1).run ⟨env, sto⟩).bind fun q => Jy F r new ⟨(d, q.val) :: env, upd q.ws sto⟩ (lgA lg (rdO F (.slice s x lo hi mx) new ⟨env, sto⟩) (q.ws.map (·.1)))) ∧
  (∀ F r new env sto lg d e b z x y, Jy F (⟨.app e b z x y, some d, none⟩ :: r) new ⟨env, sto⟩ lg = (evv x env).bind fun a => (evv y env).bind fun c => ((J8s e b a c).run ⟨env, sto⟩).bind fun q => Jy F r new ⟨(d, q.val) :: env, upd q.ws sto⟩ (lgA lg (rdO F (.app e b z x y) new ⟨env, sto⟩) (q.ws.map (·.1)))) ∧
  (∀ F r new env sto lg d e b z x y, Jy F (⟨.appz e b z x y, some d, none⟩ :: r) new ⟨env, sto⟩ lg = (evv x env).bind fun a => (evv y env).bind fun c => (zrs e z c).bind fun c1 => ((J8s e b a c1).run ⟨env, sto⟩).bind fun q => Jy F r new ⟨(d, q.val) :: env, upd q.ws sto⟩ (lgA lg (rdO F (.appz e b z x y) new ⟨env, sto⟩) (q.ws.map (·.1)))) ∧
  (∀ F r new env sto lg d g a c, Jy F (⟨.mkfn g a c, some d, none⟩ :: r) new ⟨env, sto⟩ lg = ((evs a).run ⟨env, sto⟩).bind fun a1 => ((evs c).run ⟨env, sto⟩).bind fun c1 => Jy F r new ⟨(d, .fn g a1 c1) :: env, sto⟩ (lgA lg (rdO F (.mkfn g a c) new ⟨env, sto⟩) [])) ∧
  (∀ F r new env sto lg d g args n, Jy F (⟨.callv g args n, some d, none⟩ :: r) new ⟨env, sto⟩ lg = (evv g env).bind fun u => cvg u fun h a1 c1 => dds n new sto (((evs args).run ⟨env, sto⟩).bind fun a => ((JT (a1 ++ a ++ c1)).run ⟨env, sto⟩).bind fun a => ((Jq F h a n new).run ⟨env, sto⟩).bind fun q => Jy F r (new + n) ⟨(d, q.val) :: env, upd q.ws sto⟩ (lgA lg (rdO F (.callv g args n) new ⟨env, sto⟩) (q.ws.map (·.1))))) ∧
  (∀ F r new env sto lg g args n, Jy F (⟨.callv g args n, none, none⟩ :: r) new ⟨env, sto⟩ lg = (evv g env).bind fun u => cvg u fun h a1 c1 => dds n new sto (((evs args).run ⟨env, sto⟩).bind fun a => ((JT (a1 ++ a ++ c1)).run ⟨env, sto⟩).bind fun a => ((Jq F h a n new).run ⟨env, sto⟩).bind fun q => Jy F r (new + n) ⟨env, upd q.ws sto⟩ (lgA lg (rdO F (.callv g args n) new ⟨env, sto⟩) (q.ws.map (·.1))))) ∧
  (∀ {α : Type} (f : FuncId) (a c : List AV) (k : FuncId → List AV → List AV → Option α), cvg (.fn f a c) k = k f a c) ∧
  (∀ F r new env sto lg d e b z y, Jy F (⟨.appn e b z y, some d, none⟩ :: r) new ⟨env, sto⟩ lg = (evv y env).bind fun c => ((J0y e c).run ⟨env, sto⟩).bind fun rows => if J6Y rows.length b = true then dds 1 new sto (Jy F r (new + 1) ⟨(d, .slr new 0 rows.length) :: env, sto.set new (.arr true e rows)⟩ (lgA lg (rdO F (.appn e b z y) new ⟨env, sto⟩) [new])) else none) ∧
  (∀ F r new env sto lg d e b z x y, Jy F (⟨.appc e b z x y, some d, none⟩ :: r) new ⟨env, sto⟩ lg = (evv x env).bind fun a => (evv y env).bind fun c => ((J0y e c).run ⟨env, sto⟩).bind fun add => (Jnu e b a add).bind fun rows => dds 1 new sto (Jy F r (new + 1) ⟨(d, .slr new 0 rows.length) :: env, sto.set new (.arr true e rows)⟩ (lgA lg (rdO F (.appc e b z x y) new ⟨env, sto⟩) [new]))) ∧
  (∀ F r new env sto lg d z, Jy F (⟨.newbox z, some d, none⟩ :: r) new ⟨env, sto⟩ lg = dds 1 new sto (Jy F r (new + 1) ⟨(d, .ptr new 0) :: env, sto.set new (.box (z.map .p))⟩ (lgA lg (rdO F (.newbox z) new ⟨env, sto⟩) [new]))) ∧
  (∀ F r new env sto lg d e x, Jy F (⟨.mkarr e x, some d, none⟩ :: r) new ⟨env, sto⟩ lg = dds 1 new sto (Jy F r (new + 1) ⟨(d, .slr new 0 0) :: env, sto.set new (.arr true e [])⟩ (lgA lg (rdO F (.mkarr e x) new ⟨env, sto⟩) [new]))) ∧
  (∀ F r new env sto lg d n x, Jy F (⟨.box n x, some d, none⟩ :: r) new ⟨env, sto⟩ lg = (evv x env).bind fun a => (bxP n a).bind fun cs => dds 1 new sto (Jy F r (new + 1) ⟨(d, .ptr new 0) :: env, sto.set new (.box cs)⟩ (lgA lg (rdO F (.box n x) new ⟨env, sto⟩) [new]))) ∧
  (∀ F r new env sto lg d o e n z ps, Jy F (⟨.lits o e n z ps, some d, none⟩ :: r) new ⟨env, sto⟩ lg = dds (if o then 1 else 0) new sto (((ltR o e n z ps new).run ⟨env, sto⟩).bind fun x => Jy F r (new + if o then 1 else 0) ⟨(d, x.val) :: env, upd x.ws sto⟩ (lgA lg (rdO F (.lits o e n z ps) new ⟨env, sto⟩) (x.ws.map (·.1))))) ∧
  (∀ F r new env sto lg d o e b z l c, Jy F (⟨.mkslice o e b z l c, some d, none⟩ :: r) new ⟨env, sto⟩ lg = (evv l env).bind fun a => (evv c env).bind fun x => dds (if o then 1 else 0) new sto ((mkP o e b z a x new).bind fun x => Jy F r (new + if o then 1 else 0) ⟨(d, x.val) :: env, upd x.ws sto⟩ (lgA lg (rdO F (.mkslice o e b z l c) new ⟨env, sto⟩) (x.ws.map (·.1))))) ∧
  (∀ F r new env sto lg d g args n, Jy F (⟨.call g args n, some d, none⟩ :: r) new ⟨env, sto⟩ lg = dds n new sto (((evs args).run ⟨env, sto⟩).bind fun a => ((JT a).run ⟨env, sto⟩).bind fun a => ((Jq F g a n new).run ⟨env, sto⟩).bind fun e => Jy F r (new + n) ⟨(d, e.val) :: env, upd e.ws sto⟩ (lgA lg (rdO F (.call g args n) new ⟨env, sto⟩) (e.ws.map (·.1))))) ∧
  (∀ F r new env sto lg g args n, Jy F (⟨.call g args n, none, none⟩ :: r) new ⟨env, sto⟩ lg = dds n new sto (((evs args).run ⟨env, sto⟩).bind fun a => ((JT a).run ⟨env, sto⟩).bind fun a => ((Jq F g a n new).run ⟨env, sto⟩).bind fun e => Jy F r (new + n) ⟨env, upd e.ws sto⟩ (lgA lg (rdO F (.call g args n) new ⟨env, sto⟩) (e.ws.map (·.1))))) ∧
  (∀ F r new env sto lg d z os, Jy F (⟨.newboxo z os, some d, none⟩ :: r) new ⟨env, sto⟩ lg = dds (os.length + 1) new sto (Jy F r (new + (os.length + 1)) ⟨(d, .ptr (new + os.length) 0) :: env, upd (J3C os new ++ [(new + os.length, .box (J8i os new (z.map .p)))]) sto⟩ (lgA lg (rdO F (.newboxo z os) new ⟨env, sto⟩) ((J3C os new ++ [(new + os.length, Blk.box (J8i os new (z.map .p)))]).map (·.1))))) ∧
  (∀ F r new env sto lg e x, Jy F (⟨.storen e x, none, none⟩ :: r) new ⟨env, sto⟩ lg = (evv x env).bind fun a => dds 1 new sto (((J20 1 a (.slr new 0 0)).run ⟨env, sto⟩).bind fun q => Jy F r (new + 1) ⟨env, upd ((new, .arr true e []) :: q.ws) sto⟩ (lgA lg (rdO F (.storen e x) new ⟨env, sto⟩) (new :: q.ws.map (·.1))))) ∧
  (∀ F r new env sto lg d z ps os, Jy F (⟨.buildo z ps os, some d, none⟩ :: r) new ⟨env, sto⟩ lg = ((J31 ps).run ⟨env, sto⟩).bind fun l => (J1o l (J8i os new (z.map .p))).bind fun cs => (J25 true cs).bind fun v => dds os.length new sto (Jy F r (new + os.length) ⟨(d, v) :: env, upd (J3C os new) sto⟩ (lgA lg (rdO F (.buildo z ps os) new ⟨env, sto⟩) ((J3C os new).map (·.1))))) ∧
  (∀ F r new env sto lg d g kp args n, Jy F (⟨.callo g kp args n, some d, none⟩ :: r) new ⟨env, sto⟩ lg = dds n new sto (((evs args).run ⟨env, sto⟩).bind fun a => ((J2J kp a).run ⟨env, sto⟩).bind fun a => ((J3T F g a n new).run ⟨env, sto⟩).bind fun e => Jy F r (new + n) ⟨(d, e.val) :: env, upd e.ws sto⟩ (lgA lg (rdO F (.callo g kp args n) new ⟨env, sto⟩) (e.ws.map (·.1))))) ∧
  (∀ F r new env sto lg g kp args n, Jy F (⟨.callo g kp args n, none, none⟩ :: r) new ⟨env, sto⟩ lg = dds n new sto (((evs args).run ⟨env, sto⟩).bind fun a => ((J2J kp a).run ⟨env, sto⟩).bind fun a => ((J3T F g a n new).run ⟨env, sto⟩).bind fun e => Jy F r (new + n) ⟨env, upd e.ws sto⟩ (lgA lg (rdO F (.callo g kp args n) new ⟨env, sto⟩) (e.ws.map (·.1))))) ∧
  (∀ {α : Type} (n new : Nat) (sto : List Blk) (o : Option α), dds (n + 1) new sto o = dd1 sto[new]? (dds n (new + 1) sto o)) ∧
  (∀ F r new env sto lg op d g w, Jy F (⟨op, d, some (g, w)⟩ :: r) new ⟨env, sto⟩ lg = grd (lk g env) w (J8w (Jy F (⟨op, d, none⟩ :: r) new ⟨env, sto⟩ lg) (.mk _)) (J8w (Jy F r (new + JW op) (put d ⟨J1g, []⟩ ⟨env, sto⟩) (lgA lg [] [])) (.mk _))) ∧
  (∀ {α : Type} (a b : Option α) (h : Dum a), grd (some (.p (.b true))) true (J8w a h) b = a) ∧
  (∀ {α : Type} (a b : Option α) (h : Dum b), grd (some (.p (.b true))) false a (J8w b h) = b) ∧
  (∀ {α : Type} (a b : Option α) (h : Dum b), grd (some (.p (.b false))) true a (J8w b h) = b) ∧
  (∀ {α : Type} (a b : Option α) (h : Dum a), grd (some (.p (.b false))) false (J8w a h) b = a) ∧
  (∀ {α : Type} (w : Bool) (a b : Option α) (h : Dum b), grd (some (.tup [])) w a (J8w b h) = b) ∧
  (∀ {β : Type} (a b : Option AV) (K : AV → Option β) (h : Dum K), pkh (.p (.b true)) a b (J8w K h) = a.bind K) ∧
  (∀ {β : Type} (a b : Option AV) (K : AV → Option β) (h : Dum K), pkh (.p (.b false)) a b (J8w K h) = b.bind K) ∧
  (∀ {α β : Type} (a : α) (f : α → Option β), Option.bind (some a) f = f a) ∧
  (∀ {α : Type} (new : Nat) (sto : List Blk) (o : Option α), dds 0 new sto o = o) ∧
  (∀ {α : Type} (new : Nat) (sto : List Blk) (o : Option α), dds 1 new sto o = dd1 sto[new]? o) ∧
  (∀ {α : Type} (o : Option α), dd1 (some .dead) o = o) :=
  ⟨by intro T f m k s; exact Jus T f m k s,
  by intro T f m k a b s; exact Jwq T f m k a b s,
  by intro T f m k d ins env sto; exact Jv6 T f m k d ins env sto,
  by intro T f m k d q ps ins env sto; exact Jvl T f m k d q ps ins env sto,
  by intro T f m k i c s; exact Jt7 T f m k i c s,
  by intro T f m k c s; exact Jtu T f m k c s,
  by intro T f m k i s; exact Juy T f m k i s,
  by intro T f m k s; exact Jwo T f m k s,
  by intro T f m k live c env sto; exact Jvk T f m k live c env sto,
  by intro T f m k live c env sto; exact Jvr T f m k live c env sto,
  by intro T f m k live c env sto; exact Jv2 T f m k live c env sto,
  by intro T f m k x a b env sto; exact Jvz T f m k x a b env sto,
  by intros; rfl,
  by intros; rfl,
  by intros; rfl,
  by intros; rfl,
  by intros; rfl,
  by intros; rfl,
  by intro T f m k i j s; exact Jve T f m k i j s,
  by intros; rfl,
  by intro T f m k n live e s; exact (Jx9 T f m k n live e s).trans (by cases J6n n live s <;> rfl),
  by intros; rfl,
  by intros; rfl,
  by intros; rfl,
  by intros; rfl,
  by intros; rfl,
  by intro T f m s; exact Jvi T f m s,
  by intro T f m s; exact Jtg T f m s,
  by intros; rfl,
  by intros; rfl,
  by intros; rfl,
  by intros; rfl,
  by intros; rfl,
  by intros; rfl,
  by intros; rfl,
  by intros; rfl,
  by intros; rfl,
  by intro F r new env sto lg d x; rw [st0 (h := rfl)]; simp only [opR, run_bind, J0V]; exact JvH,
  by intro F r new env sto lg d c a b; rw [st0 (h := rfl)]; simp only [opR, run_bind, J0V]; exact Jsz,
  by intro F r new env sto lg d op t x y; rw [st0 (h := rfl)]; simp only [opR, run_bind, J0V]; exact Jlt (g := fun a c => J0T op t a c),
  by intro F r new env sto lg d op x; rw [st0 (h := rfl)]; simp only [opR, run_bind, J0V]; exact Jet (g := fun a => unP op a),
  by intro F r new env sto lg d g off n x; rw [st0 (h := rfl)]; simp only [opR, run_bind, J0V]; exact Jet (g := fun a => J6f g off n a),
  by intro F r new env sto lg d off x; rw [st0 (h := rfl)]; simp only [opR, run_bind, J0V]; exact Jet (g := fun a => JbP off a),
  by intro F r new env sto lg d x i; rw [st0 (h := rfl)]; simp only [opR, run_bind, J0V]; exact Jet (g := fun a => Jho i a),
  by intro F r new env sto lg d b x; rw [st0 (h := rfl)]; simp only [opR, run_bind, J0V]; exact Jet (g := fun a => JgM b a),
  by intro F r new env sto lg d n; rw [st0 (h := rfl)]; rfl,
  by intro F r new env sto lg d b x y; rw [st0 (h := rfl)]; simp only [opR, run_bind, J0V]; exact Jlt (g := fun a c => mmP b a c),
  by intro F r new env sto lg d n e x i; rw [st0 (h := rfl)]; simp only [opR, run_bind, J0V]; exact Jlt (g := fun a c => JbO n e a c),
  by intro F r new env sto lg d e x i; rw [st0 (h := rfl)]; simp only [opR, run_bind, J0V]; exact Jja (g := fun a c => (J3q e a c).run ⟨env, sto⟩),
  by intro F r new env sto lg d x i; rw [st0 (h := rfl)]; simp only [opR, run_bind, J0V]; exact Jvc,
  by intro F r new env sto lg d g n e x i; rw [st0 (h := rfl)]; simp only [opR, run_bind, J0V]; exact Jv8,
  by intro F r new env sto lg d x; rw [st0 (h := rfl)]; simp only [opR, run_bind, J0V]; exact Jue,
  by intro F r new env sto lg d g n x; rw [st0 (h := rfl)]; simp only [opR, run_bind, J0V]; exact JnY (g := fun a => (J2q g n a).run ⟨env, sto⟩),
  by intro F r new env sto lg n x y; rw [JxK (h := rfl)]; simp only [opR, run_bind, J0V]; exact Jja (g := fun a c => (J20 n a c).run ⟨env, sto⟩),
  by intro F r new env sto lg d c x; exact JsR,
  by intro F r new env sto lg d z ps; exact JrM,
  by intro F r new env sto lg d s x lo hi mx; exact JrY,
  by intro F r new env sto lg d e b z x y; rw [st0 (h := rfl)]; simp only [opR, run_bind, J0V]; exact Jja (g := fun a c => (J8s e b a c).run ⟨env, sto⟩),
  by intro F r new env sto lg d e b z x y; rw [st0 (h := rfl)]; simp only [opR, run_bind, J0V]; exact Js3,
  by intro F r new env sto lg d g a c; exact Ju2,
  by intro F r new env sto lg d g args n; exact Jrl,
  by intro F r new env sto lg g args n; exact JqV,
  by intros; rfl,
  by intro F r new env sto lg d e b z y; exact JtT,
  by intro F r new env sto lg d e b z x y; exact JsI,
  by intro F r new env sto lg d z; exact JqP,
  by intro F r new env sto lg d e x; exact JrR,
  by intro F r new env sto lg d n x; exact Jvf,
  by intro F r new env sto lg d o e n z ps; exact Jsv,
  by intro F r new env sto lg d o e b z l c; exact Jpl,
  by intro F r new env sto lg d g args n; exact JtJ,
  by intro F r new env sto lg g args n; exact JrA,
  by intro F r new env sto lg d z os; exact Jpj,
  by intro F r new env sto lg e x; exact JqU,
  by intro F r new env sto lg d z ps os; exact Jqt,
  by intro F r new env sto lg d g kp args n; exact JrN,
  by intro F r new env sto lg g kp args n; exact Jqn,
  by intro α n new sto o; exact Jxz ..,
  by intro F r new env sto lg op d g w; exact Jvd ..,
  by intros; rfl,
  by intros; rfl,
  by intros; rfl,
  by intros; rfl,
  by intros; rfl,
  by intros; rfl,
  by intros; rfl,
  by intros; rfl,
  by intros; rfl,
  by intro α new sto o; exact JxB ..,
  by intros; rfl⟩
set_option maxRecDepth 30000 in
theorem Ua : (∀ n m v r, lk n ((m, v) :: r) = if n = m then some v else lk n r) ∧
  (∀ n env, evv (.t n) env = lk n env) ∧
  (∀ v env, evv (.c v) env = some v) ∧
  (∀ a b, pk (.p (.b true)) a b = a) ∧
  (∀ a b, pk (.p (.b false)) a b = b) ∧
  (∀ env, restr [] env = []) ∧
  (∀ k l env, restr (k :: l) env = JqN k (lk k env) (restr l env)) ∧
  (∀ k v l, JqN k (some v) l = (k, v) :: l) ∧
  (∀ k l, JqN k none l = l) ∧
  (∀ n, lk n [] = none) ∧
  (news [] = 0) ∧
  (∀ i r, news (i :: r) = JW i.op + news r) ∧
  (∀ x, JW (.mv x) = 0) ∧
  (∀ e x, JW (.mkarr e x) = 1) ∧
  (∀ a b c, JW (.pick a b c) = 0) ∧
  (∀ z, JW (.newbox z) = 1) ∧
  (∀ n x, JW (.box n x) = 1) ∧
  (∀ z ps, JW (.build z ps) = 0) ∧
  (∀ o e n z ps, JW (.lits o e n z ps) = if o then 1 else 0) ∧
  (∀ g n x, JW (.load g n x) = 0) ∧
  (∀ n x y, JW (.store n x y) = 0) ∧
  (∀ x, JW (.nilchk x) = 0) ∧
  (∀ op t x y, JW (.bin op t x y) = 0) ∧
  (∀ op x, JW (.un op x) = 0) ∧
  (∀ c x, JW (.conv (.int c) x) = 0) ∧
  (∀ x, JW (.conv .same x) = 0) ∧
  (∀ x, JW (.conv .toStr x) = 0) ∧
  (∀ o x, JW (.conv (.toBytes o) x) = if o then 1 else 0) ∧
  (∀ o e b z l c, JW (.mkslice o e b z l c) = if o then 1 else 0) ∧
  (∀ s x lo hi mx, JW (.slice s x lo hi mx) = 0) ∧
  (∀ off x, JW (.faddr off x) = 0) ∧
  (∀ g off n x, JW (.field g off n x) = 0) ∧
  (∀ e x i, JW (.iaddr e x i) = 0) ∧
  (∀ n e x i, JW (.aaddr n e x i) = 0) ∧
  (∀ x i, JW (.sidx x i) = 0) ∧
  (∀ g n e x i, JW (.aidx g n e x i) = 0) ∧
  (∀ x i, JW (.extr x i) = 0) ∧
  (∀ g args n, JW (.call g args n) = n) ∧
  (∀ g args n, JW (.callv g args n) = n) ∧
  (∀ b x, JW (.len b x) = 0) ∧
  (∀ n, JW (.alen n) = 0) ∧
  (∀ e b z x y, JW (.app e b z x y) = 0) ∧
  (∀ e b z x y, JW (.appz e b z x y) = 0) ∧
  (∀ e b z y, JW (.appn e b z y) = 1) ∧
  (∀ e b z x y, JW (.appc e b z x y) = 1) ∧
  (∀ b x y, JW (.mm b x y) = 0) ∧
  (∀ g a c, JW (.mkfn g a c) = 0) ∧
  (∀ z os, JW (.newboxo z os) = os.length + 1) ∧
  (∀ z ps os, JW (.buildo z ps os) = os.length) ∧
  (∀ e x, JW (.storen e x) = 1) ∧
  (∀ g kp args n, JW (.callo g kp args n) = n) ∧
  (∀ sto, room 0 sto = sto) ∧
  (∀ n sto, room (n + 1) sto = sto ++ .dead :: List.replicate n .dead) ∧
  (∀ sto, upd [] sto = sto) ∧
  (∀ b x ws sto, upd ((b, x) :: ws) sto = upd ws (sto.set b x)) ∧
  (∀ d v ws env sto, put (some d) ⟨v, ws⟩ ⟨env, sto⟩ = ⟨(d, v) :: env, upd ws sto⟩) ∧
  (∀ v ws env sto, put none ⟨v, ws⟩ ⟨env, sto⟩ = ⟨env, upd ws sto⟩) ∧
  (J1g = .tup []) ∧
  (∀ {α β : Type} (a : α) (f : α → β), Option.map f (some a) = some (f a)) ∧
  (∀ k x y, J0T .add .plain (.p (.i k x)) (.p (.i k y)) = some (.p (.i k (k.wrap (x + y))))) ∧
  (∀ k x y, J0T .sub .plain (.p (.i k x)) (.p (.i k y)) = some (.p (.i k (k.wrap (x - y))))) ∧
  (∀ k x y, J0T .mul .plain (.p (.i k x)) (.p (.i k y)) = some (.p (.i k (k.wrap (x * y))))) ∧
  (∀ k x y, J0T .and .plain (.p (.i k x)) (.p (.i k y)) = some (.p (.i k (J5z k x y)))) ∧
  (∀ k x y, J0T .or .plain (.p (.i k x)) (.p (.i k y)) = some (.p (.i k (orI k x y)))) ∧
  (∀ k x y, J0T .xor .plain (.p (.i k x)) (.p (.i k y)) = some (.p (.i k (J5S k x y)))) ∧
  (∀ k x y, J0T .eql .plain (.p (.i k x)) (.p (.i k y)) = some (.p (.b (x == y)))) ∧
  (∀ k x y, J0T .neq .plain (.p (.i k x)) (.p (.i k y)) = some (.p (.b (x != y)))) ∧
  (∀ k x y, J0T .lss .plain (.p (.i k x)) (.p (.i k y)) = some (.p (.b (decide (x < y))))) ∧
  (∀ k x y, J0T .leq .plain (.p (.i k x)) (.p (.i k y)) = some (.p (.b (decide (x ≤ y))))) ∧
  (∀ k x y, J0T .gtr .plain (.p (.i k x)) (.p (.i k y)) = some (.p (.b (decide (x > y))))) ∧
  (∀ k x y, J0T .geq .plain (.p (.i k x)) (.p (.i k y)) = some (.p (.b (decide (x ≥ y))))) ∧
  (∀ k x y, J0T .quo .plain (.p (.i k x)) (.p (.i k y)) = (JvY k x y).map fun z => .p (.i k z)) ∧
  (∀ k x y, J0T .rem .plain (.p (.i k x)) (.p (.i k y)) = (Jlg x y).map fun z => .p (.i k z)) ∧
  (∀ k k2 x y, J0T .shl .plain (.p (.i k x)) (.p (.i k2 y)) = (JdY k x y).map fun z => .p (.i k z)) ∧
  (∀ k k2 x y, J0T .shr .plain (.p (.i k x)) (.p (.i k2 y)) = (Jaz k x y).map fun z => .p (.i k z)) ∧
  (∀ x y, J0T .add .plain (.p (.s x)) (.p (.s y)) = (J4a x y).map fun z => .p (.s z)) ∧
  (∀ x y, J0T .eql .plain (.p (.s x)) (.p (.s y)) = some (.p (.b (x == y)))) ∧
  (∀ x y, J0T .neq .plain (.p (.s x)) (.p (.s y)) = some (.p (.b (!(x == y))))) ∧
  (∀ x y, J0T .lss .plain (.p (.s x)) (.p (.s y)) = some (.p (.b (Op.bytesLess x y)))) ∧
  (∀ x y, J0T .leq .plain (.p (.s x)) (.p (.s y)) = some (.p (.b (Op.bytesLess x y || x == y)))) ∧
  (∀ x y, J0T .gtr .plain (.p (.s x)) (.p (.s y)) = some (.p (.b (!(Op.bytesLess x y || x == y))))) ∧
  (∀ x y, J0T .geq .plain (.p (.s x)) (.p (.s y)) = some (.p (.b (!Op.bytesLess x y)))) ∧
  (∀ x y, J0T .eql .bool (.p (.b x)) (.p (.b y)) = some (.p (.b (x == y)))) ∧
  (∀ x y, J0T .neq .bool (.p (.b x)) (.p (.b y)) = some (.p (.b (!(x == y))))) ∧
  (∀ ks a c, J0T .eql (.flat ks) (.data a) (.data c) = (J1c ks a c).map fun x => .p (.b x)) ∧
  (∀ ks a c, J0T .neq (.flat ks) (.data a) (.data c) = (J1c ks a c).map fun x => .p (.b (!x))) ∧
  (∀ b o y, J0T .eql .nilp (.ptr b o) y = some (.p (.b false))) ∧
  (∀ b o y, J0T .neq .nilp (.ptr b o) y = some (.p (.b true))) ∧
  (∀ k n, unP .neg (.p (.i k n)) = some (.p (.i k (k.wrap (0 - n))))) ∧
  (∀ k n, unP .xor (.p (.i k n)) = some (.p (.i k (JqX k n)))) ∧
  (∀ x, unP .not (.p (.b x)) = some (.p (.b (!x)))) ∧
  ((!true) = false) ∧
  ((!false) = true) ∧
  (∀ k x y, mmP true (.p (.i k x)) (.p (.i k y)) = some (.p (.i k (Jlw x y)))) ∧
  (∀ k x y, mmP false (.p (.i k x)) (.p (.i k y)) = some (.p (.i k (Jjh x y)))) ∧
  (∀ off b o, JbP off (.ptr b o) = some (.ptr b (o + off))) ∧
  (∀ off o cs, JbP off (.cp cs o) = some (.cp cs (o + off))) ∧
  (∀ off b e i o, JbP off (.ep b e i o) = some (.ep b e i (o + off))) ∧
  (∀ g off n cs, J6f g off n (.data cs) = (sub cs off n).bind (J2j g)) ∧
  (∀ g off n c cs, J6f g off n (.agg (c :: cs)) = (sub (c :: cs) off n).bind (J25 g)) ∧
  (∀ cs, J2j true cs = some (.data cs)) ∧
  (∀ c, J2j false [c] = some (.p c)) ∧
  (∀ cs, J25 true (cs.map AV.p) = some (.data cs)) ∧
  (∀ c cs, J25 true (c :: cs) = some (Jo6 (c :: cs) (unp (c :: cs)))) ∧
  (∀ c, J25 false [c] = some c) ∧
  (∀ cs l, Jo6 cs (some l) = .data l) ∧
  (∀ c, Option.map (fun l => c :: l) (none : Option (List PV)) = none) ∧
  (∀ cs, Jo6 cs none = .agg cs) ∧
  (unp [] = some []) ∧
  (∀ c r, unp (.p c :: r) = (unp r).map fun l => c :: l) ∧
  (∀ b i n r, unp (.slr b i n :: r) = none) ∧
  (∀ b i r, unp (.ptr b i :: r) = none) ∧
  (∀ b e i o r, unp (.ep b e i o :: r) = none) ∧
  (∀ f a c r, unp (.fn f a c :: r) = none) ∧
  (∀ i vs, Jho i (.tup vs) = vs[i]?) ∧
  (∀ l, JgM true (.p (.s l)) = some (.p (.i .i64 l.length))) ∧
  (∀ e rows, JgM false (.p (.sl e rows)) = some (.p (.i .i64 rows.length))) ∧
  (∀ b i n, JgM false (.slr b i n) = some (.p (.i .i64 n))) ∧
  (∀ {α β : Type} (g : α → β) (l : List α), (l.map g).length = l.length) ∧
  (∀ b o, JnH (.ptr b o) = some (.ptr b o)) ∧
  (∀ cs o, JnH (.cp cs o) = some (.cp cs o)) ∧
  (∀ b e i o, JnH (.ep b e i o) = some (.ep b e i o)) ∧
  (∀ env sto g n cs off, (J2q g n (.cp cs off)).run ⟨env, sto⟩ = (sub cs off n).bind fun l => (J2j g l).map fun v => ⟨v, []⟩) ∧
  (∀ env sto g n b off, (J2q g n (.ptr b off)).run ⟨env, sto⟩ = sto[b]?.bind fun B => ldB g n off B) ∧
  (∀ env sto g n b e i off, (J2q g n (.ep b e i off)).run ⟨env, sto⟩ = sto[b]?.bind fun B => ldE g n e i off B) ∧
  (∀ g n off cs, ldB g n off (.box (cs.map AV.p)) = (sub cs off n).bind fun l => (J2j g l).map fun v => ⟨v, []⟩) ∧
  (∀ g n off c cs, ldB g n off (.box (c :: cs)) = (sub (c :: cs) off n).bind fun l => (J25 g l).map fun v => ⟨v, []⟩) ∧
  (∀ g n e i off z w rows, ldE g n e i off (.arr w z rows) = if e = rows.length then rows[i]?.bind fun row => (sub row off n).bind fun l => (J2j g l).map fun v => ⟨v, []⟩ else none) ∧
  (∀ env sto n b off v, (J20 n (.ptr b off) v).run ⟨env, sto⟩ = sto[b]?.bind fun B => (cellsOf v).bind fun l => stB n b off l B) ∧
  (∀ n b off cs vs, stB n b off (vs.map AV.p) (.box (cs.map AV.p)) = if vs.length = n then (spl cs off vs).map fun cs => ⟨J1g, [(b, .box (cs.map AV.p))]⟩ else none) ∧
  (∀ b off cs v, stB 1 b off [AV.p v] (.box (cs.map AV.p)) = (spl cs off [v]).map fun cs => ⟨J1g, [(b, .box (cs.map AV.p))]⟩) ∧
  (∀ env sto n b e i off v, (J20 n (.ep b e i off) v).run ⟨env, sto⟩ = sto[b]?.bind fun B => stE n b e i off v B ⟨env, sto⟩) ∧
  (∀ n b e i off z c rows s, stE n b e i off (.p c) (.arr true z rows) s = if e = rows.length then rows[i]?.bind fun row => if 1 = n then (spl row off [c]).map fun row => ⟨J1g, [(b, .arr true z (rows.set i row))]⟩ else none else none) ∧
  (∀ n b e i off z cs rows s, stE n b e i off (.data cs) (.arr true z rows) s = if e = rows.length then rows[i]?.bind fun row => if cs.length = n then (spl row off cs).map fun row => ⟨J1g, [(b, .arr true z (rows.set i row))]⟩ else none else none) ∧
  (∀ c, cellsOf (.p c) = some [.p c]) ∧
  (∀ cs, cellsOf (.data cs) = some (cs.map AV.p)) ∧
  (∀ cs, cellsOf (.agg cs) = some cs) ∧
  (∀ f a c, cellsOf (.fn f a c) = some [.fn f a c]) ∧
  (∀ b i n, cellsOf (.slr b i n) = some [.slr b i n]) ∧
  (∀ b o, cellsOf (.ptr b o) = some [.ptr b o]) ∧
  (∀ c, bxP 1 (.p c) = some [.p c]) ∧
  (∀ n cs, bxP n (.data cs) = if cs.length = n then some (cs.map AV.p) else none) ∧
  (∀ n cs, bxP n (.agg cs) = if cs.length = n then some cs else none) ∧
  (∀ b i n, bxP 1 (.slr b i n) = some [.slr b i n]) ∧
  (∀ env sto e rows k n, (J3q e (.p (.sl e rows)) (.p (.i k n))).run ⟨env, sto⟩ = (Jcz rows n).map fun row => ⟨.cp row 0, []⟩) ∧
  (∀ env sto e b m k n, (J3q e (.slr b 0 m) (.p (.i k n))).run ⟨env, sto⟩ = sto[b]?.bind fun B => iaB e b m n B) ∧
  (∀ e b m n w rows, iaB e b m n (.arr w e rows) = if m = rows.length ∧ 0 ≤ n ∧ n < m then some ⟨.ep b rows.length n.toNat 0, []⟩ else none) ∧
  (∀ n e b off k i, JbO n e (.ptr b off) (.p (.i k i)) = if 0 ≤ i ∧ i < n then some (.ptr b (off + i.toNat * e)) else none) ∧
  (∀ n e off cs k i, JbO n e (.cp cs off) (.p (.i k i)) = if 0 ≤ i ∧ i < n then some (.cp cs (off + i.toNat * e)) else none) ∧
  (∀ n e b x j off k i, JbO n e (.ep b x j off) (.p (.i k i)) = if 0 ≤ i ∧ i < n then some (.ep b x j (off + i.toNat * e)) else none) ∧
  (∀ l k n, Jlr (.p (.s l)) (.p (.i k n)) = (Jd6 l n).map fun v => .p (.i .u8 v)) ∧
  (∀ g n e cs k i, JiV g n e (.agg cs) (.p (.i k i)) = if 0 ≤ i ∧ i < n then J6f g (i.toNat * e) e (.agg cs) else none) ∧
  (∀ g n e cs k i, JiV g n e (.data cs) (.p (.i k i)) = if 0 ≤ i ∧ i < n then (sub cs (i.toNat * e) e).bind (J2j g) else none) ∧
  (∀ env sto c k n new, (cvR (.int c) (.p (.i k n)) new).run ⟨env, sto⟩ = some ⟨.p (.i c (c.wrap n)), []⟩) ∧
  (∀ env sto l new, (cvR .same (.p (.s l)) new).run ⟨env, sto⟩ = some ⟨.p (.s l), []⟩) ∧
  (∀ env sto l new, (cvR .toStr (.p (.sl 1 (l.map (r_i .u8)))) new).run ⟨env, sto⟩ = some ⟨.p (.s (toStr l)), []⟩) ∧
  (∀ env sto b n new, (cvR .toStr (.slr b 0 n) new).run ⟨env, sto⟩ = sto[b]?.bind fun B => cvB n B) ∧
  (∀ n w l, cvB n (.arr w 1 (l.map (r_i .u8))) = if n = l.length then some ⟨.p (.s (toStr l)), []⟩ else none) ∧
  (∀ env sto l new, (cvR (.toBytes false) (.p (.s l)) new).run ⟨env, sto⟩ = some ⟨.p (.sl 1 ((Jav l).map (r_i .u8))), []⟩) ∧
  (∀ env sto l new, (cvR (.toBytes true) (.p (.s l)) new).run ⟨env, sto⟩ = some ⟨.slr new 0 (Jav l).length, [(new, .arr true 1 ((Jav l).map (r_i .u8)))]⟩) ∧
  (∀ env sto, (J31 []).run ⟨env, sto⟩ = some []) ∧
  (∀ env sto off size x r, (J31 ((off, size, x) :: r)).run ⟨env, sto⟩ = (evv x env).bind fun v => (cellsOf v).bind fun cs => ((J31 r).run ⟨env, sto⟩).bind fun l => some ((off, size, cs) :: l)) ∧
  (∀ cs, J1o [] cs = some cs) ∧
  (∀ off size vs cs r, J1o ((off, size, vs.map AV.p) :: r) (cs.map AV.p) = if vs.length = size then (spl cs off vs).bind fun cs => J1o r (cs.map AV.p) else none) ∧
  (∀ off v cs r, J1o ((off, 1, [AV.p v]) :: r) (cs.map AV.p) = (spl cs off [v]).bind fun cs => J1o r (cs.map AV.p)) ∧
  (∀ env sto, (evs []).run ⟨env, sto⟩ = some []) ∧
  (∀ env sto x r, (evs (x :: r)).run ⟨env, sto⟩ = (evv x env).bind fun v => ((evs r).run ⟨env, sto⟩).bind fun vs => some (v :: vs)) ∧
  (∀ n, J3C [] n = []) ∧
  (∀ o e r n, J3C ((o, e) :: r) n = (n, .arr true e []) :: J3C r (n + 1)) ∧
  (∀ n cs, J8i [] n cs = cs) ∧
  (∀ o e r n cs, J8i ((o, e) :: r) n cs = J8i r (n + 1) (cs.set o (.slr n 0 0))) ∧
  (∀ env sto m, (J2J m []).run ⟨env, sto⟩ = some ([], [])) ∧
  (∀ env sto l, (J2J [] l).run ⟨env, sto⟩ = (JT l).run ⟨env, sto⟩) ∧
  (∀ env sto x m r, (J2J (true :: m) (x :: r)).run ⟨env, sto⟩ = ((J2J m r).run ⟨env, sto⟩).bind fun c => some (x :: c.1, c.2)) ∧
  (∀ env sto x m r, (J2J (false :: m) (x :: r)).run ⟨env, sto⟩ = ((JT [x]).run ⟨env, sto⟩).bind fun a => ((J2J m r).run ⟨env, sto⟩).bind fun c => some (a.1 ++ c.1, a.2 ++ c.2)) ∧
  (∀ env sto, (JT []).run ⟨env, sto⟩ = some ([], [])) ∧
  (∀ env sto c r, (JT (.p c :: r)).run ⟨env, sto⟩ = ((JT r).run ⟨env, sto⟩).bind fun a => some (.p c :: a.1, a.2)) ∧
  (∀ env sto c r, (JT (.data c :: r)).run ⟨env, sto⟩ = ((JT r).run ⟨env, sto⟩).bind fun a => some (.data c :: a.1, a.2)) ∧
  (∀ env sto b o r, (JT (.ptr b o :: r)).run ⟨env, sto⟩ = ((JT r).run ⟨env, sto⟩).bind fun a => some (.ptr b o :: a.1, a.2)) ∧
  (∀ env sto c o r, (JT (.cp c o :: r)).run ⟨env, sto⟩ = ((JT r).run ⟨env, sto⟩).bind fun a => some (.cp c o :: a.1, a.2)) ∧
  (∀ env sto b x i o r, (JT (.ep b x i o :: r)).run ⟨env, sto⟩ = ((JT r).run ⟨env, sto⟩).bind fun a => some (.ep b x i o :: a.1, a.2)) ∧
  (∀ env sto b n r, (JT (.slr b 0 n :: r)).run ⟨env, sto⟩ = sto[b]?.bind fun B => (frz b n B).bind fun x => ((JT r).run ⟨env, sto⟩).bind fun a => some (x.1 :: a.1, x.2 :: a.2)) ∧
  (∀ env sto cs r, (JT (.agg cs :: r)).run ⟨env, sto⟩ = ((fz.fzL cs).run ⟨env, sto⟩).bind fun x => ((JT r).run ⟨env, sto⟩).bind fun a => some (.data x.1 :: a.1, x.2 ++ a.2)) ∧
  (∀ b n z w rows, frz b n (.arr w z rows) = if n = rows.length then some (.p (.sl z rows), (b, .arr false z rows)) else none) ∧
  (∀ env sto, (fz.fzL []).run ⟨env, sto⟩ = some ([], [])) ∧
  (∀ env sto c r, (fz.fzL (.p c :: r)).run ⟨env, sto⟩ = ((fz.fzL r).run ⟨env, sto⟩).bind fun a => some (c :: a.1, a.2)) ∧
  (∀ env sto b n r, (fz.fzL (.slr b 0 n :: r)).run ⟨env, sto⟩ = sto[b]?.bind fun B => (frp b n B).bind fun x => ((fz.fzL r).run ⟨env, sto⟩).bind fun a => some (x.1 :: a.1, x.2 :: a.2)) ∧
  (∀ b n z w rows, frp b n (.arr w z rows) = if n = rows.length then some (.sl z rows, (b, .arr false z rows)) else none) ∧
  (∀ env sto f a c r, (JT (.fn f a c :: r)).run ⟨env, sto⟩ = ((JT r).run ⟨env, sto⟩).bind fun x => some (.fn f a c :: x.1, x.2)) ∧
  (∀ m ids sto f a c, fin m ids sto (.fn f a c) = (fin.finL m ids sto a).bind fun a1 => (fin.finL m ids sto c).bind fun c1 => some (.fn f a1 c1)) ∧
  (∀ f a c l, J0f (.fn f a c) l = J0f.entsOfL c (J0f.entsOfL a l)) ∧
  (∀ ws s, JP ws s [] [] = True) ∧
  (∀ ws s b bs cs css, JP ws s (b :: bs) (cs :: css) = ((J8t ws b).run s = some (.box cs) ∧ JP ws s bs css)) ∧
  (∀ env sto b c x ws, (J8t ((c, x) :: ws) b).run ⟨env, sto⟩ = sto[b]?.bind fun y => some ((J2K b ((c, x) :: ws)).getD y)) ∧
  (∀ b, J2K b [] = none) ∧
  (∀ b c x r, J2K b ((c, x) :: r) = lwO (J2K b r) (if c = b then some x else none)) ∧
  (∀ x y, lwO (some x) y = some x) ∧
  (∀ y, lwO none y = y) ∧
  (∀ {α : Type} (a b : α), (some a).getD b = a) ∧
  (∀ {α : Type} (b : α), (none : Option α).getD b = b) ∧
  (∀ env sto b, (J8t [] b).run ⟨env, sto⟩ = sto[b]?) ∧
  (∀ env sto e rows, (J0y e (.p (.sl e rows))).run ⟨env, sto⟩ = some rows) ∧
  (∀ env sto l, (J0y 1 (.p (.s l))).run ⟨env, sto⟩ = some ((Jav l).map (r_i .u8))) ∧
  (∀ env sto e b n, (J0y e (.slr b 0 n)).run ⟨env, sto⟩ = sto[b]?.bind fun B => roB e n B) ∧
  (∀ e n w rows, roB e n (.arr w e rows) = if n = rows.length then some rows else none) ∧
  (∀ env sto o e n new z ps, (ltR o e n z ps new).run ⟨env, sto⟩ = ((fzs (ps.map (·.2))).run ⟨env, sto⟩).bind fun a => (J4x e ((ps.map (·.1)).zip a.1) (List.replicate n z)).map fun rows => if o then ⟨.slr new 0 n, a.2 ++ [(new, .arr true e rows)]⟩ else ⟨.p (.sl e rows), a.2⟩) ∧
  (∀ env sto, (fzs []).run ⟨env, sto⟩ = some ([], [])) ∧
  (∀ env sto x r, (fzs (x :: r)).run ⟨env, sto⟩ = (evv x env).bind fun v => ((fz v).run ⟨env, sto⟩).bind fun a => ((fzs r).run ⟨env, sto⟩).bind fun c => some (a.1 :: c.1, a.2 ++ c.2)) ∧
  (∀ env sto c, (fz (.p c)).run ⟨env, sto⟩ = some ([c], [])) ∧
  (∀ env sto cs, (fz (.data cs)).run ⟨env, sto⟩ = some (cs, [])) ∧
  (∀ env sto cs, (fz (.agg cs)).run ⟨env, sto⟩ = (fz.fzL cs).run ⟨env, sto⟩) ∧
  (∀ env sto b n, (fz (.slr b 0 n)).run ⟨env, sto⟩ = sto[b]?.bind fun B => (frp b n B).bind fun x => some ([x.1], [x.2])) ∧
  (∀ e rows, J4x e [] rows = some rows) ∧
  (∀ e i c r rows, J4x e ((i, c) :: r) rows = if c.length = e ∧ i < rows.length then J4x e r (rows.set i c) else none) ∧
  (∀ o e b new z k k2 n m, mkP o e b z (.p (.i k n)) (.p (.i k2 m)) new = if 0 ≤ n ∧ n ≤ m ∧ b * m ≤ 281474976710656 ∧ m ≤ 281474976710656 then some (if o then ⟨.slr new 0 n.toNat, [(new, .arr true e (List.replicate n.toNat z))]⟩ else ⟨.p (.sl e (List.replicate n.toNat z)), []⟩) else none) ∧
  (∀ env, Ja3 none env = some none) ∧
  (∀ x env, Ja3 (some x) env = (evv x env).map some) ∧
  (∀ env sto s c lo hi, (slR s (.p c) lo hi none).run ⟨env, sto⟩ = (slX s (.p c) lo hi).map fun v => ⟨v, []⟩) ∧
  (∀ env sto s b n lo hi, (slR s (.slr b 0 n) lo hi none).run ⟨env, sto⟩ = sto[b]?.bind fun B => (frz b n B).bind fun x => (slX s x.1 lo hi).map fun v => ⟨v, [x.2]⟩) ∧
  (∀ x lo hi, slX .str x lo hi = J36 x lo hi) ∧
  (∀ e x lo hi, slX (.sl e) x lo hi = J9C e x lo hi) ∧
  (∀ n live env sto, J6n n live ⟨env, sto⟩ = if sto.length = n then some ⟨restr live env, sto⟩ else (J9z n sto (restr live env)).bind fun e => (J44 n [] sto (sto.take n)).bind fun l => some ⟨e, l⟩) ∧
  (∀ m sto, J9z m sto [] = some []) ∧
  (∀ m k sto x r, J9z m sto ((k, x) :: r) = (fin m [] sto x).bind fun y => (J9z m sto r).bind fun l => some ((k, y) :: l)) ∧
  (∀ m ids sto, J44 m ids sto [] = some []) ∧
  (∀ m ids sto x r, J44 m ids sto (x :: r) = (J59 m ids sto x).bind fun y => (J44 m ids sto r).bind fun l => some (y :: l)) ∧
  (∀ m ids sto, J59 m ids sto .dead = some .dead) ∧
  (∀ m ids sto w z rows, J59 m ids sto (.arr w z rows) = some (.arr w z rows)) ∧
  (∀ m ids sto cs, J59 m ids sto (.box cs) = (fin.finL m ids sto cs).map .box) ∧
  (∀ (m : Nat) (ids : List Nat) (sto : List Blk) (l : List PV), fin.finL m ids sto (l.map AV.p) = some (l.map AV.p)) ∧
  (∀ m ids sto, fin.finL m ids sto [] = some []) ∧
  (∀ m ids sto x r, fin.finL m ids sto (x :: r) = (fin m ids sto x).bind fun y => (fin.finL m ids sto r).bind fun l => some (y :: l)) ∧
  (∀ m ids sto c, fin m ids sto (.p c) = some (.p c)) ∧
  (∀ m ids sto c, fin m ids sto (.data c) = some (.data c)) ∧
  (∀ m ids sto c o, fin m ids sto (.cp c o) = some (.cp c o)) ∧
  (∀ m ids sto, fin m ids sto (.tup []) = some (.tup [])) ∧
  (∀ m ids sto b off, fin m ids sto (.ptr b off) = if b < m then some (.ptr b off) else (J9j b ids m).map fun k => .ptr k off) ∧
  (∀ m ids sto b n, fin m ids sto (.slr b 0 n) = if b < m then some (.slr b 0 n) else fsl (J9j b ids m) n sto[b]?) ∧
  (∀ k n o, fsl (some k) n o = some (.slr k 0 n)) ∧
  (∀ n z w rows, fsl none n (some (.arr w z rows)) = if n = rows.length then some (.p (.sl z rows)) else none) ∧
  (∀ m ids sto cs, fin m ids sto (.agg cs) = (fin.finL m ids sto cs).bind fun l => some (Jo6 l (unp l))) ∧
  (∀ m ids sto x cs, fin m ids sto (.tup (x :: cs)) = (fin.finL m ids sto (x :: cs)).map .tup) ∧
  (∀ b k, J9j b [] k = none) ∧
  (∀ b x k r, J9j b (x :: r) k = if x = b then some k else J9j b r (k + 1)) ∧
  (∀ res fresh m env sto, Jj9 res fresh m ⟨env, sto⟩ = ((J6T res).run ⟨env, sto⟩).bind fun vs => if sto.length = m then some (one vs, sto) else Jr8 fresh m vs sto (J1y m fresh sto (J8y sto (J0f.entsOfL vs []) (J0f.entsOfL vs [])))) ∧
  (∀ fresh m vs sto ids, Jr8 fresh m vs sto ids = if J3W ids = true then (fin.finL m ids sto vs).bind fun ws => (J44 m ids sto (sto.take m)).bind fun l => (J82 sto ids).bind fun q => (J44 m ids sto q).bind fun q => some (one ws, l ++ q) else none) ∧
  (∀ env sto, (J6T []).run ⟨env, sto⟩ = some []) ∧
  (∀ env sto t r, (J6T (.tmp t :: r)).run ⟨env, sto⟩ = (lk t env).bind fun v => ((J6T r).run ⟨env, sto⟩).bind fun l => some (v :: l)) ∧
  (∀ env sto t n g r, (J6T (.cell t g n :: r)).run ⟨env, sto⟩ = (lk t env).bind fun v => ((J2q g n v).run ⟨env, sto⟩).bind fun e => ((J6T r).run ⟨env, sto⟩).bind fun l => some (e.val :: l)) ∧
  (∀ x, one [x] = x) ∧
  (one [] = .tup []) ∧
  (∀ x y r, one (x :: y :: r) = .tup (x :: y :: r)) ∧
  (∀ m fresh sto, J1y m fresh sto [] = []) ∧
  (∀ m b sto r, J1y m false sto (.whole b :: r) = if b < m then J1y m false sto r else oid b sto[b]? (J1y m false sto r)) ∧
  (∀ m b sto r, J1y m true sto (.whole b :: r) = if b < m then J1y m true sto r else Jop b sto[b]? (J1y m true sto r)) ∧
  (∀ b cs l, Jop b (some (.box cs)) l = b :: l) ∧
  (∀ b z w rows l, Jop b (some (.arr w z rows)) l = b :: l) ∧
  (∀ b cs l, oid b (some (.box cs)) l = b :: l) ∧
  (∀ b z w rows l, oid b (some (.arr w z rows)) l = l) ∧
  (∀ sto acc, J8y sto [] acc = acc) ∧
  (∀ sto b r acc, J8y sto (.whole b :: r) acc = J8y sto r (ebb sto[b]? acc)) ∧
  (∀ cs acc, ebb (some (.box cs)) acc = J0f.entsOfL cs acc) ∧
  (∀ z w rows acc, ebb (some (.arr w z rows)) acc = acc) ∧
  (∀ l, J0f.entsOfL [] l = l) ∧
  (∀ x r l, J0f.entsOfL (x :: r) l = J0f.entsOfL r (J0f x l)) ∧
  (∀ (cs : List PV) (l : List Ent), J0f.entsOfL (cs.map AV.p) l = l) ∧
  (∀ c l, J0f (.p c) l = l) ∧
  (∀ c l, J0f (.data c) l = l) ∧
  (∀ c o l, J0f (.cp c o) l = l) ∧
  (∀ b o l, J0f (.ptr b o) l = J8R (.whole b) l) ∧
  (∀ b i n l, J0f (.slr b i n) l = J8R (.whole b) l) ∧
  (∀ cs l, J0f (.agg cs) l = J0f.entsOfL cs l) ∧
  (∀ cs l, J0f (.tup cs) l = J0f.entsOfL cs l) ∧
  (∀ e, J8R e [] = [e]) ∧
  (∀ b c r, J8R (.whole b) (.whole c :: r) = if c = b then .whole c :: r else .whole c :: J8R (.whole b) r) ∧
  (J3W [] = true) ∧
  (∀ x, J3W [x] = true) ∧
  (∀ sto, J82 sto [] = some []) ∧
  (∀ sto b r, J82 sto (b :: r) = sto[b]?.bind fun x => (J82 sto r).bind fun l => some (x :: l)) ∧
  (∀ {α : Type} (a : α) (l : List α), (a :: l)[0]? = some a) ∧
  (∀ {α : Type} (a : α) (l : List α) (n : Nat), (a :: l)[n + 1]? = l[n]?) ∧
  (∀ {α : Type} (n : Nat), ([] : List α)[n]? = none) ∧
  (∀ {α : Type} (a b : α) (l : List α), (a :: l).set 0 b = b :: l) ∧
  (∀ {α : Type} (a b : α) (l : List α) (n : Nat), (a :: l).set (n + 1) b = a :: l.set n b) ∧
  (∀ {α : Type} (l : List α), [] ++ l = l) ∧
  (∀ {α : Type} (l : List α), l ++ [] = l) ∧
  (∀ {α : Type} (a : α) (l r : List α), (a :: l) ++ r = a :: (l ++ r)) ∧
  (∀ {α : Type} (a : α), List.replicate 0 a = []) ∧
  (∀ {α : Type} (a : α) (n : Nat), List.replicate (n + 1) a = a :: List.replicate n a) ∧
  (∀ {α β : Type} (g : α → β), List.map g [] = []) ∧
  (∀ {α β : Type} (g : α → β) (a : α) (l : List α), List.map g (a :: l) = g a :: List.map g l) ∧
  (∀ {α : Type}, ([] : List α).length = 0) ∧
  (∀ {α : Type} (a : α) (l : List α), (a :: l).length = l.length + 1) ∧
  (∀ {α : Type} (l : List α), l.take 0 = []) ∧
  (∀ {α : Type} (a : α) (l : List α) (n : Nat), (a :: l).take (n + 1) = a :: l.take n) ∧
  (∀ {α β : Type} (l : List β), ([] : List α).zip l = []) ∧
  (∀ {α β : Type} (a : α) (b : β) (l : List α) (r : List β), (a :: l).zip (b :: r) = (a, b) :: l.zip r) ∧
  (∀ n, 0 + n = n) ∧
  (∀ n, n + 0 = n) ∧
  (∀ k n, r_i k n = [.i k n]) ∧
  (∀ x, r_b x = [.b x]) ∧
  (∀ x, r_s x = [.s x]) ∧
  (∀ {α : Type} (e : Nat) (g : α → List PV) (l : List α), JlC e g l = [.sl e (l.map g)]) ∧
  (∀ (a : PV), sub [a] 0 1 = some [a]) ∧
  (∀ (a b : PV), spl [a] 0 [b] = some [b]) ∧
  (∀ {α : Type} (cs : List α), sub cs 0 0 = some []) ∧
  (∀ {α : Type} (a : α) (cs : List α) (n : Nat), sub (a :: cs) 0 (n + 1) = (sub cs 0 n).map (a :: ·)) ∧
  (∀ {α : Type} (a : α) (cs : List α) (n m : Nat), sub (a :: cs) (n + 1) m = sub cs n m) ∧
  (∀ {α : Type} (cs : List α), spl cs 0 [] = some cs) ∧
  (∀ {α : Type} (a b : α) (cs vs : List α), spl (a :: cs) 0 (b :: vs) = (spl cs 0 vs).map (b :: ·)) ∧
  (∀ {α : Type} (a : α) (cs : List α) (n : Nat) (vs : List α), spl (a :: cs) (n + 1) vs = (spl cs n vs).map (a :: ·)) ∧
  (∀ n b off l c cs, stB n b off l (.box (c :: cs)) = if l.length = n then (spl (c :: cs) off l).map fun cs => ⟨J1g, [(b, .box cs)]⟩ else none) ∧
  (∀ off size c a cs r, J1o ((off, size, c) :: r) (a :: cs) = if c.length = size then (spl (a :: cs) off c).bind fun cs => J1o r cs else none) ∧
  (∀ {α : Type} (a b : α), (if True then a else b) = a) ∧
  (∀ {α : Type} (a b : α), (if False then a else b) = b) ∧
  (∀ {α : Type} (a b : α), (if true = true then a else b) = a) ∧
  (∀ {α : Type} (a b : α), (if false = true then a else b) = b) ∧
  (∀ a, (True ∧ a) = a) ∧
  (∀ a, (a ∧ True) = a) ∧
  (∀ {α : Type} (a : α), (a = a) = True) ∧
  (∀ {α β : Type} (a : α) (b : β), (a, b).1 = a) ∧
  (∀ {α β : Type} (a : α) (b : β), (a, b).2 = b) :=
  ⟨by intros; rfl,
  by intros; rfl,
  by intros; rfl,
  by intros; rfl,
  by intros; rfl,
  by intros; rfl,
  by intros; rfl,
  by intros; rfl,
  by intros; rfl,
  by intros; rfl,
  rfl,
  by intros; rfl,
  by intros; rfl,
  by intros; rfl,
  by intros; rfl,
  by intros; rfl,
  by intros; rfl,
  by intros; rfl,
  by intros; rfl,
  by intros; rfl,
  by intros; rfl,
  by intros; rfl,
  by intros; rfl,
  by intros; rfl,
  by intros; rfl,
  by intros; rfl,
  by intros; rfl,
  by intros; rfl,
  by intros; rfl,
  by intros; rfl,
  by intros; rfl,
  by intros; rfl,
  by intros; rfl,
  by intros; rfl,
  by intros; rfl,
  by intros; rfl,
  by intros; rfl,
  by intros; rfl,
  by intros; rfl,
  by intros; rfl,
  by intros; rfl,
  by intros; rfl,
  by intros; rfl,
  by intros; rfl,
  by intros; rfl,
  by intros; rfl,
  by intros; rfl,
  by intros; rfl,
  by intros; rfl,
  by intros; rfl,
  by intros; rfl,
  by intros; rfl,
  by intros; rfl,
  by intros; rfl,
  by intros; rfl,
  by intros; rfl,
  by intros; rfl,
  rfl,
  by intros; rfl,
  by intro k x y; simp only [J0T, if_true, J9h, Option.map_some]; try rfl,
  by intro k x y; simp only [J0T, if_true, J9h, Option.map_some]; try rfl,
  by intro k x y; simp only [J0T, if_true, J9h, Option.map_some]; try rfl,
  by intro k x y; simp only [J0T, if_true, J9h, Option.map_some]; try rfl,
  by intro k x y; simp only [J0T, if_true, J9h, Option.map_some]; try rfl,
  by intro k x y; simp only [J0T, if_true, J9h, Option.map_some]; try rfl,
  by intro k x y; simp only [J0T, if_true, J9h, Option.map_some]; try rfl,
  by intro k x y; simp only [J0T, if_true, J9h, Option.map_some]; try rfl,
  by intro k x y; simp only [J0T, if_true, J9h, Option.map_some]; try rfl,
  by intro k x y; simp only [J0T, if_true, J9h, Option.map_some]; try rfl,
  by intro k x y; simp only [J0T, if_true, J9h, Option.map_some]; try rfl,
  by intro k x y; simp only [J0T, if_true, J9h, Option.map_some]; try rfl,
  by intro k x y; simp only [J0T, if_true, J9h, JvY]; split <;> rfl,
  by intro k x y; simp only [J0T, if_true, J9h, Jlg]; split <;> rfl,
  by intro k k2 x y; simp only [J0T, Jdd, JdY]; split <;> rfl,
  by intro k k2 x y; simp only [J0T, Jdd, Jaz]; split <;> rfl,
  by intro x y; simp only [J0T, JnO, J4a]; split <;> rfl,
  by intro x y; rfl,
  by intro x y; rfl,
  by intro x y; rfl,
  by intro x y; rfl,
  by intro x y; rfl,
  by intro x y; rfl,
  by intros; rfl,
  by intros; rfl,
  by intro ks a c; simp only [J0T, J9I]; cases J1c ks a c <;> rfl,
  by intro ks a c; simp only [J0T, J9I]; cases J1c ks a c <;> rfl,
  by intros; rfl,
  by intros; rfl,
  by intros; rfl,
  by intros; rfl,
  by intros; rfl,
  rfl,
  rfl,
  by intros; rfl,
  by intros; rfl,
  by intros; rfl,
  by intros; rfl,
  by intros; rfl,
  by intro g off n cs; simp only [J6f]; cases sub cs off n <;> rfl,
  by intro g off n c cs; simp only [J6f]; cases sub (c :: cs) off n <;> rfl,
  by intros; rfl,
  by intros; rfl,
  by intro cs; exact Jit cs,
  by intro c cs; simp only [J25, if_true]; cases unp (c :: cs) <;> rfl,
  by intros; rfl,
  by intros; rfl,
  by intros; rfl,
  by intros; rfl,
  rfl,
  by intro c r; simp only [unp]; cases unp r <;> rfl,
  by intros; rfl,
  by intros; rfl,
  by intros; rfl,
  by intros; rfl,
  by intros; rfl,
  by intros; rfl,
  by intros; rfl,
  by intros; rfl,
  by intro α β g l; simp,
  by intros; rfl,
  by intros; rfl,
  by intros; rfl,
  by intro env sto g n cs off; exact Jup ..,
  by intro env sto g n b off; exact Jvt ..,
  by intro env sto g n b e i off; exact Jvn ..,
  by intro g n off cs; exact Jxg ..,
  by intros; rfl,
  by intros; rfl,
  by intro env sto n b off v; exact Juq ..,
  by intro n b off cs vs; exact Ju9 ..,
  by intro b off cs v; exact Jxh ..,
  by intro env sto n b e i off v; exact Jvb ..,
  by intro n b e i off z c rows s; exact JwZ ..,
  by intro n b e i off z cs rows s; exact Jxf ..,
  by intros; rfl,
  by intros; rfl,
  by intros; rfl,
  by intros; rfl,
  by intros; rfl,
  by intros; rfl,
  by intros; rfl,
  by intro n cs; exact Jwc ..,
  by intros; rfl,
  by intros; rfl,
  by intro env sto e rows k n; exact Jtk ..,
  by intro env sto e b m k n; exact Jsj ..,
  by intro e b m n w rows; exact Jui ..,
  by intros; rfl,
  by intros; rfl,
  by intros; rfl,
  by intro l k n; exact Jwp ..,
  by intros; rfl,
  by intro g n e cs k i; exact JvQ ..,
  by intros; rfl,
  by intros; rfl,
  @Jox,
  by intro env sto b n new; exact JtD ..,
  @Jx6,
  by intro env sto l new; exact Jt6 ..,
  by intro env sto l new; exact Jru ..,
  by intros; rfl,
  by intro env sto off size x r; exact Jwv ..,
  by intros; rfl,
  by intro off size vs cs r; exact Jo8 ..,
  by intro off v cs r; exact Jtz ..,
  by intros; rfl,
  by intro env sto x r; exact JvI ..,
  by intros; rfl,
  by intros; rfl,
  by intros; rfl,
  by intros; rfl,
  by intro env sto m; cases m <;> rfl,
  by intro env sto l; rw [Jma],
  by intro env sto x m r; exact Jud ..,
  by intro env sto x m r; exact JuI ..,
  by intros; rfl,
  by intro env sto c r; exact Jex _ _ rfl ..,
  by intro env sto c r; exact Jex _ _ rfl ..,
  by intro env sto b o r; exact Jex _ _ rfl ..,
  by intro env sto c o r; exact Jex _ _ rfl ..,
  by intro env sto b x i o r; exact Jex _ _ rfl ..,
  by intro env sto b n r; exact Jsx ..,
  by intro env sto cs r; exact Jsr ..,
  @fr,
  by intros; rfl,
  by intro env sto c r; exact Jt3 ..,
  by intro env sto b n r; exact Jtp ..,
  by intros; rfl,
  by intro env sto f a c r; exact Jex _ _ rfl ..,
  by intro m ids sto f a c; exact Jvp ..,
  by intros; rfl,
  by intros; rfl,
  by intros; rfl,
  by intro env sto b c x ws; exact Jv3 ..,
  by intros; rfl,
  by intro b c x r; exact JvD ..,
  by intros; rfl,
  by intros; rfl,
  by intros; rfl,
  by intros; rfl,
  by intro env sto b; exact JvZ ..,
  by intro env sto e rows; exact JsJ ..,
  by intro env sto l; exact Jtb ..,
  by intro env sto e b n; exact JtG ..,
  by intro e n w rows; exact JtY ..,
  by intro env sto o e n new z ps; exact Jwy ..,
  by intros; rfl,
  by intro env sto x r; exact JwN ..,
  by intros; rfl,
  by intros; rfl,
  by intros; rfl,
  by intro env sto b n; exact JrS ..,
  by intros; rfl,
  by intros; rfl,
  @mk,
  by intros; rfl,
  by intros; rfl,
  by intro env sto s c lo hi; exact Jt8 ..,
  by intro env sto s b n lo hi; exact Jsu ..,
  by intros; rfl,
  by intros; rfl,
  @cl,
  by intros; rfl,
  by intro m k sto x r; exact Jwm ..,
  by intros; rfl,
  by intro m ids sto x r; exact Jw7 ..,
  by intros; rfl,
  by intros; rfl,
  by intro m ids sto cs; exact JuL ..,
  by intro m ids sto l; exact Jm2 m ids sto l,
  by intros; rfl,
  by intro m ids sto x r; exact Jw4 ..,
  by intros; rfl,
  by intros; rfl,
  by intros; rfl,
  by intros; rfl,
  by intros; rfl,
  by intro m ids sto b n; exact Jvq ..,
  by intros; rfl,
  by intros; rfl,
  by intro m ids sto cs; exact Jug ..,
  by intro m ids sto x cs; exact Jv0 ..,
  by intros; rfl,
  by intros; rfl,
  by intros; rfl,
  by intros; rfl,
  by intros; rfl,
  by intro env sto t r; exact Jtw ..,
  by intro env sto t n g r; exact JsQ ..,
  by intros; rfl,
  rfl,
  by intros; rfl,
  by intros; rfl,
  by intro m b sto r; exact Jws ..,
  by intro m b sto r; exact Jvj ..,
  by intros; rfl,
  by intros; rfl,
  by intros; rfl,
  by intros; rfl,
  by intros; rfl,
  by intro sto b r acc; exact Jw1 ..,
  by intros; rfl,
  by intros; rfl,
  by intros; rfl,
  by intros; rfl,
  by intro cs l; exact Jro cs l,
  by intros; rfl,
  by intros; rfl,
  by intros; rfl,
  by intros; rfl,
  by intros; rfl,
  by intros; rfl,
  by intros; rfl,
  by intros; rfl,
  by intro b c r; exact JwH ..,
  rfl,
  by intros; rfl,
  by intros; rfl,
  by intro sto b r; exact Jwb ..,
  by intros; rfl,
  by intros; rfl,
  by intros; rfl,
  by intros; rfl,
  by intros; rfl,
  @JwE,
  @JvG,
  @JwC,
  by intros; rfl,
  by intros; rfl,
  @Jwe,
  @Jwu,
  @JvJ,
  @JvO,
  by intros; rfl,
  by intros; rfl,
  by intros; rfl,
  by intros; rfl,
  by intro n; exact Nat.zero_add n,
  by intros; rfl,
  @Jw0,
  @Jw5,
  @Ju5,
  @JvF,
  @s1,
  by intros; rfl,
  by intro α cs; rw [J7p]; simp,
  by intro α a cs n; exact JsW ..,
  by intro α a cs n m; exact Jsk ..,
  by intro α cs; rw [J8m]; simp,
  by intro α a b cs vs; exact JtU ..,
  by intro α a cs n vs; exact JsX ..,
  by intros; rfl,
  by intro off size c a cs r; exact JsZ ..,
  by intros; rfl,
  by intros; rfl,
  by intros; rfl,
  by intros; rfl,
  by intro a; simp,
  by intro a; simp,
  by intro α a; simp,
  by intros; rfl,
  by intros; rfl⟩
set_option maxRecDepth 30000 in
theorem Nf : (∀ {α : Type} (l : List α), [] ++ l = l) ∧
  (∀ {α : Type} (l : List α), l ++ [] = l) ∧
  (∀ {α : Type} (a : α) (l r : List α), (a :: l) ++ r = a :: (l ++ r)) ∧
  (∀ {α β : Type} (g : α → β), List.map g [] = []) ∧
  (∀ {α β : Type} (g : α → β) (a : α) (l : List α), List.map g (a :: l) = g a :: List.map g l) ∧
  (∀ {α : Type}, ([] : List α).length = 0) ∧
  (∀ {α : Type} (a : α) (l : List α), (a :: l).length = l.length + 1) ∧
  (∀ k n, r_i k n = [.i k n]) ∧
  (∀ x, r_b x = [.b x]) ∧
  (∀ x, r_s x = [.s x]) ∧
  (∀ {α : Type} (e : Nat) (g : α → List PV) (l : List α), JlC e g l = [.sl e (l.map g)]) :=
  ⟨@JwE,
  @JvG,
  @JwC,
  @Jwe,
  @Jwu,
  @JvJ,
  @JvO,
  @Jw0,
  @Jw5,
  @Ju5,
  @JvF⟩
set_option maxRecDepth 30000 in
theorem Ra : (∀ F new env sto g n x, rdO F (.load g n x) new ⟨env, sto⟩ = rb (evv x env) fun a => Jm ((J2q g n a).reads ⟨env, sto⟩)) ∧
  (∀ s g n b o, Jm ((J2q g n (.ptr b o)).reads s) = [b]) ∧
  (∀ s g n o cs, Jm ((J2q g n (.cp cs o)).reads s) = []) ∧
  (∀ s g n b e i o, Jm ((J2q g n (.ep b e i o)).reads s) = [b]) ∧
  (∀ F new s z, rdO F (.newbox z) new s = [new]) ∧
  (∀ F new env sto n x y, rdO F (.store n x y) new ⟨env, sto⟩ = rb (evv x env) fun a => rb (evv y env) fun c => Jm ((J20 n a c).reads ⟨env, sto⟩)) ∧
  (∀ s n b o v, Jm ((J20 n (.ptr b o) v).reads s) = [b]) ∧
  (∀ s n b e i o c, Jm ((J20 n (.ep b e i o) (.p c)).reads s) = [b]) ∧
  (∀ s n b e i o c, Jm ((J20 n (.ep b e i o) (.data c)).reads s) = [b]) ∧
  (∀ F new env sto g args, rdO F (.call g args 0) new ⟨env, sto⟩ = rb ((evs args).run ⟨env, sto⟩) fun a => Jm ((JT a).reads ⟨env, sto⟩) ++ rb ((JT a).run ⟨env, sto⟩) fun a => Jm ((Jq F g a 0 new).reads ⟨env, sto⟩)) ∧
  (∀ F new env sto g args, rdO F (.call g args 1) new ⟨env, sto⟩ = new :: rb (is1 sto[new]?) fun _ => rb ((evs args).run ⟨env, sto⟩) fun a => Jm ((JT a).reads ⟨env, sto⟩) ++ rb ((JT a).run ⟨env, sto⟩) fun a => Jm ((Jq F g a 1 new).reads ⟨env, sto⟩)) ∧
  (is1 (some .dead) = some ()) ∧
  (∀ {α β : Type} (a : α) (f : α → List β), rb (some a) f = f a) ∧
  (∀ F new env sto g args, rdO F (.callv g args 0) new ⟨env, sto⟩ = rb (evv g env) fun u => cvl u fun h a1 c1 => rb ((evs args).run ⟨env, sto⟩) fun a => Jm ((JT (a1 ++ a ++ c1)).reads ⟨env, sto⟩) ++ rb ((JT (a1 ++ a ++ c1)).run ⟨env, sto⟩) fun a => Jm ((Jq F h a 0 new).reads ⟨env, sto⟩)) ∧
  (∀ {α : Type} (f : FuncId) (a c : List AV) (k : FuncId → List AV → List AV → List α), cvl (.fn f a c) k = k f a c) ∧
  (∀ s, Jm ((JT []).reads s) = []) ∧
  (∀ s c r, Jm ((JT (.p c :: r)).reads s) = Jm ((JT r).reads s)) ∧
  (∀ s c r, Jm ((JT (.data c :: r)).reads s) = Jm ((JT r).reads s)) ∧
  (∀ s b o r, Jm ((JT (.ptr b o :: r)).reads s) = Jm ((JT r).reads s)) ∧
  (∀ s c o r, Jm ((JT (.cp c o :: r)).reads s) = Jm ((JT r).reads s)) ∧
  (∀ s b x i o r, Jm ((JT (.ep b x i o :: r)).reads s) = Jm ((JT r).reads s)) ∧
  (∀ s b n r, Jm ((JT (.slr b 0 n :: r)).reads s) = b :: rb ((J8B (.slr b 0 n)).run s) fun _ => Jm ((JT r).reads s)) ∧
  (∀ F new s e n z ps, rdO F (.lits false e n z ps) new s = Jm ((fzs (ps.map (·.2))).reads s)) ∧
  (∀ F new env sto e n z ps, rdO F (.lits true e n z ps) new ⟨env, sto⟩ = new :: rb (is1 sto[new]?) fun _ => Jm ((fzs (ps.map (·.2))).reads ⟨env, sto⟩)) ∧
  (∀ s, Jm ((fzs []).reads s) = []) ∧
  (∀ env sto x r, Jm ((fzs (x :: r)).reads ⟨env, sto⟩) = rb (evv x env) fun v => Jm ((fz v).reads ⟨env, sto⟩) ++ rb ((fz v).run ⟨env, sto⟩) fun _ => Jm ((fzs r).reads ⟨env, sto⟩)) ∧
  (∀ s c, Jm ((fz (.p c)).reads s) = []) ∧
  (∀ s c, Jm ((fz (.data c)).reads s) = []) ∧
  (∀ s b n, Jm ((fz (.slr b 0 n)).reads s) = [b]) ∧
  (∀ F new env sto x, rdO F (.conv .toStr x) new ⟨env, sto⟩ = rb (evv x env) fun a => Jm ((J0y 1 a).reads ⟨env, sto⟩)) ∧
  (∀ s e b n, Jm ((J0y e (.slr b 0 n)).reads s) = [b]) ∧
  (∀ s e z rows, Jm ((J0y e (.p (.sl z rows))).reads s) = []) ∧
  (∀ F new env sto e x i, rdO F (.iaddr e x i) new ⟨env, sto⟩ = rb (evv x env) fun a => rb (evv i env) fun c => Jm ((J3q e a c).reads ⟨env, sto⟩)) ∧
  (∀ s e b n k i, Jm ((J3q e (.slr b 0 n) (.p (.i k i))).reads s) = [b]) ∧
  (∀ s e z rows k i, Jm ((J3q e (.p (.sl z rows)) (.p (.i k i))).reads s) = []) ∧
  (∀ a b c d, pkk (some (a, b)) (some (c, d)) = (J6m b c && J6m b d && J6m a d)) ∧
  (∀ b, J6m [] b = true) ∧
  (∀ x a b, J6m (x :: a) b = (!(b.contains x) && J6m a b)) ∧
  (∀ x, ([] : List Nat).contains x = false) ∧
  (∀ (x y : Nat) (l : List Nat), (y :: l).contains x = (x == y || l.contains x)) ∧
  (∀ a, (true && a) = a) ∧
  (∀ a, (false && a) = false) ∧
  (∀ a, (true || a) = true) ∧
  (∀ a, (false || a) = a) :=
  ⟨by intro F new env sto g n x; exact Jvm ..,
  by intro s g n b o; exact Jvh ..,
  by intro s g n o cs; exact JvM ..,
  by intro s g n b e i o; exact Jwr ..,
  by intro F new s z; exact Jrh ..,
  by intro F new env sto n x y; exact Jto ..,
  by intro s n b o v; exact JuB ..,
  by intro s n b e i o c; exact Ju4 ..,
  by intro s n b e i o c; exact JtR ..,
  by intro F new env sto g args; exact JtS ..,
  by intro F new env sto g args; exact Jtf ..,
  rfl,
  by intros; rfl,
  by intro F new env sto g args; exact Jse ..,
  by intros; rfl,
  by intros; rfl,
  by intro s c r; exact Jd4 s rfl r,
  by intro s c r; exact Jd4 s rfl r,
  by intro s b o r; exact Jd4 s rfl r,
  by intro s c o r; exact Jd4 s rfl r,
  by intro s b x i o r; exact Jd4 s rfl r,
  by intro s b n r; exact Jvy ..,
  by intro F new s e n z ps; exact JsT ..,
  by intro F new env sto e n z ps; exact Ju3 ..,
  by intros; rfl,
  by intro env sto x r; exact Jwk ..,
  by intros; rfl,
  by intros; rfl,
  by intro s b n; exact JgF ..,
  by intro F new env sto x; exact Jt0 ..,
  by intro s e b n; exact JrG ..,
  by intro s e z rows; exact Jsm ..,
  by intro F new env sto e x i; exact JsG ..,
  by intro s e b n k i; exact Jry ..,
  by intro s e z rows k i; exact JtP ..,
  by intros; rfl,
  by intros; rfl,
  by intro x a b; simp [J6m],
  by intros; rfl,
  by intro x y l; rw [List.contains_cons],
  by intro a; simp,
  by intro a; simp,
  by intro a; simp,
  by intro a; simp⟩
end Go.Am
end
