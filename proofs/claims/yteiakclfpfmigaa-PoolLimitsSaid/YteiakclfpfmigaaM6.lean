/-
  Parts of a proof: AmEv.
-/
import Derived.Test.YteiakclfpfmigaaM5
set_option linter.unusedSimpArgs false
set_option linter.unusedVariables false
section
namespace Go.Am
@[congr] theorem Jm7 {T : J2z} {f : AFn} {m : Nat} {k : List Fr} {o o' : Option Out} (h : o = o') : rk T f m k o = rk T f m k o' := by rw [h]
def tdn (e : AX) (o : Option St) : Option Out := match o with
  | some s => some (e, s)
  | none => none
def Jfz (fresh : Bool) (m : Nat) (vs : List AV) (sto : List Blk) (ids : List Nat) : Option Res :=
  if J2r ids = true then (fin.finL m ids sto vs).bind fun ws => (J1z m ids sto (sto.take m)).bind fun l => (J3C sto ids).bind fun q => (J1z m ids sto q).bind fun q => some (one ws, l ++ q) else none
def Jab (res : List J6Q) (fresh : Bool) (m : Nat) (s : St) : Option Res :=
  ((J30 res).run s).bind fun vs => if s.sto.length = m then some (one vs, s.sto) else Jfz fresh m vs s.sto (J0t m fresh s.sto (J3V s.sto (JJ.entsOfL vs []) (JJ.entsOfL vs [])))
theorem J9U (res : List J6Q) (fresh : Bool) (m : Nat) (s : St) : J22 ⟨0, 0, .skip, res, fresh⟩ m s = Jab res fresh m s := by
  unfold J22 Jab
  dsimp only
  cases (J30 res).run s with
  | none => rfl
  | some vs =>
    simp only [Option.bind_some]
    split
    · rfl
    · unfold Jfz
      split
      · generalize J0t m fresh s.sto _ = ids
        cases fin.finL m ids s.sto vs <;> cases J1z m ids s.sto (s.sto.take m) <;> cases J3C s.sto ids <;> try rfl
        rename_i q
        simp only [Option.bind_some]
        cases J1z m ids s.sto q <;> rfl
      · rfl
theorem Jk3 (T : J2z) (f : AFn) (m : Nat) (s : St) : rk T f m [] (some (.normal, s)) = Jab f.res f.fresh m s := (Jho T f m s).trans (J9U ..)
theorem Jhk (T : J2z) (f : AFn) (m : Nat) (s : St) : rk T f m [] (some (.ret, s)) = Jab f.res f.fresh m s := (JiG T f m s).trans (J9U ..)
def dds {α : Type} (n new : Nat) (sto : List Blk) (o : Option α) : Option α := match (J3n new n).run ⟨[], sto⟩ with
  | some _ => o
  | none => none
def dd1 {α : Type} (b : Option Blk) (o : Option α) : Option α := match b with
  | some .dead => o
  | _ => none
@[congr] theorem Jm2 {α : Type} {b b' : Option Blk} {o : Option α} (h : b = b') : dd1 b o = dd1 b' o := by rw [h]
theorem Jmb {α : Type} (new : Nat) (sto : List Blk) (o : Option α) : dds 1 new sto o = dd1 sto[new]? o := by
  unfold dds dd1
  simp only [J3n, RM.run]
  cases sto[new]? with
  | none => rfl
  | some b => cases b <;> rfl
section
variable {F : Orc} {r : List J0k} {new d : Nat} {env : List (Nat × AV)} {sto : List Blk}
theorem Jd8 (n : Nat) : ∀ new, (J3n new n).run ⟨env, sto⟩ = (J3n new n).run ⟨[], sto⟩ := by
  induction n with
  | zero => intro new; rfl
  | succ n ih =>
    intro new
    simp only [J3n, RM.run]
    cases sto[new]? with
    | none => rfl
    | some b => cases b <;> first | exact ih _ | rfl
def lgA (l : Option Log) (a b : List Nat) : Option Log := l.map (· ++ [(a, b)])
def rdO (F : Orc) (op : AOp) (new : Nat) (s : St) : List Nat := Jb ((opD F op new).reads s)
abbrev GR := Option (St × Option Log)
def Jg (F : Orc) : List J0k → Nat → St → Option Log → GR
  | [], _, s, l => some (s, l)
  | i :: r, new, s, l => match (J0H F i new).run s with
    | some e => Jg F r (new + Ju i.op) (put i.dst e s) (lgA l (Jb ((J0H F i new).reads s)) (e.ws.map (·.1)))
    | none => none
theorem JgK (F : Orc) (ins : List J0k) : ∀ new s, Jg F ins new s none = (J18 F ins new s).map fun s => (s, none) := by
  induction ins with
  | nil => intro new s; rfl
  | cons i r ih =>
    intro new s
    simp only [Jg, J18]
    cases (J0H F i new).run s with
    | none => rfl
    | some e => exact ih _ _
theorem Jhd (F : Orc) (ins : List J0k) : ∀ new s l, Jg F ins new s (some l) = (J2q F ins new s l).map fun x => (x.1, some x.2) := by
  induction ins with
  | nil => intro new s l; rfl
  | cons i r ih =>
    intro new s l
    simp only [Jg, J2q]
    cases (J0H F i new).run s with
    | none => rfl
    | some e => exact ih _ _ _
def Ji6 (o : GR) : Option Out := match o with
  | some (s, _) => some (.normal, s)
  | none => none
def JfH (ps : List (Nat × Nat)) (o : GR) : Option Out := match o with
  | some (s, some l) => if J4V l ps = true then some (.normal, s) else none
  | _ => none
theorem Jkd (T : J2z) (f : AFn) (m : Nat) (k : List Fr) (d ins env sto) : rk T f m k (X T (.reg d [] ins) ⟨env, sto⟩) = rk T f m k (Ji6 (Jg (AF T) ins sto.length ⟨env, room (news ins) sto⟩ none)) := by
  rw [Jkr, JgK]
  cases J18 (AF T) ins sto.length ⟨env, room (news ins) sto⟩ <;> rfl
theorem Jkh (T : J2z) (f : AFn) (m : Nat) (k : List Fr) (d p ps ins env sto) : rk T f m k (X T (.reg d (p :: ps) ins) ⟨env, sto⟩) = rk T f m k (JfH (p :: ps) (Jg (AF T) ins sto.length ⟨env, room (news ins) sto⟩ (some []))) := by
  rw [JiU, Jhd]
  simp only [region]
  cases J2q (AF T) ins sto.length ⟨env, room (news ins) sto⟩ [] with
  | none => rfl
  | some x =>
    obtain ⟨s, l⟩ := x
    simp only [Option.map_some, JfH]
    split <;> rfl
theorem stD {lg : Option Log} (op : AOp) : Jg F (⟨op, some d, none⟩ :: r) new ⟨env, sto⟩ lg = dds (Ju op) new sto (((opR F op new).run ⟨env, sto⟩).bind fun e => Jg F r (new + Ju op) ⟨(d, e.val) :: env, upd e.ws sto⟩ (lgA lg (rdO F op new ⟨env, sto⟩) (e.ws.map (·.1)))) := by
  have e0 : (J0H F ⟨op, some d, none⟩ new).run ⟨env, sto⟩ = dds (Ju op) new sto ((opR F op new).run ⟨env, sto⟩) := by
    simp only [J0H, opD, run_bind, Jd8 (env := env)]
    unfold dds
    cases (J3n new (Ju op)).run ⟨[], sto⟩ <;> rfl
  simp only [Jg, e0]
  unfold dds
  cases (J3n new (Ju op)).run ⟨[], sto⟩ with
  | none => rfl
  | some u => simp only []; cases (opR F op new).run ⟨env, sto⟩ <;> rfl
theorem Jdk {lg : Option Log} (op : AOp) : Jg F (⟨op, none, none⟩ :: r) new ⟨env, sto⟩ lg = dds (Ju op) new sto (((opR F op new).run ⟨env, sto⟩).bind fun e => Jg F r (new + Ju op) ⟨env, upd e.ws sto⟩ (lgA lg (rdO F op new ⟨env, sto⟩) (e.ws.map (·.1)))) := by
  have e0 : (J0H F ⟨op, none, none⟩ new).run ⟨env, sto⟩ = dds (Ju op) new sto ((opR F op new).run ⟨env, sto⟩) := by
    simp only [J0H, opD, run_bind, Jd8 (env := env)]
    unfold dds
    cases (J3n new (Ju op)).run ⟨[], sto⟩ <;> rfl
  simp only [Jg, e0]
  unfold dds
  cases (J3n new (Ju op)).run ⟨[], sto⟩ with
  | none => rfl
  | some u => simp only []; cases (opR F op new).run ⟨env, sto⟩ <;> rfl
theorem st0 {lg : Option Log} {op : AOp} (h : Ju op = 0) : Jg F (⟨op, some d, none⟩ :: r) new ⟨env, sto⟩ lg = ((opR F op new).run ⟨env, sto⟩).bind fun e => Jg F r new ⟨(d, e.val) :: env, upd e.ws sto⟩ (lgA lg (rdO F op new ⟨env, sto⟩) (e.ws.map (·.1))) := by
  rw [stD, h]; rfl
theorem Jmj {lg : Option Log} {op : AOp} (h : Ju op = 0) : Jg F (⟨op, none, none⟩ :: r) new ⟨env, sto⟩ lg = ((opR F op new).run ⟨env, sto⟩).bind fun e => Jg F r new ⟨env, upd e.ws sto⟩ (lgA lg (rdO F op new ⟨env, sto⟩) (e.ws.map (·.1))) := by
  rw [Jdk, h]; rfl
def pk (u : AV) (a b : Option AV) : Option AV := match u with
  | .p (.b x) => if x = true then a else b
  | _ => none
@[congr] theorem Jm0 {α : Type} {n n' new new' : Nat} {sto : List Blk} {o : Option α} (h : n = n') (h' : new = new') : dds n new sto o = dds n' new' sto o := by rw [h, h']
theorem J0C {α : Type} (n new : Nat) (sto : List Blk) : dds n new sto (none : Option α) = none := by
  unfold dds; split <;> rfl
theorem Jis {α β : Type} (n new : Nat) (sto : List Blk) (o : Option α) (g : α → Option β) : dds n new sto (o.bind g) = o.bind fun a => dds n new sto (g a) := by
  cases o with
  | none => exact J0C ..
  | some a => rfl
theorem JkI {β : Type} {K : Eff → Option β} {o : Option AV} : ((o.bind fun v => some ⟨v, []⟩).bind K) = o.bind fun v => K ⟨v, []⟩ := by cases o <;> rfl
def pkk (a b : Option (List Nat × List Nat)) : Bool := match a, b with
  | some a, some b => J2K a.2 b.1 && J2K a.2 b.2 && J2K a.1 b.2
  | _, _ => false
theorem bi {α β : Type} {o : Option α} {f : α → Option β} {r : β} (h : Option.bind o f = some r) : ∃ x, o = some x ∧ f x = some r := Option.bind_eq_some_iff.1 h
theorem sj {α : Type} {a b : α} (h : some a = some b) : a = b := Option.some.inj h
theorem mi {α β : Type} {o : Option α} {f : α → β} {r : β} (h : Option.map f o = some r) : ∃ x, o = some x ∧ f x = r := Option.map_eq_some_iff.1 h
inductive Dum {α : Type} : α → Type where
  | mk (a : α) : Dum a
def J40 {α : Type} (a : α) (_ : Dum a) : α := a
def pkh {β : Type} (u : AV) (a b : Option AV) (K : AV → Option β) : Option β := (pk u a b).bind K
theorem JiB {β : Type} {K : Eff → Option β} {a b : Opd} {o : Option AV} : ((o.bind fun u => RM.run (match u with
    | .p (.b x) => if x = true then (ev a).bind fun v => .ret ⟨v, []⟩ else (ev b).bind fun v => .ret ⟨v, []⟩
    | _ => .fail) ⟨env, sto⟩).bind K) = o.bind fun u => (pk u (evv a env) (evv b env)).bind fun v => K ⟨v, []⟩ := by
  cases o with
  | none => rfl
  | some u =>
    simp only [Option.bind_some]
    cases u with
    | p c =>
      cases c with
      | b x =>
        cases x with
        | true => simp only [if_true, run_bind, J06, pk]; cases evv a env <;> rfl
        | false => simp only [Bool.false_eq_true, if_false, run_bind, J06, pk]; cases evv b env <;> rfl
      | _ => rfl
    | _ => rfl
theorem J7m {β : Type} {K : Eff → Option β} {o : Option AV} (g : AV → Option AV) : ((o.bind fun a => (Go.Am.val (g a)).run ⟨env, sto⟩).bind K) = o.bind fun a => (g a).bind fun v => K ⟨v, []⟩ := by
  cases o with
  | none => rfl
  | some a => simp only [Option.bind_some]; cases g a <;> rfl
theorem Jbz {β : Type} {K : Eff → Option β} {o o' : Option AV} (g : AV → AV → Option AV) : ((o.bind fun a => o'.bind fun c => (Go.Am.val (g a c)).run ⟨env, sto⟩).bind K) = o.bind fun a => o'.bind fun c => (g a c).bind fun v => K ⟨v, []⟩ := by
  cases o with
  | none => rfl
  | some a =>
    cases o' with
    | none => rfl
    | some c => simp only [Option.bind_some]; cases g a c <;> rfl
theorem Je0 {β : Type} {o : Option AV} (g : AV → Option Eff) {k : Eff → Option β} : ((o.bind fun a => g a).bind k) = o.bind fun a => (g a).bind k := by
  cases o <;> rfl
theorem Jh7 {β : Type} {o o' : Option AV} {e b : Nat} {z : List PV} {s : St} {k : Eff → Option β} : ((o.bind fun a => o'.bind fun c => RM.run (match zrs e z c with
    | some c1 => J5g e b a c1
    | none => .fail) s).bind k) = o.bind fun a => o'.bind fun c => (zrs e z c).bind fun c1 => ((J5g e b a c1).run s).bind k := by
  cases o with
  | none => rfl
  | some a => cases o' with
    | none => rfl
    | some c =>
      simp only [Option.bind_some]
      cases zrs e z c <;> rfl
theorem Ja3 {β : Type} {o o' : Option AV} (g : AV → AV → Option Eff) {k : Eff → Option β} : ((o.bind fun a => o'.bind fun c => g a c).bind k) = o.bind fun a => o'.bind fun c => (g a c).bind k := by
  cases o <;> cases o' <;> rfl
def Jc1 (a c : AV) : Option AV := match a, c with
  | .p (.s l), .p (.i _ n) => if 0 ≤ n then
      match l[n.toNat]? with
      | some u => some (.p (.i .u8 u.toNat))
      | none => none
    else none
  | _, _ => none
theorem Jj7 {β : Type} {K : Eff → Option β} {o o' : Option AV} : ((o.bind fun a => o'.bind fun c => RM.run (match a, c with
    | .p (.s l), .p (.i _ n) => if 0 ≤ n then
        match l[n.toNat]? with
        | some u => .ret ⟨.p (.i .u8 u.toNat), []⟩
        | none => .fail
      else .fail
    | _, _ => .fail) ⟨env, sto⟩).bind K) = o.bind fun a => o'.bind fun c => (Jc1 a c).bind fun v => K ⟨v, []⟩ := by
  cases o with
  | none => rfl
  | some a =>
    cases o' with
    | none => rfl
    | some c =>
      simp only [Option.bind_some, Jc1]
      split
      · split
        · split <;> rfl
        · rfl
      · rfl
theorem Jlh (l : List UInt8) (k : IntKind) (n : Int) : Jc1 (.p (.s l)) (.p (.i k n)) = (JbA l n).map fun v => .p (.i .u8 v) := by
  simp only [Jc1, JbA]
  by_cases h : 0 ≤ n
  · simp only [if_pos h]; cases l[n.toNat]? <;> rfl
  · simp only [if_neg h]; rfl
def Jal (g : Bool) (n e : Nat) (a c : AV) : Option AV := match c with
  | .p (.i _ i) => if 0 ≤ i ∧ i < n then J2B g (i.toNat * e) e a else none
  | _ => none
theorem Jkg {β : Type} {K : Eff → Option β} {g : Bool} {n e : Nat} {o o' : Option AV} : ((o.bind fun a => o'.bind fun c => RM.run (match c with
    | .p (.i _ i) => if 0 ≤ i ∧ i < n then Go.Am.val (J2B g (i.toNat * e) e a) else .fail
    | _ => .fail) ⟨env, sto⟩).bind K) = o.bind fun a => o'.bind fun c => (Jal g n e a c).bind fun v => K ⟨v, []⟩ := by
  cases o with
  | none => rfl
  | some a =>
    cases o' with
    | none => rfl
    | some c =>
      simp only [Option.bind_some, Jal]
      split
      · split
        · cases J2B g _ e a <;> rfl
        · rfl
      · rfl
theorem Jlc (g : Bool) (n e : Nat) (cs : List PV) (k : IntKind) (i : Int) : Jal g n e (.data cs) (.p (.i k i)) = if 0 ≤ i ∧ i < n then (sub cs (i.toNat * e) e).bind (J0K g) else none := by
  simp only [Jal, J2B]
  split
  · cases sub cs (i.toNat * e) e <;> rfl
  · rfl
def Je2 : AV → Option AV
  | .ptr b o => some (.ptr b o)
  | .cp cs o => some (.cp cs o)
  | .ep b e i o => some (.ep b e i o)
  | .fn f u c => some (.fn f u c)
  | _ => none
theorem Jjk {β : Type} {K : Eff → Option β} {o : Option AV} : ((o.bind fun a => RM.run (match a with
    | .ptr b o => .ret ⟨.ptr b o, []⟩
    | .cp cs o => .ret ⟨.cp cs o, []⟩
    | .ep b e i o => .ret ⟨.ep b e i o, []⟩
    | .fn f u c => .ret ⟨.fn f u c, []⟩
    | _ => .fail) ⟨env, sto⟩).bind K) = o.bind fun a => (Je2 a).bind fun v => K ⟨v, []⟩ := by
  cases o with
  | none => rfl
  | some a => cases a <;> rfl
def cvR (k : CK) (a : AV) (new : Nat) : RM Eff := match k, a with
  | .int k, .p (.i _ n) => .ret ⟨.p (.i k (k.wrap n)), []⟩
  | .same, .p (.s l) => .ret ⟨.p (.s l), []⟩
  | .toStr, a => (JU 1 a).bind fun rows => match J2Q rows with
    | some l => .ret ⟨.p (.s l), []⟩
    | none => .fail
  | .toBytes own, .p (.s l) => if own then .ret ⟨.slr new 0 l.length, [(new, .arr true 1 (l.map J1W))]⟩ else .ret ⟨.p (.sl 1 (l.map J1W)), []⟩
  | _, _ => .fail
theorem JhI {lg : Option Log} {c : CK} {x : Opd} : Jg F (⟨.conv c x, some d, none⟩ :: r) new ⟨env, sto⟩ lg = (evv x env).bind fun a => dds (Ju (.conv c x)) new sto (((cvR c a new).run ⟨env, sto⟩).bind fun e => Jg F r (new + Ju (.conv c x)) ⟨(d, e.val) :: env, upd e.ws sto⟩ (lgA lg (rdO F (.conv c x) new ⟨env, sto⟩) (e.ws.map (·.1)))) := by
  rw [stD]
  have : (opR F (.conv c x) new).run ⟨env, sto⟩ = (evv x env).bind fun a => (cvR c a new).run ⟨env, sto⟩ := by
    simp only [opR, run_bind, J06]; rfl
  rw [this, Je0 (fun a => (cvR c a new).run ⟨env, sto⟩), Jis]
theorem Jge {lg : Option Log} {z : List PV} {ps : List (Nat × Nat × Opd)} : Jg F (⟨.build z ps, some d, none⟩ :: r) new ⟨env, sto⟩ lg = ((J13 ps).run ⟨env, sto⟩).bind fun l => (J0r l (z.map .p)).bind fun cs => (J0D true cs).bind fun v => Jg F r new ⟨(d, v) :: env, sto⟩ (lgA lg (rdO F (.build z ps) new ⟨env, sto⟩) []) := by
  rw [st0 (h := rfl)]
  simp only [opR, run_bind]
  cases (J13 ps).run ⟨env, sto⟩ with
  | none => rfl
  | some l =>
    simp only [Option.bind_some]
    cases J0r l (z.map .p) with
    | none => rfl
    | some cs => simp only [Option.bind_some]; cases J0D true cs <;> rfl
def J4Z (x : Option Opd) (env : List (Nat × AV)) : Option (Option AV) := match x with
  | none => some none
  | some x => (evv x env).map some
theorem Jjw (x : Option Opd) : (evo x).run ⟨env, sto⟩ = J4Z x env := by
  cases x with
  | none => rfl
  | some x => simp only [evo, run_bind, J06, J4Z]; cases evv x env <;> rfl
def slR (s : SK) (a : AV) (lo hi mx : Option AV) : RM Eff := match a with
  | .slr b i n => (fz (.slr b i n)).bind fun y => match y.1 with
    | [c] => match J2l s (.p c) lo hi mx with
      | some v => .ret ⟨v, y.2⟩
      | none => .fail
    | _ => .fail
  | a => Go.Am.val (J2l s a lo hi mx)
theorem JgM {lg : Option Log} {s : SK} {x : Opd} {lo hi mx : Option Opd} : Jg F (⟨.slice s x lo hi mx, some d, none⟩ :: r) new ⟨env, sto⟩ lg = (evv x env).bind fun a => (J4Z lo env).bind fun lo1 => (J4Z hi env).bind fun hi1 => (J4Z mx env).bind fun mx1 => ((slR s a lo1 hi1 mx1).run ⟨env, sto⟩).bind fun e => Jg F r new ⟨(d, e.val) :: env, upd e.ws sto⟩ (lgA lg (rdO F (.slice s x lo hi mx) new ⟨env, sto⟩) (e.ws.map (·.1))) := by
  rw [st0 (h := rfl)]
  have : (opR F (.slice s x lo hi mx) new).run ⟨env, sto⟩ = (evv x env).bind fun a => (J4Z lo env).bind fun lo => (J4Z hi env).bind fun hi => (J4Z mx env).bind fun mx => (slR s a lo hi mx).run ⟨env, sto⟩ := by
    simp only [opR, run_bind, J06, Jjw]; rfl
  rw [this]
  cases evv x env with
  | none => rfl
  | some a =>
    cases J4Z lo env with
    | none => rfl
    | some lo =>
      cases J4Z hi env with
      | none => rfl
      | some hi => cases J4Z mx env <;> rfl
def slX (s : SK) (x : AV) (lo hi : Option AV) : Option AV := J2l s x lo hi none
theorem JfP {lg : Option Log} {z : List PV} : Jg F (⟨.newbox z, some d, none⟩ :: r) new ⟨env, sto⟩ lg = dds 1 new sto (Jg F r (new + 1) ⟨(d, .ptr new 0) :: env, sto.set new (.box (z.map .p))⟩ (lgA lg (rdO F (.newbox z) new ⟨env, sto⟩) [new])) := by
  rw [stD]; rfl
def Ja4 (e b : Nat) (a : AV) (add : List (List PV)) : Option (List (List PV)) := match a with
  | .p (.slc e' rows) => if e = e' ∧ 0 < add.length ∧ J4P (rows.length + add.length) b = true then some (rows ++ add) else none
  | _ => none
theorem JiK {lg : Option Log} {e b : Nat} {z : List PV} {x y : Opd} : Jg F (⟨.appc e b z x y, some d, none⟩ :: r) new ⟨env, sto⟩ lg = (evv x env).bind fun a => (evv y env).bind fun c => ((JU e c).run ⟨env, sto⟩).bind fun add => (Ja4 e b a add).bind fun rows => dds 1 new sto (Jg F r (new + 1) ⟨(d, .slr new 0 rows.length) :: env, sto.set new (.arr true e rows)⟩ (lgA lg (rdO F (.appc e b z x y) new ⟨env, sto⟩) [new])) := by
  rw [stD]
  simp only [opR, run_bind, J06, Ju]
  cases evv x env with
  | none => exact J0C ..
  | some a =>
    simp only [Option.bind_some]
    cases evv y env with
    | none => exact J0C ..
    | some c =>
      simp only [Option.bind_some]
      cases hq : (JU e c).run ⟨env, sto⟩ with
      | none =>
        have : (Ja9 e b a c new).run ⟨env, sto⟩ = none := by
          unfold Ja9; split
          · simp only [run_bind, hq]; rfl
          · rfl
        rw [this]; exact J0C ..
      | some add =>
        simp only [Option.bind_some]
        have : (Ja9 e b a c new).run ⟨env, sto⟩ = (Ja4 e b a add).map fun rows => ⟨.slr new 0 rows.length, [(new, .arr true e rows)]⟩ := by
          cases a with
          | p q => cases q with
            | slc e' rows =>
              simp only [Ja9, Ja4, run_bind, hq, Option.bind_some]
              split
              · simp [J0J]
              · rfl
            | _ => rfl
          | _ => rfl
        rw [this]
        cases Ja4 e b a add with
        | none => exact J0C ..
        | some rows => rfl
theorem Jjl {α : Type} (r : α → List PV) {e b : Nat} {l l' m : List α} (h : J9Z b l l' = some m) : Ja4 e b (.p (.slc e (l.map r))) (l'.map r) = some (m.map r) := by
  unfold J9Z at h
  split at h
  · rename_i hc
    injection h with h; subst h
    show (if e = e ∧ 0 < (l'.map r).length ∧ J4P ((l.map r).length + (l'.map r).length) b = true then some (l.map r ++ l'.map r) else none) = _
    rw [if_pos ⟨rfl, by simpa using hc.1, by rw [List.length_map, List.length_map]; exact hc.2⟩, List.map_append]
  · cases h
theorem Jkj {α : Type} (r : α → List PV) {e : Nat} (l : List α) (env : List (Nat × AV)) (sto : List Blk) : (slR (.sl e) (.p (.sl e (l.map r))) none (some (.p (.i .i64 ((l.length : Nat) : Int)))) (some (.p (.i .i64 ((l.length : Nat) : Int))))).run ⟨env, sto⟩ = some ⟨.p (.slc e (l.map r)), []⟩ := by
  simp [slR, J2l, JcY, Go.Am.val, RM.run]
theorem Jir {lg : Option Log} {e b : Nat} {z : List PV} {y : Opd} : Jg F (⟨.appn e b z y, some d, none⟩ :: r) new ⟨env, sto⟩ lg = (evv y env).bind fun c => ((JU e c).run ⟨env, sto⟩).bind fun rows => if J4P rows.length b = true then dds 1 new sto (Jg F r (new + 1) ⟨(d, .slr new 0 rows.length) :: env, sto.set new (.arr true e rows)⟩ (lgA lg (rdO F (.appn e b z y) new ⟨env, sto⟩) [new])) else none := by
  rw [stD]
  simp only [opR, run_bind, J06, Ju]
  cases evv y env with
  | none => exact J0C ..
  | some c =>
    simp only [Option.bind_some]
    cases (JU e c).run ⟨env, sto⟩ with
    | none => exact J0C ..
    | some rows =>
      simp only [Option.bind_some]
      split
      · rfl
      · exact J0C ..
theorem JgG {lg : Option Log} {e : Nat} {x : Opd} : Jg F (⟨.mkarr e x, some d, none⟩ :: r) new ⟨env, sto⟩ lg = dds 1 new sto (Jg F r (new + 1) ⟨(d, .slr new 0 0) :: env, sto.set new (.arr true e [])⟩ (lgA lg (rdO F (.mkarr e x) new ⟨env, sto⟩) [new])) := by
  rw [stD]; rfl
def bxP (n : Nat) (a : AV) : Option (List AV) := match cellsOf a with
  | some cs => if cs.length = n then some cs else none
  | none => none
theorem JjS {lg : Option Log} {n : Nat} {x : Opd} : Jg F (⟨.box n x, some d, none⟩ :: r) new ⟨env, sto⟩ lg = (evv x env).bind fun a => (bxP n a).bind fun cs => dds 1 new sto (Jg F r (new + 1) ⟨(d, .ptr new 0) :: env, sto.set new (.box cs)⟩ (lgA lg (rdO F (.box n x) new ⟨env, sto⟩) [new])) := by
  rw [stD]
  simp only [opR, run_bind, J06, Ju]
  cases evv x env with
  | none => exact J0C ..
  | some a =>
    simp only [Option.bind_some, bxP]
    cases cellsOf a with
    | none => exact J0C ..
    | some cs =>
      dsimp only
      split
      · rfl
      · exact J0C ..
def ltR (o : Bool) (e n : Nat) (z : List PV) (ps : List (Nat × Opd)) (new : Nat) : RM Eff := (fzs (ps.map (·.2))).bind fun a =>
    match J1S e ((ps.map (·.1)).zip a.1) (List.replicate n z) with
    | some rows => if o then .ret ⟨.slr new 0 n, a.2 ++ [(new, .arr true e rows)]⟩ else .ret ⟨.p (.sl e rows), a.2⟩
    | none => .fail
theorem JiP {lg : Option Log} {o : Bool} {e n : Nat} {z : List PV} {ps : List (Nat × Opd)} : Jg F (⟨.lits o e n z ps, some d, none⟩ :: r) new ⟨env, sto⟩ lg = dds (if o then 1 else 0) new sto (((ltR o e n z ps new).run ⟨env, sto⟩).bind fun x => Jg F r (new + if o then 1 else 0) ⟨(d, x.val) :: env, upd x.ws sto⟩ (lgA lg (rdO F (.lits o e n z ps) new ⟨env, sto⟩) (x.ws.map (·.1)))) := by
  rw [stD]; rfl
theorem Jlj (env : List (Nat × AV)) (sto : List Blk) (o : Bool) (e n new : Nat) (z : List PV) (ps : List (Nat × Opd)) : (ltR o e n z ps new).run ⟨env, sto⟩ = ((fzs (ps.map (·.2))).run ⟨env, sto⟩).bind fun a => (J1S e ((ps.map (·.1)).zip a.1) (List.replicate n z)).map fun rows => if o then ⟨.slr new 0 n, a.2 ++ [(new, .arr true e rows)]⟩ else ⟨.p (.sl e rows), a.2⟩ := by
  simp only [ltR, run_bind]
  cases (fzs (ps.map (·.2))).run ⟨env, sto⟩ with
  | none => rfl
  | some a =>
    simp only [Option.bind_some]
    cases J1S e ((ps.map (·.1)).zip a.1) (List.replicate n z) with
    | none => rfl
    | some rows => cases o <;> rfl
def mkP (o : Bool) (e b : Nat) (z : List PV) (a c : AV) (new : Nat) : Option Eff := match a, c with
  | .p (.i _ n), .p (.i _ m) =>
    if 0 ≤ n ∧ n ≤ m ∧ b * m ≤ 281474976710656 ∧ m ≤ 281474976710656 then
      some (if o then ⟨.slr new 0 n.toNat, [(new, .arr true e (List.replicate n.toNat z))]⟩ else ⟨.p (.sl e (List.replicate n.toNat z)), []⟩)
    else none
  | _, _ => none
theorem Jkx (o : Bool) (e b : Nat) (z : List PV) (a c : AV) (new : Nat) (s : St) : RM.run (match a, c with
    | .p (.i _ n), .p (.i _ m) =>
      if 0 ≤ n ∧ n ≤ m ∧ b * m ≤ 281474976710656 ∧ m ≤ 281474976710656 then
        if o then .ret ⟨.slr new 0 n.toNat, [(new, .arr true e (List.replicate n.toNat z))]⟩
        else .ret ⟨.p (.sl e (List.replicate n.toNat z)), []⟩
      else .fail
    | _, _ => .fail) s = mkP o e b z a c new := by
  unfold mkP
  split
  · rename_i k n k2 m
    by_cases h : 0 ≤ n ∧ n ≤ m ∧ b * m ≤ 281474976710656 ∧ m ≤ 281474976710656
    · simp only [if_pos h]; cases o <;> rfl
    · simp only [if_neg h]; rfl
  · rfl
theorem Jez {lg : Option Log} {o : Bool} {e b : Nat} {z : List PV} {l c : Opd} : Jg F (⟨.mkslice o e b z l c, some d, none⟩ :: r) new ⟨env, sto⟩ lg = (evv l env).bind fun a => (evv c env).bind fun x => dds (if o then 1 else 0) new sto ((mkP o e b z a x new).bind fun x => Jg F r (new + if o then 1 else 0) ⟨(d, x.val) :: env, upd x.ws sto⟩ (lgA lg (rdO F (.mkslice o e b z l c) new ⟨env, sto⟩) (x.ws.map (·.1)))) := by
  rw [stD]
  simp only [opR, run_bind, J06, Ju]
  cases evv l env with
  | none => exact J0C ..
  | some a =>
    cases evv c env with
    | none => exact J0C ..
    | some x =>
      simp only [Option.bind_some]
      exact congrArg (fun y => dds (if o then 1 else 0) new sto (y.bind fun x => Jg F r (new + if o then 1 else 0) ⟨(d, x.val) :: env, upd x.ws sto⟩ (lgA lg (rdO F (.mkslice o e b z l c) new ⟨env, sto⟩) (x.ws.map (·.1))))) (Jkx o e b z a x new ⟨env, sto⟩)
theorem Jfv {F : Orc} {f : FuncId} {args args' : List AV} {b e : Nat} {rows rows' : List (List PV)} {w w' : Bool} {v v' : AV} (he : JJ.entsOfL args [] = [.whole b]) (hr : ren.renL (fun x => J1G x [Ent.whole b] 0) args = some args')
    (hF : F f args' [.arr w e rows] = some (v, [.arr w' e rows'])) (hb : ∀ new, bk [.whole b] new v = some v') (ws : List (Nat × Blk)) (new : Nat) (s : St) (hB : (J4C ws b).run s = some (.arr w e rows)) :
    (J1u F f (args, ws) 0 new).run s = some ⟨v', ws ++ [(b, .arr w' e rows')]⟩ := by
  have e2 : (J4w ws [.whole b] [.whole b]).run s = some [.whole b] := by
    simp only [J4w, run_bind, hB, Option.bind_some, J0J]
  have e3 : (J2W ws (fun x => J1G x [Ent.whole b] 0) [Ent.whole b]).run s = some [.arr w e rows] := by
    simp only [J2W, run_bind, J7L, hB, Option.bind_some, J0J]
  have n1 : J2r ([Ent.whole b].map Ent.id) = true := rfl
  simp only [J1u, run_bind, he, e2, Option.bind_some, n1, if_true, hr, e3, hF]
  simp [hb, J24, J2t, J6H, J0J, run_bind]
def Jdh (b : Nat) (B : Option Blk) (l : List Nat) : List Nat := match B with
  | some (.box _) => b :: l
  | some (.arr _ _ _) => b :: l
  | _ => l
theorem JjZ (m b : Nat) (sto : List Blk) (r : List Ent) : J0t m true sto (.whole b :: r) = if b < m then J0t m true sto r else Jdh b sto[b]? (J0t m true sto r) := by
  simp only [J0t, Jdh]
  split
  · rfl
  · split <;> simp_all
theorem Jm4 {α : Type} (n new : Nat) (sto : List Blk) (o : Option α) : dds (n + 1) new sto o = dd1 sto[new]? (dds n (new + 1) sto o) := by
  unfold dds dd1
  simp only [J3n, RM.run]
  cases sto[new]? with
  | none => rfl
  | some b => cases b <;> rfl
theorem Jep {lg : Option Log} {z : List PV} {os : List (Nat × Nat)} : Jg F (⟨.newboxo z os, some d, none⟩ :: r) new ⟨env, sto⟩ lg =
    dds (os.length + 1) new sto (Jg F r (new + (os.length + 1)) ⟨(d, .ptr (new + os.length) 0) :: env, upd (J1m os new ++ [(new + os.length, .box (J3F os new (z.map .p)))]) sto⟩
      (lgA lg (rdO F (.newboxo z os) new ⟨env, sto⟩) ((J1m os new ++ [(new + os.length, Blk.box (J3F os new (z.map .p)))]).map (·.1)))) := by
  rw [stD]; rfl
theorem JfC {lg : Option Log} {e : Nat} {x : Opd} : Jg F (⟨.storen e x, none, none⟩ :: r) new ⟨env, sto⟩ lg =
    (evv x env).bind fun a => dds 1 new sto (((J0x 1 a (.slr new 0 0)).run ⟨env, sto⟩).bind fun q => Jg F r (new + 1) ⟨env, upd ((new, .arr true e []) :: q.ws) sto⟩ (lgA lg (rdO F (.storen e x) new ⟨env, sto⟩) (new :: q.ws.map (·.1)))) := by
  rw [Jdk]
  simp only [opR, run_bind, J06, Ju]
  cases evv x env with
  | none => exact J0C ..
  | some a => simp only [Option.bind_some]; cases (J0x 1 a (.slr new 0 0)).run ⟨env, sto⟩ <;> rfl
theorem Jg0 {lg : Option Log} {z : List PV} {ps : List (Nat × Nat × Opd)} {os : List (Nat × Nat)} : Jg F (⟨.buildo z ps os, some d, none⟩ :: r) new ⟨env, sto⟩ lg =
    ((J13 ps).run ⟨env, sto⟩).bind fun l => (J0r l (J3F os new (z.map .p))).bind fun cs => (J0D true cs).bind fun v =>
      dds os.length new sto (Jg F r (new + os.length) ⟨(d, v) :: env, upd (J1m os new) sto⟩ (lgA lg (rdO F (.buildo z ps os) new ⟨env, sto⟩) ((J1m os new).map (·.1)))) := by
  rw [stD]
  simp only [opR, run_bind, Ju]
  cases (J13 ps).run ⟨env, sto⟩ with
  | none => exact J0C ..
  | some l =>
    simp only [Option.bind_some]
    cases J0r l (J3F os new (z.map .p)) with
    | none => exact J0C ..
    | some cs =>
      simp only [Option.bind_some]
      cases J0D true cs with
      | none => exact J0C ..
      | some v => rfl
theorem Jgv {lg : Option Log} {g : FuncId} {kp : List Bool} {args : List Opd} {n : Nat} : Jg F (⟨.callo g kp args n, some d, none⟩ :: r) new ⟨env, sto⟩ lg = dds n new sto (((evs args).run ⟨env, sto⟩).bind fun a => ((J0Y kp a).run ⟨env, sto⟩).bind fun a => ((J1u F g a n new).run ⟨env, sto⟩).bind fun e => Jg F r (new + n) ⟨(d, e.val) :: env, upd e.ws sto⟩ (lgA lg (rdO F (.callo g kp args n) new ⟨env, sto⟩) (e.ws.map (·.1)))) := by
  rw [stD]
  simp only [opR, run_bind, Ju]
  cases (evs args).run ⟨env, sto⟩ with
  | none => rfl
  | some a => simp only [Option.bind_some]; cases (J0Y kp a).run ⟨env, sto⟩ <;> rfl
theorem Jg4 {lg : Option Log} {g : FuncId} {kp : List Bool} {args : List Opd} {n : Nat} : Jg F (⟨.callo g kp args n, none, none⟩ :: r) new ⟨env, sto⟩ lg = dds n new sto (((evs args).run ⟨env, sto⟩).bind fun a => ((J0Y kp a).run ⟨env, sto⟩).bind fun a => ((J1u F g a n new).run ⟨env, sto⟩).bind fun e => Jg F r (new + n) ⟨env, upd e.ws sto⟩ (lgA lg (rdO F (.callo g kp args n) new ⟨env, sto⟩) (e.ws.map (·.1)))) := by
  rw [Jdk]
  simp only [opR, run_bind, Ju]
  cases (evs args).run ⟨env, sto⟩ with
  | none => rfl
  | some a => simp only [Option.bind_some]; cases (J0Y kp a).run ⟨env, sto⟩ <;> rfl
theorem Jc4 : ∀ l : List AV, J0Y [] l = Jq l
  | [] => rfl
  | x :: r => by simp only [J0Y, Jq, Jc4 r]
theorem Jj3 (x : AV) (m : List Bool) (r : List AV) : (J0Y (false :: m) (x :: r)).run ⟨env, sto⟩ = ((Jq [x]).run ⟨env, sto⟩).bind fun a => ((J0Y m r).run ⟨env, sto⟩).bind fun c => some (a.1 ++ c.1, a.2 ++ c.2) := by
  simp only [J0Y, Jq, run_bind]
  cases (J42 x).run ⟨env, sto⟩ with
  | none => rfl
  | some a => simp only [Option.bind_some, RM.run]; cases (J0Y m r).run ⟨env, sto⟩ <;> simp
theorem JjG (x : AV) (m : List Bool) (r : List AV) : (J0Y (true :: m) (x :: r)).run ⟨env, sto⟩ = ((J0Y m r).run ⟨env, sto⟩).bind fun c => some (x :: c.1, c.2) := by
  simp only [J0Y, run_bind]
  cases (J0Y m r).run ⟨env, sto⟩ <;> rfl
theorem JiH {lg : Option Log} {g : FuncId} {args : List Opd} {n : Nat} : Jg F (⟨.call g args n, some d, none⟩ :: r) new ⟨env, sto⟩ lg = dds n new sto (((evs args).run ⟨env, sto⟩).bind fun a => ((Jq a).run ⟨env, sto⟩).bind fun a => ((Jx F g a n new).run ⟨env, sto⟩).bind fun e => Jg F r (new + n) ⟨(d, e.val) :: env, upd e.ws sto⟩ (lgA lg (rdO F (.call g args n) new ⟨env, sto⟩) (e.ws.map (·.1)))) := by
  rw [stD]
  simp only [opR, run_bind, Ju, J6y]
  cases (evs args).run ⟨env, sto⟩ with
  | none => rfl
  | some a => simp only [Option.bind_some]; cases (Jq a).run ⟨env, sto⟩ <;> rfl
theorem JgN {lg : Option Log} {g : FuncId} {args : List Opd} {n : Nat} : Jg F (⟨.call g args n, none, none⟩ :: r) new ⟨env, sto⟩ lg = dds n new sto (((evs args).run ⟨env, sto⟩).bind fun a => ((Jq a).run ⟨env, sto⟩).bind fun a => ((Jx F g a n new).run ⟨env, sto⟩).bind fun e => Jg F r (new + n) ⟨env, upd e.ws sto⟩ (lgA lg (rdO F (.call g args n) new ⟨env, sto⟩) (e.ws.map (·.1)))) := by
  rw [Jdk]
  simp only [opR, run_bind, Ju, J6y]
  cases (evs args).run ⟨env, sto⟩ with
  | none => rfl
  | some a => simp only [Option.bind_some]; cases (Jq a).run ⟨env, sto⟩ <;> rfl
def cvg {α : Type} (u : AV) (k : FuncId → List AV → List AV → Option α) : Option α := match u with
  | .fn f a c => k f a c
  | _ => none
theorem Ji0 {lg : Option Log} {g : FuncId} {a c : List Opd} : Jg F (⟨.mkfn g a c, some d, none⟩ :: r) new ⟨env, sto⟩ lg = ((evs a).run ⟨env, sto⟩).bind fun a1 => ((evs c).run ⟨env, sto⟩).bind fun c1 => Jg F r new ⟨(d, .fn g a1 c1) :: env, sto⟩ (lgA lg (rdO F (.mkfn g a c) new ⟨env, sto⟩) []) := by
  rw [st0 (h := rfl)]
  simp only [opR, run_bind]
  cases (evs a).run ⟨env, sto⟩ with
  | none => rfl
  | some a1 => simp only [Option.bind_some]; cases (evs c).run ⟨env, sto⟩ <;> rfl
theorem Jg7 {lg : Option Log} {g : Opd} {args : List Opd} {n : Nat} : Jg F (⟨.callv g args n, some d, none⟩ :: r) new ⟨env, sto⟩ lg = (evv g env).bind fun u => cvg u fun h a1 c1 => dds n new sto (((evs args).run ⟨env, sto⟩).bind fun a => ((Jq (a1 ++ a ++ c1)).run ⟨env, sto⟩).bind fun a => ((Jx F h a n new).run ⟨env, sto⟩).bind fun q => Jg F r (new + n) ⟨(d, q.val) :: env, upd q.ws sto⟩ (lgA lg (rdO F (.callv g args n) new ⟨env, sto⟩) (q.ws.map (·.1)))) := by
  rw [stD]
  simp only [opR, run_bind, J06, Ju]
  cases evv g env with
  | none => exact J0C ..
  | some u =>
    simp only [Option.bind_some]
    cases u with
    | fn h a1 c1 =>
      simp only [cvg, run_bind, J6y]
      cases (evs args).run ⟨env, sto⟩ with
      | none => rfl
      | some a => simp only [Option.bind_some]; cases (Jq (a1 ++ a ++ c1)).run ⟨env, sto⟩ <;> rfl
    | _ => exact J0C ..
theorem Jfs {lg : Option Log} {g : Opd} {args : List Opd} {n : Nat} : Jg F (⟨.callv g args n, none, none⟩ :: r) new ⟨env, sto⟩ lg = (evv g env).bind fun u => cvg u fun h a1 c1 => dds n new sto (((evs args).run ⟨env, sto⟩).bind fun a => ((Jq (a1 ++ a ++ c1)).run ⟨env, sto⟩).bind fun a => ((Jx F h a n new).run ⟨env, sto⟩).bind fun q => Jg F r (new + n) ⟨env, upd q.ws sto⟩ (lgA lg (rdO F (.callv g args n) new ⟨env, sto⟩) (q.ws.map (·.1)))) := by
  rw [Jdk]
  simp only [opR, run_bind, J06, Ju]
  cases evv g env with
  | none => exact J0C ..
  | some u =>
    simp only [Option.bind_some]
    cases u with
    | fn h a1 c1 =>
      simp only [cvg, run_bind, J6y]
      cases (evs args).run ⟨env, sto⟩ with
      | none => rfl
      | some a => simp only [Option.bind_some]; cases (Jq (a1 ++ a ++ c1)).run ⟨env, sto⟩ <;> rfl
    | _ => exact J0C ..
def grd {α : Type} (x : Option AV) (w : Bool) (a b : Option α) : Option α := match x with
  | some (.p (.b x)) => if x = w then a else b
  | some (.tup []) => b
  | _ => none
end
@[congr] theorem JlX {α : Type} {x x' : Option AV} {w : Bool} {a b : Option α} (h : x = x') : grd x w a b = grd x' w a b := by rw [h]
theorem JjA (F : Orc) (r : List J0k) (new : Nat) (env : List (Nat × AV)) (sto : List Blk) (lg : Option Log) (op : AOp) (d : Option Nat) (g : Nat) (w : Bool) :
    Jg F (⟨op, d, some (g, w)⟩ :: r) new ⟨env, sto⟩ lg = grd (lk g env) w (Jg F (⟨op, d, none⟩ :: r) new ⟨env, sto⟩ lg) (Jg F r (new + Ju op) (put d ⟨J0n, []⟩ ⟨env, sto⟩) (lgA lg [] [])) := by
  simp only [Jg, J0H, RM.run, RM.reads]
  cases lk g env with
  | none => rfl
  | some v =>
    dsimp only
    cases v with
    | p c =>
      cases c with
      | b x =>
        simp only [grd]
        by_cases h : x = w
        · subst h; simp only [if_true]; rfl
        · simp only [if_neg h]; rfl
      | _ => rfl
    | tup l => cases l <;> rfl
    | _ => rfl
def Jfp (k : Nat) (v : Option AV) (l : List (Nat × AV)) : List (Nat × AV) := match v with
  | some v => (k, v) :: l
  | none => l
def JdN (cs : List AV) (l : Option (List PV)) : AV := match l with
  | some l => .data l
  | none => .agg cs
def ldB (g : Bool) (n off : Nat) (B : Blk) : Option Eff := match B with
  | .box cs => (sub cs off n).bind fun l => (J0D g l).map fun v => ⟨v, []⟩
  | _ => none
def ldE (g : Bool) (n e i off : Nat) (B : Blk) : Option Eff := match B with
  | .arr _ _ rows => if e = rows.length then rows[i]?.bind fun row => (sub row off n).bind fun l => (J0K g l).map fun v => ⟨v, []⟩ else none
  | _ => none
theorem Jjg (env : List (Nat × AV)) (sto : List Blk) (g : Bool) (n : Nat) (cs : List PV) (off : Nat) : (J0O g n (.cp cs off)).run ⟨env, sto⟩ = (sub cs off n).bind fun l => (J0K g l).map fun v => ⟨v, []⟩ := by
  simp only [J0O]
  cases sub cs off n with
  | none => rfl
  | some l => simp only [Option.bind_some]; cases J0K g l <;> rfl
theorem Jkf (env : List (Nat × AV)) (sto : List Blk) (g : Bool) (n b off : Nat) : (J0O g n (.ptr b off)).run ⟨env, sto⟩ = sto[b]?.bind fun B => ldB g n off B := by
  simp only [J0O, J3E]
  cases sto[b]? with
  | none => rfl
  | some B =>
    cases B with
    | box cs =>
      simp only [Option.bind_some, ldB]
      cases sub cs off n with
      | none => rfl
      | some l => simp only [Option.bind_some]; cases J0D g l <;> rfl
    | _ => rfl
theorem JlG (g : Bool) (n off : Nat) (cs : List PV) : ldB g n off (.box (cs.map AV.p)) = (sub cs off n).bind fun l => (J0K g l).map fun v => ⟨v, []⟩ := by
  simp only [ldB, JhE]
  cases sub cs off n with
  | none => rfl
  | some l =>
    simp only [Option.map_some, Option.bind_some]
    cases g with
    | true => rw [J9I]; rfl
    | false => match l with
      | [] => rfl
      | [_] => rfl
      | _ :: _ :: _ => rfl
theorem JjW (env : List (Nat × AV)) (sto : List Blk) (g : Bool) (n b e i off : Nat) : (J0O g n (.ep b e i off)).run ⟨env, sto⟩ = sto[b]?.bind fun B => ldE g n e i off B := by
  simp only [J0O, J3E]
  cases sto[b]? with
  | none => rfl
  | some B =>
    cases B with
    | arr w z rows =>
      simp only [Option.bind_some, ldE]
      split
      · cases rows[i]? with
        | none => rfl
        | some row =>
          simp only [Option.bind_some]
          cases sub row off n with
          | none => rfl
          | some l => simp only [Option.bind_some]; cases J0K g l <;> rfl
      · rfl
    | _ => rfl
def stB (n b off : Nat) (l : List AV) (B : Blk) : Option Eff := match B with
  | .box cs => if l.length = n then (spl cs off l).map fun cs => ⟨J0n, [(b, .box cs)]⟩ else none
  | _ => none
theorem Jk4 (env : List (Nat × AV)) (sto : List Blk) (n b off : Nat) (v : AV) : (J0x n (.ptr b off) v).run ⟨env, sto⟩ = sto[b]?.bind fun B => (cellsOf v).bind fun l => stB n b off l B := by
  simp only [J0x, J3E]
  cases sto[b]? with
  | none => rfl
  | some B =>
    simp only [Option.bind_some]
    cases B with
    | box cs =>
      dsimp only
      cases cellsOf v with
      | none => rfl
      | some l =>
        simp only [Option.bind_some, stB]
        split
        · cases spl cs off l <;> rfl
        · rfl
    | dead => cases cellsOf v <;> rfl
    | arr w z rows => cases cellsOf v <;> rfl
theorem JiS (n b off : Nat) (cs vs : List PV) : stB n b off (vs.map AV.p) (.box (cs.map AV.p)) = if vs.length = n then (spl cs off vs).map fun cs => ⟨J0n, [(b, .box (cs.map AV.p))]⟩ else none := by
  simp only [stB, List.length_map, Je5]
  split
  · cases spl cs off vs <;> rfl
  · rfl
theorem JlI (b off : Nat) (cs : List PV) (v : PV) : stB 1 b off [AV.p v] (.box (cs.map AV.p)) = (spl cs off [v]).map fun cs => ⟨J0n, [(b, .box (cs.map AV.p))]⟩ := by
  have := JiS 1 b off cs [v]
  simpa using this
def stE (n b e i off : Nat) (v : AV) (B : Blk) (s : St) : Option Eff := match B with
  | .arr true z rows => if e = rows.length then
      match rows[i]? with
      | some row => ((fz v).run s).bind fun a =>
        if a.1.length = n ∧ (a.2.all fun y => y.1 != b) = true then
          match spl row off a.1 with
          | some row' => some ⟨J0n, a.2 ++ [(b, .arr true z (rows.set i row'))]⟩
          | none => none
        else none
      | none => none
    else none
  | _ => none
theorem JjK (env : List (Nat × AV)) (sto : List Blk) (n b e i off : Nat) (v : AV) : (J0x n (.ep b e i off) v).run ⟨env, sto⟩ = sto[b]?.bind fun B => stE n b e i off v B ⟨env, sto⟩ := by
  simp only [J0x, J3E]
  cases sto[b]? with
  | none => rfl
  | some B =>
    simp only [Option.bind_some]
    cases B with
    | arr w z rows =>
      cases w with
      | false => rfl
      | true =>
        simp only [stE]
        split
        · cases rows[i]? with
          | none => rfl
          | some row =>
            simp only [run_bind]
            cases (fz v).run ⟨env, sto⟩ with
            | none => rfl
            | some a =>
              simp only [Option.bind_some]
              split
              · cases spl row off a.1 <;> rfl
              · rfl
        · rfl
    | _ => rfl
theorem JlD (n b e i off z : Nat) (c : PV) (rows : List (List PV)) (s : St) : stE n b e i off (.p c) (.arr true z rows) s = if e = rows.length then rows[i]?.bind fun row => if 1 = n then (spl row off [c]).map fun row => ⟨J0n, [(b, .arr true z (rows.set i row))]⟩ else none else none := by
  simp only [stE, fz, J0J, Option.bind_some]
  split
  · cases rows[i]? with
    | none => rfl
    | some row =>
      simp only [Option.bind_some, List.length_cons, List.length_nil, List.all_nil, and_true]
      simp only [Nat.zero_add]
      split
      · cases spl row off [c] <;> rfl
      · rfl
  · rfl
theorem JlB (n b e i off z : Nat) (cs : List PV) (rows : List (List PV)) (s : St) : stE n b e i off (.data cs) (.arr true z rows) s = if e = rows.length then rows[i]?.bind fun row => if cs.length = n then (spl row off cs).map fun row => ⟨J0n, [(b, .arr true z (rows.set i row))]⟩ else none else none := by
  simp only [stE, fz, J0J, Option.bind_some]
  split
  · cases rows[i]? with
    | none => rfl
    | some row =>
      simp only [Option.bind_some, List.all_nil, and_true]
      split
      · cases spl row off cs <;> rfl
      · rfl
  · rfl
theorem JkK (n : Nat) (cs : List PV) : bxP n (.data cs) = if cs.length = n then some (cs.map AV.p) else none := by simp [bxP, cellsOf]
theorem Ji7 (env : List (Nat × AV)) (sto : List Blk) (e : Nat) (rows : List (List PV)) (k : IntKind) (n : Int) : (J1j e (.p (.sl e rows)) (.p (.i k n))).run ⟨env, sto⟩ = (J6j rows n).map fun row => ⟨.cp row 0, []⟩ := by
  simp only [J1j, if_true]
  cases J6j rows n <;> rfl
def iaB (e b m : Nat) (n : Int) (B : Blk) : Option Eff := match B with
  | .arr _ esz' rows => if e = esz' ∧ 0 + m = rows.length ∧ 0 ≤ n ∧ n < m then some ⟨.ep b rows.length (0 + n.toNat) 0, []⟩ else none
  | _ => none
theorem Jic (env : List (Nat × AV)) (sto : List Blk) (e b m : Nat) (k : IntKind) (n : Int) : (J1j e (.slr b 0 m) (.p (.i k n))).run ⟨env, sto⟩ = sto[b]?.bind fun B => iaB e b m n B := by
  simp only [J1j, J3E]
  cases sto[b]? with
  | none => rfl
  | some B =>
    cases B with
    | arr w z rows => simp only [Option.bind_some, iaB]; split <;> rfl
    | _ => rfl
theorem Jkk (e b m : Nat) (n : Int) (w : Bool) (rows : List (List PV)) : iaB e b m n (.arr w e rows) = if m = rows.length ∧ 0 ≤ n ∧ n < m then some ⟨.ep b rows.length n.toNat 0, []⟩ else none := by
  simp [iaB]
theorem JhL (env : List (Nat × AV)) (sto : List Blk) (l : List Int) (new : Nat) : (cvR .toStr (.p (.sl 1 (l.map (r_i .u8)))) new).run ⟨env, sto⟩ = some ⟨.p (.s (toStr l)), []⟩ := by
  simp only [cvR, JU, if_true, run_bind, J0J, Option.bind_some, J8b]
def cvB (n : Nat) (B : Blk) : Option Eff := match B with
  | .arr _ z rows => if 1 = z ∧ 0 + n = rows.length then
      match J2Q (rows.drop 0) with
      | some l => some ⟨.p (.s l), []⟩
      | none => none
    else none
  | _ => none
theorem Jid (env : List (Nat × AV)) (sto : List Blk) (b n new : Nat) : (cvR .toStr (.slr b 0 n) new).run ⟨env, sto⟩ = sto[b]?.bind fun B => cvB n B := by
  simp only [cvR, JU, run_bind, J3E]
  cases sto[b]? with
  | none => rfl
  | some B =>
    cases B with
    | arr w z rows =>
      simp only [Option.bind_some, cvB]
      split
      · simp only [J0J, Option.bind_some]; cases J2Q (rows.drop 0) <;> rfl
      · rfl
    | _ => rfl
theorem JjQ (n : Nat) (w : Bool) (l : List Int) : cvB n (.arr w 1 (l.map (r_i .u8))) = if n = l.length then some ⟨.p (.s (toStr l)), []⟩ else none := by
  simp only [cvB, List.drop_zero, J8b, List.length_map, Nat.zero_add, true_and]
theorem Jiv (env : List (Nat × AV)) (sto : List Blk) (l : List UInt8) (new : Nat) : (cvR (.toBytes false) (.p (.s l)) new).run ⟨env, sto⟩ = some ⟨.p (.sl 1 ((J5c l).map (r_i .u8))), []⟩ := by
  simp [cvR, Ja7]
theorem Jh5 (env : List (Nat × AV)) (sto : List Blk) (l : List UInt8) (new : Nat) : (cvR (.toBytes true) (.p (.s l)) new).run ⟨env, sto⟩ = some ⟨.slr new 0 (J5c l).length, [(new, .arr true 1 ((J5c l).map (r_i .u8)))]⟩ := by
  have : (J5c l).length = l.length := by simp [J5c]
  simp [cvR, Ja7, this]
theorem JkV (env : List (Nat × AV)) (sto : List Blk) (off size : Nat) (x : Opd) (r : List (Nat × Nat × Opd)) : (J13 ((off, size, x) :: r)).run ⟨env, sto⟩ = (evv x env).bind fun v => (cellsOf v).bind fun cs => ((J13 r).run ⟨env, sto⟩).bind fun l => some ((off, size, cs) :: l) := by
  simp only [J13, run_bind, J06]
  cases evv x env with
  | none => rfl
  | some v =>
    simp only [Option.bind_some]
    cases cellsOf v with
    | none => rfl
    | some cs => simp only [Option.bind_some, run_bind]; cases (J13 r).run ⟨env, sto⟩ <;> rfl
theorem Jdw (off size : Nat) (vs cs : List PV) (r : List (Nat × Nat × List AV)) : J0r ((off, size, vs.map AV.p) :: r) (cs.map AV.p) = if vs.length = size then (spl cs off vs).bind fun cs => J0r r (cs.map AV.p) else none := by
  simp only [J0r, List.length_map, Je5]
  split
  · cases spl cs off vs <;> rfl
  · rfl
theorem JhW (off : Nat) (v : PV) (cs : List PV) (r : List (Nat × Nat × List AV)) : J0r ((off, 1, [AV.p v]) :: r) (cs.map AV.p) = (spl cs off [v]).bind fun cs => J0r r (cs.map AV.p) := by
  have := Jdw off 1 [v] cs r
  simpa using this
theorem Jlf (env : List (Nat × AV)) (sto : List Blk) (x : Opd) (r : List Opd) : (evs (x :: r)).run ⟨env, sto⟩ = (evv x env).bind fun v => ((evs r).run ⟨env, sto⟩).bind fun vs => some (v :: vs) := by
  simp only [evs, run_bind, J06]; rfl
theorem J7l (env : List (Nat × AV)) (sto : List Blk) {v : AV} (h : J42 v = .ret (v, [])) (r : List AV) : (Jq (v :: r)).run ⟨env, sto⟩ = ((Jq r).run ⟨env, sto⟩).bind fun a => some (v :: a.1, a.2) := by
  simp only [Jq, h, run_bind, J0J, Option.bind_some, List.nil_append]
def frz (b n : Nat) (B : Blk) : Option (AV × (Nat × Blk)) := match B with
  | .arr _ z rows => if n = rows.length then some (.p (.sl z rows), (b, .arr false z rows)) else none
  | _ => none
def frp (b n : Nat) (B : Blk) : Option (PV × (Nat × Blk)) := match B with
  | .arr _ z rows => if n = rows.length then some (.sl z rows, (b, .arr false z rows)) else none
  | _ => none
theorem Je3 (env : List (Nat × AV)) (sto : List Blk) (b n : Nat) : (fz (.slr b 0 n)).run ⟨env, sto⟩ = sto[b]?.bind fun B => (frp b n B).bind fun x => some ([x.1], [x.2]) := by
  simp only [fz, J3E]
  cases sto[b]? with
  | none => rfl
  | some B =>
    cases B with
    | arr w z rows =>
      simp only [Option.bind_some, frp, Nat.zero_add, List.drop_zero]
      split <;> rfl
    | _ => rfl
theorem Jje (env : List (Nat × AV)) (sto : List Blk) (b n : Nat) : (fz.fz1 (.slr b 0 n)).run ⟨env, sto⟩ = sto[b]?.bind fun B => (frp b n B).bind fun x => some ([x.1], [x.2]) := by
  simp only [fz.fz1, J3E]
  cases sto[b]? with
  | none => rfl
  | some B =>
    cases B with
    | arr w z rows =>
      simp only [Option.bind_some, frp, Nat.zero_add, List.drop_zero]
      split <;> rfl
    | _ => rfl
theorem JhV (env : List (Nat × AV)) (sto : List Blk) (b n : Nat) (r : List AV) : (Jq (.slr b 0 n :: r)).run ⟨env, sto⟩ = sto[b]?.bind fun B => (frz b n B).bind fun x => ((Jq r).run ⟨env, sto⟩).bind fun a => some (x.1 :: a.1, x.2 :: a.2) := by
  simp only [Jq, J42, run_bind, Je3]
  cases sto[b]? with
  | none => rfl
  | some B =>
    cases B with
    | arr w z rows =>
      simp only [Option.bind_some, frp, frz]
      split
      · simp only [Option.bind_some, J0J]; cases (Jq r).run ⟨env, sto⟩ <;> rfl
      · rfl
    | _ => rfl
theorem Jif (env : List (Nat × AV)) (sto : List Blk) (cs : List AV) (r : List AV) : (Jq (.agg cs :: r)).run ⟨env, sto⟩ = ((fz.fzL cs).run ⟨env, sto⟩).bind fun x => ((Jq r).run ⟨env, sto⟩).bind fun a => some (.data x.1 :: a.1, x.2 ++ a.2) := by
  simp only [Jq, J42, run_bind, fz]
  cases (fz.fzL cs).run ⟨env, sto⟩ with
  | none => rfl
  | some x => simp only [Option.bind_some, J0J]
theorem Jhu (env : List (Nat × AV)) (sto : List Blk) (c : PV) (r : List AV) : (fz.fzL (.p c :: r)).run ⟨env, sto⟩ = ((fz.fzL r).run ⟨env, sto⟩).bind fun a => some (c :: a.1, a.2) := by
  simp only [fz.fzL, fz.fz1, run_bind, J0J, Option.bind_some]; rfl
theorem JhU (env : List (Nat × AV)) (sto : List Blk) (b n : Nat) (r : List AV) : (fz.fzL (.slr b 0 n :: r)).run ⟨env, sto⟩ = sto[b]?.bind fun B => (frp b n B).bind fun x => ((fz.fzL r).run ⟨env, sto⟩).bind fun a => some (x.1 :: a.1, x.2 :: a.2) := by
  simp only [fz.fzL, run_bind, Jje]
  cases sto[b]? with
  | none => rfl
  | some B =>
    simp only [Option.bind_some]
    cases frp b n B with
    | none => rfl
    | some x => simp only [Option.bind_some]; cases (fz.fzL r).run ⟨env, sto⟩ <;> rfl
theorem JkB (env : List (Nat × AV)) (sto : List Blk) (b : Nat) : (J4C [] b).run ⟨env, sto⟩ = sto[b]? := by
  simp only [J4C, J3E]
  cases sto[b]? <;> rfl
theorem JhR (env : List (Nat × AV)) (sto : List Blk) (e : Nat) (rows : List (List PV)) : (JU e (.p (.sl e rows))).run ⟨env, sto⟩ = some rows := by simp [JU]
theorem Jhm (env : List (Nat × AV)) (sto : List Blk) (l : List UInt8) : (JU 1 (.p (.s l))).run ⟨env, sto⟩ = some ((J5c l).map (r_i .u8)) := by simp [JU, Ja7]
def roB (e n : Nat) (B : Blk) : Option (List (List PV)) := match B with
  | .arr _ z rows => if e = z ∧ 0 + n = rows.length then some (rows.drop 0) else none
  | _ => none
theorem JhH (env : List (Nat × AV)) (sto : List Blk) (e b n : Nat) : (JU e (.slr b 0 n)).run ⟨env, sto⟩ = sto[b]?.bind fun B => roB e n B := by
  simp only [JU, J3E]
  cases sto[b]? with
  | none => rfl
  | some B =>
    cases B with
    | arr w z rows => simp only [Option.bind_some, roB]; split <;> rfl
    | _ => rfl
theorem JhP (e n : Nat) (w : Bool) (rows : List (List PV)) : roB e n (.arr w e rows) = if n = rows.length then some rows else none := by simp [roB]
theorem Jky (env : List (Nat × AV)) (sto : List Blk) (x : Opd) (r : List Opd) : (fzs (x :: r)).run ⟨env, sto⟩ = (evv x env).bind fun v => ((fz v).run ⟨env, sto⟩).bind fun a => ((fzs r).run ⟨env, sto⟩).bind fun c => some (a.1 :: c.1, a.2 ++ c.2) := by
  simp only [fzs, run_bind, J06]; rfl
theorem Jgl (env : List (Nat × AV)) (sto : List Blk) (b n : Nat) : (fz (.slr b 0 n)).run ⟨env, sto⟩ = sto[b]?.bind fun B => (frp b n B).bind fun x => some ([x.1], [x.2]) := Je3 ..
theorem JhY (env : List (Nat × AV)) (sto : List Blk) (s : SK) (c : PV) (lo hi : Option AV) : (slR s (.p c) lo hi none).run ⟨env, sto⟩ = (slX s (.p c) lo hi).map fun v => ⟨v, []⟩ := by
  simp only [slR, slX]
  cases J2l s (.p c) lo hi none <;> rfl
theorem Jim (env : List (Nat × AV)) (sto : List Blk) (s : SK) (b n : Nat) (lo hi : Option AV) : (slR s (.slr b 0 n) lo hi none).run ⟨env, sto⟩ = sto[b]?.bind fun B => (frz b n B).bind fun x => (slX s x.1 lo hi).map fun v => ⟨v, [x.2]⟩ := by
  simp only [slR, run_bind, Je3]
  cases sto[b]? with
  | none => rfl
  | some B =>
    cases B with
    | arr w z rows =>
      simp only [Option.bind_some, frp, frz]
      split
      · simp only [Option.bind_some, slX]; cases J2l s (.p (.sl z rows)) lo hi none <;> rfl
      · rfl
    | _ => rfl
theorem Jlk (n : Nat) (live : List Nat) (env : List (Nat × AV)) (sto : List Blk) : J2G n live ⟨env, sto⟩ = if sto.length = n then some ⟨restr live env, sto⟩ else (J4x n sto (restr live env)).bind fun e => (J1z n [] sto (sto.take n)).bind fun l => some ⟨e, l⟩ := by
  simp only [J2G]
  split
  · rfl
  · cases J4x n sto (restr live env) with
    | none => rfl
    | some e => cases J1z n [] sto (sto.take n) <;> rfl
theorem JkP (m k : Nat) (sto : List Blk) (x : AV) (r : List (Nat × AV)) : J4x m sto ((k, x) :: r) = (fin m [] sto x).bind fun y => (J4x m sto r).bind fun l => some ((k, y) :: l) := by
  simp only [J4x]
  cases fin m [] sto x with
  | none => rfl
  | some y => cases J4x m sto r <;> rfl
theorem JkJ (m : Nat) (ids : List Nat) (sto : List Blk) (x : Blk) (r : List Blk) : J1z m ids sto (x :: r) = (J21 m ids sto x).bind fun y => (J1z m ids sto r).bind fun l => some (y :: l) := by
  simp only [J1z]
  cases J21 m ids sto x with
  | none => rfl
  | some y => cases J1z m ids sto r <;> rfl
theorem Jk9 (m : Nat) (ids : List Nat) (sto : List Blk) (cs : List AV) : J21 m ids sto (.box cs) = (fin.finL m ids sto cs).map .box := by
  simp only [J21]
  cases fin.finL m ids sto cs <;> rfl
theorem Jlo (m : Nat) (ids : List Nat) (sto : List Blk) (x : AV) (r : List AV) : fin.finL m ids sto (x :: r) = (fin m ids sto x).bind fun y => (fin.finL m ids sto r).bind fun l => some (y :: l) := by
  simp only [fin.finL]
  cases fin m ids sto x with
  | none => rfl
  | some y => cases fin.finL m ids sto r <;> rfl
def fsl (k : Option Nat) (n : Nat) (B : Option Blk) : Option AV := match k with
  | some k => some (.slr k 0 n)
  | none => match B with
    | some (.arr _ z rows) => if n = rows.length then some (.p (.sl z rows)) else none
    | _ => none
theorem Jke (m : Nat) (ids : List Nat) (sto : List Blk) (b n : Nat) : fin m ids sto (.slr b 0 n) = if b < m then some (.slr b 0 n) else fsl (J4j b ids m) n sto[b]? := by
  simp only [fin]
  split
  · rfl
  · cases J4j b ids m with
    | some k => rfl
    | none =>
      simp only [fsl]
      cases sto[b]? with
      | none => rfl
      | some B => cases B <;> simp
theorem Jjr (m : Nat) (ids : List Nat) (sto : List Blk) (cs : List AV) : fin m ids sto (.agg cs) = (fin.finL m ids sto cs).bind fun l => some (JdN l (unp l)) := by
  simp only [fin]
  cases fin.finL m ids sto cs with
  | none => rfl
  | some l => simp only [Option.bind_some]; cases unp l <;> rfl
theorem Jjy (m : Nat) (ids : List Nat) (sto : List Blk) (x : AV) (cs : List AV) : fin m ids sto (.tup (x :: cs)) = (fin.finL m ids sto (x :: cs)).map .tup := by
  simp only [fin]
  cases fin.finL m ids sto (x :: cs) <;> rfl
theorem Jiw (env : List (Nat × AV)) (sto : List Blk) (t : Nat) (r : List J6Q) : (J30 (.tmp t :: r)).run ⟨env, sto⟩ = (lk t env).bind fun v => ((J30 r).run ⟨env, sto⟩).bind fun l => some (v :: l) := by
  simp only [J30, run_bind, JdV, J0J]
  cases lk t env <;> rfl
theorem JiM (env : List (Nat × AV)) (sto : List Blk) (t n : Nat) (g : Bool) (r : List J6Q) : (J30 (.cell t g n :: r)).run ⟨env, sto⟩ = (lk t env).bind fun v => ((J0O g n v).run ⟨env, sto⟩).bind fun e => ((J30 r).run ⟨env, sto⟩).bind fun l => some (e.val :: l) := by
  simp only [J30, run_bind, JdV, J0J]
  cases lk t env <;> rfl
def oid (b : Nat) (B : Option Blk) (l : List Nat) : List Nat := match B with
  | some (.box _) => b :: l
  | _ => l
theorem Jl7 (m b : Nat) (sto : List Blk) (r : List Ent) : J0t m false sto (.whole b :: r) = if b < m then J0t m false sto r else oid b sto[b]? (J0t m false sto r) := by
  simp only [J0t]
  split
  · rfl
  · unfold oid
    cases sto[b]? with
    | none => rfl
    | some B => cases B <;> simp
def ebb (B : Option Blk) (acc : List Ent) : List Ent := match B with
  | some (.box cs) => JJ.entsOfL cs acc
  | _ => acc
theorem Jlb (sto : List Blk) (b : Nat) (r : List Ent) (acc : List Ent) : J3V sto (.whole b :: r) acc = J3V sto r (ebb sto[b]? acc) := by
  simp only [J3V, ebb]
  cases sto[b]? with
  | none => rfl
  | some B => cases B <;> rfl
theorem JkC (b c : Nat) (r : List Ent) : J46 (.whole b) (.whole c :: r) = if c = b then .whole c :: r else .whole c :: J46 (.whole b) r := by
  simp only [J46, List.any_cons]
  by_cases h : c = b
  · subst h; simp
  · simp [h]
    split <;> simp_all
theorem Jl0 (sto : List Blk) (b : Nat) (r : List Nat) : J3C sto (b :: r) = sto[b]?.bind fun x => (J3C sto r).bind fun l => some (x :: l) := by
  simp only [J3C]
  cases sto[b]? with
  | none => rfl
  | some x => cases J3C sto r <;> rfl
theorem Jhc {α : Type} (a : α) (cs : List α) (n : Nat) : sub (a :: cs) 0 (n + 1) = (sub cs 0 n).map (a :: ·) := by
  rw [J3M, J3M]
  by_cases h : n ≤ cs.length
  · rw [if_pos (by simp; omega), if_pos (by omega)]; simp
  · rw [if_neg (by simp; omega), if_neg (by omega)]; rfl
theorem Jil {α : Type} (a : α) (cs : List α) (n m : Nat) : sub (a :: cs) (n + 1) m = sub cs n m := by
  rw [J3M, J3M]
  by_cases h : n + m ≤ cs.length
  · rw [if_pos (by simp; omega), if_pos h]; simp
  · rw [if_neg (by simp; omega), if_neg h]
theorem Jhs {α : Type} (a b : α) (cs vs : List α) : spl (a :: cs) 0 (b :: vs) = (spl cs 0 vs).map (b :: ·) := by
  rw [J4f, J4f]
  by_cases h : vs.length ≤ cs.length
  · rw [if_pos (by simp; omega), if_pos (by omega)]; simp
  · rw [if_neg (by simp; omega), if_neg (by omega)]; rfl
theorem JiE {α : Type} (a : α) (cs : List α) (n : Nat) (vs : List α) : spl (a :: cs) (n + 1) vs = (spl cs n vs).map (a :: ·) := by
  rw [J4f, J4f]
  by_cases h : n + vs.length ≤ cs.length
  · rw [if_pos (by simp; omega), if_pos h]
    rw [show n + 1 + vs.length = (n + vs.length) + 1 by omega]; simp
  · rw [if_neg (by simp; omega), if_neg h]; rfl
theorem Jht (off size : Nat) (c : List AV) (a : AV) (cs : List AV) (r : List (Nat × Nat × List AV)) : J0r ((off, size, c) :: r) (a :: cs) = if c.length = size then (spl (a :: cs) off c).bind fun cs => J0r r cs else none := by
  simp only [J0r]
  split
  · cases spl (a :: cs) off c <;> rfl
  · rfl
theorem Jk0 (m : Nat) (ids : List Nat) (sto : List Blk) (f : FuncId) (a c : List AV) : fin m ids sto (.fn f a c) = (fin.finL m ids sto a).bind fun a1 => (fin.finL m ids sto c).bind fun c1 => some (.fn f a1 c1) := by
  simp only [fin]
  cases fin.finL m ids sto a with
  | none => rfl
  | some a1 => cases fin.finL m ids sto c <;> rfl
def lwO (x y : Option Blk) : Option Blk := match x with
  | some x => some x
  | none => y
theorem Jl6 (b c : Nat) (x : Blk) (r : List (Nat × Blk)) : J14 b ((c, x) :: r) = lwO (J14 b r) (if c = b then some x else none) := by
  simp only [J14]
  cases J14 b r <;> rfl
theorem Jjz (env : List (Nat × AV)) (sto : List Blk) (b c : Nat) (x : Blk) (ws : List (Nat × Blk)) : (J4C ((c, x) :: ws) b).run ⟨env, sto⟩ = sto[b]?.bind fun y => some ((J14 b ((c, x) :: ws)).getD y) := by
  simp only [J4C, J3E]
  cases sto[b]? with
  | none => rfl
  | some y => simp only [Option.bind_some]; cases J14 b ((c, x) :: ws) <;> rfl
@[congr] theorem JlT {α : Type} {u u' : AV} {k : FuncId → List AV → List AV → Option α} (h : u = u') : cvg u k = cvg u' k := by rw [h]
theorem Jeb (x : Opd) (s : St) : Jb ((ev x).reads s) = [] := by
  cases x with
  | t n => simp only [ev, RM.reads]; cases lk n s.env <;> rfl
  | c v => rfl
theorem JfK (a b : List Loc) : Jb (a ++ b) = Jb a ++ Jb b := by
  induction a with
  | nil => rfl
  | cons x r ih => cases x <;> simp [Jb, ih]
def rb {α β : Type} (m : Option α) (f : α → List β) : List β := match m with
  | some a => f a
  | none => []
theorem J1p {α β : Type} (m : RM α) (f : α → RM β) (s : St) : Jb ((m.bind f).reads s) = Jb (m.reads s) ++ rb (m.run s) fun a => Jb ((f a).reads s) := by
  rw [J5G, JfK]
  cases m.run s <;> rfl
theorem J9d {β : Type} (x : Opd) (f : AV → RM β) (s : St) : Jb (((ev x).bind f).reads s) = rb (evv x s.env) fun a => Jb ((f a).reads s) := by
  rw [J1p, Jeb, J06]; rfl
theorem J8Q (o : Option AV) (s : St) : Jb ((Go.Am.val o).reads s) = [] := by cases o <;> rfl
section
variable (F : Orc) (new : Nat) (env : List (Nat × AV)) (sto : List Blk)
theorem J82 {op : AOp} (h : Ju op = 0) (s : St) : rdO F op new s = Jb ((opR F op new).reads s) := by
  unfold rdO opD
  rw [J1p, h]; rfl
def is1 (b : Option Blk) : Option Unit := match b with
  | some .dead => some ()
  | _ => none
theorem Jg3 {op : AOp} (h : Ju op = 1) (s : St) : rdO F op new s = new :: rb (is1 s.sto[new]?) fun _ => Jb ((opR F op new).reads s) := by
  unfold rdO opD
  rw [J1p, h]
  simp only [J3n, RM.reads, RM.run, Jb]
  cases s.sto[new]? with
  | none => rfl
  | some b => cases b <;> rfl
end
theorem Jl2 {α β : Type} (m : Option α) : (rb m fun _ => ([] : List β)) = [] := by cases m <;> rfl
theorem Jk8 (F : Orc) (new : Nat) (env : List (Nat × AV)) (sto : List Blk) (g : Bool) (n : Nat) (x : Opd) : rdO F (.load g n x) new ⟨env, sto⟩ = rb (evv x env) fun a => Jb ((J0O g n a).reads ⟨env, sto⟩) := by
  rw [J82 (h := rfl)]; exact J9d ..
theorem Jkb (s : St) (g : Bool) (n b o : Nat) : Jb ((J0O g n (.ptr b o)).reads s) = [b] := by
  simp only [J0O, RM.reads, Jb]
  cases s.sto[b]? with
  | none => rfl
  | some B =>
    cases B with
    | box cs => simp only []; cases sub cs o n with
      | none => rfl
      | some l => simp only [J8Q]
    | _ => rfl
theorem Jks (s : St) (g : Bool) (n o : Nat) (cs : List PV) : Jb ((J0O g n (.cp cs o)).reads s) = [] := by
  simp only [J0O]
  cases sub cs o n with
  | none => rfl
  | some l => exact J8Q ..
theorem Jll (s : St) (g : Bool) (n b e i o : Nat) : Jb ((J0O g n (.ep b e i o)).reads s) = [b] := by
  simp only [J0O, RM.reads, Jb]
  cases s.sto[b]? with
  | none => rfl
  | some B =>
    cases B with
    | arr w z rows =>
      simp only []
      split
      · cases rows[i]? with
        | none => rfl
        | some row =>
          simp only []
          cases sub row o n with
          | none => rfl
          | some l => simp only [J8Q]
      · rfl
    | _ => rfl
theorem Jhb (F : Orc) (new : Nat) (s : St) (z : List PV) : rdO F (.newbox z) new s = [new] := by
  rw [Jg3 (h := rfl)]; simp only [opR, RM.reads, Jb, Jl2]
theorem Jix (F : Orc) (new : Nat) (env : List (Nat × AV)) (sto : List Blk) (n : Nat) (x y : Opd) : rdO F (.store n x y) new ⟨env, sto⟩ = rb (evv x env) fun a => rb (evv y env) fun c => Jb ((J0x n a c).reads ⟨env, sto⟩) := by
  rw [J82 (h := rfl)]
  simp only [opR, J9d]
theorem Jj4 (s : St) (n b o : Nat) (v : AV) : Jb ((J0x n (.ptr b o) v).reads s) = [b] := by
  simp only [J0x, RM.reads, Jb]
  cases s.sto[b]? with
  | none => rfl
  | some B =>
    cases B with
    | box cs =>
      simp only []
      cases cellsOf v with
      | none => rfl
      | some l =>
        simp only []
        split
        · cases spl cs o l <;> rfl
        · rfl
    | _ => rfl
theorem Jgo (s : St) (n b e i o : Nat) {v : AV} {c : List PV} (hv : fz v = .ret (c, [])) : Jb ((J0x n (.ep b e i o) v).reads s) = [b] := by
  simp only [J0x, RM.reads, Jb]
  cases s.sto[b]? with
  | none => rfl
  | some B =>
    cases B with
    | arr w z rows =>
      cases w with
      | false => rfl
      | true =>
        simp only []
        split
        · cases rows[i]? with
          | none => rfl
          | some row =>
            simp only [hv, J1p, RM.reads, Jb, J0J, rb, List.nil_append]
            split
            · cases spl row o c <;> rfl
            · rfl
        · rfl
    | _ => rfl
theorem JhG (s : St) (n b e i o : Nat) (c : PV) : Jb ((J0x n (.ep b e i o) (.p c)).reads s) = [b] := Jgo s n b e i o rfl
theorem Jhp (s : St) (n b e i o : Nat) (c : List PV) : Jb ((J0x n (.ep b e i o) (.data c)).reads s) = [b] := Jgo s n b e i o rfl
theorem J90 (s : St) : ∀ args, Jb ((evs args).reads s) = []
  | [] => rfl
  | x :: r => by
    simp only [evs, J9d]
    cases evv x s.env with
    | none => rfl
    | some v =>
      simp only [rb, J1p, J90 s r, List.nil_append]
      cases (evs r).run s <;> rfl
theorem Jb6 (F : Orc) (g : FuncId) (args : List Opd) (n new : Nat) (s : St) : Jb ((opR F (.call g args n) new).reads s) = rb ((evs args).run s) fun a => Jb ((Jq a).reads s) ++ rb ((Jq a).run s) fun a => Jb ((Jx F g a n new).reads s) := by
  simp only [opR, J1p, J90, List.nil_append, J6y]
theorem JhD (F : Orc) (new : Nat) (s : St) (g : FuncId) (args : List Opd) : rdO F (.call g args 0) new s = rb ((evs args).run s) fun a => Jb ((Jq a).reads s) ++ rb ((Jq a).run s) fun a => Jb ((Jx F g a 0 new).reads s) := by
  rw [J82 (h := rfl)]; exact Jb6 ..
theorem Jhn (F : Orc) (new : Nat) (s : St) (g : FuncId) (args : List Opd) : rdO F (.call g args 1) new s = new :: rb (is1 s.sto[new]?) fun _ => rb ((evs args).run s) fun a => Jb ((Jq a).reads s) ++ rb ((Jq a).run s) fun a => Jb ((Jx F g a 1 new).reads s) := by
  rw [Jg3 (h := rfl)]; simp only [Jb6]
theorem J6J (s : St) {v : AV} (h : J42 v = .ret (v, [])) (r : List AV) : Jb ((Jq (v :: r)).reads s) = Jb ((Jq r).reads s) := by
  simp only [Jq, h, J1p, RM.reads, Jb, J0J, rb, List.nil_append]
  cases (Jq r).run s <;> simp [RM.reads, Jb]
theorem J8F (s : St) (b n : Nat) : Jb ((fz (.slr b 0 n)).reads s) = [b] := by
  simp only [fz, RM.reads, Jb]
  cases s.sto[b]? with
  | none => rfl
  | some B =>
    cases B with
    | arr w z rows => simp only []; split <;> rfl
    | _ => rfl
theorem JjB (s : St) (b n : Nat) (r : List AV) : Jb ((Jq (.slr b 0 n :: r)).reads s) = b :: rb ((J42 (.slr b 0 n)).run s) fun _ => Jb ((Jq r).reads s) := by
  have h1 : Jb ((J42 (.slr b 0 n)).reads s) = [b] := by
    simp only [J42, J1p, J8F]
    cases (fz (.slr b 0 n)).run s with
    | none => rfl
    | some a =>
      simp only [rb]
      match a.1 with
      | [] => rfl
      | [_] => rfl
      | _ :: _ :: _ => rfl
  simp only [Jq, J1p, h1]
  cases (J42 (.slr b 0 n)).run s with
  | none => rfl
  | some a => simp only [rb]; cases (Jq r).run s <;> simp [RM.reads, Jb]
theorem J0z {F : Orc} {f : FuncId} {args : List AV} (hp : args.all J2m = true) (ws : List (Nat × Blk)) (k new : Nat) (s : St) : Jb ((Jx F f (args, ws) k new).reads s) = [] := by
  have e1 : JJ.entsOfL args [] = [] := J4N hp
  simp only [Jx, e1, J4w, J1p, RM.reads, Jb, J0J, rb, List.nil_append, List.map_nil, J2r, if_true, J63 hp, J2W]
  cases F f args [] with
  | none => rfl
  | some r =>
    simp only []
    split
    · simp only [List.length_nil, List.drop_zero]
      cases bk [] new r.1 with
      | none => rfl
      | some v =>
        cases J24 [] new new r.2 with
        | none => rfl
        | some fr => simp only [J2t, J1p, RM.reads, Jb, J0J, rb, List.nil_append]
    · rfl
def cvl {α : Type} (u : AV) (k : FuncId → List AV → List AV → List α) : List α := match u with
  | .fn f a c => k f a c
  | _ => []
theorem Jga (F : Orc) (new : Nat) (env : List (Nat × AV)) (sto : List Blk) (g : Opd) (args : List Opd) : rdO F (.callv g args 0) new ⟨env, sto⟩ = rb (evv g env) fun u => cvl u fun h a1 c1 => rb ((evs args).run ⟨env, sto⟩) fun a => Jb ((Jq (a1 ++ a ++ c1)).reads ⟨env, sto⟩) ++ rb ((Jq (a1 ++ a ++ c1)).run ⟨env, sto⟩) fun a => Jb ((Jx F h a 0 new).reads ⟨env, sto⟩) := by
  rw [J82 (h := rfl)]
  simp only [opR, J1p, Jeb, J06, List.nil_append]
  cases evv g env with
  | none => rfl
  | some u =>
    simp only [rb]
    cases u <;> first | rfl | skip
    simp only [cvl, J1p, J90, List.nil_append]
    cases (evs args).run ⟨env, sto⟩ with
    | none => rfl
    | some a => simp only [rb, J6y, J1p]
theorem Jcl (s : St) (o : Bool) (e n new : Nat) (z : List PV) (ps : List (Nat × Opd)) : Jb ((ltR o e n z ps new).reads s) = Jb ((fzs (ps.map (·.2))).reads s) := by
  simp only [ltR, J1p]
  cases (fzs (ps.map (·.2))).run s with
  | none => simp [rb]
  | some a =>
    simp only [rb]
    cases J1S e ((ps.map (·.1)).zip a.1) (List.replicate n z) with
    | none => simp [RM.reads, Jb]
    | some rows => cases o <;> simp [RM.reads, Jb]
theorem Jib (F : Orc) (new : Nat) (s : St) (e n : Nat) (z : List PV) (ps : List (Nat × Opd)) : rdO F (.lits false e n z ps) new s = Jb ((fzs (ps.map (·.2))).reads s) := by
  rw [J82 (h := rfl)]; exact Jcl ..
theorem Ji5 (F : Orc) (new : Nat) (s : St) (e n : Nat) (z : List PV) (ps : List (Nat × Opd)) : rdO F (.lits true e n z ps) new s = new :: rb (is1 s.sto[new]?) fun _ => Jb ((fzs (ps.map (·.2))).reads s) := by
  rw [Jg3 (h := rfl)]
  congr 2; funext _
  exact Jcl ..
theorem JkH (s : St) (x : Opd) (r : List Opd) : Jb ((fzs (x :: r)).reads s) = rb (evv x s.env) fun v => Jb ((fz v).reads s) ++ rb ((fz v).run s) fun _ => Jb ((fzs r).reads s) := by
  have e0 : fzs (x :: r) = (ev x).bind fun v => (fz v).bind fun a => (fzs r).bind fun c => .ret (a.1 :: c.1, a.2 ++ c.2) := rfl
  rw [e0, J9d]
  cases evv x s.env with
  | none => rfl
  | some v =>
    dsimp only [rb]
    rw [J1p]
    cases (fz v).run s with
    | none => rfl
    | some a =>
      dsimp only [rb]
      rw [J1p]
      cases (fzs r).run s <;> simp [rb, RM.reads, Jb]
theorem JhF (F : Orc) (new : Nat) (s : St) (x : Opd) : rdO F (.conv .toStr x) new s = rb (evv x s.env) fun a => Jb ((JU 1 a).reads s) := by
  rw [J82 (h := rfl)]
  simp only [opR, J9d]
  congr 1; funext a
  simp only [J1p]
  cases (JU 1 a).run s with
  | none => simp [rb]
  | some rows => simp only [rb]; cases J2Q rows <;> simp [RM.reads, Jb]
theorem JgJ (s : St) (e b n : Nat) : Jb ((JU e (.slr b 0 n)).reads s) = [b] := by
  simp only [JU, RM.reads, Jb]
  cases s.sto[b]? with
  | none => rfl
  | some B =>
    cases B with
    | arr w z rows => simp only []; split <;> rfl
    | _ => rfl
theorem Ji1 (s : St) (e z : Nat) (rows : List (List PV)) : Jb ((JU e (.p (.sl z rows))).reads s) = [] := by
  simp only [JU]; split <;> rfl
theorem JhC (F : Orc) (new : Nat) (s : St) (e : Nat) (x i : Opd) : rdO F (.iaddr e x i) new s = rb (evv x s.env) fun a => rb (evv i s.env) fun c => Jb ((J1j e a c).reads s) := by
  rw [J82 (h := rfl)]; simp only [opR, J9d]
theorem Jgg (s : St) (e b n : Nat) (k : IntKind) (i : Int) : Jb ((J1j e (.slr b 0 n) (.p (.i k i))).reads s) = [b] := by
  simp only [J1j, RM.reads, Jb]
  cases s.sto[b]? with
  | none => rfl
  | some B =>
    cases B with
    | arr w z rows => simp only []; split <;> rfl
    | _ => rfl
theorem JhS (s : St) (e z : Nat) (rows : List (List PV)) (k : IntKind) (i : Int) : Jb ((J1j e (.p (.sl z rows)) (.p (.i k i))).reads s) = [] := by
  simp only [J1j]
  split
  · cases J6j rows i <;> rfl
  · rfl
theorem Jma (env : List (Nat × AV)) (sto : List Blk) (l : List Int) (new : Nat) : (cvR .toStr (.p (.sl 1 (l.map (r_i .u8)))) new).run ⟨env, sto⟩ = some ⟨.p (.s (toStr l)), []⟩ := JhL ..
theorem JlO (n : Nat) (w : Bool) (l : List Int) : cvB n (.arr w 1 (l.map (r_i .u8))) = if n = l.length then some ⟨.p (.s (toStr l)), []⟩ else none := JjQ ..
theorem fr (b n z : Nat) (w : Bool) (rows : List (List PV)) : frz b n (.arr w z rows) = if n = rows.length then some (.p (.sl z rows), (b, .arr false z rows)) else none := rfl
theorem mk (o : Bool) (e b new : Nat) (z : List PV) (k k2 : IntKind) (n m : Int) : mkP o e b z (.p (.i k n)) (.p (.i k2 m)) new = if 0 ≤ n ∧ n ≤ m ∧ b * m ≤ 281474976710656 ∧ m ≤ 281474976710656 then some (if o then ⟨.slr new 0 n.toNat, [(new, .arr true e (List.replicate n.toNat z))]⟩ else ⟨.p (.sl e (List.replicate n.toNat z)), []⟩) else none := rfl
theorem cl (n : Nat) (live : List Nat) (env : List (Nat × AV)) (sto : List Blk) : J2G n live ⟨env, sto⟩ = if sto.length = n then some ⟨restr live env, sto⟩ else (J4x n sto (restr live env)).bind fun e => (J1z n [] sto (sto.take n)).bind fun l => some ⟨e, l⟩ := Jlk ..
theorem JkO {α : Type} (l : List α) : [] ++ l = l := rfl
theorem JkL {α : Type} (l : List α) : l ++ [] = l := List.append_nil l
theorem Jkv {α : Type} (a : α) (l r : List α) : (a :: l) ++ r = a :: (l ++ r) := rfl
theorem Jlg {α β : Type} (g : α → β) : List.map g [] = [] := rfl
theorem JkU {α β : Type} (g : α → β) (a : α) (l : List α) : List.map g (a :: l) = g a :: List.map g l := rfl
theorem JkF {α : Type} : ([] : List α).length = 0 := rfl
theorem Jlq {α : Type} (a : α) (l : List α) : (a :: l).length = l.length + 1 := rfl
theorem JkQ (k : IntKind) (n : Int) : r_i k n = [.i k n] := rfl
theorem Jku (x : Bool) : r_b x = [.b x] := rfl
theorem JiX (x : List UInt8) : r_s x = [.s x] := rfl
theorem JkR {α : Type} (e : Nat) (g : α → List PV) (l : List α) : JiL e g l = [.sl e (l.map g)] := rfl
theorem s1 (a : PV) : sub [a] 0 1 = some [a] := rfl
set_option maxRecDepth 30000 in
theorem Da : (∀ T f m k s, rk T f m k (X T .skip s) = rk T f m k (some (.normal, s))) ∧
  (∀ T f m k a b s, rk T f m k (X T (.seq a b) s) = rk T f m (.sq b :: k) (X T a s)) ∧
  (∀ T f m k d ins env sto, rk T f m k (X T (.reg d [] ins) ⟨env, sto⟩) = rk T f m k (Ji6 (Jg (AF T) ins sto.length ⟨env, room (news ins) sto⟩ none))) ∧
  (∀ T f m k d q ps ins env sto, rk T f m k (X T (.reg d (q :: ps) ins) ⟨env, sto⟩) = rk T f m k (JfH (q :: ps) (Jg (AF T) ins sto.length ⟨env, room (news ins) sto⟩ (some [])))) ∧
  (∀ T f m k i c s, rk T f m k (X T (.block i c) s) = rk T f m (.bl i :: k) (X T c s)) ∧
  (∀ T f m k c s, rk T f m k (X T (.scope c) s) = rk T f m k (X T c s)) ∧
  (∀ T f m k i s, rk T f m k (X T (.exit i) s) = rk T f m k (some (.exit i, s))) ∧
  (∀ T f m k s, rk T f m k (X T .ret s) = rk T f m k (some (.ret, s))) ∧
  (∀ T f m k live c env sto, rk T f m k (X T (.keep live c) ⟨env, sto⟩) = rk T f m k (X T c ⟨restr live env, sto⟩)) ∧
  (∀ T f m k live c env sto, rk T f m k (X T (.tidy live c) ⟨env, sto⟩) = rk T f m (.td sto.length live :: k) (X T c ⟨env, sto⟩)) ∧
  (∀ T f m k live c env sto, rk T f m k (X T (.loop live c) ⟨env, sto⟩) = rk T f m k (X T (.lp sto.length live c) ⟨restr live env, sto⟩)) ∧
  (∀ T f m k x a b env sto, rk T f m k (X T (.cond x a b) ⟨env, sto⟩) = rk T f m k (cnd (evv x env) (J40 (X T a ⟨env, sto⟩) (.mk _)) (J40 (X T b ⟨env, sto⟩) (.mk _)) (J40 (fun _ => same (X T a ⟨env, sto⟩) (X T b ⟨env, sto⟩)) (.mk _)))) ∧
  (∀ a b h c, cnd (some (.p (.b true))) (J40 a h) b c = a) ∧
  (∀ a b h c, cnd (some (.p (.b false))) a (J40 b h) c = b) ∧
  (∀ T f m k b s, rk T f m (.sq b :: k) (some (.normal, s)) = rk T f m k (X T b s)) ∧
  (∀ T f m k b i s, rk T f m (.sq b :: k) (some (.exit i, s)) = rk T f m k (some (.exit i, s))) ∧
  (∀ T f m k b s, rk T f m (.sq b :: k) (some (.ret, s)) = rk T f m k (some (.ret, s))) ∧
  (∀ T f m k i s, rk T f m (.bl i :: k) (some (.normal, s)) = rk T f m k (some (.normal, s))) ∧
  (∀ T f m k i j s, rk T f m (.bl i :: k) (some (.exit j, s)) = if j = i then rk T f m k (some (.normal, s)) else rk T f m k (some (.exit j, s))) ∧
  (∀ T f m k i s, rk T f m (.bl i :: k) (some (.ret, s)) = rk T f m k (some (.ret, s))) ∧
  (∀ T f m k n live e s, rk T f m (.td n live :: k) (some (e, s)) = rk T f m k (tdn e (J2G n live s))) ∧
  (∀ e s, tdn e (some s) = some (e, s)) ∧
  (∀ T f m k n live c s, rk T f m (.lo n live c :: k) (some (.normal, s)) = rk T f m k (again T n live c (J2G n live s))) ∧
  (∀ T n live c s, again T n live c (some s) = X T (.lp n live c) s) ∧
  (∀ T f m k n live c i s, rk T f m (.lo n live c :: k) (some (.exit i, s)) = rk T f m k (some (.exit i, s))) ∧
  (∀ T f m k n live c s, rk T f m (.lo n live c :: k) (some (.ret, s)) = rk T f m k (some (.ret, s))) ∧
  (∀ T f m s, rk T f m [] (some (.normal, s)) = Jab f.res f.fresh m s) ∧
  (∀ T f m s, rk T f m [] (some (.ret, s)) = Jab f.res f.fresh m s) ∧
  (∀ s l, Ji6 (some (s, l)) = some (.normal, s)) ∧
  (∀ s l ps, JfH ps (some (s, some l)) = if J4V l ps = true then some (.normal, s) else none) ∧
  (∀ l, J4V l [] = true) ∧
  (∀ l i j ps, J4V l ((i, j) :: ps) = (pkk l[i]? l[j]? && J4V l ps)) ∧
  (∀ a b, lgA none a b = none) ∧
  (∀ l a b, lgA (some l) a b = some (l ++ [(a, b)])) ∧
  (∀ {α : Type} (a : α) (l : List α), (a :: l)[0]? = some a) ∧
  (∀ {α : Type} (a : α) (l : List α) (n : Nat), (a :: l)[n + 1]? = l[n]?) ∧
  (∀ F new s lg, Jg F [] new s lg = some (s, lg)) ∧
  (∀ F r new env sto lg d x, Jg F (⟨.mv x, some d, none⟩ :: r) new ⟨env, sto⟩ lg = (evv x env).bind fun v => Jg F r new ⟨(d, v) :: env, sto⟩ (lgA lg (rdO F (.mv x) new ⟨env, sto⟩) [])) ∧
  (∀ F r new env sto lg d c a b, Jg F (⟨.pick c a b, some d, none⟩ :: r) new ⟨env, sto⟩ lg = (evv c env).bind fun u => pkh u (evv a env) (evv b env) (J40 (fun v => Jg F r new ⟨(d, v) :: env, sto⟩ (lgA lg (rdO F (.pick c a b) new ⟨env, sto⟩) [])) (.mk _))) ∧
  (∀ F r new env sto lg d op t x y, Jg F (⟨.bin op t x y, some d, none⟩ :: r) new ⟨env, sto⟩ lg = (evv x env).bind fun a => (evv y env).bind fun c => (J04 op t a c).bind fun v => Jg F r new ⟨(d, v) :: env, sto⟩ (lgA lg (rdO F (.bin op t x y) new ⟨env, sto⟩) [])) ∧
  (∀ F r new env sto lg d op x, Jg F (⟨.un op x, some d, none⟩ :: r) new ⟨env, sto⟩ lg = (evv x env).bind fun a => (unP op a).bind fun v => Jg F r new ⟨(d, v) :: env, sto⟩ (lgA lg (rdO F (.un op x) new ⟨env, sto⟩) [])) ∧
  (∀ F r new env sto lg d g off n x, Jg F (⟨.field g off n x, some d, none⟩ :: r) new ⟨env, sto⟩ lg = (evv x env).bind fun a => (J2B g off n a).bind fun v => Jg F r new ⟨(d, v) :: env, sto⟩ (lgA lg (rdO F (.field g off n x) new ⟨env, sto⟩) [])) ∧
  (∀ F r new env sto lg d off x, Jg F (⟨.faddr off x, some d, none⟩ :: r) new ⟨env, sto⟩ lg = (evv x env).bind fun a => (J66 off a).bind fun v => Jg F r new ⟨(d, v) :: env, sto⟩ (lgA lg (rdO F (.faddr off x) new ⟨env, sto⟩) [])) ∧
  (∀ F r new env sto lg d x i, Jg F (⟨.extr x i, some d, none⟩ :: r) new ⟨env, sto⟩ lg = (evv x env).bind fun a => (J9p i a).bind fun v => Jg F r new ⟨(d, v) :: env, sto⟩ (lgA lg (rdO F (.extr x i) new ⟨env, sto⟩) [])) ∧
  (∀ F r new env sto lg d b x, Jg F (⟨.len b x, some d, none⟩ :: r) new ⟨env, sto⟩ lg = (evv x env).bind fun a => (J8z b a).bind fun v => Jg F r new ⟨(d, v) :: env, sto⟩ (lgA lg (rdO F (.len b x) new ⟨env, sto⟩) [])) ∧
  (∀ F r new env sto lg d n, Jg F (⟨.alen n, some d, none⟩ :: r) new ⟨env, sto⟩ lg = Jg F r new ⟨(d, .p (.i .i64 n)) :: env, sto⟩ (lgA lg (rdO F (.alen n) new ⟨env, sto⟩) [])) ∧
  (∀ F r new env sto lg d b x y, Jg F (⟨.mm b x y, some d, none⟩ :: r) new ⟨env, sto⟩ lg = (evv x env).bind fun a => (evv y env).bind fun c => (mmP b a c).bind fun v => Jg F r new ⟨(d, v) :: env, sto⟩ (lgA lg (rdO F (.mm b x y) new ⟨env, sto⟩) [])) ∧
  (∀ F r new env sto lg d n e x i, Jg F (⟨.aaddr n e x i, some d, none⟩ :: r) new ⟨env, sto⟩ lg = (evv x env).bind fun a => (evv i env).bind fun c => (J64 n e a c).bind fun v => Jg F r new ⟨(d, v) :: env, sto⟩ (lgA lg (rdO F (.aaddr n e x i) new ⟨env, sto⟩) [])) ∧
  (∀ F r new env sto lg d e x i, Jg F (⟨.iaddr e x i, some d, none⟩ :: r) new ⟨env, sto⟩ lg = (evv x env).bind fun a => (evv i env).bind fun c => ((J1j e a c).run ⟨env, sto⟩).bind fun q => Jg F r new ⟨(d, q.val) :: env, upd q.ws sto⟩ (lgA lg (rdO F (.iaddr e x i) new ⟨env, sto⟩) (q.ws.map (·.1)))) ∧
  (∀ F r new env sto lg d x i, Jg F (⟨.sidx x i, some d, none⟩ :: r) new ⟨env, sto⟩ lg = (evv x env).bind fun a => (evv i env).bind fun c => (Jc1 a c).bind fun v => Jg F r new ⟨(d, v) :: env, sto⟩ (lgA lg (rdO F (.sidx x i) new ⟨env, sto⟩) [])) ∧
  (∀ F r new env sto lg d g n e x i, Jg F (⟨.aidx g n e x i, some d, none⟩ :: r) new ⟨env, sto⟩ lg = (evv x env).bind fun a => (evv i env).bind fun c => (Jal g n e a c).bind fun v => Jg F r new ⟨(d, v) :: env, sto⟩ (lgA lg (rdO F (.aidx g n e x i) new ⟨env, sto⟩) [])) ∧
  (∀ F r new env sto lg d x, Jg F (⟨.nilchk x, some d, none⟩ :: r) new ⟨env, sto⟩ lg = (evv x env).bind fun a => (Je2 a).bind fun v => Jg F r new ⟨(d, v) :: env, sto⟩ (lgA lg (rdO F (.nilchk x) new ⟨env, sto⟩) [])) ∧
  (∀ F r new env sto lg d g n x, Jg F (⟨.load g n x, some d, none⟩ :: r) new ⟨env, sto⟩ lg = (evv x env).bind fun a => ((J0O g n a).run ⟨env, sto⟩).bind fun q => Jg F r new ⟨(d, q.val) :: env, upd q.ws sto⟩ (lgA lg (rdO F (.load g n x) new ⟨env, sto⟩) (q.ws.map (·.1)))) ∧
  (∀ F r new env sto lg n x y, Jg F (⟨.store n x y, none, none⟩ :: r) new ⟨env, sto⟩ lg = (evv x env).bind fun a => (evv y env).bind fun c => ((J0x n a c).run ⟨env, sto⟩).bind fun q => Jg F r new ⟨env, upd q.ws sto⟩ (lgA lg (rdO F (.store n x y) new ⟨env, sto⟩) (q.ws.map (·.1)))) ∧
  (∀ F r new env sto lg d c x, Jg F (⟨.conv c x, some d, none⟩ :: r) new ⟨env, sto⟩ lg = (evv x env).bind fun a => dds (Ju (.conv c x)) new sto (((cvR c a new).run ⟨env, sto⟩).bind fun e => Jg F r (new + Ju (.conv c x)) ⟨(d, e.val) :: env, upd e.ws sto⟩ (lgA lg (rdO F (.conv c x) new ⟨env, sto⟩) (e.ws.map (·.1))))) ∧
  (∀ F r new env sto lg d z ps, Jg F (⟨.build z ps, some d, none⟩ :: r) new ⟨env, sto⟩ lg = ((J13 ps).run ⟨env, sto⟩).bind fun l => (J0r l (z.map .p)).bind fun cs => (J0D true cs).bind fun v => Jg F r new ⟨(d, v) :: env, sto⟩ (lgA lg (rdO F (.build z ps) new ⟨env, sto⟩) [])) ∧
  (∀ F r new env sto lg d s x lo hi mx, Jg F (⟨.slice s x lo hi mx, some d, none⟩ :: r) new ⟨env, sto⟩ lg = (evv x env).bind fun a => (J4Z lo env).bind fun lo1 => (J4Z hi env).bind fun hi1 => (J4Z mx env).bind fun mx1 => ((slR s a lo1 hi1 mx1).run ⟨env, sto⟩).bind fun q => Jg F r new ⟨(d, q.val) :: env, upd q.ws sto⟩ (lgA lg (rdO F (.slice s x lo hi mx) new ⟨env, sto⟩) (q.ws.map (·.1)))) ∧
  (∀ F r new env sto lg d e b z x y, Jg F (⟨.app e b z x y, some d, none⟩ :: r) new ⟨env, sto⟩ lg = (evv x env).bind fun a => (evv y env).bind fun c => ((J5g e b a c).run ⟨env, sto⟩).bind fun q => Jg F r new ⟨(d, q.val) :: env, upd q.ws sto⟩ (lgA lg (rdO F (.app e b z x y) new ⟨env, sto⟩) (q.ws.map (·.1)))) ∧
  (∀ F r new env sto lg d e b z x y, Jg F (⟨.appz e b z x y, some d, none⟩ :: r) new ⟨env, sto⟩ lg = (evv x env).bind fun a => (evv y env).bind fun c => (zrs e z c).bind fun c1 => ((J5g e b a c1).run ⟨env, sto⟩).bind fun q => Jg F r new ⟨(d, q.val) :: env, upd q.ws sto⟩ (lgA lg (rdO F (.appz e b z x y) new ⟨env, sto⟩) (q.ws.map (·.1)))) ∧
  (∀ F r new env sto lg d g a c, Jg F (⟨.mkfn g a c, some d, none⟩ :: r) new ⟨env, sto⟩ lg = ((evs a).run ⟨env, sto⟩).bind fun a1 => ((evs c).run ⟨env, sto⟩).bind fun c1 => Jg F r new ⟨(d, .fn g a1 c1) :: env, sto⟩ (lgA lg (rdO F (.mkfn g a c) new ⟨env, sto⟩) [])) ∧
  (∀ F r new env sto lg d g args n, Jg F (⟨.callv g args n, some d, none⟩ :: r) new ⟨env, sto⟩ lg = (evv g env).bind fun u => cvg u fun h a1 c1 => dds n new sto (((evs args).run ⟨env, sto⟩).bind fun a => ((Jq (a1 ++ a ++ c1)).run ⟨env, sto⟩).bind fun a => ((Jx F h a n new).run ⟨env, sto⟩).bind fun q => Jg F r (new + n) ⟨(d, q.val) :: env, upd q.ws sto⟩ (lgA lg (rdO F (.callv g args n) new ⟨env, sto⟩) (q.ws.map (·.1))))) ∧
  (∀ F r new env sto lg g args n, Jg F (⟨.callv g args n, none, none⟩ :: r) new ⟨env, sto⟩ lg = (evv g env).bind fun u => cvg u fun h a1 c1 => dds n new sto (((evs args).run ⟨env, sto⟩).bind fun a => ((Jq (a1 ++ a ++ c1)).run ⟨env, sto⟩).bind fun a => ((Jx F h a n new).run ⟨env, sto⟩).bind fun q => Jg F r (new + n) ⟨env, upd q.ws sto⟩ (lgA lg (rdO F (.callv g args n) new ⟨env, sto⟩) (q.ws.map (·.1))))) ∧
  (∀ {α : Type} (f : FuncId) (a c : List AV) (k : FuncId → List AV → List AV → Option α), cvg (.fn f a c) k = k f a c) ∧
  (∀ F r new env sto lg d e b z y, Jg F (⟨.appn e b z y, some d, none⟩ :: r) new ⟨env, sto⟩ lg = (evv y env).bind fun c => ((JU e c).run ⟨env, sto⟩).bind fun rows => if J4P rows.length b = true then dds 1 new sto (Jg F r (new + 1) ⟨(d, .slr new 0 rows.length) :: env, sto.set new (.arr true e rows)⟩ (lgA lg (rdO F (.appn e b z y) new ⟨env, sto⟩) [new])) else none) ∧
  (∀ F r new env sto lg d e b z x y, Jg F (⟨.appc e b z x y, some d, none⟩ :: r) new ⟨env, sto⟩ lg = (evv x env).bind fun a => (evv y env).bind fun c => ((JU e c).run ⟨env, sto⟩).bind fun add => (Ja4 e b a add).bind fun rows => dds 1 new sto (Jg F r (new + 1) ⟨(d, .slr new 0 rows.length) :: env, sto.set new (.arr true e rows)⟩ (lgA lg (rdO F (.appc e b z x y) new ⟨env, sto⟩) [new]))) ∧
  (∀ F r new env sto lg d z, Jg F (⟨.newbox z, some d, none⟩ :: r) new ⟨env, sto⟩ lg = dds 1 new sto (Jg F r (new + 1) ⟨(d, .ptr new 0) :: env, sto.set new (.box (z.map .p))⟩ (lgA lg (rdO F (.newbox z) new ⟨env, sto⟩) [new]))) ∧
  (∀ F r new env sto lg d e x, Jg F (⟨.mkarr e x, some d, none⟩ :: r) new ⟨env, sto⟩ lg = dds 1 new sto (Jg F r (new + 1) ⟨(d, .slr new 0 0) :: env, sto.set new (.arr true e [])⟩ (lgA lg (rdO F (.mkarr e x) new ⟨env, sto⟩) [new]))) ∧
  (∀ F r new env sto lg d n x, Jg F (⟨.box n x, some d, none⟩ :: r) new ⟨env, sto⟩ lg = (evv x env).bind fun a => (bxP n a).bind fun cs => dds 1 new sto (Jg F r (new + 1) ⟨(d, .ptr new 0) :: env, sto.set new (.box cs)⟩ (lgA lg (rdO F (.box n x) new ⟨env, sto⟩) [new]))) ∧
  (∀ F r new env sto lg d o e n z ps, Jg F (⟨.lits o e n z ps, some d, none⟩ :: r) new ⟨env, sto⟩ lg = dds (if o then 1 else 0) new sto (((ltR o e n z ps new).run ⟨env, sto⟩).bind fun x => Jg F r (new + if o then 1 else 0) ⟨(d, x.val) :: env, upd x.ws sto⟩ (lgA lg (rdO F (.lits o e n z ps) new ⟨env, sto⟩) (x.ws.map (·.1))))) ∧
  (∀ F r new env sto lg d o e b z l c, Jg F (⟨.mkslice o e b z l c, some d, none⟩ :: r) new ⟨env, sto⟩ lg = (evv l env).bind fun a => (evv c env).bind fun x => dds (if o then 1 else 0) new sto ((mkP o e b z a x new).bind fun x => Jg F r (new + if o then 1 else 0) ⟨(d, x.val) :: env, upd x.ws sto⟩ (lgA lg (rdO F (.mkslice o e b z l c) new ⟨env, sto⟩) (x.ws.map (·.1))))) ∧
  (∀ F r new env sto lg d g args n, Jg F (⟨.call g args n, some d, none⟩ :: r) new ⟨env, sto⟩ lg = dds n new sto (((evs args).run ⟨env, sto⟩).bind fun a => ((Jq a).run ⟨env, sto⟩).bind fun a => ((Jx F g a n new).run ⟨env, sto⟩).bind fun e => Jg F r (new + n) ⟨(d, e.val) :: env, upd e.ws sto⟩ (lgA lg (rdO F (.call g args n) new ⟨env, sto⟩) (e.ws.map (·.1))))) ∧
  (∀ F r new env sto lg g args n, Jg F (⟨.call g args n, none, none⟩ :: r) new ⟨env, sto⟩ lg = dds n new sto (((evs args).run ⟨env, sto⟩).bind fun a => ((Jq a).run ⟨env, sto⟩).bind fun a => ((Jx F g a n new).run ⟨env, sto⟩).bind fun e => Jg F r (new + n) ⟨env, upd e.ws sto⟩ (lgA lg (rdO F (.call g args n) new ⟨env, sto⟩) (e.ws.map (·.1))))) ∧
  (∀ F r new env sto lg d z os, Jg F (⟨.newboxo z os, some d, none⟩ :: r) new ⟨env, sto⟩ lg = dds (os.length + 1) new sto (Jg F r (new + (os.length + 1)) ⟨(d, .ptr (new + os.length) 0) :: env, upd (J1m os new ++ [(new + os.length, .box (J3F os new (z.map .p)))]) sto⟩ (lgA lg (rdO F (.newboxo z os) new ⟨env, sto⟩) ((J1m os new ++ [(new + os.length, Blk.box (J3F os new (z.map .p)))]).map (·.1))))) ∧
  (∀ F r new env sto lg e x, Jg F (⟨.storen e x, none, none⟩ :: r) new ⟨env, sto⟩ lg = (evv x env).bind fun a => dds 1 new sto (((J0x 1 a (.slr new 0 0)).run ⟨env, sto⟩).bind fun q => Jg F r (new + 1) ⟨env, upd ((new, .arr true e []) :: q.ws) sto⟩ (lgA lg (rdO F (.storen e x) new ⟨env, sto⟩) (new :: q.ws.map (·.1))))) ∧
  (∀ F r new env sto lg d z ps os, Jg F (⟨.buildo z ps os, some d, none⟩ :: r) new ⟨env, sto⟩ lg = ((J13 ps).run ⟨env, sto⟩).bind fun l => (J0r l (J3F os new (z.map .p))).bind fun cs => (J0D true cs).bind fun v => dds os.length new sto (Jg F r (new + os.length) ⟨(d, v) :: env, upd (J1m os new) sto⟩ (lgA lg (rdO F (.buildo z ps os) new ⟨env, sto⟩) ((J1m os new).map (·.1))))) ∧
  (∀ F r new env sto lg d g kp args n, Jg F (⟨.callo g kp args n, some d, none⟩ :: r) new ⟨env, sto⟩ lg = dds n new sto (((evs args).run ⟨env, sto⟩).bind fun a => ((J0Y kp a).run ⟨env, sto⟩).bind fun a => ((J1u F g a n new).run ⟨env, sto⟩).bind fun e => Jg F r (new + n) ⟨(d, e.val) :: env, upd e.ws sto⟩ (lgA lg (rdO F (.callo g kp args n) new ⟨env, sto⟩) (e.ws.map (·.1))))) ∧
  (∀ F r new env sto lg g kp args n, Jg F (⟨.callo g kp args n, none, none⟩ :: r) new ⟨env, sto⟩ lg = dds n new sto (((evs args).run ⟨env, sto⟩).bind fun a => ((J0Y kp a).run ⟨env, sto⟩).bind fun a => ((J1u F g a n new).run ⟨env, sto⟩).bind fun e => Jg F r (new + n) ⟨env, upd e.ws sto⟩ (lgA lg (rdO F (.callo g kp args n) new ⟨env, sto⟩) (e.ws.map (·.1))))) ∧
  (∀ {α : Type} (n new : Nat) (sto : List Blk) (o : Option α), dds (n + 1) new sto o = dd1 sto[new]? (dds n (new + 1) sto o)) ∧
  (∀ F r new env sto lg op d g w, Jg F (⟨op, d, some (g, w)⟩ :: r) new ⟨env, sto⟩ lg = grd (lk g env) w (J40 (Jg F (⟨op, d, none⟩ :: r) new ⟨env, sto⟩ lg) (.mk _)) (J40 (Jg F r (new + Ju op) (put d ⟨J0n, []⟩ ⟨env, sto⟩) (lgA lg [] [])) (.mk _))) ∧
  (∀ {α : Type} (a b : Option α) (h : Dum a), grd (some (.p (.b true))) true (J40 a h) b = a) ∧
  (∀ {α : Type} (a b : Option α) (h : Dum b), grd (some (.p (.b true))) false a (J40 b h) = b) ∧
  (∀ {α : Type} (a b : Option α) (h : Dum b), grd (some (.p (.b false))) true a (J40 b h) = b) ∧
  (∀ {α : Type} (a b : Option α) (h : Dum a), grd (some (.p (.b false))) false (J40 a h) b = a) ∧
  (∀ {α : Type} (w : Bool) (a b : Option α) (h : Dum b), grd (some (.tup [])) w a (J40 b h) = b) ∧
  (∀ {β : Type} (a b : Option AV) (K : AV → Option β) (h : Dum K), pkh (.p (.b true)) a b (J40 K h) = a.bind K) ∧
  (∀ {β : Type} (a b : Option AV) (K : AV → Option β) (h : Dum K), pkh (.p (.b false)) a b (J40 K h) = b.bind K) ∧
  (∀ {α β : Type} (a : α) (f : α → Option β), Option.bind (some a) f = f a) ∧
  (∀ {α : Type} (new : Nat) (sto : List Blk) (o : Option α), dds 0 new sto o = o) ∧
  (∀ {α : Type} (new : Nat) (sto : List Blk) (o : Option α), dds 1 new sto o = dd1 sto[new]? o) ∧
  (∀ {α : Type} (o : Option α), dd1 (some .dead) o = o) :=
  ⟨by intro T f m k s; exact JjJ T f m k s,
  by intro T f m k a b s; exact JkG T f m k a b s,
  by intro T f m k d ins env sto; exact Jkd T f m k d ins env sto,
  by intro T f m k d q ps ins env sto; exact Jkh T f m k d q ps ins env sto,
  by intro T f m k i c s; exact Jig T f m k i c s,
  by intro T f m k c s; exact Jhx T f m k c s,
  by intro T f m k i s; exact Jja T f m k i s,
  by intro T f m k s; exact Jl9 T f m k s,
  by intro T f m k live c env sto; exact JjO T f m k live c env sto,
  by intro T f m k live c env sto; exact JjD T f m k live c env sto,
  by intro T f m k live c env sto; exact JjM T f m k live c env sto,
  by intro T f m k x a b env sto; exact JjX T f m k x a b env sto,
  by intros; rfl,
  by intros; rfl,
  by intros; rfl,
  by intros; rfl,
  by intros; rfl,
  by intros; rfl,
  by intro T f m k i j s; exact JjN T f m k i j s,
  by intros; rfl,
  by intro T f m k n live e s; exact (JlL T f m k n live e s).trans (by cases J2G n live s <;> rfl),
  by intros; rfl,
  by intros; rfl,
  by intros; rfl,
  by intros; rfl,
  by intros; rfl,
  by intro T f m s; exact Jk3 T f m s,
  by intro T f m s; exact Jhk T f m s,
  by intros; rfl,
  by intros; rfl,
  by intros; rfl,
  by intros; rfl,
  by intros; rfl,
  by intros; rfl,
  by intros; rfl,
  by intros; rfl,
  by intros; rfl,
  by intro F r new env sto lg d x; rw [st0 (h := rfl)]; simp only [opR, run_bind, J06]; exact JkI,
  by intro F r new env sto lg d c a b; rw [st0 (h := rfl)]; simp only [opR, run_bind, J06]; exact JiB,
  by intro F r new env sto lg d op t x y; rw [st0 (h := rfl)]; simp only [opR, run_bind, J06]; exact Jbz (g := fun a c => J04 op t a c),
  by intro F r new env sto lg d op x; rw [st0 (h := rfl)]; simp only [opR, run_bind, J06]; exact J7m (g := fun a => unP op a),
  by intro F r new env sto lg d g off n x; rw [st0 (h := rfl)]; simp only [opR, run_bind, J06]; exact J7m (g := fun a => J2B g off n a),
  by intro F r new env sto lg d off x; rw [st0 (h := rfl)]; simp only [opR, run_bind, J06]; exact J7m (g := fun a => J66 off a),
  by intro F r new env sto lg d x i; rw [st0 (h := rfl)]; simp only [opR, run_bind, J06]; exact J7m (g := fun a => J9p i a),
  by intro F r new env sto lg d b x; rw [st0 (h := rfl)]; simp only [opR, run_bind, J06]; exact J7m (g := fun a => J8z b a),
  by intro F r new env sto lg d n; rw [st0 (h := rfl)]; rfl,
  by intro F r new env sto lg d b x y; rw [st0 (h := rfl)]; simp only [opR, run_bind, J06]; exact Jbz (g := fun a c => mmP b a c),
  by intro F r new env sto lg d n e x i; rw [st0 (h := rfl)]; simp only [opR, run_bind, J06]; exact Jbz (g := fun a c => J64 n e a c),
  by intro F r new env sto lg d e x i; rw [st0 (h := rfl)]; simp only [opR, run_bind, J06]; exact Ja3 (g := fun a c => (J1j e a c).run ⟨env, sto⟩),
  by intro F r new env sto lg d x i; rw [st0 (h := rfl)]; simp only [opR, run_bind, J06]; exact Jj7,
  by intro F r new env sto lg d g n e x i; rw [st0 (h := rfl)]; simp only [opR, run_bind, J06]; exact Jkg,
  by intro F r new env sto lg d x; rw [st0 (h := rfl)]; simp only [opR, run_bind, J06]; exact Jjk,
  by intro F r new env sto lg d g n x; rw [st0 (h := rfl)]; simp only [opR, run_bind, J06]; exact Je0 (g := fun a => (J0O g n a).run ⟨env, sto⟩),
  by intro F r new env sto lg n x y; rw [Jmj (h := rfl)]; simp only [opR, run_bind, J06]; exact Ja3 (g := fun a c => (J0x n a c).run ⟨env, sto⟩),
  by intro F r new env sto lg d c x; exact JhI,
  by intro F r new env sto lg d z ps; exact Jge,
  by intro F r new env sto lg d s x lo hi mx; exact JgM,
  by intro F r new env sto lg d e b z x y; rw [st0 (h := rfl)]; simp only [opR, run_bind, J06]; exact Ja3 (g := fun a c => (J5g e b a c).run ⟨env, sto⟩),
  by intro F r new env sto lg d e b z x y; rw [st0 (h := rfl)]; simp only [opR, run_bind, J06]; exact Jh7,
  by intro F r new env sto lg d g a c; exact Ji0,
  by intro F r new env sto lg d g args n; exact Jg7,
  by intro F r new env sto lg g args n; exact Jfs,
  by intros; rfl,
  by intro F r new env sto lg d e b z y; exact Jir,
  by intro F r new env sto lg d e b z x y; exact JiK,
  by intro F r new env sto lg d z; exact JfP,
  by intro F r new env sto lg d e x; exact JgG,
  by intro F r new env sto lg d n x; exact JjS,
  by intro F r new env sto lg d o e n z ps; exact JiP,
  by intro F r new env sto lg d o e b z l c; exact Jez,
  by intro F r new env sto lg d g args n; exact JiH,
  by intro F r new env sto lg g args n; exact JgN,
  by intro F r new env sto lg d z os; exact Jep,
  by intro F r new env sto lg e x; exact JfC,
  by intro F r new env sto lg d z ps os; exact Jg0,
  by intro F r new env sto lg d g kp args n; exact Jgv,
  by intro F r new env sto lg g kp args n; exact Jg4,
  by intro α n new sto o; exact Jm4 ..,
  by intro F r new env sto lg op d g w; exact JjA ..,
  by intros; rfl,
  by intros; rfl,
  by intros; rfl,
  by intros; rfl,
  by intros; rfl,
  by intros; rfl,
  by intros; rfl,
  by intros; rfl,
  by intros; rfl,
  by intro α new sto o; exact Jmb ..,
  by intros; rfl⟩
set_option maxRecDepth 30000 in
theorem Ua : (∀ n m v r, lk n ((m, v) :: r) = if n = m then some v else lk n r) ∧
  (∀ n env, evv (.t n) env = lk n env) ∧
  (∀ v env, evv (.c v) env = some v) ∧
  (∀ a b, pk (.p (.b true)) a b = a) ∧
  (∀ a b, pk (.p (.b false)) a b = b) ∧
  (∀ env, restr [] env = []) ∧
  (∀ k l env, restr (k :: l) env = Jfp k (lk k env) (restr l env)) ∧
  (∀ k v l, Jfp k (some v) l = (k, v) :: l) ∧
  (∀ k l, Jfp k none l = l) ∧
  (∀ n, lk n [] = none) ∧
  (news [] = 0) ∧
  (∀ i r, news (i :: r) = Ju i.op + news r) ∧
  (∀ x, Ju (.mv x) = 0) ∧
  (∀ e x, Ju (.mkarr e x) = 1) ∧
  (∀ a b c, Ju (.pick a b c) = 0) ∧
  (∀ z, Ju (.newbox z) = 1) ∧
  (∀ n x, Ju (.box n x) = 1) ∧
  (∀ z ps, Ju (.build z ps) = 0) ∧
  (∀ o e n z ps, Ju (.lits o e n z ps) = if o then 1 else 0) ∧
  (∀ g n x, Ju (.load g n x) = 0) ∧
  (∀ n x y, Ju (.store n x y) = 0) ∧
  (∀ x, Ju (.nilchk x) = 0) ∧
  (∀ op t x y, Ju (.bin op t x y) = 0) ∧
  (∀ op x, Ju (.un op x) = 0) ∧
  (∀ c x, Ju (.conv (.int c) x) = 0) ∧
  (∀ x, Ju (.conv .same x) = 0) ∧
  (∀ x, Ju (.conv .toStr x) = 0) ∧
  (∀ o x, Ju (.conv (.toBytes o) x) = if o then 1 else 0) ∧
  (∀ o e b z l c, Ju (.mkslice o e b z l c) = if o then 1 else 0) ∧
  (∀ s x lo hi mx, Ju (.slice s x lo hi mx) = 0) ∧
  (∀ off x, Ju (.faddr off x) = 0) ∧
  (∀ g off n x, Ju (.field g off n x) = 0) ∧
  (∀ e x i, Ju (.iaddr e x i) = 0) ∧
  (∀ n e x i, Ju (.aaddr n e x i) = 0) ∧
  (∀ x i, Ju (.sidx x i) = 0) ∧
  (∀ g n e x i, Ju (.aidx g n e x i) = 0) ∧
  (∀ x i, Ju (.extr x i) = 0) ∧
  (∀ g args n, Ju (.call g args n) = n) ∧
  (∀ g args n, Ju (.callv g args n) = n) ∧
  (∀ b x, Ju (.len b x) = 0) ∧
  (∀ n, Ju (.alen n) = 0) ∧
  (∀ e b z x y, Ju (.app e b z x y) = 0) ∧
  (∀ e b z x y, Ju (.appz e b z x y) = 0) ∧
  (∀ e b z y, Ju (.appn e b z y) = 1) ∧
  (∀ e b z x y, Ju (.appc e b z x y) = 1) ∧
  (∀ b x y, Ju (.mm b x y) = 0) ∧
  (∀ g a c, Ju (.mkfn g a c) = 0) ∧
  (∀ z os, Ju (.newboxo z os) = os.length + 1) ∧
  (∀ z ps os, Ju (.buildo z ps os) = os.length) ∧
  (∀ e x, Ju (.storen e x) = 1) ∧
  (∀ g kp args n, Ju (.callo g kp args n) = n) ∧
  (∀ sto, room 0 sto = sto) ∧
  (∀ n sto, room (n + 1) sto = sto ++ .dead :: List.replicate n .dead) ∧
  (∀ sto, upd [] sto = sto) ∧
  (∀ b x ws sto, upd ((b, x) :: ws) sto = upd ws (sto.set b x)) ∧
  (∀ d v ws env sto, put (some d) ⟨v, ws⟩ ⟨env, sto⟩ = ⟨(d, v) :: env, upd ws sto⟩) ∧
  (∀ v ws env sto, put none ⟨v, ws⟩ ⟨env, sto⟩ = ⟨env, upd ws sto⟩) ∧
  (J0n = .tup []) ∧
  (∀ {α β : Type} (a : α) (f : α → β), Option.map f (some a) = some (f a)) ∧
  (∀ k x y, J04 .add .plain (.p (.i k x)) (.p (.i k y)) = some (.p (.i k (k.wrap (x + y))))) ∧
  (∀ k x y, J04 .sub .plain (.p (.i k x)) (.p (.i k y)) = some (.p (.i k (k.wrap (x - y))))) ∧
  (∀ k x y, J04 .mul .plain (.p (.i k x)) (.p (.i k y)) = some (.p (.i k (k.wrap (x * y))))) ∧
  (∀ k x y, J04 .and .plain (.p (.i k x)) (.p (.i k y)) = some (.p (.i k (J2J k x y)))) ∧
  (∀ k x y, J04 .or .plain (.p (.i k x)) (.p (.i k y)) = some (.p (.i k (orI k x y)))) ∧
  (∀ k x y, J04 .xor .plain (.p (.i k x)) (.p (.i k y)) = some (.p (.i k (J3L k x y)))) ∧
  (∀ k x y, J04 .eql .plain (.p (.i k x)) (.p (.i k y)) = some (.p (.b (x == y)))) ∧
  (∀ k x y, J04 .neq .plain (.p (.i k x)) (.p (.i k y)) = some (.p (.b (x != y)))) ∧
  (∀ k x y, J04 .lss .plain (.p (.i k x)) (.p (.i k y)) = some (.p (.b (decide (x < y))))) ∧
  (∀ k x y, J04 .leq .plain (.p (.i k x)) (.p (.i k y)) = some (.p (.b (decide (x ≤ y))))) ∧
  (∀ k x y, J04 .gtr .plain (.p (.i k x)) (.p (.i k y)) = some (.p (.b (decide (x > y))))) ∧
  (∀ k x y, J04 .geq .plain (.p (.i k x)) (.p (.i k y)) = some (.p (.b (decide (x ≥ y))))) ∧
  (∀ k x y, J04 .quo .plain (.p (.i k x)) (.p (.i k y)) = (JkS k x y).map fun z => .p (.i k z)) ∧
  (∀ k x y, J04 .rem .plain (.p (.i k x)) (.p (.i k y)) = (J7e x y).map fun z => .p (.i k z)) ∧
  (∀ k k2 x y, J04 .shl .plain (.p (.i k x)) (.p (.i k2 y)) = (Jlp k x y).map fun z => .p (.i k z)) ∧
  (∀ k k2 x y, J04 .shr .plain (.p (.i k x)) (.p (.i k2 y)) = (J7h k x y).map fun z => .p (.i k z)) ∧
  (∀ x y, J04 .add .plain (.p (.s x)) (.p (.s y)) = (J7a x y).map fun z => .p (.s z)) ∧
  (∀ x y, J04 .eql .plain (.p (.s x)) (.p (.s y)) = some (.p (.b (x == y)))) ∧
  (∀ x y, J04 .neq .plain (.p (.s x)) (.p (.s y)) = some (.p (.b (!(x == y))))) ∧
  (∀ x y, J04 .lss .plain (.p (.s x)) (.p (.s y)) = some (.p (.b (Op.bytesLess x y)))) ∧
  (∀ x y, J04 .leq .plain (.p (.s x)) (.p (.s y)) = some (.p (.b (Op.bytesLess x y || x == y)))) ∧
  (∀ x y, J04 .gtr .plain (.p (.s x)) (.p (.s y)) = some (.p (.b (!(Op.bytesLess x y || x == y))))) ∧
  (∀ x y, J04 .geq .plain (.p (.s x)) (.p (.s y)) = some (.p (.b (!Op.bytesLess x y)))) ∧
  (∀ x y, J04 .eql .bool (.p (.b x)) (.p (.b y)) = some (.p (.b (x == y)))) ∧
  (∀ x y, J04 .neq .bool (.p (.b x)) (.p (.b y)) = some (.p (.b (!(x == y))))) ∧
  (∀ ks a c, J04 .eql (.flat ks) (.data a) (.data c) = (J2c ks a c).map fun x => .p (.b x)) ∧
  (∀ ks a c, J04 .neq (.flat ks) (.data a) (.data c) = (J2c ks a c).map fun x => .p (.b (!x))) ∧
  (∀ b o y, J04 .eql .nilp (.ptr b o) y = some (.p (.b false))) ∧
  (∀ b o y, J04 .neq .nilp (.ptr b o) y = some (.p (.b true))) ∧
  (∀ k n, unP .neg (.p (.i k n)) = some (.p (.i k (k.wrap (0 - n))))) ∧
  (∀ k n, unP .xor (.p (.i k n)) = some (.p (.i k (Jhl k n)))) ∧
  (∀ x, unP .not (.p (.b x)) = some (.p (.b (!x)))) ∧
  ((!true) = false) ∧
  ((!false) = true) ∧
  (∀ k x y, mmP true (.p (.i k x)) (.p (.i k y)) = some (.p (.i k (J6e x y)))) ∧
  (∀ k x y, mmP false (.p (.i k x)) (.p (.i k y)) = some (.p (.i k (Jme x y)))) ∧
  (∀ off b o, J66 off (.ptr b o) = some (.ptr b (o + off))) ∧
  (∀ off o cs, J66 off (.cp cs o) = some (.cp cs (o + off))) ∧
  (∀ off b e i o, J66 off (.ep b e i o) = some (.ep b e i (o + off))) ∧
  (∀ g off n cs, J2B g off n (.data cs) = (sub cs off n).bind (J0K g)) ∧
  (∀ g off n c cs, J2B g off n (.agg (c :: cs)) = (sub (c :: cs) off n).bind (J0D g)) ∧
  (∀ cs, J0K true cs = some (.data cs)) ∧
  (∀ c, J0K false [c] = some (.p c)) ∧
  (∀ cs, J0D true (cs.map AV.p) = some (.data cs)) ∧
  (∀ c cs, J0D true (c :: cs) = some (JdN (c :: cs) (unp (c :: cs)))) ∧
  (∀ c, J0D false [c] = some c) ∧
  (∀ cs l, JdN cs (some l) = .data l) ∧
  (∀ c, Option.map (fun l => c :: l) (none : Option (List PV)) = none) ∧
  (∀ cs, JdN cs none = .agg cs) ∧
  (unp [] = some []) ∧
  (∀ c r, unp (.p c :: r) = (unp r).map fun l => c :: l) ∧
  (∀ b i n r, unp (.slr b i n :: r) = none) ∧
  (∀ b i r, unp (.ptr b i :: r) = none) ∧
  (∀ b e i o r, unp (.ep b e i o :: r) = none) ∧
  (∀ f a c r, unp (.fn f a c :: r) = none) ∧
  (∀ i vs, J9p i (.tup vs) = vs[i]?) ∧
  (∀ l, J8z true (.p (.s l)) = some (.p (.i .i64 l.length))) ∧
  (∀ e rows, J8z false (.p (.sl e rows)) = some (.p (.i .i64 rows.length))) ∧
  (∀ b i n, J8z false (.slr b i n) = some (.p (.i .i64 n))) ∧
  (∀ {α β : Type} (g : α → β) (l : List α), (l.map g).length = l.length) ∧
  (∀ b o, Je2 (.ptr b o) = some (.ptr b o)) ∧
  (∀ cs o, Je2 (.cp cs o) = some (.cp cs o)) ∧
  (∀ b e i o, Je2 (.ep b e i o) = some (.ep b e i o)) ∧
  (∀ env sto g n cs off, (J0O g n (.cp cs off)).run ⟨env, sto⟩ = (sub cs off n).bind fun l => (J0K g l).map fun v => ⟨v, []⟩) ∧
  (∀ env sto g n b off, (J0O g n (.ptr b off)).run ⟨env, sto⟩ = sto[b]?.bind fun B => ldB g n off B) ∧
  (∀ env sto g n b e i off, (J0O g n (.ep b e i off)).run ⟨env, sto⟩ = sto[b]?.bind fun B => ldE g n e i off B) ∧
  (∀ g n off cs, ldB g n off (.box (cs.map AV.p)) = (sub cs off n).bind fun l => (J0K g l).map fun v => ⟨v, []⟩) ∧
  (∀ g n off c cs, ldB g n off (.box (c :: cs)) = (sub (c :: cs) off n).bind fun l => (J0D g l).map fun v => ⟨v, []⟩) ∧
  (∀ g n e i off z w rows, ldE g n e i off (.arr w z rows) = if e = rows.length then rows[i]?.bind fun row => (sub row off n).bind fun l => (J0K g l).map fun v => ⟨v, []⟩ else none) ∧
  (∀ env sto n b off v, (J0x n (.ptr b off) v).run ⟨env, sto⟩ = sto[b]?.bind fun B => (cellsOf v).bind fun l => stB n b off l B) ∧
  (∀ n b off cs vs, stB n b off (vs.map AV.p) (.box (cs.map AV.p)) = if vs.length = n then (spl cs off vs).map fun cs => ⟨J0n, [(b, .box (cs.map AV.p))]⟩ else none) ∧
  (∀ b off cs v, stB 1 b off [AV.p v] (.box (cs.map AV.p)) = (spl cs off [v]).map fun cs => ⟨J0n, [(b, .box (cs.map AV.p))]⟩) ∧
  (∀ env sto n b e i off v, (J0x n (.ep b e i off) v).run ⟨env, sto⟩ = sto[b]?.bind fun B => stE n b e i off v B ⟨env, sto⟩) ∧
  (∀ n b e i off z c rows s, stE n b e i off (.p c) (.arr true z rows) s = if e = rows.length then rows[i]?.bind fun row => if 1 = n then (spl row off [c]).map fun row => ⟨J0n, [(b, .arr true z (rows.set i row))]⟩ else none else none) ∧
  (∀ n b e i off z cs rows s, stE n b e i off (.data cs) (.arr true z rows) s = if e = rows.length then rows[i]?.bind fun row => if cs.length = n then (spl row off cs).map fun row => ⟨J0n, [(b, .arr true z (rows.set i row))]⟩ else none else none) ∧
  (∀ c, cellsOf (.p c) = some [.p c]) ∧
  (∀ cs, cellsOf (.data cs) = some (cs.map AV.p)) ∧
  (∀ cs, cellsOf (.agg cs) = some cs) ∧
  (∀ f a c, cellsOf (.fn f a c) = some [.fn f a c]) ∧
  (∀ b i n, cellsOf (.slr b i n) = some [.slr b i n]) ∧
  (∀ b o, cellsOf (.ptr b o) = some [.ptr b o]) ∧
  (∀ c, bxP 1 (.p c) = some [.p c]) ∧
  (∀ n cs, bxP n (.data cs) = if cs.length = n then some (cs.map AV.p) else none) ∧
  (∀ n cs, bxP n (.agg cs) = if cs.length = n then some cs else none) ∧
  (∀ b i n, bxP 1 (.slr b i n) = some [.slr b i n]) ∧
  (∀ env sto e rows k n, (J1j e (.p (.sl e rows)) (.p (.i k n))).run ⟨env, sto⟩ = (J6j rows n).map fun row => ⟨.cp row 0, []⟩) ∧
  (∀ env sto e b m k n, (J1j e (.slr b 0 m) (.p (.i k n))).run ⟨env, sto⟩ = sto[b]?.bind fun B => iaB e b m n B) ∧
  (∀ e b m n w rows, iaB e b m n (.arr w e rows) = if m = rows.length ∧ 0 ≤ n ∧ n < m then some ⟨.ep b rows.length n.toNat 0, []⟩ else none) ∧
  (∀ n e b off k i, J64 n e (.ptr b off) (.p (.i k i)) = if 0 ≤ i ∧ i < n then some (.ptr b (off + i.toNat * e)) else none) ∧
  (∀ n e off cs k i, J64 n e (.cp cs off) (.p (.i k i)) = if 0 ≤ i ∧ i < n then some (.cp cs (off + i.toNat * e)) else none) ∧
  (∀ n e b x j off k i, J64 n e (.ep b x j off) (.p (.i k i)) = if 0 ≤ i ∧ i < n then some (.ep b x j (off + i.toNat * e)) else none) ∧
  (∀ l k n, Jc1 (.p (.s l)) (.p (.i k n)) = (JbA l n).map fun v => .p (.i .u8 v)) ∧
  (∀ g n e cs k i, Jal g n e (.agg cs) (.p (.i k i)) = if 0 ≤ i ∧ i < n then J2B g (i.toNat * e) e (.agg cs) else none) ∧
  (∀ g n e cs k i, Jal g n e (.data cs) (.p (.i k i)) = if 0 ≤ i ∧ i < n then (sub cs (i.toNat * e) e).bind (J0K g) else none) ∧
  (∀ env sto c k n new, (cvR (.int c) (.p (.i k n)) new).run ⟨env, sto⟩ = some ⟨.p (.i c (c.wrap n)), []⟩) ∧
  (∀ env sto l new, (cvR .same (.p (.s l)) new).run ⟨env, sto⟩ = some ⟨.p (.s l), []⟩) ∧
  (∀ env sto l new, (cvR .toStr (.p (.sl 1 (l.map (r_i .u8)))) new).run ⟨env, sto⟩ = some ⟨.p (.s (toStr l)), []⟩) ∧
  (∀ env sto b n new, (cvR .toStr (.slr b 0 n) new).run ⟨env, sto⟩ = sto[b]?.bind fun B => cvB n B) ∧
  (∀ n w l, cvB n (.arr w 1 (l.map (r_i .u8))) = if n = l.length then some ⟨.p (.s (toStr l)), []⟩ else none) ∧
  (∀ env sto l new, (cvR (.toBytes false) (.p (.s l)) new).run ⟨env, sto⟩ = some ⟨.p (.sl 1 ((J5c l).map (r_i .u8))), []⟩) ∧
  (∀ env sto l new, (cvR (.toBytes true) (.p (.s l)) new).run ⟨env, sto⟩ = some ⟨.slr new 0 (J5c l).length, [(new, .arr true 1 ((J5c l).map (r_i .u8)))]⟩) ∧
  (∀ env sto, (J13 []).run ⟨env, sto⟩ = some []) ∧
  (∀ env sto off size x r, (J13 ((off, size, x) :: r)).run ⟨env, sto⟩ = (evv x env).bind fun v => (cellsOf v).bind fun cs => ((J13 r).run ⟨env, sto⟩).bind fun l => some ((off, size, cs) :: l)) ∧
  (∀ cs, J0r [] cs = some cs) ∧
  (∀ off size vs cs r, J0r ((off, size, vs.map AV.p) :: r) (cs.map AV.p) = if vs.length = size then (spl cs off vs).bind fun cs => J0r r (cs.map AV.p) else none) ∧
  (∀ off v cs r, J0r ((off, 1, [AV.p v]) :: r) (cs.map AV.p) = (spl cs off [v]).bind fun cs => J0r r (cs.map AV.p)) ∧
  (∀ env sto, (evs []).run ⟨env, sto⟩ = some []) ∧
  (∀ env sto x r, (evs (x :: r)).run ⟨env, sto⟩ = (evv x env).bind fun v => ((evs r).run ⟨env, sto⟩).bind fun vs => some (v :: vs)) ∧
  (∀ n, J1m [] n = []) ∧
  (∀ o e r n, J1m ((o, e) :: r) n = (n, .arr true e []) :: J1m r (n + 1)) ∧
  (∀ n cs, J3F [] n cs = cs) ∧
  (∀ o e r n cs, J3F ((o, e) :: r) n cs = J3F r (n + 1) (cs.set o (.slr n 0 0))) ∧
  (∀ env sto m, (J0Y m []).run ⟨env, sto⟩ = some ([], [])) ∧
  (∀ env sto l, (J0Y [] l).run ⟨env, sto⟩ = (Jq l).run ⟨env, sto⟩) ∧
  (∀ env sto x m r, (J0Y (true :: m) (x :: r)).run ⟨env, sto⟩ = ((J0Y m r).run ⟨env, sto⟩).bind fun c => some (x :: c.1, c.2)) ∧
  (∀ env sto x m r, (J0Y (false :: m) (x :: r)).run ⟨env, sto⟩ = ((Jq [x]).run ⟨env, sto⟩).bind fun a => ((J0Y m r).run ⟨env, sto⟩).bind fun c => some (a.1 ++ c.1, a.2 ++ c.2)) ∧
  (∀ env sto, (Jq []).run ⟨env, sto⟩ = some ([], [])) ∧
  (∀ env sto c r, (Jq (.p c :: r)).run ⟨env, sto⟩ = ((Jq r).run ⟨env, sto⟩).bind fun a => some (.p c :: a.1, a.2)) ∧
  (∀ env sto c r, (Jq (.data c :: r)).run ⟨env, sto⟩ = ((Jq r).run ⟨env, sto⟩).bind fun a => some (.data c :: a.1, a.2)) ∧
  (∀ env sto b o r, (Jq (.ptr b o :: r)).run ⟨env, sto⟩ = ((Jq r).run ⟨env, sto⟩).bind fun a => some (.ptr b o :: a.1, a.2)) ∧
  (∀ env sto c o r, (Jq (.cp c o :: r)).run ⟨env, sto⟩ = ((Jq r).run ⟨env, sto⟩).bind fun a => some (.cp c o :: a.1, a.2)) ∧
  (∀ env sto b x i o r, (Jq (.ep b x i o :: r)).run ⟨env, sto⟩ = ((Jq r).run ⟨env, sto⟩).bind fun a => some (.ep b x i o :: a.1, a.2)) ∧
  (∀ env sto b n r, (Jq (.slr b 0 n :: r)).run ⟨env, sto⟩ = sto[b]?.bind fun B => (frz b n B).bind fun x => ((Jq r).run ⟨env, sto⟩).bind fun a => some (x.1 :: a.1, x.2 :: a.2)) ∧
  (∀ env sto cs r, (Jq (.agg cs :: r)).run ⟨env, sto⟩ = ((fz.fzL cs).run ⟨env, sto⟩).bind fun x => ((Jq r).run ⟨env, sto⟩).bind fun a => some (.data x.1 :: a.1, x.2 ++ a.2)) ∧
  (∀ b n z w rows, frz b n (.arr w z rows) = if n = rows.length then some (.p (.sl z rows), (b, .arr false z rows)) else none) ∧
  (∀ env sto, (fz.fzL []).run ⟨env, sto⟩ = some ([], [])) ∧
  (∀ env sto c r, (fz.fzL (.p c :: r)).run ⟨env, sto⟩ = ((fz.fzL r).run ⟨env, sto⟩).bind fun a => some (c :: a.1, a.2)) ∧
  (∀ env sto b n r, (fz.fzL (.slr b 0 n :: r)).run ⟨env, sto⟩ = sto[b]?.bind fun B => (frp b n B).bind fun x => ((fz.fzL r).run ⟨env, sto⟩).bind fun a => some (x.1 :: a.1, x.2 :: a.2)) ∧
  (∀ b n z w rows, frp b n (.arr w z rows) = if n = rows.length then some (.sl z rows, (b, .arr false z rows)) else none) ∧
  (∀ env sto f a c r, (Jq (.fn f a c :: r)).run ⟨env, sto⟩ = ((Jq r).run ⟨env, sto⟩).bind fun x => some (.fn f a c :: x.1, x.2)) ∧
  (∀ m ids sto f a c, fin m ids sto (.fn f a c) = (fin.finL m ids sto a).bind fun a1 => (fin.finL m ids sto c).bind fun c1 => some (.fn f a1 c1)) ∧
  (∀ f a c l, JJ (.fn f a c) l = JJ.entsOfL c (JJ.entsOfL a l)) ∧
  (∀ ws s, J4a ws s [] [] = True) ∧
  (∀ ws s b bs cs css, J4a ws s (b :: bs) (cs :: css) = ((J4C ws b).run s = some (.box cs) ∧ J4a ws s bs css)) ∧
  (∀ env sto b c x ws, (J4C ((c, x) :: ws) b).run ⟨env, sto⟩ = sto[b]?.bind fun y => some ((J14 b ((c, x) :: ws)).getD y)) ∧
  (∀ b, J14 b [] = none) ∧
  (∀ b c x r, J14 b ((c, x) :: r) = lwO (J14 b r) (if c = b then some x else none)) ∧
  (∀ x y, lwO (some x) y = some x) ∧
  (∀ y, lwO none y = y) ∧
  (∀ {α : Type} (a b : α), (some a).getD b = a) ∧
  (∀ {α : Type} (b : α), (none : Option α).getD b = b) ∧
  (∀ env sto b, (J4C [] b).run ⟨env, sto⟩ = sto[b]?) ∧
  (∀ env sto e rows, (JU e (.p (.sl e rows))).run ⟨env, sto⟩ = some rows) ∧
  (∀ env sto l, (JU 1 (.p (.s l))).run ⟨env, sto⟩ = some ((J5c l).map (r_i .u8))) ∧
  (∀ env sto e b n, (JU e (.slr b 0 n)).run ⟨env, sto⟩ = sto[b]?.bind fun B => roB e n B) ∧
  (∀ e n w rows, roB e n (.arr w e rows) = if n = rows.length then some rows else none) ∧
  (∀ env sto o e n new z ps, (ltR o e n z ps new).run ⟨env, sto⟩ = ((fzs (ps.map (·.2))).run ⟨env, sto⟩).bind fun a => (J1S e ((ps.map (·.1)).zip a.1) (List.replicate n z)).map fun rows => if o then ⟨.slr new 0 n, a.2 ++ [(new, .arr true e rows)]⟩ else ⟨.p (.sl e rows), a.2⟩) ∧
  (∀ env sto, (fzs []).run ⟨env, sto⟩ = some ([], [])) ∧
  (∀ env sto x r, (fzs (x :: r)).run ⟨env, sto⟩ = (evv x env).bind fun v => ((fz v).run ⟨env, sto⟩).bind fun a => ((fzs r).run ⟨env, sto⟩).bind fun c => some (a.1 :: c.1, a.2 ++ c.2)) ∧
  (∀ env sto c, (fz (.p c)).run ⟨env, sto⟩ = some ([c], [])) ∧
  (∀ env sto cs, (fz (.data cs)).run ⟨env, sto⟩ = some (cs, [])) ∧
  (∀ env sto cs, (fz (.agg cs)).run ⟨env, sto⟩ = (fz.fzL cs).run ⟨env, sto⟩) ∧
  (∀ env sto b n, (fz (.slr b 0 n)).run ⟨env, sto⟩ = sto[b]?.bind fun B => (frp b n B).bind fun x => some ([x.1], [x.2])) ∧
  (∀ e rows, J1S e [] rows = some rows) ∧
  (∀ e i c r rows, J1S e ((i, c) :: r) rows = if c.length = e ∧ i < rows.length then J1S e r (rows.set i c) else none) ∧
  (∀ o e b new z k k2 n m, mkP o e b z (.p (.i k n)) (.p (.i k2 m)) new = if 0 ≤ n ∧ n ≤ m ∧ b * m ≤ 281474976710656 ∧ m ≤ 281474976710656 then some (if o then ⟨.slr new 0 n.toNat, [(new, .arr true e (List.replicate n.toNat z))]⟩ else ⟨.p (.sl e (List.replicate n.toNat z)), []⟩) else none) ∧
  (∀ env, J4Z none env = some none) ∧
  (∀ x env, J4Z (some x) env = (evv x env).map some) ∧
  (∀ env sto s c lo hi, (slR s (.p c) lo hi none).run ⟨env, sto⟩ = (slX s (.p c) lo hi).map fun v => ⟨v, []⟩) ∧
  (∀ env sto s b n lo hi, (slR s (.slr b 0 n) lo hi none).run ⟨env, sto⟩ = sto[b]?.bind fun B => (frz b n B).bind fun x => (slX s x.1 lo hi).map fun v => ⟨v, [x.2]⟩) ∧
  (∀ x lo hi, slX .str x lo hi = J60 x lo hi) ∧
  (∀ e x lo hi, slX (.sl e) x lo hi = J65 e x lo hi) ∧
  (∀ n live env sto, J2G n live ⟨env, sto⟩ = if sto.length = n then some ⟨restr live env, sto⟩ else (J4x n sto (restr live env)).bind fun e => (J1z n [] sto (sto.take n)).bind fun l => some ⟨e, l⟩) ∧
  (∀ m sto, J4x m sto [] = some []) ∧
  (∀ m k sto x r, J4x m sto ((k, x) :: r) = (fin m [] sto x).bind fun y => (J4x m sto r).bind fun l => some ((k, y) :: l)) ∧
  (∀ m ids sto, J1z m ids sto [] = some []) ∧
  (∀ m ids sto x r, J1z m ids sto (x :: r) = (J21 m ids sto x).bind fun y => (J1z m ids sto r).bind fun l => some (y :: l)) ∧
  (∀ m ids sto, J21 m ids sto .dead = some .dead) ∧
  (∀ m ids sto w z rows, J21 m ids sto (.arr w z rows) = some (.arr w z rows)) ∧
  (∀ m ids sto cs, J21 m ids sto (.box cs) = (fin.finL m ids sto cs).map .box) ∧
  (∀ (m : Nat) (ids : List Nat) (sto : List Blk) (l : List PV), fin.finL m ids sto (l.map AV.p) = some (l.map AV.p)) ∧
  (∀ m ids sto, fin.finL m ids sto [] = some []) ∧
  (∀ m ids sto x r, fin.finL m ids sto (x :: r) = (fin m ids sto x).bind fun y => (fin.finL m ids sto r).bind fun l => some (y :: l)) ∧
  (∀ m ids sto c, fin m ids sto (.p c) = some (.p c)) ∧
  (∀ m ids sto c, fin m ids sto (.data c) = some (.data c)) ∧
  (∀ m ids sto c o, fin m ids sto (.cp c o) = some (.cp c o)) ∧
  (∀ m ids sto, fin m ids sto (.tup []) = some (.tup [])) ∧
  (∀ m ids sto b off, fin m ids sto (.ptr b off) = if b < m then some (.ptr b off) else (J4j b ids m).map fun k => .ptr k off) ∧
  (∀ m ids sto b n, fin m ids sto (.slr b 0 n) = if b < m then some (.slr b 0 n) else fsl (J4j b ids m) n sto[b]?) ∧
  (∀ k n o, fsl (some k) n o = some (.slr k 0 n)) ∧
  (∀ n z w rows, fsl none n (some (.arr w z rows)) = if n = rows.length then some (.p (.sl z rows)) else none) ∧
  (∀ m ids sto cs, fin m ids sto (.agg cs) = (fin.finL m ids sto cs).bind fun l => some (JdN l (unp l))) ∧
  (∀ m ids sto x cs, fin m ids sto (.tup (x :: cs)) = (fin.finL m ids sto (x :: cs)).map .tup) ∧
  (∀ b k, J4j b [] k = none) ∧
  (∀ b x k r, J4j b (x :: r) k = if x = b then some k else J4j b r (k + 1)) ∧
  (∀ res fresh m env sto, Jab res fresh m ⟨env, sto⟩ = ((J30 res).run ⟨env, sto⟩).bind fun vs => if sto.length = m then some (one vs, sto) else Jfz fresh m vs sto (J0t m fresh sto (J3V sto (JJ.entsOfL vs []) (JJ.entsOfL vs [])))) ∧
  (∀ fresh m vs sto ids, Jfz fresh m vs sto ids = if J2r ids = true then (fin.finL m ids sto vs).bind fun ws => (J1z m ids sto (sto.take m)).bind fun l => (J3C sto ids).bind fun q => (J1z m ids sto q).bind fun q => some (one ws, l ++ q) else none) ∧
  (∀ env sto, (J30 []).run ⟨env, sto⟩ = some []) ∧
  (∀ env sto t r, (J30 (.tmp t :: r)).run ⟨env, sto⟩ = (lk t env).bind fun v => ((J30 r).run ⟨env, sto⟩).bind fun l => some (v :: l)) ∧
  (∀ env sto t n g r, (J30 (.cell t g n :: r)).run ⟨env, sto⟩ = (lk t env).bind fun v => ((J0O g n v).run ⟨env, sto⟩).bind fun e => ((J30 r).run ⟨env, sto⟩).bind fun l => some (e.val :: l)) ∧
  (∀ x, one [x] = x) ∧
  (one [] = .tup []) ∧
  (∀ x y r, one (x :: y :: r) = .tup (x :: y :: r)) ∧
  (∀ m fresh sto, J0t m fresh sto [] = []) ∧
  (∀ m b sto r, J0t m false sto (.whole b :: r) = if b < m then J0t m false sto r else oid b sto[b]? (J0t m false sto r)) ∧
  (∀ m b sto r, J0t m true sto (.whole b :: r) = if b < m then J0t m true sto r else Jdh b sto[b]? (J0t m true sto r)) ∧
  (∀ b cs l, Jdh b (some (.box cs)) l = b :: l) ∧
  (∀ b z w rows l, Jdh b (some (.arr w z rows)) l = b :: l) ∧
  (∀ b cs l, oid b (some (.box cs)) l = b :: l) ∧
  (∀ b z w rows l, oid b (some (.arr w z rows)) l = l) ∧
  (∀ sto acc, J3V sto [] acc = acc) ∧
  (∀ sto b r acc, J3V sto (.whole b :: r) acc = J3V sto r (ebb sto[b]? acc)) ∧
  (∀ cs acc, ebb (some (.box cs)) acc = JJ.entsOfL cs acc) ∧
  (∀ z w rows acc, ebb (some (.arr w z rows)) acc = acc) ∧
  (∀ l, JJ.entsOfL [] l = l) ∧
  (∀ x r l, JJ.entsOfL (x :: r) l = JJ.entsOfL r (JJ x l)) ∧
  (∀ (cs : List PV) (l : List Ent), JJ.entsOfL (cs.map AV.p) l = l) ∧
  (∀ c l, JJ (.p c) l = l) ∧
  (∀ c l, JJ (.data c) l = l) ∧
  (∀ c o l, JJ (.cp c o) l = l) ∧
  (∀ b o l, JJ (.ptr b o) l = J46 (.whole b) l) ∧
  (∀ b i n l, JJ (.slr b i n) l = J46 (.whole b) l) ∧
  (∀ cs l, JJ (.agg cs) l = JJ.entsOfL cs l) ∧
  (∀ cs l, JJ (.tup cs) l = JJ.entsOfL cs l) ∧
  (∀ e, J46 e [] = [e]) ∧
  (∀ b c r, J46 (.whole b) (.whole c :: r) = if c = b then .whole c :: r else .whole c :: J46 (.whole b) r) ∧
  (J2r [] = true) ∧
  (∀ x, J2r [x] = true) ∧
  (∀ sto, J3C sto [] = some []) ∧
  (∀ sto b r, J3C sto (b :: r) = sto[b]?.bind fun x => (J3C sto r).bind fun l => some (x :: l)) ∧
  (∀ {α : Type} (a : α) (l : List α), (a :: l)[0]? = some a) ∧
  (∀ {α : Type} (a : α) (l : List α) (n : Nat), (a :: l)[n + 1]? = l[n]?) ∧
  (∀ {α : Type} (n : Nat), ([] : List α)[n]? = none) ∧
  (∀ {α : Type} (a b : α) (l : List α), (a :: l).set 0 b = b :: l) ∧
  (∀ {α : Type} (a b : α) (l : List α) (n : Nat), (a :: l).set (n + 1) b = a :: l.set n b) ∧
  (∀ {α : Type} (l : List α), [] ++ l = l) ∧
  (∀ {α : Type} (l : List α), l ++ [] = l) ∧
  (∀ {α : Type} (a : α) (l r : List α), (a :: l) ++ r = a :: (l ++ r)) ∧
  (∀ {α : Type} (a : α), List.replicate 0 a = []) ∧
  (∀ {α : Type} (a : α) (n : Nat), List.replicate (n + 1) a = a :: List.replicate n a) ∧
  (∀ {α β : Type} (g : α → β), List.map g [] = []) ∧
  (∀ {α β : Type} (g : α → β) (a : α) (l : List α), List.map g (a :: l) = g a :: List.map g l) ∧
  (∀ {α : Type}, ([] : List α).length = 0) ∧
  (∀ {α : Type} (a : α) (l : List α), (a :: l).length = l.length + 1) ∧
  (∀ {α : Type} (l : List α), l.take 0 = []) ∧
  (∀ {α : Type} (a : α) (l : List α) (n : Nat), (a :: l).take (n + 1) = a :: l.take n) ∧
  (∀ {α β : Type} (l : List β), ([] : List α).zip l = []) ∧
  (∀ {α β : Type} (a : α) (b : β) (l : List α) (r : List β), (a :: l).zip (b :: r) = (a, b) :: l.zip r) ∧
  (∀ n, 0 + n = n) ∧
  (∀ n, n + 0 = n) ∧
  (∀ k n, r_i k n = [.i k n]) ∧
  (∀ x, r_b x = [.b x]) ∧
  (∀ x, r_s x = [.s x]) ∧
  (∀ {α : Type} (e : Nat) (g : α → List PV) (l : List α), JiL e g l = [.sl e (l.map g)]) ∧
  (∀ (a : PV), sub [a] 0 1 = some [a]) ∧
  (∀ (a b : PV), spl [a] 0 [b] = some [b]) ∧
  (∀ {α : Type} (cs : List α), sub cs 0 0 = some []) ∧
  (∀ {α : Type} (a : α) (cs : List α) (n : Nat), sub (a :: cs) 0 (n + 1) = (sub cs 0 n).map (a :: ·)) ∧
  (∀ {α : Type} (a : α) (cs : List α) (n m : Nat), sub (a :: cs) (n + 1) m = sub cs n m) ∧
  (∀ {α : Type} (cs : List α), spl cs 0 [] = some cs) ∧
  (∀ {α : Type} (a b : α) (cs vs : List α), spl (a :: cs) 0 (b :: vs) = (spl cs 0 vs).map (b :: ·)) ∧
  (∀ {α : Type} (a : α) (cs : List α) (n : Nat) (vs : List α), spl (a :: cs) (n + 1) vs = (spl cs n vs).map (a :: ·)) ∧
  (∀ n b off l c cs, stB n b off l (.box (c :: cs)) = if l.length = n then (spl (c :: cs) off l).map fun cs => ⟨J0n, [(b, .box cs)]⟩ else none) ∧
  (∀ off size c a cs r, J0r ((off, size, c) :: r) (a :: cs) = if c.length = size then (spl (a :: cs) off c).bind fun cs => J0r r cs else none) ∧
  (∀ {α : Type} (a b : α), (if True then a else b) = a) ∧
  (∀ {α : Type} (a b : α), (if False then a else b) = b) ∧
  (∀ {α : Type} (a b : α), (if true = true then a else b) = a) ∧
  (∀ {α : Type} (a b : α), (if false = true then a else b) = b) ∧
  (∀ a, (True ∧ a) = a) ∧
  (∀ a, (a ∧ True) = a) ∧
  (∀ {α : Type} (a : α), (a = a) = True) ∧
  (∀ {α β : Type} (a : α) (b : β), (a, b).1 = a) ∧
  (∀ {α β : Type} (a : α) (b : β), (a, b).2 = b) :=
  ⟨by intros; rfl,
  by intros; rfl,
  by intros; rfl,
  by intros; rfl,
  by intros; rfl,
  by intros; rfl,
  by intros; rfl,
  by intros; rfl,
  by intros; rfl,
  by intros; rfl,
  rfl,
  by intros; rfl,
  by intros; rfl,
  by intros; rfl,
  by intros; rfl,
  by intros; rfl,
  by intros; rfl,
  by intros; rfl,
  by intros; rfl,
  by intros; rfl,
  by intros; rfl,
  by intros; rfl,
  by intros; rfl,
  by intros; rfl,
  by intros; rfl,
  by intros; rfl,
  by intros; rfl,
  by intros; rfl,
  by intros; rfl,
  by intros; rfl,
  by intros; rfl,
  by intros; rfl,
  by intros; rfl,
  by intros; rfl,
  by intros; rfl,
  by intros; rfl,
  by intros; rfl,
  by intros; rfl,
  by intros; rfl,
  by intros; rfl,
  by intros; rfl,
  by intros; rfl,
  by intros; rfl,
  by intros; rfl,
  by intros; rfl,
  by intros; rfl,
  by intros; rfl,
  by intros; rfl,
  by intros; rfl,
  by intros; rfl,
  by intros; rfl,
  by intros; rfl,
  by intros; rfl,
  by intros; rfl,
  by intros; rfl,
  by intros; rfl,
  by intros; rfl,
  rfl,
  by intros; rfl,
  by intro k x y; simp only [J04, if_true, J4l, Option.map_some]; try rfl,
  by intro k x y; simp only [J04, if_true, J4l, Option.map_some]; try rfl,
  by intro k x y; simp only [J04, if_true, J4l, Option.map_some]; try rfl,
  by intro k x y; simp only [J04, if_true, J4l, Option.map_some]; try rfl,
  by intro k x y; simp only [J04, if_true, J4l, Option.map_some]; try rfl,
  by intro k x y; simp only [J04, if_true, J4l, Option.map_some]; try rfl,
  by intro k x y; simp only [J04, if_true, J4l, Option.map_some]; try rfl,
  by intro k x y; simp only [J04, if_true, J4l, Option.map_some]; try rfl,
  by intro k x y; simp only [J04, if_true, J4l, Option.map_some]; try rfl,
  by intro k x y; simp only [J04, if_true, J4l, Option.map_some]; try rfl,
  by intro k x y; simp only [J04, if_true, J4l, Option.map_some]; try rfl,
  by intro k x y; simp only [J04, if_true, J4l, Option.map_some]; try rfl,
  by intro k x y; simp only [J04, if_true, J4l, JkS]; split <;> rfl,
  by intro k x y; simp only [J04, if_true, J4l, J7e]; split <;> rfl,
  by intro k k2 x y; simp only [J04, J6L, Jlp]; split <;> rfl,
  by intro k k2 x y; simp only [J04, J6L, J7h]; split <;> rfl,
  by intro x y; simp only [J04, Jdu, J7a]; split <;> rfl,
  by intro x y; rfl,
  by intro x y; rfl,
  by intro x y; rfl,
  by intro x y; rfl,
  by intro x y; rfl,
  by intro x y; rfl,
  by intros; rfl,
  by intros; rfl,
  by intro ks a c; simp only [J04, J4s]; cases J2c ks a c <;> rfl,
  by intro ks a c; simp only [J04, J4s]; cases J2c ks a c <;> rfl,
  by intros; rfl,
  by intros; rfl,
  by intros; rfl,
  by intros; rfl,
  by intros; rfl,
  rfl,
  rfl,
  by intros; rfl,
  by intros; rfl,
  by intros; rfl,
  by intros; rfl,
  by intros; rfl,
  by intro g off n cs; simp only [J2B]; cases sub cs off n <;> rfl,
  by intro g off n c cs; simp only [J2B]; cases sub (c :: cs) off n <;> rfl,
  by intros; rfl,
  by intros; rfl,
  by intro cs; exact J9I cs,
  by intro c cs; simp only [J0D, if_true]; cases unp (c :: cs) <;> rfl,
  by intros; rfl,
  by intros; rfl,
  by intros; rfl,
  by intros; rfl,
  rfl,
  by intro c r; simp only [unp]; cases unp r <;> rfl,
  by intros; rfl,
  by intros; rfl,
  by intros; rfl,
  by intros; rfl,
  by intros; rfl,
  by intros; rfl,
  by intros; rfl,
  by intros; rfl,
  by intro α β g l; simp,
  by intros; rfl,
  by intros; rfl,
  by intros; rfl,
  by intro env sto g n cs off; exact Jjg ..,
  by intro env sto g n b off; exact Jkf ..,
  by intro env sto g n b e i off; exact JjW ..,
  by intro g n off cs; exact JlG ..,
  by intros; rfl,
  by intros; rfl,
  by intro env sto n b off v; exact Jk4 ..,
  by intro n b off cs vs; exact JiS ..,
  by intro b off cs v; exact JlI ..,
  by intro env sto n b e i off v; exact JjK ..,
  by intro n b e i off z c rows s; exact JlD ..,
  by intro n b e i off z cs rows s; exact JlB ..,
  by intros; rfl,
  by intros; rfl,
  by intros; rfl,
  by intros; rfl,
  by intros; rfl,
  by intros; rfl,
  by intros; rfl,
  by intro n cs; exact JkK ..,
  by intros; rfl,
  by intros; rfl,
  by intro env sto e rows k n; exact Ji7 ..,
  by intro env sto e b m k n; exact Jic ..,
  by intro e b m n w rows; exact Jkk ..,
  by intros; rfl,
  by intros; rfl,
  by intros; rfl,
  by intro l k n; exact Jlh ..,
  by intros; rfl,
  by intro g n e cs k i; exact Jlc ..,
  by intros; rfl,
  by intros; rfl,
  @Jma,
  by intro env sto b n new; exact Jid ..,
  @JlO,
  by intro env sto l new; exact Jiv ..,
  by intro env sto l new; exact Jh5 ..,
  by intros; rfl,
  by intro env sto off size x r; exact JkV ..,
  by intros; rfl,
  by intro off size vs cs r; exact Jdw ..,
  by intro off v cs r; exact JhW ..,
  by intros; rfl,
  by intro env sto x r; exact Jlf ..,
  by intros; rfl,
  by intros; rfl,
  by intros; rfl,
  by intros; rfl,
  by intro env sto m; cases m <;> rfl,
  by intro env sto l; rw [Jc4],
  by intro env sto x m r; exact JjG ..,
  by intro env sto x m r; exact Jj3 ..,
  by intros; rfl,
  by intro env sto c r; exact J7l _ _ rfl ..,
  by intro env sto c r; exact J7l _ _ rfl ..,
  by intro env sto b o r; exact J7l _ _ rfl ..,
  by intro env sto c o r; exact J7l _ _ rfl ..,
  by intro env sto b x i o r; exact J7l _ _ rfl ..,
  by intro env sto b n r; exact JhV ..,
  by intro env sto cs r; exact Jif ..,
  @fr,
  by intros; rfl,
  by intro env sto c r; exact Jhu ..,
  by intro env sto b n r; exact JhU ..,
  by intros; rfl,
  by intro env sto f a c r; exact J7l _ _ rfl ..,
  by intro m ids sto f a c; exact Jk0 ..,
  by intros; rfl,
  by intros; rfl,
  by intros; rfl,
  by intro env sto b c x ws; exact Jjz ..,
  by intros; rfl,
  by intro b c x r; exact Jl6 ..,
  by intros; rfl,
  by intros; rfl,
  by intros; rfl,
  by intros; rfl,
  by intro env sto b; exact JkB ..,
  by intro env sto e rows; exact JhR ..,
  by intro env sto l; exact Jhm ..,
  by intro env sto e b n; exact JhH ..,
  by intro e n w rows; exact JhP ..,
  by intro env sto o e n new z ps; exact Jlj ..,
  by intros; rfl,
  by intro env sto x r; exact Jky ..,
  by intros; rfl,
  by intros; rfl,
  by intros; rfl,
  by intro env sto b n; exact Jgl ..,
  by intros; rfl,
  by intros; rfl,
  @mk,
  by intros; rfl,
  by intros; rfl,
  by intro env sto s c lo hi; exact JhY ..,
  by intro env sto s b n lo hi; exact Jim ..,
  by intros; rfl,
  by intros; rfl,
  @cl,
  by intros; rfl,
  by intro m k sto x r; exact JkP ..,
  by intros; rfl,
  by intro m ids sto x r; exact JkJ ..,
  by intros; rfl,
  by intros; rfl,
  by intro m ids sto cs; exact Jk9 ..,
  by intro m ids sto l; exact Jc7 m ids sto l,
  by intros; rfl,
  by intro m ids sto x r; exact Jlo ..,
  by intros; rfl,
  by intros; rfl,
  by intros; rfl,
  by intros; rfl,
  by intros; rfl,
  by intro m ids sto b n; exact Jke ..,
  by intros; rfl,
  by intros; rfl,
  by intro m ids sto cs; exact Jjr ..,
  by intro m ids sto x cs; exact Jjy ..,
  by intros; rfl,
  by intros; rfl,
  by intros; rfl,
  by intros; rfl,
  by intros; rfl,
  by intro env sto t r; exact Jiw ..,
  by intro env sto t n g r; exact JiM ..,
  by intros; rfl,
  rfl,
  by intros; rfl,
  by intros; rfl,
  by intro m b sto r; exact Jl7 ..,
  by intro m b sto r; exact JjZ ..,
  by intros; rfl,
  by intros; rfl,
  by intros; rfl,
  by intros; rfl,
  by intros; rfl,
  by intro sto b r acc; exact Jlb ..,
  by intros; rfl,
  by intros; rfl,
  by intros; rfl,
  by intros; rfl,
  by intro cs l; exact Jgw cs l,
  by intros; rfl,
  by intros; rfl,
  by intros; rfl,
  by intros; rfl,
  by intros; rfl,
  by intros; rfl,
  by intros; rfl,
  by intros; rfl,
  by intro b c r; exact JkC ..,
  rfl,
  by intros; rfl,
  by intros; rfl,
  by intro sto b r; exact Jl0 ..,
  by intros; rfl,
  by intros; rfl,
  by intros; rfl,
  by intros; rfl,
  by intros; rfl,
  @JkO,
  @JkL,
  @Jkv,
  by intros; rfl,
  by intros; rfl,
  @Jlg,
  @JkU,
  @JkF,
  @Jlq,
  by intros; rfl,
  by intros; rfl,
  by intros; rfl,
  by intros; rfl,
  by intro n; exact Nat.zero_add n,
  by intros; rfl,
  @JkQ,
  @Jku,
  @JiX,
  @JkR,
  @s1,
  by intros; rfl,
  by intro α cs; rw [J3M]; simp,
  by intro α a cs n; exact Jhc ..,
  by intro α a cs n m; exact Jil ..,
  by intro α cs; rw [J4f]; simp,
  by intro α a b cs vs; exact Jhs ..,
  by intro α a cs n vs; exact JiE ..,
  by intros; rfl,
  by intro off size c a cs r; exact Jht ..,
  by intros; rfl,
  by intros; rfl,
  by intros; rfl,
  by intros; rfl,
  by intro a; simp,
  by intro a; simp,
  by intro α a; simp,
  by intros; rfl,
  by intros; rfl⟩
set_option maxRecDepth 30000 in
theorem Nf : (∀ {α : Type} (l : List α), [] ++ l = l) ∧
  (∀ {α : Type} (l : List α), l ++ [] = l) ∧
  (∀ {α : Type} (a : α) (l r : List α), (a :: l) ++ r = a :: (l ++ r)) ∧
  (∀ {α β : Type} (g : α → β), List.map g [] = []) ∧
  (∀ {α β : Type} (g : α → β) (a : α) (l : List α), List.map g (a :: l) = g a :: List.map g l) ∧
  (∀ {α : Type}, ([] : List α).length = 0) ∧
  (∀ {α : Type} (a : α) (l : List α), (a :: l).length = l.length + 1) ∧
  (∀ k n, r_i k n = [.i k n]) ∧
  (∀ x, r_b x = [.b x]) ∧
  (∀ x, r_s x = [.s x]) ∧
  (∀ {α : Type} (e : Nat) (g : α → List PV) (l : List α), JiL e g l = [.sl e (l.map g)]) :=
  ⟨@JkO,
  @JkL,
  @Jkv,
  @Jlg,
  @JkU,
  @JkF,
  @Jlq,
  @JkQ,
  @Jku,
  @JiX,
  @JkR⟩
set_option maxRecDepth 30000 in
theorem Ra : (∀ F new env sto g n x, rdO F (.load g n x) new ⟨env, sto⟩ = rb (evv x env) fun a => Jb ((J0O g n a).reads ⟨env, sto⟩)) ∧
  (∀ s g n b o, Jb ((J0O g n (.ptr b o)).reads s) = [b]) ∧
  (∀ s g n o cs, Jb ((J0O g n (.cp cs o)).reads s) = []) ∧
  (∀ s g n b e i o, Jb ((J0O g n (.ep b e i o)).reads s) = [b]) ∧
  (∀ F new s z, rdO F (.newbox z) new s = [new]) ∧
  (∀ F new env sto n x y, rdO F (.store n x y) new ⟨env, sto⟩ = rb (evv x env) fun a => rb (evv y env) fun c => Jb ((J0x n a c).reads ⟨env, sto⟩)) ∧
  (∀ s n b o v, Jb ((J0x n (.ptr b o) v).reads s) = [b]) ∧
  (∀ s n b e i o c, Jb ((J0x n (.ep b e i o) (.p c)).reads s) = [b]) ∧
  (∀ s n b e i o c, Jb ((J0x n (.ep b e i o) (.data c)).reads s) = [b]) ∧
  (∀ F new env sto g args, rdO F (.call g args 0) new ⟨env, sto⟩ = rb ((evs args).run ⟨env, sto⟩) fun a => Jb ((Jq a).reads ⟨env, sto⟩) ++ rb ((Jq a).run ⟨env, sto⟩) fun a => Jb ((Jx F g a 0 new).reads ⟨env, sto⟩)) ∧
  (∀ F new env sto g args, rdO F (.call g args 1) new ⟨env, sto⟩ = new :: rb (is1 sto[new]?) fun _ => rb ((evs args).run ⟨env, sto⟩) fun a => Jb ((Jq a).reads ⟨env, sto⟩) ++ rb ((Jq a).run ⟨env, sto⟩) fun a => Jb ((Jx F g a 1 new).reads ⟨env, sto⟩)) ∧
  (is1 (some .dead) = some ()) ∧
  (∀ {α β : Type} (a : α) (f : α → List β), rb (some a) f = f a) ∧
  (∀ F new env sto g args, rdO F (.callv g args 0) new ⟨env, sto⟩ = rb (evv g env) fun u => cvl u fun h a1 c1 => rb ((evs args).run ⟨env, sto⟩) fun a => Jb ((Jq (a1 ++ a ++ c1)).reads ⟨env, sto⟩) ++ rb ((Jq (a1 ++ a ++ c1)).run ⟨env, sto⟩) fun a => Jb ((Jx F h a 0 new).reads ⟨env, sto⟩)) ∧
  (∀ {α : Type} (f : FuncId) (a c : List AV) (k : FuncId → List AV → List AV → List α), cvl (.fn f a c) k = k f a c) ∧
  (∀ s, Jb ((Jq []).reads s) = []) ∧
  (∀ s c r, Jb ((Jq (.p c :: r)).reads s) = Jb ((Jq r).reads s)) ∧
  (∀ s c r, Jb ((Jq (.data c :: r)).reads s) = Jb ((Jq r).reads s)) ∧
  (∀ s b o r, Jb ((Jq (.ptr b o :: r)).reads s) = Jb ((Jq r).reads s)) ∧
  (∀ s c o r, Jb ((Jq (.cp c o :: r)).reads s) = Jb ((Jq r).reads s)) ∧
  (∀ s b x i o r, Jb ((Jq (.ep b x i o :: r)).reads s) = Jb ((Jq r).reads s)) ∧
  (∀ s b n r, Jb ((Jq (.slr b 0 n :: r)).reads s) = b :: rb ((J42 (.slr b 0 n)).run s) fun _ => Jb ((Jq r).reads s)) ∧
  (∀ F new s e n z ps, rdO F (.lits false e n z ps) new s = Jb ((fzs (ps.map (·.2))).reads s)) ∧
  (∀ F new env sto e n z ps, rdO F (.lits true e n z ps) new ⟨env, sto⟩ = new :: rb (is1 sto[new]?) fun _ => Jb ((fzs (ps.map (·.2))).reads ⟨env, sto⟩)) ∧
  (∀ s, Jb ((fzs []).reads s) = []) ∧
  (∀ env sto x r, Jb ((fzs (x :: r)).reads ⟨env, sto⟩) = rb (evv x env) fun v => Jb ((fz v).reads ⟨env, sto⟩) ++ rb ((fz v).run ⟨env, sto⟩) fun _ => Jb ((fzs r).reads ⟨env, sto⟩)) ∧
  (∀ s c, Jb ((fz (.p c)).reads s) = []) ∧
  (∀ s c, Jb ((fz (.data c)).reads s) = []) ∧
  (∀ s b n, Jb ((fz (.slr b 0 n)).reads s) = [b]) ∧
  (∀ F new env sto x, rdO F (.conv .toStr x) new ⟨env, sto⟩ = rb (evv x env) fun a => Jb ((JU 1 a).reads ⟨env, sto⟩)) ∧
  (∀ s e b n, Jb ((JU e (.slr b 0 n)).reads s) = [b]) ∧
  (∀ s e z rows, Jb ((JU e (.p (.sl z rows))).reads s) = []) ∧
  (∀ F new env sto e x i, rdO F (.iaddr e x i) new ⟨env, sto⟩ = rb (evv x env) fun a => rb (evv i env) fun c => Jb ((J1j e a c).reads ⟨env, sto⟩)) ∧
  (∀ s e b n k i, Jb ((J1j e (.slr b 0 n) (.p (.i k i))).reads s) = [b]) ∧
  (∀ s e z rows k i, Jb ((J1j e (.p (.sl z rows)) (.p (.i k i))).reads s) = []) ∧
  (∀ a b c d, pkk (some (a, b)) (some (c, d)) = (J2K b c && J2K b d && J2K a d)) ∧
  (∀ b, J2K [] b = true) ∧
  (∀ x a b, J2K (x :: a) b = (!(b.contains x) && J2K a b)) ∧
  (∀ x, ([] : List Nat).contains x = false) ∧
  (∀ (x y : Nat) (l : List Nat), (y :: l).contains x = (x == y || l.contains x)) ∧
  (∀ a, (true && a) = a) ∧
  (∀ a, (false && a) = false) ∧
  (∀ a, (true || a) = true) ∧
  (∀ a, (false || a) = a) :=
  ⟨by intro F new env sto g n x; exact Jk8 ..,
  by intro s g n b o; exact Jkb ..,
  by intro s g n o cs; exact Jks ..,
  by intro s g n b e i o; exact Jll ..,
  by intro F new s z; exact Jhb ..,
  by intro F new env sto n x y; exact Jix ..,
  by intro s n b o v; exact Jj4 ..,
  by intro s n b e i o c; exact JhG ..,
  by intro s n b e i o c; exact Jhp ..,
  by intro F new env sto g args; exact JhD ..,
  by intro F new env sto g args; exact Jhn ..,
  rfl,
  by intros; rfl,
  by intro F new env sto g args; exact Jga ..,
  by intros; rfl,
  by intros; rfl,
  by intro s c r; exact J6J s rfl r,
  by intro s c r; exact J6J s rfl r,
  by intro s b o r; exact J6J s rfl r,
  by intro s c o r; exact J6J s rfl r,
  by intro s b x i o r; exact J6J s rfl r,
  by intro s b n r; exact JjB ..,
  by intro F new s e n z ps; exact Jib ..,
  by intro F new env sto e n z ps; exact Ji5 ..,
  by intros; rfl,
  by intro env sto x r; exact JkH ..,
  by intros; rfl,
  by intros; rfl,
  by intro s b n; exact J8F ..,
  by intro F new env sto x; exact JhF ..,
  by intro s e b n; exact JgJ ..,
  by intro s e z rows; exact Ji1 ..,
  by intro F new env sto e x i; exact JhC ..,
  by intro s e b n k i; exact Jgg ..,
  by intro s e z rows k i; exact JhS ..,
  by intros; rfl,
  by intros; rfl,
  by intro x a b; simp [J2K],
  by intros; rfl,
  by intro x y l; rw [List.contains_cons],
  by intro a; simp,
  by intro a; simp,
  by intro a; simp,
  by intro a; simp⟩
end Go.Am
end
