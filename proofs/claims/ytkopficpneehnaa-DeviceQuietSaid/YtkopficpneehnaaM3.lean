/-
  Parts of a proof.
-/
import Derived.Below
import Derived.Test.YtkopficpneehnaaM1
import Derived.Test.YtkopficpneehnaaM2
set_option linter.unusedSimpArgs false
set_option linter.unusedVariables false
section
namespace Go.Am
@[congr] theorem Jrh {o o' : Option Out} {k : St → Option Out} (h : o = o') : thn o k = thn o' k := by rw [h]
@[congr] theorem JqM {α β : Type} {o o' : RM α} {f : α → RM β} (h : o = o') : o.bind f = o'.bind f := by rw [h]
@[congr] theorem JqN {α β : Type} {o o' : Option α} {f : α → Option β} (h : o = o') : o.bind f = o'.bind f := by rw [h]
@[simp] theorem J5y (s k) : thn (some (.normal, s)) k = k s := rfl
@[simp] theorem JmY (i s k) : thn (some (.exit i, s)) k = some (.exit i, s) := rfl
@[simp] theorem Jom (s k) : thn (some (.ret, s)) k = some (.ret, s) := rfl
@[simp] theorem Jnh (k) : thn none k = none := rfl
def JhK (o : Option Out) (k : St → Option Out) : Option Out :=
  match o with
  | some (.normal, s) => k s
  | _ => none
@[congr] theorem Jr7 {o o' : Option Out} {k : St → Option Out} (h : o = o') : JhK o k = JhK o' k := by rw [h]
@[simp] theorem Jii (s k) : JhK (some (.normal, s)) k = k s := rfl
def blo (id : Nat) (o : Option Out) : Option Out :=
  match o with
  | some (.exit k, s) => if k = id then some (.normal, s) else some (.exit k, s)
  | o => o
@[simp] theorem JkB (id s) : blo id (some (.normal, s)) = some (.normal, s) := rfl
@[simp] theorem Jhy (id i s) : blo id (some (.exit i, s)) = if i = id then some (.normal, s) else some (.exit i, s) := rfl
@[simp] theorem Jpn (id s) : blo id (some (.ret, s)) = some (.ret, s) := rfl
@[simp] theorem Jn0 (id) : blo id none = none := rfl
def nrm (o : Option St) : Option Out := match o with
  | some s => some (.normal, s)
  | none => none
@[simp] theorem Jmn (s) : nrm (some s) = some (.normal, s) := rfl
@[simp] theorem JnJ : nrm none = none := rfl
def evv (x : Opd) (env : List (Nat × AV)) : Option AV := match x with
  | .t n => lk n env
  | .c v => some v
@[simp] theorem JrN (n env) : evv (.t n) env = lk n env := rfl
@[simp] theorem JrO (v env) : evv (.c v) env = some v := rfl
theorem Jdb (x : Opd) (s : St) : (ev x).run s = evv x s.env := by
  cases x with
  | t n => simp only [ev, RM.run, evv]; cases lk n s.env <;> rfl
  | c v => rfl
section
variable (T : J1y)
@[simp ↓] theorem JqH (s) : X T .skip s = some (.normal, s) := by rw [J61]; rfl
@[simp ↓] theorem Jo3 (a b s) : X T (.seq a b) s = thn (X T a s) fun s => X T b s := by
  rw [J61]; simp only [step]
  cases X T a s with
  | none => rfl
  | some o => obtain ⟨e, s'⟩ := o; cases e <;> rfl
theorem JnZ (d ps ins s) : X T (.reg d ps ins) s = nrm (region (AF T) ps ins s) := by
  rw [J61]; simp only [step]
  show (match region (AF T) ps ins s with | some s' => some (AX.normal, s') | none => none) = _
  cases region (AF T) ps ins s <;> rfl
@[simp ↓] theorem JrL (d ins env sto) : X T (.reg d [] ins) ⟨env, sto⟩ = nrm (J1d (AF T) ins sto.length ⟨env, room (news ins) sto⟩) := by
  rw [JnZ]; rfl
def cnd (x : Option AV) (a b : Option Out) (c : Unit → Option Out) : Option Out :=
  match x with
  | some (.p (.b x)) => if x = true then a else b
  | some .unk => c ()
  | _ => none
@[congr] theorem Jre {x x' : Option AV} {a b : Option Out} {c : Unit → Option Out} (h : x = x') : cnd x a b c = cnd x' a b c := by rw [h]
@[simp] theorem Jo4 (x a b c) : cnd (some (.p (.b x))) a b c = if x = true then a else b := rfl
@[simp] theorem Jpr (a b c) : cnd (some .unk) a b c = c () := rfl
@[simp ↓] theorem JpI (x a b s) : X T (.cond x a b) s = cnd (evv x s.env) (X T a s) (X T b s) fun _ => same (X T a s) (X T b s) := by
  rw [J61]; simp only [step, Jdb]
  cases evv x s.env with
  | none => rfl
  | some v =>
    cases v with
    | p c => cases c <;> rfl
    | _ => rfl
@[simp ↓] theorem JoE (id c s) : X T (.block id c) s = blo id (X T c s) := by
  rw [J61]; simp only [step]
  cases X T c s with
  | none => rfl
  | some o => obtain ⟨e, s'⟩ := o; cases e <;> rfl
@[simp ↓] theorem Jpv (c s) : X T (.scope c) s = X T c s := by rw [J61]; rfl
@[simp ↓] theorem Jq0 (id s) : X T (.exit id) s = some (.exit id, s) := by rw [J61]; rfl
@[simp ↓] theorem Jr3 (s) : X T .ret s = some (.ret, s) := by rw [J61]; rfl
@[simp ↓] theorem Jls (live c s) : X T (.keep live c) s = X T c ⟨restr live s.env, s.sto⟩ := by rw [J61]; rfl
@[simp ↓] theorem JrQ (live pre x a b rest s) : X T (.br live pre x a b rest) s = JhK (X T pre s) fun s1 =>
    cnd (evv x s1.env) (thn (X T a s1) fun s => X T rest s) (thn (X T b s1) fun s => X T rest s) fun _ =>
      same (J38 s1.sto.length live (thn (X T a s1) fun s => X T rest s)) (J38 s1.sto.length live (thn (X T b s1) fun s => X T rest s)) := by
  rw [J61]; simp only [step, Jdb]
  cases X T pre s with
  | none => rfl
  | some o =>
    obtain ⟨e, s1⟩ := o
    cases e with
    | normal =>
      dsimp only [JhK]
      cases evv x s1.env with
      | none => rfl
      | some v =>
        cases v with
        | p c => cases c <;> rfl
        | _ => rfl
    | exit => rfl
    | ret => rfl
@[simp ↓] theorem Jq1 (live c env sto) : X T (.loop live c) ⟨env, sto⟩ = X T (.lp sto.length live c) ⟨restr live env, sto⟩ := by
  rw [J61]; simp [step, clean]
theorem Jm7 (n live c s) : X T (.lp n live c) s = thn (X T c s) fun s => match clean n live s with
    | some s => X T (.lp n live c) s
    | none => none := by
  rw [J61]; simp only [step]
  cases X T c s with
  | none => rfl
  | some o => obtain ⟨e, s'⟩ := o; cases e <;> rfl
def JgE (res : List Ja3) (fresh : Bool) (m : Nat) (o : Option Out) : Option Res :=
  match o with
  | some (.normal, s) => J1u ⟨0, 0, .skip, res, fresh⟩ m s
  | some (.ret, s) => J1u ⟨0, 0, .skip, res, fresh⟩ m s
  | _ => none
@[congr] theorem Jr1 {res : List Ja3} {fresh : Bool} {m : Nat} {o o' : Option Out} (h : o = o') : JgE res fresh m o = JgE res fresh m o' := by rw [h]
@[simp] theorem Ji3 (res fresh m s) : JgE res fresh m (some (.normal, s)) = J1u ⟨0, 0, .skip, res, fresh⟩ m s := rfl
@[simp] theorem Jnl (res fresh m s) : JgE res fresh m (some (.ret, s)) = J1u ⟨0, 0, .skip, res, fresh⟩ m s := rfl
theorem Jp3 {f : FuncId} {k : J4P} (h : T f = some (.fork k)) (args blks) : AF T f args blks = if args.length = k.np then J6N (X T) k args blks else none := by
  unfold AF J5w; rw [h]
@[simp] theorem Jr6 (o : Option Res) : JcS o o = o := by unfold JcS; cases o <;> simp
theorem JqU {f : FuncId} {fn : AFn} (h : T f = some (.fn fn)) (args blks) : AF T f args blks = if args.length = fn.np then
    JgE fn.res fn.fresh blks.length (X T fn.body ⟨J4v 0 args, blks⟩)
  else none := by
  unfold AF J5w; rw [h]; rfl
end
variable {F : Orc} {env : List (Nat × AV)} {sto : List Blk} {new : Nat} {r : List J0h} {d : Nat}
@[simp] theorem Jjz (s) : J1d F [] new s = some s := rfl
theorem Ji4 (i s) : J1d F (i :: r) new s = ((J0e F i new).run s).bind fun e => J1d F r (new + J2s i.op) (put i.dst e s) := by
  simp only [J1d]; cases (J0e F i new).run s <;> rfl
@[simp] theorem Jrt : news [] = 0 := rfl
@[simp ↓] theorem Jrg (i) : news (i :: r) = J2s i.op + news r := rfl
@[simp] theorem JrK : room 0 sto = sto := rfl
@[simp] theorem Jrd (n) : room (n + 1) sto = sto ++ List.replicate (n + 1) .dead := rfl
@[simp] theorem JrJ (n) : lk n [] = none := rfl
@[simp] theorem Job (n m v) (r : List (Nat × AV)) : lk n ((m, v) :: r) = if n = m then some v else lk n r := rfl
attribute [simp ↓] Ji4 J0e opD J6O J2s run_bind Jdb opR
attribute [simp] put val evs evo J1E J1V
  J6r Jco JbS unP J4u JgJ fz fz.fzL fz.fz1 fzs J3O J1U J1H sub spl J4B Jd0 Jeu J9P JaA J3b JcU Jau J39 J2l J6e J6l J0U J3l J3Q mmP cellsOf unp J3c J2i
  J6p one J4v J0H J7a J1T
@[simp] theorem Jrc (o : Option Out) : same o o = o := by unfold same; cases o <;> simp
@[simp ↓] theorem Je {α : Type} (a : α) (s : St) : (RM.ret a).run s = some a := rfl
@[simp ↓] theorem Jn8 {α : Type} (s : St) : (RM.fail : RM α).run s = none := rfl
@[simp ↓] theorem J3U {α : Type} (n : Nat) (k : AV → RM α) (s : St) : (RM.slot n k).run s = (lk n s.env).bind fun v => (k v).run s := by simp only [RM.run]; cases lk n s.env <;> rfl
@[simp ↓] theorem J0g {α : Type} (n : Nat) (k : Blk → RM α) (s : St) : (RM.blk n k).run s = (s.sto[n]?).bind fun v => (k v).run s := by simp only [RM.run]; cases s.sto[n]? <;> rfl
@[simp] theorem Joc : upd [] sto = sto := rfl
@[simp] theorem Jnw (b x ws) : upd ((b, x) :: ws) sto = upd ws (sto.set b x) := rfl
@[simp] theorem Jri : restr [] env = [] := rfl
@[simp] theorem JjJ (k l) : restr (k :: l) env = match lk k env with
    | some v => (k, v) :: restr l env
    | none => restr l env := rfl
end Go.Am
namespace Go.Am
def J3Y : AV → Bool
  | .p _ | .data _ | .cp _ _ | .unk => true
  | _ => false
@[simp] theorem Jrj (c) : J3Y (.p c) = true := rfl
@[simp] theorem JqP (c) : J3Y (.data c) = true := rfl
@[simp] theorem Jrf (c o) : J3Y (.cp c o) = true := rfl
theorem JcT : ∀ {args : List AV} {l : List Ent}, args.all J3Y = true → JM.entsOfL args l = l
  | [], l, _ => rfl
  | x :: r, l, h => by
    simp only [List.all_cons, Bool.and_eq_true] at h
    obtain ⟨h1, h2⟩ := h
    simp only [JM.entsOfL]
    cases x <;> simp [J3Y] at h1 <;> simp only [JM] <;> exact JcT h2
theorem JeT {ρ : Ent → Option Nat} : ∀ {args : List AV}, args.all J3Y = true → ren.renL ρ args = some args
  | [], _ => rfl
  | x :: r, h => by
    simp only [List.all_cons, Bool.and_eq_true] at h
    have := JeT (ρ := ρ) h.2
    have h1 := h.1
    clear h
    cases x <;> simp [J3Y] at h1 <;> simp [ren.renL, ren, this]
theorem JnK {es : List Ent} {new : Nat} {x : AV} (h : J3Y x = true) : bk es new x = some x := by
  cases x <;> simp [J3Y] at h <;> rfl
theorem Jav {es : List Ent} {new : Nat} : ∀ {xs : List AV}, xs.all J3Y = true → bk.bkL es new xs = some xs
  | [], _ => rfl
  | x :: r, h => by
    simp only [List.all_cons, Bool.and_eq_true] at h
    simp [bk.bkL, JnK h.1, Jav h.2]
@[simp] theorem JrP (es new c) : bk es new (.p c) = some (.p c) := rfl
@[simp] theorem JrI (es new c) : bk es new (.data c) = some (.data c) := rfl
@[simp] theorem JrM (es new l) : bk es new (.tup l) = (bk.bkL es new l).map .tup := by simp only [bk]; cases bk.bkL es new l <;> rfl
@[simp] theorem JrH (es new) : bk.bkL es new [] = some [] := rfl
@[simp] theorem Jrz (es new x l) : bk.bkL es new (x :: l) = (bk es new x).bind fun y => (bk.bkL es new l).map fun l => y :: l := by
  simp only [bk.bkL]; cases bk es new x <;> simp; cases bk.bkL es new l <;> rfl
@[simp] theorem JqO (n live) : J38 n live none = none := rfl
@[simp] theorem Jia (n live e s) : J38 n live (some (e, s)) = (clean n live s).map fun s => (e, s) := by
  simp only [J38]; cases clean n live s <;> rfl
attribute [simp ↓] Option.bind_some Option.bind_none J5y JmY Jom Jnh Jii Jmn JnJ Jo4 Jpr JkB Jhy Jpn Jn0 Ji3 Jnl Jjz Job JjJ Joc Jnw
attribute [simp] clean Ja4 J65 J2g fin fin.finL J1u J22 J66 JM JM.entsOfL J6b J23 J7G J1Y unp
end Go.Am
end
section
namespace Go.Am
inductive Fr where
  | sq (b : JT)
  | bl (id : Nat)
  | td (n : Nat) (live : List Nat)
  | lo (n : Nat) (live : List Nat) (c : JT)
noncomputable def again (T : J1y) (n : Nat) (live : List Nat) (c : JT) (o : Option St) : Option Out := match o with
  | some s => X T (.lp n live c) s
  | none => none
section
variable (T : J1y) (f : AFn) (m : Nat) (k : List Fr)
theorem JpL (live c s) : X T (.tidy live c) s = J38 s.sto.length live (X T c s) := by rw [J61]; rfl
end
open Classical in
noncomputable def J0W {σ ρ : Type} (f : σ → Option (σ ⊕ ρ)) (s : σ) : Option ρ :=
  let it : Nat → σ → Option ρ := fun n => n.rec (fun _ => none) fun _ ih s => match f s with
    | some (.inl s') => ih s'
    | some (.inr r) => some r
    | none => none
  if h : ∃ n r, it n s = some r then it (Classical.choose h) s else none
def J4n {σ ρ : Type} (f : σ → Option (σ ⊕ ρ)) : Nat → σ → Option ρ
  | 0, _ => none
  | n + 1, s => match f s with
    | some (.inl s') => J4n f n s'
    | some (.inr r) => some r
    | none => none
section
variable {σ ρ : Type} {f : σ → Option (σ ⊕ ρ)}
theorem Je5 (n : Nat) : ∀ s : σ, (Nat.rec (motive := fun _ => σ → Option ρ) (fun _ => none) (fun _ ih s => match f s with
    | some (.inl s') => ih s'
    | some (.inr r) => some r
    | none => none) n) s = J4n f n s := by
  induction n with
  | zero => intro s; rfl
  | succ n ih => intro s; simp only [J4n]; split <;> first | rfl | exact ih _
theorem Ja1 : ∀ {n : Nat} {s : σ} {r : ρ} (m : Nat), J4n f n s = some r → J4n f (n + m) s = some r
  | 0, _, _, _, h => by cases h
  | n + 1, s, r, m, h => by
    rw [show n + 1 + m = (n + m) + 1 by omega]
    simp only [J4n] at h ⊢
    split at h
    · exact Ja1 m h
    · exact h
    · cases h
theorem JmM {n m : Nat} {s : σ} {r r' : ρ} (h : J4n f n s = some r) (h' : J4n f m s = some r') : r = r' := by
  have a := Ja1 m h
  have b := Ja1 n h'
  rw [Nat.add_comm m n] at b
  rw [a] at b; injection b
theorem J7K {s : σ} {r : ρ} : J0W f s = some r ↔ ∃ n, J4n f n s = some r := by
  unfold J0W
  dsimp only
  constructor
  · intro h
    split at h
    · exact ⟨_, by rw [← Je5]; exact h⟩
    · cases h
  · rintro ⟨n, h⟩
    have hex : ∃ n r, (Nat.rec (motive := fun _ => σ → Option ρ) (fun _ => none) (fun _ ih s => match f s with
      | some (.inl s') => ih s'
      | some (.inr r) => some r
      | none => none) n) s = some r := ⟨n, r, by rw [Je5]; exact h⟩
    rw [dif_pos hex]
    obtain ⟨r', hr⟩ := Classical.choose_spec hex
    rw [hr]
    rw [Je5] at hr
    rw [JmM hr h]
theorem Jjy {s : σ} {r : ρ} (h : f s = some (.inr r)) : J0W f s = some r := J7K.2 ⟨1, by simp only [J4n, h]⟩
theorem JjM {s s' : σ} (h : f s = some (.inl s')) : J0W f s = J0W f s' := by
  have key : ∀ r, J0W f s = some r ↔ J0W f s' = some r := by
    intro r
    rw [J7K, J7K]
    constructor
    · rintro ⟨n, hn⟩
      cases n with
      | zero => cases hn
      | succ n => simp only [J4n, h] at hn; exact ⟨n, hn⟩
    · rintro ⟨n, hn⟩
      exact ⟨n + 1, by simp only [J4n, h]; exact hn⟩
  cases hs : J0W f s with
  | some r => exact ((key r).1 hs).symm
  | none =>
    cases hs' : J0W f s' with
    | none => rfl
    | some r => rw [(key r).2 hs'] at hs; cases hs
theorem JkP {P : σ → ρ → Prop} (h1 : ∀ s r, f s = some (.inr r) → P s r) (h2 : ∀ s s' r, f s = some (.inl s') → P s' r → P s r) {s : σ} {r : ρ} (h : J0W f s = some r) : P s r := by
  obtain ⟨n, hn⟩ := J7K.1 h
  clear h
  induction n generalizing s with
  | zero => cases hn
  | succ n ih =>
    simp only [J4n] at hn
    split at hn
    · rename_i h; exact h2 _ _ _ h (ih hn)
    · rename_i h; injection hn with hn; subst hn; exact h1 _ _ h
    · cases hn
end
end Go.Am
end
section
namespace Go.Am
section
variable {α : Type}
def idx (l : List α) (n : Int) : Option α := if 0 ≤ n then l[n.toNat]? else none
def inb (k : Nat) (n : Int) : Option Unit := if 0 ≤ n ∧ n < k then some () else none
def Jev (bytes : Nat) (l l' : List α) : Option (List α) := if J3l (l.length + l'.length) bytes = true then some (l ++ l') else none
def cloS (bytes : Nat) (l : List α) : Option (List α) := if J3l l.length bytes = true then some l else none
def JpJ (bytes : Nat) (l l' : List α) : Option (List α) := if 0 < l'.length ∧ J3l (l.length + l'.length) bytes = true then some (l ++ l') else none
def mkS (bytes : Nat) (n m : Int) (z : α) : Option (List α) :=
  if 0 ≤ n ∧ n ≤ m ∧ bytes * m ≤ 281474976710656 ∧ m ≤ 281474976710656 then some (List.replicate n.toNat z) else none
def Jkc (x : Option Int) (top dflt : Nat) : Option Nat := match x with
  | none => some dflt
  | some n => if 0 ≤ n ∧ n ≤ top then some n.toNat else none
def JhH (n : Nat) (lo hi : Option Int) : Option (Nat × Nat) := match Jkc hi n n with
  | none => none
  | some h => match Jkc lo h 0 with
    | none => none
    | some l => some (l, h)
def Jcp (l : List α) (lo hi : Option Int) : Option (List α) := match JhH l.length lo hi with
  | some c => some ((l.drop c.1).take (c.2 - c.1))
  | none => none
def Jqg (k : IntKind) (x y : Int) : Option Int := if y = 0 then none else some (k.wrap (x.tdiv y))
def JdP (x y : Int) : Option Int := if y = 0 then none else some (x.tmod y)
def Jqr (k : IntKind) (x y : Int) : Option Int := if y < 0 then none else some (k.wrap (x * 2 ^ (min y.toNat k.bits)))
def Jqw (k : IntKind) (x y : Int) : Option Int := if y < 0 then none else some (x.fdiv (2 ^ (min y.toNat k.bits)))
def Jrk (k : IntKind) (x y : Int) : Int := k.wrap (BitVec.ofInt k.bits x &&& BitVec.ofInt k.bits y).toNat
def orI (k : IntKind) (x y : Int) : Int := k.wrap (BitVec.ofInt k.bits x ||| BitVec.ofInt k.bits y).toNat
def Jrr (k : IntKind) (x y : Int) : Int := k.wrap (BitVec.ofInt k.bits x ^^^ BitVec.ofInt k.bits y).toNat
def Jrx (k : IntKind) (n : Int) : Int := k.wrap (BitVec.ofInt k.bits (if k.signed then -1 else k.max) ^^^ BitVec.ofInt k.bits n).toNat
def Je8 (a b : List UInt8) : Option (List UInt8) := if a.length + b.length ≤ 4611686018427387904 then some (a ++ b) else none
def JqK (l : List UInt8) (n : Int) : Option Int := if 0 ≤ n then (match l[n.toNat]? with | some u => some (u.toNat : Int) | none => none) else none
def JmH {k : Nat} (v : Vector α k) (n : Int) : Option α := if 0 ≤ n ∧ n < k then v[n.toNat]? else none
def toStr (l : List Int) : List UInt8 := l.map fun n => UInt8.ofNat n.toNat
def toByt (l : List UInt8) : List Int := l.map fun u => (u.toNat : Int)
def JrG (x y : Int) : Int := if y < x then y else x
def Jrv (x y : Int) : Int := if y > x then y else x
end
@[reducible] def cat (a b : List PV) : List PV := a ++ b
def r_i (k : IntKind) (n : Int) : List PV := [.i k n]
def r_b (x : Bool) : List PV := [.b x]
def r_s (l : List UInt8) : List PV := [.s l]
def Jrq {α : Type} (esz : Nat) (r : α → List PV) (l : List α) : List PV := [.sl esz (l.map r)]
def J5r {α : Type} {n : Nat} (r : α → List PV) (v : Vector α n) : List PV := (v.toList.map r).flatten
section
variable {α : Type}
theorem J4i (cs : List α) (off size : Nat) : sub cs off size = if off + size ≤ cs.length then some ((cs.drop off).take size) else none := by
  unfold sub
  split
  · rename_i h
    obtain ⟨rfl, rfl⟩ := h
    simp
  · rfl
theorem J55 (cs : List α) (off : Nat) (vs : List α) : spl cs off vs = if off + vs.length ≤ cs.length then some (cs.take off ++ vs ++ cs.drop (off + vs.length)) else none := by
  unfold spl
  split
  · rename_i h
    obtain ⟨rfl, h⟩ := h
    rw [if_pos (by omega)]
    simp [← h]
  · rfl
theorem Je7 {cs : List α} {n : Nat} (h : cs.length = n) : sub cs 0 n = some cs := by
  subst h; rw [J4i]; simp
theorem JiQ {cs vs : List α} (h : cs.length = vs.length) : spl cs 0 vs = some vs := by
  rw [J55]; simp [h]
theorem JkW {a b c : List α} {off size : Nat} (h1 : a.length = off) (h2 : b.length = size) : sub (a ++ (b ++ c)) off size = some b := by
  subst h1 h2
  rw [J4i, if_pos (by simp)]
  simp
theorem Jk9 {b c : List α} {size : Nat} (h2 : b.length = size) : sub (b ++ c) 0 size = some b := JkW (a := []) rfl h2
theorem JkK {a b c v : List α} {off : Nat} (h1 : a.length = off) (h2 : b.length = v.length) : spl (a ++ (b ++ c)) off v = some (a ++ (v ++ c)) := by
  subst h1
  rw [J55, if_pos (by simp; omega), ← h2]
  simp
theorem Jkf {b c v : List α} (h2 : b.length = v.length) : spl (b ++ c) 0 v = some (v ++ c) := JkK (a := []) rfl h2
theorem JiW {cs ds r : List α} {a m k n : Nat} (h1 : sub cs a m = some ds) (h2 : sub ds k n = some r) : sub cs (a + k) n = some r := by
  rw [J4i] at h1 h2 ⊢
  split at h1
  · injection h1 with h1; subst h1
    split at h2
    · rename_i h3 h4
      injection h2 with h2; subst h2
      simp at h4
      rw [if_pos (by omega), List.drop_take, List.take_take, List.drop_drop]
      congr 2
      omega
    · cases h2
  · cases h1
theorem Jj3 {cs ds ds' v cs' : List α} {a m k : Nat} (h1 : sub cs a m = some ds) (h2 : spl ds k v = some ds') (h3 : spl cs a ds' = some cs') : spl cs (a + k) v = some cs' := by
  rw [J4i] at h1
  rw [J55] at h2 h3 ⊢
  split at h1
  · rename_i h4
    injection h1 with h1; subst h1
    split at h2
    · rename_i h5
      injection h2 with h2; subst h2
      simp at h5
      split at h3
      · injection h3 with h3; subst h3
        rw [if_pos (by omega)]
        congr 1
        simp only [List.length_append, List.length_take, List.length_drop, List.take_take, List.drop_take, List.drop_drop, List.append_assoc]
        have e1 : cs.take (a + k) = cs.take a ++ (cs.drop a).take k := List.take_add ..
        rw [e1, List.append_assoc]
        rw [show min k m = k by omega]
        congr 3
        have e2 : cs.drop (a + k + v.length) = (cs.drop (a + (k + v.length))).take (m - (k + v.length)) ++ cs.drop (a + m) := by
          have := List.take_append_drop (m - (k + v.length)) (cs.drop (a + (k + v.length)))
          rw [List.drop_drop] at this
          rw [show a + (k + v.length) + (m - (k + v.length)) = a + m by omega] at this
          rw [this]; congr 1; omega
        rw [e2]
        congr 2
        omega
      · cases h3
    · cases h2
  · cases h1
theorem J5O {β : Type} (g : α → β) (cs : List α) (off size : Nat) : sub (cs.map g) off size = (sub cs off size).map (List.map g) := by
  rw [J4i, J4i]
  simp only [List.length_map]
  split <;> simp [List.map_drop, List.map_take]
theorem J5V {β : Type} (g : α → β) (cs : List α) (off : Nat) (vs : List α) : spl (cs.map g) off (vs.map g) = (spl cs off vs).map (List.map g) := by
  rw [J55, J55]
  simp only [List.length_map]
  split <;> simp [List.map_drop, List.map_take]
theorem Jad {n k w : Nat} {r : α → List PV} (hr : ∀ x, (r x).length = w) {v : Vector α n} {x : α} (h : v[k]? = some x) : sub (J5r r v) (k * w) w = some (r x) := by
  have key : ∀ (l : List α) (k : Nat) (x : α), l[k]? = some x → sub ((l.map r).flatten) (k * w) w = some (r x) := by
    intro l
    induction l with
    | nil => intro k x h; simp at h
    | cons y l ih =>
      intro k x h
      cases k with
      | zero =>
        simp at h; subst h
        rw [Nat.zero_mul, List.map_cons, List.flatten_cons]
        exact Jk9 (hr _)
      | succ k =>
        simp at h
        have := ih k x h
        rw [List.map_cons, List.flatten_cons]
        rw [J4i] at this ⊢
        split at this
        · injection this with this
          have e : (k + 1) * w = w + k * w := by rw [Nat.succ_mul]; omega
          rw [e, if_pos (by simp [hr]; simp at *; omega)]
          have e2 : w + k * w = (r y).length + k * w := by rw [hr]
          rw [e2, List.drop_length_add_append, this]
        · cases this
  exact key _ _ _ (by rw [← h]; simp)
theorem Jl3 {n k w : Nat} {r : α → List PV} (hr : ∀ x, (r x).length = w) {v : Vector α n} (h : k < n) (y : α) : spl (J5r r v) (k * w) (r y) = some (J5r r (v.setIfInBounds k y)) := by
  have key : ∀ (l : List α) (k : Nat), k < l.length → spl ((l.map r).flatten) (k * w) (r y) = some (((l.set k y).map r).flatten) := by
    intro l
    induction l with
    | nil => intro k h; simp at h
    | cons z l ih =>
      intro k h
      cases k with
      | zero =>
        rw [Nat.zero_mul, List.map_cons, List.flatten_cons]
        rw [Jkf (by rw [hr, hr])]
        simp
      | succ k =>
        simp at h
        have := ih k h
        rw [List.map_cons, List.flatten_cons]
        rw [J55] at this ⊢
        split at this
        · rename_i hle
          injection this with this
          have e : (k + 1) * w = (r z).length + k * w := by rw [Nat.succ_mul, hr]; omega
          rw [e, if_pos (by simp [hr] at hle ⊢; omega)]
          simp only [List.set_cons_succ, List.map_cons, List.flatten_cons]
          rw [← this]
          rw [show (r z).length + k * w + (r y).length = (r z).length + (k * w + (r y).length) by omega]
          simp only [List.take_length_add_append, List.drop_length_add_append, List.append_assoc]
        · cases this
  have h2 := key v.toList k (by simpa using h)
  unfold J5r
  rw [h2]
  congr 3
  simp [Vector.setIfInBounds, Vector.toList]
theorem Jqy {n w : Nat} {r : α → List PV} (hr : ∀ x, (r x).length = w) (v : Vector α n) : (J5r r v).length = n * w := by
  have key : ∀ l : List α, ((l.map r).flatten).length = l.length * w := by
    intro l
    induction l with
    | nil => simp
    | cons x l ih => simp [ih, hr, Nat.succ_mul, Nat.add_comm]
  unfold J5r
  rw [key]; simp
end
theorem J76 : ∀ l : List PV, unp (l.map AV.p) = some l
  | [] => rfl
  | x :: l => by simp [unp, J76 l]
theorem Jbu (l : List PV) : J1E true (l.map AV.p) = some (.data l) := by simp [J1E, J76]
theorem J4g : ∀ l : List PV, (l.map AV.p).all J3Y = true
  | [] => rfl
  | x :: l => by simp
theorem JeW (m : Nat) (ids : List Nat) (sto : List Blk) : ∀ l : List PV, fin.finL m ids sto (l.map AV.p) = some (l.map AV.p)
  | [] => rfl
  | x :: l => by simp [fin.finL, fin, JeW m ids sto l]
theorem JeU (l : List PV) (acc : List Ent) : JM.entsOfL (l.map AV.p) acc = acc := JcT (J4g l)
theorem Jlh {α : Type} {r : α → List PV} {l : List α} {n : Int} {x : α} (h : idx l n = some x) : JcU (l.map r) n = some (r x) := by
  unfold idx at h
  unfold JcU
  split at h
  · rename_i h0
    rw [if_pos h0, List.getElem?_map, h]; rfl
  · cases h
theorem Jiw {k : Nat} {n : Int} {u : Unit} (h : inb k n = some u) : 0 ≤ n ∧ n < k := by
  unfold inb at h
  split at h
  · assumption
  · cases h
theorem Jng {α : Type} {k : Nat} {v : Vector α k} {n : Int} {x : α} (h : JmH v n = some x) : (0 ≤ n ∧ n < k) ∧ v[n.toNat]? = some x := by
  unfold JmH at h
  split at h
  · exact ⟨by assumption, h⟩
  · cases h
theorem Jpp {α : Type} {r : α → List PV} {esz bytes b : Nat} {w : Bool} {l l' l2 : List α} {y : AV} {s : St} (h : Jev bytes l l2 = some l') (hb : s.sto[b]? = some (.arr w esz (l.map r))) (hy : (J0U esz y).run s = some (l2.map r)) :
    (J3Q esz bytes (.slr b 0 l.length) y).run s = some ⟨.slr b 0 l'.length, [(b, .arr w esz (l'.map r))]⟩ := by
  unfold Jev at h
  split at h
  · rename_i hr
    injection h with h; subst h
    simp only [J3Q, J0g, hb, Option.bind_some, run_bind, hy]
    rw [if_pos ⟨by trivial, by trivial, by simp, by simpa using hr⟩]
    simp [Je]
  · cases h
theorem J97 : ∀ l : List Int, J47 (l.map (r_i .u8)) = some (toStr l)
  | [] => rfl
  | x :: l => by simp [J47, r_i, J97 l, toStr]
theorem JbK (l : List UInt8) : l.map J1T = (toByt l).map (r_i .u8) := by simp [toByt, J1T, r_i, Function.comp_def]
theorem Jmf {α : Type} {bytes : Nat} {l l' : List α} (h : cloS bytes l = some l') : J3l l.length bytes = true ∧ l' = l := by
  unfold cloS at h
  split at h
  · injection h with h; exact ⟨by assumption, h.symm⟩
  · cases h
theorem JoH {α : Type} {bytes : Nat} {n m : Int} {z : α} {l : List α} (h : mkS bytes n m z = some l) : (0 ≤ n ∧ n ≤ m ∧ bytes * m ≤ 281474976710656 ∧ m ≤ 281474976710656) ∧ l = List.replicate n.toNat z := by
  unfold mkS at h
  split at h
  · injection h with h; exact ⟨by assumption, h.symm⟩
  · cases h
end Go.Am
end
section
set_option linter.unusedSimpArgs false
set_option linter.unusedVariables false
namespace Go.Am
open Go.RowKit
theorem Jnn {σ : List Blk} {g : Gh} {w w' : World} (hi : Inv ⟨σ, g, w⟩) (hb : Below w.heap.size w w') :
    Inv ⟨σ, g, w'⟩ ∧ Jn ⟨σ, g, w⟩ ⟨σ, g, w'⟩ := by
  have hk : ∀ (r : Nat) x, w.heap[r]? = some x → w'.heap[r]? = some x := fun r x h => by rw [hb.block r (J06 h)]; exact h
  have hc : ∀ r o v, cellAt w r o = some v → cellAt w' r o = some v := by
    intro r o v h
    have hr : r < w.heap.size := by
      unfold cellAt at h
      split at h
      · rename_i hx; exact J06 hx
      · cases h
    unfold cellAt at h ⊢
    rw [hb.block r hr]
    exact h
  have t : Jn ⟨σ, g, w⟩ ⟨σ, g, w'⟩ := by
    refine ⟨⟨hb.size, fun r c e fz h => ⟨c, hk r _ h, rfl, fun _ _ => rfl⟩, fun r x h _ => hk r x h, hb.os, hb.output⟩, fun _ _ h => h, fun _ _ h => .inl h, fun r o ⟨b, hb⟩ => .inl ⟨b, hb⟩, Nat.le_refl _, fun _ cs h => ⟨⟨cs, h, rfl⟩, rfl⟩,
      fun _ wm _ rows h => ⟨wm, rows, h, id, Nat.le_refl _, fun _ => rfl⟩⟩
  exact ⟨J3v hi t (fun _ => False) (fun _ _ => ⟨rfl, rfl⟩) (fun _ r o v _ _ h => hc r o v h) (fun _ _ h => h.elim) (fun _ _ _ _ h => h.elim)
    (fun _ _ _ _ h => h.elim) (fun r o h => Nat.lt_of_lt_of_le (hi.const r o h).1 hb.size) (fun _ _ _ _ h => h.elim) (fun _ _ _ h h' => (h' h).elim), t⟩
def Jc1 : PV → Option Value
  | .b x => some (.bool x)
  | .i k n => some (.int k n)
  | .s l => some (.string ⟨l.toArray⟩)
  | _ => none
theorem JnQ {x : PV} {v : Value} (h : Jc1 x = some v) (w : World) (C : Nat → Nat → Prop) : Ji w C x v := by
  cases x <;> simp only [Jc1, Option.some.injEq, reduceCtorEq] at h <;> subst h
  · exact .b _
  · exact .i _ _
  · exact .s _
theorem Jp7 {x : PV} {v v' : Value} {w : World} {C : Nat → Nat → Prop} (h : Ji w C x v) (hv : Jc1 x = some v') : v = v' := by
  cases x <;> simp only [Jc1, Option.some.injEq, reduceCtorEq] at hv <;> subst hv <;> cases h <;> rfl
theorem Jp9 {P : Program} {f : FuncId} {xs : List PV} {vs : List Value} {r : PV} {v : Value} {blks : List Blk}
    (hf : ∃ fn, P.funcs[f]? = some fn ∧ fn.body.isSome = true ∧ (fn.name == "runtime.NumGoroutine") = false)
    (hx : xs.mapM Jc1 = some vs) (hr : Jc1 r = some v)
    (hc : ∀ w, Calls P f vs.toArray w fun e w' => e = .returned v ∧ Below w.heap.size w w') :
    J1z P f (xs.map .p) blks (.p r, blks) := by
  refine ⟨hf, fun g w vals hi hl ha => ?_⟩
  have hvals : vals = vs.toArray := by
    have key : ∀ (xs : List PV) (vs vl : List Value), xs.mapM Jc1 = some vs → xs.length = vl.length →
        (∀ (i : Nat) x v, (xs.map AV.p)[i]? = some x → vl[i]? = some v → Jc ⟨blks, g, w⟩ x v) → vl = vs := by
      intro xs
      induction xs with
      | nil => intro vs vl h1 h2 _; simp at h1 h2; subst h1; exact List.length_eq_zero_iff.1 h2.symm
      | cons x r ih =>
        intro vs vl h1 h2 h3
        simp only [List.mapM_cons, Option.pure_def, Option.bind_eq_bind] at h1
        obtain ⟨v0, hv0, h1⟩ := Option.bind_eq_some_iff.1 h1
        obtain ⟨vr, hvr, h1⟩ := Option.bind_eq_some_iff.1 h1
        simp only [Option.some.injEq] at h1
        subst h1
        cases vl with
        | nil => simp at h2
        | cons u ur =>
          have := h3 0 (.p x) u rfl rfl
          cases this with
          | p _ _ hp =>
            rw [Jp7 hp hv0, ih vr ur hvr (by simpa using h2) (fun i x v hx hv => h3 (i + 1) x v hx hv)]
    apply Array.ext'
    rw [key xs vs vals.toList hx (by simpa using hl) (fun i x v h1 h2 => ha i x v h1 (by simpa using h2))]
  subst hvals
  refine (hc w).mono ?_
  rintro e w' ⟨rfl, hb⟩
  obtain ⟨hi', t⟩ := Jnn hi hb
  exact ⟨v, g, rfl, hi', t, .p _ _ (JnQ hr _ _)⟩
theorem JeA {T : J1y} {f : FuncId} {g : List AV → List Blk → Option Res} (h : T f = some (.prim g)) (args blks) : AF T f args blks = g args blks := by
  unfold AF J5w; rw [h]
def JpM (a : Option AFn) (k : Option J4P) (g q : Option (List AV → List Blk → Option Res)) : Option JkF :=
  match a with
  | some a => some (.fn a)
  | none => match k with
    | some k => some (.fork k)
    | none => match g with
      | some g => some (.prim g)
      | none => q.map .prim
theorem J4d {a : Option AFn} {k : Option J4P} {g q : Option (List AV → List Blk → Option Res)} {e : JkF} (h : JpM a k g q = some e) :
    (∃ x, a = some x ∧ e = .fn x) ∨ (∃ x, k = some x ∧ e = .fork x) ∨ (∃ x, g = some x ∧ e = .prim x) ∨ (∃ x, q = some x ∧ e = .prim x) := by
  cases a with
  | some a => exact .inl ⟨a, rfl, by injection h with h; exact h.symm⟩
  | none =>
    cases k with
    | some k => exact .inr (.inl ⟨k, rfl, by injection h with h; exact h.symm⟩)
    | none =>
      cases g with
      | some g => exact .inr (.inr (.inl ⟨g, rfl, by injection h with h; exact h.symm⟩))
      | none =>
        cases q with
        | some q => exact .inr (.inr (.inr ⟨q, rfl, by injection h with h; exact h.symm⟩))
        | none => cases h
def Jha (l : List UInt8) (n : Int) : Option (List UInt8) :=
  if 0 ≤ n ∧ n ≤ 9223372036854775807 ∧ l.length * n.toNat ≤ 140737488355328 then some (List.replicate n.toNat l).flatten else none
def JgW : List AV → List Blk → Option Res
  | [.p (.s l), .p (.i .i64 n)], blks => (Jha l n).map fun r => (.p (.s r), blks)
  | _, _ => none
theorem JqX (x y : Bool) : J0n [.b] [.b x] [.b y] = some (decide (x = y)) := by
  simp only [J0n, J8Z]
  cases x <;> cases y <;> rfl
theorem Jr5 (k : IntKind) (x y : Int) : J0n [.i k] [.i k x] [.i k y] = some (decide (x = y)) := by
  by_cases h : x = y <;> simp [J0n, J8Z, h]
theorem JqR (x y : List UInt8) : J0n [.s] [.s x] [.s y] = some (decide (x = y)) := by
  by_cases h : x = y <;> simp [J0n, J8Z, h]
theorem JiG {p q : Prop} [Decidable p] [Decidable q] : ∀ {k1 k2 : List KD} {a1 a2 b1 b2 : List PV}, J0n k1 a1 b1 = some (decide p) → J0n k2 a2 b2 = some (decide q) → J0n (k1 ++ k2) (cat a1 a2) (cat b1 b2) = some (decide (p ∧ q)) := by
  have key : ∀ (k1 k2 : List KD) (a1 a2 b1 b2 : List PV) (r s : Bool), J0n k1 a1 b1 = some r → J0n k2 a2 b2 = some s → J0n (k1 ++ k2) (a1 ++ a2) (b1 ++ b2) = some (r && s) := by
    intro k1
    induction k1 with
    | nil =>
      intro k2 a1 a2 b1 b2 r s h1 h2
      cases a1 <;> cases b1 <;> simp [J0n] at h1
      subst h1
      simpa using h2
    | cons k ks ih =>
      intro k2 a1 a2 b1 b2 r s h1 h2
      cases a1 with
      | nil => simp [J0n] at h1
      | cons a a1 =>
        cases b1 with
        | nil => simp [J0n] at h1
        | cons b b1 =>
          simp only [J0n] at h1
          split at h1
          · rename_i u c hu hc
            injection h1 with h1
            subst h1
            simp only [List.cons_append, J0n, hu, ih _ _ _ _ _ _ _ hc h2, Bool.and_assoc]
          · cases h1
  intro k1 k2 a1 a2 b1 b2 h1 h2
  rw [key _ _ _ _ _ _ _ _ h1 h2, Bool.decide_and]
theorem JqF {α : Type} [DecidableEq α] {n : Nat} {ks : List KD} {r : α → List PV} (h : ∀ x y, J0n ks (r x) (r y) = some (decide (x = y))) (v w : Vector α n) :
    J0n (List.replicate n ks).flatten (J5r r v) (J5r r w) = some (decide (v = w)) := by
  have key : ∀ (l l' : List α), l.length = l'.length → J0n (List.replicate l.length ks).flatten (l.map r).flatten (l'.map r).flatten = some (decide (l = l')) := by
    intro l
    induction l with
    | nil => intro l' h1; cases l' with
      | nil => simp [J0n]
      | cons a l' => simp at h1
    | cons a l ih =>
      intro l' h1
      cases l' with
      | nil => simp at h1
      | cons b l' =>
        have h2 := JiG (h a b) (ih l' (by simpa using h1))
        simp only [List.length_cons, List.replicate_succ, List.flatten_cons, List.map_cons]
        rw [show (decide (a :: l = b :: l')) = decide (a = b ∧ l = l') by simp]
        exact h2
  have h3 := key v.toList w.toList (by simp)
  rw [show v.toList.length = n by simp] at h3
  rw [show decide (v = w) = decide (v.toList = w.toList) by
    apply decide_eq_decide.2
    exact ⟨fun e => by rw [e], fun e => Vector.toList_inj.1 e⟩]
  exact h3
end Go.Am
end
section
namespace Go.Am
def J10 (k : IntKind) (a c : Int) : Int := k.wrap (a + c)
def Jek (k : IntKind) (a c : Int) : Int := k.wrap (a - c)
def JkG (k : IntKind) (a c : Int) : Int := k.wrap (a * c)
def Jru (k : IntKind) (n : Int) : Int := k.wrap (0 - n)
def cvI (k : IntKind) (n : Int) : Int := k.wrap n
def eqI (a c : Int) : Bool := decide (a = c)
def neI (a c : Int) : Bool := !decide (a = c)
def ltI (a c : Int) : Bool := decide (a < c)
def leI (a c : Int) : Bool := decide (a ≤ c)
def gtI (a c : Int) : Bool := decide (a > c)
def geI (a c : Int) : Bool := decide (a ≥ c)
def eqS (a c : List UInt8) : Bool := decide (a = c)
def neS (a c : List UInt8) : Bool := !decide (a = c)
def ltS (a c : List UInt8) : Bool := Op.bytesLess a c
def leS (a c : List UInt8) : Bool := Op.bytesLess a c || decide (a = c)
def gtS (a c : List UInt8) : Bool := !(Op.bytesLess a c || decide (a = c))
def geS (a c : List UInt8) : Bool := !Op.bytesLess a c
def eqB (a c : Bool) : Bool := decide (a = c)
def J3V (x : Bool) : Bool := !x
def J6 {α : Type} (l : List α) : Int := l.length
def JrB {α : Type} (c : Bool) (x y : α) : α := if c = true then x else y
def lat {α : Type} (l : List α) (i : Nat) : Option α := l[i]?
def J5m {α : Type} (l : List α) (i : Nat) (x : α) : List α := l.set i x
def vat {α : Type} {n : Nat} (l : Vector α n) (i : Nat) : Option α := l[i]?
def J88 {α : Type} {n : Nat} (l : Vector α n) (i : Nat) (x : α) : Vector α n := l.setIfInBounds i x
inductive Ty where
  | b
  | i (k : IntKind)
  | s
  | l (t : Ty)
  | pr (a c : Ty)
  | ar (n : Nat) (t : Ty)
  | u
  | f
  deriving DecidableEq
@[reducible] def Ty.D : Ty → Type
  | .b => Bool
  | .i _ => Int
  | .s => List UInt8
  | .l t => List t.D
  | .pr a c => a.D × c.D
  | .ar n t => Vector t.D n
  | .u => Unit
  | .f => Unit
def Ty.sz : Ty → Nat
  | .b => 1
  | .i _ => 1
  | .s => 1
  | .l _ => 1
  | .pr a c => a.sz + c.sz
  | .ar n t => n * t.sz
  | .u => 0
  | .f => 1
def cel : (t : Ty) → t.D → List PV
  | .b, x => [.b x]
  | .i k, x => [.i k x]
  | .s, x => [.s x]
  | .l t, x => [.sl t.sz (x.map (cel t))]
  | .pr a c, x => cel a x.1 ++ cel c x.2
  | .ar _ t, x => J5r (cel t) x
  | .u, _ => []
  | .f, _ => [.nf]
theorem J05 : ∀ (t : Ty) (x : t.D), (cel t x).length = t.sz
  | .b, _ => rfl
  | .i _, _ => rfl
  | .s, _ => rfl
  | .l _, _ => rfl
  | .pr a c, x => by simp only [cel, List.length_append, J05 a, J05 c, Ty.sz]
  | .ar n t, x => by simp only [cel, Ty.sz]; exact Jqy (J05 t) x
  | .u, _ => rfl
  | .f, _ => rfl
def Ty.eqd : (t : Ty) → DecidableEq t.D
  | .b => inferInstanceAs (DecidableEq Bool)
  | .i _ => inferInstanceAs (DecidableEq Int)
  | .s => inferInstanceAs (DecidableEq (List UInt8))
  | .l t => have := t.eqd; inferInstanceAs (DecidableEq (List t.D))
  | .pr a c => have := a.eqd; have := c.eqd; inferInstanceAs (DecidableEq (a.D × c.D))
  | .ar n t => have := t.eqd; inferInstanceAs (DecidableEq (Vector t.D n))
  | .u => inferInstanceAs (DecidableEq Unit)
  | .f => inferInstanceAs (DecidableEq Unit)
def eqT (t : Ty) (x y : t.D) : Bool := have := t.eqd; decide (x = y)
theorem JoS {t : Ty} {x y : t.D} : eqT t x y = true ↔ x = y := by simp [eqT]
def Ty.zero : (t : Ty) → t.D
  | .b => false
  | .i _ => (0 : Int)
  | .s => []
  | .l _ => []
  | .pr a c => (a.zero, c.zero)
  | .ar n t => Vector.replicate n t.zero
  | .u => ()
  | .f => ()
def Ty.ks : Ty → Option (List KD)
  | .b => some [.b]
  | .i k => some [.i k]
  | .s => some [.s]
  | .l _ => none
  | .pr a c => match a.ks, c.ks with
    | some x, some y => some (x ++ y)
    | _, _ => none
  | .ar n t => match t.ks with
    | some x => some (List.replicate n x).flatten
    | none => none
  | .u => some []
  | .f => none
theorem JaX : ∀ (t : Ty) {ks : List KD} (x y : t.D), t.ks = some ks → J0n ks (cel t x) (cel t y) = some (eqT t x y)
  | .b, ks, x, y, h => by injection h with h; subst h; exact JqX x y
  | .i k, ks, x, y, h => by injection h with h; subst h; exact Jr5 k x y
  | .s, ks, x, y, h => by injection h with h; subst h; exact JqR x y
  | .l _, _, _, _, h => by cases h
  | .pr a c, ks, x, y, h => by
    simp only [Ty.ks] at h
    split at h
    · rename_i p q hp hq
      injection h with h; subst h
      have h1 := JaX a x.1 y.1 hp
      have h2 := JaX c x.2 y.2 hq
      unfold eqT at h1 h2
      have e1 : (have := a.eqd; decide (x.1 = y.1)) = @decide _ (a.eqd x.1 y.1) := rfl
      have := @JiG _ _ (a.eqd x.1 y.1) (c.eqd x.2 y.2) _ _ _ _ _ _ h1 h2
      simp only [cel]
      refine this.trans (congrArg some ?_)
      unfold eqT
      apply decide_eq_decide.2
      exact ⟨fun ⟨e, f⟩ => Prod.ext e f, fun e => by rw [e]; exact ⟨rfl, rfl⟩⟩
    · cases h
  | .ar n t, ks, x, y, h => by
    simp only [Ty.ks] at h
    split at h
    · rename_i p hp
      injection h with h; subst h
      have := @JqF t.D t.eqd n p (cel t) (fun x y => by have := JaX t x y hp; exact this) x y
      simp only [cel]
      refine this.trans (congrArg some ?_)
      unfold eqT
      apply decide_eq_decide.2
      rfl
    · cases h
  | .u, ks, x, y, h => by injection h with h; subst h; rfl
  | .f, _, _, _, h => by cases h
inductive Sp where
  | f (off : Nat)
  | a (i esz : Nat)
  deriving DecidableEq
def spo : List Sp → Nat
  | [] => 0
  | .f o :: r => o + spo r
  | .a i e :: r => i * e + spo r
def spf : Nat → List Sp → Nat × List Sp
  | o, .f k :: r => spf (o + k) r
  | o, r => (o, r)
theorem JfS : ∀ (o : Nat) (p : List Sp), (spf o p).1 + spo (spf o p).2 = o + spo p
  | o, [] => rfl
  | o, .f k :: r => by simp only [spf, JfS, spo]; omega
  | o, .a i e :: r => rfl
section
variable {R : Type}
def prt : (t : Ty) → t.D → (off : Nat) → List Sp → (w : Ty) → (w.D → Option R) → Option R
  | t, x, off, p, w, k =>
    if h : t = w ∧ off = 0 ∧ p = [] then k (h.1 ▸ x)
    else match t, x with
      | .pr a c, x => if off + (if p = [] then w.sz else 1) ≤ a.sz then prt a x.1 off p w k
        else if a.sz ≤ off then prt c x.2 (off - a.sz) p w k
        else none
      | .ar _ t, x => if p = [] then (vat x (off / t.sz)).bind fun y => prt t y (off % t.sz) p w k
        else match off, p with
          | 0, .a i e :: r => if e = t.sz then (vat x i).bind fun y => prt t y (spf 0 r).1 (spf 0 r).2 w k else none
          | _, _ => none
      | _, _ => none
def pst : (t : Ty) → t.D → (off : Nat) → List Sp → (w : Ty) → w.D → (t.D → Option R) → Option R
  | t, x, off, p, w, v, k =>
    if h : t = w ∧ off = 0 ∧ p = [] then k (h.1.symm ▸ v)
    else match t, x, k with
      | .pr a c, x, k => if off + (if p = [] then w.sz else 1) ≤ a.sz then pst a x.1 off p w v fun y => k (y, x.2)
        else if a.sz ≤ off then pst c x.2 (off - a.sz) p w v fun y => k (x.1, y)
        else none
      | .ar _ t, x, k => if p = [] then (vat x (off / t.sz)).bind fun y => pst t y (off % t.sz) p w v fun y => k (J88 x (off / t.sz) y)
        else match off, p with
          | 0, .a i e :: r => if e = t.sz then (vat x i).bind fun y => pst t y (spf 0 r).1 (spf 0 r).2 w v fun y => k (J88 x i y) else none
          | _, _ => none
      | _, _, _ => none
end
theorem JnA {α : Type} {a b v : List α} {off n : Nat} (h : sub a off n = some v) : sub (a ++ b) off n = some v := by
  rw [J4i] at h ⊢
  split at h
  · rename_i hl
    injection h with h
    rw [if_pos (by simp; omega), ← h, List.drop_append_of_le_length (by omega), List.take_append_of_le_length (by simp; omega)]
  · cases h
theorem JlK {α : Type} {a b v : List α} {off n : Nat} (h0 : a.length ≤ off) (h : sub b (off - a.length) n = some v) : sub (a ++ b) off n = some v := by
  rw [J4i] at h ⊢
  split at h
  · injection h with h
    rw [if_pos (by simp; omega), ← h, List.drop_append, List.drop_of_length_le h0]
    simp
  · cases h
theorem Jn9 {α : Type} {a b v a' : List α} {off : Nat} (h : spl a off v = some a') : spl (a ++ b) off v = some (a' ++ b) := by
  rw [J55] at h ⊢
  split at h
  · rename_i hl
    injection h with h
    rw [if_pos (by simp; omega), ← h, List.take_append_of_le_length (by omega), List.drop_append_of_le_length (by omega)]
    simp
  · cases h
theorem JkR {α : Type} {a b v b' : List α} {off : Nat} (h0 : a.length ≤ off) (h : spl b (off - a.length) v = some b') : spl (a ++ b) off v = some (a ++ b') := by
  rw [J55] at h ⊢
  split at h
  · injection h with h
    rw [if_pos (by simp; omega), ← h, List.take_append, List.take_of_length_le h0, List.drop_append, List.drop_of_length_le (by omega)]
    simp
    omega
  · cases h
theorem Jj5 {α : Type} {n i : Nat} {x : Vector α n} {y : α} (h : x[i]? = some y) : i < n := by
  rcases Nat.lt_or_ge i n with h1 | h1
  · exact h1
  · rw [Vector.getElem?_eq_none h1] at h; cases h
theorem J54 {R : Type} {t w : Ty} {x : t.D} {off : Nat} {p : List Sp} {k : w.D → Option R} {r : R} (h0 : t = w ∧ off = 0 ∧ p = []) (h : k (h0.1 ▸ x) = some r) :
    ∃ y, sub (cel t x) (off + spo p) w.sz = some (cel w y) ∧ k y = some r := by
  obtain ⟨rfl, rfl, rfl⟩ := h0
  exact ⟨x, by simpa [spo] using Je7 (J05 _ x), h⟩
theorem J56 {R : Type} {t w : Ty} {x : t.D} {off : Nat} {p : List Sp} {v : w.D} {k : t.D → Option R} {r : R} (h0 : t = w ∧ off = 0 ∧ p = []) (h : k (h0.1.symm ▸ v) = some r) :
    ∃ y, spl (cel t x) (off + spo p) (cel w v) = some (cel t y) ∧ k y = some r := by
  obtain ⟨rfl, rfl, rfl⟩ := h0
  exact ⟨v, by simpa [spo] using JiQ ((J05 _ x).trans (J05 _ v).symm), h⟩
theorem J52 {R : Type} : ∀ {t : Ty} {x : t.D} {off : Nat} {p : List Sp} {w : Ty} {k : w.D → Option R} {r : R}, prt t x off p w k = some r →
    ∃ y, sub (cel t x) (off + spo p) w.sz = some (cel w y) ∧ k y = some r
  | .pr a c, x, off, p, w, k, r, h => by
    unfold prt at h
    by_cases h0 : Ty.pr a c = w ∧ off = 0 ∧ p = []
    · rw [dif_pos h0] at h; exact J54 h0 h
    · rw [dif_neg h0] at h
      dsimp only at h
      by_cases h1 : off + (if p = [] then w.sz else 1) ≤ a.sz
      · rw [if_pos h1] at h
        obtain ⟨y, q1, q2⟩ := J52 h
        exact ⟨y, JnA q1, q2⟩
      · rw [if_neg h1] at h
        by_cases h2 : a.sz ≤ off
        · rw [if_pos h2] at h
          obtain ⟨y, q1, q2⟩ := J52 h
          refine ⟨y, JlK (by rw [J05]; omega) ?_, q2⟩
          rw [J05, show off + spo p - a.sz = off - a.sz + spo p by omega]
          exact q1
        · rw [if_neg h2] at h; cases h
  | .ar n t, x, off, p, w, k, r, h => by
    unfold prt at h
    by_cases h0 : Ty.ar n t = w ∧ off = 0 ∧ p = []
    · rw [dif_pos h0] at h; exact J54 h0 h
    · rw [dif_neg h0] at h
      dsimp only at h
      by_cases hp : p = []
      · rw [if_pos hp] at h
        obtain ⟨z, hz, h⟩ := Option.bind_eq_some_iff.1 h
        obtain ⟨y, h1, h2⟩ := J52 h
        refine ⟨y, ?_, h2⟩
        have := JiW (Jad (J05 t) hz) h1
        rw [← this, hp]
        simp only [spo, Nat.add_zero]
        show sub (J5r (cel t) x) _ _ = _
        congr 1
        rw [Nat.mul_comm]; exact (Nat.div_add_mod off t.sz).symm
      · rw [if_neg hp] at h
        split at h
        · rename_i _ i e q _
          split at h
          · rename_i he
            obtain ⟨z, hz, h⟩ := Option.bind_eq_some_iff.1 h
            obtain ⟨y, h1, h2⟩ := J52 h
            refine ⟨y, ?_, h2⟩
            have := JiW (Jad (J05 t) hz) h1
            rw [← this]
            show sub (J5r (cel t) x) _ _ = _
            congr 1
            have := JfS 0 q
            simp only [spo, he]
            omega
          · cases h
        · cases h
  | .b, x, off, p, w, k, r, h => by unfold prt at h; split at h; next h0 => exact J54 h0 h
                                    next => cases h
  | .i _, x, off, p, w, k, r, h => by unfold prt at h; split at h; next h0 => exact J54 h0 h
                                      next => cases h
  | .s, x, off, p, w, k, r, h => by unfold prt at h; split at h; next h0 => exact J54 h0 h
                                    next => cases h
  | .l _, x, off, p, w, k, r, h => by unfold prt at h; split at h; next h0 => exact J54 h0 h
                                      next => cases h
  | .u, x, off, p, w, k, r, h => by unfold prt at h; split at h; next h0 => exact J54 h0 h
                                    next => cases h
  | .f, x, off, p, w, k, r, h => by unfold prt at h; split at h; next h0 => exact J54 h0 h
                                    next => cases h
theorem J5T {R : Type} : ∀ {t : Ty} {x : t.D} {off : Nat} {p : List Sp} {w : Ty} {v : w.D} {k : t.D → Option R} {r : R}, pst t x off p w v k = some r →
    ∃ y, spl (cel t x) (off + spo p) (cel w v) = some (cel t y) ∧ k y = some r
  | .pr a c, x, off, p, w, v, k, r, h => by
    unfold pst at h
    by_cases h0 : Ty.pr a c = w ∧ off = 0 ∧ p = []
    · rw [dif_pos h0] at h; exact J56 h0 h
    · rw [dif_neg h0] at h
      dsimp only at h
      by_cases h1 : off + (if p = [] then w.sz else 1) ≤ a.sz
      · rw [if_pos h1] at h
        obtain ⟨y, q1, q2⟩ := J5T h
        exact ⟨(y, x.2), Jn9 q1, q2⟩
      · rw [if_neg h1] at h
        by_cases h2 : a.sz ≤ off
        · rw [if_pos h2] at h
          obtain ⟨y, q1, q2⟩ := J5T h
          refine ⟨(x.1, y), JkR (by rw [J05]; omega) ?_, q2⟩
          rw [J05, show off + spo p - a.sz = off - a.sz + spo p by omega]
          exact q1
        · rw [if_neg h2] at h; cases h
  | .ar n t, x, off, p, w, v, k, r, h => by
    unfold pst at h
    by_cases h0 : Ty.ar n t = w ∧ off = 0 ∧ p = []
    · rw [dif_pos h0] at h; exact J56 h0 h
    · rw [dif_neg h0] at h
      dsimp only at h
      by_cases hp : p = []
      · rw [if_pos hp] at h
        obtain ⟨z, hz, h⟩ := Option.bind_eq_some_iff.1 h
        obtain ⟨y, h1, h2⟩ := J5T h
        refine ⟨_, ?_, h2⟩
        have := Jj3 (Jad (J05 t) hz) h1 (Jl3 (J05 t) (Jj5 hz) y)
        subst hp
        simp only [spo, Nat.add_zero] at this ⊢
        rw [Nat.mul_comm, Nat.div_add_mod] at this
        exact this
      · rw [if_neg hp] at h
        split at h
        · rename_i _ i e q _
          split at h
          · rename_i he
            obtain ⟨z, hz, h⟩ := Option.bind_eq_some_iff.1 h
            obtain ⟨y, h1, h2⟩ := J5T h
            refine ⟨_, ?_, h2⟩
            have := Jj3 (Jad (J05 t) hz) h1 (Jl3 (J05 t) (Jj5 hz) y)
            have e1 := JfS 0 q
            simp only [spo, he]
            rw [show i * t.sz + ((spf 0 q).1 + spo (spf 0 q).2) = 0 + (i * t.sz + spo q) by omega] at this
            exact this
          · cases h
        · cases h
  | .b, x, off, p, w, v, k, r, h => by unfold pst at h; split at h; next h0 => exact J56 h0 h
                                       next => cases h
  | .i _, x, off, p, w, v, k, r, h => by unfold pst at h; split at h; next h0 => exact J56 h0 h
                                         next => cases h
  | .s, x, off, p, w, v, k, r, h => by unfold pst at h; split at h; next h0 => exact J56 h0 h
                                       next => cases h
  | .l _, x, off, p, w, v, k, r, h => by unfold pst at h; split at h; next h0 => exact J56 h0 h
                                         next => cases h
  | .u, x, off, p, w, v, k, r, h => by unfold pst at h; split at h; next h0 => exact J56 h0 h
                                       next => cases h
  | .f, x, off, p, w, v, k, r, h => by unfold pst at h; split at h; next h0 => exact J56 h0 h
                                       next => cases h
end Go.Am
end
section
namespace Go.Am
inductive TC where
  | d (t : Ty) (x : t.D)
  | sc (t : Ty) (rows : List t.D)
  | np
  | nf
  | un
  | ptr (b : Nat) (p : List Sp)
  | cp (t : Ty) (x : t.D) (p : List Sp)
  | slr (b : Nat)
  | slo (b n : Nat)
  | ep (b i : Nat) (p : List Sp)
  | epo (b e i : Nat) (p : List Sp)
  | fn (f : FuncId)
inductive TA where
  | c (x : TC)
  | dt (t : Ty) (x : t.D)
  | m (t : Ty) (cs : List TC)
  | fn (f : FuncId) (first caps : List TC)
inductive TV where
  | a (x : TA)
  | tup (vs : List TA)
inductive TB where
  | dead
  | box (t : Ty) (x : t.D)
  | mbox (t : Ty) (cs : List TC)
  | arr (w : Bool) (t : Ty) (rows : List t.D)
structure TSt where
  env : List (Nat × TV)
  sto : List TB
def hdP : List PV → PV
  | [c] => c
  | _ => .np
def lnB : TB → Nat
  | .arr _ _ rows => rows.length
  | _ => 0
def lnO : Option TB → Nat
  | some x => lnB x
  | none => 0
def lns (sto : List TB) (b : Nat) : Nat := lnO sto[b]?
section
variable (L : Nat → Nat)
def Jm : TC → AV
  | .d t x => .p (hdP (cel t x))
  | .sc t rows => .p (.slc t.sz (rows.map (cel t)))
  | .np => .p .np
  | .nf => .p .nf
  | .un => .unk
  | .ptr b p => .ptr b (spo p)
  | .cp t x p => .cp (cel t x) (spo p)
  | .slr b => .slr b 0 (L b)
  | .slo b n => .slr b 0 n
  | .ep b i p => .ep b (L b) i (spo p)
  | .epo b e i p => .ep b e i (spo p)
  | .fn f => .fn f [] []
def J01 : TA → AV
  | .c x => Jm L x
  | .dt t x => .data (cel t x)
  | .m _ cs => .agg (cs.map (Jm L))
  | .fn f a c => .fn f (a.map (Jm L)) (c.map (Jm L))
def Jl : TV → AV
  | .a x => J01 L x
  | .tup vs => .tup (vs.map (J01 L))
def JC : TB → Blk
  | .dead => .dead
  | .box t x => .box ((cel t x).map .p)
  | .mbox _ cs => .box (cs.map (Jm L))
  | .arr w t rows => .arr w t.sz (rows.map (cel t))
end
def J1W (L : Nat → Nat) (env : List (Nat × TV)) : List (Nat × AV) := env.map fun x => (x.1, Jl L x.2)
def J9 (s : TSt) : St := ⟨J1W (lns s.sto) s.env, s.sto.map (JC (lns s.sto))⟩
section
variable (L : Nat → Nat)
theorem J8e (t x) : JC L (.box t x) = .box ((cel t x).map .p) := rfl
theorem J8j (t cs) : JC L (.mbox t cs) = .box (cs.map (Jm L)) := rfl
theorem JgX (w t rows) : JC L (.arr w t rows) = .arr w t.sz (rows.map (cel t)) := rfl
theorem J3p (b p) : Jl L (.a (.c (.ptr b p))) = .ptr b (spo p) := rfl
theorem J5X (t x p) : Jl L (.a (.c (.cp t x p))) = .cp (cel t x) (spo p) := rfl
theorem J29 (b) : Jl L (.a (.c (.slr b))) = .slr b 0 (L b) := rfl
theorem J5W (b i p) : Jl L (.a (.c (.ep b i p))) = .ep b (L b) i (spo p) := rfl
theorem e_i (k x) : Jl L (.a (.c (.d (.i k) x))) = .p (.i k x) := rfl
theorem e_b (x) : Jl L (.a (.c (.d .b x))) = .p (.b x) := rfl
theorem e_s (x) : Jl L (.a (.c (.d .s x))) = .p (.s x) := rfl
theorem e_l (t x) : Jl L (.a (.c (.d (.l t) x))) = .p (.sl t.sz (x.map (cel t))) := rfl
theorem Jqt (f) : Jl L (.a (.c (.fn f))) = .fn f [] [] := rfl
theorem Jk0 (t x) : Jl L (.a (.dt t x)) = .data (cel t x) := rfl
theorem Jmc (f a c) : Jl L (.a (.fn f a c)) = .fn f (a.map (Jm L)) (c.map (Jm L)) := rfl
theorem e_m (t cs) : Jl L (.a (.m t cs)) = .agg (cs.map (Jm L)) := rfl
end
theorem Jgx {t : Ty} (h : t.sz = 1) (x : t.D) : cel t x = [hdP (cel t x)] := by
  have := J05 t x
  rw [h] at this
  match hc : cel t x, this with
  | [c], _ => rfl
def kC (b n : Nat) : TC → TC
  | .slr c => if c = b then .slo b n else .slr c
  | .ep c i p => if c = b then .epo b n i p else .ep c i p
  | x => x
def kA (b n : Nat) : TA → TA
  | .c x => .c (kC b n x)
  | .dt t x => .dt t x
  | .m t cs => .m t (cs.map (kC b n))
  | .fn f a c => .fn f (a.map (kC b n)) (c.map (kC b n))
def kV (b n : Nat) : TV → TV
  | .a x => .a (kA b n x)
  | .tup vs => .tup (vs.map (kA b n))
def kB (b n : Nat) : TB → TB
  | .mbox t cs => .mbox t (cs.map (kC b n))
  | x => x
def wS (b : Nat) (x : TB) (s : TSt) : TSt := ⟨s.env, s.sto.set b x⟩
def wN (b : Nat) (x : TB) (s : TSt) : TSt :=
  ⟨s.env.map fun y => (y.1, kV b (lns s.sto b) y.2), (s.sto.map (kB b (lns s.sto b))).set b x⟩
def JF (d : Option Nat) (v : TV) (s : TSt) : TSt :=
  match d with
  | some d => ⟨(d, v) :: s.env, s.sto⟩
  | none => s
section
variable {L L' : Nat → Nat} {b : Nat}
theorem k_C (h : ∀ c, c ≠ b → L' c = L c) (x : TC) : Jm L' (kC b (L b) x) = Jm L x := by
  cases x with
  | slr c =>
    by_cases e : c = b
    · subst e; simp only [kC, if_pos, Jm]
    · simp only [kC, if_neg e, Jm, h c e]
  | ep c i p =>
    by_cases e : c = b
    · subst e; simp only [kC, if_pos, Jm]
    · simp only [kC, if_neg e, Jm, h c e]
  | _ => rfl
theorem Jqh (h : ∀ c, c ≠ b → L' c = L c) (xs : List TC) : (xs.map (kC b (L b))).map (Jm L') = xs.map (Jm L) := by
  rw [List.map_map]; exact List.map_congr_left fun x _ => k_C h x
theorem k_A (h : ∀ c, c ≠ b → L' c = L c) (x : TA) : J01 L' (kA b (L b) x) = J01 L x := by
  cases x <;> simp only [kA, J01, k_C h, Jqh h]
theorem k_V (h : ∀ c, c ≠ b → L' c = L c) (x : TV) : Jl L' (kV b (L b) x) = Jl L x := by
  cases x <;> simp only [kV, Jl, k_A h, List.map_map, Function.comp_def]
theorem k_B (h : ∀ c, c ≠ b → L' c = L c) (x : TB) : JC L' (kB b (L b) x) = JC L x := by
  cases x <;> simp only [kB, JC, Jqh h]
theorem Jqs (b n : Nat) (x : TB) : lnB (kB b n x) = lnB x := by cases x <;> rfl
theorem JpZ (sto : List TB) (b n c : Nat) : lns (sto.map (kB b n)) c = lns sto c := by
  unfold lns
  rw [List.getElem?_map]
  cases sto[c]? with
  | none => rfl
  | some x => exact Jqs b n x
theorem Jjq (sto : List TB) (b : Nat) (x : TB) (c : Nat) (h : c ≠ b) : lns (sto.set b x) c = lns sto c := by
  unfold lns
  rw [List.getElem?_set_ne (fun e => h e.symm)]
theorem Jga {sto : List TB} {b : Nat} (h : b < sto.length) (x : TB) : lns (sto.set b x) b = lnB x := by
  unfold lns
  rw [List.getElem?_set_self h]; rfl
theorem JnW (b : Nat) (x : TB) (s : TSt) : J9 (wN b x s) = ⟨(J9 s).env, (J9 s).sto.set b (JC (lns (wN b x s).sto) x)⟩ := by
  have h : ∀ c, c ≠ b → lns (wN b x s).sto c = lns s.sto c := fun c hc => by
    unfold wN
    rw [Jjq _ _ _ _ hc, JpZ]
  unfold J9
  congr 1
  · show J1W _ (s.env.map fun y => (y.1, kV b (lns s.sto b) y.2)) = J1W _ s.env
    unfold J1W
    rw [List.map_map]
    exact List.map_congr_left fun y _ => by simp only [Function.comp, k_V h]
  · show ((s.sto.map (kB b (lns s.sto b))).set b x).map _ = _
    rw [List.map_set, List.map_map]
    congr 1
    exact List.map_congr_left fun y _ => k_B h y
theorem J8h {b : Nat} {x : TB} {s : TSt} (h : lnB x = lns s.sto b) : lns (wS b x s).sto = lns s.sto := by
  funext c
  by_cases hc : c = b
  · subst hc
    unfold wS
    rcases Nat.lt_or_ge c s.sto.length with hl | hl
    · rw [Jga hl, h]
    · rw [List.set_eq_of_length_le hl]
  · exact Jjq _ _ _ _ hc
theorem J9a {b : Nat} {x : TB} {s : TSt} (h : lnB x = lns s.sto b) : J9 (wS b x s) = ⟨(J9 s).env, (J9 s).sto.set b (JC (lns s.sto) x)⟩ := by
  unfold J9
  rw [J8h h]
  unfold wS
  rw [List.map_set]
theorem J4C {s s1 : TSt} {ws : List (Nat × Blk)} (h : J9 s1 = ⟨(J9 s).env, upd ws (J9 s).sto⟩) (d : Option Nat) (v : TV) : put d ⟨Jl (lns s1.sto) v, ws⟩ (J9 s) = J9 (JF d v s1) := by
  cases d with
  | none => exact h.symm
  | some d =>
    simp only [put, JF]
    have h1 : (J9 s1).env = (J9 s).env := by rw [h]
    have h2 : (J9 s1).sto = upd ws (J9 s).sto := by rw [h]
    unfold J9 at h1 h2 ⊢
    simp only [J1W, List.map_cons] at h1 h2 ⊢
    rw [h1, h2]
end
theorem J8a {s : TSt} (d : Option Nat) (v : TV) : put d ⟨Jl (lns s.sto) v, []⟩ (J9 s) = J9 (JF d v s) := J4C rfl d v
def tlk (n : Nat) : List (Nat × TV) → Option TV
  | [] => none
  | (m, v) :: r => if n = m then some v else tlk n r
theorem J7s (L : Nat → Nat) (n : Nat) : ∀ env : List (Nat × TV), lk n (J1W L env) = (tlk n env).map (Jl L)
  | [] => rfl
  | (m, v) :: r => by
    simp only [J1W, List.map_cons, lk, tlk]
    split
    · rfl
    · exact J7s L n r
theorem J0p (s : TSt) (b : Nat) : (J9 s).sto[b]? = (s.sto[b]?).map (JC (lns s.sto)) := by
  unfold J9; rw [List.getElem?_map]
theorem J2v {sto : List TB} {b : Nat} {w : Bool} {t : Ty} {rows : List t.D} (h : sto[b]? = some (.arr w t rows)) : lns sto b = rows.length := by
  unfold lns; rw [h]; rfl
inductive TO where
  | t (n : Nat)
  | c (x : TV)
def erO : TO → Opd
  | .t n => .t n
  | .c x => .c (Jl (fun _ => 0) x)
def Jo6 : TC → Bool
  | .d _ _ | .sc _ _ | .np | .nf | .un | .fn _ => true
  | _ => false
def JfI : TA → Bool
  | .c x => Jo6 x
  | .dt _ _ => true
  | .m _ _ => false
  | .fn _ a c => a.isEmpty && c.isEmpty
def JaI : TV → Bool
  | .a x => JfI x
  | .tup vs => vs.isEmpty
theorem JmI {L L' : Nat → Nat} {v : TV} (h : JaI v = true) : Jl L v = Jl L' v := by
  cases v with
  | a x =>
    cases x with
    | c x => cases x <;> first | rfl | (simp [JaI, JfI, Jo6] at h)
    | dt t x => rfl
    | m t cs => simp [JaI, JfI] at h
    | fn f a c =>
      simp [JaI, JfI] at h
      obtain ⟨rfl, rfl⟩ := h
      rfl
  | tup vs =>
    simp [JaI] at h
    subst h; rfl
def tev : TO → TSt → Option TV
  | .t n, s => tlk n s.env
  | .c x, _ => if JaI x = true then some x else none
theorem Jq {x : TO} {s : TSt} {v : TV} (h : tev x s = some v) : (ev (erO x)).run (J9 s) = some (Jl (lns s.sto) v) := by
  cases x with
  | t n =>
    simp only [erO, ev, J3U]
    show (lk n (J1W (lns s.sto) s.env)).bind _ = _
    rw [J7s, show tlk n s.env = some v from h]
    rfl
  | c x =>
    simp only [tev] at h
    split at h
    · rename_i hf
      injection h with h; subst h
      simp only [erO, ev, Je]
      rw [JmI hf]
    · cases h
end Go.Am
end
section
namespace Go.Am
@[reducible] def vi (k : IntKind) (n : Int) : TV := .a (.c (.d (.i k) n))
@[reducible] def vb (x : Bool) : TV := .a (.c (.d .b x))
@[reducible] def vs (l : List UInt8) : TV := .a (.c (.d .s l))
@[reducible] def vl (t : Ty) (l : List t.D) : TV := .a (.c (.d (.l t) l))
def uv : TV := .tup []
def mkv (agg : Bool) (t : Ty) (x : t.D) : TV := if agg = true then .a (.dt t x) else .a (.c (.d t x))
def Ok {R : Type} (m : RM Eff) (d : Option Nat) (s : TSt) (k : TSt → Option R) (r : R) : Prop :=
  ∃ e s', m.run (J9 s) = some e ∧ put d e (J9 s) = J9 s' ∧ k s' = some r
def asm : (t : Ty) → List TC → Option t.D
  | .pr a c, l => match asm a (l.take a.sz), asm c (l.drop a.sz) with
    | some x, some y => some (x, y)
    | _, _ => none
  | .ar _ _, _ => none
  | .u, l => if l.isEmpty = true then some () else none
  | t, l => match l with
    | [.d t' x] => if h : t' = t then some (h ▸ x) else none
    | _ => none
def JbI : (t : Ty) → t.D → Option (List TC)
  | .pr a c, x => match JbI a x.1, JbI c x.2 with
    | some l, some q => some (l ++ q)
    | _, _ => none
  | .ar _ _, _ => none
  | .u, _ => some []
  | t, x => some [.d t x]
theorem Ja7 (L : Nat → Nat) : ∀ {t : Ty} {l : List TC} {x : t.D}, asm t l = some x → l.map (Jm L) = (cel t x).map .p
  | .pr a c, l, x, h => by
    simp only [asm] at h
    split at h
    · rename_i y z hy hz
      injection h with h; subst h
      have h1 := Ja7 L hy
      have h2 := Ja7 L hz
      simp only [cel, List.map_append, ← h1, ← h2]
      rw [← List.map_append, List.take_append_drop]
    · cases h
  | .ar _ _, _, _, h => by cases h
  | .u, l, x, h => by
    simp only [asm] at h
    split at h
    · rename_i h0; rw [List.isEmpty_iff.1 h0]; rfl
    · cases h
  | .b, l, x, h => by
    simp only [asm] at h
    split at h
    · split at h
      · rename_i h0; subst h0; injection h with h; subst h; rfl
      · cases h
    · cases h
  | .i _, l, x, h => by
    simp only [asm] at h
    split at h
    · split at h
      · rename_i h0; subst h0; injection h with h; subst h; rfl
      · cases h
    · cases h
  | .s, l, x, h => by
    simp only [asm] at h
    split at h
    · split at h
      · rename_i h0; subst h0; injection h with h; subst h; rfl
      · cases h
    · cases h
  | .l _, l, x, h => by
    simp only [asm] at h
    split at h
    · split at h
      · rename_i h0; subst h0; injection h with h; subst h; rfl
      · cases h
    · cases h
  | .f, l, x, h => by
    simp only [asm] at h
    split at h
    · split at h
      · rename_i h0; subst h0; injection h with h; subst h; rfl
      · cases h
    · cases h
theorem J89 (L : Nat → Nat) : ∀ {t : Ty} {x : t.D} {l : List TC}, JbI t x = some l → l.map (Jm L) = (cel t x).map .p
  | .pr a c, x, l, h => by
    simp only [JbI] at h
    split at h
    · rename_i y z hy hz
      injection h with h; subst h
      have h1 := J89 L hy
      have h2 := J89 L hz
      simp only [cel, List.map_append, ← h1, ← h2]
    · cases h
  | .ar _ _, _, _, h => by cases h
  | .u, x, l, h => by injection h with h; subst h; rfl
  | .b, x, l, h => by injection h with h; subst h; rfl
  | .i _, x, l, h => by injection h with h; subst h; rfl
  | .s, x, l, h => by injection h with h; subst h; rfl
  | .l _, x, l, h => by injection h with h; subst h; rfl
  | .f, x, l, h => by injection h with h; subst h; rfl
def zcs : Ty → List TC
  | .pr a c => zcs a ++ zcs c
  | .ar n t => (List.replicate n (zcs t)).flatten
  | .u => []
  | t => [.d t t.zero]
theorem J8C (L : Nat → Nat) : ∀ t : Ty, (zcs t).map (Jm L) = (cel t t.zero).map .p
  | .pr a c => by simp only [zcs, List.map_append, J8C L a, J8C L c, Ty.zero, cel]
  | .ar n t => by
    have ih := J8C L t
    have e : cel (.ar n t) (Ty.ar n t).zero = (List.replicate n (cel t t.zero)).flatten := by
      simp only [cel, J5r, Ty.zero, Vector.toList_replicate, List.map_replicate]
    rw [e]
    simp only [zcs, List.map_flatten, List.map_replicate, ih]
  | .u => rfl
  | .b => rfl
  | .i _ => rfl
  | .s => rfl
  | .l _ => rfl
  | .f => rfl
def mkb (t : Ty) (cs : List TC) : TB := match asm t cs with
  | some x => .box t x
  | none => .mbox t cs
theorem JaJ (L : Nat → Nat) (t : Ty) (cs : List TC) : JC L (mkb t cs) = .box (cs.map (Jm L)) := by
  unfold mkb
  split
  · rename_i x hx; rw [J8e, Ja7 L hx]
  · rfl
theorem JaN (t : Ty) (cs : List TC) : lnB (mkb t cs) = 0 := by unfold mkb; split <;> rfl
def Jk4 : TC → Bool
  | .ptr _ _ | .cp _ _ _ | .slr _ | .slo _ _ | .ep _ _ _ | .epo _ _ _ _ | .un | .fn _ => true
  | _ => false
theorem JdZ (L : Nat → Nat) : ∀ {cs : List TC}, cs.any Jk4 = true → unp (cs.map (Jm L)) = none
  | [], h => by simp at h
  | x :: r, h => by
    simp only [List.any_cons, Bool.or_eq_true] at h
    rcases h with h | h
    · cases x <;> simp [Jk4] at h <;> rfl
    · have := JdZ L h
      cases x <;> simp [Jm, unp, this]
def mka (agg : Bool) (t : Ty) (cs : List TC) : Option TV :=
  if agg = true then
    match asm t cs with
    | some x => some (.a (.dt t x))
    | none => if cs.any Jk4 = true then some (.a (.m t cs)) else none
  else match cs with
    | [c] => some (.a (.c c))
    | _ => none
theorem J8w (L : Nat → Nat) {agg : Bool} {t : Ty} {cs : List TC} {v : TV} (h : mka agg t cs = some v) : J1E agg (cs.map (Jm L)) = some (Jl L v) := by
  unfold mka at h
  split at h
  · rename_i ha
    subst ha
    split at h
    · rename_i x hx
      injection h with h; subst h
      rw [Ja7 L hx, Jbu]; rfl
    · split at h
      · rename_i hr
        injection h with h; subst h
        simp only [J1E, JdZ L hr, if_true]; rfl
      · cases h
  · rename_i ha
    split at h
    · injection h with h; subst h
      have : agg = false := by simpa using ha
      subst this
      rfl
    · cases h
def tcs : TV → Option (List TC)
  | .a (.c .un) => none
  | .a (.c x) => some [x]
  | .a (.dt t x) => JbI t x
  | .a (.m _ cs) => some cs
  | .a (.fn f [] []) => some [.fn f]
  | _ => none
theorem J9T (L : Nat → Nat) {v : TV} {cs : List TC} (h : tcs v = some cs) : cellsOf (Jl L v) = some (cs.map (Jm L)) := by
  cases v with
  | a x =>
    cases x with
    | c x =>
      cases x <;> cases h <;> rfl
    | dt t x =>
      simp only [Jl, J01, cellsOf]
      rw [J89 L h]
    | m t cs =>
      injection h with h; subst h; rfl
    | fn f a c =>
      cases a with
      | nil => cases c with
        | nil => injection h with h; subst h; rfl
        | cons y c => cases h
      | cons y a => cases h
  | tup vs => cases h
def tdv (t : Ty) : TV → Option t.D
  | .a (.c (.d t' x)) => if h : t' = t then some (h ▸ x) else none
  | .a (.dt t' x) => if h : t' = t then some (h ▸ x) else none
  | _ => none
def agv : TV → Bool
  | .a (.dt _ _) => true
  | _ => false
theorem JqA (L : Nat → Nat) {t : Ty} {v : TV} {x : t.D} (h : tdv t v = some x) : Jl L v = if agv v = true then .data (cel t x) else .p (hdP (cel t x)) := by
  unfold tdv at h
  split at h
  · split at h
    · rename_i h0; subst h0; injection h with h; subst h; rfl
    · cases h
  · split at h
    · rename_i h0; subst h0; injection h with h; subst h; rfl
    · cases h
  · cases h
def J8R : List Sp → Option Nat
  | [] => some 0
  | .f o :: r => match J8R r with
    | some n => some (o + n)
    | none => none
  | .a _ _ :: _ => none
theorem J8F : ∀ {p : List Sp} {n : Nat}, J8R p = some n → spo p = n
  | [], n, h => by injection h with h
  | .f o :: r, n, h => by
    simp only [J8R] at h
    split at h
    · rename_i m hm
      injection h with h
      simp only [spo, J8F hm, h]
    · cases h
  | .a _ _ :: _, _, h => by cases h
section
variable {R : Type}
def Jk1 (agg : Bool) (t : Ty) (v : TV) (d : Option Nat) (s : TSt) (k : TSt → Option R) : Option R :=
  if agg = true ∨ t.sz = 1 then
    match v with
    | .a (.c (.cp t0 x p)) => prt t0 x (spf 0 p).1 (spf 0 p).2 t fun y => k (JF d (mkv agg t y) s)
    | .a (.c (.ptr b p)) => match s.sto[b]? with
      | some (.box t0 x) => prt t0 x (spf 0 p).1 (spf 0 p).2 t fun y => k (JF d (mkv agg t y) s)
      | some (.mbox _ cs) => match J8R p with
        | some off => match sub cs off t.sz with
          | some l => match mka agg t l with
            | some v => k (JF d v s)
            | none => none
          | none => none
        | none => none
      | _ => none
    | .a (.c (.ep b i p)) => match s.sto[b]? with
      | some (.arr _ t0 rows) => (lat rows i).bind fun row => prt t0 row (spf 0 p).1 (spf 0 p).2 t fun y => k (JF d (mkv agg t y) s)
      | _ => none
    | _ => none
  else none
theorem J8i (L : Nat → Nat) {agg : Bool} {t : Ty} (h : agg = true ∨ t.sz = 1) (y : t.D) : J1V agg (cel t y) = some (Jl L (mkv agg t y)) := by
  unfold mkv
  split
  · rename_i ha; subst ha; rfl
  · rename_i ha
    have : agg = false := by simpa using ha
    subst this
    have := h.resolve_left (by simp)
    rw [Jgx this]; rfl
theorem JgP (p : List Sp) : (spf 0 p).1 + spo (spf 0 p).2 = spo p := by have := JfS 0 p; omega
theorem JnT {agg : Bool} {t : Ty} {v : TV} {d : Option Nat} {s : TSt} {k : TSt → Option R} {r : R} (h : Jk1 agg t v d s k = some r) : Ok (J1U agg t.sz (Jl (lns s.sto) v)) d s k r := by
  unfold Jk1 at h
  split at h
  · rename_i ha
    split at h
    · rename_i t0 x p
      obtain ⟨y, h1, h2⟩ := J52 h
      rw [JgP] at h1
      refine ⟨_, _, ?_, J8a d (mkv agg t y), h2⟩
      simp only [J3p, J5X, J5W, J29, J1U, h1, J8i (lns s.sto) ha, val]; rfl
    · rename_i b p
      split at h
      · rename_i t0 x hb
        obtain ⟨y, h1, h2⟩ := J52 h
        rw [JgP] at h1
        refine ⟨_, _, ?_, J8a d (mkv agg t y), h2⟩
        have hc : J1E agg ((cel t y).map .p) = J1V agg (cel t y) := by
          unfold J1E J1V
          split
          · rw [J76]
          · cases hcel : cel t y with
            | nil => rfl
            | cons a l => cases l <;> rfl
        simp only [J3p, J5X, J5W, J29, J1U, J0g, J0p, hb, Option.map_some, Option.bind_some, JC, J5O, h1, hc, J8i (lns s.sto) ha, val]; rfl
      · rename_i cs hb
        split at h
        · rename_i off ho
          split at h
          · rename_i l hl
            split at h
            · rename_i v hv
              refine ⟨_, _, ?_, J8a d v, h⟩
              simp only [J3p, J5X, J5W, J29, J1U, J0g, J0p, hb, Option.map_some, Option.bind_some, JC, J5O, J8F ho, hl, J8w (lns s.sto) hv, val]; rfl
            · cases h
          · cases h
        · cases h
      · cases h
    · rename_i b i p
      split at h
      · rename_i w t0 rows hb
        obtain ⟨row, hr, h⟩ := Option.bind_eq_some_iff.1 h
        have hr : rows[i]? = some row := hr
        obtain ⟨y, h1, h2⟩ := J52 h
        rw [JgP] at h1
        refine ⟨_, _, ?_, J8a d (mkv agg t y), h2⟩
        simp only [J3p, J5X, J5W, J29, J1U, J0g, J0p, hb, Option.map_some, Option.bind_some, JC, J2v hb, List.length_map, if_true, List.getElem?_map, hr, h1, J8i (lns s.sto) ha, val]; rfl
      · cases h
    · cases h
  · cases h
end
end Go.Am
end
section
namespace Go.Am
section
variable {R : Type}
def fzC : (t : Ty) → List TC → TSt → (t.D → TSt → Option R) → Option R
  | .pr a c, l, s, k => fzC a (l.take a.sz) s fun x s => fzC c (l.drop a.sz) s fun y s => k (x, y) s
  | .ar _ _, _, _, _ => none
  | .u, l, s, k => if l.isEmpty = true then k () s else none
  | .l e, l, s, k => match l with
    | [.d t' x] => if h : t' = .l e then k (h ▸ x) s else none
    | [.slr b] => match s.sto[b]? with
      | some (.arr _ e' rows) => if h : e' = e then k (h ▸ rows) (wS b (.arr false e' rows) s) else none
      | _ => none
    | _ => none
  | t, l, s, k => match l with
    | [.d t' x] => if h : t' = t then k (h ▸ x) s else none
    | _ => none
def tfz (t : Ty) (v : TV) (s : TSt) (k : t.D → TSt → Option R) : Option R :=
  match v with
  | .a (.dt t' x) => if h : t' = t then k (h ▸ x) s else none
  | .a (.c x) => fzC t [x] s k
  | .a (.m _ cs) => fzC t cs s k
  | _ => none
def Fzd (s s' : TSt) (ws : List (Nat × Blk)) : Prop :=
  s'.env = s.env ∧ lns s'.sto = lns s.sto ∧ J9 s' = ⟨(J9 s).env, upd ws (J9 s).sto⟩ ∧ (∀ (b : Nat) (t : Ty) (rows : List t.D) (w : Bool), s'.sto[b]? = some (TB.arr w t rows) → ∃ w', s.sto[b]? = some (TB.arr w' t rows)) ∧
  (∀ (b : Nat) (t : Ty) (rows : List t.D), s.sto[b]? = some (TB.arr false t rows) → s'.sto[b]? = some (TB.arr false t rows)) ∧
  ∀ x ∈ ws, ∃ (t : Ty) (rows : List t.D), s'.sto[x.1]? = some (TB.arr false t rows)
theorem Fzd.refl (s : TSt) : Fzd s s [] := ⟨rfl, rfl, rfl, fun b t rows w h => ⟨w, h⟩, fun b t rows h => h, fun x h => by cases h⟩
theorem Fzd.trans {s1 s2 s3 : TSt} {a c : List (Nat × Blk)} (h : Fzd s1 s2 a) (h' : Fzd s2 s3 c) : Fzd s1 s3 (a ++ c) := by
  obtain ⟨h1, h2, h3, h4, h5, h6⟩ := h
  obtain ⟨q1, q2, q3, q4, q5, q6⟩ := h'
  refine ⟨q1.trans h1, q2.trans h2, ?_, fun b t rows w h => ?_, fun b t rows h => q5 b t rows (h5 b t rows h), fun x hx => ?_⟩
  · rw [q3, h3, J0k]
  · obtain ⟨w', h⟩ := q4 b t rows w h
    exact h4 b t rows w' h
  · rcases List.mem_append.1 hx with hx | hx
    · obtain ⟨t, rows, h⟩ := h6 x hx
      exact ⟨t, rows, q5 _ t rows h⟩
    · exact q6 x hx
theorem Je3 {s : TSt} {b : Nat} {w : Bool} {t : Ty} {rows : List t.D} (hb : s.sto[b]? = some (.arr w t rows)) : Fzd s (wS b (.arr false t rows) s) [(b, .arr false t.sz (rows.map (cel t)))] := by
  have hl : lnB (.arr false t rows) = lns s.sto b := by rw [J2v hb]; rfl
  have hs : (wS b (.arr false t rows) s).sto[b]? = some (.arr false t rows) := by unfold wS; rw [List.getElem?_set_self (J5 hb)]
  have ho : ∀ c, c ≠ b → (wS b (.arr false t rows) s).sto[c]? = s.sto[c]? := fun c hc => by unfold wS; rw [List.getElem?_set_ne (fun e => hc e.symm)]
  refine ⟨rfl, J8h hl, J9a hl, fun c t' rs w' h => ?_, fun c t' rs h => ?_, fun x hx => ?_⟩
  · by_cases hc : c = b
    · subst hc
      rw [hs] at h
      injection h with h
      injection h with h1 h2 h3
      subst h2
      have h3 := eq_of_heq h3
      subst h3
      exact ⟨w, hb⟩
    · rw [ho c hc] at h
      exact ⟨w', h⟩
  · by_cases hc : c = b
    · subst hc
      rw [hb] at h
      injection h with h
      injection h with h1 h2 h3
      subst h2
      have h3 := eq_of_heq h3
      subst h3
      exact hs
    · rw [ho c hc]; exact h
  · simp only [List.mem_singleton] at hx
    subst hx
    exact ⟨t, rows, hs⟩
theorem Jot (x y : List AV) (st : St) : (fz.fzL (x ++ y)).run st = ((fz.fzL x).run st).bind fun a => ((fz.fzL y).run st).map fun c => (a.1 ++ c.1, a.2 ++ c.2) := by
  induction x with
  | nil => simp only [List.nil_append, fz.fzL, Je, Option.bind_some]; cases (fz.fzL y).run st <;> rfl
  | cons v x ih =>
    simp only [List.cons_append, fz.fzL, run_bind, ih]
    cases (fz.fz1 v).run st with
    | none => rfl
    | some a =>
      simp only [Option.bind_some]
      cases (fz.fzL x).run st with
      | none => rfl
      | some c =>
        simp only [Option.bind_some]
        cases (fz.fzL y).run st with
        | none => rfl
        | some e => simp [Je]
theorem J9K {L : Nat → Nat} {t t' : Ty} {x : t'.D} (h : t' = t) (h1 : t.sz = 1) (st : St) : (fz.fzL ([TC.d t' x].map (Jm L))).run st = some (cel t (h ▸ x), []) := by
  subst h
  have e := Jgx h1 x
  simp only [List.map_cons, List.map_nil, Jm, fz.fzL, fz.fz1, run_bind, Je, Option.bind_some, List.append_nil]
  rw [← e]
theorem Jaq : ∀ {t : Ty} {l : List TC} {s0 s : TSt} {w0 : List (Nat × Blk)} {k : t.D → TSt → Option R} {r : R}, Fzd s0 s w0 → fzC t l s k = some r →
    ∃ y s' ws, (fz.fzL (l.map (Jm (lns s0.sto)))).run (J9 s0) = some (cel t y, ws) ∧ Fzd s0 s' (w0 ++ ws) ∧ k y s' = some r
  | .pr a c, l, s0, s, w0, k, r, f0, h => by
    simp only [fzC] at h
    obtain ⟨x, s1, w1, e1, f1, h⟩ := Jaq f0 h
    obtain ⟨y, s2, w2, e2, f2, h⟩ := Jaq f1 h
    refine ⟨(x, y), s2, w1 ++ w2, ?_, by rw [← List.append_assoc]; exact f2, h⟩
    have := Jot ((l.take a.sz).map (Jm (lns s0.sto))) ((l.drop a.sz).map (Jm (lns s0.sto))) (J9 s0)
    rw [← List.map_append, List.take_append_drop, e1, e2] at this
    exact this
  | .ar _ _, _, _, _, _, _, _, _, h => by cases h
  | .u, l, s0, s, w0, k, r, f0, h => by
    simp only [fzC] at h
    split at h
    · rename_i h0
      refine ⟨(), s, [], ?_, by rw [List.append_nil]; exact f0, h⟩
      rw [List.isEmpty_iff.1 h0]; rfl
    · cases h
  | .l e, l, s0, s, w0, k, r, f0, h => by
    simp only [fzC] at h
    split at h
    · split at h
      · rename_i h0; exact ⟨_, s, [], J9K h0 rfl _, by rw [List.append_nil]; exact f0, h⟩
      · cases h
    · rename_i b
      split at h
      · rename_i w e' rows hb
        split at h
        · rename_i h0
          subst h0
          obtain ⟨w', hb0⟩ := f0.2.2.2.1 b _ rows w hb
          refine ⟨rows, _, [(b, .arr false e'.sz (rows.map (cel e')))], ?_, f0.trans (Je3 hb), h⟩
          simp only [List.map_cons, List.map_nil, Jm, fz.fzL, fz.fz1, run_bind, J0g, J0p, hb0, Option.map_some, Option.bind_some, JC, J2v hb0, List.length_map, Nat.zero_add, if_true, List.drop_zero, Je]
          rfl
        · cases h
      · cases h
    · cases h
  | .b, l, s0, s, w0, k, r, f0, h => by
    simp only [fzC] at h
    split at h
    · split at h
      · rename_i h0; exact ⟨_, s, [], J9K h0 rfl _, by rw [List.append_nil]; exact f0, h⟩
      · cases h
    · cases h
  | .i _, l, s0, s, w0, k, r, f0, h => by
    simp only [fzC] at h
    split at h
    · split at h
      · rename_i h0; exact ⟨_, s, [], J9K h0 rfl _, by rw [List.append_nil]; exact f0, h⟩
      · cases h
    · cases h
  | .s, l, s0, s, w0, k, r, f0, h => by
    simp only [fzC] at h
    split at h
    · split at h
      · rename_i h0; exact ⟨_, s, [], J9K h0 rfl _, by rw [List.append_nil]; exact f0, h⟩
      · cases h
    · cases h
  | .f, l, s0, s, w0, k, r, f0, h => by
    simp only [fzC] at h
    split at h
    · split at h
      · rename_i h0; exact ⟨_, s, [], J9K h0 rfl _, by rw [List.append_nil]; exact f0, h⟩
      · cases h
    · cases h
theorem Jrn (x : AV) (hx : (∀ cs, x ≠ .data cs) ∧ ∀ cs, x ≠ .agg cs) (st : St) {y : List PV} {ws : List (Nat × Blk)} (h : (fz.fzL [x]).run st = some (y, ws)) : (fz x).run st = some (y, ws) := by
  simp only [fz.fzL, run_bind, Je] at h
  cases x with
  | p c => simpa [fz, fz.fz1, Je] using h
  | slr b i n =>
    simp only [fz, fz.fz1] at h ⊢
    obtain ⟨a, h1, h⟩ := Option.bind_eq_some_iff.1 h
    simp at h
    rw [h1]
    simp [← h]
  | data cs => exact absurd rfl (hx.1 cs)
  | agg cs => exact absurd rfl (hx.2 cs)
  | _ => simp [fz.fz1, Jn8] at h
theorem JlR {t : Ty} {v : TV} {s0 s : TSt} {w0 : List (Nat × Blk)} {k : t.D → TSt → Option R} {r : R} (f0 : Fzd s0 s w0) (h : tfz t v s k = some r) :
    ∃ y s' ws, (fz (Jl (lns s0.sto) v)).run (J9 s0) = some (cel t y, ws) ∧ Fzd s0 s' (w0 ++ ws) ∧ k y s' = some r := by
  unfold tfz at h
  split at h
  · split at h
    · rename_i h0; subst h0
      exact ⟨_, s, [], rfl, by rw [List.append_nil]; exact f0, h⟩
    · cases h
  · rename_i x
    obtain ⟨y, s', ws, h1, h2, h3⟩ := Jaq f0 h
    refine ⟨y, s', ws, Jrn _ ⟨fun cs => ?_, fun cs => ?_⟩ _ h1, h2, h3⟩ <;> cases x <;> simp [Jm, Jl, J01]
  · obtain ⟨y, s', ws, h1, h2, h3⟩ := Jaq f0 h
    exact ⟨y, s', ws, h1, h2, h3⟩
  · cases h
end
end Go.Am
end
section
namespace Go.Am
section
variable {R : Type}
theorem Jan (L : Nat → Nat) {t : Ty} {v : TV} {x : t.D} (h : tdv t v = some x) (ha : agv v = true ∨ t.sz = 1) : cellsOf (Jl L v) = some ((cel t x).map .p) := by
  rw [JqA L h]
  split
  · rfl
  · rename_i hn
    rw [Jgx (ha.resolve_left hn)]; rfl
def JgF (t : Ty) (x u : TV) (d : Option Nat) (s : TSt) (k : TSt → Option R) : Option R :=
  match x with
  | .a (.c (.ptr b p)) => match s.sto[b]? with
    | some (.box t0 y) => match tdv t u with
      | some z => if agv u = true ∨ t.sz = 1 then pst t0 y (spf 0 p).1 (spf 0 p).2 t z fun y' => k (JF d uv (wS b (.box t0 y') s)) else none
      | none => match J8R p, JbI t0 y, tcs u with
        | some off, some cs, some l => if l.length = t.sz then
            match spl cs off l with
            | some cs' => k (JF d uv (wS b (mkb t0 cs') s))
            | none => none
          else none
        | some off, none, some l => if off = 0 ∧ l.length = t0.sz ∧ l.length = t.sz then k (JF d uv (wS b (mkb t0 l) s)) else none
        | _, _, _ => none
    | some (.mbox t0 cs) => match J8R p, tcs u with
      | some off, some l => if l.length = t.sz then
          match spl cs off l with
          | some cs' => k (JF d uv (wS b (mkb t0 cs') s))
          | none => none
        else none
      | _, _ => none
    | _ => none
  | .a (.c (.ep b i p)) => tfz t u s fun z s1 => match s1.sto[b]? with
    | some (.arr true t0 rows) => (lat rows i).bind fun row => pst t0 row (spf 0 p).1 (spf 0 p).2 t z fun row' => k (JF d uv (wS b (.arr true t0 (J5m rows i row')) s1))
    | _ => none
  | _ => none
theorem JqE (L : Nat → Nat) : Jl L uv = J0H := rfl
theorem JaS {s : TSt} {b : Nat} {t : Ty} {x : t.D} (h : s.sto[b]? = some (.box t x)) : lns s.sto b = 0 := by unfold lns; rw [h]; rfl
theorem Jgq {s : TSt} {b : Nat} {t : Ty} {cs : List TC} (h : s.sto[b]? = some (.mbox t cs)) : lns s.sto b = 0 := by unfold lns; rw [h]; rfl
theorem J4Q {s : TSt} {b : Nat} (h : s.sto[b]? = some .dead) : lns s.sto b = 0 := by unfold lns; rw [h]; rfl
theorem Jd8 {m : RM Eff} {d : Option Nat} {s : TSt} {k : TSt → Option R} {r : R} {b : Nat} {x : TB} {v : TV} (hl : lnB x = lns s.sto b) (hm : m.run (J9 s) = some ⟨Jl (lns s.sto) v, [(b, JC (lns s.sto) x)]⟩)
    (h : k (JF d v (wS b x s)) = some r) : Ok m d s k r := by
  refine ⟨_, _, hm, ?_, h⟩
  have e := J8h hl
  rw [← e]
  refine J4C ?_ d v
  rw [J9a hl, e]; rfl
theorem JkA {m : RM Eff} {d : Option Nat} {s : TSt} {k : TSt → Option R} {r : R} {b : Nat} {x : TB} {v : TV} (hm : m.run (J9 s) = some ⟨Jl (lns (wN b x s).sto) v, [(b, JC (lns (wN b x s).sto) x)]⟩)
    (h : k (JF d v (wN b x s)) = some r) : Ok m d s k r :=
  ⟨_, _, hm, J4C (JnW b x s) d v, h⟩
theorem J0C {m : RM Eff} {d : Option Nat} {s : TSt} {k : TSt → Option R} {r : R} {v : TV} (hm : m.run (J9 s) = some ⟨Jl (lns s.sto) v, []⟩) (h : k (JF d v s) = some r) : Ok m d s k r :=
  ⟨_, _, hm, J8a d v, h⟩
theorem Jgr {m : RM Eff} {d : Option Nat} {s s' : TSt} {ws : List (Nat × Blk)} {k : TSt → Option R} {r : R} {v : TV} (f : Fzd s s' ws) (hm : m.run (J9 s) = some ⟨Jl (lns s.sto) v, ws⟩) (h : k (JF d v s') = some r) : Ok m d s k r := by
  refine ⟨_, _, hm, ?_, h⟩
  rw [← f.2.1]
  exact J4C f.2.2.1 d v
theorem JkX {t : Ty} {x u : TV} {d : Option Nat} {s : TSt} {k : TSt → Option R} {r : R} (h : JgF t x u d s k = some r) : Ok (J1H t.sz (Jl (lns s.sto) x) (Jl (lns s.sto) u)) d s k r := by
  unfold JgF at h
  split at h
  · rename_i b p
    split at h
    · rename_i t0 y hb
      split at h
      · rename_i z hz
        split at h
        · rename_i ha
          obtain ⟨y', h1, h2⟩ := J5T h
          rw [JgP] at h1
          refine Jd8 (x := .box t0 y') (v := uv) (JaS hb).symm ?_ h2
          simp only [J3p, J5X, J5W, J29, J1H, J0g, J0p, hb, Option.map_some, Option.bind_some, JC, Jan (lns s.sto) hz ha, List.length_map, J05, if_true, J5V, h1, Je]
          rfl
        · cases h
      · split at h
        · rename_i off cs l ho hc hl
          split at h
          · rename_i hn
            split at h
            · rename_i cs' hs
              refine Jd8 (x := mkb t0 cs') (v := uv) ((JaN _ _).trans (JaS hb).symm) ?_ h
              rw [JaJ]
              simp only [J3p, J5X, J5W, J29, J1H, J0g, J0p, hb, Option.map_some, Option.bind_some, JC, J9T (lns s.sto) hl, List.length_map, hn, if_true, J8F ho, ← J89 (lns s.sto) hc, J5V, hs, Je]
              rfl
            · cases h
          · cases h
        · rename_i off l ho _ hl
          split at h
          · rename_i h0
            obtain ⟨rfl, h1, h2⟩ := h0
            refine Jd8 (x := mkb t0 l) (v := uv) ((JaN _ _).trans (JaS hb).symm) ?_ h
            rw [JaJ]
            have he : spl ((cel t0 y).map AV.p) 0 (l.map (Jm (lns s.sto))) = some (l.map (Jm (lns s.sto))) := JiQ (by rw [List.length_map, List.length_map, J05, h1])
            simp only [J3p, J5X, J5W, J29, J1H, J0g, J0p, hb, Option.map_some, Option.bind_some, JC, J9T (lns s.sto) hl, List.length_map, h2, if_true, J8F ho, he, Je]
            rfl
          · cases h
        · cases h
    · rename_i t0 cs hb
      split at h
      · rename_i off l ho hl
        split at h
        · rename_i hn
          split at h
          · rename_i cs' hs
            refine Jd8 (x := mkb t0 cs') (v := uv) ((JaN _ _).trans (Jgq hb).symm) ?_ h
            rw [JaJ]
            simp only [J3p, J5X, J5W, J29, J1H, J0g, J0p, hb, Option.map_some, Option.bind_some, JC, J9T (lns s.sto) hl, List.length_map, hn, if_true, J8F ho, J5V, hs, Je]
            rfl
          · cases h
        · cases h
      · cases h
    · cases h
  · rename_i b i p
    obtain ⟨z, s1, ws, h1, f, h⟩ := JlR (Fzd.refl s) h
    rw [List.nil_append] at f
    split at h
    · rename_i t0 rows hb
      obtain ⟨row, hr, h⟩ := Option.bind_eq_some_iff.1 h
      have hr : rows[i]? = some row := hr
      obtain ⟨row', q1, q2⟩ := J5T h
      rw [JgP] at q1
      obtain ⟨w', hb0⟩ := f.2.2.2.1 b _ rows true hb
      have hw : w' = true := by
        cases w' with
        | true => rfl
        | false =>
          have := f.2.2.2.2.1 b _ rows hb0
          rw [hb] at this; injection this with this; injection this with this; cases this
      subst hw
      have hnot : (ws.all fun y => y.1 != b) = true := by
        rw [List.all_eq_true]
        intro y hy
        obtain ⟨t', rows', hf⟩ := f.2.2.2.2.2 y hy
        rw [bne_iff_ne]
        intro e
        rw [e, hb] at hf
        injection hf with hf; injection hf with hf; cases hf
      have hl : lnB (.arr true t0 (J5m rows i row')) = lns s1.sto b := by rw [J2v hb]; simp [lnB, J5m]
      refine ⟨⟨J0H, ws ++ [(b, .arr true t0.sz ((J5m rows i row').map (cel t0)))]⟩, _, ?_, ?_, q2⟩
      · simp only [J3p, J5X, J5W, J29, J1H, J0g, J0p, hb0, Option.map_some, Option.bind_some, JC, J2v hb0, List.length_map, if_true, List.getElem?_map, hr, run_bind, h1, J05, hnot, and_self, q1, Je, List.map_set, J5m]
      · rw [← JqE (lns (wS b (.arr true t0 (J5m rows i row')) s1).sto)]
        refine J4C ?_ d uv
        rw [J9a hl, f.2.2.1, J0k]; rfl
    · cases h
  · cases h
def tpv : List (Nat × Ty × TO) → TSt → Option (List (Nat × (w : Ty) × w.D))
  | [], _ => some []
  | (off, w, o) :: r, s => match tev o s with
    | some v => match tdv w v with
      | some z => if agv v = true ∨ w.sz = 1 then
          match tpv r s with
          | some l => some ((off, ⟨w, z⟩) :: l)
          | none => none
        else none
      | none => none
    | none => none
def JfY (t : Ty) : t.D → List (Nat × (w : Ty) × w.D) → (t.D → Option R) → Option R
  | x, [], k => k x
  | x, (off, ⟨w, z⟩) :: r, k => pst t x off [] w z fun x' => JfY t x' r k
def tpc : List (Nat × Ty × TO) → TSt → Option (List (Nat × Nat × List TC))
  | [], _ => some []
  | (off, w, o) :: r, s => match tev o s with
    | some v => match tcs v with
      | some l => match tpc r s with
        | some q => some ((off, w.sz, l) :: q)
        | none => none
      | none => none
    | none => none
def Jdy : List (Nat × Nat × List TC) → List TC → Option (List TC)
  | [], cs => some cs
  | (off, n, c) :: r, cs => if c.length = n then
      match spl cs off c with
      | some cs' => Jdy r cs'
      | none => none
    else none
def erP (parts : List (Nat × Ty × TO)) : List (Nat × Nat × Opd) := parts.map fun x => (x.1, x.2.1.sz, erO x.2.2)
theorem Jh9 {s : TSt} : ∀ {parts : List (Nat × Ty × TO)} {l : List (Nat × Nat × List TC)}, tpc parts s = some l →
    (J2i (erP parts)).run (J9 s) = some (l.map fun x => (x.1, x.2.1, x.2.2.map (Jm (lns s.sto))))
  | [], l, h => by injection h with h; subst h; rfl
  | (off, w, o) :: r, l, h => by
    simp only [tpc] at h
    split at h
    · rename_i v hv
      split at h
      · rename_i c hc
        split at h
        · rename_i q hq
          injection h with h; subst h
          have ih := Jh9 hq
          simp only [erP, List.map_cons, J2i, run_bind, Jq hv, Option.bind_some, J9T (lns s.sto) hc]
          rw [show (r.map fun x => (x.1, x.2.1.sz, erO x.2.2)) = erP r from rfl, ih]
          rfl
        · cases h
      · cases h
    · cases h
theorem Jl8 {s : TSt} : ∀ {parts : List (Nat × Ty × TO)} {l : List (Nat × (w : Ty) × w.D)}, tpv parts s = some l →
    (J2i (erP parts)).run (J9 s) = some (l.map fun x => (x.1, x.2.1.sz, (cel x.2.1 x.2.2).map .p))
  | [], l, h => by injection h with h; subst h; rfl
  | (off, w, o) :: r, l, h => by
    simp only [tpv] at h
    split at h
    · rename_i v hv
      split at h
      · rename_i z hz
        split at h
        · rename_i ha
          split at h
          · rename_i q hq
            injection h with h; subst h
            have ih := Jl8 hq
            simp only [erP, List.map_cons, J2i, run_bind, Jq hv, Option.bind_some, Jan (lns s.sto) hz ha]
            rw [show (r.map fun x => (x.1, x.2.1.sz, erO x.2.2)) = erP r from rfl, ih]
            rfl
          · cases h
        · cases h
      · cases h
    · cases h
theorem JgK {t : Ty} : ∀ {l : List (Nat × (w : Ty) × w.D)} {x : t.D} {k : t.D → Option R} {r : R}, JfY t x l k = some r →
    ∃ y, J3c (l.map fun x => (x.1, x.2.1.sz, (cel x.2.1 x.2.2).map .p)) ((cel t x).map .p) = some ((cel t y).map .p) ∧ k y = some r
  | [], x, k, r, h => ⟨x, rfl, h⟩
  | (off, ⟨w, z⟩) :: q, x, k, r, h => by
    simp only [JfY] at h
    obtain ⟨x', h1, h2⟩ := J5T h
    obtain ⟨y, h3, h4⟩ := JgK h2
    refine ⟨y, ?_, h4⟩
    simp only [List.map_cons, J3c, List.length_map, J05, if_true]
    rw [J5V, show off = off + spo [] from rfl, h1]
    exact h3
theorem JbT (L : Nat → Nat) : ∀ {l : List (Nat × Nat × List TC)} {cs cs' : List TC}, Jdy l cs = some cs' →
    J3c (l.map fun x => (x.1, x.2.1, x.2.2.map (Jm L))) (cs.map (Jm L)) = some (cs'.map (Jm L))
  | [], cs, cs', h => by injection h with h; subst h; rfl
  | (off, n, c) :: q, cs, cs', h => by
    simp only [Jdy] at h
    split at h
    · rename_i hn
      split at h
      · rename_i c1 hs
        simp only [List.map_cons, J3c, List.length_map, hn, if_true, J5V, hs, Option.map_some]
        exact JbT L h
      · cases h
    · cases h
def JgQ (t : Ty) (parts : List (Nat × Ty × TO)) (d : Option Nat) (s : TSt) (k : TSt → Option R) : Option R :=
  match tpv parts s with
  | some l => JfY t t.zero l fun y => k (JF d (.a (.dt t y)) s)
  | none => match tpc parts s with
    | some l => match Jdy l (zcs t) with
      | some cs' => match mka true t cs' with
        | some v => k (JF d v s)
        | none => none
      | none => none
    | none => none
theorem JkS (F : Orc) (new : Nat) {t : Ty} {parts : List (Nat × Ty × TO)} {d : Option Nat} {s : TSt} {k : TSt → Option R} {r : R} (h : JgQ t parts d s k = some r) : Ok (opR F (.build (cel t t.zero) (erP parts)) new) d s k r := by
  unfold JgQ at h
  split at h
  · rename_i l hl
    obtain ⟨y, h1, h2⟩ := JgK h
    refine J0C (v := .a (.dt t y)) ?_ h2
    simp only [opR, run_bind, Jl8 hl, Option.bind_some, h1, Jbu, val, Je]; rfl
  · split at h
    · rename_i l hl
      split at h
      · rename_i cs' hf
        split at h
        · rename_i v hv
          refine J0C (v := v) ?_ h
          simp only [opR, run_bind, Jh9 hl, Option.bind_some, ← J8C (lns s.sto) t, JbT (lns s.sto) hf, J8w (lns s.sto) hv, val, Je]
        · cases h
      · cases h
    · cases h
def Jhq (agg : Bool) (off : Nat) (t : Ty) (v : TV) (d : Option Nat) (s : TSt) (k : TSt → Option R) : Option R :=
  if agg = true ∨ t.sz = 1 then
    match v with
    | .a (.dt t0 x) => prt t0 x off [] t fun y => k (JF d (mkv agg t y) s)
    | .a (.m _ cs) => match sub cs off t.sz with
      | some l => match mka agg t l with
        | some v => k (JF d v s)
        | none => none
      | none => none
    | _ => none
  else none
theorem JlP {agg : Bool} {off : Nat} {t : Ty} {v : TV} {d : Option Nat} {s : TSt} {k : TSt → Option R} {r : R} (h : Jhq agg off t v d s k = some r) : Ok (val (J4B agg off t.sz (Jl (lns s.sto) v))) d s k r := by
  unfold Jhq at h
  split at h
  · rename_i ha
    split at h
    · rename_i t0 x
      obtain ⟨y, h1, h2⟩ := J52 h
      refine J0C (v := mkv agg t y) ?_ h2
      simp only [spo, Nat.add_zero] at h1
      simp only [Jk0, e_m, J4B, h1, J8i (lns s.sto) ha, val, Je]
    · rename_i cs
      split at h
      · rename_i l hl
        split at h
        · rename_i v hv
          refine J0C (v := v) ?_ h
          simp only [Jk0, e_m, J4B, J5O, hl, Option.map_some, J8w (lns s.sto) hv, val, Je]
        · cases h
      · cases h
    · cases h
  · cases h
end
end Go.Am
end
section
namespace Go.Am
section
variable {R : Type}
theorem Je2 {α : Type} [BEq α] [LawfulBEq α] [DecidableEq α] (x y : α) : (x == y) = decide (x = y) := by
  by_cases h : x = y <;> simp [h]
def Vl (m : Option AV) (s : TSt) (kk : TV → Option R) (r : R) : Prop := ∃ v, m = some (Jl (lns s.sto) v) ∧ kk v = some r
theorem Vl.ok {m : Option AV} {d : Option Nat} {s : TSt} {k : TSt → Option R} {r : R} (h : Vl m s (fun v => k (JF d v s)) r) : Ok (val m) d s k r := by
  obtain ⟨v, h1, h2⟩ := h
  refine J0C (v := v) ?_ h2
  rw [h1]; rfl
def JmZ (op : BinOp) (k : IntKind) (a c : Int) (kk : TV → Option R) : Option R :=
  match op with
  | .add => kk (vi k (J10 k a c))
  | .sub => kk (vi k (Jek k a c))
  | .mul => kk (vi k (JkG k a c))
  | .quo => (Jqg k a c).bind fun q => kk (vi k q)
  | .rem => (JdP a c).bind fun q => kk (vi k q)
  | .and => kk (vi k (Jrk k a c))
  | .or => kk (vi k (orI k a c))
  | .xor => kk (vi k (Jrr k a c))
  | .eql => kk (vb (eqI a c))
  | .neq => kk (vb (neI a c))
  | .lss => kk (vb (ltI a c))
  | .leq => kk (vb (leI a c))
  | .gtr => kk (vb (gtI a c))
  | .geq => kk (vb (geI a c))
  | _ => none
def JmL (op : BinOp) (a c : List UInt8) (kk : TV → Option R) : Option R :=
  match op with
  | .add => (Je8 a c).bind fun q => kk (vs q)
  | .eql => kk (vb (eqS a c))
  | .neq => kk (vb (neS a c))
  | .lss => kk (vb (ltS a c))
  | .leq => kk (vb (leS a c))
  | .gtr => kk (vb (gtS a c))
  | .geq => kk (vb (geS a c))
  | _ => none
inductive TBT where
  | plain
  | bool
  | flat (t : Ty)
  | nilp
  | nilf
def erT : TBT → BT
  | .plain => .plain
  | .bool => .bool
  | .flat t => .flat (t.ks.getD [])
  | .nilp => .nilp
  | .nilf => .nilf
def J6t (op : BinOp) (x : Bool) (kk : TV → Option R) : Option R :=
  match op with
  | .eql => kk (vb x)
  | .neq => kk (vb (J3V x))
  | _ => none
def JmP (op : BinOp) (bt : TBT) (x y : TV) (kk : TV → Option R) : Option R :=
  match bt with
  | .plain => match x, y with
    | .a (.c (.d (.i k) a)), .a (.c (.d (.i k') c)) => match op with
      | .shl => (Jqr k a c).bind fun q => kk (vi k q)
      | .shr => (Jqw k a c).bind fun q => kk (vi k q)
      | _ => if k = k' then JmZ op k a c kk else none
    | .a (.c (.d .s a)), .a (.c (.d .s c)) => JmL op a c kk
    | _, _ => none
  | .bool => match x, y with
    | .a (.c (.d .b a)), .a (.c (.d .b c)) => J6t op (eqB a c) kk
    | _, _ => none
  | .flat t => match x, y with
    | .a (.dt t1 a), .a (.dt t2 c) => if h : t1 = t ∧ t2 = t ∧ t.ks.isSome = true then J6t op (eqT t (h.1 ▸ a) (h.2.1 ▸ c)) kk else none
    | _, _ => none
  | .nilp => match x with
    | .a (.c .np) => J6t op true kk
    | .a (.c (.ptr _ _)) => J6t op false kk
    | .a (.c (.cp _ _ _)) => J6t op false kk
    | .a (.c (.ep _ _ _)) => J6t op false kk
    | _ => none
  | .nilf => match x with
    | .a (.c .nf) => J6t op true kk
    | .a (.fn _ _ _) => J6t op false kk
    | .a (.c (.fn _)) => J6t op false kk
    | .a (.c (.d .f _)) => J6t op true kk
    | _ => none
theorem JaP {op : BinOp} {x : Bool} {s : TSt} {kk : TV → Option R} {r : R} (h : J6t op x kk = some r) : Vl (J4u op (some x)) s kk r := by
  unfold J6t at h
  split at h
  · exact ⟨_, rfl, h⟩
  · exact ⟨_, rfl, h⟩
  · cases h
theorem Jpz {op : BinOp} {k : IntKind} {a c : Int} {s : TSt} {kk : TV → Option R} {r : R} (h : JmZ op k a c kk = some r) : Vl ((Jco op k a c).map .p) s kk r := by
  unfold JmZ at h
  split at h <;> first
    | exact ⟨_, rfl, h⟩
    | (obtain ⟨q, h1, h⟩ := Option.bind_eq_some_iff.1 h
       refine ⟨_, ?_, h⟩
       first | unfold Jqg at h1 | unfold JdP at h1
       split at h1
       · cases h1
       · rename_i h0
         injection h1 with h1
         simp only [Jco, if_neg h0, h1, Option.map_some, e_i])
    | (refine ⟨_, ?_, h⟩; simp only [Jco, Je2, Option.map_some, e_b, bne, eqI, neI, ltI, leI, gtI, geI]; done)
    | cases h
theorem JoQ {op : BinOp} {a c : List UInt8} {s : TSt} {kk : TV → Option R} {r : R} (h : JmL op a c kk = some r) : Vl ((JbS op a c).map .p) s kk r := by
  unfold JmL at h
  split at h <;> first
    | (obtain ⟨q, h1, h⟩ := Option.bind_eq_some_iff.1 h
       refine ⟨_, ?_, h⟩
       unfold Je8 at h1
       split at h1
       · rename_i h0
         injection h1 with h1
         simp only [JbS, if_pos h0, h1, Option.map_some, e_s]
       · cases h1)
    | (refine ⟨_, ?_, h⟩; simp only [JbS, Je2, Option.map_some, e_b, eqS, neS, ltS, leS, gtS, geS]; done)
    | cases h
theorem JoP {op : BinOp} {bt : TBT} {x y : TV} {s : TSt} {kk : TV → Option R} {r : R} (h : JmP op bt x y kk = some r) : Vl (J6r op (erT bt) (Jl (lns s.sto) x) (Jl (lns s.sto) y)) s kk r := by
  unfold JmP at h
  split at h
  · split at h
    · rename_i k a k' c
      simp only [e_i, erT, J6r]
      split at h
      · obtain ⟨q, h1, h⟩ := Option.bind_eq_some_iff.1 h
        unfold Jqr at h1
        split at h1
        · cases h1
        · rename_i h0; injection h1 with h1; exact ⟨_, by simp only [J7a, if_neg h0, h1, Option.map_some, e_i], h⟩
      · obtain ⟨q, h1, h⟩ := Option.bind_eq_some_iff.1 h
        unfold Jqw at h1
        split at h1
        · cases h1
        · rename_i h0; injection h1 with h1; exact ⟨_, by simp only [J7a, if_neg h0, h1, Option.map_some, e_i], h⟩
      · split at h
        · rename_i hk
          subst hk
          simp only [if_true]
          cases op <;> first | exact Jpz h | cases h
        · cases h
    · exact JoQ h
    · cases h
  · split at h
    · rename_i a c
      simp only [e_b, erT, J6r, Je2]
      exact JaP h
    · cases h
  · split at h
    · rename_i t t1 a t2 c
      split at h
      · rename_i h0
        obtain ⟨rfl, rfl, h1⟩ := h0
        obtain ⟨ks, hks⟩ := Option.isSome_iff_exists.1 h1
        simp only [Jk0, erT, J6r, hks, Option.getD_some, JaX _ a c hks]
        exact JaP h
      · cases h
    · cases h
  · split at h <;> first | exact JaP h | cases h
  · split at h <;> first | exact JaP h | cases h
def tUn (op : UnOp) (x : TV) (kk : TV → Option R) : Option R :=
  match op, x with
  | .neg, .a (.c (.d (.i k) n)) => kk (vi k (Jru k n))
  | .xor, .a (.c (.d (.i k) n)) => kk (vi k (Jrx k n))
  | .not, .a (.c (.d .b x)) => kk (vb (J3V x))
  | _, _ => none
theorem Jqd {op : UnOp} {x : TV} {s : TSt} {kk : TV → Option R} {r : R} (h : tUn op x kk = some r) : Vl (unP op (Jl (lns s.sto) x)) s kk r := by
  unfold tUn at h
  split at h <;> first | exact ⟨_, rfl, h⟩ | cases h
def tMm (mx : Bool) (x y : TV) (kk : TV → Option R) : Option R :=
  match x, y with
  | .a (.c (.d (.i k) a)), .a (.c (.d (.i _) c)) => kk (vi k (if mx = true then Jrv a c else JrG a c))
  | _, _ => none
theorem Jqk {mx : Bool} {x y : TV} {s : TSt} {kk : TV → Option R} {r : R} (h : tMm mx x y kk = some r) : Vl (mmP mx (Jl (lns s.sto) x) (Jl (lns s.sto) y)) s kk r := by
  unfold tMm at h
  split at h
  · exact ⟨_, by cases mx <;> rfl, h⟩
  · cases h
def tls (t : Ty) (v : TV) (s : TSt) : Option (List t.D) :=
  match v with
  | .a (.c (.d (.l t') l)) => if h : t' = t then some (h ▸ l) else none
  | .a (.c (.d .s l)) => if h : t = .i .u8 then some (h ▸ (toByt l : List (Ty.i .u8).D)) else none
  | .a (.c (.slr b)) => match s.sto[b]? with
    | some (.arr _ t' rows) => if h : t' = t then some (h ▸ rows) else none
    | _ => none
  | _ => none
theorem JdH {t : Ty} {v : TV} {s : TSt} {l : List t.D} (h : tls t v s = some l) : (J0U t.sz (Jl (lns s.sto) v)).run (J9 s) = some (l.map (cel t)) := by
  unfold tls at h
  split at h
  · split at h
    · rename_i h0; subst h0; injection h with h; subst h
      simp only [e_l, J0U, if_true, Je]
    · cases h
  · split at h
    · rename_i h0; subst h0; injection h with h; subst h
      simp only [e_s, J0U, Ty.sz, if_true, Je, JbK]
      rfl
    · cases h
  · rename_i b
    split at h
    · rename_i w t' rows hb
      split at h
      · rename_i h0; subst h0; injection h with h; subst h
        simp only [J29, J0U, J0g, J0p, hb, Option.map_some, Option.bind_some, JC, J2v hb, List.length_map, Nat.zero_add, and_self, if_true, Je, List.drop_zero]
      · cases h
    · cases h
  · cases h
def Jjx (k : CK) (x : TV) (d : Option Nat) (new : Nat) (s : TSt) (kk : TSt → Option R) : Option R :=
  match k with
  | .int k => match x with
    | .a (.c (.d (.i _) n)) => kk (JF d (vi k (cvI k n)) s)
    | _ => none
  | .same => match x with
    | .a (.c (.d .s l)) => kk (JF d (vs l) s)
    | _ => none
  | .toStr => match tls (.i .u8) x s with
    | some l => kk (JF d (vs (toStr l)) s)
    | none => none
  | .toBytes own => match x with
    | .a (.c (.d .s l)) => if own = true then kk (JF d (.a (.c (.slr new))) (wN new (.arr true (.i .u8) (toByt l)) s)) else kk (JF d (vl (.i .u8) (toByt l)) s)
    | _ => none
theorem JmU (F : Orc) {k : CK} {x : TO} {v : TV} {d : Option Nat} {new : Nat} {s : TSt} {kk : TSt → Option R} {r : R} (hx : tev x s = some v) (hn : k = .toBytes true → new < s.sto.length) (h : Jjx k v d new s kk = some r) : Ok (opR F (.conv k (erO x)) new) d s kk r := by
  unfold Jjx at h
  split at h
  · split at h
    · refine J0C (v := vi _ _) ?_ h
      simp only [opR, run_bind, Jq hx, Option.bind_some, e_i, Je, cvI]
    · cases h
  · split at h
    · refine J0C (v := vs _) ?_ h
      simp only [opR, run_bind, Jq hx, Option.bind_some, e_s, Je]
    · cases h
  · split at h
    · rename_i l hl
      refine J0C (v := vs _) ?_ h
      have := JdH hl
      have e : l.map (cel (.i .u8)) = l.map (r_i .u8) := rfl
      rw [e] at this
      simp only [opR, run_bind, Jq hx, Option.bind_some, this, J97, e_s, Je, Ty.sz]
      rw [show (J0U 1 (Jl (lns s.sto) v)).run (J9 s) = some (l.map (r_i .u8)) from this]
      simp only [Option.bind_some, J97, Je]
    · cases h
  · rename_i own
    split at h
    · rename_i l
      split at h
      · rename_i ho
        subst ho
        refine JkA (x := .arr true (.i .u8) (toByt l)) (v := .a (.c (.slr new))) ?_ h
        simp only [opR, run_bind, Jq hx, Option.bind_some, e_s, if_true, Je, J29, JC, JbK]
        have e : lns (wN new (TB.arr true (Ty.i IntKind.u8) (toByt l)) s).sto new = l.length := by
          unfold wN
          rw [Jga (by simpa using hn rfl)]
          simp [lnB, toByt]
        rw [e]; rfl
      · rename_i ho
        have : own = false := by simpa using ho
        subst this
        refine J0C (v := vl _ _) ?_ h
        simp only [opR, run_bind, Jq hx, Option.bind_some, e_s, Bool.false_eq_true, if_false, Je, e_l, JbK]
        rfl
    · cases h
end
end Go.Am
end
section
namespace Go.Am
section
variable {R : Type}
theorem Jjk (p q : List Sp) : spo (p ++ q) = spo p + spo q := by
  induction p with
  | nil => simp [spo]
  | cons x p ih => cases x <;> simp only [List.cons_append, spo, ih] <;> omega
def JgN (off : Nat) (x : TV) (kk : TV → Option R) : Option R :=
  match x with
  | .a (.c (.ptr b p)) => kk (.a (.c (.ptr b (p ++ [.f off]))))
  | .a (.c (.cp t x p)) => kk (.a (.c (.cp t x (p ++ [.f off]))))
  | .a (.c (.ep b i p)) => kk (.a (.c (.ep b i (p ++ [.f off]))))
  | _ => none
theorem JlV {off : Nat} {x : TV} {s : TSt} {kk : TV → Option R} {r : R} (h : JgN off x kk = some r) : Vl (J9P off (Jl (lns s.sto) x)) s kk r := by
  unfold JgN at h
  split at h <;> first
    | (refine ⟨_, ?_, h⟩; simp only [J3p, J5X, J5W, J9P, Jjk, spo, Nat.add_zero]; done)
    | cases h
def Jg6 (len esz : Nat) (x i : TV) (kk : TV → Option R) : Option R :=
  match i with
  | .a (.c (.d (.i _) n)) => (inb len n).bind fun _ => match x with
    | .a (.c (.ptr b p)) => kk (.a (.c (.ptr b (p ++ [.a n.toNat esz]))))
    | .a (.c (.cp t x p)) => kk (.a (.c (.cp t x (p ++ [.a n.toNat esz]))))
    | .a (.c (.ep b i p)) => kk (.a (.c (.ep b i (p ++ [.a n.toNat esz]))))
    | _ => none
  | _ => none
theorem Jm1 {len esz : Nat} {x i : TV} {s : TSt} {kk : TV → Option R} {r : R} (h : Jg6 len esz x i kk = some r) : Vl (JaA len esz (Jl (lns s.sto) x) (Jl (lns s.sto) i)) s kk r := by
  unfold Jg6 at h
  split at h
  · obtain ⟨_, h1, h⟩ := Option.bind_eq_some_iff.1 h
    have h0 := Jiw h1
    split at h <;> first
      | (refine ⟨_, ?_, h⟩; simp only [J3p, J5X, J5W, e_i, JaA, if_pos h0, Jjk, spo, Nat.add_zero]; done)
      | cases h
  · cases h
def Jgy (t : Ty) (x i : TV) (s : TSt) (kk : TV → Option R) : Option R :=
  match i with
  | .a (.c (.d (.i _) n)) => match x with
    | .a (.c (.d (.l t') l)) => if t' = t then (idx l n).bind fun y => kk (.a (.c (.cp t' y []))) else none
    | .a (.c (.slr b)) => match s.sto[b]? with
      | some (.arr _ t' rows) => if t' = t then (inb rows.length n).bind fun _ => kk (.a (.c (.ep b n.toNat []))) else none
      | _ => none
    | _ => none
  | _ => none
theorem JlQ {t : Ty} {x i : TV} {d : Option Nat} {s : TSt} {k : TSt → Option R} {r : R} (h : Jgy t x i s (fun v => k (JF d v s)) = some r) : Ok (J3b t.sz (Jl (lns s.sto) x) (Jl (lns s.sto) i)) d s k r := by
  unfold Jgy at h
  split at h
  · split at h
    · split at h
      · rename_i h0; subst h0
        obtain ⟨y, h1, h⟩ := Option.bind_eq_some_iff.1 h
        refine J0C (v := .a (.c (.cp _ y []))) ?_ h
        simp only [e_l, e_i, J5X, J3b, if_true, Jlh h1, Je, spo]
      · cases h
    · rename_i b
      split at h
      · rename_i w t' rows hb
        split at h
        · rename_i h0; subst h0
          obtain ⟨_, h1, h⟩ := Option.bind_eq_some_iff.1 h
          have h0 := Jiw h1
          refine J0C (v := .a (.c (.ep b _ []))) ?_ h
          simp only [J29, e_i, J5W, J3b, J0g, J0p, hb, Option.map_some, Option.bind_some, JC, J2v hb, List.length_map, Nat.zero_add, true_and]
          rw [if_pos h0]
          rfl
        · cases h
      · cases h
    · cases h
  · cases h
def Jkw (x i : TV) (kk : TV → Option R) : Option R :=
  match x, i with
  | .a (.c (.d .s l)), .a (.c (.d (.i _) n)) => (JqK l n).bind fun u => kk (vi .u8 u)
  | _, _ => none
theorem JnB (F : Orc) {x i : TO} {vx vi' : TV} {d : Option Nat} {new : Nat} {s : TSt} {k : TSt → Option R} {r : R} (hx : tev x s = some vx) (hi : tev i s = some vi') (h : Jkw vx vi' (fun v => k (JF d v s)) = some r) : Ok (opR F (.sidx (erO x) (erO i)) new) d s k r := by
  unfold Jkw at h
  split at h
  · rename_i l k' n
    obtain ⟨u, h1, h⟩ := Option.bind_eq_some_iff.1 h
    refine J0C (v := vi .u8 u) ?_ h
    simp only [opR, run_bind, Jq hx, Jq hi, Option.bind_some, e_s, e_i]
    unfold JqK at h1
    split at h1
    · rename_i h0
      rw [if_pos h0]
      split at h1
      · rename_i q hq
        injection h1 with h1
        rw [hq, ← h1]; rfl
      · cases h1
    · cases h1
  · cases h
def JjW (j : Int) (k : Nat → Option R) : Nat → Option R
  | 0 => none
  | m + 1 => if eqI j m = true then k m else JjW j k m
theorem JiZ {j : Int} {k : Nat → Option R} {r : R} : ∀ {n : Nat}, JjW j k n = some r → ∃ m, m < n ∧ j = m ∧ k m = some r
  | 0, h => by cases h
  | n + 1, h => by
    simp only [JjW] at h
    split at h
    · rename_i e; exact ⟨n, by omega, by simpa [eqI] using e, h⟩
    · obtain ⟨m, h1, h2, h3⟩ := JiZ h
      exact ⟨m, by omega, h2, h3⟩
def Jko (agg : Bool) (len : Nat) (t : Ty) (x i : TV) (d : Option Nat) (s : TSt) (k : TSt → Option R) : Option R :=
  if agg = true ∨ t.sz = 1 then
    match x, i with
    | .a (.dt (.ar n t') v), .a (.c (.d (.i _) j)) => if h : t' = t ∧ n = len then (JmH v j).bind fun y => k (JF d (mkv agg t (h.1 ▸ y)) s) else none
    | .a (.m _ cs), .a (.c (.d (.i _) j)) => JjW j (fun m => match sub cs (m * t.sz) t.sz with
      | some l => match mka agg t l with
        | some v => k (JF d v s)
        | none => none
      | none => none) len
    | _, _ => none
  else none
theorem JmW (F : Orc) {agg : Bool} {len : Nat} {t : Ty} {x i : TO} {vx vi' : TV} {d : Option Nat} {new : Nat} {s : TSt} {k : TSt → Option R} {r : R} (hx : tev x s = some vx) (hi : tev i s = some vi') (h : Jko agg len t vx vi' d s k = some r) :
    Ok (opR F (.aidx agg len t.sz (erO x) (erO i)) new) d s k r := by
  unfold Jko at h
  split at h
  · rename_i ha
    split at h
    · rename_i n t' v k' j
      split at h
      · rename_i h0
        obtain ⟨rfl, rfl⟩ := h0
        obtain ⟨y, h1, h⟩ := Option.bind_eq_some_iff.1 h
        obtain ⟨h2, h3⟩ := Jng h1
        refine J0C (v := mkv agg t' y) ?_ h
        simp only [opR, run_bind, Jq hx, Jq hi, Option.bind_some, Jk0, e_i, if_pos h2, J4B]
        rw [show cel (.ar n t') v = J5r (cel t') v from rfl, Jad (J05 t') h3]
        simp only [J8i (lns s.sto) ha, val, Je]
      · cases h
    · rename_i t0 cs k' j
      obtain ⟨m, h1, e0, h3⟩ := JiZ h
      clear h
      subst e0
      split at h3
      · rename_i l hl
        split at h3
        · rename_i v hv
          refine J0C (v := v) ?_ h3
          have h2 : (0 : Int) ≤ m ∧ (m : Int) < len := by omega
          simp only [opR, run_bind, Jq hx, Jq hi, Option.bind_some, e_m, e_i, if_pos h2, J4B, Int.toNat_natCast, J5O, hl, Option.map_some, J8w (lns s.sto) hv, val, Je]
        · cases h3
      · cases h3
    · cases h
  · cases h
def Jk6 (x : TV) (i : Nat) (kk : TV → Option R) : Option R :=
  match x with
  | .tup vs => match vs[i]? with
    | some v => kk (.a v)
    | none => none
  | _ => none
theorem Jmg {x : TV} {i : Nat} {s : TSt} {kk : TV → Option R} {r : R} (h : Jk6 x i kk = some r) : Vl (Jd0 i (Jl (lns s.sto) x)) s kk r := by
  unfold Jk6 at h
  split at h
  · split at h
    · rename_i v hv
      refine ⟨_, ?_, h⟩
      simp only [Jl, Jd0, List.getElem?_map, hv, Option.map_some]
    · cases h
  · cases h
def Jm6 (str : Bool) (x : TV) (s : TSt) (kk : TV → Option R) : Option R :=
  match str, x with
  | true, .a (.c (.d .s l)) => kk (vi .i64 (J6 l))
  | false, .a (.c (.d (.l _) l)) => kk (vi .i64 (J6 l))
  | false, .a (.c (.slr b)) => match s.sto[b]? with
    | some (.arr _ _ rows) => kk (vi .i64 (J6 rows))
    | _ => none
  | false, .a (.c (.slo _ n)) => kk (vi .i64 n)
  | _, _ => none
theorem Jpx {str : Bool} {x : TV} {s : TSt} {kk : TV → Option R} {r : R} (h : Jm6 str x s kk = some r) : Vl (Jeu str (Jl (lns s.sto) x)) s kk r := by
  unfold Jm6 at h
  split at h
  · exact ⟨_, rfl, h⟩
  · exact ⟨_, by simp only [e_l, Jeu, List.length_map, e_i, J6], h⟩
  · split at h
    · rename_i hb
      exact ⟨_, by simp only [J29, Jeu, J2v hb, e_i, J6], h⟩
    · cases h
  · exact ⟨_, rfl, h⟩
  · cases h
theorem Jel {s : TSt} {new : Nat} (hn : new < s.sto.length) {w : Bool} {t : Ty} {rows : List t.D} : lns (wN new (TB.arr w t rows) s).sto new = rows.length := by
  unfold wN
  rw [Jga (by simpa using hn)]; rfl
theorem JcA {m : RM Eff} {d : Option Nat} {s : TSt} {k : TSt → Option R} {r : R} {new : Nat} {t : Ty} {rows : List t.D} (hn : new < s.sto.length)
    (hm : m.run (J9 s) = some ⟨.slr new 0 rows.length, [(new, .arr true t.sz (rows.map (cel t)))]⟩) (h : k (JF d (.a (.c (.slr new))) (wN new (.arr true t rows) s)) = some r) : Ok m d s k r := by
  refine JkA (x := .arr true t rows) (v := .a (.c (.slr new))) ?_ h
  rw [hm, J29, Jel hn]; rfl
def Jce (own : Bool) (t : Ty) (bytes : Nat) (l c : TV) (d : Option Nat) (new : Nat) (s : TSt) (k : TSt → Option R) : Option R :=
  match l, c with
  | .a (.c (.d (.i _) n)), .a (.c (.d (.i _) m)) => (mkS bytes n m t.zero).bind fun rows =>
    if own = true then k (JF d (.a (.c (.slr new))) (wN new (.arr true t rows) s)) else k (JF d (vl t rows) s)
  | _, _ => none
theorem Ji6 (F : Orc) {own : Bool} {t : Ty} {bytes : Nat} {l c : TO} {vl' vc : TV} {d : Option Nat} {new : Nat} {s : TSt} {k : TSt → Option R} {r : R} (hl : tev l s = some vl') (hc : tev c s = some vc) (hn : own = true → new < s.sto.length)
    (h : Jce own t bytes vl' vc d new s k = some r) : Ok (opR F (.mkslice own t.sz bytes (cel t t.zero) (erO l) (erO c)) new) d s k r := by
  unfold Jce at h
  split at h
  · obtain ⟨rows, h1, h3⟩ := Option.bind_eq_some_iff.1 h
    obtain ⟨h2, rfl⟩ := JoH h1
    clear h
    split at h3
    · rename_i ho
      subst ho
      refine JcA (hn rfl) ?_ h3
      simp only [opR, run_bind, Jq hl, Jq hc, Option.bind_some, e_i, if_pos h2, if_true, Je, List.length_replicate, List.map_replicate]
    · rename_i ho
      have : own = false := by simpa using ho
      subst this
      refine J0C (v := vl t _) ?_ h3
      simp only [opR, run_bind, Jq hl, Jq hc, Option.bind_some, e_i, if_pos h2, Bool.false_eq_true, if_false, Je, e_l, List.map_replicate]
  · cases h
def Jjv (t : Ty) (bytes : Nat) (x y : TV) (d : Option Nat) (s : TSt) (k : TSt → Option R) : Option R :=
  match x with
  | .a (.c (.slr b)) => match s.sto[b]? with
    | some (.arr w t' rows) => if h : t' = t then
        match tls t' y s with
        | some l => (Jev bytes rows l).bind fun m => k (JF d (.a (.c (.slr b))) (wN b (.arr w t' m) s))
        | none => none
      else none
    | _ => none
  | _ => none
theorem Jis {t : Ty} {bytes : Nat} {x y : TV} {d : Option Nat} {s : TSt} {k : TSt → Option R} {r : R} (h : Jjv t bytes x y d s k = some r) : Ok (J3Q t.sz bytes (Jl (lns s.sto) x) (Jl (lns s.sto) y)) d s k r := by
  unfold Jjv at h
  split at h
  · rename_i b
    split at h
    · rename_i w t' rows hb
      split at h
      · rename_i h0; subst h0
        split at h
        · rename_i l hl
          obtain ⟨m, h1, h⟩ := Option.bind_eq_some_iff.1 h
          refine JkA (x := .arr w t' m) (v := .a (.c (.slr b))) ?_ h
          have hb' : (J9 s).sto[b]? = some (.arr w t'.sz (rows.map (cel t'))) := by rw [J0p, hb]; rfl
          have := Jpp h1 hb' (JdH hl)
          rw [J29, J2v hb, this, J29, Jel (J5 hb)]
          rfl
        · cases h
      · cases h
    · cases h
  · cases h
def JkD (t : Ty) (bytes : Nat) (y : TV) (d : Option Nat) (new : Nat) (s : TSt) (k : TSt → Option R) : Option R :=
  match tls t y s with
  | some l => (cloS bytes l).bind fun m => k (JF d (.a (.c (.slr new))) (wN new (.arr true t m) s))
  | none => none
theorem Jmm (F : Orc) {t : Ty} {bytes : Nat} {z : List PV} {y : TO} {vy : TV} {d : Option Nat} {new : Nat} {s : TSt} {k : TSt → Option R} {r : R} (hy : tev y s = some vy) (hn : new < s.sto.length) (h : JkD t bytes vy d new s k = some r) : Ok (opR F (.appn t.sz bytes z (erO y)) new) d s k r := by
  unfold JkD at h
  split at h
  · rename_i l hl
    obtain ⟨m, h1, h3⟩ := Option.bind_eq_some_iff.1 h
    obtain ⟨h2, rfl⟩ := Jmf h1
    refine JcA hn ?_ h3
    simp only [opR, run_bind, Jq hy, Option.bind_some, JdH hl, List.length_map, h2, if_true, Je]
  · cases h
def Jk3 (t : Ty) (bytes : Nat) (x y : TV) (d : Option Nat) (s : TSt) (k : TSt → Option R) : Option R :=
  match y with
  | .a (.c (.d (.i _) n)) => if 0 ≤ n then Jjv t bytes x (vl t (List.replicate n.toNat t.zero)) d s k else none
  | _ => none
theorem Jnx (F : Orc) {t : Ty} {bytes : Nat} {x y : TO} {vx vy : TV} {d : Option Nat} {new : Nat} {s : TSt} {k : TSt → Option R} {r : R} (hx : tev x s = some vx) (hy : tev y s = some vy) (h : Jk3 t bytes vx vy d s k = some r) : Ok (opR F (.appz t.sz bytes (cel t t.zero) (erO x) (erO y)) new) d s k r := by
  unfold Jk3 at h
  split at h
  · rename_i n
    split at h
    · rename_i h0
      obtain ⟨e, s', h1, h2, h3⟩ := Jis h
      refine ⟨e, s', ?_, h2, h3⟩
      simp only [opR, run_bind, Jq hx, Jq hy, Option.bind_some, e_i, zrs, if_pos h0]
      rw [e_l, List.map_replicate] at h1
      exact h1
    · cases h
  · cases h
def JjC (t : Ty) (bytes : Nat) (x y : TV) (d : Option Nat) (new : Nat) (s : TSt) (k : TSt → Option R) : Option R :=
  match x with
  | .a (.c (.sc t' rows)) => if h : t' = t then
      match tls t' y s with
      | some l => (JpJ bytes rows l).bind fun m => k (JF d (.a (.c (.slr new))) (wN new (.arr true t' m) s))
      | none => none
    else none
  | _ => none
theorem JmB (F : Orc) {t : Ty} {bytes : Nat} {z : List PV} {x y : TO} {vx vy : TV} {d : Option Nat} {new : Nat} {s : TSt} {k : TSt → Option R} {r : R} (hx : tev x s = some vx) (hy : tev y s = some vy) (hn : new < s.sto.length) (h : JjC t bytes vx vy d new s k = some r) :
    Ok (opR F (.appc t.sz bytes z (erO x) (erO y)) new) d s k r := by
  unfold JjC at h
  split at h
  · rename_i t' rows
    split at h
    · rename_i h0; subst h0
      split at h
      · rename_i l hl
        obtain ⟨m, h1, h⟩ := Option.bind_eq_some_iff.1 h
        unfold JpJ at h1
        split at h1
        · rename_i h2
          injection h1 with h1
          subst h1
          refine JcA hn ?_ h
          simp only [opR, run_bind, Jq hx, Jq hy, Option.bind_some]
          show (Jgn t'.sz bytes (.p (.slc t'.sz (rows.map (cel t')))) _ new).run _ = _
          simp only [Jgn, run_bind, JdH hl, Option.bind_some, List.length_map, true_and, h2, and_self, if_true, Je, List.length_append, List.map_append]
        · cases h1
      · cases h
    · cases h
  · cases h
def tbn (x : Option TO) (s : TSt) : Option (Option (IntKind × Int)) :=
  match x with
  | none => some none
  | some o => match tev o s with
    | some (.a (.c (.d (.i k) n))) => some (some (k, n))
    | _ => none
def bv (x : Option (IntKind × Int)) : Option AV := x.map fun y => .p (.i y.1 y.2)
theorem J8k {x : Option TO} {s : TSt} {y : Option (IntKind × Int)} (h : tbn x s = some y) : (evo (x.map erO)).run (J9 s) = some (bv y) := by
  cases x with
  | none => injection h with h; subst h; rfl
  | some o =>
    simp only [tbn] at h
    split at h
    · rename_i k n ho
      injection h with h; subst h
      simp only [Option.map_some, evo, run_bind, Jq ho, Option.bind_some, Je, bv, e_i]
    · cases h
theorem Jqq (x : Option (IntKind × Int)) (top d : Nat) : J39 (bv x) top d = Jkc (x.map (·.2)) top d := by
  cases x <;> rfl
theorem JlT (n : Nat) (lo hi : Option (IntKind × Int)) : Jau n (bv lo) (bv hi) = JhH n (lo.map (·.2)) (hi.map (·.2)) := by
  unfold Jau JhH
  simp only [Jqq]
  rfl
inductive TSK where
  | str
  | sl (t : Ty)
def erK : TSK → SK
  | .str => .str
  | .sl t => .sl t.sz
def JmX (t : Ty) (x : TV) (s : TSt) (kk : List t.D → TSt → Option R) : Option R :=
  match x with
  | .a (.c (.d (.l t') l)) => if h : t' = t then kk (h ▸ l) s else none
  | .a (.c (.slr b)) => match s.sto[b]? with
    | some (.arr _ t' rows) => if h : t' = t then kk (h ▸ rows) (wS b (.arr false t' rows) s) else none
    | _ => none
  | _ => none
theorem JoX {t : Ty} {x : TV} {s : TSt} {kk : List t.D → TSt → Option R} {r : R} (h : JmX t x s kk = some r) :
    ∃ l s' ws, Fzd s s' ws ∧ kk l s' = some r ∧ ((Jl (lns s.sto) x = .p (.sl t.sz (l.map (cel t))) ∧ ws = []) ∨
      ∃ b, Jl (lns s.sto) x = .slr b 0 l.length ∧ (fz (.slr b 0 l.length)).run (J9 s) = some ([.sl t.sz (l.map (cel t))], ws)) := by
  unfold JmX at h
  split at h
  · split at h
    · rename_i h0; subst h0
      exact ⟨_, s, [], Fzd.refl s, h, .inl ⟨e_l _ _ _, rfl⟩⟩
    · cases h
  · rename_i b
    split at h
    · rename_i w t' rows hb
      split at h
      · rename_i h0; subst h0
        refine ⟨_, _, _, Je3 hb, h, .inr ⟨b, by rw [J29, J2v hb], ?_⟩⟩
        simp only [fz, J0g, J0p, hb, Option.map_some, Option.bind_some, JC, List.length_map, Nat.zero_add, if_true, List.drop_zero, Je]
      · cases h
    · cases h
  · cases h
def Jhs (kd : TSK) (x : TV) (lo hi mx : Option (IntKind × Int)) (d : Option Nat) (s : TSt) (k : TSt → Option R) : Option R :=
  match kd with
  | .str => match x, mx with
    | .a (.c (.d .s l)), none => (Jcp l (lo.map (·.2)) (hi.map (·.2))).bind fun q => k (JF d (vs q) s)
    | _, _ => none
  | .sl t => JmX t x s fun l s1 => match mx with
    | none => (Jcp l (lo.map (·.2)) (hi.map (·.2))).bind fun q => k (JF d (vl t q) s1)
    | some (_, n) => match lo, hi with
      | none, some (_, h) => if h = l.length ∧ n = l.length then k (JF d (.a (.c (.sc t l))) s1) else none
      | _, _ => none
theorem Jjm {α : Type} {l q : List α} {lo hi : Option Int} (h : Jcp l lo hi = some q) : ∃ c, JhH l.length lo hi = some c ∧ q = (l.drop c.1).take (c.2 - c.1) := by
  unfold Jcp at h
  split at h
  · rename_i c hc
    injection h with h
    exact ⟨c, hc, h.symm⟩
  · cases h
theorem JlA (F : Orc) {kd : TSK} {x : TO} {vx : TV} {lo hi mx : Option TO} {l h' m : Option (IntKind × Int)} {d : Option Nat} {new : Nat} {s : TSt} {k : TSt → Option R} {r : R} (hx : tev x s = some vx) (hl : tbn lo s = some l) (hh : tbn hi s = some h') (hm : tbn mx s = some m)
    (h : Jhs kd vx l h' m d s k = some r) : Ok (opR F (.slice (erK kd) (erO x) (lo.map erO) (hi.map erO) (mx.map erO)) new) d s k r := by
  unfold Jhs at h
  split at h
  · split at h
    · rename_i l0
      obtain ⟨q, h1, h⟩ := Option.bind_eq_some_iff.1 h
      obtain ⟨c, hc, rfl⟩ := Jjm h1
      refine J0C (v := vs _) ?_ h
      have e0 : bv none = none := rfl
      simp only [opR, run_bind, Jq hx, J8k hl, J8k hh, J8k hm, Option.bind_some, e_s, erK, e0, J2l, J6e, val, JlT, hc, Je]
    · cases h
  · rename_i t
    obtain ⟨y, s1, ws, f, h, hv⟩ := JoX h
    have red : ∀ (res : AV), J2l (.sl t.sz) (.p (.sl t.sz (y.map (cel t)))) (bv l) (bv h') (bv m) = some res →
        (opR F (.slice (erK (.sl t)) (erO x) (lo.map erO) (hi.map erO) (mx.map erO)) new).run (J9 s) = some ⟨res, ws⟩ := by
      intro res hr
      simp only [opR, run_bind, Jq hx, J8k hl, J8k hh, J8k hm, Option.bind_some, erK]
      rcases hv with ⟨hv, rfl⟩ | ⟨b, hv, hf⟩
      · simp only [hv, hr, val, Je]
      · simp only [hv, run_bind, hf, Option.bind_some, hr, Je]
    split at h
    · obtain ⟨q, h2, h⟩ := Option.bind_eq_some_iff.1 h
      obtain ⟨c, hc, rfl⟩ := Jjm h2
      refine Jgr (v := vl t _) f (red _ ?_) h
      have e0 : bv none = none := rfl
      simp only [e0, J2l, J6l, if_true, List.length_map, JlT, hc, e_l, List.map_take, List.map_drop]
    · split at h
      · split at h
        · rename_i h0
          refine Jgr (v := .a (.c (.sc t y))) f (red _ ?_) h
          simp only [bv, Option.map_none, Option.map_some, J2l, JfQ, List.length_map, h0, and_self, if_true]
          rfl
        · cases h
      · cases h
end
end Go.Am
end
section
namespace Go.Am
section
variable {R : Type}
def Jkl (t : Ty) : List (Nat × TO) → TSt → TSt → (List (Nat × t.D) → TSt → Option R) → Option R
  | [], _, s, k => k [] s
  | (i, o) :: r, s0, s, k => match tev o s0 with
    | some v => tfz t v s fun z s' => Jkl t r s0 s' fun l s'' => k ((i, z) :: l) s''
    | none => none
theorem JiH {t : Ty} : ∀ {parts : List (Nat × TO)} {s0 s : TSt} {w0 : List (Nat × Blk)} {k : List (Nat × t.D) → TSt → Option R} {r : R}, Fzd s0 s w0 → Jkl t parts s0 s k = some r →
    ∃ l s' ws, (fzs (parts.map fun x => erO x.2)).run (J9 s0) = some (l.map fun x => cel t x.2, ws) ∧ Fzd s0 s' (w0 ++ ws) ∧ l.map (·.1) = parts.map (·.1) ∧ k l s' = some r
  | [], s0, s, w0, k, r, f, h => ⟨[], s, [], rfl, by rw [List.append_nil]; exact f, rfl, h⟩
  | (i, o) :: q, s0, s, w0, k, r, f, h => by
    simp only [Jkl] at h
    split at h
    · rename_i v hv
      obtain ⟨z, s1, w1, h1, f1, h⟩ := JlR f h
      obtain ⟨l, s2, w2, h2, f2, h3, h⟩ := JiH f1 h
      refine ⟨(i, z) :: l, s2, w1 ++ w2, ?_, by rw [← List.append_assoc]; exact f2, by simp [h3], h⟩
      simp only [List.map_cons, fzs, run_bind, Jq hv, Option.bind_some, h1, h2, Je]
    · cases h
def Jds {α : Type} : List (Nat × α) → List α → Option (List α)
  | [], rows => some rows
  | (i, c) :: r, rows => if i < rows.length then Jds r (rows.set i c) else none
theorem JeM {t : Ty} : ∀ {l : List (Nat × t.D)} {rows rows' : List t.D}, Jds l rows = some rows' →
    J3O t.sz ((l.map (·.1)).zip (l.map fun x => cel t x.2)) (rows.map (cel t)) = some (rows'.map (cel t)) ∧ rows'.length = rows.length
  | [], rows, rows', h => by injection h with h; subst h; exact ⟨rfl, rfl⟩
  | (i, c) :: q, rows, rows', h => by
    simp only [Jds] at h
    split at h
    · rename_i h0
      obtain ⟨h1, h2⟩ := JeM h
      refine ⟨?_, by simpa using h2⟩
      simp only [List.map_cons, List.zip_cons_cons, J3O, J05, true_and, List.length_map, if_pos h0]
      rw [← List.map_set]; exact h1
    · cases h
def JjQ (own : Bool) (t : Ty) (n : Nat) (parts : List (Nat × TO)) (d : Option Nat) (new : Nat) (s : TSt) (k : TSt → Option R) : Option R :=
  Jkl t parts s s fun l s1 => match Jds l (List.replicate n t.zero) with
    | some rows => if own = true then k (JF d (.a (.c (.slr new))) (wN new (.arr true t rows) s1)) else k (JF d (vl t rows) s1)
    | none => none
theorem JmN (F : Orc) {own : Bool} {t : Ty} {n : Nat} {parts : List (Nat × TO)} {d : Option Nat} {new : Nat} {s : TSt} {k : TSt → Option R} {r : R} (hn : own = true → new < s.sto.length)
    (h : JjQ own t n parts d new s k = some r) : Ok (opR F (.lits own t.sz n (cel t t.zero) (parts.map fun x => (x.1, erO x.2))) new) d s k r := by
  unfold JjQ at h
  obtain ⟨l, s1, ws, h1, f, h2, h3⟩ := JiH (Fzd.refl s) h
  rw [List.nil_append] at f
  clear h
  split at h3
  · rename_i rows hp
    obtain ⟨q1, q2⟩ := JeM hp
    rw [List.length_replicate] at q2
    rw [List.map_replicate] at q1
    have e1 : (parts.map fun x => (x.1, erO x.2)).map (·.2) = parts.map fun x => erO x.2 := by simp
    have e2 : (parts.map fun x => (x.1, erO x.2)).map (·.1) = l.map (·.1) := by rw [h2]; simp
    split at h3
    · rename_i ho
      subst ho
      have hn1 : new < s1.sto.length := by
        have := congrArg (fun st => st.sto.length) f.2.2.1
        simp only [J9, List.length_map, J5Q] at this
        rw [this]; exact hn rfl
      refine ⟨⟨Jl (lns (wN new (.arr true t rows) s1).sto) (.a (.c (.slr new))), ws ++ [(new, .arr true t.sz (rows.map (cel t)))]⟩, _, ?_, J4C ?_ d _, h3⟩
      · rw [J29, Jel hn1]
        simp only [opR, run_bind, e1, h1, Option.bind_some, e2, q1, if_true, Je, q2]
      · rw [JnW, f.2.2.1, J0k]; rfl
    · rename_i ho
      have : own = false := by simpa using ho
      subst this
      refine Jgr (v := vl t rows) f ?_ h3
      simp only [opR, run_bind, e1, h1, Option.bind_some, e2, q1, Bool.false_eq_true, if_false, Je, e_l]
  · cases h3
def J4I (s : TSt) : Nat → Nat → Bool
  | _, 0 => true
  | new, k + 1 => (match s.sto[new]? with
    | some .dead => true
    | _ => false) && J4I s (new + 1) k
theorem Jge {s : TSt} : ∀ {k new : Nat}, J4I s new k = true → (J6O new k).run (J9 s) = some ()
  | 0, _, _ => rfl
  | k + 1, new, h => by
    simp only [J4I, Bool.and_eq_true] at h
    obtain ⟨h1, h2⟩ := h
    split at h1
    · rename_i hd
      simp only [J6O, J0g, J0p, hd, Option.map_some, Option.bind_some, JC]
      exact Jge h2
    · cases h1
theorem J41 {s : TSt} : ∀ {k new : Nat}, J4I s new k = true → ∀ j, j < k → s.sto[new + j]? = some .dead
  | 0, _, _, j, hj => by omega
  | k + 1, new, h, j, hj => by
    simp only [J4I, Bool.and_eq_true] at h
    obtain ⟨h1, h2⟩ := h
    cases j with
    | zero =>
      split at h1
      · rename_i hd; exact hd
      · cases h1
    | succ j =>
      have := J41 h2 j (by omega)
      rw [← this]; congr 1; omega
theorem Jeo {m : RM Eff} {d : Option Nat} {s : TSt} {k : TSt → Option R} {r : R} {new : Nat} {x : TB} (hd : s.sto[new]? = some .dead) (h0 : lnB x = 0)
    (hm : m.run (J9 s) = some ⟨.ptr new 0, [(new, JC (lns s.sto) x)]⟩) (h : k (JF d (.a (.c (.ptr new []))) (wS new x s)) = some r) : Ok m d s k r := by
  refine Jd8 (x := x) (v := .a (.c (.ptr new []))) (h0.trans (J4Q hd).symm) ?_ h
  rw [hm]; rfl
def JiU (t : Ty) (d : Option Nat) (new : Nat) (s : TSt) (k : TSt → Option R) : Option R :=
  k (JF d (.a (.c (.ptr new []))) (wS new (.box t t.zero) s))
theorem JjH (F : Orc) {t : Ty} {d : Option Nat} {new : Nat} {s : TSt} {k : TSt → Option R} {r : R} (hd : s.sto[new]? = some .dead) (h : JiU t d new s k = some r) : Ok (opR F (.newbox (cel t t.zero)) new) d s k r :=
  Jeo hd (x := .box t t.zero) rfl rfl h
def Jmy (t : Ty) (x : TV) (d : Option Nat) (new : Nat) (s : TSt) (k : TSt → Option R) : Option R :=
  match tdv t x with
  | some z => if agv x = true ∨ t.sz = 1 then k (JF d (.a (.c (.ptr new []))) (wS new (.box t z) s)) else none
  | none => match tcs x with
    | some cs => if cs.length = t.sz then k (JF d (.a (.c (.ptr new []))) (wS new (.mbox t cs) s)) else none
    | none => none
theorem Jog (F : Orc) {t : Ty} {x : TO} {v : TV} {d : Option Nat} {new : Nat} {s : TSt} {k : TSt → Option R} {r : R} (hd : s.sto[new]? = some .dead) (hx : tev x s = some v) (h : Jmy t v d new s k = some r) : Ok (opR F (.box t.sz (erO x)) new) d s k r := by
  unfold Jmy at h
  split at h
  · rename_i z hz
    split at h
    · rename_i ha
      refine Jeo hd (x := .box t z) rfl ?_ h
      simp only [opR, run_bind, Jq hx, Option.bind_some, Jan (lns s.sto) hz ha, List.length_map, J05, if_true, Je, JC]
    · cases h
  · split at h
    · rename_i cs hc
      split at h
      · rename_i hn
        refine Jeo hd (x := .mbox t cs) rfl ?_ h
        simp only [opR, run_bind, Jq hx, Option.bind_some, J9T (lns s.sto) hc, List.length_map, hn, if_true, Je, JC]
      · cases h
    · cases h
def J5x : List (Nat × Ty) → Nat → TSt → TSt
  | [], _, s => s
  | (_, t) :: r, n, s => J5x r (n + 1) (wS n (.arr true t []) s)
def JbO : List (Nat × Ty) → Nat → List TC → List TC
  | [], _, cs => cs
  | (off, _) :: r, n, cs => JbO r (n + 1) (cs.set off (.slr n))
def J50 (os : List (Nat × Ty)) : List (Nat × Nat) := os.map fun x => (x.1, x.2.sz)
theorem Jcn : ∀ {os : List (Nat × Ty)} {new : Nat} {s : TSt}, (∀ j, j < os.length → s.sto[new + j]? = some .dead) →
    lns (J5x os new s).sto = lns s.sto ∧ J9 (J5x os new s) = ⟨(J9 s).env, upd (J2d (J50 os) new) (J9 s).sto⟩ ∧ (∀ b, (∀ j, j < os.length → b ≠ new + j) → (J5x os new s).sto[b]? = s.sto[b]?)
  | [], _, s, _ => ⟨rfl, rfl, fun _ _ => rfl⟩
  | (off, t) :: q, new, s, h => by
    have hd : s.sto[new]? = some .dead := h 0 (by simp)
    have hl : lnB (.arr true t []) = lns s.sto new := (J4Q hd).symm
    have e := J8h hl
    have ho : ∀ c, c ≠ new → (wS new (.arr true t []) s).sto[c]? = s.sto[c]? := fun c hc => by unfold wS; rw [List.getElem?_set_ne (fun e => hc e.symm)]
    obtain ⟨h1, h2, h3⟩ := Jcn (os := q) (new := new + 1) (s := wS new (.arr true t []) s) (fun j hj => by
      rw [ho _ (by omega)]
      have := h (j + 1) (by simp; omega)
      rw [← this]; congr 1; omega)
    refine ⟨h1.trans e, ?_, fun b hb => ?_⟩
    · simp only [J5x]
      rw [h2, J9a hl]
      simp only [J50, List.map_cons, J2d]
      rfl
    · simp only [J5x]
      rw [h3 b (fun j hj => by have := hb (j + 1) (by simp; omega); omega), ho b (by have := hb 0 (by simp); omega)]
theorem Jea {L : Nat → Nat} : ∀ {os : List (Nat × Ty)} {new : Nat} {cs : List TC}, (∀ j, j < os.length → L (new + j) = 0) → (JbO os new cs).map (Jm L) = J5R (J50 os) new (cs.map (Jm L))
  | [], _, _, _ => rfl
  | (off, t) :: q, new, cs, h => by
    simp only [JbO, J50, List.map_cons, J5R]
    rw [Jea (os := q) (new := new + 1) (fun j hj => by have := h (j + 1) (by simp; omega); rw [← this]; congr 1; omega), List.map_set]
    have : Jm L (.slr new) = .slr new 0 0 := by simp only [Jm]; rw [show L new = 0 from h 0 (by simp)]
    rw [this]; rfl
def Jcg (t : Ty) (os : List (Nat × Ty)) (d : Option Nat) (new : Nat) (s : TSt) (k : TSt → Option R) : Option R :=
  k (JF d (.a (.c (.ptr (new + os.length) []))) (wS (new + os.length) (.mbox t (JbO os new (zcs t))) (J5x os new s)))
theorem JhZ (F : Orc) {t : Ty} {os : List (Nat × Ty)} {d : Option Nat} {new : Nat} {s : TSt} {k : TSt → Option R} {r : R} (hd : J4I s new (os.length + 1) = true) (h : Jcg t os d new s k = some r) :
    Ok (opR F (.newboxo (cel t t.zero) (J50 os)) new) d s k r := by
  unfold Jcg at h
  generalize hc : zcs t = cs at h
  · have hd' := J41 hd
    obtain ⟨h1, h2, h3⟩ := Jcn (os := os) (new := new) (s := s) (fun j hj => hd' j (by omega))
    have hl : lnB (.mbox t (JbO os new cs)) = lns (J5x os new s).sto (new + os.length) := by
      rw [h1, J4Q (hd' os.length (by omega))]; rfl
    have e := J8h hl
    have el : (J50 os).length = os.length := by simp [J50]
    refine ⟨⟨Jl (lns (wS (new + os.length) (.mbox t (JbO os new cs)) (J5x os new s)).sto) (.a (.c (.ptr (new + os.length) []))), J2d (J50 os) new ++ [(new + os.length, .box (J5R (J50 os) new ((cel t t.zero).map .p)))]⟩, _, ?_, J4C ?_ d _, h⟩
    · simp only [opR, Je, el]; rfl
    · rw [J9a hl, h2, J0k]
      simp only [JC]
      rw [Jea (fun j hj => by rw [h1]; exact J4Q (hd' j (by omega))), ← hc, J8C]
      rfl
def Je9 (t : Ty) (parts : List (Nat × Ty × TO)) (os : List (Nat × Ty)) (d : Option Nat) (new : Nat) (s : TSt) (k : TSt → Option R) : Option R :=
  match tpc parts s with
  | some l => match Jdy l (JbO os new (zcs t)) with
    | some cs' => match mka true t cs' with
      | some v => k (JF d v (J5x os new s))
      | none => none
    | none => none
  | none => none
theorem Jku (F : Orc) {t : Ty} {parts : List (Nat × Ty × TO)} {os : List (Nat × Ty)} {d : Option Nat} {new : Nat} {s : TSt} {k : TSt → Option R} {r : R} (hd : J4I s new os.length = true) (h : Je9 t parts os d new s k = some r) :
    Ok (opR F (.buildo (cel t t.zero) (erP parts) (J50 os)) new) d s k r := by
  unfold Je9 at h
  split at h
  · rename_i l hl
    have hd' := J41 hd
    obtain ⟨h1, h2, h3⟩ := Jcn (os := os) (new := new) (s := s) (fun j hj => hd' j (by omega))
    split at h
    · rename_i cs' hf
      split at h
      · rename_i v hv
        refine ⟨⟨Jl (lns (J5x os new s).sto) v, J2d (J50 os) new⟩, _, ?_, J4C h2 d _, h⟩
        have e1 := Jea (L := lns s.sto) (os := os) (new := new) (cs := zcs t) (fun j hj => J4Q (hd' j (by omega)))
        rw [J8C] at e1
        have e2 := JbT (lns s.sto) hf
        rw [e1] at e2
        simp only [opR, run_bind, Jh9 hl, Option.bind_some, e2, J8w (lns s.sto) hv, Je, h1]
      · cases h
    · cases h
  · cases h
def JlH (t : Ty) (d : Option Nat) (new : Nat) (s : TSt) (k : TSt → Option R) : Option R :=
  k (JF d (.a (.c (.slr new))) (wN new (.arr true t []) s))
theorem JlX (F : Orc) {t : Ty} {x : Opd} {d : Option Nat} {new : Nat} {s : TSt} {k : TSt → Option R} {r : R} (hn : new < s.sto.length) (h : JlH t d new s k = some r) : Ok (opR F (.mkarr t.sz x) new) d s k r :=
  JcA (rows := []) hn rfl h
def tyB : Option TB → Ty
  | some (.box t _) => t
  | some (.mbox t _) => t
  | _ => .u
def JdR (t : Ty) (x : TV) (d : Option Nat) (new : Nat) (s : TSt) (k : TSt → Option R) : Option R :=
  match x with
  | .a (.c (.ptr b p)) => match J8R p, (match s.sto[b]? with
      | some (.box t0 y) => JbI t0 y
      | some (.mbox _ cs) => some cs
      | _ => none) with
    | some off, some cs => match spl cs off [.slr new] with
      | some cs' => k (JF d uv (wS b (.mbox (tyB s.sto[b]?) cs') (wS new (.arr true t []) s)))
      | none => none
    | _, _ => none
  | _ => none
theorem Jkg (F : Orc) {t : Ty} {x : TO} {v : TV} {d : Option Nat} {new : Nat} {s : TSt} {k : TSt → Option R} {r : R} (hd : s.sto[new]? = some .dead) (hx : tev x s = some v) (h : JdR t v d new s k = some r) : Ok (opR F (.storen t.sz (erO x)) new) d s k r := by
  unfold JdR at h
  split at h
  · rename_i b p
    split at h
    · rename_i off cs ho hc
      split at h
      · rename_i cs' hs
        have hl : lnB (.arr true t []) = lns s.sto new := (J4Q hd).symm
        have key : b ≠ new ∧ lns s.sto b = 0 ∧ (J9 s).sto[b]? = some (.box (cs.map (Jm (lns s.sto)))) := by
          split at hc
          · rename_i t0 y hb
            refine ⟨fun e => ?_, JaS hb, ?_⟩
            · rw [e, hd] at hb; injection hb with hb; cases hb
            · rw [J0p, hb, J89 _ hc]; rfl
          · rename_i t0 cs0 hb
            injection hc with hc
            subst hc
            refine ⟨fun e => ?_, Jgq hb, ?_⟩
            · rw [e, hd] at hb; injection hb with hb; cases hb
            · rw [J0p, hb]; rfl
          · cases hc
        obtain ⟨hne, h0, hb⟩ := key
        have e1 := J8h hl
        have hl2 : lnB (.mbox (tyB s.sto[b]?) cs') = lns (wS new (.arr true t []) s).sto b := by rw [e1, h0]; rfl
        refine ⟨⟨Jl (lns (wS b (.mbox (tyB s.sto[b]?) cs') (wS new (.arr true t []) s)).sto) uv, (new, .arr true t.sz []) :: [(b, .box (cs'.map (Jm (lns s.sto))))]⟩, _, ?_, J4C ?_ d _, h⟩
        · have e2 : Jm (lns s.sto) (.slr new) = .slr new 0 0 := by simp only [Jm]; rw [J4Q hd]
          have e3 : spl (cs.map (Jm (lns s.sto))) (spo p) [.slr new 0 0] = some (cs'.map (Jm (lns s.sto))) := by
            rw [← e2, J8F ho]
            have := J5V (Jm (lns s.sto)) cs off [TC.slr new]
            rw [hs] at this
            exact this
          simp only [opR, run_bind, Jq hx, Option.bind_some, J3p, J1H, J0g, hb, cellsOf, List.length_cons, List.length_nil, Nat.zero_add, if_true, e3, Je]
          rfl
        · rw [J9a hl2, J9a hl, e1]; rfl
      · cases h
    · cases h
  · cases h
def Jkj (c : Bool) (a b : Option TV) (kk : TV → Option R) : Option R :=
  match a, b with
  | some (.a (.c (.d t x))), some (.a (.c (.d t' y))) => if h : t' = t then kk (.a (.c (.d t (JrB c x (h ▸ y))))) else none
  | some x, some y => if c = true then kk x else kk y
  | some x, none => if c = true then kk x else none
  | none, some y => if c = true then none else kk y
  | none, none => none
theorem Jmb (F : Orc) {c a b : TO} {x : Bool} {d : Option Nat} {new : Nat} {s : TSt} {k : TSt → Option R} {r : R} (hc : tev c s = some (vb x)) (h : Jkj x (tev a s) (tev b s) (fun v => k (JF d v s)) = some r) : Ok (opR F (.pick (erO c) (erO a) (erO b)) new) d s k r := by
  have key : ∃ v, (if x = true then tev a s else tev b s) = some v ∧ k (JF d v s) = some r := by
    unfold Jkj at h
    split at h
    · rename_i t y t' z ha hb
      split at h
      · rename_i h0; subst h0
        refine ⟨_, ?_, h⟩
        rw [ha, hb]
        cases x <;> rfl
      · cases h
    · rename_i y z _ ha hb
      split at h
      · rename_i hx; exact ⟨y, by rw [if_pos hx]; exact ha, h⟩
      · rename_i hx; exact ⟨z, by rw [if_neg hx]; exact hb, h⟩
    · rename_i y ha hb
      split at h
      · rename_i hx; exact ⟨y, by rw [if_pos hx]; exact ha, h⟩
      · cases h
    · rename_i y ha hb
      split at h
      · cases h
      · rename_i hx; exact ⟨y, by rw [if_neg hx]; exact hb, h⟩
    · cases h
  obtain ⟨v, h1, h2⟩ := key
  refine J0C (v := v) ?_ h2
  simp only [opR, run_bind, Jq hc, Option.bind_some, e_b]
  cases x with
  | true =>
    rw [if_pos rfl] at h1
    simp only [if_true, run_bind, Jq h1, Option.bind_some, Je]
  | false =>
    rw [if_neg (by simp)] at h1
    simp only [Bool.false_eq_true, if_false, run_bind, Jq h1, Option.bind_some, Je]
def tcl : List TO → TSt → Option (List TC)
  | [], _ => some []
  | o :: r, s => match tev o s with
    | some (.a (.c x)) => match tcl r s with
      | some l => some (x :: l)
      | none => none
    | _ => none
theorem Jhj {s : TSt} : ∀ {xs : List TO} {l : List TC}, tcl xs s = some l → (evs (xs.map erO)).run (J9 s) = some (l.map (Jm (lns s.sto)))
  | [], l, h => by injection h with h; subst h; rfl
  | o :: q, l, h => by
    simp only [tcl] at h
    split at h
    · rename_i x hx
      split at h
      · rename_i l' hl
        injection h with h; subst h
        simp only [List.map_cons, evs, run_bind, Jq hx, Option.bind_some, Jhj hl, Je]
        rfl
      · cases h
    · cases h
def Jma (x : TV) (kk : TV → Option R) : Option R :=
  match x with
  | .a (.c (.ptr b p)) => kk (.a (.c (.ptr b p)))
  | .a (.c (.cp t y p)) => kk (.a (.c (.cp t y p)))
  | .a (.c (.ep b i p)) => kk (.a (.c (.ep b i p)))
  | .a (.fn f a c) => kk (.a (.fn f a c))
  | .a (.c (.fn f)) => kk (.a (.c (.fn f)))
  | _ => none
theorem JoK (F : Orc) {x : TO} {v : TV} {d : Option Nat} {new : Nat} {s : TSt} {k : TSt → Option R} {r : R} (hx : tev x s = some v) (h : Jma v (fun v => k (JF d v s)) = some r) : Ok (opR F (.nilchk (erO x)) new) d s k r := by
  unfold Jma at h
  split at h <;> first
    | (refine J0C (v := _) ?_ h
       simp only [opR, run_bind, Jq hx, Option.bind_some, J3p, J5X, J5W, Jmc, Jqt, Je]; done)
    | cases h
end
end Go.Am
end
section
namespace Go.Am
section
variable {R : Type}
def Jnv (keep : Bool) (v : TV) (s : TSt) (kk : TA → TSt → Option R) : Option R :=
  match v with
  | .a x => if keep = true then kk x s else
    match x with
    | .c (.slr b) => match s.sto[b]? with
      | some (.arr _ t' rows) => kk (.c (.d (.l t') rows)) (wS b (.arr false t' rows) s)
      | _ => none
    | .c (.slo _ _) => none
    | .m t cs => fzC t cs s fun x s' => kk (.dt t x) s'
    | x => kk x s
  | .tup _ => none
def Jd7 : List (TV × Bool) → TSt → (List TA → TSt → Option R) → Option R
  | [], s, kk => kk [] s
  | (v, keep) :: r, s, kk => Jnv keep v s fun x s => Jd7 r s fun l s => kk (x :: l) s
theorem Jpg {keep : Bool} {v : TV} {s0 s : TSt} {w0 : List (Nat × Blk)} {kk : TA → TSt → Option R} {r : R} (f : Fzd s0 s w0) (h : Jnv keep v s kk = some r) :
    ∃ x s' ws, (if keep = true then RM.ret (Jl (lns s0.sto) v, []) else J4x (Jl (lns s0.sto) v)).run (J9 s0) = some (J01 (lns s0.sto) x, ws) ∧ Fzd s0 s' (w0 ++ ws) ∧ kk x s' = some r := by
  unfold Jnv at h
  split at h
  · rename_i x
    split at h
    · rename_i hk
      subst hk
      exact ⟨x, s, [], rfl, by rw [List.append_nil]; exact f, h⟩
    · rename_i hk
      have : keep = false := by simpa using hk
      subst this
      simp only [Bool.false_eq_true, if_false]
      split at h
      · rename_i b
        split at h
        · rename_i w t' rows hb
          obtain ⟨w', hb0⟩ := f.2.2.2.1 b _ rows w hb
          refine ⟨_, _, [(b, .arr false t'.sz (rows.map (cel t')))], ?_, f.trans (Je3 hb), h⟩
          simp only [J29, J4x, fz, run_bind, J0g, J0p, hb0, Option.map_some, Option.bind_some, JC, J2v hb0, List.length_map, Nat.zero_add, if_true, List.drop_zero, Je]
          rfl
        · cases h
      · cases h
      · obtain ⟨y, s', ws, h1, h2, h3⟩ := Jaq f h
        refine ⟨_, s', ws, ?_, h2, h3⟩
        simp only [e_m, J4x, fz, run_bind, h1, Option.bind_some, Je]
        rfl
      · rename_i n1 n2 n3
        refine ⟨x, s, [], ?_, by rw [List.append_nil]; exact f, h⟩
        cases x with
        | c x =>
          cases x with
          | slr b => exact absurd rfl (n1 b)
          | slo b n => exact absurd rfl (n2 b n)
          | _ => rfl
        | m t cs => exact absurd rfl (n3 t cs)
        | _ => rfl
  · cases h
theorem Jci : ∀ {vs : List (TV × Bool)} {s0 s : TSt} {w0 : List (Nat × Blk)} {kk : List TA → TSt → Option R} {r : R}, Fzd s0 s w0 → Jd7 vs s kk = some r →
    ∃ xs s' ws, (J1p (vs.map (·.2)) (vs.map fun x => Jl (lns s0.sto) x.1)).run (J9 s0) = some (xs.map (J01 (lns s0.sto)), ws) ∧ Fzd s0 s' (w0 ++ ws) ∧ kk xs s' = some r
  | [], s0, s, w0, kk, r, f, h => ⟨[], s, [], rfl, by rw [List.append_nil]; exact f, h⟩
  | (v, keep) :: q, s0, s, w0, kk, r, f, h => by
    simp only [Jd7] at h
    obtain ⟨x, s1, w1, h1, f1, h⟩ := Jpg f h
    obtain ⟨xs, s2, w2, h2, f2, h⟩ := Jci f1 h
    refine ⟨x :: xs, s2, w1 ++ w2, ?_, by rw [← List.append_assoc]; exact f2, h⟩
    cases keep with
    | true =>
      simp only [if_true, Je] at h1
      injection h1 with h1
      injection h1 with h1 h3
      subst h3
      simp only [List.map_cons, J1p, run_bind, h2, Option.bind_some, Je, h1, List.nil_append]
    | false =>
      simp only [Bool.false_eq_true, if_false] at h1
      simp only [List.map_cons, J1p, run_bind, h1, h2, Option.bind_some, Je]
theorem J6G : ∀ (vs : List AV), J1p [] vs = J3o vs
  | [] => rfl
  | x :: r => by simp only [J1p, J3o, J6G r]
theorem J4z : ∀ (m : List Bool) (vs : List AV), (∀ x ∈ m, x = false) → J1p m vs = J3o vs
  | [], vs, _ => J6G vs
  | b :: m, [], _ => rfl
  | b :: m, x :: r, h => by
    have : b = false := h b (by simp)
    subst this
    simp only [J1p, J3o, J4z m r (fun x hx => h x (by simp [hx]))]
def Jg9 (b : Nat) (l : List Nat) : List Nat := if l.any (fun x => x == b) = true then l else l ++ [b]
def JfT (x : TC) (l : List Nat) : Option (List Nat) :=
  match x with
  | .ptr b _ => some (Jg9 b l)
  | .slr b => some (Jg9 b l)
  | .slo b _ => some (Jg9 b l)
  | .ep _ _ _ => none
  | .epo _ _ _ _ => none
  | _ => some l
def J7y : List TC → List Nat → Option (List Nat)
  | [], l => some l
  | x :: r, l => match JfT x l with
    | some l => J7y r l
    | none => none
def JjS (x : TA) (l : List Nat) : Option (List Nat) :=
  match x with
  | .c x => JfT x l
  | .dt _ _ => some l
  | .m _ cs => J7y cs l
  | .fn _ a c => match J7y a l with
    | some l => J7y c l
    | none => none
def J8s : List TA → List Nat → Option (List Nat)
  | [], l => some l
  | x :: r, l => match JjS x l with
    | some l => J8s r l
    | none => none
def J7F (s : TSt) : List Nat → List Nat → Option (List Nat)
  | [], acc => some acc
  | b :: r, acc => match s.sto[b]? with
    | some (.mbox _ cs) => match J7y cs acc with
      | some acc => J7F s r acc
      | none => none
    | some _ => J7F s r acc
    | none => none
theorem JgB (b : Nat) (l : List Nat) : J6b (.whole b) (l.map .whole) = (Jg9 b l).map .whole := by
  unfold J6b Jg9
  have : (l.map Ent.whole).any (fun x => x == .whole b) = l.any (fun x => x == b) := by
    rw [List.any_map]
    congr 1
    funext x
    simp only [Function.comp]
    by_cases h : x = b
    · subst h; simp
    · have h1 : (x == b) = false := by simpa using h
      have h2 : (Ent.whole x == Ent.whole b) = false := by simpa using h
      rw [h1, h2]
  rw [this]
  split <;> simp
section
variable (L : Nat → Nat)
theorem Jhe {x : TC} {l l' : List Nat} (h : JfT x l = some l') : JM (Jm L x) (l.map .whole) = l'.map .whole := by
  unfold JfT at h
  split at h <;> first
    | (injection h with h; subst h; simp only [Jm, JM, JgB]; done)
    | (cases h; done)
    | skip
  injection h with h; subst h
  rename_i n1 n2 n3 n4 n5
  cases x with
  | ptr b p => exact absurd rfl (n1 b p)
  | slr b => exact absurd rfl (n2 b)
  | slo b n => exact absurd rfl (n3 b n)
  | ep b i p => exact absurd rfl (n4 b i p)
  | epo b e i p => exact absurd rfl (n5 b e i p)
  | _ => rfl
theorem J5Y : ∀ {xs : List TC} {l l' : List Nat}, J7y xs l = some l' → JM.entsOfL (xs.map (Jm L)) (l.map .whole) = l'.map .whole
  | [], l, l', h => by injection h with h; subst h; rfl
  | x :: r, l, l', h => by
    simp only [J7y] at h
    split at h
    · rename_i l1 h1
      simp only [List.map_cons, JM.entsOfL, Jhe L h1]
      exact J5Y h
    · cases h
theorem JmS {x : TA} {l l' : List Nat} (h : JjS x l = some l') : JM (J01 L x) (l.map .whole) = l'.map .whole := by
  cases x with
  | c x => exact Jhe L h
  | dt t x => injection h with h; subst h; rfl
  | m t cs => exact J5Y L h
  | fn f a c =>
    simp only [JjS] at h
    split at h
    · rename_i l1 h1
      simp only [J01, JM, J5Y L h1]
      exact J5Y L h
    · cases h
theorem J7Q : ∀ {xs : List TA} {l l' : List Nat}, J8s xs l = some l' → JM.entsOfL (xs.map (J01 L)) (l.map .whole) = l'.map .whole
  | [], l, l', h => by injection h with h; subst h; rfl
  | x :: r, l, l', h => by
    simp only [J8s] at h
    split at h
    · rename_i l1 h1
      simp only [List.map_cons, JM.entsOfL, JmS L h1]
      exact J7Q h
    · cases h
end
theorem Jc3 {s0 s1 : TSt} {ws : List (Nat × Blk)} (f : Fzd s0 s1 ws) {b : Nat} {y : TB} (h : s1.sto[b]? = some y) : (J7V ws b).run (J9 s0) = some (JC (lns s0.sto) y) := by
  have h1 : (J9 s1).sto[b]? = some (JC (lns s0.sto) y) := by rw [J0p, h, f.2.1]; rfl
  rw [f.2.2.1] at h1
  have hlt : b < (J9 s0).sto.length := by
    have := J5 h1
    rw [J5Q] at this
    exact this
  have := J5c ws (J9 s0).sto b hlt
  simp only at h1
  rw [h1] at this
  simp only [J7V, J0g, List.getElem?_eq_getElem hlt, Option.bind_some]
  split at this
  · rename_i z hz
    try rw [hz]
    simp only [Je]
    exact this.symm
  · rename_i hz
    try rw [hz]
    simp only [Je]
    rw [List.getElem?_eq_getElem hlt] at this
    exact this.symm
theorem J4V {s0 s1 : TSt} {ws : List (Nat × Blk)} (f : Fzd s0 s1 ws) : ∀ {r acc l : List Nat}, J7F s1 r acc = some l → (J1L ws (r.map .whole) (acc.map .whole)).run (J9 s0) = some (l.map .whole)
  | [], acc, l, h => by injection h with h; subst h; rfl
  | b :: r, acc, l, h => by
    simp only [J7F] at h
    split at h
    · rename_i cs hb
      split at h
      · rename_i acc' ha
        simp only [List.map_cons, J1L, run_bind, Jc3 f hb, Option.bind_some, JC, J5Y (lns s0.sto) ha]
        exact J4V f h
      · cases h
    · rename_i x hn hb
      simp only [List.map_cons, J1L, run_bind, Jc3 f hb, Option.bind_some]
      cases x with
      | mbox t cs => exact absurd rfl (hn t cs)
      | box t x =>
        simp only [JC]
        rw [JeU]
        exact J4V f h
      | _ => exact J4V f h
    · cases h
end
end Go.Am
end
section
namespace Go.Am
def kCs (K : List Nat) (L : Nat → Nat) : TC → TC
  | .slr c => if K.any (fun x => x == c) = true then .slo c (L c) else .slr c
  | .ep c i p => if K.any (fun x => x == c) = true then .epo c (L c) i p else .ep c i p
  | x => x
def kAs (K : List Nat) (L : Nat → Nat) : TA → TA
  | .c x => .c (kCs K L x)
  | .dt t x => .dt t x
  | .m t cs => .m t (cs.map (kCs K L))
  | .fn f a c => .fn f (a.map (kCs K L)) (c.map (kCs K L))
def kVs (K : List Nat) (L : Nat → Nat) : TV → TV
  | .a x => .a (kAs K L x)
  | .tup vs => .tup (vs.map (kAs K L))
def kBs (K : List Nat) (L : Nat → Nat) : TB → TB
  | .mbox t cs => .mbox t (cs.map (kCs K L))
  | x => x
section
variable {K : List Nat} {L L' : Nat → Nat} (h : ∀ c, K.any (fun x => x == c) = false → L' c = L c)
include h
theorem Jq2 (x : TC) : Jm L' (kCs K L x) = Jm L x := by
  cases x with
  | slr c =>
    cases e : K.any (fun x => x == c) with
    | true => simp only [kCs, e, if_true, Jm]
    | false => simp only [kCs, e, Bool.false_eq_true, if_false, Jm, h c e]
  | ep c i p =>
    cases e : K.any (fun x => x == c) with
    | true => simp only [kCs, e, if_true, Jm]
    | false => simp only [kCs, e, Bool.false_eq_true, if_false, Jm, h c e]
  | _ => rfl
theorem JnX (xs : List TC) : (xs.map (kCs K L)).map (Jm L') = xs.map (Jm L) := by
  rw [List.map_map]; exact List.map_congr_left fun x _ => Jq2 h x
theorem JrC (x : TA) : J01 L' (kAs K L x) = J01 L x := by
  cases x <;> simp only [kAs, J01, Jq2 h, JnX h]
theorem JrA (x : TV) : Jl L' (kVs K L x) = Jl L x := by
  cases x <;> simp only [kVs, Jl, JrC h, List.map_map, Function.comp_def]
theorem JrD (x : TB) : JC L' (kBs K L x) = JC L x := by
  cases x <;> simp only [kBs, JC, JnX h]
end
theorem Joe (K : List Nat) (L : Nat → Nat) (x : TB) : lnB (kBs K L x) = lnB x := by cases x <;> rfl
theorem Jpa (sto : List TB) (K : List Nat) (L : Nat → Nat) (c : Nat) : lns (sto.map (kBs K L)) c = lns sto c := by
  unfold lns
  rw [List.getElem?_map]
  cases sto[c]? with
  | none => rfl
  | some x => exact Joe K L x
def J8X (ws : List (Nat × Bool × TB)) (sto : List TB) : List TB := ws.foldl (fun σ x => σ.set x.1 x.2.2) sto
def J6q (ws : List (Nat × Bool × TB)) (s : TSt) : TSt :=
  match ws with
  | [] => s
  | ws =>
    let K := (ws.filter fun x => !x.2.1).map (·.1)
    ⟨s.env.map fun y => (y.1, kVs K (lns s.sto) y.2), J8X ws (s.sto.map (kBs K (lns s.sto)))⟩
theorem Jcw : ∀ {ws : List (Nat × Bool × TB)} {sto : List TB} {c : Nat}, c ∉ ws.map (·.1) → (J8X ws sto)[c]? = sto[c]?
  | [], _, _, _ => rfl
  | x :: ws, sto, c, h => by
    simp only [List.map_cons, List.mem_cons, not_or] at h
    show (J8X ws (sto.set x.1 x.2.2))[c]? = _
    rw [Jcw h.2, List.getElem?_set_ne (fun e => h.1 e.symm)]
theorem Jj0 : ∀ {ws : List (Nat × Bool × TB)} {sto : List TB}, (ws.map (·.1)).Nodup → ∀ x ∈ ws, x.1 < sto.length → (J8X ws sto)[x.1]? = some x.2.2
  | [], _, _, x, hx, _ => by cases hx
  | y :: ws, sto, hn, x, hx, hl => by
    simp only [List.map_cons, List.nodup_cons] at hn
    show (J8X ws (sto.set y.1 y.2.2))[x.1]? = _
    rcases List.mem_cons.1 hx with rfl | hx
    · rw [Jcw hn.1, List.getElem?_set_self hl]
    · exact Jj0 hn.2 x hx (by simpa using hl)
theorem JgG (f : TB → Blk) : ∀ (ws : List (Nat × Bool × TB)) (sto : List TB), (J8X ws sto).map f = upd (ws.map fun x => (x.1, f x.2.2)) (sto.map f)
  | [], _ => rfl
  | x :: ws, sto => by
    show (J8X ws (sto.set x.1 x.2.2)).map f = upd (ws.map fun x => (x.1, f x.2.2)) ((sto.map f).set x.1 (f x.2.2))
    rw [JgG f ws, List.map_set]
theorem JoD {ws : List (Nat × Bool × TB)} {s : TSt} (hn : (ws.map (·.1)).Nodup) (hl : ∀ x ∈ ws, x.1 < s.sto.length) (hf : ∀ x ∈ ws, x.2.1 = true → lnB x.2.2 = lns s.sto x.1) :
    J9 (J6q ws s) = ⟨(J9 s).env, upd (ws.map fun x => (x.1, JC (lns (J6q ws s).sto) x.2.2)) (J9 s).sto⟩ ∧ ∀ x ∈ ws, lns (J6q ws s).sto x.1 = lnB x.2.2 := by
  cases ws with
  | nil => exact ⟨rfl, fun x hx => by cases hx⟩
  | cons x0 ws0 =>
    generalize hw : x0 :: ws0 = ws at *
    have hdef : J6q ws s = ⟨s.env.map fun y => (y.1, kVs ((ws.filter fun x => !x.2.1).map (·.1)) (lns s.sto) y.2), J8X ws (s.sto.map (kBs ((ws.filter fun x => !x.2.1).map (·.1)) (lns s.sto)))⟩ := by
      subst hw; rfl
    have hin : ∀ x ∈ ws, lns (J6q ws s).sto x.1 = lnB x.2.2 := fun x hx => by
      rw [hdef]
      unfold lns
      rw [Jj0 hn x hx (by simpa using hl x hx)]; rfl
    have hk : ∀ c, ((ws.filter fun x => !x.2.1).map (·.1)).any (fun x => x == c) = false → lns (J6q ws s).sto c = lns s.sto c := by
      intro c hc
      by_cases hm : c ∈ ws.map (·.1)
      · obtain ⟨x, hx, rfl⟩ := List.mem_map.1 hm
        cases hx1 : x.2.1 with
        | true => rw [hin x hx, hf x hx hx1]
        | false =>
          have : ((ws.filter fun x => !x.2.1).map (·.1)).any (fun y => y == x.1) = true := by
            rw [List.any_eq_true]
            exact ⟨x.1, List.mem_map.2 ⟨x, List.mem_filter.2 ⟨hx, by simp [hx1]⟩, rfl⟩, by simp⟩
          rw [hc] at this; cases this
      · rw [hdef]
        have := Jpa s.sto ((ws.filter fun x => !x.2.1).map (·.1)) (lns s.sto) c
        rw [← this]
        unfold lns
        rw [Jcw hm]
    refine ⟨?_, hin⟩
    generalize hL : lns (J6q ws s).sto = L' at *
    unfold J9
    rw [hL, hdef]
    congr 1
    · show J1W L' (s.env.map fun y => (y.1, kVs _ (lns s.sto) y.2)) = J1W _ s.env
      unfold J1W
      rw [List.map_map]
      exact List.map_congr_left fun y _ => by simp only [Function.comp, JrA hk]
    · show (J8X ws (s.sto.map _)).map (JC L') = _
      rw [JgG, List.map_map]
      congr 1
      exact List.map_congr_left fun y _ => JrD hk y
theorem Jiv (b : Nat) : ∀ (ids : List Nat) (k : Nat), J0y (.whole b) (ids.map .whole) k = J1Y b ids k
  | [], _ => rfl
  | x :: r, k => by
    simp only [List.map_cons, J0y, J1Y]
    by_cases h : x = b
    · subst h; simp
    · simp [h, Jiv b r (k + 1)]
def JfK (ids : List Nat) : TC → Option TC
  | .ptr b p => (J1Y b ids 0).bind fun k => some (.ptr k p)
  | .slr b => (J1Y b ids 0).bind fun k => some (.slr k)
  | .slo b n => (J1Y b ids 0).bind fun k => some (.slo k n)
  | .ep _ _ _ => none
  | .epo _ _ _ _ => none
  | x => some x
def J92 (ids : List Nat) : List TC → Option (List TC)
  | [] => some []
  | x :: r => match JfK ids x, J92 ids r with
    | some y, some l => some (y :: l)
    | _, _ => none
def Jdk (ids : List Nat) : TA → Option TA
  | .c x => match JfK ids x with
    | some y => some (.c y)
    | none => none
  | .dt t x => some (.dt t x)
  | .m t cs => match J92 ids cs with
    | some l => some (.m t l)
    | none => none
  | .fn f a c => match J92 ids a, J92 ids c with
    | some a, some c => some (.fn f a c)
    | _, _ => none
def Jdr (ids : List Nat) : List TA → Option (List TA)
  | [] => some []
  | x :: r => match Jdk ids x, Jdr ids r with
    | some y, some l => some (y :: l)
    | _, _ => none
def Jgd (ids : List Nat) : TB → Option TB
  | .box t x => some (.box t x)
  | .mbox t cs => match J92 ids cs with
    | some l => some (.mbox t l)
    | none => none
  | .arr w t rows => some (.arr w t rows)
  | .dead => none
def J59 (ids : List Nat) (s : TSt) : List Nat → Option (List TB)
  | [] => some []
  | b :: r => match s.sto[b]? with
    | some x => match Jgd ids x, J59 ids s r with
      | some y, some l => some (y :: l)
      | _, _ => none
    | none => none
section
variable {ids : List Nat} {L L' : Nat → Nat} (hL : ∀ b k, J1Y b ids 0 = some k → L' k = L b)
include hL
theorem Jgl {x y : TC} (h : JfK ids x = some y) : ren (fun e => J0y e (ids.map .whole) 0) (Jm L x) = some (Jm L' y) := by
  cases x <;> simp only [JfK] at h <;> first
    | (obtain ⟨k, hk, h⟩ := Option.bind_eq_some_iff.1 h
       injection h with h; subst h
       simp only [Jm, ren, Jiv, hk, Option.map_some]
       try rw [hL _ _ hk]
       done)
    | (injection h with h; subst h; rfl)
    | cases h
theorem J7d : ∀ {xs ys : List TC}, J92 ids xs = some ys → ren.renL (fun e => J0y e (ids.map .whole) 0) (xs.map (Jm L)) = some (ys.map (Jm L'))
  | [], ys, h => by injection h with h; subst h; rfl
  | x :: r, ys, h => by
    simp only [J92] at h
    split at h
    · rename_i y l hy hl
      injection h with h; subst h
      simp only [List.map_cons, ren.renL, Jgl hL hy, J7d hl]
    · cases h
theorem Jm4 {x y : TA} (h : Jdk ids x = some y) : ren (fun e => J0y e (ids.map .whole) 0) (J01 L x) = some (J01 L' y) := by
  cases x with
  | c x =>
    simp only [Jdk] at h
    split at h
    · rename_i y hy
      injection h with h; subst h
      exact Jgl hL hy
    · cases h
  | dt t x => injection h with h; subst h; rfl
  | m t cs =>
    simp only [Jdk] at h
    split at h
    · rename_i l hl
      injection h with h; subst h
      simp only [J01, ren, J7d hL hl, Option.map_some]
    · cases h
  | fn f a c =>
    simp only [Jdk] at h
    split at h
    · rename_i a' c' ha hc
      injection h with h; subst h
      simp only [J01, ren, J7d hL ha, J7d hL hc, Option.bind_some, Option.map_some]
    · cases h
theorem JeL : ∀ {xs ys : List TA}, Jdr ids xs = some ys → ren.renL (fun e => J0y e (ids.map .whole) 0) (xs.map (J01 L)) = some (ys.map (J01 L'))
  | [], ys, h => by injection h with h; subst h; rfl
  | x :: r, ys, h => by
    simp only [Jdr] at h
    split at h
    · rename_i y l hy hl
      injection h with h; subst h
      simp only [List.map_cons, ren.renL, Jm4 hL hy, JeL hl]
    · cases h
theorem JcP {s0 s1 : TSt} {ws : List (Nat × Blk)} (f : Fzd s0 s1 ws) (hL0 : lns s0.sto = L) : ∀ {bs : List Nat} {bl : List TB}, J59 ids s1 bs = some bl →
    (J2f ws (fun e => J0y e (ids.map .whole) 0) (bs.map .whole)).run (J9 s0) = some (bl.map (JC L'))
  | [], bl, h => by injection h with h; subst h; rfl
  | b :: r, bl, h => by
    simp only [J59] at h
    split at h
    · rename_i x hb
      split at h
      · rename_i y l hy hl
        injection h with h; subst h
        have ih := JcP f hL0 hl
        have hg := Jc3 f hb
        rw [hL0] at hg
        simp only [List.map_cons, J2f, J99, run_bind, hg, Option.bind_some]
        cases x with
        | dead => cases hy
        | box t x =>
          injection hy with hy; subst hy
          have : ren.renL (fun e => J0y e (ids.map .whole) 0) ((cel t x).map AV.p) = some ((cel t x).map AV.p) := JeT (J4g _)
          simp only [JC, this, Je, Option.bind_some, ih]
        | mbox t cs =>
          simp only [Jgd] at hy
          split at hy
          · rename_i l' hl'
            injection hy with hy; subst hy
            simp only [JC, J7d hL hl', Je, Option.bind_some, ih]
          · cases hy
        | arr w t rows =>
          injection hy with hy; subst hy
          simp only [JC, Je, Option.bind_some, ih]
      · cases h
    · cases h
end
theorem Jbz {ids : List Nat} {s : TSt} : ∀ {bs : List Nat} {bl : List TB}, J59 ids s bs = some bl → bl.length = bs.length ∧ ∀ (k b : Nat), bs[k]? = some b → lns bl k = lns s.sto b
  | [], bl, h => by injection h with h; subst h; exact ⟨rfl, fun k b h => by simp at h⟩
  | b :: r, bl, h => by
    simp only [J59] at h
    split at h
    · rename_i x hb
      split at h
      · rename_i y l hy hl
        injection h with h; subst h
        obtain ⟨h1, h2⟩ := Jbz hl
        refine ⟨by simp [h1], fun k c hk => ?_⟩
        cases k with
        | zero =>
          simp at hk; subst hk
          unfold lns
          rw [hb]
          show lnB y = lnB x
          cases x with
          | dead => cases hy
          | box t x => injection hy with hy; subst hy; rfl
          | mbox t cs =>
            simp only [Jgd] at hy
            split at hy
            · injection hy with hy; subst hy; rfl
            · cases hy
          | arr w t rows => injection hy with hy; subst hy; rfl
        | succ k =>
          have := h2 k c (by simpa using hk)
          unfold lns at this ⊢
          rw [← this]; simp
      · cases h
    · cases h
def J2n (ids : List Nat) (new m k : Nat) : Option Nat := if k < ids.length then ids[k]? else if k < m then some (new + (k - ids.length)) else none
def Jju (ids : List Nat) (new m : Nat) : TC → Option TC
  | .ptr k p => (J2n ids new m k).bind fun b => some (.ptr b p)
  | .slr k => (J2n ids new m k).bind fun b => some (.slr b)
  | .slo k n => (J2n ids new m k).bind fun b => some (.slo b n)
  | .ep k i p => (J2n ids new m k).bind fun b => some (.ep b i p)
  | .epo k e i p => (J2n ids new m k).bind fun b => some (.epo b e i p)
  | x => some x
def Jc5 (ids : List Nat) (new m : Nat) : List TC → Option (List TC)
  | [] => some []
  | x :: r => match Jju ids new m x, Jc5 ids new m r with
    | some y, some l => some (y :: l)
    | _, _ => none
def Jex (ids : List Nat) (new m : Nat) : TA → Option TA
  | .c x => match Jju ids new m x with
    | some y => some (.c y)
    | none => none
  | .dt t x => some (.dt t x)
  | .m t cs => match Jc5 ids new m cs with
    | some l => some (.m t l)
    | none => none
  | .fn f a c => match Jc5 ids new m a, Jc5 ids new m c with
    | some a, some c => some (.fn f a c)
    | _, _ => none
def JfP (ids : List Nat) (new m : Nat) : List TA → Option (List TA)
  | [] => some []
  | x :: r => match Jex ids new m x, JfP ids new m r with
    | some y, some l => some (y :: l)
    | _, _ => none
def JjV (ids : List Nat) (new m : Nat) : TV → Option TV
  | .a x => match Jex ids new m x with
    | some y => some (.a y)
    | none => none
  | .tup vs => match JfP ids new m vs with
    | some l => some (.tup l)
    | none => none
def Jcq (ids : List Nat) (new m : Nat) : TB → Option TB
  | .box t x => some (.box t x)
  | .mbox t cs => match Jc5 ids new m cs with
    | some l => some (.mbox t l)
    | none => none
  | .arr w t rows => some (.arr w t rows)
  | .dead => none
section
variable {ids : List Nat} {new m : Nat} {L Lp : Nat → Nat} (hL : ∀ k b, J2n ids new m k = some b → Lp b = L k)
theorem JpT {k b o : Nat} (h : J2n ids new m k = some b) : bk (ids.map .whole) new (.ptr k o) = some (.ptr b o) := by
  unfold J2n at h
  simp only [bk, List.length_map, List.getElem?_map]
  split at h
  · rename_i hk; rw [if_pos hk, h]; rfl
  · rename_i hk
    split at h
    · injection h with h; rw [if_neg hk, h]
    · cases h
theorem JqL {k b i n : Nat} (h : J2n ids new m k = some b) : bk (ids.map .whole) new (.slr k i n) = some (.slr b i n) := by
  unfold J2n at h
  simp only [bk, List.length_map, List.getElem?_map]
  split at h
  · rename_i hk; rw [if_pos hk, h]; rfl
  · rename_i hk
    split at h
    · injection h with h; rw [if_neg hk, h]
    · cases h
theorem JqS {k b e i o : Nat} (h : J2n ids new m k = some b) : bk (ids.map .whole) new (.ep k e i o) = some (.ep b e i o) := by
  unfold J2n at h
  simp only [bk, List.length_map, List.getElem?_map]
  split at h
  · rename_i hk; rw [if_pos hk, h]; rfl
  · rename_i hk
    split at h
    · injection h with h; rw [if_neg hk, h]
    · cases h
include hL
theorem Jj1 {x y : TC} (h : Jju ids new m x = some y) : bk (ids.map .whole) new (Jm L x) = some (Jm Lp y) := by
  cases x <;> simp only [Jju] at h <;> first
    | (obtain ⟨b, hb, h⟩ := Option.bind_eq_some_iff.1 h
       injection h with h; subst h
       simp only [Jm, JpT hb, JqL hb, JqS hb, hL _ _ hb]
       done)
    | (injection h with h; subst h; rfl)
theorem J6W : ∀ {xs ys : List TC}, Jc5 ids new m xs = some ys → bk.bkL (ids.map .whole) new (xs.map (Jm L)) = some (ys.map (Jm Lp))
  | [], ys, h => by injection h with h; subst h; rfl
  | x :: r, ys, h => by
    simp only [Jc5] at h
    split at h
    · rename_i y l hy hl
      injection h with h; subst h
      simp only [List.map_cons, bk.bkL, Jj1 hL hy, J6W hl]
    · cases h
theorem JiT {x y : TA} (h : Jex ids new m x = some y) : bk (ids.map .whole) new (J01 L x) = some (J01 Lp y) := by
  cases x with
  | c x =>
    simp only [Jex] at h
    split at h
    · rename_i y hy
      injection h with h; subst h
      exact Jj1 hL hy
    · cases h
  | dt t x => injection h with h; subst h; rfl
  | m t cs =>
    simp only [Jex] at h
    split at h
    · rename_i l hl
      injection h with h; subst h
      simp only [J01, bk, J6W hL hl]
    · cases h
  | fn f a c =>
    simp only [Jex] at h
    split at h
    · rename_i a' c' ha hc
      injection h with h; subst h
      simp only [J01, bk, J6W hL ha, J6W hL hc]
    · cases h
theorem Jh5 : ∀ {xs ys : List TA}, JfP ids new m xs = some ys → bk.bkL (ids.map .whole) new (xs.map (J01 L)) = some (ys.map (J01 Lp))
  | [], ys, h => by injection h with h; subst h; rfl
  | x :: r, ys, h => by
    simp only [JfP] at h
    split at h
    · rename_i y l hy hl
      injection h with h; subst h
      simp only [List.map_cons, bk.bkL, JiT hL hy, Jh5 hl]
    · cases h
theorem JoM {x y : TV} (h : JjV ids new m x = some y) : bk (ids.map .whole) new (Jl L x) = some (Jl Lp y) := by
  cases x with
  | a x =>
    simp only [JjV] at h
    split at h
    · rename_i y hy
      injection h with h; subst h
      exact JiT hL hy
    · cases h
  | tup vs =>
    simp only [JjV] at h
    split at h
    · rename_i l hl
      injection h with h; subst h
      simp only [Jl, bk, Jh5 hL hl]
    · cases h
end
end Go.Am
end
section
namespace Go.Am
structure TG where
  go : ∀ {R : Type}, FuncId → List TA → List TB → (TV → List (Bool × TB) → Option R) → Option R
def J86 (out : List (Bool × TB)) : Nat → Nat := lns (out.map (·.2))
structure GOk (F : Orc) (G : TG) : Prop where
  ok : ∀ {R : Type} {f : FuncId} {xs : List TA} {bl : List TB} {kk : TV → List (Bool × TB) → Option R} {r : R}, G.go f xs bl kk = some r →
    ∃ v out, F f (xs.map (J01 (lns bl))) (bl.map (JC (lns bl))) = some (Jl (J86 out) v, out.map fun x => JC (J86 out) x.2) ∧
      (∀ (k : Nat) x, out[k]? = some (true, x) → k < bl.length → lnB x = lns bl k) ∧ kk v out = some r
def J5e (ids : List Nat) (new m : Nat) : Nat → List (Bool × TB) → Option (List (Nat × Bool × TB))
  | _, [] => some []
  | k, (s, x) :: r => match J2n ids new m k, Jcq ids new m x, J5e ids new m (k + 1) r with
    | some b, some y, some l => some ((b, s && decide (k < ids.length), y) :: l)
    | _, _, _ => none
section
variable {R : Type}
def JjI (flex : Bool) (a b n : Nat) : Bool := if flex = true then decide (a ≤ b ∧ b ≤ a + n) else decide (b = a + n)
theorem Jlc {flex : Bool} {a b n : Nat} (h : JjI flex a b n = true) : (if flex = true then a ≤ b ∧ b ≤ a + n else b = a + n) ∧ a ≤ b ∧ b ≤ a + n := by
  unfold JjI at h
  cases flex with
  | true => simp at h; exact ⟨by simpa using h, h⟩
  | false => simp at h; exact ⟨by simpa using h, by omega, by omega⟩
def JaG (G : TG) (f : FuncId) (args : List (TV × Bool)) (flex : Bool) (n : Nat) (d : Option Nat) (new : Nat) (s : TSt) (kk : TSt → Option R) : Option R :=
  Jd7 args s fun xs s1 =>
  match J8s xs [] with
  | none => none
  | some i0 => match J7F s1 i0 i0 with
    | none => none
    | some i1 => match J7F s1 i1 i1 with
      | none => none
      | some ids => if J23 ids = true then
          match Jdr ids xs, J59 ids s1 ids with
          | some ys, some bl => G.go f ys bl fun v out =>
              if JjI flex ids.length out.length n = true then
                match JjV ids new out.length v, J5e ids new out.length 0 out with
                | some v', some ws => if J23 (ws.map (·.1)) = true then kk (JF d v' (J6q ws s1)) else none
                | _, _ => none
              else none
          | _, _ => none
        else none
theorem Jgg {ids : List Nat} {new m : Nat} {x y : TB} (h : Jcq ids new m x = some y) : lnB y = lnB x := by
  cases x with
  | dead => cases h
  | box t x => injection h with h; subst h; rfl
  | mbox t cs =>
    simp only [Jcq] at h
    split at h
    · injection h with h; subst h; rfl
    · cases h
  | arr w t rows => injection h with h; subst h; rfl
theorem JgT {ids : List Nat} {new m : Nat} : ∀ {k : Nat} {out : List (Bool × TB)} {ws : List (Nat × Bool × TB)}, J5e ids new m k out = some ws →
    ws.length = out.length ∧ ∀ (j : Nat) s x, out[j]? = some (s, x) → ∃ b y, J2n ids new m (k + j) = some b ∧ Jcq ids new m x = some y ∧ ws[j]? = some (b, s && decide (k + j < ids.length), y)
  | k, [], ws, h => by injection h with h; subst h; exact ⟨rfl, fun j s x h => by simp at h⟩
  | k, (s, x) :: r, ws, h => by
    simp only [J5e] at h
    split at h
    · rename_i b y l hb hy hl
      injection h with h; subst h
      obtain ⟨h1, h2⟩ := JgT hl
      refine ⟨by simp [h1], fun j s' x' hj => ?_⟩
      cases j with
      | zero =>
        simp at hj
        obtain ⟨rfl, rfl⟩ := hj
        exact ⟨b, y, hb, hy, by simp⟩
      | succ j =>
        obtain ⟨b', y', q1, q2, q3⟩ := h2 j s' x' (by simpa using hj)
        refine ⟨b', y', by rw [← q1]; congr 1; omega, q2, ?_⟩
        simp only [List.getElem?_cons_succ, q3]
        rw [show k + 1 + j = k + (j + 1) by omega]
    · cases h
theorem Jn4 {l : List Nat} (h : J23 l = true) : l.Nodup := J6R h
theorem Jig {ids : List Nat} (h : J23 ids = true) : J23 ((ids.map Ent.whole).map Ent.id) = true := by
  rw [List.map_map, show Ent.id ∘ Ent.whole = id from rfl, List.map_id]; exact h
theorem Jhv {ids : List Nat} {new m : Nat} {L Lp : Nat → Nat} (hL : ∀ k b, J2n ids new m k = some b → Lp b = L k) {ws0 : List (Nat × Blk)} {st : St} : ∀ {j : Nat} {es : List Nat} {out : List (Bool × TB)} {ws : List (Nat × Bool × TB)},
    (∀ (i : Nat) b, es[i]? = some b → ids[j + i]? = some b) → j + es.length = ids.length → es.length ≤ out.length → J5e ids new m j out = some ws →
    (J1l ws0 (ids.map .whole) new (es.map .whole) (out.map fun x => JC L x.2)).run st = some ((ws.take es.length).map fun x => (x.1, JC Lp x.2.2))
  | j, [], out, ws, _, _, _, h => by simp [J1l, Je]
  | j, b :: es, [], ws, _, _, hl, h => by simp at hl
  | j, b :: es, (s, x) :: out, ws, he, hj, hl, h => by
    simp only [J5e] at h
    split at h
    · rename_i b' y l hb hy hl'
      injection h with h; subst h
      have ih := Jhv hL (ws0 := ws0) (st := st) (j := j + 1) (es := es) (out := out) (ws := l) (fun i c hc => by
        have := he (i + 1) c (by simpa using hc)
        rw [← this]; congr 1; omega) (by simp at hj; omega) (by simpa using hl) hl'
      have hbb : b' = b := by
        have h0 := he 0 b (by simp)
        unfold J2n at hb
        rw [if_pos (by simp at hj; omega)] at hb
        rw [Nat.add_zero] at h0
        rw [hb] at h0
        injection h0
      subst hbb
      simp only [List.map_cons, J1l, run_bind]
      have hout : (J3P ws0 (ids.map .whole) new (.whole b') (JC L x)).run st = some (b', JC Lp y) := by
        cases x with
        | dead => cases hy
        | box t x =>
          injection hy with hy; subst hy
          simp only [J8e, J3P, Jav (J4g _), Je]
        | mbox t cs =>
          simp only [Jcq] at hy
          split at hy
          · rename_i l' hl2
            injection hy with hy; subst hy
            simp only [J8j, J3P, J6W hL hl2, Je]
          · cases hy
        | arr w t rows =>
          injection hy with hy; subst hy
          simp only [JgX, J3P, Je]
      simp only [hout, Option.bind_some, ih, Je, List.length_cons, List.take_succ_cons, List.map_cons]
    · cases h
theorem Jht {ids : List Nat} {new m : Nat} {L Lp : Nat → Nat} (hL : ∀ k b, J2n ids new m k = some b → Lp b = L k) : ∀ {j : Nat} {out : List (Bool × TB)} {ws : List (Nat × Bool × TB)},
    J5e ids new m (ids.length + j) out = some ws → J12 (ids.map .whole) new (new + j) (out.map fun x => JC L x.2) = some (ws.map fun x => (x.1, JC Lp x.2.2))
  | j, [], ws, h => by injection h with h; subst h; rfl
  | j, (s, x) :: out, ws, h => by
    simp only [J5e] at h
    split at h
    · rename_i b' y l hb hy hl'
      injection h with h; subst h
      have ih := Jht hL (j := j + 1) hl'
      have hbb : b' = new + j := by
        unfold J2n at hb
        rw [if_neg (by omega)] at hb
        split at hb
        · injection hb with hb; omega
        · cases hb
      subst hbb
      cases x with
      | dead => cases hy
      | box t x =>
        injection hy with hy; subst hy
        simp only [List.map_cons, J8e, J12, Jav (J4g _)]
        rw [show new + j + 1 = new + (j + 1) by omega, ih]
      | mbox t cs =>
        simp only [Jcq] at hy
        split at hy
        · rename_i l' hl2
          injection hy with hy; subst hy
          simp only [List.map_cons, J8j, J12, J6W hL hl2]
          rw [show new + j + 1 = new + (j + 1) by omega, ih]
        · cases hy
      | arr w t rows =>
        injection hy with hy; subst hy
        simp only [List.map_cons, JgX, J12]
        rw [show new + j + 1 = new + (j + 1) by omega, ih]
    · cases h
theorem Jd6 {ids : List Nat} {new m : Nat} : ∀ {n k : Nat} {out : List (Bool × TB)} {ws : List (Nat × Bool × TB)}, J5e ids new m k out = some ws → J5e ids new m (k + n) (out.drop n) = some (ws.drop n)
  | 0, k, out, ws, h => h
  | n + 1, k, [], ws, h => by injection h with h; subst h; rfl
  | n + 1, k, (s, x) :: out, ws, h => by
    simp only [J5e] at h
    split at h
    · rename_i b y l hb hy hl
      injection h with h; subst h
      have := Jd6 (n := n) hl
      rw [show k + (n + 1) = k + 1 + n by omega]
      exact this
    · cases h
theorem J6A {F : Orc} {G : TG} (hG : GOk F G) {f : FuncId} {args : List (TV × Bool)} {flex : Bool} {n : Nat} {d : Option Nat} {new : Nat} {s : TSt} {kk : TSt → Option R} {r : R}
    (hd : J4I s new n = true) (h : JaG G f args flex n d new s kk = some r) :
    ∃ xs ws es1 es args' blks v res back fresh, (J1p (args.map (·.2)) (args.map fun x => Jl (lns s.sto) x.1)).run (J9 s) = some (xs, ws) ∧
      (J1L ws (JM.entsOfL xs []) (JM.entsOfL xs [])).run (J9 s) = some es1 ∧ (J1L ws es1 es1).run (J9 s) = some es ∧ J23 (es.map Ent.id) = true ∧
      ren.renL (fun e => J0y e es 0) xs = some args' ∧ (J2f ws (fun e => J0y e es 0) es).run (J9 s) = some blks ∧ F f args' blks = some res ∧
      (if flex = true then es.length ≤ res.2.length ∧ res.2.length ≤ es.length + n else res.2.length = es.length + n) ∧ bk es new res.1 = some v ∧ J12 es new new (res.2.drop es.length) = some fresh ∧
      (J1l ws es new es res.2).run (J9 s) = some back ∧ ∃ s', put d ⟨v, ws ++ back ++ fresh⟩ (J9 s) = J9 s' ∧ kk s' = some r := by
  unfold JaG at h
  obtain ⟨xs, s1, ws, h1, f1, h⟩ := Jci (Fzd.refl s) h
  rw [List.nil_append] at f1
  split at h
  · cases h
  · rename_i i0 hi0
    split at h
    · cases h
    · rename_i i1 hi1
      split at h
      · cases h
      · rename_i ids hids
        split at h
        · rename_i hnd
          split at h
          · rename_i ys bl hys hbl
            obtain ⟨v, out, hF, hsame, h⟩ := hG.ok h
            split at h
            · rename_i hlen
              split at h
              · rename_i v' tws hv' htws
                split at h
                · rename_i hnd2
                  have e0 : JM.entsOfL (xs.map (J01 (lns s.sto))) [] = i0.map .whole := J7Q (lns s.sto) (l := []) hi0
                  have e1 := J4V f1 hi1
                  have e2 := J4V f1 hids
                  obtain ⟨bl1, bl2⟩ := Jbz hbl
                  have hL : ∀ b k, J1Y b ids 0 = some k → lns bl k = lns s.sto b := by
                    intro b k hk
                    obtain ⟨_, hk⟩ := J7S hk
                    rw [bl2 k b (by simpa using hk), f1.2.1]
                  have e3 := JeL hL hys
                  have e4 := JcP hL f1 rfl hbl
                  obtain ⟨b1, b2⟩ := JgT htws
                  have hout : ∀ (j : Nat), J86 out j = match out[j]? with
                      | some x => lnB x.2
                      | none => 0 := by
                    intro j
                    unfold J86 lns
                    rw [List.getElem?_map]
                    cases out[j]? <;> rfl
                  have hids_lt : ∀ (k b : Nat), ids[k]? = some b → b < s1.sto.length := by
                    have key : ∀ (bs : List Nat) (bl : List TB), J59 ids s1 bs = some bl → ∀ (k b : Nat), bs[k]? = some b → b < s1.sto.length := by
                      intro bs
                      induction bs with
                      | nil => intro bl _ k b hk; simp at hk
                      | cons c bs ih =>
                        intro bl hbl k b hk
                        simp only [J59] at hbl
                        split at hbl
                        · rename_i x hx
                          split at hbl
                          · rename_i y l hy hl
                            cases k with
                            | zero => simp at hk; subst hk; exact J5 hx
                            | succ k => exact ih l hl k b (by simpa using hk)
                          · cases hbl
                        · cases hbl
                    exact key ids bl hbl
                  have hslen : s1.sto.length = s.sto.length := by
                    have := congrArg (fun st => st.sto.length) f1.2.2.1
                    simpa only [J9, List.length_map, J5Q] using this
                  obtain ⟨hlenR, hlen0, hlen'⟩ := Jlc hlen
                  have hdead := J41 hd
                  have hmem : ∀ x ∈ tws, ∃ (j : Nat) (sm : Bool) (y : TB), out[j]? = some (sm, y) ∧ J2n ids new out.length j = some x.1 ∧ Jcq ids new out.length y = some x.2.2 ∧ x.2.1 = (sm && decide (j < ids.length)) := by
                    intro x hx
                    obtain ⟨j, hj⟩ := List.getElem?_of_mem hx
                    have hjl : j < out.length := by rw [← b1]; exact J5 hj
                    obtain ⟨b, y, q1, q2, q3⟩ := b2 j (out[j]'hjl).1 (out[j]'hjl).2 (List.getElem?_eq_getElem hjl)
                    rw [hj] at q3
                    injection q3 with q3
                    rw [Nat.zero_add] at q1 q3
                    exact ⟨j, _, _, List.getElem?_eq_getElem hjl, by rw [q3]; exact q1, by rw [q3]; exact q2, by rw [q3]; rfl⟩
                  have hrange : ∀ x ∈ tws, x.1 < s1.sto.length := by
                    intro x hx
                    obtain ⟨j, sm, y, q1, q2, q3, q4⟩ := hmem x hx
                    unfold J2n at q2
                    split at q2
                    · exact hids_lt j _ q2
                    · split at q2
                      · injection q2 with q2
                        rw [← q2, hslen]
                        exact J5 (hdead (j - ids.length) (by omega))
                      · cases q2
                  have hflag : ∀ x ∈ tws, x.2.1 = true → lnB x.2.2 = lns s1.sto x.1 := by
                    intro x hx hx1
                    obtain ⟨j, sm, y, q1, q2, q3, q4⟩ := hmem x hx
                    rw [q4, Bool.and_eq_true, decide_eq_true_eq] at hx1
                    obtain ⟨rfl, hj⟩ := hx1
                    rw [Jgg q3, hsame j y q1 (by rw [bl1]; exact hj)]
                    unfold J2n at q2
                    rw [if_pos hj] at q2
                    exact bl2 j _ q2
                  obtain ⟨w1, w2⟩ := JoD (Jn4 hnd2) hrange hflag
                  have hLp : ∀ k b, J2n ids new out.length k = some b → lns (J6q tws s1).sto b = J86 out k := by
                    intro k b hk
                    have hk' : k < out.length := by
                      unfold J2n at hk
                      split at hk
                      · omega
                      · split at hk
                        · assumption
                        · cases hk
                    obtain ⟨b', y, q1, q2, q3⟩ := b2 k (out[k]'hk').1 (out[k]'hk').2 (List.getElem?_eq_getElem hk')
                    rw [Nat.zero_add] at q1 q3
                    rw [q1] at hk
                    injection hk with hk
                    subst hk
                    rw [w2 _ (JH q3), Jgg q2, hout, List.getElem?_eq_getElem hk']
                  have e5 := JoM hLp hv'
                  have e6 := Jhv hLp (ws0 := ws) (st := J9 s) (j := 0) (es := ids) (out := out) (ws := tws) (fun i b hb => by rw [Nat.zero_add]; exact hb) (by omega) hlen0 htws
                  have e7 := Jht hLp (j := 0) (out := out.drop ids.length) (ws := tws.drop ids.length) (by have := Jd6 (n := ids.length) htws; rwa [Nat.zero_add, ← Nat.add_zero ids.length] at this)
                  rw [Nat.add_zero] at e7
                  refine ⟨xs.map (J01 (lns s.sto)), ws, i1.map .whole, ids.map .whole, _, _, Jl (lns (J6q tws s1).sto) v', _, _, (tws.drop ids.length).map (fun x => (x.1, JC (lns (J6q tws s1).sto) x.2.2)), h1, ?_, e2, Jig hnd, e3, e4, hF, ?_, e5, ?_, e6, JF d v' (J6q tws s1), ?_, h⟩
                  · rw [e0]; exact e1
                  · simp only [List.length_map]
                    exact hlenR
                  · simp only [List.length_map, ← List.map_drop]
                    exact e7
                  · refine J4C ?_ d v'
                    rw [w1, f1.2.2.1]
                    congr 1
                    rw [List.append_assoc, J0k, ← List.map_append, List.take_append_drop]
                · cases h
              · cases h
            · cases h
          · cases h
        · cases h
end
end Go.Am
end
section
namespace Go.Am
inductive TOp where
  | mv (x : TO)
  | mkarr (t : Ty) (x : TO)
  | pick (c a b : TO)
  | newbox (t : Ty)
  | box (t : Ty) (x : TO)
  | build (t : Ty) (parts : List (Nat × Ty × TO))
  | lits (own : Bool) (t : Ty) (n : Nat) (parts : List (Nat × TO))
  | load (agg : Bool) (t : Ty) (x : TO)
  | store (t : Ty) (x v : TO)
  | nilchk (x : TO)
  | bin (op : BinOp) (bt : TBT) (x y : TO)
  | un (op : UnOp) (x : TO)
  | conv (k : CK) (x : TO)
  | mkslice (own : Bool) (t : Ty) (bytes : Nat) (l c : TO)
  | slice (k : TSK) (x : TO) (lo hi mx : Option TO)
  | faddr (off : Nat) (x : TO)
  | field (agg : Bool) (off : Nat) (t : Ty) (x : TO)
  | iaddr (t : Ty) (x i : TO)
  | aaddr (len esz : Nat) (x i : TO)
  | sidx (x i : TO)
  | aidx (agg : Bool) (len : Nat) (t : Ty) (x i : TO)
  | extr (x : TO) (i : Nat)
  | call (f : FuncId) (args : List TO) (k : Nat)
  | callo (f : FuncId) (args : List (TO × Bool)) (k : Nat)
  | callv (g : TO) (args : List TO) (k : Nat)
  | len (str : Bool) (x : TO)
  | alen (n : Nat)
  | app (t : Ty) (bytes : Nat) (x y : TO)
  | appn (t : Ty) (bytes : Nat) (y : TO)
  | appz (t : Ty) (bytes : Nat) (x y : TO)
  | appc (t : Ty) (bytes : Nat) (x y : TO)
  | mm (mx : Bool) (x y : TO)
  | mkfn (f : FuncId) (first caps : List TO)
  | newboxo (t : Ty) (os : List (Nat × Ty))
  | buildo (t : Ty) (parts : List (Nat × Ty × TO)) (os : List (Nat × Ty))
  | storen (t : Ty) (x : TO)
def zer (t : Ty) : List PV := cel t t.zero
def erp : TOp → AOp
  | .mv x => .mv (erO x)
  | .mkarr t x => .mkarr t.sz (erO x)
  | .pick c a b => .pick (erO c) (erO a) (erO b)
  | .newbox t => .newbox (zer t)
  | .box t x => .box t.sz (erO x)
  | .build t parts => .build (zer t) (erP parts)
  | .lits own t n parts => .lits own t.sz n (zer t) (parts.map fun x => (x.1, erO x.2))
  | .load agg t x => .load agg t.sz (erO x)
  | .store t x v => .store t.sz (erO x) (erO v)
  | .nilchk x => .nilchk (erO x)
  | .bin op bt x y => .bin op (erT bt) (erO x) (erO y)
  | .un op x => .un op (erO x)
  | .conv k x => .conv k (erO x)
  | .mkslice own t bytes l c => .mkslice own t.sz bytes (zer t) (erO l) (erO c)
  | .slice k x lo hi mx => .slice (erK k) (erO x) (lo.map erO) (hi.map erO) (mx.map erO)
  | .faddr off x => .faddr off (erO x)
  | .field agg off t x => .field agg off t.sz (erO x)
  | .iaddr t x i => .iaddr t.sz (erO x) (erO i)
  | .aaddr len esz x i => .aaddr len esz (erO x) (erO i)
  | .sidx x i => .sidx (erO x) (erO i)
  | .aidx agg len t x i => .aidx agg len t.sz (erO x) (erO i)
  | .extr x i => .extr (erO x) i
  | .call f args k => .call f (args.map erO) k
  | .callo f args k => .callo f (args.map (·.2)) (args.map fun x => erO x.1) k
  | .callv g args k => .callv (erO g) (args.map erO) k
  | .len str x => .len str (erO x)
  | .alen n => .alen n
  | .app t bytes x y => .app t.sz bytes (zer t) (erO x) (erO y)
  | .appn t bytes y => .appn t.sz bytes (zer t) (erO y)
  | .appz t bytes x y => .appz t.sz bytes (zer t) (erO x) (erO y)
  | .appc t bytes x y => .appc t.sz bytes (zer t) (erO x) (erO y)
  | .mm mx x y => .mm mx (erO x) (erO y)
  | .mkfn f first caps => .mkfn f (first.map erO) (caps.map erO)
  | .newboxo t os => .newboxo (zer t) (J50 os)
  | .buildo t parts os => .buildo (zer t) (erP parts) (J50 os)
  | .storen t x => .storen t.sz (erO x)
def J0f : TOp → Nat
  | .newbox _ | .box _ _ | .mkarr _ _ | .appn _ _ _ | .appc _ _ _ _ => 1
  | .lits own _ _ _ => if own = true then 1 else 0
  | .mkslice own _ _ _ _ => if own = true then 1 else 0
  | .conv (.toBytes own) _ => if own = true then 1 else 0
  | .call _ _ k | .callv _ _ k | .callo _ _ k => k
  | .newboxo _ os => os.length + 1
  | .buildo _ _ os => os.length
  | .storen _ _ => 1
  | _ => 0
theorem J8A (op : TOp) : J2s (erp op) = J0f op := by
  cases op <;> try rfl
  · rename_i k x; cases k <;> rfl
  · simp [erp, J2s, J0f, J50]
  · simp [erp, J2s, J0f, J50]
def J9M : List (TO × Bool) → TSt → Option (List (TV × Bool))
  | [], _ => some []
  | (o, x) :: r, s => match tev o s, J9M r s with
    | some v, some l => some ((v, x) :: l)
    | _, _ => none
theorem J5N {s : TSt} : ∀ {xs : List (TO × Bool)} {l : List (TV × Bool)}, J9M xs s = some l →
    (evs (xs.map fun x => erO x.1)).run (J9 s) = some (l.map fun x => Jl (lns s.sto) x.1) ∧ l.map (·.2) = xs.map (·.2)
  | [], l, h => by injection h with h; subst h; exact ⟨rfl, rfl⟩
  | (o, x) :: q, l, h => by
    simp only [J9M] at h
    split at h
    · rename_i v l' hv hl
      injection h with h; subst h
      obtain ⟨h1, h2⟩ := J5N hl
      exact ⟨by simp only [List.map_cons, evs, run_bind, Jq hv, Option.bind_some, h1, Je], by simp [h2]⟩
    · cases h
section
variable {R : Type}
def top (G : TG) (op : TOp) (d : Option Nat) (new : Nat) (s : TSt) (k : TSt → Option R) : Option R :=
  match op with
  | .mv x => match tev x s with
    | some v => k (JF d v s)
    | none => none
  | .mkarr t _ => JlH t d new s k
  | .pick c a b => match tev c s with
    | some (.a (.c (.d .b x))) => Jkj x (tev a s) (tev b s) fun v => k (JF d v s)
    | _ => none
  | .newbox t => JiU t d new s k
  | .box t x => match tev x s with
    | some v => Jmy t v d new s k
    | none => none
  | .build t parts => JgQ t parts d s k
  | .lits own t n parts => JjQ own t n parts d new s k
  | .load agg t x => match tev x s with
    | some v => Jk1 agg t v d s k
    | none => none
  | .store t x y => match tev x s, tev y s with
    | some v, some u => JgF t v u d s k
    | _, _ => none
  | .nilchk x => match tev x s with
    | some v => Jma v fun v => k (JF d v s)
    | none => none
  | .bin op bt x y => match tev x s, tev y s with
    | some v, some u => JmP op bt v u fun v => k (JF d v s)
    | _, _ => none
  | .un op x => match tev x s with
    | some v => tUn op v fun v => k (JF d v s)
    | none => none
  | .conv c x => match tev x s with
    | some v => Jjx c v d new s k
    | none => none
  | .mkslice own t bytes l c => match tev l s, tev c s with
    | some v, some u => Jce own t bytes v u d new s k
    | _, _ => none
  | .slice kd x lo hi mx => match tev x s, tbn lo s, tbn hi s, tbn mx s with
    | some v, some a, some b, some c => Jhs kd v a b c d s k
    | _, _, _, _ => none
  | .faddr off x => match tev x s with
    | some v => JgN off v fun v => k (JF d v s)
    | none => none
  | .field agg off t x => match tev x s with
    | some v => Jhq agg off t v d s k
    | none => none
  | .iaddr t x i => match tev x s, tev i s with
    | some v, some u => Jgy t v u s fun v => k (JF d v s)
    | _, _ => none
  | .aaddr len esz x i => match tev x s, tev i s with
    | some v, some u => Jg6 len esz v u fun v => k (JF d v s)
    | _, _ => none
  | .sidx x i => match tev x s, tev i s with
    | some v, some u => Jkw v u fun v => k (JF d v s)
    | _, _ => none
  | .aidx agg len t x i => match tev x s, tev i s with
    | some v, some u => Jko agg len t v u d s k
    | _, _ => none
  | .extr x i => match tev x s with
    | some v => Jk6 v i fun v => k (JF d v s)
    | none => none
  | .call f args n => match J9M (args.map fun x => (x, false)) s with
    | some l => JaG G f l false n d new s k
    | none => none
  | .callo f args n => match J9M args s with
    | some l => JaG G f l true n d new s k
    | none => none
  | .callv g args n => match tev g s, J9M (args.map fun x => (x, false)) s with
    | some (.a (.fn f a c)), some l => JaG G f (a.map (fun x => (.a (.c x), false)) ++ l ++ c.map (fun x => (.a (.c x), false))) false n d new s k
    | some (.a (.c (.fn f))), some l => JaG G f l false n d new s k
    | _, _ => none
  | .len str x => match tev x s with
    | some v => Jm6 str v s fun v => k (JF d v s)
    | none => none
  | .alen n => k (JF d (vi .i64 n) s)
  | .app t bytes x y => match tev x s, tev y s with
    | some v, some u => Jjv t bytes v u d s k
    | _, _ => none
  | .appn t bytes y => match tev y s with
    | some u => JkD t bytes u d new s k
    | none => none
  | .appz t bytes x y => match tev x s, tev y s with
    | some v, some u => Jk3 t bytes v u d s k
    | _, _ => none
  | .appc t bytes x y => match tev x s, tev y s with
    | some v, some u => JjC t bytes v u d new s k
    | _, _ => none
  | .mm mx x y => match tev x s, tev y s with
    | some v, some u => tMm mx v u fun v => k (JF d v s)
    | _, _ => none
  | .mkfn f first caps => match tcl first s, tcl caps s with
    | some a, some c => k (JF d (.a (.fn f a c)) s)
    | _, _ => none
  | .newboxo t os => Jcg t os d new s k
  | .buildo t parts os => Je9 t parts os d new s k
  | .storen t x => match tev x s with
    | some v => JdR t v d new s k
    | none => none
theorem JbV {F : Orc} {f : FuncId} {vs xs args' : List AV} {ws : List (Nat × Blk)} {es1 es : List Ent} {blks : List Blk} {v : AV} {res : Res} {back fresh : List (Nat × Blk)} {n new : Nat} {st : St}
    (h1 : (J3o vs).run st = some (xs, ws)) (h2 : (J1L ws (JM.entsOfL xs []) (JM.entsOfL xs [])).run st = some es1) (h3 : (J1L ws es1 es1).run st = some es) (h4 : J23 (es.map Ent.id) = true)
    (h5 : ren.renL (fun e => J0y e es 0) xs = some args') (h6 : (J2f ws (fun e => J0y e es 0) es).run st = some blks) (h7 : F f args' blks = some res) (h8 : res.2.length = es.length + n)
    (h9 : bk es new res.1 = some v) (h10 : J12 es new new (res.2.drop es.length) = some fresh) (h11 : (J1l ws es new es res.2).run st = some back) :
    (J2p F f vs n new).run st = some ⟨v, ws ++ back ++ fresh⟩ := by
  simp only [J2p, run_bind, h1, h2, h3, h4, h5, h6, h7, if_pos h8, h9, h10, h11, Option.bind_some, if_true, Je]
theorem Jlk {F : Orc} {f : FuncId} {xs args' : List AV} {ws : List (Nat × Blk)} {es1 es : List Ent} {blks : List Blk} {v : AV} {res : Res} {back fresh : List (Nat × Blk)} {n new : Nat} {st : St}
    (h2 : (J1L ws (JM.entsOfL xs []) (JM.entsOfL xs [])).run st = some es1) (h3 : (J1L ws es1 es1).run st = some es) (h4 : J23 (es.map Ent.id) = true)
    (h5 : ren.renL (fun e => J0y e es 0) xs = some args') (h6 : (J2f ws (fun e => J0y e es 0) es).run st = some blks) (h7 : F f args' blks = some res) (h8 : es.length ≤ res.2.length ∧ res.2.length ≤ es.length + n)
    (h9 : bk es new res.1 = some v) (h10 : J12 es new new (res.2.drop es.length) = some fresh) (h11 : (J1l ws es new es res.2).run st = some back) :
    (J17 F f (xs, ws) n new).run st = some ⟨v, ws ++ back ++ fresh⟩ := by
  simp only [J17, run_bind, h2, h3, h4, h5, h6, h7, if_pos h8, h9, h10, h11, Option.bind_some, if_true, Je]
theorem J91 (args : List TO) : (args.map fun x => (x, false)).map (fun x : TO × Bool => erO x.1) = args.map erO := by
  rw [List.map_map]; rfl
theorem Jql {F : Orc} {G : TG} (hG : GOk F G) {op : TOp} {d : Option Nat} {new : Nat} {s : TSt} {k : TSt → Option R} {r : R} (hd : J4I s new (J0f op) = true) (h : top G op d new s k = some r) : Ok (opR F (erp op) new) d s k r := by
  have hlt : ∀ j, j < J0f op → new + j < s.sto.length := fun j hj => J5 (J41 hd j hj)
  unfold top at h
  split at h
  · split at h
    · rename_i x _ v hv
      refine J0C (v := v) ?_ h
      simp only [erp, opR, run_bind, Jq hv, Option.bind_some, Je]
    · cases h
  · exact JlX F (by have := hlt 0 (by simp [J0f]); simpa using this) h
  · split at h
    · rename_i hc
      exact Jmb F hc h
    · cases h
  · exact JjH F (by have := J41 hd 0 (by simp [J0f]); simpa using this) h
  · split at h
    · rename_i hv
      exact Jog F (by have := J41 hd 0 (by simp [J0f]); simpa using this) hv h
    · cases h
  · exact JkS F new h
  · rename_i own t n parts
    exact JmN F (fun ho => by have := hlt 0 (by simp [J0f, ho]); simpa using this) h
  · split at h
    · rename_i hv
      obtain ⟨e, s', h1, h2, h3⟩ := JnT h
      exact ⟨e, s', by simp only [erp, opR, run_bind, Jq hv, Option.bind_some, h1], h2, h3⟩
    · cases h
  · split at h
    · rename_i hv hu
      obtain ⟨e, s', h1, h2, h3⟩ := JkX h
      exact ⟨e, s', by simp only [erp, opR, run_bind, Jq hv, Jq hu, Option.bind_some, h1], h2, h3⟩
    · cases h
  · split at h
    · rename_i hv
      exact JoK F hv h
    · cases h
  · split at h
    · rename_i hv hu
      obtain ⟨e, s', h1, h2, h3⟩ := (JoP h).ok
      exact ⟨e, s', by simp only [erp, opR, run_bind, Jq hv, Jq hu, Option.bind_some, h1], h2, h3⟩
    · cases h
  · split at h
    · rename_i hv
      obtain ⟨e, s', h1, h2, h3⟩ := (Jqd h).ok
      exact ⟨e, s', by simp only [erp, opR, run_bind, Jq hv, Option.bind_some, h1], h2, h3⟩
    · cases h
  · split at h
    · rename_i hv
      exact JmU F hv (fun ho => by subst ho; have := hlt 0 (by simp [J0f]); simpa using this) h
    · cases h
  · split at h
    · rename_i hv hu
      exact Ji6 F hv hu (fun ho => by have := hlt 0 (by simp [J0f, ho]); simpa using this) h
    · cases h
  · split at h
    · rename_i h1 h2 h3 h4
      exact JlA F h1 h2 h3 h4 h
    · cases h
  · split at h
    · rename_i hv
      obtain ⟨e, s', h1, h2, h3⟩ := (JlV h).ok
      exact ⟨e, s', by simp only [erp, opR, run_bind, Jq hv, Option.bind_some, h1], h2, h3⟩
    · cases h
  · split at h
    · rename_i hv
      obtain ⟨e, s', h1, h2, h3⟩ := JlP h
      exact ⟨e, s', by simp only [erp, opR, run_bind, Jq hv, Option.bind_some, h1], h2, h3⟩
    · cases h
  · split at h
    · rename_i hv hu
      obtain ⟨e, s', h1, h2, h3⟩ := JlQ h
      exact ⟨e, s', by simp only [erp, opR, run_bind, Jq hv, Jq hu, Option.bind_some, h1], h2, h3⟩
    · cases h
  · split at h
    · rename_i hv hu
      obtain ⟨e, s', h1, h2, h3⟩ := (Jm1 h).ok
      exact ⟨e, s', by simp only [erp, opR, run_bind, Jq hv, Jq hu, Option.bind_some, h1], h2, h3⟩
    · cases h
  · split at h
    · rename_i hv hu
      exact JnB F hv hu h
    · cases h
  · split at h
    · rename_i hv hu
      exact JmW F hv hu h
    · cases h
  · split at h
    · rename_i hv
      obtain ⟨e, s', h1, h2, h3⟩ := (Jmg h).ok
      exact ⟨e, s', by simp only [erp, opR, run_bind, Jq hv, Option.bind_some, h1], h2, h3⟩
    · cases h
  · rename_i f args n
    split at h
    · rename_i l hl
      obtain ⟨e1, e2⟩ := J5N hl
      rw [J91] at e1
      obtain ⟨xs, ws, es1, es, args', blks, v, res, back, fresh, q1, q2, q3, q4, q5, q6, q7, q8, q9, q10, q11, s', q12, q13⟩ := J6A hG hd h
      rw [J4z _ _ (fun x hx => by
        rw [e2, List.map_map] at hx
        obtain ⟨y, _, rfl⟩ := List.mem_map.1 hx
        rfl)] at q1
      refine ⟨_, s', ?_, q12, q13⟩
      simp only [erp, opR, run_bind, e1, Option.bind_some]
      exact JbV q1 q2 q3 q4 q5 q6 q7 (by simpa [J0f] using q8) q9 q10 q11
    · cases h
  · rename_i f args n
    split at h
    · rename_i l hl
      obtain ⟨e1, e2⟩ := J5N hl
      obtain ⟨xs, ws, es1, es, args', blks, v, res, back, fresh, q1, q2, q3, q4, q5, q6, q7, q8, q9, q10, q11, s', q12, q13⟩ := J6A hG hd h
      rw [e2] at q1
      refine ⟨_, s', ?_, q12, q13⟩
      simp only [erp, opR, run_bind, e1, Option.bind_some, q1]
      exact Jlk q2 q3 q4 q5 q6 q7 (by simpa [J0f] using q8) q9 q10 q11
    · cases h
  · rename_i g args n
    split at h
    · rename_i f a c l hg hl
      obtain ⟨e1, e2⟩ := J5N hl
      rw [J91] at e1
      obtain ⟨xs, ws, es1, es, args', blks, v, res, back, fresh, q1, q2, q3, q4, q5, q6, q7, q8, q9, q10, q11, s', q12, q13⟩ := J6A hG hd h
      have e4 : ∀ z : List TC, (z.map (fun x => ((TV.a (.c x), false) : TV × Bool))).map (fun x => Jl (lns s.sto) x.1) = z.map (Jm (lns s.sto)) := fun z => by rw [List.map_map]; rfl
      rw [J4z _ _ (fun x hx => by
        simp only [List.map_append, List.map_map, List.mem_append, List.mem_map] at hx
        rcases hx with (⟨y, _, rfl⟩ | hx) | ⟨y, _, rfl⟩
        · rfl
        · obtain ⟨y, hy, rfl⟩ := hx
          have hm : y.2 ∈ l.map (·.2) := List.mem_map.2 ⟨y, hy, rfl⟩
          rw [e2, List.map_map] at hm
          obtain ⟨z, _, hz⟩ := List.mem_map.1 hm
          rw [← hz]
          rfl
        · rfl), List.map_append, List.map_append, e4, e4] at q1
      refine ⟨_, s', ?_, q12, q13⟩
      simp only [erp, opR, run_bind, Jq hg, Option.bind_some, Jmc, e1]
      exact JbV q1 q2 q3 q4 q5 q6 q7 (by simpa [J0f] using q8) q9 q10 q11
    · rename_i f l hg hl
      obtain ⟨e1, e2⟩ := J5N hl
      rw [J91] at e1
      obtain ⟨xs, ws, es1, es, args', blks, v, res, back, fresh, q1, q2, q3, q4, q5, q6, q7, q8, q9, q10, q11, s', q12, q13⟩ := J6A hG hd h
      rw [J4z _ _ (fun x hx => by
        rw [e2, List.map_map] at hx
        obtain ⟨y, _, rfl⟩ := List.mem_map.1 hx
        rfl)] at q1
      refine ⟨_, s', ?_, q12, q13⟩
      simp only [erp, opR, run_bind, Jq hg, Option.bind_some, Jqt, e1, List.nil_append, List.append_nil]
      exact JbV q1 q2 q3 q4 q5 q6 q7 (by simpa [J0f] using q8) q9 q10 q11
    · cases h
  · split at h
    · rename_i hv
      obtain ⟨e, s', h1, h2, h3⟩ := (Jpx h).ok
      exact ⟨e, s', by simp only [erp, opR, run_bind, Jq hv, Option.bind_some, h1], h2, h3⟩
    · cases h
  · rename_i n
    exact J0C (v := vi .i64 n) rfl h
  · split at h
    · rename_i hv hu
      obtain ⟨e, s', h1, h2, h3⟩ := Jis h
      exact ⟨e, s', by simp only [erp, opR, run_bind, Jq hv, Jq hu, Option.bind_some, h1], h2, h3⟩
    · cases h
  · split at h
    · rename_i hu
      exact Jmm F hu (by have := hlt 0 (by simp [J0f]); simpa using this) h
    · cases h
  · split at h
    · rename_i hv hu
      exact Jnx F hv hu h
    · cases h
  · split at h
    · rename_i hv hu
      exact JmB F hv hu (by have := hlt 0 (by simp [J0f]); simpa using this) h
    · cases h
  · split at h
    · rename_i hv hu
      obtain ⟨e, s', h1, h2, h3⟩ := (Jqk h).ok
      exact ⟨e, s', by simp only [erp, opR, run_bind, Jq hv, Jq hu, Option.bind_some, h1], h2, h3⟩
    · cases h
  · rename_i f first caps
    split at h
    · rename_i a c ha hc
      refine J0C (v := .a (.fn f a c)) ?_ h
      simp only [erp, opR, run_bind, Jhj ha, Jhj hc, Option.bind_some, Jmc, Je]
    · cases h
  · exact JhZ F hd h
  · exact Jku F hd h
  · split at h
    · rename_i hv
      exact Jkg F (by have := J41 hd 0 (by simp [J0f]); simpa using this) hv h
    · cases h
structure J4Y where
  op : TOp
  dst : Option Nat
  g : Option (Nat × Bool)
def eri (i : J4Y) : J0h := ⟨erp i.op, i.dst, i.g⟩
def rbE (g : Nat) (v : TV) : List (Nat × TV) → List (Nat × TV)
  | [] => []
  | (m, u) :: r => if m = g then (m, v) :: r else (m, u) :: rbE g v r
def rb (g : Nat) (v : TV) (s : TSt) : TSt := ⟨rbE g v s.env, s.sto⟩
theorem JhR {g : Nat} {v : TV} {s : TSt} (h : tlk g s.env = some v) : rb g v s = s := by
  have key : ∀ env : List (Nat × TV), tlk g env = some v → rbE g v env = env := by
    intro env
    induction env with
    | nil => intro h; cases h
    | cons x r ih =>
      intro h
      obtain ⟨m, u⟩ := x
      simp only [tlk] at h
      simp only [rbE]
      split at h
      · rename_i e; injection h with h; subst e h; simp
      · rename_i e; rw [if_neg (fun e' => e e'.symm), ih h]
  unfold rb
  rw [key _ h]
def JjY (G : TG) (i : J4Y) (new : Nat) (s : TSt) (k : TSt → Option R) : Option R :=
  match i.g with
  | none => if J4I s new (J0f i.op) = true then top G i.op i.dst new s k else none
  | some (g, want) => match tlk g s.env with
    | some (.a (.c (.d .b x))) => if x = want then
        (if J4I s new (J0f i.op) = true then top G i.op i.dst new (rb g (vb want) s) k else none)
      else k (JF i.dst uv (rb g (vb !want) s))
    | some (.tup []) => k (JF i.dst uv s)
    | _ => none
theorem JiO {F : Orc} {G : TG} (hG : GOk F G) {i : J4Y} {new : Nat} {s : TSt} {k : TSt → Option R} {r : R} (h : JjY G i new s k = some r) : Ok (J0e F (eri i) new) i.dst s k r := by
  have hop : ∀ {s : TSt}, J4I s new (J0f i.op) = true → top G i.op i.dst new s k = some r → Ok (opD F (erp i.op) new) i.dst s k r := by
    intro s hd h
    obtain ⟨e, s', h1, h2, h3⟩ := Jql hG hd h
    refine ⟨e, s', ?_, h2, h3⟩
    simp only [opD, run_bind, J8A, Jge hd, Option.bind_some, h1]
  unfold JjY at h
  split at h
  · rename_i hg
    split at h
    · rename_i hd
      obtain ⟨e, s', h1, h2, h3⟩ := hop hd h
      refine ⟨e, s', ?_, h2, h3⟩
      simp only [J0e, eri, hg]
      exact h1
    · cases h
  · rename_i g want hg
    split at h
    · rename_i x hx
      have hl : lk g (J9 s).env = some (.p (.b x)) := by
        show lk g (J1W _ s.env) = _
        rw [J7s, hx]; rfl
      split at h
      · rename_i hw
        subst hw
        rw [JhR hx] at h
        split at h
        · rename_i hd
          obtain ⟨e, s', h1, h2, h3⟩ := hop hd h
          refine ⟨e, s', ?_, h2, h3⟩
          simp only [J0e, eri, hg, J3U, hl, Option.bind_some, if_true]
          exact h1
        · cases h
      · rename_i hw
        have hx' : x = !want := by clear hl hx h; cases x <;> cases want <;> first | rfl | exact absurd rfl hw
        subst hx'
        rw [JhR hx] at h
        refine J0C (v := uv) ?_ h
        simp only [J0e, eri, hg, J3U, hl, Option.bind_some]
        rw [if_neg hw]; rfl
    · rename_i hx
      have hl : lk g (J9 s).env = some (.tup []) := by
        show lk g (J1W _ s.env) = _
        rw [J7s, hx]; rfl
      refine J0C (v := uv) ?_ h
      simp only [J0e, eri, hg, J3U, hl, Option.bind_some, Je]; rfl
    · cases h
def Jks (G : TG) : List J4Y → Nat → TSt → (TSt → Option R) → Option R
  | [], _, s, k => k s
  | i :: r, new, s, k => JjY G i new s fun s => Jks G r (new + J0f i.op) s k
theorem Jj9 {F : Orc} {G : TG} (hG : GOk F G) : ∀ {ins : List J4Y} {new : Nat} {s : TSt} {k : TSt → Option R} {r : R}, Jks G ins new s k = some r → ∃ s', J1d F (ins.map eri) new (J9 s) = some (J9 s') ∧ k s' = some r
  | [], new, s, k, r, h => ⟨s, rfl, h⟩
  | i :: q, new, s, k, r, h => by
    simp only [Jks] at h
    obtain ⟨e, s1, h1, h2, h⟩ := JiO hG h
    obtain ⟨s2, h3, h4⟩ := Jj9 hG h
    refine ⟨s2, ?_, h4⟩
    simp only [List.map_cons, J1d, h1]
    rw [show put (eri i).dst e (J9 s) = J9 s1 from h2, show J2s (eri i).op = J0f i.op from J8A _, h3]
def JdA : List J4Y → Nat
  | [] => 0
  | i :: r => J0f i.op + JdA r
theorem JbM : ∀ ins : List J4Y, news (ins.map eri) = JdA ins
  | [] => rfl
  | i :: r => by
    simp only [List.map_cons, news, JdA, JbM r]
    rw [show J2s (eri i).op = J0f i.op from J8A _]
def Jg3 (n : Nat) (s : TSt) : TSt := if n = 0 then s else ⟨s.env, s.sto ++ List.replicate n .dead⟩
theorem Jh8 (sto : List TB) (n : Nat) : lns (sto ++ List.replicate n .dead) = lns sto := by
  funext c
  unfold lns
  rcases Nat.lt_or_ge c sto.length with h | h
  · rw [List.getElem?_append_left h]
  · rw [List.getElem?_append_right h, List.getElem?_eq_none h, List.getElem?_replicate]
    split <;> rfl
theorem Jgm (n : Nat) (s : TSt) : J9 (Jg3 n s) = ⟨(J9 s).env, room n (J9 s).sto⟩ := by
  unfold Jg3 room
  split
  · rfl
  · unfold J9
    rw [Jh8]
    simp only [List.map_append, List.map_replicate]
    rfl
end
end Go.Am
end
section
namespace Go.Am
def Rb {α : Type} (S : Nat → Prop) (m : RM α) (st : St) : Prop := ∀ b, Loc.blk b ∈ m.reads st → S b
section
variable {α β : Type} {S : Nat → Prop} {st : St}
theorem Ju (a : α) : Rb S (.ret a) st := fun b h => by simp [RM.reads] at h
theorem Jj : Rb S (.fail : RM α) st := fun b h => by simp [RM.reads] at h
theorem Jo {m : RM α} {f : α → RM β} (h : Rb S m st) (hf : ∀ a, m.run st = some a → Rb S (f a) st) : Rb S (m.bind f) st := by
  intro b hb
  rw [J2L] at hb
  rcases List.mem_append.1 hb with hb | hb
  · exact h b hb
  · cases hm : m.run st with
    | none => rw [hm] at hb; simp at hb
    | some a => rw [hm] at hb; exact hf a hm b (by simpa using hb)
theorem J3S {b : Nat} {k : Blk → RM α} (hb : S b) (h : ∀ v, st.sto[b]? = some v → Rb S (k v) st) : Rb S (.blk b k) st := by
  intro c hc
  simp only [RM.reads, List.mem_cons] at hc
  rcases hc with hc | hc
  · injection hc with hc; subst hc; exact hb
  · cases hv : st.sto[b]? with
    | none => rw [hv] at hc; simp at hc
    | some v => rw [hv] at hc; exact h v hv c hc
theorem Jja {n : Nat} {k : AV → RM α} (h : ∀ v, lk n st.env = some v → Rb S (k v) st) : Rb S (.slot n k) st := by
  intro c hc
  simp only [RM.reads, List.mem_cons] at hc
  rcases hc with hc | hc
  · cases hc
  · cases hv : lk n st.env with
    | none => rw [hv] at hc; simp at hc
    | some v => rw [hv] at hc; exact h v hv c hc
theorem JdB (x : Option AV) : Rb S (val x) st := by cases x <;> first | exact Jj | exact Ju _
theorem J3s (x : Opd) : Rb S (ev x) st := by cases x <;> first | exact Ju _ | exact Jja fun v _ => Ju v
theorem JhL : ∀ xs : List Opd, Rb S (evs xs) st
  | [] => Ju _
  | x :: r => Jo (J3s x) fun v _ => Jo (JhL r) fun vs _ => Ju _
theorem JhA (x : Option Opd) : Rb S (evo x) st := by
  cases x with
  | none => exact Ju _
  | some x => exact Jo (J3s x) fun v _ => Ju _
end
def J2t : AV → List Nat
  | .ptr b _ => [b]
  | .slr b _ _ => [b]
  | .ep b _ _ _ => [b]
  | _ => []
def avR : AV → List Nat
  | .agg cs => cs.flatMap J2t
  | x => J2t x
section
variable {S : Nat → Prop} {st : St}
theorem JpP {x : AV} (h : ∀ b ∈ J2t x, S b) : Rb S (fz.fz1 x) st := by
  cases x with
  | slr b i n =>
    refine J3S (h b (by simp [J2t])) fun v _ => ?_
    cases v with
    | arr w esz rows => dsimp only; split <;> first | exact Ju _ | exact Jj
    | _ => exact Jj
  | p c => exact Ju _
  | _ => exact Jj
theorem JkO : ∀ {xs : List AV}, (∀ b ∈ xs.flatMap J2t, S b) → Rb S (fz.fzL xs) st
  | [], _ => Ju _
  | x :: r, h => Jo (JpP fun b hb => h b (by simp [hb])) fun a _ => Jo (JkO fun b hb => h b (by simp only [List.flatMap_cons, List.mem_append]; exact .inr hb)) fun c _ => Ju _
theorem JcH {x : AV} (h : ∀ b ∈ avR x, S b) : Rb S (fz x) st := by
  cases x with
  | slr b i n =>
    refine J3S (h b (by simp [avR, J2t])) fun v _ => ?_
    cases v with
    | arr w esz rows => dsimp only; split <;> first | exact Ju _ | exact Jj
    | _ => exact Jj
  | p c => exact Ju _
  | data cs => exact Ju _
  | agg cs => exact JkO h
  | _ => exact Jj
theorem Jq5 {x : AV} {a : List PV × List (Nat × Blk)} (h : (fz.fz1 x).run st = some a) : ∀ y ∈ a.2, y.1 ∈ J2t x := by
  cases x with
  | slr b i n =>
    simp only [fz.fz1, J0g] at h
    obtain ⟨v, _, h⟩ := Option.bind_eq_some_iff.1 h
    cases v with
    | arr w esz rows =>
      dsimp only at h
      split at h
      · injection h with h; subst h; simp [J2t]
      · cases h
    | _ => cases h
  | p c => injection h with h; subst h; simp
  | _ => cases h
theorem Jl4 : ∀ {xs : List AV} {a : List PV × List (Nat × Blk)}, (fz.fzL xs).run st = some a → ∀ y ∈ a.2, y.1 ∈ xs.flatMap J2t
  | [], a, h, y, hy => by injection h with h; subst h; simp at hy
  | x :: r, a, h, y, hy => by
    simp only [fz.fzL] at h
    obtain ⟨c, h1, h⟩ := bind_some h
    obtain ⟨e, h2, h⟩ := bind_some h
    injection h with h; subst h
    simp only [List.mem_append] at hy
    simp only [List.flatMap_cons, List.mem_append]
    rcases hy with hy | hy
    · exact .inl (Jq5 h1 y hy)
    · exact .inr (Jl4 h2 y hy)
theorem Jdg {x : AV} {a : List PV × List (Nat × Blk)} (h : (fz x).run st = some a) : ∀ y ∈ a.2, y.1 ∈ avR x := by
  cases x with
  | slr b i n =>
    simp only [fz, J0g] at h
    obtain ⟨v, _, h⟩ := Option.bind_eq_some_iff.1 h
    cases v with
    | arr w esz rows =>
      dsimp only at h
      split at h
      · injection h with h; subst h; simp [avR, J2t]
      · cases h
    | _ => cases h
  | p c => injection h with h; subst h; simp
  | data cs => injection h with h; subst h; simp
  | agg cs => exact Jl4 h
  | _ => cases h
theorem JeD {esz : Nat} {x : AV} (h : ∀ b ∈ avR x, S b) : Rb S (J0U esz x) st := by
  unfold J0U
  split
  · split <;> first | exact Ju _ | exact Jj
  · split <;> first | exact Ju _ | exact Jj
  · refine J3S (h _ (by simp [avR, J2t])) fun v _ => ?_
    split
    · split <;> first | exact Ju _ | exact Jj
    · exact Jj
  · exact Jj
theorem Jpq {agg : Bool} {size : Nat} {x : AV} (h : ∀ b ∈ avR x, S b) : Rb S (J1U agg size x) st := by
  unfold J1U
  split
  · split <;> first | exact JdB _ | exact Jj
  · refine J3S (h _ (by simp [avR, J2t])) fun v _ => ?_
    split
    · split <;> first | exact JdB _ | exact Jj
    · exact Jj
  · refine J3S (h _ (by simp [avR, J2t])) fun v _ => ?_
    split
    · split
      · split
        · split <;> first | exact JdB _ | exact Jj
        · exact Jj
      · exact Jj
    · exact Jj
  · exact Jj
theorem Jdj {x : Option AV} {e : Eff} (h : (val x).run st = some e) : e.ws = [] := by
  cases x with
  | none => cases h
  | some v => injection h with h; subst h; rfl
theorem Jon {agg : Bool} {size : Nat} {x : AV} {e : Eff} (h : (J1U agg size x).run st = some e) : e.ws = [] := by
  unfold J1U at h
  split at h
  · split at h <;> first | exact Jdj h | cases h
  · simp only [J0g] at h
    obtain ⟨v, _, h⟩ := Option.bind_eq_some_iff.1 h
    split at h
    · split at h <;> first | exact Jdj h | cases h
    · cases h
  · simp only [J0g] at h
    obtain ⟨v, _, h⟩ := Option.bind_eq_some_iff.1 h
    split at h
    · split at h
      · split at h
        · split at h <;> first | exact Jdj h | cases h
        · cases h
      · cases h
    · cases h
  · cases h
theorem JnI {size : Nat} {x v : AV} (h : ∀ b ∈ avR x, S b) (hv : ∀ b ∈ avR v, S b) : Rb S (J1H size x v) st := by
  unfold J1H
  split
  · refine J3S (h _ (by simp [avR, J2t])) fun y _ => ?_
    split
    · split
      · split
        · split <;> first | exact Ju _ | exact Jj
        · exact Jj
      · exact Jj
    · exact Jj
  · refine J3S (h _ (by simp [avR, J2t])) fun y _ => ?_
    split
    · split
      · split
        · refine Jo (JcH hv) fun a _ => ?_
          split
          · split <;> first | exact Ju _ | exact Jj
          · exact Jj
        · exact Jj
      · exact Jj
    · exact Jj
  · exact Jj
theorem JnD {size : Nat} {x v : AV} {e : Eff} (h : (J1H size x v).run st = some e) : ∀ y ∈ e.ws, y.1 ∈ avR x ++ avR v := by
  unfold J1H at h
  split at h
  · simp only [J0g] at h
    obtain ⟨w, _, h⟩ := Option.bind_eq_some_iff.1 h
    split at h
    · split at h
      · split at h
        · split at h
          · injection h with h; subst h; simp [avR, J2t]
          · cases h
        · cases h
      · cases h
    · cases h
  · simp only [J0g] at h
    obtain ⟨w, _, h⟩ := Option.bind_eq_some_iff.1 h
    split at h
    · split at h
      · split at h
        · obtain ⟨a, h1, h⟩ := bind_some h
          split at h
          · split at h
            · injection h with h; subst h
              intro y hy
              simp only [List.mem_append, List.mem_singleton] at hy ⊢
              rcases hy with hy | rfl
              · exact .inr (Jdg h1 y hy)
              · exact .inl (by simp [avR, J2t])
            · cases h
          · cases h
        · cases h
      · cases h
    · cases h
  · cases h
theorem Jmq {esz : Nat} {x i : AV} (h : ∀ b ∈ avR x, S b) : Rb S (J3b esz x i) st := by
  unfold J3b
  split
  · split
    · split <;> first | exact Ju _ | exact Jj
    · exact Jj
  · refine J3S (h _ (by simp [avR, J2t])) fun v _ => ?_
    split
    · split <;> first | exact Ju _ | exact Jj
    · exact Jj
  · exact Jj
theorem Jn1 {esz : Nat} {x i : AV} {e : Eff} (h : (J3b esz x i).run st = some e) : e.ws = [] := by
  unfold J3b at h
  split at h
  · split at h
    · split at h
      · injection h with h; subst h; rfl
      · cases h
    · cases h
  · simp only [J0g] at h
    obtain ⟨v, _, h⟩ := Option.bind_eq_some_iff.1 h
    split at h
    · split at h
      · injection h with h; subst h; rfl
      · cases h
    · cases h
  · cases h
theorem JpF {esz bytes : Nat} {x y : AV} (h : ∀ b ∈ avR x, S b) (hy : ∀ b ∈ avR y, S b) : Rb S (J3Q esz bytes x y) st := by
  unfold J3Q
  split
  · refine J3S (h _ (by simp [avR, J2t])) fun v _ => ?_
    split
    · refine Jo (JeD hy) fun new _ => ?_
      split <;> first | exact Ju _ | exact Jj
    · exact Jj
  · exact Jj
theorem Jqf {esz bytes : Nat} {x y : AV} {e : Eff} (h : (J3Q esz bytes x y).run st = some e) : ∀ z ∈ e.ws, z.1 ∈ avR x := by
  unfold J3Q at h
  split at h
  · simp only [J0g] at h
    obtain ⟨v, _, h⟩ := Option.bind_eq_some_iff.1 h
    split at h
    · obtain ⟨new, _, h⟩ := bind_some h
      split at h
      · injection h with h; subst h; simp [avR, J2t]
      · cases h
    · cases h
  · cases h
theorem JiM : ∀ {k new : Nat}, (∀ j, j < k → S (new + j)) → Rb S (J6O new k) st
  | 0, _, _ => Ju _
  | k + 1, new, h => J3S (h 0 (by omega)) fun v _ => by
      cases v with
      | dead => exact JiM fun j hj => by have := h (j + 1) (by omega); rwa [Nat.add_comm j 1, ← Nat.add_assoc] at this
      | _ => exact Jj
theorem Jle : ∀ {xs : List Opd}, (∀ x ∈ xs, ∀ v, (ev x).run st = some v → ∀ b ∈ avR v, S b) → Rb S (fzs xs) st
  | [], _ => Ju _
  | x :: r, h => Jo (J3s x) fun v hv => Jo (JcH (h x (by simp) v hv)) fun a _ => Jo (Jle fun y hy => h y (by simp [hy])) fun c _ => Ju _
theorem Jgb : ∀ {xs : List Opd} {a : List (List PV) × List (Nat × Blk)}, (∀ x ∈ xs, ∀ v, (ev x).run st = some v → ∀ b ∈ avR v, S b) → (fzs xs).run st = some a → ∀ y ∈ a.2, S y.1
  | [], a, _, h, y, hy => by injection h with h; subst h; simp at hy
  | x :: r, a, hS, h, y, hy => by
    simp only [fzs] at h
    obtain ⟨v, h0, h⟩ := bind_some h
    obtain ⟨c, h1, h⟩ := bind_some h
    obtain ⟨e, h2, h⟩ := bind_some h
    injection h with h; subst h
    simp only [List.mem_append] at hy
    rcases hy with hy | hy
    · exact hS x (by simp) v h0 _ (Jdg h1 y hy)
    · exact Jgb (fun z hz => hS z (by simp [hz])) h2 y hy
theorem JiC {x : AV} (h : ∀ b ∈ avR x, S b) : Rb S (J4x x) st := by
  cases x with
  | slr b i n =>
    refine Jo (JcH h) fun a _ => ?_
    split <;> first | exact Ju _ | exact Jj
  | agg cs => exact Jo (JcH h) fun a _ => Ju _
  | tup cs => exact Jj
  | _ => exact Ju _
theorem JiB {x : AV} {a : AV × List (Nat × Blk)} (h : (J4x x).run st = some a) : ∀ y ∈ a.2, y.1 ∈ avR x := by
  cases x with
  | slr b i n =>
    simp only [J4x] at h
    obtain ⟨c, h1, h⟩ := bind_some h
    split at h
    · injection h with h; subst h; exact Jdg h1
    · cases h
  | agg cs =>
    simp only [J4x] at h
    obtain ⟨c, h1, h⟩ := bind_some h
    injection h with h; subst h; exact Jdg h1
  | tup cs => cases h
  | _ => injection h with h; subst h; simp
theorem J7n : ∀ {m : List Bool} {xs : List AV}, (∀ x ∈ xs, ∀ b ∈ avR x, S b) → Rb S (J1p m xs) st
  | _, [], _ => by unfold J1p; exact Ju _
  | [], x :: r, h => Jo (JiC (h x (by simp))) fun a _ => Jo (J7n fun y hy => h y (by simp [hy])) fun c _ => Ju _
  | true :: m, x :: r, h => Jo (J7n fun y hy => h y (by simp [hy])) fun c _ => Ju _
  | false :: m, x :: r, h => Jo (JiC (h x (by simp))) fun a _ => Jo (J7n fun y hy => h y (by simp [hy])) fun c _ => Ju _
theorem J79 : ∀ {m : List Bool} {xs : List AV} {a : List AV × List (Nat × Blk)}, (∀ x ∈ xs, ∀ b ∈ avR x, S b) → (J1p m xs).run st = some a → ∀ y ∈ a.2, S y.1
  | m, [], a, _, h, y, hy => by unfold J1p at h; injection h with h; subst h; simp at hy
  | [], x :: r, a, hS, h, y, hy => by
    simp only [J1p] at h
    obtain ⟨c, h1, h⟩ := bind_some h
    obtain ⟨e, h2, h⟩ := bind_some h
    injection h with h; subst h
    simp only [List.mem_append] at hy
    rcases hy with hy | hy
    · exact hS x (by simp) _ (JiB h1 y hy)
    · exact J79 (fun z hz => hS z (by simp [hz])) h2 y hy
  | true :: m, x :: r, a, hS, h, y, hy => by
    simp only [J1p] at h
    obtain ⟨e, h2, h⟩ := bind_some h
    injection h with h; subst h
    exact J79 (fun z hz => hS z (by simp [hz])) h2 y hy
  | false :: m, x :: r, a, hS, h, y, hy => by
    simp only [J1p] at h
    obtain ⟨c, h1, h⟩ := bind_some h
    obtain ⟨e, h2, h⟩ := bind_some h
    injection h with h; subst h
    simp only [List.mem_append] at hy
    rcases hy with hy | hy
    · exact hS x (by simp) _ (JiB h1 y hy)
    · exact J79 (fun z hz => hS z (by simp [hz])) h2 y hy
theorem Jjf {ws : List (Nat × Blk)} {b : Nat} (h : S b) : Rb S (J7V ws b) st := J3S h fun v _ => by split <;> exact Ju _
theorem JdJ {ws : List (Nat × Blk)} : ∀ {r : List Nat} {acc : List Ent}, (∀ b ∈ r, S b) → Rb S (J1L ws (r.map .whole) acc) st
  | [], acc, _ => Ju _
  | b :: r, acc, h => by
    simp only [List.map_cons, J1L]
    refine Jo (Jjf (h b (by simp))) fun x _ => ?_
    cases x <;> exact JdJ fun c hc => h c (by simp [hc])
theorem Jf5 {ws : List (Nat × Blk)} {ρ : Ent → Option Nat} : ∀ {r : List Nat}, (∀ b ∈ r, S b) → Rb S (J2f ws ρ (r.map .whole)) st
  | [], _ => Ju _
  | b :: r, h => by
    simp only [List.map_cons, J2f, J99]
    refine Jo (Jo (Jjf (h b (by simp))) fun x _ => ?_) fun x _ => Jo (Jf5 fun c hc => h c (by simp [hc])) fun l _ => Ju _
    cases x with
    | box cs => dsimp only; split <;> first | exact Ju _ | exact Jj
    | arr w e rows => exact Ju _
    | dead => exact Jj
theorem JcO {ws : List (Nat × Blk)} {es : List Ent} {new : Nat} : ∀ {r : List Nat} {l : List Blk}, Rb S (J1l ws es new (r.map .whole) l) st
  | [], l => by cases l <;> exact Ju _
  | b :: r, [] => Jj
  | b :: r, x :: l => by
    simp only [List.map_cons, J1l]
    refine Jo ?_ fun y _ => Jo JcO fun ys _ => Ju _
    cases x with
    | box cs => simp only [J3P]; split <;> first | exact Ju _ | exact Jj
    | arr w e rows => exact Ju _
    | dead => exact Jj
theorem Jda {ws : List (Nat × Blk)} {es : List Ent} {new : Nat} : ∀ {r : List Nat} {l : List Blk} {ys : List (Nat × Blk)}, (J1l ws es new (r.map .whole) l).run st = some ys → ∀ y ∈ ys, y.1 ∈ r
  | [], l, ys, h, y, hy => by
    have : ys = [] := by cases l <;> (injection h with h; exact h.symm)
    subst this; simp at hy
  | b :: r, [], ys, h, _, _ => by cases h
  | b :: r, x :: l, ys, h, y, hy => by
    simp only [List.map_cons, J1l] at h
    obtain ⟨z, h1, h⟩ := bind_some h
    obtain ⟨zs, h2, h⟩ := bind_some h
    injection h with h; subst h
    rcases List.mem_cons.1 hy with rfl | hy
    · cases x with
      | box cs =>
        simp only [J3P] at h1
        split at h1
        · injection h1 with h1; subst h1; simp
        · cases h1
      | arr w e rows => injection h1 with h1; subst h1; simp
      | dead => cases h1
    · exact List.mem_cons_of_mem _ (Jda h2 y hy)
theorem J90 {es : List Ent} {new : Nat} : ∀ {l : List Blk} {k : Nat} {ys : List (Nat × Blk)}, J12 es new k l = some ys → ∀ y ∈ ys, ∃ j, j < l.length ∧ y.1 = k + j
  | [], k, ys, h, y, hy => by injection h with h; subst h; simp at hy
  | .dead :: l, k, ys, h, _, _ => by cases h
  | .box cs :: l, k, ys, h, y, hy => by
    simp only [J12] at h
    split at h
    · rename_i c zs _ hz
      injection h with h; subst h
      rcases List.mem_cons.1 hy with rfl | hy
      · exact ⟨0, by simp, rfl⟩
      · obtain ⟨j, hj, e⟩ := J90 hz y hy
        exact ⟨j + 1, by simp; omega, by omega⟩
    · cases h
  | .arr w e rows :: l, k, ys, h, y, hy => by
    simp only [J12] at h
    split at h
    · rename_i zs hz
      injection h with h; subst h
      rcases List.mem_cons.1 hy with rfl | hy
      · exact ⟨0, by simp, rfl⟩
      · obtain ⟨j, hj, e⟩ := J90 hz y hy
        exact ⟨j + 1, by simp; omega, by omega⟩
    · cases h
theorem Jcr (e x : Ent) (l : List Ent) (h : e ∈ l) : e ∈ J6b x l := by unfold J6b; split <;> simp [h]
mutual
theorem Jmh : ∀ (x : AV) (l : List Ent) (e : Ent), e ∈ l → e ∈ JM x l
  | .ptr b off, l, e, h => Jcr e _ l h
  | .slr b i n, l, e, h => Jcr e _ l h
  | .ep b ex i off, l, e, h => Jcr e _ l h
  | .fn f a c, l, e, h => entsL_sub c _ e (entsL_sub a l e h)
  | .agg cs, l, e, h => entsL_sub cs l e h
  | .tup cs, l, e, h => entsL_sub cs l e h
  | .p _, l, e, h => h
  | .data _, l, e, h => h
  | .cp _ _, l, e, h => h
  | .unk, l, e, h => h
theorem entsL_sub : ∀ (xs : List AV) (l : List Ent) (e : Ent), e ∈ l → e ∈ JM.entsOfL xs l
  | [], l, e, h => h
  | x :: r, l, e, h => entsL_sub r _ e (Jmh x l e h)
end
theorem Jgp {ws : List (Nat × Blk)} : ∀ {r acc l : List Ent}, (J1L ws r acc).run st = some l → ∀ e ∈ acc, e ∈ l := by
  intro r
  induction r with
  | nil => intro acc l h e he; injection h with h; subst h; exact he
  | cons x r ih =>
    intro acc l h e he
    cases x with
    | whole b =>
      simp only [J1L] at h
      obtain ⟨y, _, h⟩ := bind_some h
      cases y with
      | box cs => exact ih h e (entsL_sub cs acc e he)
      | _ => exact ih h e he
    | elem b ex i => exact ih h e he
theorem JeS {F : Orc} {f : FuncId} {xs : List AV} {ws : List (Nat × Blk)} {e0 es1 ids : List Nat} {n new : Nat} (hS : ∀ b ∈ ids, S b) (hw : ∀ y ∈ ws, S y.1) (hn : ∀ j, j < n → S (new + j))
    (h0 : JM.entsOfL xs [] = e0.map .whole) (h1 : (J1L ws (e0.map .whole) (e0.map .whole)).run st = some (es1.map .whole)) (h2 : (J1L ws (es1.map .whole) (es1.map .whole)).run st = some (ids.map .whole)) :
    Rb S (J17 F f (xs, ws) n new) st ∧ (∀ e, (J17 F f (xs, ws) n new).run st = some e → ∀ y ∈ e.ws, S y.1) := by
  have s1 : ∀ b ∈ es1, S b := fun b hb => by
    have := Jgp h2 (.whole b) (List.mem_map.2 ⟨b, hb, rfl⟩)
    obtain ⟨c, hc, e⟩ := List.mem_map.1 this
    injection e with e; subst e; exact hS c hc
  have s0 : ∀ b ∈ e0, S b := fun b hb => by
    have := Jgp h1 (.whole b) (List.mem_map.2 ⟨b, hb, rfl⟩)
    obtain ⟨c, hc, e⟩ := List.mem_map.1 this
    injection e with e; subst e; exact s1 c hc
  constructor
  · unfold J17
    simp only [h0]
    refine Jo (JdJ s0) fun a ha => ?_
    rw [h1] at ha; injection ha with ha; subst ha
    refine Jo (JdJ s1) fun a ha => ?_
    rw [h2] at ha; injection ha with ha; subst ha
    split
    · split
      · exact Jj
      · refine Jo (Jf5 hS) fun bl _ => ?_
        split
        · exact Jj
        · split
          · split
            · exact Jo JcO fun _ _ => Ju _
            · exact Jj
          · exact Jj
    · exact Jj
  · intro e h y hy
    unfold J17 at h
    simp only [h0] at h
    obtain ⟨a, ha, h⟩ := bind_some h
    rw [h1] at ha; injection ha with ha; subst ha
    obtain ⟨a, ha, h⟩ := bind_some h
    rw [h2] at ha; injection ha with ha; subst ha
    split at h
    · split at h
      · cases h
      · obtain ⟨bl, _, h⟩ := bind_some h
        split at h
        · cases h
        · split at h
          · rename_i hlen
            split at h
            · rename_i v fresh _ hf
              obtain ⟨back, hb, h⟩ := bind_some h
              injection h with h; subst h
              simp only [List.mem_append] at hy
              rcases hy with (hy | hy) | hy
              · exact hw y hy
              · exact hS _ (Jda hb y hy)
              · obtain ⟨j, hj, e⟩ := J90 hf y hy
                rw [e]
                exact hn j (by simp only [List.length_drop, List.length_map] at hj hlen; omega)
            · cases h
          · cases h
    · cases h
end
def tcR : TC → List Nat
  | .ptr b _ => [b]
  | .slr b => [b]
  | .slo b _ => [b]
  | .ep b _ _ => [b]
  | .epo b _ _ _ => [b]
  | _ => []
def tvR : TV → List Nat
  | .a (.c x) => tcR x
  | .a (.m _ cs) => cs.flatMap tcR
  | _ => []
theorem JpH (L : Nat → Nat) (x : TC) : J2t (Jm L x) = tcR x := by cases x <;> rfl
theorem J27 (L : Nat → Nat) (v : TV) : avR (Jl L v) = tvR v := by
  cases v with
  | a x =>
    cases x with
    | c x => cases x <;> rfl
    | dt t x => rfl
    | m t cs =>
      show (cs.map (Jm L)).flatMap J2t = cs.flatMap tcR
      rw [List.flatMap_map]
      congr 1
      funext x; exact JpH L x
    | fn f a c => rfl
  | tup vs => rfl
def rng (new : Nat) : Nat → List Nat
  | 0 => []
  | k + 1 => new :: rng (new + 1) k
theorem J3z : ∀ {k new j : Nat}, j < k → new + j ∈ rng new k
  | 0, _, _, h => by omega
  | k + 1, new, j, h => by
    cases j with
    | zero => simp [rng]
    | succ j =>
      simp only [rng, List.mem_cons]
      right
      rw [show new + (j + 1) = new + 1 + j by omega]
      exact J3z (by omega)
def J3B {α β : Type} (m : Option α) (f : α → Option β) : Option β := match m with
  | some x => f x
  | none => none
theorem J0v {α β : Type} {m : Option α} {f : α → Option β} {b : β} (h : J3B m f = some b) : ∃ a, m = some a ∧ f a = some b := by
  cases m with
  | none => cases h
  | some a => exact ⟨a, rfl, h⟩
def Jnp (l : List (TV × Bool)) (s : TSt) : Option (List Nat) :=
  Jd7 l s fun xs s1 => J3B (J8s xs []) fun i0 => J3B (J7F s1 i0 i0) fun i1 => J7F s1 i1 i1
def tcU (l : List (TV × Bool)) (n new : Nat) (s : TSt) : Option (List Nat × List Nat) :=
  J3B (Jnp l s) fun ids => some (rng new n ++ (l.flatMap fun x => tvR x.1) ++ ids, rng new n ++ (l.flatMap fun x => tvR x.1) ++ ids)
def tpR (s : TSt) : List (Nat × TO) → Option (List Nat)
  | [] => some []
  | (_, o) :: r => J3B (tev o s) fun v => J3B (tpR s r) fun l => some (tvR v ++ l)
def uw (op : TOp) (new : Nat) (s : TSt) : Option (List Nat × List Nat) :=
  match op with
  | .load _ _ x => J3B (tev x s) fun v => some (tvR v, [])
  | .newbox _ => some ([new], [new])
  | .store _ x y => J3B (tev x s) fun v => J3B (tev y s) fun u => some (tvR v ++ tvR u, tvR v ++ tvR u)
  | .iaddr _ x _ => J3B (tev x s) fun v => some (tvR v, [])
  | .lits own t n ps => J3B (tpR s ps) fun l => some (rng new (J0f (.lits own t n ps)) ++ l, rng new (J0f (.lits own t n ps)) ++ l)
  | .appn _ _ y => J3B (tev y s) fun v => some (new :: tvR v, [new])
  | .app _ _ x y => J3B (tev x s) fun v => J3B (tev y s) fun u => some (tvR v ++ tvR u, tvR v)
  | .slice _ x _ _ _ => J3B (tev x s) fun v => some (tvR v, tvR v)
  | .call _ args n => J3B (J9M (args.map fun x => (x, false)) s) fun l => tcU l n new s
  | .callo _ args n => J3B (J9M args s) fun l => tcU l n new s
  | .mkslice own t bytes l c => some (rng new (J0f (.mkslice own t bytes l c)), rng new (J0f (.mkslice own t bytes l c)))
  | .conv k x => J3B (tev x s) fun v => some (rng new (J0f (.conv k x)) ++ tvR v, rng new (J0f (.conv k x)))
  | _ => none
theorem J3y {F : Orc} {op : TOp} {new : Nat} {st : St} {S : Nat → Prop} (hd : ∀ j, j < J0f op → S (new + j)) (h : Rb S (opR F (erp op) new) st) : Rb S (opD F (erp op) new) st := by
  unfold opD
  rw [J8A]
  exact Jo (JiM hd) fun _ _ => h
theorem J2y {F : Orc} {op : AOp} {new : Nat} {st : St} {e : Eff} (h : (opD F op new).run st = some e) : (opR F op new).run st = some e := by
  unfold opD at h
  obtain ⟨_, _, h⟩ := bind_some h
  exact h
def UW (F : Orc) (op : AOp) (new : Nat) (st : St) (U W : List Nat) : Prop :=
  Rb (· ∈ U) (opD F op new) st ∧ ∀ e, (opD F op new).run st = some e → ∀ y ∈ e.ws, y.1 ∈ W
theorem J2K {x : TO} {s : TSt} {v : TV} (h : tev x s = some v) {a : AV} (ha : (ev (erO x)).run (J9 s) = some a) : a = Jl (lns s.sto) v := by
  rw [Jq h] at ha; injection ha with ha; exact ha.symm
theorem JiK {l : List (TV × Bool)} {s : TSt} {ids : List Nat} (h : Jnp l s = some ids) : ∃ (xs : List AV) (ws : List (Nat × Blk)) (i0 i1 : List Nat), (J1p (l.map (·.2)) (l.map fun x => Jl (lns s.sto) x.1)).run (J9 s) = some (xs, ws) ∧
    JM.entsOfL xs [] = i0.map .whole ∧ (J1L ws (i0.map .whole) (i0.map .whole)).run (J9 s) = some (i1.map .whole) ∧ (J1L ws (i1.map .whole) (i1.map .whole)).run (J9 s) = some (ids.map .whole) := by
  unfold Jnp at h
  obtain ⟨xs, s1, ws, h1, f1, h⟩ := Jci (Fzd.refl s) h
  rw [List.nil_append] at f1
  obtain ⟨i0, h2, h⟩ := J0v h
  obtain ⟨i1, h3, h4⟩ := J0v h
  exact ⟨_, ws, i0, i1, h1, J7Q (lns s.sto) (l := []) h2, J4V f1 h3, J4V f1 h4⟩
theorem JmT {F : Orc} {f : FuncId} {vs : List AV} {n new : Nat} {st : St} {S : Nat → Prop} {a : List AV × List (Nat × Blk)} (ha : (J3o vs).run st = some a) (hr : Rb S (J3o vs) st)
    (h : ∀ (_ : Unit), Rb S (J17 F f a n new) st) : Rb S (J2p F f vs n new) st := by
  unfold J2p
  refine Jo hr fun a' ha' => ?_
  rw [ha] at ha'; injection ha' with ha'; subst ha'
  have h := h ()
  unfold J17 at h
  intro b hb
  refine h b ?_
  revert hb
  simp only [J2L]
  intro hb
  rcases List.mem_append.1 hb with hb | hb
  · exact List.mem_append.2 (.inl hb)
  · refine List.mem_append.2 (.inr ?_)
    revert hb
    cases (J1L a.2 (JM.entsOfL a.1 []) (JM.entsOfL a.1 [])).run st with
    | none => intro hb; exact hb
    | some es1 =>
      simp only [Option.map_some, Option.getD_some, J2L]
      intro hb
      rcases List.mem_append.1 hb with hb | hb
      · exact List.mem_append.2 (.inl hb)
      · refine List.mem_append.2 (.inr ?_)
        revert hb
        cases (J1L a.2 es1 es1).run st with
        | none => intro hb; exact hb
        | some es =>
          simp only [Option.map_some, Option.getD_some]
          split
          · split
            · intro hb; exact hb
            · simp only [J2L]
              intro hb
              rcases List.mem_append.1 hb with hb | hb
              · exact List.mem_append.2 (.inl hb)
              · refine List.mem_append.2 (.inr ?_)
                revert hb
                cases (J2f a.2 (fun e => J0y e es 0) es).run st with
                | none => intro hb; exact hb
                | some bl =>
                  simp only [Option.map_some, Option.getD_some]
                  split
                  · intro hb; exact hb
                  · split
                    · rename_i hlen
                      rw [if_pos (by omega)]
                      intro hb; exact hb
                    · intro hb; simp [RM.reads] at hb
          · intro hb; exact hb
theorem Jr0 (F : Orc) {op : TOp} {new : Nat} {s : TSt} {U W : List Nat} (h : uw op new s = some (U, W)) : UW F (erp op) new (J9 s) U W := by
  unfold uw at h
  split at h
  · rename_i agg t x
    obtain ⟨v, hv, h⟩ := J0v h
    injection h with h; injection h with h1 h2; subst h1 h2
    refine ⟨J3y (op := .load agg t x) (fun j hj => by simp [J0f] at hj) (Jo (J3s _) fun a ha => ?_), fun e he y hy => ?_⟩
    · rw [J2K hv ha]; exact Jpq fun b hb => by rw [J27] at hb; exact hb
    · have he := J2y he
      simp only [erp, opR] at he
      obtain ⟨a, ha, he⟩ := bind_some he
      rw [Jon he] at hy; simp at hy
  · rename_i t
    injection h with h; injection h with h1 h2; subst h1 h2
    refine ⟨J3y (op := .newbox t) (fun j hj => by simp [J0f] at hj; subst hj; simp) (Ju _), fun e he y hy => ?_⟩
    have he := J2y he
    injection he with he; subst he
    simp only [List.mem_singleton] at hy
    subst hy; simp
  · rename_i t x y
    obtain ⟨v, hv, h⟩ := J0v h
    obtain ⟨u, hu, h⟩ := J0v h
    injection h with h; injection h with h1 h2; subst h1 h2
    refine ⟨J3y (op := .store t x y) (fun j hj => by simp [J0f] at hj) (Jo (J3s _) fun a ha => Jo (J3s _) fun c hc => ?_), fun e he z hz => ?_⟩
    · rw [J2K hv ha, J2K hu hc]
      exact JnI (fun b hb => by rw [J27] at hb; simp [hb]) (fun b hb => by rw [J27] at hb; simp [hb])
    · have he := J2y he
      simp only [erp, opR] at he
      obtain ⟨a, ha, he⟩ := bind_some he
      obtain ⟨c, hc, he⟩ := bind_some he
      have := JnD he z hz
      rwa [J2K hv ha, J2K hu hc, J27, J27] at this
  · rename_i t x i
    obtain ⟨v, hv, h⟩ := J0v h
    injection h with h; injection h with h1 h2; subst h1 h2
    refine ⟨J3y (op := .iaddr t x i) (fun j hj => by simp [J0f] at hj) (Jo (J3s _) fun a ha => Jo (J3s _) fun c hc => ?_), fun e he y hy => ?_⟩
    · rw [J2K hv ha]; exact Jmq fun b hb => by rw [J27] at hb; exact hb
    · have he := J2y he
      simp only [erp, opR] at he
      obtain ⟨a, ha, he⟩ := bind_some he
      obtain ⟨c, hc, he⟩ := bind_some he
      rw [Jn1 he] at hy; simp at hy
  · rename_i own t n ps
    obtain ⟨l, hl, h⟩ := J0v h
    injection h with h; injection h with h1 h2; subst h1 h2
    have hS : ∀ x ∈ ps.map (fun x => erO x.2), ∀ v, (ev x).run (J9 s) = some v → ∀ b ∈ avR v, b ∈ rng new (J0f (.lits own t n ps)) ++ l := by
      have key : ∀ (ps : List (Nat × TO)) (l : List Nat), tpR s ps = some l → ∀ x ∈ ps.map (fun x => erO x.2), ∀ v, (ev x).run (J9 s) = some v → ∀ b ∈ avR v, b ∈ l := by
        intro ps
        induction ps with
        | nil => intro l _ x hx; simp at hx
        | cons p ps ih =>
          intro l hl x hx v hv b hb
          obtain ⟨i, o⟩ := p
          simp only [tpR] at hl
          obtain ⟨u, hu, hl⟩ := J0v hl
          obtain ⟨q, hq, hl⟩ := J0v hl
          injection hl with hl; subst hl
          simp only [List.map_cons, List.mem_cons] at hx
          rcases hx with rfl | hx
          · rw [J2K hu hv, J27] at hb; simp [hb]
          · simp [ih q hq x hx v hv b hb]
      intro x hx v hv b hb
      exact List.mem_append.2 (.inr (key ps l hl x hx v hv b hb))
    have e1 : (ps.map fun x => (x.1, erO x.2)).map (·.2) = ps.map fun x => erO x.2 := by simp
    refine ⟨J3y (op := .lits own t n ps) (fun j hj => List.mem_append.2 (.inl (J3z hj))) ?_, fun e he y hy => ?_⟩
    · simp only [erp, opR, e1]
      refine Jo (Jle hS) fun a _ => ?_
      split
      · split <;> exact Ju _
      · exact Jj
    · have he := J2y he
      simp only [erp, opR, e1] at he
      obtain ⟨a, ha, he⟩ := bind_some he
      split at he
      · split at he
        · rename_i ho
          injection he with he; subst he
          simp only [List.mem_append, List.mem_singleton] at hy
          rcases hy with hy | rfl
          · exact Jgb hS ha y hy
          · exact List.mem_append.2 (.inl (by have := J3z (k := J0f (.lits own t n ps)) (new := new) (j := 0) (by simp [J0f, ho]); simpa using this))
        · injection he with he; subst he
          exact Jgb hS ha y hy
      · cases he
  · rename_i t bytes y
    obtain ⟨v, hv, h⟩ := J0v h
    injection h with h; injection h with h1 h2; subst h1 h2
    refine ⟨J3y (op := .appn t bytes y) (fun j hj => by simp [J0f] at hj; subst hj; simp) (Jo (J3s _) fun a ha => ?_), fun e he z hz => ?_⟩
    · rw [J2K hv ha]
      refine Jo (JeD fun b hb => by rw [J27] at hb; simp [hb]) fun rows _ => ?_
      split <;> first | exact Ju _ | exact Jj
    · have he := J2y he
      simp only [erp, opR] at he
      obtain ⟨a, ha, he⟩ := bind_some he
      obtain ⟨rows, _, he⟩ := bind_some he
      split at he
      · injection he with he; subst he
        simp only [List.mem_singleton] at hz
        subst hz; simp
      · cases he
  · rename_i t bytes x y
    obtain ⟨v, hv, h⟩ := J0v h
    obtain ⟨u, hu, h⟩ := J0v h
    injection h with h; injection h with h1 h2; subst h1 h2
    refine ⟨J3y (op := .app t bytes x y) (fun j hj => by simp [J0f] at hj) (Jo (J3s _) fun a ha => Jo (J3s _) fun c hc => ?_), fun e he z hz => ?_⟩
    · rw [J2K hv ha, J2K hu hc]
      exact JpF (fun b hb => by rw [J27] at hb; simp [hb]) (fun b hb => by rw [J27] at hb; simp [hb])
    · have he := J2y he
      simp only [erp, opR] at he
      obtain ⟨a, ha, he⟩ := bind_some he
      obtain ⟨c, hc, he⟩ := bind_some he
      have := Jqf he z hz
      rwa [J2K hv ha, J27] at this
  · rename_i kd x lo hi mx
    obtain ⟨v, hv, h⟩ := J0v h
    injection h with h; injection h with h1 h2; subst h1 h2
    refine ⟨J3y (op := .slice kd x lo hi mx) (fun j hj => by simp [J0f] at hj) (Jo (J3s _) fun a ha => Jo (JhA _) fun _ _ => Jo (JhA _) fun _ _ => Jo (JhA _) fun _ _ => ?_), fun e he z hz => ?_⟩
    · have e := J2K hv ha
      split
      · refine Jo (JcH fun b hb => ?_) fun y _ => ?_
        · rw [e, J27] at hb; exact hb
        · split
          · split <;> first | exact Ju _ | exact Jj
          · exact Jj
      · exact JdB _
    · have he := J2y he
      simp only [erp, opR] at he
      obtain ⟨a, ha, he⟩ := bind_some he
      obtain ⟨_, _, he⟩ := bind_some he
      obtain ⟨_, _, he⟩ := bind_some he
      obtain ⟨_, _, he⟩ := bind_some he
      have e0 := J2K hv ha
      split at he
      · obtain ⟨y, hy, he⟩ := bind_some he
        split at he
        · split at he
          · injection he with he; subst he
            have := Jdg hy z hz
            rwa [e0, J27] at this
          · cases he
        · cases he
      · rw [Jdj he] at hz; simp at hz
  · rename_i f args n
    obtain ⟨l, hl, h⟩ := J0v h
    unfold tcU at h
    obtain ⟨ids, hi, h⟩ := J0v h
    injection h with h; injection h with h1 h2; subst h1 h2
    obtain ⟨xs, ws, i0, i1, q1, q2, q3, q4⟩ := JiK hi
    obtain ⟨e1, e2⟩ := J5N hl
    rw [J91] at e1
    rw [J4z _ _ (fun x hx => by
      rw [e2, List.map_map] at hx
      obtain ⟨y, _, rfl⟩ := List.mem_map.1 hx
      rfl)] at q1
    have hA : ∀ x ∈ l.map (fun x => Jl (lns s.sto) x.1), ∀ b ∈ avR x, b ∈ rng new n ++ (l.flatMap fun x => tvR x.1) ++ ids := by
      intro x hx b hb
      obtain ⟨y, hy, rfl⟩ := List.mem_map.1 hx
      rw [J27] at hb
      simp only [List.mem_append]
      exact .inl (.inr (List.mem_flatMap.2 ⟨y, hy, hb⟩))
    have hrA : Rb (· ∈ rng new n ++ (l.flatMap fun x => tvR x.1) ++ ids) (J3o (l.map fun x => Jl (lns s.sto) x.1)) (J9 s) := by
      rw [← J6G]; exact J7n hA
    have hwA : ∀ y ∈ ws, y.1 ∈ rng new n ++ (l.flatMap fun x => tvR x.1) ++ ids := by
      rw [← J6G] at q1
      exact J79 (S := (· ∈ rng new n ++ (l.flatMap fun x => tvR x.1) ++ ids)) hA q1
    obtain ⟨c1, c2⟩ := JeS (F := F) (f := f) (S := (· ∈ rng new n ++ (l.flatMap fun x => tvR x.1) ++ ids)) (n := n) (new := new) (fun b hb => by simp [hb]) hwA
      (fun j hj => by simp only [List.mem_append]; exact .inl (.inl (J3z hj))) q2 q3 q4
    refine ⟨J3y (op := .call f args n) (fun j hj => by simp only [List.mem_append]; exact .inl (.inl (J3z hj))) (Jo (JhL _) fun a ha => ?_), fun e he y hy => ?_⟩
    · rw [e1] at ha; injection ha with ha; subst ha
      exact JmT q1 hrA fun _ => c1
    · have he := J2y he
      simp only [erp, opR] at he
      obtain ⟨a, ha, he⟩ := bind_some he
      rw [e1] at ha; injection ha with ha; subst ha
      obtain ⟨ar, h1, h2⟩ := Jjj he
      rw [q1] at h1; injection h1 with h1; subst h1
      exact c2 e h2 y hy
  · rename_i f args n
    obtain ⟨l, hl, h⟩ := J0v h
    unfold tcU at h
    obtain ⟨ids, hi, h⟩ := J0v h
    injection h with h; injection h with h1 h2; subst h1 h2
    obtain ⟨xs, ws, i0, i1, q1, q2, q3, q4⟩ := JiK hi
    obtain ⟨e1, e2⟩ := J5N hl
    have hA : ∀ x ∈ l.map (fun x => Jl (lns s.sto) x.1), ∀ b ∈ avR x, b ∈ rng new n ++ (l.flatMap fun x => tvR x.1) ++ ids := by
      intro x hx b hb
      obtain ⟨y, hy, rfl⟩ := List.mem_map.1 hx
      rw [J27] at hb
      simp only [List.mem_append]
      exact .inl (.inr (List.mem_flatMap.2 ⟨y, hy, hb⟩))
    rw [e2] at q1
    have hwA : ∀ y ∈ ws, y.1 ∈ rng new n ++ (l.flatMap fun x => tvR x.1) ++ ids := J79 (S := (· ∈ rng new n ++ (l.flatMap fun x => tvR x.1) ++ ids)) hA q1
    obtain ⟨c1, c2⟩ := JeS (F := F) (f := f) (S := (· ∈ rng new n ++ (l.flatMap fun x => tvR x.1) ++ ids)) (n := n) (new := new) (fun b hb => by simp [hb]) hwA
      (fun j hj => by simp only [List.mem_append]; exact .inl (.inl (J3z hj))) q2 q3 q4
    refine ⟨J3y (op := .callo f args n) (fun j hj => by simp only [List.mem_append]; exact .inl (.inl (J3z hj))) (Jo (JhL _) fun a ha => ?_), fun e he y hy => ?_⟩
    · rw [e1] at ha; injection ha with ha; subst ha
      refine Jo (J7n hA) fun a ha => ?_
      rw [q1] at ha; injection ha with ha; subst ha
      exact c1
    · have he := J2y he
      simp only [erp, opR] at he
      obtain ⟨a, ha, he⟩ := bind_some he
      rw [e1] at ha; injection ha with ha; subst ha
      obtain ⟨a, ha, he⟩ := bind_some he
      rw [q1] at ha; injection ha with ha; subst ha
      exact c2 e he y hy
  · rename_i own t bytes l c
    injection h with h; injection h with h1 h2; subst h1 h2
    refine ⟨J3y (op := .mkslice own t bytes l c) (fun j hj => J3z hj) (Jo (J3s _) fun a ha => Jo (J3s _) fun d hd => ?_), fun e he y hy => ?_⟩
    · split
      · split
        · split <;> exact Ju _
        · exact Jj
      · exact Jj
    · have he := J2y he
      simp only [erp, opR] at he
      obtain ⟨a, ha, he⟩ := bind_some he
      obtain ⟨d, hd, he⟩ := bind_some he
      split at he
      · split at he
        · split at he
          · rename_i ho
            injection he with he; subst he
            simp only [List.mem_singleton] at hy
            subst hy
            have := J3z (k := J0f (.mkslice own t bytes l c)) (new := new) (j := 0) (by simp [J0f, ho])
            simpa using this
          · injection he with he; subst he; simp at hy
        · cases he
      · cases he
  · rename_i k x
    obtain ⟨v, hv, h⟩ := J0v h
    injection h with h; injection h with h1 h2; subst h1 h2
    refine ⟨J3y (op := .conv k x) (fun j hj => List.mem_append.2 (.inl (J3z hj))) (Jo (J3s _) fun a ha => ?_), fun e he y hy => ?_⟩
    · have hr : ∀ b ∈ avR a, b ∈ rng new (J0f (.conv k x)) ++ tvR v := fun b hb => by rw [J2K hv ha, J27] at hb; simp [hb]
      split
      · exact Ju _
      · exact Ju _
      · refine Jo (JeD hr) fun rows _ => ?_
        split <;> first | exact Ju _ | exact Jj
      · split <;> exact Ju _
      · exact Jj
    · have he := J2y he
      simp only [erp, opR] at he
      obtain ⟨a, ha, he⟩ := bind_some he
      split at he
      · injection he with he; subst he; simp at hy
      · injection he with he; subst he; simp at hy
      · obtain ⟨rows, _, he⟩ := bind_some he
        split at he
        · injection he with he; subst he; simp at hy
        · cases he
      · split at he
        · rename_i ho
          injection he with he; subst he
          simp only [List.mem_singleton] at hy
          subst hy
          simp [J0f, ho, rng]
        · injection he with he; subst he; simp at hy
      · cases he
  · cases h
abbrev J7r := Option (List Nat × List Nat)
section
variable {R : Type}
def JpD (i : J4Y) (s : TSt) : Bool := match i.g with
  | none => false
  | some (g, want) => if i.dst = some g then false else match tlk g s.env with
    | some (.a (.c (.d .b x))) => if x = want then false else true
    | some (.tup []) => true
    | _ => false
def uwI (i : J4Y) (new : Nat) (s s' : TSt) : J7r := if JpD i s' = true then some ([], []) else uw i.op new s
def JfL (G : TG) : List J4Y → Nat → TSt → List J7r → (TSt → List J7r → Option R) → Option R
  | [], _, s, l, k => k s l
  | i :: r, new, s, l, k => JjY G i new s fun s' => JfL G r (new + J0f i.op) s' (l ++ [uwI i new s s']) k
def J6z : J7r → (List Nat × List Nat) → Prop
  | none, _ => True
  | some (U, W), x => (∀ b ∈ x.1, b ∈ U) ∧ ∀ b ∈ x.2, b ∈ W
def JfN (l : List J7r) : List (Nat × Nat) → Bool
  | [] => true
  | (i, j) :: r => (match l[i]?, l[j]? with
    | some (some a), some (some b) => J3a a.2 b.1 && J3a a.2 b.2 && J3a a.1 b.2
    | _, _ => false) && JfN l r
theorem J5i {b : Nat} : ∀ {l : List Loc}, b ∈ J25 l → Loc.blk b ∈ l
  | .blk c :: r, h => by
    simp only [J25, List.mem_cons] at h
    rcases h with rfl | h
    · simp
    · simp [J5i h]
  | .slot n :: r, h => by simp only [J25] at h; simp [J5i h]
theorem J6z.snoc {l : List J7r} {l0 : Log} {x : J7r} {y : List Nat × List Nat} (hl : l.length = l0.length) (ho : ∀ (j : Nat) a b, l[j]? = some a → l0[j]? = some b → J6z a b) (hx : J6z x y) (j : Nat) (a : J7r) (b : List Nat × List Nat) (ha : (l ++ [x])[j]? = some a) (hb : (l0 ++ [y])[j]? = some b) : J6z a b := by
  rcases Nat.lt_or_ge j l.length with hj | hj
  · rw [List.getElem?_append_left hj] at ha
    rw [List.getElem?_append_left (by omega)] at hb
    exact ho j a b ha hb
  · rw [List.getElem?_append_right hj] at ha
    rw [List.getElem?_append_right (by omega)] at hb
    have hj0 : j - l.length = 0 := by have := J5 ha; simp at this; omega
    rw [hj0] at ha
    rw [← hl, hj0] at hb
    simp at ha hb
    subst ha hb
    exact hx
theorem JoG {F : Orc} {i : J4Y} {new : Nat} {s s' : TSt} {e : Eff} (h : (J0e F (eri i) new).run (J9 s) = some e) (hp : put i.dst e (J9 s) = J9 s') : J6z (uwI i new s s') (J25 ((J0e F (eri i) new).reads (J9 s)), e.ws.map (·.1)) := by
  unfold uwI
  split
  · rename_i hn
    unfold JpD at hn
    split at hn
    · cases hn
    · rename_i g want hg
      split at hn
      · cases hn
      · rename_i hd
        have hlk : lk g (J9 s').env = lk g (J9 s).env := by
          rw [← hp]
          unfold put
          split
          · rename_i d hds
            show lk g ((d, e.val) :: (J9 s).env) = _
            simp only [lk]
            rw [if_neg (fun e0 => hd (by rw [hds, e0]))]
          · rfl
        have hx' : ∀ v, tlk g s'.env = some v → lk g (J9 s).env = some (Jl (lns s'.sto) v) := fun v hv => by
          rw [← hlk]
          show lk g (J1W _ s'.env) = _
          rw [J7s, hv]; rfl
        split at hn
        · rename_i x hx
          split at hn
          · cases hn
          · rename_i hw
            have hl := hx' _ hx
            rw [e_b] at hl
            have hi : J0e F (eri i) new = .slot g fun
                | .p (.b x) => if x = want then opD F (eri i).op new else .ret ⟨J0H, []⟩
                | .tup [] => .ret ⟨J0H, []⟩
                | _ => .fail := by unfold J0e; rw [show (eri i).g = i.g from rfl, hg]; rfl
            rw [hi] at h ⊢
            refine ⟨fun b hb => ?_, fun b hb => ?_⟩
            · have := J5i hb
              simp only [RM.reads, hl, List.mem_cons, if_neg hw] at this
              rcases this with this | this
              · cases this
              · simp at this
            · simp only [J3U, hl, Option.bind_some, if_neg hw, Je] at h
              injection h with h; subst h
              exact hb
        · rename_i hx
          have hl := hx' _ hx
          have hl : lk g (J9 s).env = some (.tup []) := hl
          have hi : J0e F (eri i) new = .slot g fun
              | .p (.b x) => if x = want then opD F (eri i).op new else .ret ⟨J0H, []⟩
              | .tup [] => .ret ⟨J0H, []⟩
              | _ => .fail := by unfold J0e; rw [show (eri i).g = i.g from rfl, hg]; rfl
          rw [hi] at h ⊢
          refine ⟨fun b hb => ?_, fun b hb => ?_⟩
          · have := J5i hb
            simp only [RM.reads, hl, List.mem_cons] at this
            rcases this with this | this
            · cases this
            · simp at this
          · simp only [J3U, hl, Option.bind_some, Je] at h
            injection h with h; subst h
            exact hb
        · cases hn
  · cases hu : uw i.op new s with
    | none => trivial
    | some uw' =>
      obtain ⟨U, W⟩ := uw'
      obtain ⟨h1, h2⟩ := Jr0 F hu
      have hr : Rb (· ∈ U) (J0e F (eri i) new) (J9 s) := by
        unfold J0e
        split
        · exact h1
        · refine Jja fun v hv => ?_
          split
          · split
            · exact h1
            · exact Ju _
          · exact Ju _
          · exact Jj
      refine ⟨fun b hb => hr b (J5i hb), fun b hb => ?_⟩
      obtain ⟨y, hy, rfl⟩ := List.mem_map.1 hb
      unfold J0e at h
      split at h
      · exact h2 e h y hy
      · simp only [J3U] at h
        obtain ⟨v, hv, h⟩ := Option.bind_eq_some_iff.1 h
        split at h
        · split at h
          · exact h2 e h y hy
          · injection h with h; subst h; simp at hy
        · injection h with h; subst h; simp at hy
        · cases h
theorem JhJ {F : Orc} {G : TG} (hG : GOk F G) : ∀ {ins : List J4Y} {new : Nat} {s : TSt} {l : List J7r} {l0 : Log} {k : TSt → List J7r → Option R} {r : R}, l.length = l0.length → (∀ (j : Nat) a b, l[j]? = some a → l0[j]? = some b → J6z a b) →
    JfL G ins new s l k = some r → ∃ s' l' tl, J20 F (ins.map eri) new (J9 s) l0 = some (J9 s', l') ∧ k s' tl = some r ∧ tl.length = l'.length ∧ ∀ (j : Nat) a b, tl[j]? = some a → l'[j]? = some b → J6z a b
  | [], new, s, l, l0, k, r, hl, ho, h => ⟨s, l0, l, rfl, h, hl, ho⟩
  | i :: q, new, s, l, l0, k, r, hl, ho, h => by
    simp only [JfL] at h
    obtain ⟨e, s1, h1, h2, h⟩ := JiO hG h
    obtain ⟨s2, l', tl, h3, h4, h5, h6⟩ := JhJ hG (l0 := l0 ++ [(J25 ((J0e F (eri i) new).reads (J9 s)), e.ws.map (·.1))]) (by rw [List.length_append, List.length_append, hl]; rfl) (J6z.snoc hl ho (JoG h1 h2)) h
    refine ⟨s2, l', tl, ?_, h4, h5, h6⟩
    simp only [List.map_cons, J20, h1]
    rw [show put (eri i).dst e (J9 s) = J9 s1 from h2, show J2s (eri i).op = J0f i.op from J8A _, h3]
theorem Jc7 {a b a' b' : List Nat} (h : J3a a' b' = true) (ha : ∀ x ∈ a, x ∈ a') (hb : ∀ x ∈ b, x ∈ b') : J3a a b = true := by
  unfold J3a at h ⊢
  rw [List.all_eq_true] at h ⊢
  intro x hx
  have := h x (ha x hx)
  simp only [Bool.not_eq_true', List.contains_eq_mem, decide_eq_false_iff_not] at this ⊢
  exact fun hm => this (hb x hm)
theorem JhF {l : List J7r} {l' : Log} (hl : l.length = l'.length) (ho : ∀ (j : Nat) a b, l[j]? = some a → l'[j]? = some b → J6z a b) : ∀ {ps : List (Nat × Nat)}, JfN l ps = true → J6Z l' ps = true
  | [], _ => rfl
  | (i, j) :: r, h => by
    simp only [JfN, Bool.and_eq_true] at h
    obtain ⟨h1, h2⟩ := h
    simp only [J6Z, Bool.and_eq_true]
    refine ⟨?_, JhF hl ho h2⟩
    split at h1
    · rename_i a b ha hb
      have hi : i < l'.length := by have := J5 ha; omega
      have hj : j < l'.length := by have := J5 hb; omega
      have oa := ho i _ _ ha (List.getElem?_eq_getElem hi)
      have ob := ho j _ _ hb (List.getElem?_eq_getElem hj)
      rw [List.getElem?_eq_getElem hi, List.getElem?_eq_getElem hj]
      simp only [Bool.and_eq_true] at h1 ⊢
      exact ⟨⟨Jc7 h1.1.1 oa.2 ob.1, Jc7 h1.1.2 oa.2 ob.2⟩, Jc7 h1.2 oa.1 ob.2⟩
    · cases h1
def Jme (G : TG) (pairs : List (Nat × Nat)) (ins : List J4Y) (s : TSt) (k : TSt → Option R) : Option R :=
  match pairs with
  | [] => Jks G ins s.sto.length (Jg3 (JdA ins) s) k
  | p :: ps => JfL G ins s.sto.length (Jg3 (JdA ins) s) [] fun s' l => if JfN l (p :: ps) = true then k s' else none
theorem Joq {F : Orc} {G : TG} (hG : GOk F G) {pairs : List (Nat × Nat)} {ins : List J4Y} {s : TSt} {k : TSt → Option R} {r : R} (h : Jme G pairs ins s k = some r) : ∃ s', region F pairs (ins.map eri) (J9 s) = some (J9 s') ∧ k s' = some r := by
  have hlen : (J9 s).sto.length = s.sto.length := by simp [J9]
  unfold Jme at h
  split at h
  · obtain ⟨s', h1, h2⟩ := Jj9 hG h
    refine ⟨s', ?_, h2⟩
    simp only [region, JbM]
    rw [Jgm] at h1
    rw [hlen]
    exact h1
  · obtain ⟨s', l', tl, h1, h2, h3, h4⟩ := JhJ hG (l0 := []) rfl (fun j a b ha hb => by simp at ha) h
    split at h2
    · rename_i hp
      refine ⟨s', ?_, h2⟩
      simp only [region, JbM]
      rw [Jgm] at h1
      rw [hlen, h1]
      simp only [JhF h3 h4 hp, if_true]
    · cases h2
end
end Go.Am
end
