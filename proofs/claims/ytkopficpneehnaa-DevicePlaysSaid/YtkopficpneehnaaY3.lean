/-
  Parts of a proof.
-/
import Derived.Below
import Derived.Test.YtkopficpneehnaaY1
import Derived.Test.YtkopficpneehnaaY2
set_option linter.unusedSimpArgs false
set_option linter.unusedVariables false
section
namespace Go.Am
@[congr] theorem Jt5 {o o' : Option Out} {k : St → Option Out} (h : o = o') : thn o k = thn o' k := by rw [h]
@[congr] theorem JsD {α β : Type} {o o' : RM α} {f : α → RM β} (h : o = o') : o.bind f = o'.bind f := by rw [h]
@[congr] theorem JsB {α β : Type} {o o' : Option α} {f : α → Option β} (h : o = o') : o.bind f = o'.bind f := by rw [h]
@[simp] theorem J6U (s k) : thn (some (.normal, s)) k = k s := rfl
@[simp] theorem Jps (i s k) : thn (some (.exit i, s)) k = some (.exit i, s) := rfl
@[simp] theorem JpX (s k) : thn (some (.ret, s)) k = some (.ret, s) := rfl
@[simp] theorem JoD (k) : thn none k = none := rfl
def Jjb (o : Option Out) (k : St → Option Out) : Option Out :=
 match o with
 | some (.normal, s) => k s
 | _ => none
@[congr] theorem JsF {o o' : Option Out} {k : St → Option Out} (h : o = o') : Jjb o k = Jjb o' k := by rw [h]
@[simp] theorem JjC (s k) : Jjb (some (.normal, s)) k = k s := rfl
def blo (id : Nat) (o : Option Out) : Option Out :=
 match o with
 | some (.exit k, s) => if k = id then some (.normal, s) else some (.exit k, s)
 | o => o
@[simp] theorem Jle (id s) : blo id (some (.normal, s)) = some (.normal, s) := rfl
@[simp] theorem Jjm (id i s) : blo id (some (.exit i, s)) = if i = id then some (.normal, s) else some (.exit i, s) := rfl
@[simp] theorem JqP (id s) : blo id (some (.ret, s)) = some (.ret, s) := rfl
@[simp] theorem JoV (id) : blo id none = none := rfl
def nrm (o : Option St) : Option Out := match o with
 | some s => some (.normal, s)
 | none => none
@[simp] theorem JoN (s) : nrm (some s) = some (.normal, s) := rfl
@[simp] theorem JoZ : nrm none = none := rfl
def evv (x : Opd) (env : List (Nat × AV)) : Option AV := match x with
 | .t n => lk n env
 | .c v => some v
@[simp] theorem JtB (n env) : evv (.t n) env = lk n env := rfl
@[simp] theorem JtA (v env) : evv (.c v) env = some v := rfl
theorem JdV (x : Opd) (s : St) : (ev x).run s = evv x s.env := by
 cases x with
 | t n => simp only [ev, RM.run, evv]; cases lk n s.env <;> rfl
 | c v => rfl
section
variable (T : J1Y)
@[simp ↓] theorem JrI (s) : X T .skip s = some (.normal, s) := by rw [J77]; rfl
@[simp ↓] theorem JpJ (a b s) : X T (.seq a b) s = thn (X T a s) fun s => X T b s := by
 rw [J77]; simp only [step]
 cases X T a s with
 | none => rfl
 | some o => obtain ⟨e, s'⟩ := o; cases e <;> rfl
theorem JpL (d ps ins s) : X T (.reg d ps ins) s = nrm (region (AF T) ps ins s) := by
 rw [J77]; simp only [step]
 show (match region (AF T) ps ins s with | some s' => some (AX.normal, s') | none => none) = _
 cases region (AF T) ps ins s <;> rfl
@[simp ↓] theorem Jty (d ins env sto) : X T (.reg d [] ins) ⟨env, sto⟩ = nrm (J1F (AF T) ins sto.length ⟨env, room (news ins) sto⟩) := by
 rw [JpL]; rfl
def cnd (x : Option AV) (a b : Option Out) (c : Unit → Option Out) : Option Out :=
 match x with
 | some (.p (.b x)) => if x = true then a else b
 | some .unk => c ()
 | _ => none
@[congr] theorem Jt2 {x x' : Option AV} {a b : Option Out} {c : Unit → Option Out} (h : x = x') : cnd x a b c = cnd x' a b c := by rw [h]
@[simp] theorem JpU (x a b c) : cnd (some (.p (.b x))) a b c = if x = true then a else b := rfl
@[simp] theorem Jqh (a b c) : cnd (some .unk) a b c = c () := rfl
@[simp ↓] theorem JrR (x a b s) : X T (.cond x a b) s = cnd (evv x s.env) (X T a s) (X T b s) fun _ => same (X T a s) (X T b s) := by
 rw [J77]; simp only [step, JdV]
 cases evv x s.env with
 | none => rfl
 | some v =>
  cases v with
  | p c => cases c <;> rfl
  | _ => rfl
@[simp ↓] theorem Jqp (id c s) : X T (.block id c) s = blo id (X T c s) := by
 rw [J77]; simp only [step]
 cases X T c s with
 | none => rfl
 | some o => obtain ⟨e, s'⟩ := o; cases e <;> rfl
@[simp ↓] theorem Jre (c s) : X T (.scope c) s = X T c s := by rw [J77]; rfl
@[simp ↓] theorem Jsz (id s) : X T (.exit id) s = some (.exit id, s) := by rw [J77]; rfl
@[simp ↓] theorem JsI (s) : X T .ret s = some (.ret, s) := by rw [J77]; rfl
@[simp ↓] theorem Jn5 (live c s) : X T (.keep live c) s = X T c ⟨restr live s.env, s.sto⟩ := by rw [J77]; rfl
@[simp ↓] theorem JtD (live pre x a b rest s) : X T (.br live pre x a b rest) s = Jjb (X T pre s) fun s1 =>
  cnd (evv x s1.env) (thn (X T a s1) fun s => X T rest s) (thn (X T b s1) fun s => X T rest s) fun _ =>
   same (J46 s1.sto.length live (thn (X T a s1) fun s => X T rest s)) (J46 s1.sto.length live (thn (X T b s1) fun s => X T rest s)) := by
 rw [J77]; simp only [step, JdV]
 cases X T pre s with
 | none => rfl
 | some o =>
  obtain ⟨e, s1⟩ := o
  cases e with
  | normal =>
   dsimp only [Jjb]
   cases evv x s1.env with
   | none => rfl
   | some v =>
    cases v with
    | p c => cases c <;> rfl
    | _ => rfl
  | exit => rfl
  | ret => rfl
@[simp ↓] theorem JrK (live c env sto) : X T (.loop live c) ⟨env, sto⟩ = X T (.lp sto.length live c) ⟨restr live env, sto⟩ := by
 rw [J77]; simp [step, clean]
theorem Jo8 (n live c s) : X T (.lp n live c) s = thn (X T c s) fun s => match clean n live s with
  | some s => X T (.lp n live c) s
  | none => none := by
 rw [J77]; simp only [step]
 cases X T c s with
 | none => rfl
 | some o => obtain ⟨e, s'⟩ := o; cases e <;> rfl
def JhH (res : List Jb8) (fresh : Bool) (m : Nat) (o : Option Out) : Option Res :=
 match o with
 | some (.normal, s) => J26 ⟨0, 0, .skip, res, fresh⟩ m s
 | some (.ret, s) => J26 ⟨0, 0, .skip, res, fresh⟩ m s
 | _ => none
@[congr] theorem JsK {res : List Jb8} {fresh : Bool} {m : Nat} {o o' : Option Out} (h : o = o') : JhH res fresh m o = JhH res fresh m o' := by rw [h]
@[simp] theorem Jk1 (res fresh m s) : JhH res fresh m (some (.normal, s)) = J26 ⟨0, 0, .skip, res, fresh⟩ m s := rfl
@[simp] theorem Jp9 (res fresh m s) : JhH res fresh m (some (.ret, s)) = J26 ⟨0, 0, .skip, res, fresh⟩ m s := rfl
theorem Jrl {f : FuncId} {k : J4O} (h : T f = some (.fork k)) (args blks) : AF T f args blks = if args.length = k.np then J7O (X T) k args blks else none := by
 unfold AF J6W; rw [h]
@[simp] theorem JsZ (o : Option Res) : JdR o o = o := by unfold JdR; cases o <;> simp
theorem JsS {f : FuncId} {fn : AFn} (h : T f = some (.fn fn)) (args blks) : AF T f args blks = if args.length = fn.np then
  JhH fn.res fn.fresh blks.length (X T fn.body ⟨J5E 0 args, blks⟩)
 else none := by
 unfold AF J6W; rw [h]; rfl
end
variable {F : Orc} {env : List (Nat × AV)} {sto : List Blk} {new : Nat} {r : List J0q} {d : Nat}
@[simp] theorem Jma (s) : J1F F [] new s = some s := rfl
theorem JjU (i s) : J1F F (i :: r) new s = ((J0t F i new).run s).bind fun e => J1F F r (new + J3j i.op) (put i.dst e s) := by
 simp only [J1F]; cases (J0t F i new).run s <;> rfl
@[simp] theorem Jth : news [] = 0 := rfl
@[simp ↓] theorem Jt7 (i) : news (i :: r) = J3j i.op + news r := rfl
@[simp] theorem Jtz : room 0 sto = sto := rfl
@[simp] theorem Jt3 (n) : room (n + 1) sto = sto ++ List.replicate (n + 1) .dead := rfl
@[simp] theorem Jtw (n) : lk n [] = none := rfl
@[simp] theorem Jqf (n m v) (r : List (Nat × AV)) : lk n ((m, v) :: r) = if n = m then some v else lk n r := rfl
attribute [simp ↓] JjU J0t opD J7U J3j run_bind JdV opR
attribute [simp] put val evs evo J2b J2J
 J7L Jdf Jdr unP J5y JhX fz fz.fzL fz.fz1 fzs J4T J2D J2k sub spl J5P Je0 JfW Jbn JbB J3Z Je8 Jbg J47 J3g J7x J7B J1g J1Z J4P mmP cellsOf unp J45 J38
 J7I one J5E J11 J8B J2B
@[simp] theorem Jt4 (o : Option Out) : same o o = o := by unfold same; cases o <;> simp
@[simp ↓] theorem Jk {α : Type} (a : α) (s : St) : (RM.ret a).run s = some a := rfl
@[simp ↓] theorem Jpu {α : Type} (s : St) : (RM.fail : RM α).run s = none := rfl
@[simp ↓] theorem J4W {α : Type} (n : Nat) (k : AV → RM α) (s : St) : (RM.slot n k).run s = (lk n s.env).bind fun v => (k v).run s := by simp only [RM.run]; cases lk n s.env <;> rfl
@[simp ↓] theorem J0r {α : Type} (n : Nat) (k : Blk → RM α) (s : St) : (RM.blk n k).run s = (s.sto[n]?).bind fun v => (k v).run s := by simp only [RM.run]; cases s.sto[n]? <;> rfl
@[simp] theorem JqL : upd [] sto = sto := rfl
@[simp] theorem Jpk (b x ws) : upd ((b, x) :: ws) sto = upd ws (sto.set b x) := rfl
@[simp] theorem Jt1 : restr [] env = [] := rfl
@[simp] theorem Jlp (k l) : restr (k :: l) env = match lk k env with
  | some v => (k, v) :: restr l env
  | none => restr l env := rfl
end Go.Am
namespace Go.Am
def J4V : AV → Bool
 | .p _ | .data _ | .cp _ _ | .unk => true
 | _ => false
@[simp] theorem Jt8 (c) : J4V (.p c) = true := rfl
@[simp] theorem JsA (c) : J4V (.data c) = true := rfl
@[simp] theorem Jt6 (c o) : J4V (.cp c o) = true := rfl
theorem JeX : ∀ {args : List AV} {l : List Ent}, args.all J4V = true → JV.entsOfL args l = l
 | [], l, _ => rfl
 | x :: r, l, h => by
  simp only [List.all_cons, Bool.and_eq_true] at h
  obtain ⟨h1, h2⟩ := h
  simp only [JV.entsOfL]
  cases x <;> simp [J4V] at h1 <;> simp only [JV] <;> exact JeX h2
theorem Jg8 {ρ : Ent → Option Nat} : ∀ {args : List AV}, args.all J4V = true → ren.renL ρ args = some args
 | [], _ => rfl
 | x :: r, h => by
  simp only [List.all_cons, Bool.and_eq_true] at h
  have := Jg8 (ρ := ρ) h.2
  have h1 := h.1
  clear h
  cases x <;> simp [J4V] at h1 <;> simp [ren.renL, ren, this]
theorem Jp6 {es : List Ent} {new : Nat} {x : AV} (h : J4V x = true) : bk es new x = some x := by
 cases x <;> simp [J4V] at h <;> rfl
theorem JbE {es : List Ent} {new : Nat} : ∀ {xs : List AV}, xs.all J4V = true → bk.bkL es new xs = some xs
 | [], _ => rfl
 | x :: r, h => by
  simp only [List.all_cons, Bool.and_eq_true] at h
  simp [bk.bkL, Jp6 h.1, JbE h.2]
@[simp] theorem JtC (es new c) : bk es new (.p c) = some (.p c) := rfl
@[simp] theorem Jtu (es new c) : bk es new (.data c) = some (.data c) := rfl
@[simp] theorem Jtx (es new l) : bk es new (.tup l) = (bk.bkL es new l).map .tup := by simp only [bk]; cases bk.bkL es new l <;> rfl
@[simp] theorem Jtv (es new) : bk.bkL es new [] = some [] := rfl
@[simp] theorem Jts (es new x l) : bk.bkL es new (x :: l) = (bk es new x).bind fun y => (bk.bkL es new l).map fun l => y :: l := by
 simp only [bk.bkL]; cases bk es new x <;> simp; cases bk.bkL es new l <;> rfl
@[simp] theorem JsC (n live) : J46 n live none = none := rfl
@[simp] theorem Jk5 (n live e s) : J46 n live (some (e, s)) = (clean n live s).map fun s => (e, s) := by
 simp only [J46]; cases clean n live s <;> rfl
attribute [simp ↓] Option.bind_some Option.bind_none J6U Jps JpX JoD JjC JoN JoZ JpU Jqh Jle Jjm JqP JoV Jk1 Jp9 Jma Jqf Jlp JqL Jpk
attribute [simp] clean JbN J7w J3f fin fin.finL J26 J2Q J7p JV JV.entsOfL J7E J2U J9l J2K unp
end Go.Am
end
section
namespace Go.Am
inductive Fr where
 | sq (b : J03)
 | bl (id : Nat)
 | td (n : Nat) (live : List Nat)
 | lo (n : Nat) (live : List Nat) (c : J03)
noncomputable def again (T : J1Y) (n : Nat) (live : List Nat) (c : J03) (o : Option St) : Option Out := match o with
 | some s => X T (.lp n live c) s
 | none => none
section
variable (T : J1Y) (f : AFn) (m : Nat) (k : List Fr)
theorem JrT (live c s) : X T (.tidy live c) s = J46 s.sto.length live (X T c s) := by rw [J77]; rfl
end
open Classical in
noncomputable def JK {σ ρ : Type} (f : σ → Option (σ ⊕ ρ)) (s : σ) : Option ρ :=
 let it : Nat → σ → Option ρ := fun n => n.rec (fun _ => none) fun _ ih s => match f s with
  | some (.inl s') => ih s'
  | some (.inr r) => some r
  | none => none
 if h : ∃ n r, it n s = some r then it (Classical.choose h) s else none
def J5e {σ ρ : Type} (f : σ → Option (σ ⊕ ρ)) : Nat → σ → Option ρ
 | 0, _ => none
 | n + 1, s => match f s with
  | some (.inl s') => J5e f n s'
  | some (.inr r) => some r
  | none => none
section
variable {σ ρ : Type} {f : σ → Option (σ ⊕ ρ)}
theorem Jfp (n : Nat) : ∀ s : σ, (Nat.rec (motive := fun _ => σ → Option ρ) (fun _ => none) (fun _ ih s => match f s with
  | some (.inl s') => ih s'
  | some (.inr r) => some r
  | none => none) n) s = J5e f n s := by
 induction n with
 | zero => intro s; rfl
 | succ n ih => intro s; simp only [J5e]; split <;> first | rfl | exact ih _
theorem Jbq : ∀ {n : Nat} {s : σ} {r : ρ} (m : Nat), J5e f n s = some r → J5e f (n + m) s = some r
 | 0, _, _, _, h => by cases h
 | n + 1, s, r, m, h => by
  rw [show n + 1 + m = (n + m) + 1 by omega]
  simp only [J5e] at h ⊢
  split at h
  ·exact Jbq m h
  ·exact h
  ·cases h
theorem JoH {n m : Nat} {s : σ} {r r' : ρ} (h : J5e f n s = some r) (h' : J5e f m s = some r') : r = r' := by
 have a := Jbq m h
 have b := Jbq n h'
 rw [Nat.add_comm m n] at b
 rw [a] at b; injection b
theorem J93 {s : σ} {r : ρ} : JK f s = some r ↔ ∃ n, J5e f n s = some r := by
 unfold JK
 dsimp only
 constructor
 ·intro h
  split at h
  ·exact ⟨_, by rw [← Jfp]; exact h⟩
  ·cases h
 ·rintro ⟨n, h⟩
  have hex : ∃ n r, (Nat.rec (motive := fun _ => σ → Option ρ) (fun _ => none) (fun _ ih s => match f s with
   | some (.inl s') => ih s'
   | some (.inr r) => some r
   | none => none) n) s = some r := ⟨n, r, by rw [Jfp]; exact h⟩
  rw [dif_pos hex]
  obtain ⟨r', hr⟩ := Classical.choose_spec hex
  rw [hr]
  rw [Jfp] at hr
  rw [JoH hr h]
theorem Jlr {s : σ} {r : ρ} (h : f s = some (.inr r)) : JK f s = some r := J93.2 ⟨1, by simp only [J5e, h]⟩
theorem Jmc {s s' : σ} (h : f s = some (.inl s')) : JK f s = JK f s' := by
 have key : ∀ r, JK f s = some r ↔ JK f s' = some r := by
  intro r
  rw [J93, J93]
  constructor
  ·rintro ⟨n, hn⟩
   cases n with
   | zero => cases hn
   | succ n => simp only [J5e, h] at hn; exact ⟨n, hn⟩
  ·rintro ⟨n, hn⟩
   exact ⟨n + 1, by simp only [J5e, h]; exact hn⟩
 cases hs : JK f s with
 | some r => exact ((key r).1 hs).symm
 | none =>
  cases hs' : JK f s' with
  | none => rfl
  | some r => rw [(key r).2 hs'] at hs; cases hs
theorem JnM {P : σ → ρ → Prop} (h1 : ∀ s r, f s = some (.inr r) → P s r) (h2 : ∀ s s' r, f s = some (.inl s') → P s' r → P s r) {s : σ} {r : ρ} (h : JK f s = some r) : P s r := by
 obtain ⟨n, hn⟩ := J93.1 h
 clear h
 induction n generalizing s with
 | zero => cases hn
 | succ n ih =>
  simp only [J5e] at hn
  split at hn
  ·rename_i h; exact h2 _ _ _ h (ih hn)
  ·rename_i h; injection hn with hn; subst hn; exact h1 _ _ h
  ·cases hn
end
end Go.Am
end
section
namespace Go.Am
section
variable {α : Type}
def idx (l : List α) (n : Int) : Option α := if 0 ≤ n then l[n.toNat]? else none
def inb (k : Nat) (n : Int) : Option Unit := if 0 ≤ n ∧ n < k then some () else none
def J4j (bytes : Nat) (l l' : List α) : Option (List α) := if J1Z (l.length + l'.length) bytes = true then some (l ++ l') else none
def cloS (bytes : Nat) (l : List α) : Option (List α) := if J1Z l.length bytes = true then some l else none
def Jrq (bytes : Nat) (l l' : List α) : Option (List α) := if 0 < l'.length ∧ J1Z (l.length + l'.length) bytes = true then some (l ++ l') else none
def mkS (bytes : Nat) (n m : Int) (z : α) : Option (List α) :=
 if 0 ≤ n ∧ n ≤ m ∧ bytes * m ≤ 281474976710656 ∧ m ≤ 281474976710656 then some (List.replicate n.toNat z) else none
def JhZ (x : Option Int) (top dflt : Nat) : Option Nat := match x with
 | none => some dflt
 | some n => if 0 ≤ n ∧ n ≤ top then some n.toNat else none
def JfM (n : Nat) (lo hi : Option Int) : Option (Nat × Nat) := match JhZ hi n n with
 | none => none
 | some h => match JhZ lo h 0 with
  | none => none
  | some l => some (l, h)
def J8z (l : List α) (lo hi : Option Int) : Option (List α) := match JfM l.length lo hi with
 | some c => some ((l.drop c.1).take (c.2 - c.1))
 | none => none
def Jso (k : IntKind) (x y : Int) : Option Int := if y = 0 then none else some (k.wrap (x.tdiv y))
def JbA (x y : Int) : Option Int := if y = 0 then none else some (x.tmod y)
def Jsj (k : IntKind) (x y : Int) : Option Int := if y < 0 then none else some (k.wrap (x * 2 ^ (min y.toNat k.bits)))
def JrN (k : IntKind) (x y : Int) : Option Int := if y < 0 then none else some (x.fdiv (2 ^ (min y.toNat k.bits)))
def Jte (k : IntKind) (x y : Int) : Int := k.wrap (BitVec.ofInt k.bits x &&& BitVec.ofInt k.bits y).toNat
def orI (k : IntKind) (x y : Int) : Int := k.wrap (BitVec.ofInt k.bits x ||| BitVec.ofInt k.bits y).toNat
def JhN (k : IntKind) (x y : Int) : Int := k.wrap (BitVec.ofInt k.bits x ^^^ BitVec.ofInt k.bits y).toNat
def Jt9 (k : IntKind) (n : Int) : Int := k.wrap (BitVec.ofInt k.bits (if k.signed then -1 else k.max) ^^^ BitVec.ofInt k.bits n).toNat
def Jdc (a b : List UInt8) : Option (List UInt8) := if a.length + b.length ≤ 4611686018427387904 then some (a ++ b) else none
def Jsx (l : List UInt8) (n : Int) : Option Int := if 0 ≤ n then (match l[n.toNat]? with | some u => some (u.toNat : Int) | none => none) else none
def Joq {k : Nat} (v : Vector α k) (n : Int) : Option α := if 0 ≤ n ∧ n < k then v[n.toNat]? else none
def toStr (l : List Int) : List UInt8 := l.map fun n => UInt8.ofNat n.toNat
def toByt (l : List UInt8) : List Int := l.map fun u => (u.toNat : Int)
def Jtb (x y : Int) : Int := if y < x then y else x
def Jtj (x y : Int) : Int := if y > x then y else x
end
@[reducible] def cat (a b : List PV) : List PV := a ++ b
def r_i (k : IntKind) (n : Int) : List PV := [.i k n]
def r_b (x : Bool) : List PV := [.b x]
def r_s (l : List UInt8) : List PV := [.s l]
def Jtf {α : Type} (esz : Nat) (r : α → List PV) (l : List α) : List PV := [.sl esz (l.map r)]
def J6J {α : Type} {n : Nat} (r : α → List PV) (v : Vector α n) : List PV := (v.toList.map r).flatten
section
variable {α : Type}
theorem J5t (cs : List α) (off size : Nat) : sub cs off size = if off + size ≤ cs.length then some ((cs.drop off).take size) else none := by
 unfold sub
 split
 ·rename_i h
  obtain ⟨rfl, rfl⟩ := h
  simp
 ·rfl
theorem J6v (cs : List α) (off : Nat) (vs : List α) : spl cs off vs = if off + vs.length ≤ cs.length then some (cs.take off ++ vs ++ cs.drop (off + vs.length)) else none := by
 unfold spl
 split
 ·rename_i h
  obtain ⟨rfl, h⟩ := h
  rw [if_pos (by omega)]
  simp [← h]
 ·rfl
theorem Jf5 {cs : List α} {n : Nat} (h : cs.length = n) : sub cs 0 n = some cs := by
 subst h; rw [J5t]; simp
theorem Jk7 {cs vs : List α} (h : cs.length = vs.length) : spl cs 0 vs = some vs := by
 rw [J6v]; simp [h]
theorem Jmt {a b c : List α} {off size : Nat} (h1 : a.length = off) (h2 : b.length = size) : sub (a ++ (b ++ c)) off size = some b := by
 subst h1 h2
 rw [J5t, if_pos (by simp)]
 simp
theorem JlK {b c : List α} {size : Nat} (h2 : b.length = size) : sub (b ++ c) 0 size = some b := Jmt (a := []) rfl h2
theorem JnL {a b c v : List α} {off : Nat} (h1 : a.length = off) (h2 : b.length = v.length) : spl (a ++ (b ++ c)) off v = some (a ++ (v ++ c)) := by
 subst h1
 rw [J6v, if_pos (by simp; omega), ← h2]
 simp
theorem JlO {b c v : List α} (h2 : b.length = v.length) : spl (b ++ c) 0 v = some (v ++ c) := JnL (a := []) rfl h2
theorem Jl1 {cs ds r : List α} {a m k n : Nat} (h1 : sub cs a m = some ds) (h2 : sub ds k n = some r) : sub cs (a + k) n = some r := by
 rw [J5t] at h1 h2 ⊢
 split at h1
 ·injection h1 with h1; subst h1
  split at h2
  ·rename_i h3 h4
   injection h2 with h2; subst h2
   simp at h4
   rw [if_pos (by omega), List.drop_take, List.take_take, List.drop_drop]
   congr 2
   omega
  ·cases h2
 ·cases h1
theorem JkN {cs ds ds' v cs' : List α} {a m k : Nat} (h1 : sub cs a m = some ds) (h2 : spl ds k v = some ds') (h3 : spl cs a ds' = some cs') : spl cs (a + k) v = some cs' := by
 rw [J5t] at h1
 rw [J6v] at h2 h3 ⊢
 split at h1
 ·rename_i h4
  injection h1 with h1; subst h1
  split at h2
  ·rename_i h5
   injection h2 with h2; subst h2
   simp at h5
   split at h3
   ·injection h3 with h3; subst h3
    rw [if_pos (by omega)]
    congr 1
    simp only [List.length_append, List.length_take, List.length_drop, List.take_take, List.drop_take, List.drop_drop, List.append_assoc]
    have e1 : cs.take (a + k) = cs.take a ++ (cs.drop a).take k := List.take_add ..
    rw [e1, List.append_assoc]
    rw [show min k m = k by omega]
    congr 3
    have e2 : cs.drop (a + k + v.length) = (cs.drop (a + (k + v.length))).take (m - (k + v.length)) ++ cs.drop (a + m) := by
     have := List.take_append_drop (m - (k + v.length)) (cs.drop (a + (k + v.length)))
     rw [List.drop_drop] at this
     rw [show a + (k + v.length) + (m - (k + v.length)) = a + m by omega] at this
     rw [this]; congr 1; omega
    rw [e2]
    congr 2
    omega
   ·cases h3
  ·cases h2
 ·cases h1
theorem J7c {β : Type} (g : α → β) (cs : List α) (off size : Nat) : sub (cs.map g) off size = (sub cs off size).map (List.map g) := by
 rw [J5t, J5t]
 simp only [List.length_map]
 split <;> simp [List.map_drop, List.map_take]
theorem J7e {β : Type} (g : α → β) (cs : List α) (off : Nat) (vs : List α) : spl (cs.map g) off (vs.map g) = (spl cs off vs).map (List.map g) := by
 rw [J6v, J6v]
 simp only [List.length_map]
 split <;> simp [List.map_drop, List.map_take]
theorem Jbw {n k w : Nat} {r : α → List PV} (hr : ∀ x, (r x).length = w) {v : Vector α n} {x : α} (h : v[k]? = some x) : sub (J6J r v) (k * w) w = some (r x) := by
 have key : ∀ (l : List α) (k : Nat) (x : α), l[k]? = some x → sub ((l.map r).flatten) (k * w) w = some (r x) := by
  intro l
  induction l with
  | nil => intro k x h; simp at h
  | cons y l ih =>
   intro k x h
   cases k with
   | zero =>
    simp at h; subst h
    rw [Nat.zero_mul, List.map_cons, List.flatten_cons]
    exact JlK (hr _)
   | succ k =>
    simp at h
    have := ih k x h
    rw [List.map_cons, List.flatten_cons]
    rw [J5t] at this ⊢
    split at this
    ·injection this with this
     have e : (k + 1) * w = w + k * w := by rw [Nat.succ_mul]; omega
     rw [e, if_pos (by simp [hr]; simp at *; omega)]
     have e2 : w + k * w = (r y).length + k * w := by rw [hr]
     rw [e2, List.drop_length_add_append, this]
    ·cases this
 exact key _ _ _ (by rw [← h]; simp)
theorem JmD {n k w : Nat} {r : α → List PV} (hr : ∀ x, (r x).length = w) {v : Vector α n} (h : k < n) (y : α) : spl (J6J r v) (k * w) (r y) = some (J6J r (v.setIfInBounds k y)) := by
 have key : ∀ (l : List α) (k : Nat), k < l.length → spl ((l.map r).flatten) (k * w) (r y) = some (((l.set k y).map r).flatten) := by
  intro l
  induction l with
  | nil => intro k h; simp at h
  | cons z l ih =>
   intro k h
   cases k with
   | zero =>
    rw [Nat.zero_mul, List.map_cons, List.flatten_cons]
    rw [JlO (by rw [hr, hr])]
    simp
   | succ k =>
    simp at h
    have := ih k h
    rw [List.map_cons, List.flatten_cons]
    rw [J6v] at this ⊢
    split at this
    ·rename_i hle
     injection this with this
     have e : (k + 1) * w = (r z).length + k * w := by rw [Nat.succ_mul, hr]; omega
     rw [e, if_pos (by simp [hr] at hle ⊢; omega)]
     simp only [List.set_cons_succ, List.map_cons, List.flatten_cons]
     rw [← this]
     rw [show (r z).length + k * w + (r y).length = (r z).length + (k * w + (r y).length) by omega]
     simp only [List.take_length_add_append, List.drop_length_add_append, List.append_assoc]
    ·cases this
 have h2 := key v.toList k (by simpa using h)
 unfold J6J
 rw [h2]
 congr 3
 simp [Vector.setIfInBounds, Vector.toList]
theorem Jsm {n w : Nat} {r : α → List PV} (hr : ∀ x, (r x).length = w) (v : Vector α n) : (J6J r v).length = n * w := by
 have key : ∀ l : List α, ((l.map r).flatten).length = l.length * w := by
  intro l
  induction l with
  | nil => simp
  | cons x l ih => simp [ih, hr, Nat.succ_mul, Nat.add_comm]
 unfold J6J
 rw [key]; simp
end
theorem J8y : ∀ l : List PV, unp (l.map AV.p) = some l
 | [] => rfl
 | x :: l => by simp [unp, J8y l]
theorem JcN (l : List PV) : J2b true (l.map AV.p) = some (.data l) := by simp [J2b, J8y]
theorem J5r : ∀ l : List PV, (l.map AV.p).all J4V = true
 | [] => rfl
 | x :: l => by simp
theorem JgB (m : Nat) (ids : List Nat) (sto : List Blk) : ∀ l : List PV, fin.finL m ids sto (l.map AV.p) = some (l.map AV.p)
 | [] => rfl
 | x :: l => by simp [fin.finL, fin, JgB m ids sto l]
theorem JgE (l : List PV) (acc : List Ent) : JV.entsOfL (l.map AV.p) acc = acc := JeX (J5r l)
theorem Jne {α : Type} {r : α → List PV} {l : List α} {n : Int} {x : α} (h : idx l n = some x) : Je8 (l.map r) n = some (r x) := by
 unfold idx at h
 unfold Je8
 split at h
 ·rename_i h0
  rw [if_pos h0, List.getElem?_map, h]; rfl
 ·cases h
theorem Jkv {k : Nat} {n : Int} {u : Unit} (h : inb k n = some u) : 0 ≤ n ∧ n < k := by
 unfold inb at h
 split at h
 ·assumption
 ·cases h
theorem Jpw {α : Type} {k : Nat} {v : Vector α k} {n : Int} {x : α} (h : Joq v n = some x) : (0 ≤ n ∧ n < k) ∧ v[n.toNat]? = some x := by
 unfold Joq at h
 split at h
 ·exact ⟨by assumption, h⟩
 ·cases h
theorem Jr8 {α : Type} {r : α → List PV} {esz bytes b : Nat} {w : Bool} {l l' l2 : List α} {y : AV} {s : St} (h : J4j bytes l l2 = some l') (hb : s.sto[b]? = some (.arr w esz (l.map r))) (hy : (J1g esz y).run s = some (l2.map r)) :
  (J4P esz bytes (.slr b 0 l.length) y).run s = some ⟨.slr b 0 l'.length, [(b, .arr w esz (l'.map r))]⟩ := by
 unfold J4j at h
 split at h
 ·rename_i hr
  injection h with h; subst h
  simp only [J4P, J0r, hb, Option.bind_some, run_bind, hy]
  rw [if_pos ⟨by trivial, by trivial, by simp, by simpa using hr⟩]
  simp [Jk]
 ·cases h
theorem Jam : ∀ l : List Int, J5b (l.map (r_i .u8)) = some (toStr l)
 | [] => rfl
 | x :: l => by simp [J5b, r_i, Jam l, toStr]
theorem Jdo (l : List UInt8) : l.map J2B = (toByt l).map (r_i .u8) := by simp [toByt, J2B, r_i, Function.comp_def]
theorem JpB {α : Type} {bytes : Nat} {l l' : List α} (h : cloS bytes l = some l') : J1Z l.length bytes = true ∧ l' = l := by
 unfold cloS at h
 split at h
 ·injection h with h; exact ⟨by assumption, h.symm⟩
 ·cases h
theorem Jqk {α : Type} {bytes : Nat} {n m : Int} {z : α} {l : List α} (h : mkS bytes n m z = some l) : (0 ≤ n ∧ n ≤ m ∧ bytes * m ≤ 281474976710656 ∧ m ≤ 281474976710656) ∧ l = List.replicate n.toNat z := by
 unfold mkS at h
 split at h
 ·injection h with h; exact ⟨by assumption, h.symm⟩
 ·cases h
end Go.Am
end
section
set_option linter.unusedSimpArgs false
set_option linter.unusedVariables false
namespace Go.Am
open Go.RowKit
theorem JoG {σ : List Blk} {g : Gh} {w w' : World} (hi : Inv ⟨σ, g, w⟩) (hb : Below w.heap.size w w') :
  Inv ⟨σ, g, w'⟩ ∧ Ju ⟨σ, g, w⟩ ⟨σ, g, w'⟩ := by
 have hk : ∀ (r : Nat) x, w.heap[r]? = some x → w'.heap[r]? = some x := fun r x h => by rw [hb.block r (J0h h)]; exact h
 have hc : ∀ r o v, cellAt w r o = some v → cellAt w' r o = some v := by
  intro r o v h
  have hr : r < w.heap.size := by
   unfold cellAt at h
   split at h
   ·rename_i hx; exact J0h hx
   ·cases h
  unfold cellAt at h ⊢
  rw [hb.block r hr]
  exact h
 have t : Ju ⟨σ, g, w⟩ ⟨σ, g, w'⟩ := by
  refine ⟨⟨hb.size, fun r c e fz h => ⟨c, hk r _ h, rfl, fun _ _ => rfl⟩, fun r x h _ => hk r x h, hb.os, hb.output⟩, fun _ _ h => h, fun _ _ h => .inl h, fun r o ⟨b, hb⟩ => .inl ⟨b, hb⟩, Nat.le_refl _, fun _ cs h => ⟨⟨cs, h, rfl⟩, rfl⟩,
   fun _ wm _ rows h => ⟨wm, rows, h, id, Nat.le_refl _, fun _ => rfl⟩⟩
 exact ⟨J4v hi t (fun _ => False) (fun _ _ => ⟨rfl, rfl⟩) (fun _ r o v _ _ h => hc r o v h) (fun _ _ h => h.elim) (fun _ _ _ _ h => h.elim)
  (fun _ _ _ _ h => h.elim) (fun r o h => Nat.lt_of_lt_of_le (hi.const r o h).1 hb.size) (fun _ _ _ _ h => h.elim) (fun _ _ _ h h' => (h' h).elim), t⟩
def JdC : PV → Option Value
 | .b x => some (.bool x)
 | .i k n => some (.int k n)
 | .s l => some (.string ⟨l.toArray⟩)
 | _ => none
theorem Jo9 {x : PV} {v : Value} (h : JdC x = some v) (w : World) (C : Nat → Nat → Prop) : Jp w C x v := by
 cases x <;> simp only [JdC, Option.some.injEq, reduceCtorEq] at h <;> subst h
 ·exact .b _
 ·exact .i _ _
 ·exact .s _
theorem Jq9 {x : PV} {v v' : Value} {w : World} {C : Nat → Nat → Prop} (h : Jp w C x v) (hv : JdC x = some v') : v = v' := by
 cases x <;> simp only [JdC, Option.some.injEq, reduceCtorEq] at hv <;> subst hv <;> cases h <;> rfl
theorem JqY {P : Program} {f : FuncId} {xs : List PV} {vs : List Value} {r : PV} {v : Value} {blks : List Blk}
  (hf : ∃ fn, P.funcs[f]? = some fn ∧ fn.body.isSome = true ∧ (fn.name == "runtime.NumGoroutine") = false)
  (hx : xs.mapM JdC = some vs) (hr : JdC r = some v)
  (hc : ∀ w, Calls P f vs.toArray w fun e w' => e = .returned v ∧ Below w.heap.size w w') :
  J1P P f (xs.map .p) blks (.p r, blks) := by
 refine ⟨hf, fun g w vals hi hl ha => ?_⟩
 have hvals : vals = vs.toArray := by
  have key : ∀ (xs : List PV) (vs vl : List Value), xs.mapM JdC = some vs → xs.length = vl.length →
    (∀ (i : Nat) x v, (xs.map AV.p)[i]? = some x → vl[i]? = some v → Ji ⟨blks, g, w⟩ x v) → vl = vs := by
   intro xs
   induction xs with
   | nil => intro vs vl h1 h2 _; simp at h1 h2; subst h1; exact List.length_eq_zero_iff.1 h2.symm
   | cons x r ih =>
    intro vs vl h1 h2 h3
    simp only [List.mapM_cons, Option.pure_def, Option.bind_eq_bind] at h1
    obtain ⟨v0, hv0, h1⟩ := Option.bind_eq_some_iff.1 h1
    obtain ⟨vr, hvr, h1⟩ := Option.bind_eq_some_iff.1 h1
    simp only [Option.some.injEq] at h1
    subst h1
    cases vl with
    | nil => simp at h2
    | cons u ur =>
     have := h3 0 (.p x) u rfl rfl
     cases this with
     | p _ _ hp =>
      rw [Jq9 hp hv0, ih vr ur hvr (by simpa using h2) (fun i x v hx hv => h3 (i + 1) x v hx hv)]
  apply Array.ext'
  rw [key xs vs vals.toList hx (by simpa using hl) (fun i x v h1 h2 => ha i x v h1 (by simpa using h2))]
 subst hvals
 refine (hc w).mono ?_
 rintro e w' ⟨rfl, hb⟩
 obtain ⟨hi', t⟩ := JoG hi hb
 exact ⟨v, g, rfl, hi', t, .p _ _ (Jo9 hr _ _)⟩
theorem Jfh {T : J1Y} {f : FuncId} {g : List AV → List Blk → Option Res} (h : T f = some (.prim g)) (args blks) : AF T f args blks = g args blks := by
 unfold AF J6W; rw [h]
def Jp8 (a : Option AFn) (k : Option J4O) (g q : Option (List AV → List Blk → Option Res)) : Option JlC :=
 match a with
 | some a => some (.fn a)
 | none => match k with
  | some k => some (.fork k)
  | none => match g with
   | some g => some (.prim g)
   | none => q.map .prim
theorem J30 {a : Option AFn} {k : Option J4O} {g q : Option (List AV → List Blk → Option Res)} {e : JlC} (h : Jp8 a k g q = some e) :
  (∃ x, a = some x ∧ e = .fn x) ∨ (∃ x, k = some x ∧ e = .fork x) ∨ (∃ x, g = some x ∧ e = .prim x) ∨ (∃ x, q = some x ∧ e = .prim x) := by
 cases a with
 | some a => exact .inl ⟨a, rfl, by injection h with h; exact h.symm⟩
 | none =>
  cases k with
  | some k => exact .inr (.inl ⟨k, rfl, by injection h with h; exact h.symm⟩)
  | none =>
   cases g with
   | some g => exact .inr (.inr (.inl ⟨g, rfl, by injection h with h; exact h.symm⟩))
   | none =>
    cases q with
    | some q => exact .inr (.inr (.inr ⟨q, rfl, by injection h with h; exact h.symm⟩))
    | none => cases h
def Jif (l : List UInt8) (n : Int) : Option (List UInt8) :=
 if 0 ≤ n ∧ n ≤ 9223372036854775807 ∧ l.length * n.toNat ≤ 140737488355328 then some (List.replicate n.toNat l).flatten else none
def Jis : List AV → List Blk → Option Res
 | [.p (.s l), .p (.i .i64 n)], blks => (Jif l n).map fun r => (.p (.s r), blks)
 | _, _ => none
theorem JsM (x y : Bool) : J0A [.b] [.b x] [.b y] = some (decide (x = y)) := by
 simp only [J0A, Jad]
 cases x <;> cases y <;> rfl
theorem Jt0 (k : IntKind) (x y : Int) : J0A [.i k] [.i k x] [.i k y] = some (decide (x = y)) := by
 by_cases h : x = y <;> simp [J0A, Jad, h]
theorem JsG (x y : List UInt8) : J0A [.s] [.s x] [.s y] = some (decide (x = y)) := by
 by_cases h : x = y <;> simp [J0A, Jad, h]
theorem JkZ {p q : Prop} [Decidable p] [Decidable q] : ∀ {k1 k2 : List KD} {a1 a2 b1 b2 : List PV}, J0A k1 a1 b1 = some (decide p) → J0A k2 a2 b2 = some (decide q) → J0A (k1 ++ k2) (cat a1 a2) (cat b1 b2) = some (decide (p ∧ q)) := by
 have key : ∀ (k1 k2 : List KD) (a1 a2 b1 b2 : List PV) (r s : Bool), J0A k1 a1 b1 = some r → J0A k2 a2 b2 = some s → J0A (k1 ++ k2) (a1 ++ a2) (b1 ++ b2) = some (r && s) := by
  intro k1
  induction k1 with
  | nil =>
   intro k2 a1 a2 b1 b2 r s h1 h2
   cases a1 <;> cases b1 <;> simp [J0A] at h1
   subst h1
   simpa using h2
  | cons k ks ih =>
   intro k2 a1 a2 b1 b2 r s h1 h2
   cases a1 with
   | nil => simp [J0A] at h1
   | cons a a1 =>
    cases b1 with
    | nil => simp [J0A] at h1
    | cons b b1 =>
     simp only [J0A] at h1
     split at h1
     ·rename_i u c hu hc
      injection h1 with h1
      subst h1
      simp only [List.cons_append, J0A, hu, ih _ _ _ _ _ _ _ hc h2, Bool.and_assoc]
     ·cases h1
 intro k1 k2 a1 a2 b1 b2 h1 h2
 rw [key _ _ _ _ _ _ _ _ h1 h2, Bool.decide_and]
theorem Jse {α : Type} [DecidableEq α] {n : Nat} {ks : List KD} {r : α → List PV} (h : ∀ x y, J0A ks (r x) (r y) = some (decide (x = y))) (v w : Vector α n) :
  J0A (List.replicate n ks).flatten (J6J r v) (J6J r w) = some (decide (v = w)) := by
 have key : ∀ (l l' : List α), l.length = l'.length → J0A (List.replicate l.length ks).flatten (l.map r).flatten (l'.map r).flatten = some (decide (l = l')) := by
  intro l
  induction l with
  | nil => intro l' h1; cases l' with
   | nil => simp [J0A]
   | cons a l' => simp at h1
  | cons a l ih =>
   intro l' h1
   cases l' with
   | nil => simp at h1
   | cons b l' =>
    have h2 := JkZ (h a b) (ih l' (by simpa using h1))
    simp only [List.length_cons, List.replicate_succ, List.flatten_cons, List.map_cons]
    rw [show (decide (a :: l = b :: l')) = decide (a = b ∧ l = l') by simp]
    exact h2
 have h3 := key v.toList w.toList (by simp)
 rw [show v.toList.length = n by simp] at h3
 rw [show decide (v = w) = decide (v.toList = w.toList) by
  apply decide_eq_decide.2
  exact ⟨fun e => by rw [e], fun e => Vector.toList_inj.1 e⟩]
 exact h3
end Go.Am
end
section
namespace Go.Am
def Jb (k : IntKind) (a c : Int) : Int := k.wrap (a + c)
def J4h (k : IntKind) (a c : Int) : Int := k.wrap (a - c)
def Ji8 (k : IntKind) (a c : Int) : Int := k.wrap (a * c)
def Jtp (k : IntKind) (n : Int) : Int := k.wrap (0 - n)
def cvI (k : IntKind) (n : Int) : Int := k.wrap n
def eqI (a c : Int) : Bool := decide (a = c)
def neI (a c : Int) : Bool := !decide (a = c)
def ltI (a c : Int) : Bool := decide (a < c)
def leI (a c : Int) : Bool := decide (a ≤ c)
def gtI (a c : Int) : Bool := decide (a > c)
def geI (a c : Int) : Bool := decide (a ≥ c)
def eqS (a c : List UInt8) : Bool := decide (a = c)
def neS (a c : List UInt8) : Bool := !decide (a = c)
def ltS (a c : List UInt8) : Bool := Op.bytesLess a c
def leS (a c : List UInt8) : Bool := Op.bytesLess a c || decide (a = c)
def gtS (a c : List UInt8) : Bool := !(Op.bytesLess a c || decide (a = c))
def geS (a c : List UInt8) : Bool := !Op.bytesLess a c
def eqB (a c : Bool) : Bool := decide (a = c)
def J2x (x : Bool) : Bool := !x
def J8 {α : Type} (l : List α) : Int := l.length
def Jtl {α : Type} (c : Bool) (x y : α) : α := if c = true then x else y
def lat {α : Type} (l : List α) (i : Nat) : Option α := l[i]?
def J2X {α : Type} (l : List α) (i : Nat) (x : α) : List α := l.set i x
def vat {α : Type} {n : Nat} (l : Vector α n) (i : Nat) : Option α := l[i]?
def Jru {α : Type} {n : Nat} (l : Vector α n) (i : Nat) (x : α) : Vector α n := l.setIfInBounds i x
inductive Ty where
 | b
 | i (k : IntKind)
 | s
 | l (t : Ty)
 | pr (a c : Ty)
 | ar (n : Nat) (t : Ty)
 | u
 | f
 deriving DecidableEq
@[reducible] def Ty.D : Ty → Type
 | .b => Bool
 | .i _ => Int
 | .s => List UInt8
 | .l t => List t.D
 | .pr a c => a.D × c.D
 | .ar n t => Vector t.D n
 | .u => Unit
 | .f => Unit
def Ty.sz : Ty → Nat
 | .b => 1
 | .i _ => 1
 | .s => 1
 | .l _ => 1
 | .pr a c => a.sz + c.sz
 | .ar n t => n * t.sz
 | .u => 0
 | .f => 1
def cel : (t : Ty) → t.D → List PV
 | .b, x => [.b x]
 | .i k, x => [.i k x]
 | .s, x => [.s x]
 | .l t, x => [.sl t.sz (x.map (cel t))]
 | .pr a c, x => cel a x.1 ++ cel c x.2
 | .ar _ t, x => J6J (cel t) x
 | .u, _ => []
 | .f, _ => [.nf]
theorem J0d : ∀ (t : Ty) (x : t.D), (cel t x).length = t.sz
 | .b, _ => rfl
 | .i _, _ => rfl
 | .s, _ => rfl
 | .l _, _ => rfl
 | .pr a c, x => by simp only [cel, List.length_append, J0d a, J0d c, Ty.sz]
 | .ar n t, x => by simp only [cel, Ty.sz]; exact Jsm (J0d t) x
 | .u, _ => rfl
 | .f, _ => rfl
def Ty.eqd : (t : Ty) → DecidableEq t.D
 | .b => inferInstanceAs (DecidableEq Bool)
 | .i _ => inferInstanceAs (DecidableEq Int)
 | .s => inferInstanceAs (DecidableEq (List UInt8))
 | .l t => have := t.eqd; inferInstanceAs (DecidableEq (List t.D))
 | .pr a c => have := a.eqd; have := c.eqd; inferInstanceAs (DecidableEq (a.D × c.D))
 | .ar n t => have := t.eqd; inferInstanceAs (DecidableEq (Vector t.D n))
 | .u => inferInstanceAs (DecidableEq Unit)
 | .f => inferInstanceAs (DecidableEq Unit)
def eqT (t : Ty) (x y : t.D) : Bool := have := t.eqd; decide (x = y)
theorem J79 {t : Ty} {x y : t.D} : eqT t x y = true ↔ x = y := by simp [eqT]
def Ty.zero : (t : Ty) → t.D
 | .b => false
 | .i _ => (0 : Int)
 | .s => []
 | .l _ => []
 | .pr a c => (a.zero, c.zero)
 | .ar n t => Vector.replicate n t.zero
 | .u => ()
 | .f => ()
def Ty.ks : Ty → Option (List KD)
 | .b => some [.b]
 | .i k => some [.i k]
 | .s => some [.s]
 | .l _ => none
 | .pr a c => match a.ks, c.ks with
  | some x, some y => some (x ++ y)
  | _, _ => none
 | .ar n t => match t.ks with
  | some x => some (List.replicate n x).flatten
  | none => none
 | .u => some []
 | .f => none
theorem Jc3 : ∀ (t : Ty) {ks : List KD} (x y : t.D), t.ks = some ks → J0A ks (cel t x) (cel t y) = some (eqT t x y)
 | .b, ks, x, y, h => by injection h with h; subst h; exact JsM x y
 | .i k, ks, x, y, h => by injection h with h; subst h; exact Jt0 k x y
 | .s, ks, x, y, h => by injection h with h; subst h; exact JsG x y
 | .l _, _, _, _, h => by cases h
 | .pr a c, ks, x, y, h => by
  simp only [Ty.ks] at h
  split at h
  ·rename_i p q hp hq
   injection h with h; subst h
   have h1 := Jc3 a x.1 y.1 hp
   have h2 := Jc3 c x.2 y.2 hq
   unfold eqT at h1 h2
   have e1 : (have := a.eqd; decide (x.1 = y.1)) = @decide _ (a.eqd x.1 y.1) := rfl
   have := @JkZ _ _ (a.eqd x.1 y.1) (c.eqd x.2 y.2) _ _ _ _ _ _ h1 h2
   simp only [cel]
   refine this.trans (congrArg some ?_)
   unfold eqT
   apply decide_eq_decide.2
   exact ⟨fun ⟨e, f⟩ => Prod.ext e f, fun e => by rw [e]; exact ⟨rfl, rfl⟩⟩
  ·cases h
 | .ar n t, ks, x, y, h => by
  simp only [Ty.ks] at h
  split at h
  ·rename_i p hp
   injection h with h; subst h
   have := @Jse t.D t.eqd n p (cel t) (fun x y => by have := Jc3 t x y hp; exact this) x y
   simp only [cel]
   refine this.trans (congrArg some ?_)
   unfold eqT
   apply decide_eq_decide.2
   rfl
  ·cases h
 | .u, ks, x, y, h => by injection h with h; subst h; rfl
 | .f, _, _, _, h => by cases h
inductive Sp where
 | f (off : Nat)
 | a (i esz : Nat)
 deriving DecidableEq
def spo : List Sp → Nat
 | [] => 0
 | .f o :: r => o + spo r
 | .a i e :: r => i * e + spo r
def spf : Nat → List Sp → Nat × List Sp
 | o, .f k :: r => spf (o + k) r
 | o, r => (o, r)
theorem Jho : ∀ (o : Nat) (p : List Sp), (spf o p).1 + spo (spf o p).2 = o + spo p
 | o, [] => rfl
 | o, .f k :: r => by simp only [spf, Jho, spo]; omega
 | o, .a i e :: r => rfl
section
variable {R : Type}
def prt : (t : Ty) → t.D → (off : Nat) → List Sp → (w : Ty) → (w.D → Option R) → Option R
 | t, x, off, p, w, k =>
  if h : t = w ∧ off = 0 ∧ p = [] then k (h.1 ▸ x)
  else match t, x with
   | .pr a c, x => if off + (if p = [] then w.sz else 1) ≤ a.sz then prt a x.1 off p w k
    else if a.sz ≤ off then prt c x.2 (off - a.sz) p w k
    else none
   | .ar _ t, x => if p = [] then (vat x (off / t.sz)).bind fun y => prt t y (off % t.sz) p w k
    else match off, p with
     | 0, .a i e :: r => if e = t.sz then (vat x i).bind fun y => prt t y (spf 0 r).1 (spf 0 r).2 w k else none
     | _, _ => none
   | _, _ => none
def pst : (t : Ty) → t.D → (off : Nat) → List Sp → (w : Ty) → w.D → (t.D → Option R) → Option R
 | t, x, off, p, w, v, k =>
  if h : t = w ∧ off = 0 ∧ p = [] then k (h.1.symm ▸ v)
  else match t, x, k with
   | .pr a c, x, k => if off + (if p = [] then w.sz else 1) ≤ a.sz then pst a x.1 off p w v fun y => k (y, x.2)
    else if a.sz ≤ off then pst c x.2 (off - a.sz) p w v fun y => k (x.1, y)
    else none
   | .ar _ t, x, k => if p = [] then (vat x (off / t.sz)).bind fun y => pst t y (off % t.sz) p w v fun y => k (Jru x (off / t.sz) y)
    else match off, p with
     | 0, .a i e :: r => if e = t.sz then (vat x i).bind fun y => pst t y (spf 0 r).1 (spf 0 r).2 w v fun y => k (Jru x i y) else none
     | _, _ => none
   | _, _, _ => none
end
theorem Jor {α : Type} {a b v : List α} {off n : Nat} (h : sub a off n = some v) : sub (a ++ b) off n = some v := by
 rw [J5t] at h ⊢
 split at h
 ·rename_i hl
  injection h with h
  rw [if_pos (by simp; omega), ← h, List.drop_append_of_le_length (by omega), List.take_append_of_le_length (by simp; omega)]
 ·cases h
theorem Jmm {α : Type} {a b v : List α} {off n : Nat} (h0 : a.length ≤ off) (h : sub b (off - a.length) n = some v) : sub (a ++ b) off n = some v := by
 rw [J5t] at h ⊢
 split at h
 ·injection h with h
  rw [if_pos (by simp; omega), ← h, List.drop_append, List.drop_of_length_le h0]
  simp
 ·cases h
theorem Jod {α : Type} {a b v a' : List α} {off : Nat} (h : spl a off v = some a') : spl (a ++ b) off v = some (a' ++ b) := by
 rw [J6v] at h ⊢
 split at h
 ·rename_i hl
  injection h with h
  rw [if_pos (by simp; omega), ← h, List.take_append_of_le_length (by omega), List.drop_append_of_le_length (by omega)]
  simp
 ·cases h
theorem Jnd {α : Type} {a b v b' : List α} {off : Nat} (h0 : a.length ≤ off) (h : spl b (off - a.length) v = some b') : spl (a ++ b) off v = some (a ++ b') := by
 rw [J6v] at h ⊢
 split at h
 ·injection h with h
  rw [if_pos (by simp; omega), ← h, List.take_append, List.take_of_length_le h0, List.drop_append, List.drop_of_length_le (by omega)]
  simp
  omega
 ·cases h
theorem JkC {α : Type} {n i : Nat} {x : Vector α n} {y : α} (h : x[i]? = some y) : i < n := by
 rcases Nat.lt_or_ge i n with h1 | h1
 ·exact h1
 ·rw [Vector.getElem?_eq_none h1] at h; cases h
theorem J6m {R : Type} {t w : Ty} {x : t.D} {off : Nat} {p : List Sp} {k : w.D → Option R} {r : R} (h0 : t = w ∧ off = 0 ∧ p = []) (h : k (h0.1 ▸ x) = some r) :
  ∃ y, sub (cel t x) (off + spo p) w.sz = some (cel w y) ∧ k y = some r := by
 obtain ⟨rfl, rfl, rfl⟩ := h0
 exact ⟨x, by simpa [spo] using Jf5 (J0d _ x), h⟩
theorem J6o {R : Type} {t w : Ty} {x : t.D} {off : Nat} {p : List Sp} {v : w.D} {k : t.D → Option R} {r : R} (h0 : t = w ∧ off = 0 ∧ p = []) (h : k (h0.1.symm ▸ v) = some r) :
  ∃ y, spl (cel t x) (off + spo p) (cel w v) = some (cel t y) ∧ k y = some r := by
 obtain ⟨rfl, rfl, rfl⟩ := h0
 exact ⟨v, by simpa [spo] using Jk7 ((J0d _ x).trans (J0d _ v).symm), h⟩
theorem J6q {R : Type} : ∀ {t : Ty} {x : t.D} {off : Nat} {p : List Sp} {w : Ty} {k : w.D → Option R} {r : R}, prt t x off p w k = some r →
  ∃ y, sub (cel t x) (off + spo p) w.sz = some (cel w y) ∧ k y = some r
 | .pr a c, x, off, p, w, k, r, h => by
  unfold prt at h
  by_cases h0 : Ty.pr a c = w ∧ off = 0 ∧ p = []
  ·rw [dif_pos h0] at h; exact J6m h0 h
  ·rw [dif_neg h0] at h
   dsimp only at h
   by_cases h1 : off + (if p = [] then w.sz else 1) ≤ a.sz
   ·rw [if_pos h1] at h
    obtain ⟨y, q1, q2⟩ := J6q h
    exact ⟨y, Jor q1, q2⟩
   ·rw [if_neg h1] at h
    by_cases h2 : a.sz ≤ off
    ·rw [if_pos h2] at h
     obtain ⟨y, q1, q2⟩ := J6q h
     refine ⟨y, Jmm (by rw [J0d]; omega) ?_, q2⟩
     rw [J0d, show off + spo p - a.sz = off - a.sz + spo p by omega]
     exact q1
    ·rw [if_neg h2] at h; cases h
 | .ar n t, x, off, p, w, k, r, h => by
  unfold prt at h
  by_cases h0 : Ty.ar n t = w ∧ off = 0 ∧ p = []
  ·rw [dif_pos h0] at h; exact J6m h0 h
  ·rw [dif_neg h0] at h
   dsimp only at h
   by_cases hp : p = []
   ·rw [if_pos hp] at h
    obtain ⟨z, hz, h⟩ := Option.bind_eq_some_iff.1 h
    obtain ⟨y, h1, h2⟩ := J6q h
    refine ⟨y, ?_, h2⟩
    have := Jl1 (Jbw (J0d t) hz) h1
    rw [← this, hp]
    simp only [spo, Nat.add_zero]
    show sub (J6J (cel t) x) _ _ = _
    congr 1
    rw [Nat.mul_comm]; exact (Nat.div_add_mod off t.sz).symm
   ·rw [if_neg hp] at h
    split at h
    ·rename_i _ i e q _
     split at h
     ·rename_i he
      obtain ⟨z, hz, h⟩ := Option.bind_eq_some_iff.1 h
      obtain ⟨y, h1, h2⟩ := J6q h
      refine ⟨y, ?_, h2⟩
      have := Jl1 (Jbw (J0d t) hz) h1
      rw [← this]
      show sub (J6J (cel t) x) _ _ = _
      congr 1
      have := Jho 0 q
      simp only [spo, he]
      omega
     ·cases h
    ·cases h
 | .b, x, off, p, w, k, r, h => by
  unfold prt at h
  split at h
  next h0 => exact J6m h0 h
  next => cases h
 | .i _, x, off, p, w, k, r, h => by
  unfold prt at h
  split at h
  next h0 => exact J6m h0 h
  next => cases h
 | .s, x, off, p, w, k, r, h => by
  unfold prt at h
  split at h
  next h0 => exact J6m h0 h
  next => cases h
 | .l _, x, off, p, w, k, r, h => by
  unfold prt at h
  split at h
  next h0 => exact J6m h0 h
  next => cases h
 | .u, x, off, p, w, k, r, h => by
  unfold prt at h
  split at h
  next h0 => exact J6m h0 h
  next => cases h
 | .f, x, off, p, w, k, r, h => by
  unfold prt at h
  split at h
  next h0 => exact J6m h0 h
  next => cases h
theorem J7n {R : Type} : ∀ {t : Ty} {x : t.D} {off : Nat} {p : List Sp} {w : Ty} {v : w.D} {k : t.D → Option R} {r : R}, pst t x off p w v k = some r →
  ∃ y, spl (cel t x) (off + spo p) (cel w v) = some (cel t y) ∧ k y = some r
 | .pr a c, x, off, p, w, v, k, r, h => by
  unfold pst at h
  by_cases h0 : Ty.pr a c = w ∧ off = 0 ∧ p = []
  ·rw [dif_pos h0] at h; exact J6o h0 h
  ·rw [dif_neg h0] at h
   dsimp only at h
   by_cases h1 : off + (if p = [] then w.sz else 1) ≤ a.sz
   ·rw [if_pos h1] at h
    obtain ⟨y, q1, q2⟩ := J7n h
    exact ⟨(y, x.2), Jod q1, q2⟩
   ·rw [if_neg h1] at h
    by_cases h2 : a.sz ≤ off
    ·rw [if_pos h2] at h
     obtain ⟨y, q1, q2⟩ := J7n h
     refine ⟨(x.1, y), Jnd (by rw [J0d]; omega) ?_, q2⟩
     rw [J0d, show off + spo p - a.sz = off - a.sz + spo p by omega]
     exact q1
    ·rw [if_neg h2] at h; cases h
 | .ar n t, x, off, p, w, v, k, r, h => by
  unfold pst at h
  by_cases h0 : Ty.ar n t = w ∧ off = 0 ∧ p = []
  ·rw [dif_pos h0] at h; exact J6o h0 h
  ·rw [dif_neg h0] at h
   dsimp only at h
   by_cases hp : p = []
   ·rw [if_pos hp] at h
    obtain ⟨z, hz, h⟩ := Option.bind_eq_some_iff.1 h
    obtain ⟨y, h1, h2⟩ := J7n h
    refine ⟨_, ?_, h2⟩
    have := JkN (Jbw (J0d t) hz) h1 (JmD (J0d t) (JkC hz) y)
    subst hp
    simp only [spo, Nat.add_zero] at this ⊢
    rw [Nat.mul_comm, Nat.div_add_mod] at this
    exact this
   ·rw [if_neg hp] at h
    split at h
    ·rename_i _ i e q _
     split at h
     ·rename_i he
      obtain ⟨z, hz, h⟩ := Option.bind_eq_some_iff.1 h
      obtain ⟨y, h1, h2⟩ := J7n h
      refine ⟨_, ?_, h2⟩
      have := JkN (Jbw (J0d t) hz) h1 (JmD (J0d t) (JkC hz) y)
      have e1 := Jho 0 q
      simp only [spo, he]
      rw [show i * t.sz + ((spf 0 q).1 + spo (spf 0 q).2) = 0 + (i * t.sz + spo q) by omega] at this
      exact this
     ·cases h
    ·cases h
 | .b, x, off, p, w, v, k, r, h => by
  unfold pst at h
  split at h
  next h0 => exact J6o h0 h
  next => cases h
 | .i _, x, off, p, w, v, k, r, h => by
  unfold pst at h
  split at h
  next h0 => exact J6o h0 h
  next => cases h
 | .s, x, off, p, w, v, k, r, h => by
  unfold pst at h
  split at h
  next h0 => exact J6o h0 h
  next => cases h
 | .l _, x, off, p, w, v, k, r, h => by
  unfold pst at h
  split at h
  next h0 => exact J6o h0 h
  next => cases h
 | .u, x, off, p, w, v, k, r, h => by
  unfold pst at h
  split at h
  next h0 => exact J6o h0 h
  next => cases h
 | .f, x, off, p, w, v, k, r, h => by
  unfold pst at h
  split at h
  next h0 => exact J6o h0 h
  next => cases h
end Go.Am
end
section
namespace Go.Am
inductive TC where
 | d (t : Ty) (x : t.D)
 | sc (t : Ty) (rows : List t.D)
 | np
 | nf
 | un
 | ptr (b : Nat) (p : List Sp)
 | cp (t : Ty) (x : t.D) (p : List Sp)
 | slr (b : Nat)
 | slo (b n : Nat)
 | ep (b i : Nat) (p : List Sp)
 | epo (b e i : Nat) (p : List Sp)
 | fn (f : FuncId)
inductive TA where
 | c (x : TC)
 | dt (t : Ty) (x : t.D)
 | m (t : Ty) (cs : List TC)
 | fn (f : FuncId) (first caps : List TC)
inductive TV where
 | a (x : TA)
 | tup (vs : List TA)
inductive TB where
 | dead
 | box (t : Ty) (x : t.D)
 | mbox (t : Ty) (cs : List TC)
 | arr (w : Bool) (t : Ty) (rows : List t.D)
structure TSt where
 env : List (Nat × TV)
 sto : List TB
def hdP : List PV → PV
 | [c] => c
 | _ => .np
def lnB : TB → Nat
 | .arr _ _ rows => rows.length
 | _ => 0
def lnO : Option TB → Nat
 | some x => lnB x
 | none => 0
def lns (sto : List TB) (b : Nat) : Nat := lnO sto[b]?
section
variable (L : Nat → Nat)
def Jt : TC → AV
 | .d t x => .p (hdP (cel t x))
 | .sc t rows => .p (.slc t.sz (rows.map (cel t)))
 | .np => .p .np
 | .nf => .p .nf
 | .un => .unk
 | .ptr b p => .ptr b (spo p)
 | .cp t x p => .cp (cel t x) (spo p)
 | .slr b => .slr b 0 (L b)
 | .slo b n => .slr b 0 n
 | .ep b i p => .ep b (L b) i (spo p)
 | .epo b e i p => .ep b e i (spo p)
 | .fn f => .fn f [] []
def J0c : TA → AV
 | .c x => Jt L x
 | .dt t x => .data (cel t x)
 | .m _ cs => .agg (cs.map (Jt L))
 | .fn f a c => .fn f (a.map (Jt L)) (c.map (Jt L))
def Js : TV → AV
 | .a x => J0c L x
 | .tup vs => .tup (vs.map (J0c L))
def JI : TB → Blk
 | .dead => .dead
 | .box t x => .box ((cel t x).map .p)
 | .mbox _ cs => .box (cs.map (Jt L))
 | .arr w t rows => .arr w t.sz (rows.map (cel t))
end
def J2G (L : Nat → Nat) (env : List (Nat × TV)) : List (Nat × AV) := env.map fun x => (x.1, Js L x.2)
def Jf (s : TSt) : St := ⟨J2G (lns s.sto) s.env, s.sto.map (JI (lns s.sto))⟩
section
variable (L : Nat → Nat)
theorem Ja0 (t x) : JI L (.box t x) = .box ((cel t x).map .p) := rfl
theorem Ja4 (t cs) : JI L (.mbox t cs) = .box (cs.map (Jt L)) := rfl
theorem Jjp (w t rows) : JI L (.arr w t rows) = .arr w t.sz (rows.map (cel t)) := rfl
theorem J4g (b p) : Js L (.a (.c (.ptr b p))) = .ptr b (spo p) := rfl
theorem J7i (t x p) : Js L (.a (.c (.cp t x p))) = .cp (cel t x) (spo p) := rfl
theorem J33 (b) : Js L (.a (.c (.slr b))) = .slr b 0 (L b) := rfl
theorem J7d (b i p) : Js L (.a (.c (.ep b i p))) = .ep b (L b) i (spo p) := rfl
theorem e_i (k x) : Js L (.a (.c (.d (.i k) x))) = .p (.i k x) := rfl
theorem e_b (x) : Js L (.a (.c (.d .b x))) = .p (.b x) := rfl
theorem e_s (x) : Js L (.a (.c (.d .s x))) = .p (.s x) := rfl
theorem e_l (t x) : Js L (.a (.c (.d (.l t) x))) = .p (.sl t.sz (x.map (cel t))) := rfl
theorem Js3 (f) : Js L (.a (.c (.fn f))) = .fn f [] [] := rfl
theorem Jmd (t x) : Js L (.a (.dt t x)) = .data (cel t x) := rfl
theorem Jp2 (f a c) : Js L (.a (.fn f a c)) = .fn f (a.map (Jt L)) (c.map (Jt L)) := rfl
theorem e_m (t cs) : Js L (.a (.m t cs)) = .agg (cs.map (Jt L)) := rfl
end
theorem JhS {t : Ty} (h : t.sz = 1) (x : t.D) : cel t x = [hdP (cel t x)] := by
 have := J0d t x
 rw [h] at this
 match hc : cel t x, this with
 | [c], _ => rfl
def kC (b n : Nat) : TC → TC
 | .slr c => if c = b then .slo b n else .slr c
 | .ep c i p => if c = b then .epo b n i p else .ep c i p
 | x => x
def kA (b n : Nat) : TA → TA
 | .c x => .c (kC b n x)
 | .dt t x => .dt t x
 | .m t cs => .m t (cs.map (kC b n))
 | .fn f a c => .fn f (a.map (kC b n)) (c.map (kC b n))
def kV (b n : Nat) : TV → TV
 | .a x => .a (kA b n x)
 | .tup vs => .tup (vs.map (kA b n))
def kB (b n : Nat) : TB → TB
 | .mbox t cs => .mbox t (cs.map (kC b n))
 | x => x
def wS (b : Nat) (x : TB) (s : TSt) : TSt := ⟨s.env, s.sto.set b x⟩
def wN (b : Nat) (x : TB) (s : TSt) : TSt :=
 ⟨s.env.map fun y => (y.1, kV b (lns s.sto b) y.2), (s.sto.map (kB b (lns s.sto b))).set b x⟩
def JM (d : Option Nat) (v : TV) (s : TSt) : TSt :=
 match d with
 | some d => ⟨(d, v) :: s.env, s.sto⟩
 | none => s
section
variable {L L' : Nat → Nat} {b : Nat}
theorem k_C (h : ∀ c, c ≠ b → L' c = L c) (x : TC) : Jt L' (kC b (L b) x) = Jt L x := by
 cases x with
 | slr c =>
  by_cases e : c = b
  ·subst e; simp only [kC, if_pos, Jt]
  ·simp only [kC, if_neg e, Jt, h c e]
 | ep c i p =>
  by_cases e : c = b
  ·subst e; simp only [kC, if_pos, Jt]
  ·simp only [kC, if_neg e, Jt, h c e]
 | _ => rfl
theorem Jsi (h : ∀ c, c ≠ b → L' c = L c) (xs : List TC) : (xs.map (kC b (L b))).map (Jt L') = xs.map (Jt L) := by
 rw [List.map_map]; exact List.map_congr_left fun x _ => k_C h x
theorem k_A (h : ∀ c, c ≠ b → L' c = L c) (x : TA) : J0c L' (kA b (L b) x) = J0c L x := by
 cases x <;> simp only [kA, J0c, k_C h, Jsi h]
theorem k_V (h : ∀ c, c ≠ b → L' c = L c) (x : TV) : Js L' (kV b (L b) x) = Js L x := by
 cases x <;> simp only [kV, Js, k_A h, List.map_map, Function.comp_def]
theorem k_B (h : ∀ c, c ≠ b → L' c = L c) (x : TB) : JI L' (kB b (L b) x) = JI L x := by
 cases x <;> simp only [kB, JI, Jsi h]
theorem Js2 (b n : Nat) (x : TB) : lnB (kB b n x) = lnB x := by cases x <;> rfl
theorem Jst (sto : List TB) (b n c : Nat) : lns (sto.map (kB b n)) c = lns sto c := by
 unfold lns
 rw [List.getElem?_map]
 cases sto[c]? with
 | none => rfl
 | some x => exact Js2 b n x
theorem JkM (sto : List TB) (b : Nat) (x : TB) (c : Nat) (h : c ≠ b) : lns (sto.set b x) c = lns sto c := by
 unfold lns
 rw [List.getElem?_set_ne (fun e => h e.symm)]
theorem Jjs {sto : List TB} {b : Nat} (h : b < sto.length) (x : TB) : lns (sto.set b x) b = lnB x := by
 unfold lns
 rw [List.getElem?_set_self h]; rfl
theorem JpI (b : Nat) (x : TB) (s : TSt) : Jf (wN b x s) = ⟨(Jf s).env, (Jf s).sto.set b (JI (lns (wN b x s).sto) x)⟩ := by
 have h : ∀ c, c ≠ b → lns (wN b x s).sto c = lns s.sto c := fun c hc => by
  unfold wN
  rw [JkM _ _ _ _ hc, Jst]
 unfold Jf
 congr 1
 ·show J2G _ (s.env.map fun y => (y.1, kV b (lns s.sto b) y.2)) = J2G _ s.env
  unfold J2G
  rw [List.map_map]
  exact List.map_congr_left fun y _ => by simp only [Function.comp, k_V h]
 ·show ((s.sto.map (kB b (lns s.sto b))).set b x).map _ = _
  rw [List.map_set, List.map_map]
  congr 1
  exact List.map_congr_left fun y _ => k_B h y
theorem Ja6 {b : Nat} {x : TB} {s : TSt} (h : lnB x = lns s.sto b) : lns (wS b x s).sto = lns s.sto := by
 funext c
 by_cases hc : c = b
 ·subst hc
  unfold wS
  rcases Nat.lt_or_ge c s.sto.length with hl | hl
  ·rw [Jjs hl, h]
  ·rw [List.set_eq_of_length_le hl]
 ·exact JkM _ _ _ _ hc
theorem Jac {b : Nat} {x : TB} {s : TSt} (h : lnB x = lns s.sto b) : Jf (wS b x s) = ⟨(Jf s).env, (Jf s).sto.set b (JI (lns s.sto) x)⟩ := by
 unfold Jf
 rw [Ja6 h]
 unfold wS
 rw [List.map_set]
theorem J5L {s s1 : TSt} {ws : List (Nat × Blk)} (h : Jf s1 = ⟨(Jf s).env, upd ws (Jf s).sto⟩) (d : Option Nat) (v : TV) : put d ⟨Js (lns s1.sto) v, ws⟩ (Jf s) = Jf (JM d v s1) := by
 cases d with
 | none => exact h.symm
 | some d =>
  simp only [put, JM]
  have h1 : (Jf s1).env = (Jf s).env := by rw [h]
  have h2 : (Jf s1).sto = upd ws (Jf s).sto := by rw [h]
  unfold Jf at h1 h2 ⊢
  simp only [J2G, List.map_cons] at h1 h2 ⊢
  rw [h1, h2]
end
theorem J9S {s : TSt} (d : Option Nat) (v : TV) : put d ⟨Js (lns s.sto) v, []⟩ (Jf s) = Jf (JM d v s) := J5L rfl d v
def tlk (n : Nat) : List (Nat × TV) → Option TV
 | [] => none
 | (m, v) :: r => if n = m then some v else tlk n r
theorem J8S (L : Nat → Nat) (n : Nat) : ∀ env : List (Nat × TV), lk n (J2G L env) = (tlk n env).map (Js L)
 | [] => rfl
 | (m, v) :: r => by
  simp only [J2G, List.map_cons, lk, tlk]
  split
  ·rfl
  ·exact J8S L n r
theorem J0C (s : TSt) (b : Nat) : (Jf s).sto[b]? = (s.sto[b]?).map (JI (lns s.sto)) := by
 unfold Jf; rw [List.getElem?_map]
theorem J3p {sto : List TB} {b : Nat} {w : Bool} {t : Ty} {rows : List t.D} (h : sto[b]? = some (.arr w t rows)) : lns sto b = rows.length := by
 unfold lns; rw [h]; rfl
inductive TO where
 | t (n : Nat)
 | c (x : TV)
def erO : TO → Opd
 | .t n => .t n
 | .c x => .c (Js (fun _ => 0) x)
def JpK : TC → Bool
 | .d _ _ | .sc _ _ | .np | .nf | .un | .fn _ => true
 | _ => false
def Jhp : TA → Bool
 | .c x => JpK x
 | .dt _ _ => true
 | .m _ _ => false
 | .fn _ a c => a.isEmpty && c.isEmpty
def Jc5 : TV → Bool
 | .a x => Jhp x
 | .tup vs => vs.isEmpty
theorem Joz {L L' : Nat → Nat} {v : TV} (h : Jc5 v = true) : Js L v = Js L' v := by
 cases v with
 | a x =>
  cases x with
  | c x => cases x <;> first | rfl | (simp [Jc5, Jhp, JpK] at h)
  | dt t x => rfl
  | m t cs => simp [Jc5, Jhp] at h
  | fn f a c =>
   simp [Jc5, Jhp] at h
   obtain ⟨rfl, rfl⟩ := h
   rfl
 | tup vs =>
  simp [Jc5] at h
  subst h; rfl
def tev : TO → TSt → Option TV
 | .t n, s => tlk n s.env
 | .c x, _ => if Jc5 x = true then some x else none
theorem Jx {x : TO} {s : TSt} {v : TV} (h : tev x s = some v) : (ev (erO x)).run (Jf s) = some (Js (lns s.sto) v) := by
 cases x with
 | t n =>
  simp only [erO, ev, J4W]
  show (lk n (J2G (lns s.sto) s.env)).bind _ = _
  rw [J8S, show tlk n s.env = some v from h]
  rfl
 | c x =>
  simp only [tev] at h
  split at h
  ·rename_i hf
   injection h with h; subst h
   simp only [erO, ev, Jk]
   rw [Joz hf]
  ·cases h
end Go.Am
end
section
namespace Go.Am
@[reducible] def vi (k : IntKind) (n : Int) : TV := .a (.c (.d (.i k) n))
@[reducible] def vb (x : Bool) : TV := .a (.c (.d .b x))
@[reducible] def vs (l : List UInt8) : TV := .a (.c (.d .s l))
@[reducible] def vl (t : Ty) (l : List t.D) : TV := .a (.c (.d (.l t) l))
def uv : TV := .tup []
def mkv (agg : Bool) (t : Ty) (x : t.D) : TV := if agg = true then .a (.dt t x) else .a (.c (.d t x))
def Ok {R : Type} (m : RM Eff) (d : Option Nat) (s : TSt) (k : TSt → Option R) (r : R) : Prop :=
 ∃ e s', m.run (Jf s) = some e ∧ put d e (Jf s) = Jf s' ∧ k s' = some r
def asm : (t : Ty) → List TC → Option t.D
 | .pr a c, l => match asm a (l.take a.sz), asm c (l.drop a.sz) with
  | some x, some y => some (x, y)
  | _, _ => none
 | .ar _ _, _ => none
 | .u, l => if l.isEmpty = true then some () else none
 | t, l => match l with
  | [.d t' x] => if h : t' = t then some (h ▸ x) else none
  | _ => none
def JcT : (t : Ty) → t.D → Option (List TC)
 | .pr a c, x => match JcT a x.1, JcT c x.2 with
  | some l, some q => some (l ++ q)
  | _, _ => none
 | .ar _ _, _ => none
 | .u, _ => some []
 | t, x => some [.d t x]
theorem Jbd (L : Nat → Nat) : ∀ {t : Ty} {l : List TC} {x : t.D}, asm t l = some x → l.map (Jt L) = (cel t x).map .p
 | .pr a c, l, x, h => by
  simp only [asm] at h
  split at h
  ·rename_i y z hy hz
   injection h with h; subst h
   have h1 := Jbd L hy
   have h2 := Jbd L hz
   simp only [cel, List.map_append, ← h1, ← h2]
   rw [← List.map_append, List.take_append_drop]
  ·cases h
 | .ar _ _, _, _, h => by cases h
 | .u, l, x, h => by
  simp only [asm] at h
  split at h
  ·rename_i h0; rw [List.isEmpty_iff.1 h0]; rfl
  ·cases h
 | .b, l, x, h => by
  simp only [asm] at h
  split at h
  ·split at h
   ·rename_i h0; subst h0; injection h with h; subst h; rfl
   ·cases h
  ·cases h
 | .i _, l, x, h => by
  simp only [asm] at h
  split at h
  ·split at h
   ·rename_i h0; subst h0; injection h with h; subst h; rfl
   ·cases h
  ·cases h
 | .s, l, x, h => by
  simp only [asm] at h
  split at h
  ·split at h
   ·rename_i h0; subst h0; injection h with h; subst h; rfl
   ·cases h
  ·cases h
 | .l _, l, x, h => by
  simp only [asm] at h
  split at h
  ·split at h
   ·rename_i h0; subst h0; injection h with h; subst h; rfl
   ·cases h
  ·cases h
 | .f, l, x, h => by
  simp only [asm] at h
  split at h
  ·split at h
   ·rename_i h0; subst h0; injection h with h; subst h; rfl
   ·cases h
  ·cases h
theorem J9P (L : Nat → Nat) : ∀ {t : Ty} {x : t.D} {l : List TC}, JcT t x = some l → l.map (Jt L) = (cel t x).map .p
 | .pr a c, x, l, h => by
  simp only [JcT] at h
  split at h
  ·rename_i y z hy hz
   injection h with h; subst h
   have h1 := J9P L hy
   have h2 := J9P L hz
   simp only [cel, List.map_append, ← h1, ← h2]
  ·cases h
 | .ar _ _, _, _, h => by cases h
 | .u, x, l, h => by injection h with h; subst h; rfl
 | .b, x, l, h => by injection h with h; subst h; rfl
 | .i _, x, l, h => by injection h with h; subst h; rfl
 | .s, x, l, h => by injection h with h; subst h; rfl
 | .l _, x, l, h => by injection h with h; subst h; rfl
 | .f, x, l, h => by injection h with h; subst h; rfl
def zcs : Ty → List TC
 | .pr a c => zcs a ++ zcs c
 | .ar n t => (List.replicate n (zcs t)).flatten
 | .u => []
 | t => [.d t t.zero]
theorem J9G (L : Nat → Nat) : ∀ t : Ty, (zcs t).map (Jt L) = (cel t t.zero).map .p
 | .pr a c => by simp only [zcs, List.map_append, J9G L a, J9G L c, Ty.zero, cel]
 | .ar n t => by
  have ih := J9G L t
  have e : cel (.ar n t) (Ty.ar n t).zero = (List.replicate n (cel t t.zero)).flatten := by
   simp only [cel, J6J, Ty.zero, Vector.toList_replicate, List.map_replicate]
  rw [e]
  simp only [zcs, List.map_flatten, List.map_replicate, ih]
 | .u => rfl
 | .b => rfl
 | .i _ => rfl
 | .s => rfl
 | .l _ => rfl
 | .f => rfl
def mkb (t : Ty) (cs : List TC) : TB := match asm t cs with
 | some x => .box t x
 | none => .mbox t cs
theorem JbS (L : Nat → Nat) (t : Ty) (cs : List TC) : JI L (mkb t cs) = .box (cs.map (Jt L)) := by
 unfold mkb
 split
 ·rename_i x hx; rw [Ja0, Jbd L hx]
 ·rfl
theorem Jcd (t : Ty) (cs : List TC) : lnB (mkb t cs) = 0 := by unfold mkb; split <;> rfl
def Jlh : TC → Bool
 | .ptr _ _ | .cp _ _ _ | .slr _ | .slo _ _ | .ep _ _ _ | .epo _ _ _ _ | .un | .fn _ => true
 | _ => false
theorem Jf2 (L : Nat → Nat) : ∀ {cs : List TC}, cs.any Jlh = true → unp (cs.map (Jt L)) = none
 | [], h => by simp at h
 | x :: r, h => by
  simp only [List.any_cons, Bool.or_eq_true] at h
  rcases h with h | h
  ·cases x <;> simp [Jlh] at h <;> rfl
  ·have := Jf2 L h
   cases x <;> simp [Jt, unp, this]
def mka (agg : Bool) (t : Ty) (cs : List TC) : Option TV :=
 if agg = true then
  match asm t cs with
  | some x => some (.a (.dt t x))
  | none => if cs.any Jlh = true then some (.a (.m t cs)) else none
 else match cs with
  | [c] => some (.a (.c c))
  | _ => none
theorem J9M (L : Nat → Nat) {agg : Bool} {t : Ty} {cs : List TC} {v : TV} (h : mka agg t cs = some v) : J2b agg (cs.map (Jt L)) = some (Js L v) := by
 unfold mka at h
 split at h
 ·rename_i ha
  subst ha
  split at h
  ·rename_i x hx
   injection h with h; subst h
   rw [Jbd L hx, JcN]; rfl
  ·split at h
   ·rename_i hr
    injection h with h; subst h
    simp only [J2b, Jf2 L hr, if_true]; rfl
   ·cases h
 ·rename_i ha
  split at h
  ·injection h with h; subst h
   have : agg = false := by simpa using ha
   subst this
   rfl
  ·cases h
def tcs : TV → Option (List TC)
 | .a (.c .un) => none
 | .a (.c x) => some [x]
 | .a (.dt t x) => JcT t x
 | .a (.m _ cs) => some cs
 | .a (.fn f [] []) => some [.fn f]
 | _ => none
theorem JbC (L : Nat → Nat) {v : TV} {cs : List TC} (h : tcs v = some cs) : cellsOf (Js L v) = some (cs.map (Jt L)) := by
 cases v with
 | a x =>
  cases x with
  | c x =>
   cases x <;> cases h <;> rfl
  | dt t x =>
   simp only [Js, J0c, cellsOf]
   rw [J9P L h]
  | m t cs =>
   injection h with h; subst h; rfl
  | fn f a c =>
   cases a with
   | nil => cases c with
    | nil => injection h with h; subst h; rfl
    | cons y c => cases h
   | cons y a => cases h
 | tup vs => cases h
def tdv (t : Ty) : TV → Option t.D
 | .a (.c (.d t' x)) => if h : t' = t then some (h ▸ x) else none
 | .a (.dt t' x) => if h : t' = t then some (h ▸ x) else none
 | _ => none
def agv : TV → Bool
 | .a (.dt _ _) => true
 | _ => false
theorem JrS (L : Nat → Nat) {t : Ty} {v : TV} {x : t.D} (h : tdv t v = some x) : Js L v = if agv v = true then .data (cel t x) else .p (hdP (cel t x)) := by
 unfold tdv at h
 split at h
 ·split at h
  ·rename_i h0; subst h0; injection h with h; subst h; rfl
  ·cases h
 ·split at h
  ·rename_i h0; subst h0; injection h with h; subst h; rfl
  ·cases h
 ·cases h
def Jak : List Sp → Option Nat
 | [] => some 0
 | .f o :: r => match Jak r with
  | some n => some (o + n)
  | none => none
 | .a _ _ :: _ => none
theorem J9K : ∀ {p : List Sp} {n : Nat}, Jak p = some n → spo p = n
 | [], n, h => by injection h with h
 | .f o :: r, n, h => by
  simp only [Jak] at h
  split at h
  ·rename_i m hm
   injection h with h
   simp only [spo, J9K hm, h]
  ·cases h
 | .a _ _ :: _, _, h => by cases h
section
variable {R : Type}
def Jl9 (agg : Bool) (t : Ty) (v : TV) (d : Option Nat) (s : TSt) (k : TSt → Option R) : Option R :=
 if agg = true ∨ t.sz = 1 then
  match v with
  | .a (.c (.cp t0 x p)) => prt t0 x (spf 0 p).1 (spf 0 p).2 t fun y => k (JM d (mkv agg t y) s)
  | .a (.c (.ptr b p)) => match s.sto[b]? with
   | some (.box t0 x) => prt t0 x (spf 0 p).1 (spf 0 p).2 t fun y => k (JM d (mkv agg t y) s)
   | some (.mbox _ cs) => match Jak p with
    | some off => match sub cs off t.sz with
     | some l => match mka agg t l with
      | some v => k (JM d v s)
      | none => none
     | none => none
    | none => none
   | _ => none
  | .a (.c (.ep b i p)) => match s.sto[b]? with
   | some (.arr _ t0 rows) => (lat rows i).bind fun row => prt t0 row (spf 0 p).1 (spf 0 p).2 t fun y => k (JM d (mkv agg t y) s)
   | _ => none
  | _ => none
 else none
theorem J9E (L : Nat → Nat) {agg : Bool} {t : Ty} (h : agg = true ∨ t.sz = 1) (y : t.D) : J2J agg (cel t y) = some (Js L (mkv agg t y)) := by
 unfold mkv
 split
 ·rename_i ha; subst ha; rfl
 ·rename_i ha
  have : agg = false := by simpa using ha
  subst this
  have := h.resolve_left (by simp)
  rw [JhS this]; rfl
theorem JhP (p : List Sp) : (spf 0 p).1 + spo (spf 0 p).2 = spo p := by have := Jho 0 p; omega
theorem JoR {agg : Bool} {t : Ty} {v : TV} {d : Option Nat} {s : TSt} {k : TSt → Option R} {r : R} (h : Jl9 agg t v d s k = some r) : Ok (J2D agg t.sz (Js (lns s.sto) v)) d s k r := by
 unfold Jl9 at h
 split at h
 ·rename_i ha
  split at h
  ·rename_i t0 x p
   obtain ⟨y, h1, h2⟩ := J6q h
   rw [JhP] at h1
   refine ⟨_, _, ?_, J9S d (mkv agg t y), h2⟩
   simp only [J4g, J7i, J7d, J33, J2D, h1, J9E (lns s.sto) ha, val]; rfl
  ·rename_i b p
   split at h
   ·rename_i t0 x hb
    obtain ⟨y, h1, h2⟩ := J6q h
    rw [JhP] at h1
    refine ⟨_, _, ?_, J9S d (mkv agg t y), h2⟩
    have hc : J2b agg ((cel t y).map .p) = J2J agg (cel t y) := by
     unfold J2b J2J
     split
     ·rw [J8y]
     ·cases hcel : cel t y with
      | nil => rfl
      | cons a l => cases l <;> rfl
    simp only [J4g, J7i, J7d, J33, J2D, J0r, J0C, hb, Option.map_some, Option.bind_some, JI, J7c, h1, hc, J9E (lns s.sto) ha, val]; rfl
   ·rename_i cs hb
    split at h
    ·rename_i off ho
     split at h
     ·rename_i l hl
      split at h
      ·rename_i v hv
       refine ⟨_, _, ?_, J9S d v, h⟩
       simp only [J4g, J7i, J7d, J33, J2D, J0r, J0C, hb, Option.map_some, Option.bind_some, JI, J7c, J9K ho, hl, J9M (lns s.sto) hv, val]; rfl
      ·cases h
     ·cases h
    ·cases h
   ·cases h
  ·rename_i b i p
   split at h
   ·rename_i w t0 rows hb
    obtain ⟨row, hr, h⟩ := Option.bind_eq_some_iff.1 h
    have hr : rows[i]? = some row := hr
    obtain ⟨y, h1, h2⟩ := J6q h
    rw [JhP] at h1
    refine ⟨_, _, ?_, J9S d (mkv agg t y), h2⟩
    simp only [J4g, J7i, J7d, J33, J2D, J0r, J0C, hb, Option.map_some, Option.bind_some, JI, J3p hb, List.length_map, if_true, List.getElem?_map, hr, h1, J9E (lns s.sto) ha, val]; rfl
   ·cases h
  ·cases h
 ·cases h
end
end Go.Am
end
section
namespace Go.Am
section
variable {R : Type}
def fzC : (t : Ty) → List TC → TSt → (t.D → TSt → Option R) → Option R
 | .pr a c, l, s, k => fzC a (l.take a.sz) s fun x s => fzC c (l.drop a.sz) s fun y s => k (x, y) s
 | .ar _ _, _, _, _ => none
 | .u, l, s, k => if l.isEmpty = true then k () s else none
 | .l e, l, s, k => match l with
  | [.d t' x] => if h : t' = .l e then k (h ▸ x) s else none
  | [.slr b] => match s.sto[b]? with
   | some (.arr _ e' rows) => if h : e' = e then k (h ▸ rows) (wS b (.arr false e' rows) s) else none
   | _ => none
  | _ => none
 | t, l, s, k => match l with
  | [.d t' x] => if h : t' = t then k (h ▸ x) s else none
  | _ => none
def tfz (t : Ty) (v : TV) (s : TSt) (k : t.D → TSt → Option R) : Option R :=
 match v with
 | .a (.dt t' x) => if h : t' = t then k (h ▸ x) s else none
 | .a (.c x) => fzC t [x] s k
 | .a (.m _ cs) => fzC t cs s k
 | _ => none
def Fzd (s s' : TSt) (ws : List (Nat × Blk)) : Prop :=
 s'.env = s.env ∧ lns s'.sto = lns s.sto ∧ Jf s' = ⟨(Jf s).env, upd ws (Jf s).sto⟩ ∧ (∀ (b : Nat) (t : Ty) (rows : List t.D) (w : Bool), s'.sto[b]? = some (TB.arr w t rows) → ∃ w', s.sto[b]? = some (TB.arr w' t rows)) ∧
 (∀ (b : Nat) (t : Ty) (rows : List t.D), s.sto[b]? = some (TB.arr false t rows) → s'.sto[b]? = some (TB.arr false t rows)) ∧
 ∀ x ∈ ws, ∃ (t : Ty) (rows : List t.D), s'.sto[x.1]? = some (TB.arr false t rows)
theorem Fzd.refl (s : TSt) : Fzd s s [] := ⟨rfl, rfl, rfl, fun b t rows w h => ⟨w, h⟩, fun b t rows h => h, fun x h => by cases h⟩
theorem Fzd.trans {s1 s2 s3 : TSt} {a c : List (Nat × Blk)} (h : Fzd s1 s2 a) (h' : Fzd s2 s3 c) : Fzd s1 s3 (a ++ c) := by
 obtain ⟨h1, h2, h3, h4, h5, h6⟩ := h
 obtain ⟨q1, q2, q3, q4, q5, q6⟩ := h'
 refine ⟨q1.trans h1, q2.trans h2, ?_, fun b t rows w h => ?_, fun b t rows h => q5 b t rows (h5 b t rows h), fun x hx => ?_⟩
 ·rw [q3, h3, J0w]
 ·obtain ⟨w', h⟩ := q4 b t rows w h
  exact h4 b t rows w' h
 ·rcases List.mem_append.1 hx with hx | hx
  ·obtain ⟨t, rows, h⟩ := h6 x hx
   exact ⟨t, rows, q5 _ t rows h⟩
  ·exact q6 x hx
theorem Jf3 {s : TSt} {b : Nat} {w : Bool} {t : Ty} {rows : List t.D} (hb : s.sto[b]? = some (.arr w t rows)) : Fzd s (wS b (.arr false t rows) s) [(b, .arr false t.sz (rows.map (cel t)))] := by
 have hl : lnB (.arr false t rows) = lns s.sto b := by rw [J3p hb]; rfl
 have hs : (wS b (.arr false t rows) s).sto[b]? = some (.arr false t rows) := by unfold wS; rw [List.getElem?_set_self (J9 hb)]
 have ho : ∀ c, c ≠ b → (wS b (.arr false t rows) s).sto[c]? = s.sto[c]? := fun c hc => by unfold wS; rw [List.getElem?_set_ne (fun e => hc e.symm)]
 refine ⟨rfl, Ja6 hl, Jac hl, fun c t' rs w' h => ?_, fun c t' rs h => ?_, fun x hx => ?_⟩
 ·by_cases hc : c = b
  ·subst hc
   rw [hs] at h
   injection h with h
   injection h with h1 h2 h3
   subst h2
   have h3 := eq_of_heq h3
   subst h3
   exact ⟨w, hb⟩
  ·rw [ho c hc] at h
   exact ⟨w', h⟩
 ·by_cases hc : c = b
  ·subst hc
   rw [hb] at h
   injection h with h
   injection h with h1 h2 h3
   subst h2
   have h3 := eq_of_heq h3
   subst h3
   exact hs
  ·rw [ho c hc]; exact h
 ·simp only [List.mem_singleton] at hx
  subst hx
  exact ⟨t, rows, hs⟩
theorem Jr2 (x y : List AV) (st : St) : (fz.fzL (x ++ y)).run st = ((fz.fzL x).run st).bind fun a => ((fz.fzL y).run st).map fun c => (a.1 ++ c.1, a.2 ++ c.2) := by
 induction x with
 | nil => simp only [List.nil_append, fz.fzL, Jk, Option.bind_some]; cases (fz.fzL y).run st <;> rfl
 | cons v x ih =>
  simp only [List.cons_append, fz.fzL, run_bind, ih]
  cases (fz.fz1 v).run st with
  | none => rfl
  | some a =>
   simp only [Option.bind_some]
   cases (fz.fzL x).run st with
   | none => rfl
   | some c =>
    simp only [Option.bind_some]
    cases (fz.fzL y).run st with
    | none => rfl
    | some e => simp [Jk]
theorem Jbc {L : Nat → Nat} {t t' : Ty} {x : t'.D} (h : t' = t) (h1 : t.sz = 1) (st : St) : (fz.fzL ([TC.d t' x].map (Jt L))).run st = some (cel t (h ▸ x), []) := by
 subst h
 have e := JhS h1 x
 simp only [List.map_cons, List.map_nil, Jt, fz.fzL, fz.fz1, run_bind, Jk, Option.bind_some, List.append_nil]
 rw [← e]
theorem Jbp : ∀ {t : Ty} {l : List TC} {s0 s : TSt} {w0 : List (Nat × Blk)} {k : t.D → TSt → Option R} {r : R}, Fzd s0 s w0 → fzC t l s k = some r →
  ∃ y s' ws, (fz.fzL (l.map (Jt (lns s0.sto)))).run (Jf s0) = some (cel t y, ws) ∧ Fzd s0 s' (w0 ++ ws) ∧ k y s' = some r
 | .pr a c, l, s0, s, w0, k, r, f0, h => by
  simp only [fzC] at h
  obtain ⟨x, s1, w1, e1, f1, h⟩ := Jbp f0 h
  obtain ⟨y, s2, w2, e2, f2, h⟩ := Jbp f1 h
  refine ⟨(x, y), s2, w1 ++ w2, ?_, by rw [← List.append_assoc]; exact f2, h⟩
  have := Jr2 ((l.take a.sz).map (Jt (lns s0.sto))) ((l.drop a.sz).map (Jt (lns s0.sto))) (Jf s0)
  rw [← List.map_append, List.take_append_drop, e1, e2] at this
  exact this
 | .ar _ _, _, _, _, _, _, _, _, h => by cases h
 | .u, l, s0, s, w0, k, r, f0, h => by
  simp only [fzC] at h
  split at h
  ·rename_i h0
   refine ⟨(), s, [], ?_, by rw [List.append_nil]; exact f0, h⟩
   rw [List.isEmpty_iff.1 h0]; rfl
  ·cases h
 | .l e, l, s0, s, w0, k, r, f0, h => by
  simp only [fzC] at h
  split at h
  ·split at h
   ·rename_i h0; exact ⟨_, s, [], Jbc h0 rfl _, by rw [List.append_nil]; exact f0, h⟩
   ·cases h
  ·rename_i b
   split at h
   ·rename_i w e' rows hb
    split at h
    ·rename_i h0
     subst h0
     obtain ⟨w', hb0⟩ := f0.2.2.2.1 b _ rows w hb
     refine ⟨rows, _, [(b, .arr false e'.sz (rows.map (cel e')))], ?_, f0.trans (Jf3 hb), h⟩
     simp only [List.map_cons, List.map_nil, Jt, fz.fzL, fz.fz1, run_bind, J0r, J0C, hb0, Option.map_some, Option.bind_some, JI, J3p hb0, List.length_map, Nat.zero_add, if_true, List.drop_zero, Jk]
     rfl
    ·cases h
   ·cases h
  ·cases h
 | .b, l, s0, s, w0, k, r, f0, h => by
  simp only [fzC] at h
  split at h
  ·split at h
   ·rename_i h0; exact ⟨_, s, [], Jbc h0 rfl _, by rw [List.append_nil]; exact f0, h⟩
   ·cases h
  ·cases h
 | .i _, l, s0, s, w0, k, r, f0, h => by
  simp only [fzC] at h
  split at h
  ·split at h
   ·rename_i h0; exact ⟨_, s, [], Jbc h0 rfl _, by rw [List.append_nil]; exact f0, h⟩
   ·cases h
  ·cases h
 | .s, l, s0, s, w0, k, r, f0, h => by
  simp only [fzC] at h
  split at h
  ·split at h
   ·rename_i h0; exact ⟨_, s, [], Jbc h0 rfl _, by rw [List.append_nil]; exact f0, h⟩
   ·cases h
  ·cases h
 | .f, l, s0, s, w0, k, r, f0, h => by
  simp only [fzC] at h
  split at h
  ·split at h
   ·rename_i h0; exact ⟨_, s, [], Jbc h0 rfl _, by rw [List.append_nil]; exact f0, h⟩
   ·cases h
  ·cases h
theorem Jto (x : AV) (hx : (∀ cs, x ≠ .data cs) ∧ ∀ cs, x ≠ .agg cs) (st : St) {y : List PV} {ws : List (Nat × Blk)} (h : (fz.fzL [x]).run st = some (y, ws)) : (fz x).run st = some (y, ws) := by
 simp only [fz.fzL, run_bind, Jk] at h
 cases x with
 | p c => simpa [fz, fz.fz1, Jk] using h
 | slr b i n =>
  simp only [fz, fz.fz1] at h ⊢
  obtain ⟨a, h1, h⟩ := Option.bind_eq_some_iff.1 h
  simp at h
  rw [h1]
  simp [← h]
 | data cs => exact absurd rfl (hx.1 cs)
 | agg cs => exact absurd rfl (hx.2 cs)
 | _ => simp [fz.fz1, Jpu] at h
theorem JmZ {t : Ty} {v : TV} {s0 s : TSt} {w0 : List (Nat × Blk)} {k : t.D → TSt → Option R} {r : R} (f0 : Fzd s0 s w0) (h : tfz t v s k = some r) :
  ∃ y s' ws, (fz (Js (lns s0.sto) v)).run (Jf s0) = some (cel t y, ws) ∧ Fzd s0 s' (w0 ++ ws) ∧ k y s' = some r := by
 unfold tfz at h
 split at h
 ·split at h
  ·rename_i h0; subst h0
   exact ⟨_, s, [], rfl, by rw [List.append_nil]; exact f0, h⟩
  ·cases h
 ·rename_i x
  obtain ⟨y, s', ws, h1, h2, h3⟩ := Jbp f0 h
  refine ⟨y, s', ws, Jto _ ⟨fun cs => ?_, fun cs => ?_⟩ _ h1, h2, h3⟩ <;> cases x <;> simp [Jt, Js, J0c]
 ·obtain ⟨y, s', ws, h1, h2, h3⟩ := Jbp f0 h
  exact ⟨y, s', ws, h1, h2, h3⟩
 ·cases h
end
end Go.Am
end
section
namespace Go.Am
section
variable {R : Type}
theorem Jbb (L : Nat → Nat) {t : Ty} {v : TV} {x : t.D} (h : tdv t v = some x) (ha : agv v = true ∨ t.sz = 1) : cellsOf (Js L v) = some ((cel t x).map .p) := by
 rw [JrS L h]
 split
 ·rfl
 ·rename_i hn
  rw [JhS (ha.resolve_left hn)]; rfl
def Jik (t : Ty) (x u : TV) (d : Option Nat) (s : TSt) (k : TSt → Option R) : Option R :=
 match x with
 | .a (.c (.ptr b p)) => match s.sto[b]? with
  | some (.box t0 y) => match tdv t u with
   | some z => if agv u = true ∨ t.sz = 1 then pst t0 y (spf 0 p).1 (spf 0 p).2 t z fun y' => k (JM d uv (wS b (.box t0 y') s)) else none
   | none => match Jak p, JcT t0 y, tcs u with
    | some off, some cs, some l => if l.length = t.sz then
      match spl cs off l with
      | some cs' => k (JM d uv (wS b (mkb t0 cs') s))
      | none => none
     else none
    | some off, none, some l => if off = 0 ∧ l.length = t0.sz ∧ l.length = t.sz then k (JM d uv (wS b (mkb t0 l) s)) else none
    | _, _, _ => none
  | some (.mbox t0 cs) => match Jak p, tcs u with
   | some off, some l => if l.length = t.sz then
     match spl cs off l with
     | some cs' => k (JM d uv (wS b (mkb t0 cs') s))
     | none => none
    else none
   | _, _ => none
  | _ => none
 | .a (.c (.ep b i p)) => tfz t u s fun z s1 => match s1.sto[b]? with
  | some (.arr true t0 rows) => (lat rows i).bind fun row => pst t0 row (spf 0 p).1 (spf 0 p).2 t z fun row' => k (JM d uv (wS b (.arr true t0 (J2X rows i row')) s1))
  | _ => none
 | _ => none
theorem JrL (L : Nat → Nat) : Js L uv = J11 := rfl
theorem Jcj {s : TSt} {b : Nat} {t : Ty} {x : t.D} (h : s.sto[b]? = some (.box t x)) : lns s.sto b = 0 := by unfold lns; rw [h]; rfl
theorem JiK {s : TSt} {b : Nat} {t : Ty} {cs : List TC} (h : s.sto[b]? = some (.mbox t cs)) : lns s.sto b = 0 := by unfold lns; rw [h]; rfl
theorem J6i {s : TSt} {b : Nat} (h : s.sto[b]? = some .dead) : lns s.sto b = 0 := by unfold lns; rw [h]; rfl
theorem JeA {m : RM Eff} {d : Option Nat} {s : TSt} {k : TSt → Option R} {r : R} {b : Nat} {x : TB} {v : TV} (hl : lnB x = lns s.sto b) (hm : m.run (Jf s) = some ⟨Js (lns s.sto) v, [(b, JI (lns s.sto) x)]⟩)
  (h : k (JM d v (wS b x s)) = some r) : Ok m d s k r := by
 refine ⟨_, _, hm, ?_, h⟩
 have e := Ja6 hl
 rw [← e]
 refine J5L ?_ d v
 rw [Jac hl, e]; rfl
theorem Jm3 {m : RM Eff} {d : Option Nat} {s : TSt} {k : TSt → Option R} {r : R} {b : Nat} {x : TB} {v : TV} (hm : m.run (Jf s) = some ⟨Js (lns (wN b x s).sto) v, [(b, JI (lns (wN b x s).sto) x)]⟩)
  (h : k (JM d v (wN b x s)) = some r) : Ok m d s k r :=
 ⟨_, _, hm, J5L (JpI b x s) d v, h⟩
theorem J0Q {m : RM Eff} {d : Option Nat} {s : TSt} {k : TSt → Option R} {r : R} {v : TV} (hm : m.run (Jf s) = some ⟨Js (lns s.sto) v, []⟩) (h : k (JM d v s) = some r) : Ok m d s k r :=
 ⟨_, _, hm, J9S d v, h⟩
theorem Jjq {m : RM Eff} {d : Option Nat} {s s' : TSt} {ws : List (Nat × Blk)} {k : TSt → Option R} {r : R} {v : TV} (f : Fzd s s' ws) (hm : m.run (Jf s) = some ⟨Js (lns s.sto) v, ws⟩) (h : k (JM d v s') = some r) : Ok m d s k r := by
 refine ⟨_, _, hm, ?_, h⟩
 rw [← f.2.1]
 exact J5L f.2.2.1 d v
theorem Jna {t : Ty} {x u : TV} {d : Option Nat} {s : TSt} {k : TSt → Option R} {r : R} (h : Jik t x u d s k = some r) : Ok (J2k t.sz (Js (lns s.sto) x) (Js (lns s.sto) u)) d s k r := by
 unfold Jik at h
 split at h
 ·rename_i b p
  split at h
  ·rename_i t0 y hb
   split at h
   ·rename_i z hz
    split at h
    ·rename_i ha
     obtain ⟨y', h1, h2⟩ := J7n h
     rw [JhP] at h1
     refine JeA (x := .box t0 y') (v := uv) (Jcj hb).symm ?_ h2
     simp only [J4g, J7i, J7d, J33, J2k, J0r, J0C, hb, Option.map_some, Option.bind_some, JI, Jbb (lns s.sto) hz ha, List.length_map, J0d, if_true, J7e, h1, Jk]
     rfl
    ·cases h
   ·split at h
    ·rename_i off cs l ho hc hl
     split at h
     ·rename_i hn
      split at h
      ·rename_i cs' hs
       refine JeA (x := mkb t0 cs') (v := uv) ((Jcd _ _).trans (Jcj hb).symm) ?_ h
       rw [JbS]
       simp only [J4g, J7i, J7d, J33, J2k, J0r, J0C, hb, Option.map_some, Option.bind_some, JI, JbC (lns s.sto) hl, List.length_map, hn, if_true, J9K ho, ← J9P (lns s.sto) hc, J7e, hs, Jk]
       rfl
      ·cases h
     ·cases h
    ·rename_i off l ho _ hl
     split at h
     ·rename_i h0
      obtain ⟨rfl, h1, h2⟩ := h0
      refine JeA (x := mkb t0 l) (v := uv) ((Jcd _ _).trans (Jcj hb).symm) ?_ h
      rw [JbS]
      have he : spl ((cel t0 y).map AV.p) 0 (l.map (Jt (lns s.sto))) = some (l.map (Jt (lns s.sto))) := Jk7 (by rw [List.length_map, List.length_map, J0d, h1])
      simp only [J4g, J7i, J7d, J33, J2k, J0r, J0C, hb, Option.map_some, Option.bind_some, JI, JbC (lns s.sto) hl, List.length_map, h2, if_true, J9K ho, he, Jk]
      rfl
     ·cases h
    ·cases h
  ·rename_i t0 cs hb
   split at h
   ·rename_i off l ho hl
    split at h
    ·rename_i hn
     split at h
     ·rename_i cs' hs
      refine JeA (x := mkb t0 cs') (v := uv) ((Jcd _ _).trans (JiK hb).symm) ?_ h
      rw [JbS]
      simp only [J4g, J7i, J7d, J33, J2k, J0r, J0C, hb, Option.map_some, Option.bind_some, JI, JbC (lns s.sto) hl, List.length_map, hn, if_true, J9K ho, J7e, hs, Jk]
      rfl
     ·cases h
    ·cases h
   ·cases h
  ·cases h
 ·rename_i b i p
  obtain ⟨z, s1, ws, h1, f, h⟩ := JmZ (Fzd.refl s) h
  rw [List.nil_append] at f
  split at h
  ·rename_i t0 rows hb
   obtain ⟨row, hr, h⟩ := Option.bind_eq_some_iff.1 h
   have hr : rows[i]? = some row := hr
   obtain ⟨row', q1, q2⟩ := J7n h
   rw [JhP] at q1
   obtain ⟨w', hb0⟩ := f.2.2.2.1 b _ rows true hb
   have hw : w' = true := by
    cases w' with
    | true => rfl
    | false =>
     have := f.2.2.2.2.1 b _ rows hb0
     rw [hb] at this; injection this with this; injection this with this; cases this
   subst hw
   have hnot : (ws.all fun y => y.1 != b) = true := by
    rw [List.all_eq_true]
    intro y hy
    obtain ⟨t', rows', hf⟩ := f.2.2.2.2.2 y hy
    rw [bne_iff_ne]
    intro e
    rw [e, hb] at hf
    injection hf with hf; injection hf with hf; cases hf
   have hl : lnB (.arr true t0 (J2X rows i row')) = lns s1.sto b := by rw [J3p hb]; simp [lnB, J2X]
   refine ⟨⟨J11, ws ++ [(b, .arr true t0.sz ((J2X rows i row').map (cel t0)))]⟩, _, ?_, ?_, q2⟩
   ·simp only [J4g, J7i, J7d, J33, J2k, J0r, J0C, hb0, Option.map_some, Option.bind_some, JI, J3p hb0, List.length_map, if_true, List.getElem?_map, hr, run_bind, h1, J0d, hnot, and_self, q1, Jk, List.map_set, J2X]
   ·rw [← JrL (lns (wS b (.arr true t0 (J2X rows i row')) s1).sto)]
    refine J5L ?_ d uv
    rw [Jac hl, f.2.2.1, J0w]; rfl
  ·cases h
 ·cases h
def tpv : List (Nat × Ty × TO) → TSt → Option (List (Nat × (w : Ty) × w.D))
 | [], _ => some []
 | (off, w, o) :: r, s => match tev o s with
  | some v => match tdv w v with
   | some z => if agv v = true ∨ w.sz = 1 then
     match tpv r s with
     | some l => some ((off, ⟨w, z⟩) :: l)
     | none => none
    else none
   | none => none
  | none => none
def Jhr (t : Ty) : t.D → List (Nat × (w : Ty) × w.D) → (t.D → Option R) → Option R
 | x, [], k => k x
 | x, (off, ⟨w, z⟩) :: r, k => pst t x off [] w z fun x' => Jhr t x' r k
def tpc : List (Nat × Ty × TO) → TSt → Option (List (Nat × Nat × List TC))
 | [], _ => some []
 | (off, w, o) :: r, s => match tev o s with
  | some v => match tcs v with
   | some l => match tpc r s with
    | some q => some ((off, w.sz, l) :: q)
    | none => none
   | none => none
  | none => none
def Jem : List (Nat × Nat × List TC) → List TC → Option (List TC)
 | [], cs => some cs
 | (off, n, c) :: r, cs => if c.length = n then
   match spl cs off c with
   | some cs' => Jem r cs'
   | none => none
  else none
def erP (parts : List (Nat × Ty × TO)) : List (Nat × Nat × Opd) := parts.map fun x => (x.1, x.2.1.sz, erO x.2.2)
theorem JhT {s : TSt} : ∀ {parts : List (Nat × Ty × TO)} {l : List (Nat × Nat × List TC)}, tpc parts s = some l →
  (J38 (erP parts)).run (Jf s) = some (l.map fun x => (x.1, x.2.1, x.2.2.map (Jt (lns s.sto))))
 | [], l, h => by injection h with h; subst h; rfl
 | (off, w, o) :: r, l, h => by
  simp only [tpc] at h
  split at h
  ·rename_i v hv
   split at h
   ·rename_i c hc
    split at h
    ·rename_i q hq
     injection h with h; subst h
     have ih := JhT hq
     simp only [erP, List.map_cons, J38, run_bind, Jx hv, Option.bind_some, JbC (lns s.sto) hc]
     rw [show (r.map fun x => (x.1, x.2.1.sz, erO x.2.2)) = erP r from rfl, ih]
     rfl
    ·cases h
   ·cases h
  ·cases h
theorem Jnn {s : TSt} : ∀ {parts : List (Nat × Ty × TO)} {l : List (Nat × (w : Ty) × w.D)}, tpv parts s = some l →
  (J38 (erP parts)).run (Jf s) = some (l.map fun x => (x.1, x.2.1.sz, (cel x.2.1 x.2.2).map .p))
 | [], l, h => by injection h with h; subst h; rfl
 | (off, w, o) :: r, l, h => by
  simp only [tpv] at h
  split at h
  ·rename_i v hv
   split at h
   ·rename_i z hz
    split at h
    ·rename_i ha
     split at h
     ·rename_i q hq
      injection h with h; subst h
      have ih := Jnn hq
      simp only [erP, List.map_cons, J38, run_bind, Jx hv, Option.bind_some, Jbb (lns s.sto) hz ha]
      rw [show (r.map fun x => (x.1, x.2.1.sz, erO x.2.2)) = erP r from rfl, ih]
      rfl
     ·cases h
    ·cases h
   ·cases h
  ·cases h
theorem JiJ {t : Ty} : ∀ {l : List (Nat × (w : Ty) × w.D)} {x : t.D} {k : t.D → Option R} {r : R}, Jhr t x l k = some r →
  ∃ y, J45 (l.map fun x => (x.1, x.2.1.sz, (cel x.2.1 x.2.2).map .p)) ((cel t x).map .p) = some ((cel t y).map .p) ∧ k y = some r
 | [], x, k, r, h => ⟨x, rfl, h⟩
 | (off, ⟨w, z⟩) :: q, x, k, r, h => by
  simp only [Jhr] at h
  obtain ⟨x', h1, h2⟩ := J7n h
  obtain ⟨y, h3, h4⟩ := JiJ h2
  refine ⟨y, ?_, h4⟩
  simp only [List.map_cons, J45, List.length_map, J0d, if_true]
  rw [J7e, show off = off + spo [] from rfl, h1]
  exact h3
theorem JcQ (L : Nat → Nat) : ∀ {l : List (Nat × Nat × List TC)} {cs cs' : List TC}, Jem l cs = some cs' →
  J45 (l.map fun x => (x.1, x.2.1, x.2.2.map (Jt L))) (cs.map (Jt L)) = some (cs'.map (Jt L))
 | [], cs, cs', h => by injection h with h; subst h; rfl
 | (off, n, c) :: q, cs, cs', h => by
  simp only [Jem] at h
  split at h
  ·rename_i hn
   split at h
   ·rename_i c1 hs
    simp only [List.map_cons, J45, List.length_map, hn, if_true, J7e, hs, Option.map_some]
    exact JcQ L h
   ·cases h
  ·cases h
def JhU (t : Ty) (parts : List (Nat × Ty × TO)) (d : Option Nat) (s : TSt) (k : TSt → Option R) : Option R :=
 match tpv parts s with
 | some l => Jhr t t.zero l fun y => k (JM d (.a (.dt t y)) s)
 | none => match tpc parts s with
  | some l => match Jem l (zcs t) with
   | some cs' => match mka true t cs' with
    | some v => k (JM d v s)
    | none => none
   | none => none
  | none => none
theorem JnG (F : Orc) (new : Nat) {t : Ty} {parts : List (Nat × Ty × TO)} {d : Option Nat} {s : TSt} {k : TSt → Option R} {r : R} (h : JhU t parts d s k = some r) : Ok (opR F (.build (cel t t.zero) (erP parts)) new) d s k r := by
 unfold JhU at h
 split at h
 ·rename_i l hl
  obtain ⟨y, h1, h2⟩ := JiJ h
  refine J0Q (v := .a (.dt t y)) ?_ h2
  simp only [opR, run_bind, Jnn hl, Option.bind_some, h1, JcN, val, Jk]; rfl
 ·split at h
  ·rename_i l hl
   split at h
   ·rename_i cs' hf
    split at h
    ·rename_i v hv
     refine J0Q (v := v) ?_ h
     simp only [opR, run_bind, JhT hl, Option.bind_some, ← J9G (lns s.sto) t, JcQ (lns s.sto) hf, J9M (lns s.sto) hv, val, Jk]
    ·cases h
   ·cases h
  ·cases h
def Jjo (agg : Bool) (off : Nat) (t : Ty) (v : TV) (d : Option Nat) (s : TSt) (k : TSt → Option R) : Option R :=
 if agg = true ∨ t.sz = 1 then
  match v with
  | .a (.dt t0 x) => prt t0 x off [] t fun y => k (JM d (mkv agg t y) s)
  | .a (.m _ cs) => match sub cs off t.sz with
   | some l => match mka agg t l with
    | some v => k (JM d v s)
    | none => none
   | none => none
  | _ => none
 else none
theorem Jn0 {agg : Bool} {off : Nat} {t : Ty} {v : TV} {d : Option Nat} {s : TSt} {k : TSt → Option R} {r : R} (h : Jjo agg off t v d s k = some r) : Ok (val (J5P agg off t.sz (Js (lns s.sto) v))) d s k r := by
 unfold Jjo at h
 split at h
 ·rename_i ha
  split at h
  ·rename_i t0 x
   obtain ⟨y, h1, h2⟩ := J6q h
   refine J0Q (v := mkv agg t y) ?_ h2
   simp only [spo, Nat.add_zero] at h1
   simp only [Jmd, e_m, J5P, h1, J9E (lns s.sto) ha, val, Jk]
  ·rename_i cs
   split at h
   ·rename_i l hl
    split at h
    ·rename_i v hv
     refine J0Q (v := v) ?_ h
     simp only [Jmd, e_m, J5P, J7c, hl, Option.map_some, J9M (lns s.sto) hv, val, Jk]
    ·cases h
   ·cases h
  ·cases h
 ·cases h
end
end Go.Am
end
section
namespace Go.Am
section
variable {R : Type}
theorem JfP {α : Type} [BEq α] [LawfulBEq α] [DecidableEq α] (x y : α) : (x == y) = decide (x = y) := by
 by_cases h : x = y <;> simp [h]
def Vl (m : Option AV) (s : TSt) (kk : TV → Option R) (r : R) : Prop := ∃ v, m = some (Js (lns s.sto) v) ∧ kk v = some r
theorem Vl.ok {m : Option AV} {d : Option Nat} {s : TSt} {k : TSt → Option R} {r : R} (h : Vl m s (fun v => k (JM d v s)) r) : Ok (val m) d s k r := by
 obtain ⟨v, h1, h2⟩ := h
 refine J0Q (v := v) ?_ h2
 rw [h1]; rfl
def Jp5 (op : BinOp) (k : IntKind) (a c : Int) (kk : TV → Option R) : Option R :=
 match op with
 | .add => kk (vi k (Jb k a c))
 | .sub => kk (vi k (J4h k a c))
 | .mul => kk (vi k (Ji8 k a c))
 | .quo => (Jso k a c).bind fun q => kk (vi k q)
 | .rem => (JbA a c).bind fun q => kk (vi k q)
 | .and => kk (vi k (Jte k a c))
 | .or => kk (vi k (orI k a c))
 | .xor => kk (vi k (JhN k a c))
 | .eql => kk (vb (eqI a c))
 | .neq => kk (vb (neI a c))
 | .lss => kk (vb (ltI a c))
 | .leq => kk (vb (leI a c))
 | .gtr => kk (vb (gtI a c))
 | .geq => kk (vb (geI a c))
 | _ => none
def Jpc (op : BinOp) (a c : List UInt8) (kk : TV → Option R) : Option R :=
 match op with
 | .add => (Jdc a c).bind fun q => kk (vs q)
 | .eql => kk (vb (eqS a c))
 | .neq => kk (vb (neS a c))
 | .lss => kk (vb (ltS a c))
 | .leq => kk (vb (leS a c))
 | .gtr => kk (vb (gtS a c))
 | .geq => kk (vb (geS a c))
 | _ => none
inductive TBT where
 | plain
 | bool
 | flat (t : Ty)
 | nilp
 | nilf
def erT : TBT → BT
 | .plain => .plain
 | .bool => .bool
 | .flat t => .flat (t.ks.getD [])
 | .nilp => .nilp
 | .nilf => .nilf
def J7K (op : BinOp) (x : Bool) (kk : TV → Option R) : Option R :=
 match op with
 | .eql => kk (vb x)
 | .neq => kk (vb (J2x x))
 | _ => none
def Jog (op : BinOp) (bt : TBT) (x y : TV) (kk : TV → Option R) : Option R :=
 match bt with
 | .plain => match x, y with
  | .a (.c (.d (.i k) a)), .a (.c (.d (.i k') c)) => match op with
   | .shl => (Jsj k a c).bind fun q => kk (vi k q)
   | .shr => (JrN k a c).bind fun q => kk (vi k q)
   | _ => if k = k' then Jp5 op k a c kk else none
  | .a (.c (.d .s a)), .a (.c (.d .s c)) => Jpc op a c kk
  | _, _ => none
 | .bool => match x, y with
  | .a (.c (.d .b a)), .a (.c (.d .b c)) => J7K op (eqB a c) kk
  | _, _ => none
 | .flat t => match x, y with
  | .a (.dt t1 a), .a (.dt t2 c) => if h : t1 = t ∧ t2 = t ∧ t.ks.isSome = true then J7K op (eqT t (h.1 ▸ a) (h.2.1 ▸ c)) kk else none
  | _, _ => none
 | .nilp => match x with
  | .a (.c .np) => J7K op true kk
  | .a (.c (.ptr _ _)) => J7K op false kk
  | .a (.c (.cp _ _ _)) => J7K op false kk
  | .a (.c (.ep _ _ _)) => J7K op false kk
  | _ => none
 | .nilf => match x with
  | .a (.c .nf) => J7K op true kk
  | .a (.fn _ _ _) => J7K op false kk
  | .a (.c (.fn _)) => J7K op false kk
  | .a (.c (.d .f _)) => J7K op true kk
  | _ => none
theorem Jcg {op : BinOp} {x : Bool} {s : TSt} {kk : TV → Option R} {r : R} (h : J7K op x kk = some r) : Vl (J5y op (some x)) s kk r := by
 unfold J7K at h
 split at h
 ·exact ⟨_, rfl, h⟩
 ·exact ⟨_, rfl, h⟩
 ·cases h
theorem Jr3 {op : BinOp} {k : IntKind} {a c : Int} {s : TSt} {kk : TV → Option R} {r : R} (h : Jp5 op k a c kk = some r) : Vl ((Jdf op k a c).map .p) s kk r := by
  unfold Jp5 at h
  split at h <;> first
    | exact ⟨_, rfl, h⟩
    | (obtain ⟨q, h1, h⟩ := Option.bind_eq_some_iff.1 h
       refine ⟨_, ?_, h⟩
       first | unfold Jso at h1 | unfold JbA at h1
       split at h1
       · cases h1
       · rename_i h0
         injection h1 with h1
         simp only [Jdf, if_neg h0, h1, Option.map_some, e_i])
    | (refine ⟨_, ?_, h⟩; simp only [Jdf, JfP, Option.map_some, e_b, bne, eqI, neI, ltI, leI, gtI, geI]; done)
    | cases h
theorem Jrd {op : BinOp} {a c : List UInt8} {s : TSt} {kk : TV → Option R} {r : R} (h : Jpc op a c kk = some r) : Vl ((Jdr op a c).map .p) s kk r := by
  unfold Jpc at h
  split at h <;> first
    | (obtain ⟨q, h1, h⟩ := Option.bind_eq_some_iff.1 h
       refine ⟨_, ?_, h⟩
       unfold Jdc at h1
       split at h1
       · rename_i h0
         injection h1 with h1
         simp only [Jdr, if_pos h0, h1, Option.map_some, e_s]
       · cases h1)
    | (refine ⟨_, ?_, h⟩; simp only [Jdr, JfP, Option.map_some, e_b, eqS, neS, ltS, leS, gtS, geS]; done)
    | cases h
theorem Jr5 {op : BinOp} {bt : TBT} {x y : TV} {s : TSt} {kk : TV → Option R} {r : R} (h : Jog op bt x y kk = some r) : Vl (J7L op (erT bt) (Js (lns s.sto) x) (Js (lns s.sto) y)) s kk r := by
 unfold Jog at h
 split at h
 ·split at h
  ·rename_i k a k' c
   simp only [e_i, erT, J7L]
   split at h
   ·obtain ⟨q, h1, h⟩ := Option.bind_eq_some_iff.1 h
    unfold Jsj at h1
    split at h1
    ·cases h1
    ·rename_i h0; injection h1 with h1; exact ⟨_, by simp only [J8B, if_neg h0, h1, Option.map_some, e_i], h⟩
   ·obtain ⟨q, h1, h⟩ := Option.bind_eq_some_iff.1 h
    unfold JrN at h1
    split at h1
    ·cases h1
    ·rename_i h0; injection h1 with h1; exact ⟨_, by simp only [J8B, if_neg h0, h1, Option.map_some, e_i], h⟩
   ·split at h
    ·rename_i hk
     subst hk
     simp only [if_true]
     cases op <;> first | exact Jr3 h | cases h
    ·cases h
  ·exact Jrd h
  ·cases h
 ·split at h
  ·rename_i a c
   simp only [e_b, erT, J7L, JfP]
   exact Jcg h
  ·cases h
 ·split at h
  ·rename_i t t1 a t2 c
   split at h
   ·rename_i h0
    obtain ⟨rfl, rfl, h1⟩ := h0
    obtain ⟨ks, hks⟩ := Option.isSome_iff_exists.1 h1
    simp only [Jmd, erT, J7L, hks, Option.getD_some, Jc3 _ a c hks]
    exact Jcg h
   ·cases h
  ·cases h
 ·split at h <;> first | exact Jcg h | cases h
 ·split at h <;> first | exact Jcg h | cases h
def tUn (op : UnOp) (x : TV) (kk : TV → Option R) : Option R :=
 match op, x with
 | .neg, .a (.c (.d (.i k) n)) => kk (vi k (Jtp k n))
 | .xor, .a (.c (.d (.i k) n)) => kk (vi k (Jt9 k n))
 | .not, .a (.c (.d .b x)) => kk (vb (J2x x))
 | _, _ => none
theorem Js9 {op : UnOp} {x : TV} {s : TSt} {kk : TV → Option R} {r : R} (h : tUn op x kk = some r) : Vl (unP op (Js (lns s.sto) x)) s kk r := by
 unfold tUn at h
 split at h <;> first | exact ⟨_, rfl, h⟩ | cases h
def tMm (mx : Bool) (x y : TV) (kk : TV → Option R) : Option R :=
 match x, y with
 | .a (.c (.d (.i k) a)), .a (.c (.d (.i _) c)) => kk (vi k (if mx = true then Jtj a c else Jtb a c))
 | _, _ => none
theorem Jsp {mx : Bool} {x y : TV} {s : TSt} {kk : TV → Option R} {r : R} (h : tMm mx x y kk = some r) : Vl (mmP mx (Js (lns s.sto) x) (Js (lns s.sto) y)) s kk r := by
 unfold tMm at h
 split at h
 ·exact ⟨_, by cases mx <;> rfl, h⟩
 ·cases h
def tls (t : Ty) (v : TV) (s : TSt) : Option (List t.D) :=
 match v with
 | .a (.c (.d (.l t') l)) => if h : t' = t then some (h ▸ l) else none
 | .a (.c (.d .s l)) => if h : t = .i .u8 then some (h ▸ (toByt l : List (Ty.i .u8).D)) else none
 | .a (.c (.slr b)) => match s.sto[b]? with
  | some (.arr _ t' rows) => if h : t' = t then some (h ▸ rows) else none
  | _ => none
 | _ => none
theorem JdL {t : Ty} {v : TV} {s : TSt} {l : List t.D} (h : tls t v s = some l) : (J1g t.sz (Js (lns s.sto) v)).run (Jf s) = some (l.map (cel t)) := by
 unfold tls at h
 split at h
 ·split at h
  ·rename_i h0; subst h0; injection h with h; subst h
   simp only [e_l, J1g, if_true, Jk]
  ·cases h
 ·split at h
  ·rename_i h0; subst h0; injection h with h; subst h
   simp only [e_s, J1g, Ty.sz, if_true, Jk, Jdo]
   rfl
  ·cases h
 ·rename_i b
  split at h
  ·rename_i w t' rows hb
   split at h
   ·rename_i h0; subst h0; injection h with h; subst h
    simp only [J33, J1g, J0r, J0C, hb, Option.map_some, Option.bind_some, JI, J3p hb, List.length_map, Nat.zero_add, and_self, if_true, Jk, List.drop_zero]
   ·cases h
  ·cases h
 ·cases h
def JlF (k : CK) (x : TV) (d : Option Nat) (new : Nat) (s : TSt) (kk : TSt → Option R) : Option R :=
 match k with
 | .int k => match x with
  | .a (.c (.d (.i _) n)) => kk (JM d (vi k (cvI k n)) s)
  | _ => none
 | .same => match x with
  | .a (.c (.d .s l)) => kk (JM d (vs l) s)
  | _ => none
 | .toStr => match tls (.i .u8) x s with
  | some l => kk (JM d (vs (toStr l)) s)
  | none => none
 | .toBytes own => match x with
  | .a (.c (.d .s l)) => if own = true then kk (JM d (.a (.c (.slr new))) (wN new (.arr true (.i .u8) (toByt l)) s)) else kk (JM d (vl (.i .u8) (toByt l)) s)
  | _ => none
theorem Jot (F : Orc) {k : CK} {x : TO} {v : TV} {d : Option Nat} {new : Nat} {s : TSt} {kk : TSt → Option R} {r : R} (hx : tev x s = some v) (hn : k = .toBytes true → new < s.sto.length) (h : JlF k v d new s kk = some r) : Ok (opR F (.conv k (erO x)) new) d s kk r := by
 unfold JlF at h
 split at h
 ·split at h
  ·refine J0Q (v := vi _ _) ?_ h
   simp only [opR, run_bind, Jx hx, Option.bind_some, e_i, Jk, cvI]
  ·cases h
 ·split at h
  ·refine J0Q (v := vs _) ?_ h
   simp only [opR, run_bind, Jx hx, Option.bind_some, e_s, Jk]
  ·cases h
 ·split at h
  ·rename_i l hl
   refine J0Q (v := vs _) ?_ h
   have := JdL hl
   have e : l.map (cel (.i .u8)) = l.map (r_i .u8) := rfl
   rw [e] at this
   simp only [opR, run_bind, Jx hx, Option.bind_some, this, Jam, e_s, Jk, Ty.sz]
   rw [show (J1g 1 (Js (lns s.sto) v)).run (Jf s) = some (l.map (r_i .u8)) from this]
   simp only [Option.bind_some, Jam, Jk]
  ·cases h
 ·rename_i own
  split at h
  ·rename_i l
   split at h
   ·rename_i ho
    subst ho
    refine Jm3 (x := .arr true (.i .u8) (toByt l)) (v := .a (.c (.slr new))) ?_ h
    simp only [opR, run_bind, Jx hx, Option.bind_some, e_s, if_true, Jk, J33, JI, Jdo]
    have e : lns (wN new (TB.arr true (Ty.i IntKind.u8) (toByt l)) s).sto new = l.length := by
     unfold wN
     rw [Jjs (by simpa using hn rfl)]
     simp [lnB, toByt]
    rw [e]; rfl
   ·rename_i ho
    have : own = false := by simpa using ho
    subst this
    refine J0Q (v := vl _ _) ?_ h
    simp only [opR, run_bind, Jx hx, Option.bind_some, e_s, Bool.false_eq_true, if_false, Jk, e_l, Jdo]
    rfl
  ·cases h
end
end Go.Am
end
section
namespace Go.Am
section
variable {R : Type}
theorem Jkr (p q : List Sp) : spo (p ++ q) = spo p + spo q := by
 induction p with
 | nil => simp [spo]
 | cons x p ih => cases x <;> simp only [List.cons_append, spo, ih] <;> omega
def Jic (off : Nat) (x : TV) (kk : TV → Option R) : Option R :=
 match x with
 | .a (.c (.ptr b p)) => kk (.a (.c (.ptr b (p ++ [.f off]))))
 | .a (.c (.cp t x p)) => kk (.a (.c (.cp t x (p ++ [.f off]))))
 | .a (.c (.ep b i p)) => kk (.a (.c (.ep b i (p ++ [.f off]))))
 | _ => none
theorem Jnc {off : Nat} {x : TV} {s : TSt} {kk : TV → Option R} {r : R} (h : Jic off x kk = some r) : Vl (Jbn off (Js (lns s.sto) x)) s kk r := by
 unfold Jic at h
 split at h <;> first
  | (refine ⟨_, ?_, h⟩; simp only [J4g, J7i, J7d, Jbn, Jkr, spo, Nat.add_zero]; done)
  | cases h
def JhI (len esz : Nat) (x i : TV) (kk : TV → Option R) : Option R :=
 match i with
 | .a (.c (.d (.i _) n)) => (inb len n).bind fun _ => match x with
  | .a (.c (.ptr b p)) => kk (.a (.c (.ptr b (p ++ [.a n.toNat esz]))))
  | .a (.c (.cp t x p)) => kk (.a (.c (.cp t x (p ++ [.a n.toNat esz]))))
  | .a (.c (.ep b i p)) => kk (.a (.c (.ep b i (p ++ [.a n.toNat esz]))))
  | _ => none
 | _ => none
theorem Jmn {len esz : Nat} {x i : TV} {s : TSt} {kk : TV → Option R} {r : R} (h : JhI len esz x i kk = some r) : Vl (JbB len esz (Js (lns s.sto) x) (Js (lns s.sto) i)) s kk r := by
 unfold JhI at h
 split at h
 ·obtain ⟨_, h1, h⟩ := Option.bind_eq_some_iff.1 h
  have h0 := Jkv h1
  split at h <;> first
   | (refine ⟨_, ?_, h⟩; simp only [J4g, J7i, J7d, e_i, JbB, if_pos h0, Jkr, spo, Nat.add_zero]; done)
   | cases h
 ·cases h
def JhW (t : Ty) (x i : TV) (s : TSt) (kk : TV → Option R) : Option R :=
 match i with
 | .a (.c (.d (.i _) n)) => match x with
  | .a (.c (.d (.l t') l)) => if t' = t then (idx l n).bind fun y => kk (.a (.c (.cp t' y []))) else none
  | .a (.c (.slr b)) => match s.sto[b]? with
   | some (.arr _ t' rows) => if t' = t then (inb rows.length n).bind fun _ => kk (.a (.c (.ep b n.toNat []))) else none
   | _ => none
  | _ => none
 | _ => none
theorem JnF {t : Ty} {x i : TV} {d : Option Nat} {s : TSt} {k : TSt → Option R} {r : R} (h : JhW t x i s (fun v => k (JM d v s)) = some r) : Ok (J3Z t.sz (Js (lns s.sto) x) (Js (lns s.sto) i)) d s k r := by
 unfold JhW at h
 split at h
 ·split at h
  ·split at h
   ·rename_i h0; subst h0
    obtain ⟨y, h1, h⟩ := Option.bind_eq_some_iff.1 h
    refine J0Q (v := .a (.c (.cp _ y []))) ?_ h
    simp only [e_l, e_i, J7i, J3Z, if_true, Jne h1, Jk, spo]
   ·cases h
  ·rename_i b
   split at h
   ·rename_i w t' rows hb
    split at h
    ·rename_i h0; subst h0
     obtain ⟨_, h1, h⟩ := Option.bind_eq_some_iff.1 h
     have h0 := Jkv h1
     refine J0Q (v := .a (.c (.ep b _ []))) ?_ h
     simp only [J33, e_i, J7d, J3Z, J0r, J0C, hb, Option.map_some, Option.bind_some, JI, J3p hb, List.length_map, Nat.zero_add, true_and]
     rw [if_pos h0]
     rfl
    ·cases h
   ·cases h
  ·cases h
 ·cases h
def Jml (x i : TV) (kk : TV → Option R) : Option R :=
 match x, i with
 | .a (.c (.d .s l)), .a (.c (.d (.i _) n)) => (Jsx l n).bind fun u => kk (vi .u8 u)
 | _, _ => none
theorem Jpd (F : Orc) {x i : TO} {vx vi' : TV} {d : Option Nat} {new : Nat} {s : TSt} {k : TSt → Option R} {r : R} (hx : tev x s = some vx) (hi : tev i s = some vi') (h : Jml vx vi' (fun v => k (JM d v s)) = some r) : Ok (opR F (.sidx (erO x) (erO i)) new) d s k r := by
 unfold Jml at h
 split at h
 ·rename_i l k' n
  obtain ⟨u, h1, h⟩ := Option.bind_eq_some_iff.1 h
  refine J0Q (v := vi .u8 u) ?_ h
  simp only [opR, run_bind, Jx hx, Jx hi, Option.bind_some, e_s, e_i]
  unfold Jsx at h1
  split at h1
  ·rename_i h0
   rw [if_pos h0]
   split at h1
   ·rename_i q hq
    injection h1 with h1
    rw [hq, ← h1]; rfl
   ·cases h1
  ·cases h1
 ·cases h
def Jme (j : Int) (k : Nat → Option R) : Nat → Option R
 | 0 => none
 | m + 1 => if eqI j m = true then k m else Jme j k m
theorem JkB {j : Int} {k : Nat → Option R} {r : R} : ∀ {n : Nat}, Jme j k n = some r → ∃ m, m < n ∧ j = m ∧ k m = some r
 | 0, h => by cases h
 | n + 1, h => by
  simp only [Jme] at h
  split at h
  ·rename_i e; exact ⟨n, by omega, by simpa [eqI] using e, h⟩
  ·obtain ⟨m, h1, h2, h3⟩ := JkB h
   exact ⟨m, by omega, h2, h3⟩
def JlT (agg : Bool) (len : Nat) (t : Ty) (x i : TV) (d : Option Nat) (s : TSt) (k : TSt → Option R) : Option R :=
 if agg = true ∨ t.sz = 1 then
  match x, i with
  | .a (.dt (.ar n t') v), .a (.c (.d (.i _) j)) => if h : t' = t ∧ n = len then (Joq v j).bind fun y => k (JM d (mkv agg t (h.1 ▸ y)) s) else none
  | .a (.m _ cs), .a (.c (.d (.i _) j)) => Jme j (fun m => match sub cs (m * t.sz) t.sz with
   | some l => match mka agg t l with
    | some v => k (JM d v s)
    | none => none
   | none => none) len
  | _, _ => none
 else none
theorem Jpm (F : Orc) {agg : Bool} {len : Nat} {t : Ty} {x i : TO} {vx vi' : TV} {d : Option Nat} {new : Nat} {s : TSt} {k : TSt → Option R} {r : R} (hx : tev x s = some vx) (hi : tev i s = some vi') (h : JlT agg len t vx vi' d s k = some r) :
  Ok (opR F (.aidx agg len t.sz (erO x) (erO i)) new) d s k r := by
 unfold JlT at h
 split at h
 ·rename_i ha
  split at h
  ·rename_i n t' v k' j
   split at h
   ·rename_i h0
    obtain ⟨rfl, rfl⟩ := h0
    obtain ⟨y, h1, h⟩ := Option.bind_eq_some_iff.1 h
    obtain ⟨h2, h3⟩ := Jpw h1
    refine J0Q (v := mkv agg t' y) ?_ h
    simp only [opR, run_bind, Jx hx, Jx hi, Option.bind_some, Jmd, e_i, if_pos h2, J5P]
    rw [show cel (.ar n t') v = J6J (cel t') v from rfl, Jbw (J0d t') h3]
    simp only [J9E (lns s.sto) ha, val, Jk]
   ·cases h
  ·rename_i t0 cs k' j
   obtain ⟨m, h1, e0, h3⟩ := JkB h
   clear h
   subst e0
   split at h3
   ·rename_i l hl
    split at h3
    ·rename_i v hv
     refine J0Q (v := v) ?_ h3
     have h2 : (0 : Int) ≤ m ∧ (m : Int) < len := by omega
     simp only [opR, run_bind, Jx hx, Jx hi, Option.bind_some, e_m, e_i, if_pos h2, J5P, Int.toNat_natCast, J7c, hl, Option.map_some, J9M (lns s.sto) hv, val, Jk]
    ·cases h3
   ·cases h3
  ·cases h
 ·cases h
def JlH (x : TV) (i : Nat) (kk : TV → Option R) : Option R :=
 match x with
 | .tup vs => match vs[i]? with
  | some v => kk (.a v)
  | none => none
 | _ => none
theorem Jph {x : TV} {i : Nat} {s : TSt} {kk : TV → Option R} {r : R} (h : JlH x i kk = some r) : Vl (Je0 i (Js (lns s.sto) x)) s kk r := by
 unfold JlH at h
 split at h
 ·split at h
  ·rename_i v hv
   refine ⟨_, ?_, h⟩
   simp only [Js, Je0, List.getElem?_map, hv, Option.map_some]
  ·cases h
 ·cases h
def JoB (str : Bool) (x : TV) (s : TSt) (kk : TV → Option R) : Option R :=
 match str, x with
 | true, .a (.c (.d .s l)) => kk (vi .i64 (J8 l))
 | false, .a (.c (.d (.l _) l)) => kk (vi .i64 (J8 l))
 | false, .a (.c (.slr b)) => match s.sto[b]? with
  | some (.arr _ _ rows) => kk (vi .i64 (J8 rows))
  | _ => none
 | false, .a (.c (.slo _ n)) => kk (vi .i64 n)
 | _, _ => none
theorem Jqe {str : Bool} {x : TV} {s : TSt} {kk : TV → Option R} {r : R} (h : JoB str x s kk = some r) : Vl (JfW str (Js (lns s.sto) x)) s kk r := by
 unfold JoB at h
 split at h
 ·exact ⟨_, rfl, h⟩
 ·exact ⟨_, by simp only [e_l, JfW, List.length_map, e_i, J8], h⟩
 ·split at h
  ·rename_i hb
   exact ⟨_, by simp only [J33, JfW, J3p hb, e_i, J8], h⟩
  ·cases h
 ·exact ⟨_, rfl, h⟩
 ·cases h
theorem JfB {s : TSt} {new : Nat} (hn : new < s.sto.length) {w : Bool} {t : Ty} {rows : List t.D} : lns (wN new (TB.arr w t rows) s).sto new = rows.length := by
 unfold wN
 rw [Jjs (by simpa using hn)]; rfl
theorem Jep {m : RM Eff} {d : Option Nat} {s : TSt} {k : TSt → Option R} {r : R} {new : Nat} {t : Ty} {rows : List t.D} (hn : new < s.sto.length)
  (hm : m.run (Jf s) = some ⟨.slr new 0 rows.length, [(new, .arr true t.sz (rows.map (cel t)))]⟩) (h : k (JM d (.a (.c (.slr new))) (wN new (.arr true t rows) s)) = some r) : Ok m d s k r := by
 refine Jm3 (x := .arr true t rows) (v := .a (.c (.slr new))) ?_ h
 rw [hm, J33, JfB hn]; rfl
def JcP (own : Bool) (t : Ty) (bytes : Nat) (l c : TV) (d : Option Nat) (new : Nat) (s : TSt) (k : TSt → Option R) : Option R :=
 match l, c with
 | .a (.c (.d (.i _) n)), .a (.c (.d (.i _) m)) => (mkS bytes n m t.zero).bind fun rows =>
  if own = true then k (JM d (.a (.c (.slr new))) (wN new (.arr true t rows) s)) else k (JM d (vl t rows) s)
 | _, _ => none
theorem JjL (F : Orc) {own : Bool} {t : Ty} {bytes : Nat} {l c : TO} {vl' vc : TV} {d : Option Nat} {new : Nat} {s : TSt} {k : TSt → Option R} {r : R} (hl : tev l s = some vl') (hc : tev c s = some vc) (hn : own = true → new < s.sto.length)
  (h : JcP own t bytes vl' vc d new s k = some r) : Ok (opR F (.mkslice own t.sz bytes (cel t t.zero) (erO l) (erO c)) new) d s k r := by
 unfold JcP at h
 split at h
 ·obtain ⟨rows, h1, h3⟩ := Option.bind_eq_some_iff.1 h
  obtain ⟨h2, rfl⟩ := Jqk h1
  clear h
  split at h3
  ·rename_i ho
   subst ho
   refine Jep (hn rfl) ?_ h3
   simp only [opR, run_bind, Jx hl, Jx hc, Option.bind_some, e_i, if_pos h2, if_true, Jk, List.length_replicate, List.map_replicate]
  ·rename_i ho
   have : own = false := by simpa using ho
   subst this
   refine J0Q (v := vl t _) ?_ h3
   simp only [opR, run_bind, Jx hl, Jx hc, Option.bind_some, e_i, if_pos h2, Bool.false_eq_true, if_false, Jk, e_l, List.map_replicate]
 ·cases h
def Jlm (t : Ty) (bytes : Nat) (x y : TV) (d : Option Nat) (s : TSt) (k : TSt → Option R) : Option R :=
 match x with
 | .a (.c (.slr b)) => match s.sto[b]? with
  | some (.arr w t' rows) => if h : t' = t then
    match tls t' y s with
    | some l => (J4j bytes rows l).bind fun m => k (JM d (.a (.c (.slr b))) (wN b (.arr w t' m) s))
    | none => none
   else none
  | _ => none
 | _ => none
theorem Jkn {t : Ty} {bytes : Nat} {x y : TV} {d : Option Nat} {s : TSt} {k : TSt → Option R} {r : R} (h : Jlm t bytes x y d s k = some r) : Ok (J4P t.sz bytes (Js (lns s.sto) x) (Js (lns s.sto) y)) d s k r := by
 unfold Jlm at h
 split at h
 ·rename_i b
  split at h
  ·rename_i w t' rows hb
   split at h
   ·rename_i h0; subst h0
    split at h
    ·rename_i l hl
     obtain ⟨m, h1, h⟩ := Option.bind_eq_some_iff.1 h
     refine Jm3 (x := .arr w t' m) (v := .a (.c (.slr b))) ?_ h
     have hb' : (Jf s).sto[b]? = some (.arr w t'.sz (rows.map (cel t'))) := by rw [J0C, hb]; rfl
     have := Jr8 h1 hb' (JdL hl)
     rw [J33, J3p hb, this, J33, JfB (J9 hb)]
     rfl
    ·cases h
   ·cases h
  ·cases h
 ·cases h
def Jlv (t : Ty) (bytes : Nat) (y : TV) (d : Option Nat) (new : Nat) (s : TSt) (k : TSt → Option R) : Option R :=
 match tls t y s with
 | some l => (cloS bytes l).bind fun m => k (JM d (.a (.c (.slr new))) (wN new (.arr true t m) s))
 | none => none
theorem JoO (F : Orc) {t : Ty} {bytes : Nat} {z : List PV} {y : TO} {vy : TV} {d : Option Nat} {new : Nat} {s : TSt} {k : TSt → Option R} {r : R} (hy : tev y s = some vy) (hn : new < s.sto.length) (h : Jlv t bytes vy d new s k = some r) : Ok (opR F (.appn t.sz bytes z (erO y)) new) d s k r := by
 unfold Jlv at h
 split at h
 ·rename_i l hl
  obtain ⟨m, h1, h3⟩ := Option.bind_eq_some_iff.1 h
  obtain ⟨h2, rfl⟩ := JpB h1
  refine Jep hn ?_ h3
  simp only [opR, run_bind, Jx hy, Option.bind_some, JdL hl, List.length_map, h2, if_true, Jk]
 ·cases h
def Jmi (t : Ty) (bytes : Nat) (x y : TV) (d : Option Nat) (s : TSt) (k : TSt → Option R) : Option R :=
 match y with
 | .a (.c (.d (.i _) n)) => if 0 ≤ n then Jlm t bytes x (vl t (List.replicate n.toNat t.zero)) d s k else none
 | _ => none
theorem JoS (F : Orc) {t : Ty} {bytes : Nat} {x y : TO} {vx vy : TV} {d : Option Nat} {new : Nat} {s : TSt} {k : TSt → Option R} {r : R} (hx : tev x s = some vx) (hy : tev y s = some vy) (h : Jmi t bytes vx vy d s k = some r) : Ok (opR F (.appz t.sz bytes (cel t t.zero) (erO x) (erO y)) new) d s k r := by
 unfold Jmi at h
 split at h
 ·rename_i n
  split at h
  ·rename_i h0
   obtain ⟨e, s', h1, h2, h3⟩ := Jkn h
   refine ⟨e, s', ?_, h2, h3⟩
   simp only [opR, run_bind, Jx hx, Jx hy, Option.bind_some, e_i, zrs, if_pos h0]
   rw [e_l, List.map_replicate] at h1
   exact h1
  ·cases h
 ·cases h
def JlE (t : Ty) (bytes : Nat) (x y : TV) (d : Option Nat) (new : Nat) (s : TSt) (k : TSt → Option R) : Option R :=
 match x with
 | .a (.c (.sc t' rows)) => if h : t' = t then
   match tls t' y s with
   | some l => (Jrq bytes rows l).bind fun m => k (JM d (.a (.c (.slr new))) (wN new (.arr true t' m) s))
   | none => none
  else none
 | _ => none
theorem Jpb (F : Orc) {t : Ty} {bytes : Nat} {z : List PV} {x y : TO} {vx vy : TV} {d : Option Nat} {new : Nat} {s : TSt} {k : TSt → Option R} {r : R} (hx : tev x s = some vx) (hy : tev y s = some vy) (hn : new < s.sto.length) (h : JlE t bytes vx vy d new s k = some r) :
  Ok (opR F (.appc t.sz bytes z (erO x) (erO y)) new) d s k r := by
 unfold JlE at h
 split at h
 ·rename_i t' rows
  split at h
  ·rename_i h0; subst h0
   split at h
   ·rename_i l hl
    obtain ⟨m, h1, h⟩ := Option.bind_eq_some_iff.1 h
    unfold Jrq at h1
    split at h1
    ·rename_i h2
     injection h1 with h1
     subst h1
     refine Jep hn ?_ h
     simp only [opR, run_bind, Jx hx, Jx hy, Option.bind_some]
     show (JiW t'.sz bytes (.p (.slc t'.sz (rows.map (cel t')))) _ new).run _ = _
     simp only [JiW, run_bind, JdL hl, Option.bind_some, List.length_map, true_and, h2, and_self, if_true, Jk, List.length_append, List.map_append]
    ·cases h1
   ·cases h
  ·cases h
 ·cases h
def tbn (x : Option TO) (s : TSt) : Option (Option (IntKind × Int)) :=
 match x with
 | none => some none
 | some o => match tev o s with
  | some (.a (.c (.d (.i k) n))) => some (some (k, n))
  | _ => none
def bv (x : Option (IntKind × Int)) : Option AV := x.map fun y => .p (.i y.1 y.2)
theorem J9J {x : Option TO} {s : TSt} {y : Option (IntKind × Int)} (h : tbn x s = some y) : (evo (x.map erO)).run (Jf s) = some (bv y) := by
 cases x with
 | none => injection h with h; subst h; rfl
 | some o =>
  simp only [tbn] at h
  split at h
  ·rename_i k n ho
   injection h with h; subst h
   simp only [Option.map_some, evo, run_bind, Jx ho, Option.bind_some, Jk, bv, e_i]
  ·cases h
theorem Jrx (x : Option (IntKind × Int)) (top d : Nat) : J47 (bv x) top d = JhZ (x.map (·.2)) top d := by
 cases x <;> rfl
theorem JmJ (n : Nat) (lo hi : Option (IntKind × Int)) : Jbg n (bv lo) (bv hi) = JfM n (lo.map (·.2)) (hi.map (·.2)) := by
 unfold Jbg JfM
 simp only [Jrx]
 rfl
inductive TSK where
 | str
 | sl (t : Ty)
def erK : TSK → SK
 | .str => .str
 | .sl t => .sl t.sz
def JoW (t : Ty) (x : TV) (s : TSt) (kk : List t.D → TSt → Option R) : Option R :=
 match x with
 | .a (.c (.d (.l t') l)) => if h : t' = t then kk (h ▸ l) s else none
 | .a (.c (.slr b)) => match s.sto[b]? with
  | some (.arr _ t' rows) => if h : t' = t then kk (h ▸ rows) (wS b (.arr false t' rows) s) else none
  | _ => none
 | _ => none
theorem Jrj {t : Ty} {x : TV} {s : TSt} {kk : List t.D → TSt → Option R} {r : R} (h : JoW t x s kk = some r) :
  ∃ l s' ws, Fzd s s' ws ∧ kk l s' = some r ∧ ((Js (lns s.sto) x = .p (.sl t.sz (l.map (cel t))) ∧ ws = []) ∨
   ∃ b, Js (lns s.sto) x = .slr b 0 l.length ∧ (fz (.slr b 0 l.length)).run (Jf s) = some ([.sl t.sz (l.map (cel t))], ws)) := by
 unfold JoW at h
 split at h
 ·split at h
  ·rename_i h0; subst h0
   exact ⟨_, s, [], Fzd.refl s, h, .inl ⟨e_l _ _ _, rfl⟩⟩
  ·cases h
 ·rename_i b
  split at h
  ·rename_i w t' rows hb
   split at h
   ·rename_i h0; subst h0
    refine ⟨_, _, _, Jf3 hb, h, .inr ⟨b, by rw [J33, J3p hb], ?_⟩⟩
    simp only [fz, J0r, J0C, hb, Option.map_some, Option.bind_some, JI, List.length_map, Nat.zero_add, if_true, List.drop_zero, Jk]
   ·cases h
  ·cases h
 ·cases h
def Jjk (kd : TSK) (x : TV) (lo hi mx : Option (IntKind × Int)) (d : Option Nat) (s : TSt) (k : TSt → Option R) : Option R :=
 match kd with
 | .str => match x, mx with
  | .a (.c (.d .s l)), none => (J8z l (lo.map (·.2)) (hi.map (·.2))).bind fun q => k (JM d (vs q) s)
  | _, _ => none
 | .sl t => JoW t x s fun l s1 => match mx with
  | none => (J8z l (lo.map (·.2)) (hi.map (·.2))).bind fun q => k (JM d (vl t q) s1)
  | some (_, n) => match lo, hi with
   | none, some (_, h) => if h = l.length ∧ n = l.length then k (JM d (.a (.c (.sc t l))) s1) else none
   | _, _ => none
theorem Jkg {α : Type} {l q : List α} {lo hi : Option Int} (h : J8z l lo hi = some q) : ∃ c, JfM l.length lo hi = some c ∧ q = (l.drop c.1).take (c.2 - c.1) := by
 unfold J8z at h
 split at h
 ·rename_i c hc
  injection h with h
  exact ⟨c, hc, h.symm⟩
 ·cases h
theorem Jmv (F : Orc) {kd : TSK} {x : TO} {vx : TV} {lo hi mx : Option TO} {l h' m : Option (IntKind × Int)} {d : Option Nat} {new : Nat} {s : TSt} {k : TSt → Option R} {r : R} (hx : tev x s = some vx) (hl : tbn lo s = some l) (hh : tbn hi s = some h') (hm : tbn mx s = some m)
  (h : Jjk kd vx l h' m d s k = some r) : Ok (opR F (.slice (erK kd) (erO x) (lo.map erO) (hi.map erO) (mx.map erO)) new) d s k r := by
 unfold Jjk at h
 split at h
 ·split at h
  ·rename_i l0
   obtain ⟨q, h1, h⟩ := Option.bind_eq_some_iff.1 h
   obtain ⟨c, hc, rfl⟩ := Jkg h1
   refine J0Q (v := vs _) ?_ h
   have e0 : bv none = none := rfl
   simp only [opR, run_bind, Jx hx, J9J hl, J9J hh, J9J hm, Option.bind_some, e_s, erK, e0, J3g, J7x, val, JmJ, hc, Jk]
  ·cases h
 ·rename_i t
  obtain ⟨y, s1, ws, f, h, hv⟩ := Jrj h
  have red : ∀ (res : AV), J3g (.sl t.sz) (.p (.sl t.sz (y.map (cel t)))) (bv l) (bv h') (bv m) = some res →
    (opR F (.slice (erK (.sl t)) (erO x) (lo.map erO) (hi.map erO) (mx.map erO)) new).run (Jf s) = some ⟨res, ws⟩ := by
   intro res hr
   simp only [opR, run_bind, Jx hx, J9J hl, J9J hh, J9J hm, Option.bind_some, erK]
   rcases hv with ⟨hv, rfl⟩ | ⟨b, hv, hf⟩
   ·simp only [hv, hr, val, Jk]
   ·simp only [hv, run_bind, hf, Option.bind_some, hr, Jk]
  split at h
  ·obtain ⟨q, h2, h⟩ := Option.bind_eq_some_iff.1 h
   obtain ⟨c, hc, rfl⟩ := Jkg h2
   refine Jjq (v := vl t _) f (red _ ?_) h
   have e0 : bv none = none := rfl
   simp only [e0, J3g, J7B, if_true, List.length_map, JmJ, hc, e_l, List.map_take, List.map_drop]
  ·split at h
   ·split at h
    ·rename_i h0
     refine Jjq (v := .a (.c (.sc t y))) f (red _ ?_) h
     simp only [bv, Option.map_none, Option.map_some, J3g, Jhu, List.length_map, h0, and_self, if_true]
     rfl
    ·cases h
   ·cases h
end
end Go.Am
end
section
namespace Go.Am
section
variable {R : Type}
def Jlz (t : Ty) : List (Nat × TO) → TSt → TSt → (List (Nat × t.D) → TSt → Option R) → Option R
 | [], _, s, k => k [] s
 | (i, o) :: r, s0, s, k => match tev o s0 with
  | some v => tfz t v s fun z s' => Jlz t r s0 s' fun l s'' => k ((i, z) :: l) s''
  | none => none
theorem JkY {t : Ty} : ∀ {parts : List (Nat × TO)} {s0 s : TSt} {w0 : List (Nat × Blk)} {k : List (Nat × t.D) → TSt → Option R} {r : R}, Fzd s0 s w0 → Jlz t parts s0 s k = some r →
  ∃ l s' ws, (fzs (parts.map fun x => erO x.2)).run (Jf s0) = some (l.map fun x => cel t x.2, ws) ∧ Fzd s0 s' (w0 ++ ws) ∧ l.map (·.1) = parts.map (·.1) ∧ k l s' = some r
 | [], s0, s, w0, k, r, f, h => ⟨[], s, [], rfl, by rw [List.append_nil]; exact f, rfl, h⟩
 | (i, o) :: q, s0, s, w0, k, r, f, h => by
  simp only [Jlz] at h
  split at h
  ·rename_i v hv
   obtain ⟨z, s1, w1, h1, f1, h⟩ := JmZ f h
   obtain ⟨l, s2, w2, h2, f2, h3, h⟩ := JkY f1 h
   refine ⟨(i, z) :: l, s2, w1 ++ w2, ?_, by rw [← List.append_assoc]; exact f2, by simp [h3], h⟩
   simp only [List.map_cons, fzs, run_bind, Jx hv, Option.bind_some, h1, h2, Jk]
  ·cases h
def Je7 {α : Type} : List (Nat × α) → List α → Option (List α)
 | [], rows => some rows
 | (i, c) :: r, rows => if i < rows.length then Je7 r (rows.set i c) else none
theorem Jgd {t : Ty} : ∀ {l : List (Nat × t.D)} {rows rows' : List t.D}, Je7 l rows = some rows' →
  J4T t.sz ((l.map (·.1)).zip (l.map fun x => cel t x.2)) (rows.map (cel t)) = some (rows'.map (cel t)) ∧ rows'.length = rows.length
 | [], rows, rows', h => by injection h with h; subst h; exact ⟨rfl, rfl⟩
 | (i, c) :: q, rows, rows', h => by
  simp only [Je7] at h
  split at h
  ·rename_i h0
   obtain ⟨h1, h2⟩ := Jgd h
   refine ⟨?_, by simpa using h2⟩
   simp only [List.map_cons, List.zip_cons_cons, J4T, J0d, true_and, List.length_map, if_pos h0]
   rw [← List.map_set]; exact h1
  ·cases h
def JlL (own : Bool) (t : Ty) (n : Nat) (parts : List (Nat × TO)) (d : Option Nat) (new : Nat) (s : TSt) (k : TSt → Option R) : Option R :=
 Jlz t parts s s fun l s1 => match Je7 l (List.replicate n t.zero) with
  | some rows => if own = true then k (JM d (.a (.c (.slr new))) (wN new (.arr true t rows) s1)) else k (JM d (vl t rows) s1)
  | none => none
theorem JpD (F : Orc) {own : Bool} {t : Ty} {n : Nat} {parts : List (Nat × TO)} {d : Option Nat} {new : Nat} {s : TSt} {k : TSt → Option R} {r : R} (hn : own = true → new < s.sto.length)
  (h : JlL own t n parts d new s k = some r) : Ok (opR F (.lits own t.sz n (cel t t.zero) (parts.map fun x => (x.1, erO x.2))) new) d s k r := by
 unfold JlL at h
 obtain ⟨l, s1, ws, h1, f, h2, h3⟩ := JkY (Fzd.refl s) h
 rw [List.nil_append] at f
 clear h
 split at h3
 ·rename_i rows hp
  obtain ⟨q1, q2⟩ := Jgd hp
  rw [List.length_replicate] at q2
  rw [List.map_replicate] at q1
  have e1 : (parts.map fun x => (x.1, erO x.2)).map (·.2) = parts.map fun x => erO x.2 := by simp
  have e2 : (parts.map fun x => (x.1, erO x.2)).map (·.1) = l.map (·.1) := by rw [h2]; simp
  split at h3
  ·rename_i ho
   subst ho
   have hn1 : new < s1.sto.length := by
    have := congrArg (fun st => st.sto.length) f.2.2.1
    simp only [Jf, List.length_map, J7g] at this
    rw [this]; exact hn rfl
   refine ⟨⟨Js (lns (wN new (.arr true t rows) s1).sto) (.a (.c (.slr new))), ws ++ [(new, .arr true t.sz (rows.map (cel t)))]⟩, _, ?_, J5L ?_ d _, h3⟩
   ·rw [J33, JfB hn1]
    simp only [opR, run_bind, e1, h1, Option.bind_some, e2, q1, if_true, Jk, q2]
   ·rw [JpI, f.2.2.1, J0w]; rfl
  ·rename_i ho
   have : own = false := by simpa using ho
   subst this
   refine Jjq (v := vl t rows) f ?_ h3
   simp only [opR, run_bind, e1, h1, Option.bind_some, e2, q1, Bool.false_eq_true, if_false, Jk, e_l]
 ·cases h3
def J61 (s : TSt) : Nat → Nat → Bool
 | _, 0 => true
 | new, k + 1 => (match s.sto[new]? with
  | some .dead => true
  | _ => false) && J61 s (new + 1) k
theorem Ji3 {s : TSt} : ∀ {k new : Nat}, J61 s new k = true → (J7U new k).run (Jf s) = some ()
 | 0, _, _ => rfl
 | k + 1, new, h => by
  simp only [J61, Bool.and_eq_true] at h
  obtain ⟨h1, h2⟩ := h
  split at h1
  ·rename_i hd
   simp only [J7U, J0r, J0C, hd, Option.map_some, Option.bind_some, JI]
   exact Ji3 h2
  ·cases h1
theorem J56 {s : TSt} : ∀ {k new : Nat}, J61 s new k = true → ∀ j, j < k → s.sto[new + j]? = some .dead
 | 0, _, _, j, hj => by omega
 | k + 1, new, h, j, hj => by
  simp only [J61, Bool.and_eq_true] at h
  obtain ⟨h1, h2⟩ := h
  cases j with
  | zero =>
   split at h1
   ·rename_i hd; exact hd
   ·cases h1
  | succ j =>
   have := J56 h2 j (by omega)
   rw [← this]; congr 1; omega
theorem JfV {m : RM Eff} {d : Option Nat} {s : TSt} {k : TSt → Option R} {r : R} {new : Nat} {x : TB} (hd : s.sto[new]? = some .dead) (h0 : lnB x = 0)
  (hm : m.run (Jf s) = some ⟨.ptr new 0, [(new, JI (lns s.sto) x)]⟩) (h : k (JM d (.a (.c (.ptr new []))) (wS new x s)) = some r) : Ok m d s k r := by
 refine JeA (x := x) (v := .a (.c (.ptr new []))) (h0.trans (J6i hd).symm) ?_ h
 rw [hm]; rfl
def JkG (t : Ty) (d : Option Nat) (new : Nat) (s : TSt) (k : TSt → Option R) : Option R :=
 k (JM d (.a (.c (.ptr new []))) (wS new (.box t t.zero) s))
theorem JlR (F : Orc) {t : Ty} {d : Option Nat} {new : Nat} {s : TSt} {k : TSt → Option R} {r : R} (hd : s.sto[new]? = some .dead) (h : JkG t d new s k = some r) : Ok (opR F (.newbox (cel t t.zero)) new) d s k r :=
 JfV hd (x := .box t t.zero) rfl rfl h
def Jp4 (t : Ty) (x : TV) (d : Option Nat) (new : Nat) (s : TSt) (k : TSt → Option R) : Option R :=
 match tdv t x with
 | some z => if agv x = true ∨ t.sz = 1 then k (JM d (.a (.c (.ptr new []))) (wS new (.box t z) s)) else none
 | none => match tcs x with
  | some cs => if cs.length = t.sz then k (JM d (.a (.c (.ptr new []))) (wS new (.mbox t cs) s)) else none
  | none => none
theorem Jqs (F : Orc) {t : Ty} {x : TO} {v : TV} {d : Option Nat} {new : Nat} {s : TSt} {k : TSt → Option R} {r : R} (hd : s.sto[new]? = some .dead) (hx : tev x s = some v) (h : Jp4 t v d new s k = some r) : Ok (opR F (.box t.sz (erO x)) new) d s k r := by
 unfold Jp4 at h
 split at h
 ·rename_i z hz
  split at h
  ·rename_i ha
   refine JfV hd (x := .box t z) rfl ?_ h
   simp only [opR, run_bind, Jx hx, Option.bind_some, Jbb (lns s.sto) hz ha, List.length_map, J0d, if_true, Jk, JI]
  ·cases h
 ·split at h
  ·rename_i cs hc
   split at h
   ·rename_i hn
    refine JfV hd (x := .mbox t cs) rfl ?_ h
    simp only [opR, run_bind, Jx hx, Option.bind_some, JbC (lns s.sto) hc, List.length_map, hn, if_true, Jk, JI]
   ·cases h
  ·cases h
def J6R : List (Nat × Ty) → Nat → TSt → TSt
 | [], _, s => s
 | (_, t) :: r, n, s => J6R r (n + 1) (wS n (.arr true t []) s)
def JcV : List (Nat × Ty) → Nat → List TC → List TC
 | [], _, cs => cs
 | (off, _) :: r, n, cs => JcV r (n + 1) (cs.set off (.slr n))
def J6c (os : List (Nat × Ty)) : List (Nat × Nat) := os.map fun x => (x.1, x.2.sz)
theorem Jdn : ∀ {os : List (Nat × Ty)} {new : Nat} {s : TSt}, (∀ j, j < os.length → s.sto[new + j]? = some .dead) →
  lns (J6R os new s).sto = lns s.sto ∧ Jf (J6R os new s) = ⟨(Jf s).env, upd (J2Y (J6c os) new) (Jf s).sto⟩ ∧ (∀ b, (∀ j, j < os.length → b ≠ new + j) → (J6R os new s).sto[b]? = s.sto[b]?)
 | [], _, s, _ => ⟨rfl, rfl, fun _ _ => rfl⟩
 | (off, t) :: q, new, s, h => by
  have hd : s.sto[new]? = some .dead := h 0 (by simp)
  have hl : lnB (.arr true t []) = lns s.sto new := (J6i hd).symm
  have e := Ja6 hl
  have ho : ∀ c, c ≠ new → (wS new (.arr true t []) s).sto[c]? = s.sto[c]? := fun c hc => by unfold wS; rw [List.getElem?_set_ne (fun e => hc e.symm)]
  obtain ⟨h1, h2, h3⟩ := Jdn (os := q) (new := new + 1) (s := wS new (.arr true t []) s) (fun j hj => by
   rw [ho _ (by omega)]
   have := h (j + 1) (by simp; omega)
   rw [← this]; congr 1; omega)
  refine ⟨h1.trans e, ?_, fun b hb => ?_⟩
  ·simp only [J6R]
   rw [h2, Jac hl]
   simp only [J6c, List.map_cons, J2Y]
   rfl
  ·simp only [J6R]
   rw [h3 b (fun j hj => by have := hb (j + 1) (by simp; omega); omega), ho b (by have := hb 0 (by simp); omega)]
theorem JfN {L : Nat → Nat} : ∀ {os : List (Nat × Ty)} {new : Nat} {cs : List TC}, (∀ j, j < os.length → L (new + j) = 0) → (JcV os new cs).map (Jt L) = J7k (J6c os) new (cs.map (Jt L))
 | [], _, _, _ => rfl
 | (off, t) :: q, new, cs, h => by
  simp only [JcV, J6c, List.map_cons, J7k]
  rw [JfN (os := q) (new := new + 1) (fun j hj => by have := h (j + 1) (by simp; omega); rw [← this]; congr 1; omega), List.map_set]
  have : Jt L (.slr new) = .slr new 0 0 := by simp only [Jt]; rw [show L new = 0 from h 0 (by simp)]
  rw [this]; rfl
def JdF (t : Ty) (os : List (Nat × Ty)) (d : Option Nat) (new : Nat) (s : TSt) (k : TSt → Option R) : Option R :=
 k (JM d (.a (.c (.ptr (new + os.length) []))) (wS (new + os.length) (.mbox t (JcV os new (zcs t))) (J6R os new s)))
theorem Jk0 (F : Orc) {t : Ty} {os : List (Nat × Ty)} {d : Option Nat} {new : Nat} {s : TSt} {k : TSt → Option R} {r : R} (hd : J61 s new (os.length + 1) = true) (h : JdF t os d new s k = some r) :
  Ok (opR F (.newboxo (cel t t.zero) (J6c os)) new) d s k r := by
 unfold JdF at h
 generalize hc : zcs t = cs at h
 ·have hd' := J56 hd
  obtain ⟨h1, h2, h3⟩ := Jdn (os := os) (new := new) (s := s) (fun j hj => hd' j (by omega))
  have hl : lnB (.mbox t (JcV os new cs)) = lns (J6R os new s).sto (new + os.length) := by
   rw [h1, J6i (hd' os.length (by omega))]; rfl
  have e := Ja6 hl
  have el : (J6c os).length = os.length := by simp [J6c]
  refine ⟨⟨Js (lns (wS (new + os.length) (.mbox t (JcV os new cs)) (J6R os new s)).sto) (.a (.c (.ptr (new + os.length) []))), J2Y (J6c os) new ++ [(new + os.length, .box (J7k (J6c os) new ((cel t t.zero).map .p)))]⟩, _, ?_, J5L ?_ d _, h⟩
  ·simp only [opR, Jk, el]; rfl
  ·rw [Jac hl, h2, J0w]
   simp only [JI]
   rw [JfN (fun j hj => by rw [h1]; exact J6i (hd' j (by omega))), ← hc, J9G]
   rfl
def JfZ (t : Ty) (parts : List (Nat × Ty × TO)) (os : List (Nat × Ty)) (d : Option Nat) (new : Nat) (s : TSt) (k : TSt → Option R) : Option R :=
 match tpc parts s with
 | some l => match Jem l (JcV os new (zcs t)) with
  | some cs' => match mka true t cs' with
   | some v => k (JM d v (J6R os new s))
   | none => none
  | none => none
 | none => none
theorem Jm7 (F : Orc) {t : Ty} {parts : List (Nat × Ty × TO)} {os : List (Nat × Ty)} {d : Option Nat} {new : Nat} {s : TSt} {k : TSt → Option R} {r : R} (hd : J61 s new os.length = true) (h : JfZ t parts os d new s k = some r) :
  Ok (opR F (.buildo (cel t t.zero) (erP parts) (J6c os)) new) d s k r := by
 unfold JfZ at h
 split at h
 ·rename_i l hl
  have hd' := J56 hd
  obtain ⟨h1, h2, h3⟩ := Jdn (os := os) (new := new) (s := s) (fun j hj => hd' j (by omega))
  split at h
  ·rename_i cs' hf
   split at h
   ·rename_i v hv
    refine ⟨⟨Js (lns (J6R os new s).sto) v, J2Y (J6c os) new⟩, _, ?_, J5L h2 d _, h⟩
    have e1 := JfN (L := lns s.sto) (os := os) (new := new) (cs := zcs t) (fun j hj => J6i (hd' j (by omega)))
    rw [J9G] at e1
    have e2 := JcQ (lns s.sto) hf
    rw [e1] at e2
    simp only [opR, run_bind, JhT hl, Option.bind_some, e2, J9M (lns s.sto) hv, Jk, h1]
   ·cases h
  ·cases h
 ·cases h
def JnK (t : Ty) (d : Option Nat) (new : Nat) (s : TSt) (k : TSt → Option R) : Option R :=
 k (JM d (.a (.c (.slr new))) (wN new (.arr true t []) s))
theorem Jmx (F : Orc) {t : Ty} {x : Opd} {d : Option Nat} {new : Nat} {s : TSt} {k : TSt → Option R} {r : R} (hn : new < s.sto.length) (h : JnK t d new s k = some r) : Ok (opR F (.mkarr t.sz x) new) d s k r :=
 Jep (rows := []) hn rfl h
def tyB : Option TB → Ty
 | some (.box t _) => t
 | some (.mbox t _) => t
 | _ => .u
def Jff (t : Ty) (x : TV) (d : Option Nat) (new : Nat) (s : TSt) (k : TSt → Option R) : Option R :=
 match x with
 | .a (.c (.ptr b p)) => match Jak p, (match s.sto[b]? with
   | some (.box t0 y) => JcT t0 y
   | some (.mbox _ cs) => some cs
   | _ => none) with
  | some off, some cs => match spl cs off [.slr new] with
   | some cs' => k (JM d uv (wS b (.mbox (tyB s.sto[b]?) cs') (wS new (.arr true t []) s)))
   | none => none
  | _, _ => none
 | _ => none
theorem JlA (F : Orc) {t : Ty} {x : TO} {v : TV} {d : Option Nat} {new : Nat} {s : TSt} {k : TSt → Option R} {r : R} (hd : s.sto[new]? = some .dead) (hx : tev x s = some v) (h : Jff t v d new s k = some r) : Ok (opR F (.storen t.sz (erO x)) new) d s k r := by
 unfold Jff at h
 split at h
 ·rename_i b p
  split at h
  ·rename_i off cs ho hc
   split at h
   ·rename_i cs' hs
    have hl : lnB (.arr true t []) = lns s.sto new := (J6i hd).symm
    have key : b ≠ new ∧ lns s.sto b = 0 ∧ (Jf s).sto[b]? = some (.box (cs.map (Jt (lns s.sto)))) := by
     split at hc
     ·rename_i t0 y hb
      refine ⟨fun e => ?_, Jcj hb, ?_⟩
      ·rw [e, hd] at hb; injection hb with hb; cases hb
      ·rw [J0C, hb, J9P _ hc]; rfl
     ·rename_i t0 cs0 hb
      injection hc with hc
      subst hc
      refine ⟨fun e => ?_, JiK hb, ?_⟩
      ·rw [e, hd] at hb; injection hb with hb; cases hb
      ·rw [J0C, hb]; rfl
     ·cases hc
    obtain ⟨hne, h0, hb⟩ := key
    have e1 := Ja6 hl
    have hl2 : lnB (.mbox (tyB s.sto[b]?) cs') = lns (wS new (.arr true t []) s).sto b := by rw [e1, h0]; rfl
    refine ⟨⟨Js (lns (wS b (.mbox (tyB s.sto[b]?) cs') (wS new (.arr true t []) s)).sto) uv, (new, .arr true t.sz []) :: [(b, .box (cs'.map (Jt (lns s.sto))))]⟩, _, ?_, J5L ?_ d _, h⟩
    ·have e2 : Jt (lns s.sto) (.slr new) = .slr new 0 0 := by simp only [Jt]; rw [J6i hd]
     have e3 : spl (cs.map (Jt (lns s.sto))) (spo p) [.slr new 0 0] = some (cs'.map (Jt (lns s.sto))) := by
      rw [← e2, J9K ho]
      have := J7e (Jt (lns s.sto)) cs off [TC.slr new]
      rw [hs] at this
      exact this
     simp only [opR, run_bind, Jx hx, Option.bind_some, J4g, J2k, J0r, hb, cellsOf, List.length_cons, List.length_nil, Nat.zero_add, if_true, e3, Jk]
     rfl
    ·rw [Jac hl2, Jac hl, e1]; rfl
   ·cases h
  ·cases h
 ·cases h
def Jlx (c : Bool) (a b : Option TV) (kk : TV → Option R) : Option R :=
 match a, b with
 | some (.a (.c (.d t x))), some (.a (.c (.d t' y))) => if h : t' = t then kk (.a (.c (.d t (Jtl c x (h ▸ y))))) else none
 | some x, some y => if c = true then kk x else kk y
 | some x, none => if c = true then kk x else none
 | none, some y => if c = true then none else kk y
 | none, none => none
theorem JnX (F : Orc) {c a b : TO} {x : Bool} {d : Option Nat} {new : Nat} {s : TSt} {k : TSt → Option R} {r : R} (hc : tev c s = some (vb x)) (h : Jlx x (tev a s) (tev b s) (fun v => k (JM d v s)) = some r) : Ok (opR F (.pick (erO c) (erO a) (erO b)) new) d s k r := by
 have key : ∃ v, (if x = true then tev a s else tev b s) = some v ∧ k (JM d v s) = some r := by
  unfold Jlx at h
  split at h
  ·rename_i t y t' z ha hb
   split at h
   ·rename_i h0; subst h0
    refine ⟨_, ?_, h⟩
    rw [ha, hb]
    cases x <;> rfl
   ·cases h
  ·rename_i y z _ ha hb
   split at h
   ·rename_i hx; exact ⟨y, by rw [if_pos hx]; exact ha, h⟩
   ·rename_i hx; exact ⟨z, by rw [if_neg hx]; exact hb, h⟩
  ·rename_i y ha hb
   split at h
   ·rename_i hx; exact ⟨y, by rw [if_pos hx]; exact ha, h⟩
   ·cases h
  ·rename_i y ha hb
   split at h
   ·cases h
   ·rename_i hx; exact ⟨y, by rw [if_neg hx]; exact hb, h⟩
  ·cases h
 obtain ⟨v, h1, h2⟩ := key
 refine J0Q (v := v) ?_ h2
 simp only [opR, run_bind, Jx hc, Option.bind_some, e_b]
 cases x with
 | true =>
  rw [if_pos rfl] at h1
  simp only [if_true, run_bind, Jx h1, Option.bind_some, Jk]
 | false =>
  rw [if_neg (by simp)] at h1
  simp only [Bool.false_eq_true, if_false, run_bind, Jx h1, Option.bind_some, Jk]
def tcl : List TO → TSt → Option (List TC)
 | [], _ => some []
 | o :: r, s => match tev o s with
  | some (.a (.c x)) => match tcl r s with
   | some l => some (x :: l)
   | none => none
  | _ => none
theorem Jij {s : TSt} : ∀ {xs : List TO} {l : List TC}, tcl xs s = some l → (evs (xs.map erO)).run (Jf s) = some (l.map (Jt (lns s.sto)))
 | [], l, h => by injection h with h; subst h; rfl
 | o :: q, l, h => by
  simp only [tcl] at h
  split at h
  ·rename_i x hx
   split at h
   ·rename_i l' hl
    injection h with h; subst h
    simp only [List.map_cons, evs, run_bind, Jx hx, Option.bind_some, Jij hl, Jk]
    rfl
   ·cases h
  ·cases h
def Jpt (x : TV) (kk : TV → Option R) : Option R :=
 match x with
 | .a (.c (.ptr b p)) => kk (.a (.c (.ptr b p)))
 | .a (.c (.cp t y p)) => kk (.a (.c (.cp t y p)))
 | .a (.c (.ep b i p)) => kk (.a (.c (.ep b i p)))
 | .a (.fn f a c) => kk (.a (.fn f a c))
 | .a (.c (.fn f)) => kk (.a (.c (.fn f)))
 | _ => none
theorem JqH (F : Orc) {x : TO} {v : TV} {d : Option Nat} {new : Nat} {s : TSt} {k : TSt → Option R} {r : R} (hx : tev x s = some v) (h : Jpt v (fun v => k (JM d v s)) = some r) : Ok (opR F (.nilchk (erO x)) new) d s k r := by
  unfold Jpt at h
  split at h <;> first
    | (refine J0Q (v := _) ?_ h
       simp only [opR, run_bind, Jx hx, Option.bind_some, J4g, J7i, J7d, Jp2, Js3, Jk]; done)
    | cases h
end
end Go.Am
end
section
namespace Go.Am
section
variable {R : Type}
def JnS (keep : Bool) (v : TV) (s : TSt) (kk : TA → TSt → Option R) : Option R :=
 match v with
 | .a x => if keep = true then kk x s else
  match x with
  | .c (.slr b) => match s.sto[b]? with
   | some (.arr _ t' rows) => kk (.c (.d (.l t') rows)) (wS b (.arr false t' rows) s)
   | _ => none
  | .c (.slo _ _) => none
  | .m t cs => fzC t cs s fun x s' => kk (.dt t x) s'
  | x => kk x s
 | .tup _ => none
def JdO : List (TV × Bool) → TSt → (List TA → TSt → Option R) → Option R
 | [], s, kk => kk [] s
 | (v, keep) :: r, s, kk => JnS keep v s fun x s => JdO r s fun l s => kk (x :: l) s
theorem JqO {keep : Bool} {v : TV} {s0 s : TSt} {w0 : List (Nat × Blk)} {kk : TA → TSt → Option R} {r : R} (f : Fzd s0 s w0) (h : JnS keep v s kk = some r) :
  ∃ x s' ws, (if keep = true then RM.ret (Js (lns s0.sto) v, []) else J5J (Js (lns s0.sto) v)).run (Jf s0) = some (J0c (lns s0.sto) x, ws) ∧ Fzd s0 s' (w0 ++ ws) ∧ kk x s' = some r := by
 unfold JnS at h
 split at h
 ·rename_i x
  split at h
  ·rename_i hk
   subst hk
   exact ⟨x, s, [], rfl, by rw [List.append_nil]; exact f, h⟩
  ·rename_i hk
   have : keep = false := by simpa using hk
   subst this
   simp only [Bool.false_eq_true, if_false]
   split at h
   ·rename_i b
    split at h
    ·rename_i w t' rows hb
     obtain ⟨w', hb0⟩ := f.2.2.2.1 b _ rows w hb
     refine ⟨_, _, [(b, .arr false t'.sz (rows.map (cel t')))], ?_, f.trans (Jf3 hb), h⟩
     simp only [J33, J5J, fz, run_bind, J0r, J0C, hb0, Option.map_some, Option.bind_some, JI, J3p hb0, List.length_map, Nat.zero_add, if_true, List.drop_zero, Jk]
     rfl
    ·cases h
   ·cases h
   ·obtain ⟨y, s', ws, h1, h2, h3⟩ := Jbp f h
    refine ⟨_, s', ws, ?_, h2, h3⟩
    simp only [e_m, J5J, fz, run_bind, h1, Option.bind_some, Jk]
    rfl
   ·rename_i n1 n2 n3
    refine ⟨x, s, [], ?_, by rw [List.append_nil]; exact f, h⟩
    cases x with
    | c x =>
     cases x with
     | slr b => exact absurd rfl (n1 b)
     | slo b n => exact absurd rfl (n2 b n)
     | _ => rfl
    | m t cs => exact absurd rfl (n3 t cs)
    | _ => rfl
 ·cases h
theorem Jde : ∀ {vs : List (TV × Bool)} {s0 s : TSt} {w0 : List (Nat × Blk)} {kk : List TA → TSt → Option R} {r : R}, Fzd s0 s w0 → JdO vs s kk = some r →
  ∃ xs s' ws, (J1W (vs.map (·.2)) (vs.map fun x => Js (lns s0.sto) x.1)).run (Jf s0) = some (xs.map (J0c (lns s0.sto)), ws) ∧ Fzd s0 s' (w0 ++ ws) ∧ kk xs s' = some r
 | [], s0, s, w0, kk, r, f, h => ⟨[], s, [], rfl, by rw [List.append_nil]; exact f, h⟩
 | (v, keep) :: q, s0, s, w0, kk, r, f, h => by
  simp only [JdO] at h
  obtain ⟨x, s1, w1, h1, f1, h⟩ := JqO f h
  obtain ⟨xs, s2, w2, h2, f2, h⟩ := Jde f1 h
  refine ⟨x :: xs, s2, w1 ++ w2, ?_, by rw [← List.append_assoc]; exact f2, h⟩
  cases keep with
  | true =>
   simp only [if_true, Jk] at h1
   injection h1 with h1
   injection h1 with h1 h3
   subst h3
   simp only [List.map_cons, J1W, run_bind, h2, Option.bind_some, Jk, h1, List.nil_append]
  | false =>
   simp only [Bool.false_eq_true, if_false] at h1
   simp only [List.map_cons, J1W, run_bind, h1, h2, Option.bind_some, Jk]
theorem J7Z : ∀ (vs : List AV), J1W [] vs = J4n vs
 | [] => rfl
 | x :: r => by simp only [J1W, J4n, J7Z r]
theorem J5R : ∀ (m : List Bool) (vs : List AV), (∀ x ∈ m, x = false) → J1W m vs = J4n vs
 | [], vs, _ => J7Z vs
 | b :: m, [], _ => rfl
 | b :: m, x :: r, h => by
  have : b = false := h b (by simp)
  subst this
  simp only [J1W, J4n, J5R m r (fun x hx => h x (by simp [hx]))]
def Jjg (b : Nat) (l : List Nat) : List Nat := if l.any (fun x => x == b) = true then l else l ++ [b]
def Jhq (x : TC) (l : List Nat) : Option (List Nat) :=
 match x with
 | .ptr b _ => some (Jjg b l)
 | .slr b => some (Jjg b l)
 | .slo b _ => some (Jjg b l)
 | .ep _ _ _ => none
 | .epo _ _ _ _ => none
 | _ => some l
def J9h : List TC → List Nat → Option (List Nat)
 | [], l => some l
 | x :: r, l => match Jhq x l with
  | some l => J9h r l
  | none => none
def Jlf (x : TA) (l : List Nat) : Option (List Nat) :=
 match x with
 | .c x => Jhq x l
 | .dt _ _ => some l
 | .m _ cs => J9h cs l
 | .fn _ a c => match J9h a l with
  | some l => J9h c l
  | none => none
def J9F : List TA → List Nat → Option (List Nat)
 | [], l => some l
 | x :: r, l => match Jlf x l with
  | some l => J9F r l
  | none => none
def J94 (s : TSt) : List Nat → List Nat → Option (List Nat)
 | [], acc => some acc
 | b :: r, acc => match s.sto[b]? with
  | some (.mbox _ cs) => match J9h cs acc with
   | some acc => J94 s r acc
   | none => none
  | some _ => J94 s r acc
  | none => none
theorem Jjl (b : Nat) (l : List Nat) : J7E (.whole b) (l.map .whole) = (Jjg b l).map .whole := by
 unfold J7E Jjg
 have : (l.map Ent.whole).any (fun x => x == .whole b) = l.any (fun x => x == b) := by
  rw [List.any_map]
  congr 1
  funext x
  simp only [Function.comp]
  by_cases h : x = b
  ·subst h; simp
  ·have h1 : (x == b) = false := by simpa using h
   have h2 : (Ent.whole x == Ent.whole b) = false := by simpa using h
   rw [h1, h2]
 rw [this]
 split <;> simp
section
variable (L : Nat → Nat)
theorem JiC {x : TC} {l l' : List Nat} (h : Jhq x l = some l') : JV (Jt L x) (l.map .whole) = l'.map .whole := by
 unfold Jhq at h
 split at h <;> first
  | (injection h with h; subst h; simp only [Jt, JV, Jjl]; done)
  | (cases h; done)
  | skip
 injection h with h; subst h
 rename_i n1 n2 n3 n4 n5
 cases x with
 | ptr b p => exact absurd rfl (n1 b p)
 | slr b => exact absurd rfl (n2 b)
 | slo b n => exact absurd rfl (n3 b n)
 | ep b i p => exact absurd rfl (n4 b i p)
 | epo b e i p => exact absurd rfl (n5 b e i p)
 | _ => rfl
theorem J7a : ∀ {xs : List TC} {l l' : List Nat}, J9h xs l = some l' → JV.entsOfL (xs.map (Jt L)) (l.map .whole) = l'.map .whole
 | [], l, l', h => by injection h with h; subst h; rfl
 | x :: r, l, l', h => by
  simp only [J9h] at h
  split at h
  ·rename_i l1 h1
   simp only [List.map_cons, JV.entsOfL, JiC L h1]
   exact J7a h
  ·cases h
theorem Jou {x : TA} {l l' : List Nat} (h : Jlf x l = some l') : JV (J0c L x) (l.map .whole) = l'.map .whole := by
 cases x with
 | c x => exact JiC L h
 | dt t x => injection h with h; subst h; rfl
 | m t cs => exact J7a L h
 | fn f a c =>
  simp only [Jlf] at h
  split at h
  ·rename_i l1 h1
   simp only [J0c, JV, J7a L h1]
   exact J7a L h
  ·cases h
theorem J9d : ∀ {xs : List TA} {l l' : List Nat}, J9F xs l = some l' → JV.entsOfL (xs.map (J0c L)) (l.map .whole) = l'.map .whole
 | [], l, l', h => by injection h with h; subst h; rfl
 | x :: r, l, l', h => by
  simp only [J9F] at h
  split at h
  ·rename_i l1 h1
   simp only [List.map_cons, JV.entsOfL, Jou L h1]
   exact J9d h
  ·cases h
end
theorem Jd4 {s0 s1 : TSt} {ws : List (Nat × Blk)} (f : Fzd s0 s1 ws) {b : Nat} {y : TB} (h : s1.sto[b]? = some y) : (J9w ws b).run (Jf s0) = some (JI (lns s0.sto) y) := by
 have h1 : (Jf s1).sto[b]? = some (JI (lns s0.sto) y) := by rw [J0C, h, f.2.1]; rfl
 rw [f.2.2.1] at h1
 have hlt : b < (Jf s0).sto.length := by
  have := J9 h1
  rw [J7g] at this
  exact this
 have := J6p ws (Jf s0).sto b hlt
 simp only at h1
 rw [h1] at this
 simp only [J9w, J0r, List.getElem?_eq_getElem hlt, Option.bind_some]
 split at this
 ·rename_i z hz
  try rw [hz]
  simp only [Jk]
  exact this.symm
 ·rename_i hz
  try rw [hz]
  simp only [Jk]
  rw [List.getElem?_eq_getElem hlt] at this
  exact this.symm
theorem J65 {s0 s1 : TSt} {ws : List (Nat × Blk)} (f : Fzd s0 s1 ws) : ∀ {r acc l : List Nat}, J94 s1 r acc = some l → (J2m ws (r.map .whole) (acc.map .whole)).run (Jf s0) = some (l.map .whole)
 | [], acc, l, h => by injection h with h; subst h; rfl
 | b :: r, acc, l, h => by
  simp only [J94] at h
  split at h
  ·rename_i cs hb
   split at h
   ·rename_i acc' ha
    simp only [List.map_cons, J2m, run_bind, Jd4 f hb, Option.bind_some, JI, J7a (lns s0.sto) ha]
    exact J65 f h
   ·cases h
  ·rename_i x hn hb
   simp only [List.map_cons, J2m, run_bind, Jd4 f hb, Option.bind_some]
   cases x with
   | mbox t cs => exact absurd rfl (hn t cs)
   | box t x =>
    simp only [JI]
    rw [JgE]
    exact J65 f h
   | _ => exact J65 f h
  ·cases h
end
end Go.Am
end
section
namespace Go.Am
def kCs (K : List Nat) (L : Nat → Nat) : TC → TC
 | .slr c => if K.any (fun x => x == c) = true then .slo c (L c) else .slr c
 | .ep c i p => if K.any (fun x => x == c) = true then .epo c (L c) i p else .ep c i p
 | x => x
def kAs (K : List Nat) (L : Nat → Nat) : TA → TA
 | .c x => .c (kCs K L x)
 | .dt t x => .dt t x
 | .m t cs => .m t (cs.map (kCs K L))
 | .fn f a c => .fn f (a.map (kCs K L)) (c.map (kCs K L))
def kVs (K : List Nat) (L : Nat → Nat) : TV → TV
 | .a x => .a (kAs K L x)
 | .tup vs => .tup (vs.map (kAs K L))
def kBs (K : List Nat) (L : Nat → Nat) : TB → TB
 | .mbox t cs => .mbox t (cs.map (kCs K L))
 | x => x
section
variable {K : List Nat} {L L' : Nat → Nat} (h : ∀ c, K.any (fun x => x == c) = false → L' c = L c)
include h
theorem Jsc (x : TC) : Jt L' (kCs K L x) = Jt L x := by
 cases x with
 | slr c =>
  cases e : K.any (fun x => x == c) with
  | true => simp only [kCs, e, if_true, Jt]
  | false => simp only [kCs, e, Bool.false_eq_true, if_false, Jt, h c e]
 | ep c i p =>
  cases e : K.any (fun x => x == c) with
  | true => simp only [kCs, e, if_true, Jt]
  | false => simp only [kCs, e, Bool.false_eq_true, if_false, Jt, h c e]
 | _ => rfl
theorem JpQ (xs : List TC) : (xs.map (kCs K L)).map (Jt L') = xs.map (Jt L) := by
 rw [List.map_map]; exact List.map_congr_left fun x _ => Jsc h x
theorem Jtd (x : TA) : J0c L' (kAs K L x) = J0c L x := by
 cases x <;> simp only [kAs, J0c, Jsc h, JpQ h]
theorem Jtt (x : TV) : Js L' (kVs K L x) = Js L x := by
 cases x <;> simp only [kVs, Js, Jtd h, List.map_map, Function.comp_def]
theorem Jta (x : TB) : JI L' (kBs K L x) = JI L x := by
 cases x <;> simp only [kBs, JI, JpQ h]
end
theorem Jrf (K : List Nat) (L : Nat → Nat) (x : TB) : lnB (kBs K L x) = lnB x := by cases x <;> rfl
theorem JqX (sto : List TB) (K : List Nat) (L : Nat → Nat) (c : Nat) : lns (sto.map (kBs K L)) c = lns sto c := by
 unfold lns
 rw [List.getElem?_map]
 cases sto[c]? with
 | none => rfl
 | some x => exact Jrf K L x
def JaB (ws : List (Nat × Bool × TB)) (sto : List TB) : List TB := ws.foldl (fun σ x => σ.set x.1 x.2.2) sto
def J7H (ws : List (Nat × Bool × TB)) (s : TSt) : TSt :=
 match ws with
 | [] => s
 | ws =>
  let K := (ws.filter fun x => !x.2.1).map (·.1)
  ⟨s.env.map fun y => (y.1, kVs K (lns s.sto) y.2), JaB ws (s.sto.map (kBs K (lns s.sto)))⟩
theorem JdB : ∀ {ws : List (Nat × Bool × TB)} {sto : List TB} {c : Nat}, c ∉ ws.map (·.1) → (JaB ws sto)[c]? = sto[c]?
 | [], _, _, _ => rfl
 | x :: ws, sto, c, h => by
  simp only [List.map_cons, List.mem_cons, not_or] at h
  show (JaB ws (sto.set x.1 x.2.2))[c]? = _
  rw [JdB h.2, List.getElem?_set_ne (fun e => h.1 e.symm)]
theorem JkA : ∀ {ws : List (Nat × Bool × TB)} {sto : List TB}, (ws.map (·.1)).Nodup → ∀ x ∈ ws, x.1 < sto.length → (JaB ws sto)[x.1]? = some x.2.2
 | [], _, _, x, hx, _ => by cases hx
 | y :: ws, sto, hn, x, hx, hl => by
  simp only [List.map_cons, List.nodup_cons] at hn
  show (JaB ws (sto.set y.1 y.2.2))[x.1]? = _
  rcases List.mem_cons.1 hx with rfl | hx
  ·rw [JdB hn.1, List.getElem?_set_self hl]
  ·exact JkA hn.2 x hx (by simpa using hl)
theorem Jhy (f : TB → Blk) : ∀ (ws : List (Nat × Bool × TB)) (sto : List TB), (JaB ws sto).map f = upd (ws.map fun x => (x.1, f x.2.2)) (sto.map f)
 | [], _ => rfl
 | x :: ws, sto => by
  show (JaB ws (sto.set x.1 x.2.2)).map f = upd (ws.map fun x => (x.1, f x.2.2)) ((sto.map f).set x.1 (f x.2.2))
  rw [Jhy f ws, List.map_set]
theorem JqI {ws : List (Nat × Bool × TB)} {s : TSt} (hn : (ws.map (·.1)).Nodup) (hl : ∀ x ∈ ws, x.1 < s.sto.length) (hf : ∀ x ∈ ws, x.2.1 = true → lnB x.2.2 = lns s.sto x.1) :
  Jf (J7H ws s) = ⟨(Jf s).env, upd (ws.map fun x => (x.1, JI (lns (J7H ws s).sto) x.2.2)) (Jf s).sto⟩ ∧ ∀ x ∈ ws, lns (J7H ws s).sto x.1 = lnB x.2.2 := by
 cases ws with
 | nil => exact ⟨rfl, fun x hx => by cases hx⟩
 | cons x0 ws0 =>
  generalize hw : x0 :: ws0 = ws at *
  have hdef : J7H ws s = ⟨s.env.map fun y => (y.1, kVs ((ws.filter fun x => !x.2.1).map (·.1)) (lns s.sto) y.2), JaB ws (s.sto.map (kBs ((ws.filter fun x => !x.2.1).map (·.1)) (lns s.sto)))⟩ := by
   subst hw; rfl
  have hin : ∀ x ∈ ws, lns (J7H ws s).sto x.1 = lnB x.2.2 := fun x hx => by
   rw [hdef]
   unfold lns
   rw [JkA hn x hx (by simpa using hl x hx)]; rfl
  have hk : ∀ c, ((ws.filter fun x => !x.2.1).map (·.1)).any (fun x => x == c) = false → lns (J7H ws s).sto c = lns s.sto c := by
   intro c hc
   by_cases hm : c ∈ ws.map (·.1)
   ·obtain ⟨x, hx, rfl⟩ := List.mem_map.1 hm
    cases hx1 : x.2.1 with
    | true => rw [hin x hx, hf x hx hx1]
    | false =>
     have : ((ws.filter fun x => !x.2.1).map (·.1)).any (fun y => y == x.1) = true := by
      rw [List.any_eq_true]
      exact ⟨x.1, List.mem_map.2 ⟨x, List.mem_filter.2 ⟨hx, by simp [hx1]⟩, rfl⟩, by simp⟩
     rw [hc] at this; cases this
   ·rw [hdef]
    have := JqX s.sto ((ws.filter fun x => !x.2.1).map (·.1)) (lns s.sto) c
    rw [← this]
    unfold lns
    rw [JdB hm]
  refine ⟨?_, hin⟩
  generalize hL : lns (J7H ws s).sto = L' at *
  unfold Jf
  rw [hL, hdef]
  congr 1
  ·show J2G L' (s.env.map fun y => (y.1, kVs _ (lns s.sto) y.2)) = J2G _ s.env
   unfold J2G
   rw [List.map_map]
   exact List.map_congr_left fun y _ => by simp only [Function.comp, Jtt hk]
  ·show (JaB ws (s.sto.map _)).map (JI L') = _
   rw [Jhy, List.map_map]
   congr 1
   exact List.map_congr_left fun y _ => Jta hk y
theorem Jk9 (b : Nat) : ∀ (ids : List Nat) (k : Nat), J0M (.whole b) (ids.map .whole) k = J2K b ids k
 | [], _ => rfl
 | x :: r, k => by
  simp only [List.map_cons, J0M, J2K]
  by_cases h : x = b
  ·subst h; simp
  ·simp [h, Jk9 b r (k + 1)]
def Jhw (ids : List Nat) : TC → Option TC
 | .ptr b p => (J2K b ids 0).bind fun k => some (.ptr k p)
 | .slr b => (J2K b ids 0).bind fun k => some (.slr k)
 | .slo b n => (J2K b ids 0).bind fun k => some (.slo k n)
 | .ep _ _ _ => none
 | .epo _ _ _ _ => none
 | x => some x
def Jaz (ids : List Nat) : List TC → Option (List TC)
 | [] => some []
 | x :: r => match Jhw ids x, Jaz ids r with
  | some y, some l => some (y :: l)
  | _, _ => none
def JeE (ids : List Nat) : TA → Option TA
 | .c x => match Jhw ids x with
  | some y => some (.c y)
  | none => none
 | .dt t x => some (.dt t x)
 | .m t cs => match Jaz ids cs with
  | some l => some (.m t l)
  | none => none
 | .fn f a c => match Jaz ids a, Jaz ids c with
  | some a, some c => some (.fn f a c)
  | _, _ => none
def JeP (ids : List Nat) : List TA → Option (List TA)
 | [] => some []
 | x :: r => match JeE ids x, JeP ids r with
  | some y, some l => some (y :: l)
  | _, _ => none
def JhV (ids : List Nat) : TB → Option TB
 | .box t x => some (.box t x)
 | .mbox t cs => match Jaz ids cs with
  | some l => some (.mbox t l)
  | none => none
 | .arr w t rows => some (.arr w t rows)
 | .dead => none
def J6s (ids : List Nat) (s : TSt) : List Nat → Option (List TB)
 | [] => some []
 | b :: r => match s.sto[b]? with
  | some x => match JhV ids x, J6s ids s r with
   | some y, some l => some (y :: l)
   | _, _ => none
  | none => none
section
variable {ids : List Nat} {L L' : Nat → Nat} (hL : ∀ b k, J2K b ids 0 = some k → L' k = L b)
include hL
theorem Ji1 {x y : TC} (h : Jhw ids x = some y) : ren (fun e => J0M e (ids.map .whole) 0) (Jt L x) = some (Jt L' y) := by
  cases x <;> simp only [Jhw] at h <;> first
    | (obtain ⟨k, hk, h⟩ := Option.bind_eq_some_iff.1 h
       injection h with h; subst h
       simp only [Jt, ren, Jk9, hk, Option.map_some]
       try rw [hL _ _ hk]
       done)
    | (injection h with h; subst h; rfl)
    | cases h
theorem J8I : ∀ {xs ys : List TC}, Jaz ids xs = some ys → ren.renL (fun e => J0M e (ids.map .whole) 0) (xs.map (Jt L)) = some (ys.map (Jt L'))
 | [], ys, h => by injection h with h; subst h; rfl
 | x :: r, ys, h => by
  simp only [Jaz] at h
  split at h
  ·rename_i y l hy hl
   injection h with h; subst h
   simp only [List.map_cons, ren.renL, Ji1 hL hy, J8I hl]
  ·cases h
theorem JoF {x y : TA} (h : JeE ids x = some y) : ren (fun e => J0M e (ids.map .whole) 0) (J0c L x) = some (J0c L' y) := by
 cases x with
 | c x =>
  simp only [JeE] at h
  split at h
  ·rename_i y hy
   injection h with h; subst h
   exact Ji1 hL hy
  ·cases h
 | dt t x => injection h with h; subst h; rfl
 | m t cs =>
  simp only [JeE] at h
  split at h
  ·rename_i l hl
   injection h with h; subst h
   simp only [J0c, ren, J8I hL hl, Option.map_some]
  ·cases h
 | fn f a c =>
  simp only [JeE] at h
  split at h
  ·rename_i a' c' ha hc
   injection h with h; subst h
   simp only [J0c, ren, J8I hL ha, J8I hL hc, Option.bind_some, Option.map_some]
  ·cases h
theorem JgF : ∀ {xs ys : List TA}, JeP ids xs = some ys → ren.renL (fun e => J0M e (ids.map .whole) 0) (xs.map (J0c L)) = some (ys.map (J0c L'))
 | [], ys, h => by injection h with h; subst h; rfl
 | x :: r, ys, h => by
  simp only [JeP] at h
  split at h
  ·rename_i y l hy hl
   injection h with h; subst h
   simp only [List.map_cons, ren.renL, JoF hL hy, JgF hl]
  ·cases h
theorem Je5 {s0 s1 : TSt} {ws : List (Nat × Blk)} (f : Fzd s0 s1 ws) (hL0 : lns s0.sto = L) : ∀ {bs : List Nat} {bl : List TB}, J6s ids s1 bs = some bl →
  (J37 ws (fun e => J0M e (ids.map .whole) 0) (bs.map .whole)).run (Jf s0) = some (bl.map (JI L'))
 | [], bl, h => by injection h with h; subst h; rfl
 | b :: r, bl, h => by
  simp only [J6s] at h
  split at h
  ·rename_i x hb
   split at h
   ·rename_i y l hy hl
    injection h with h; subst h
    have ih := Je5 f hL0 hl
    have hg := Jd4 f hb
    rw [hL0] at hg
    simp only [List.map_cons, J37, JaG, run_bind, hg, Option.bind_some]
    cases x with
    | dead => cases hy
    | box t x =>
     injection hy with hy; subst hy
     have : ren.renL (fun e => J0M e (ids.map .whole) 0) ((cel t x).map AV.p) = some ((cel t x).map AV.p) := Jg8 (J5r _)
     simp only [JI, this, Jk, Option.bind_some, ih]
    | mbox t cs =>
     simp only [JhV] at hy
     split at hy
     ·rename_i l' hl'
      injection hy with hy; subst hy
      simp only [JI, J8I hL hl', Jk, Option.bind_some, ih]
     ·cases hy
    | arr w t rows =>
     injection hy with hy; subst hy
     simp only [JI, Jk, Option.bind_some, ih]
   ·cases h
  ·cases h
end
theorem JcG {ids : List Nat} {s : TSt} : ∀ {bs : List Nat} {bl : List TB}, J6s ids s bs = some bl → bl.length = bs.length ∧ ∀ (k b : Nat), bs[k]? = some b → lns bl k = lns s.sto b
 | [], bl, h => by injection h with h; subst h; exact ⟨rfl, fun k b h => by simp at h⟩
 | b :: r, bl, h => by
  simp only [J6s] at h
  split at h
  ·rename_i x hb
   split at h
   ·rename_i y l hy hl
    injection h with h; subst h
    obtain ⟨h1, h2⟩ := JcG hl
    refine ⟨by simp [h1], fun k c hk => ?_⟩
    cases k with
    | zero =>
     simp at hk; subst hk
     unfold lns
     rw [hb]
     show lnB y = lnB x
     cases x with
     | dead => cases hy
     | box t x => injection hy with hy; subst hy; rfl
     | mbox t cs =>
      simp only [JhV] at hy
      split at hy
      ·injection hy with hy; subst hy; rfl
      ·cases hy
     | arr w t rows => injection hy with hy; subst hy; rfl
    | succ k =>
     have := h2 k c (by simpa using hk)
     unfold lns at this ⊢
     rw [← this]; simp
   ·cases h
  ·cases h
def J3c (ids : List Nat) (new m k : Nat) : Option Nat := if k < ids.length then ids[k]? else if k < m then some (new + (k - ids.length)) else none
def JlJ (ids : List Nat) (new m : Nat) : TC → Option TC
 | .ptr k p => (J3c ids new m k).bind fun b => some (.ptr b p)
 | .slr k => (J3c ids new m k).bind fun b => some (.slr b)
 | .slo k n => (J3c ids new m k).bind fun b => some (.slo b n)
 | .ep k i p => (J3c ids new m k).bind fun b => some (.ep b i p)
 | .epo k e i p => (J3c ids new m k).bind fun b => some (.epo b e i p)
 | x => some x
def Jdz (ids : List Nat) (new m : Nat) : List TC → Option (List TC)
 | [] => some []
 | x :: r => match JlJ ids new m x, Jdz ids new m r with
  | some y, some l => some (y :: l)
  | _, _ => none
def Jf4 (ids : List Nat) (new m : Nat) : TA → Option TA
 | .c x => match JlJ ids new m x with
  | some y => some (.c y)
  | none => none
 | .dt t x => some (.dt t x)
 | .m t cs => match Jdz ids new m cs with
  | some l => some (.m t l)
  | none => none
 | .fn f a c => match Jdz ids new m a, Jdz ids new m c with
  | some a, some c => some (.fn f a c)
  | _, _ => none
def Jhs (ids : List Nat) (new m : Nat) : List TA → Option (List TA)
 | [] => some []
 | x :: r => match Jf4 ids new m x, Jhs ids new m r with
  | some y, some l => some (y :: l)
  | _, _ => none
def Jlo (ids : List Nat) (new m : Nat) : TV → Option TV
 | .a x => match Jf4 ids new m x with
  | some y => some (.a y)
  | none => none
 | .tup vs => match Jhs ids new m vs with
  | some l => some (.tup l)
  | none => none
def Jdb (ids : List Nat) (new m : Nat) : TB → Option TB
 | .box t x => some (.box t x)
 | .mbox t cs => match Jdz ids new m cs with
  | some l => some (.mbox t l)
  | none => none
 | .arr w t rows => some (.arr w t rows)
 | .dead => none
section
variable {ids : List Nat} {new m : Nat} {L Lp : Nat → Nat} (hL : ∀ k b, J3c ids new m k = some b → Lp b = L k)
theorem JrA {k b o : Nat} (h : J3c ids new m k = some b) : bk (ids.map .whole) new (.ptr k o) = some (.ptr b o) := by
 unfold J3c at h
 simp only [bk, List.length_map, List.getElem?_map]
 split at h
 ·rename_i hk; rw [if_pos hk, h]; rfl
 ·rename_i hk
  split at h
  ·injection h with h; rw [if_neg hk, h]
  ·cases h
theorem JrW {k b i n : Nat} (h : J3c ids new m k = some b) : bk (ids.map .whole) new (.slr k i n) = some (.slr b i n) := by
 unfold J3c at h
 simp only [bk, List.length_map, List.getElem?_map]
 split at h
 ·rename_i hk; rw [if_pos hk, h]; rfl
 ·rename_i hk
  split at h
  ·injection h with h; rw [if_neg hk, h]
  ·cases h
theorem JsN {k b e i o : Nat} (h : J3c ids new m k = some b) : bk (ids.map .whole) new (.ep k e i o) = some (.ep b e i o) := by
 unfold J3c at h
 simp only [bk, List.length_map, List.getElem?_map]
 split at h
 ·rename_i hk; rw [if_pos hk, h]; rfl
 ·rename_i hk
  split at h
  ·injection h with h; rw [if_neg hk, h]
  ·cases h
include hL
theorem Jku {x y : TC} (h : JlJ ids new m x = some y) : bk (ids.map .whole) new (Jt L x) = some (Jt Lp y) := by
  cases x <;> simp only [JlJ] at h <;> first
    | (obtain ⟨b, hb, h⟩ := Option.bind_eq_some_iff.1 h
       injection h with h; subst h
       simp only [Jt, JrA hb, JrW hb, JsN hb, hL _ _ hb]
       done)
    | (injection h with h; subst h; rfl)
theorem J8e : ∀ {xs ys : List TC}, Jdz ids new m xs = some ys → bk.bkL (ids.map .whole) new (xs.map (Jt L)) = some (ys.map (Jt Lp))
 | [], ys, h => by injection h with h; subst h; rfl
 | x :: r, ys, h => by
  simp only [Jdz] at h
  split at h
  ·rename_i y l hy hl
   injection h with h; subst h
   simp only [List.map_cons, bk.bkL, Jku hL hy, J8e hl]
  ·cases h
theorem JkH {x y : TA} (h : Jf4 ids new m x = some y) : bk (ids.map .whole) new (J0c L x) = some (J0c Lp y) := by
 cases x with
 | c x =>
  simp only [Jf4] at h
  split at h
  ·rename_i y hy
   injection h with h; subst h
   exact Jku hL hy
  ·cases h
 | dt t x => injection h with h; subst h; rfl
 | m t cs =>
  simp only [Jf4] at h
  split at h
  ·rename_i l hl
   injection h with h; subst h
   simp only [J0c, bk, J8e hL hl]
  ·cases h
 | fn f a c =>
  simp only [Jf4] at h
  split at h
  ·rename_i a' c' ha hc
   injection h with h; subst h
   simp only [J0c, bk, J8e hL ha, J8e hL hc]
  ·cases h
theorem JhL : ∀ {xs ys : List TA}, Jhs ids new m xs = some ys → bk.bkL (ids.map .whole) new (xs.map (J0c L)) = some (ys.map (J0c Lp))
 | [], ys, h => by injection h with h; subst h; rfl
 | x :: r, ys, h => by
  simp only [Jhs] at h
  split at h
  ·rename_i y l hy hl
   injection h with h; subst h
   simp only [List.map_cons, bk.bkL, JkH hL hy, JhL hl]
  ·cases h
theorem JqF {x y : TV} (h : Jlo ids new m x = some y) : bk (ids.map .whole) new (Js L x) = some (Js Lp y) := by
 cases x with
 | a x =>
  simp only [Jlo] at h
  split at h
  ·rename_i y hy
   injection h with h; subst h
   exact JkH hL hy
  ·cases h
 | tup vs =>
  simp only [Jlo] at h
  split at h
  ·rename_i l hl
   injection h with h; subst h
   simp only [Js, bk, JhL hL hl]
  ·cases h
end
end Go.Am
end
section
namespace Go.Am
structure TG where
 go : ∀ {R : Type}, FuncId → List TA → List TB → (TV → List (Bool × TB) → Option R) → Option R
def J9p (out : List (Bool × TB)) : Nat → Nat := lns (out.map (·.2))
structure GOk (F : Orc) (G : TG) : Prop where
 ok : ∀ {R : Type} {f : FuncId} {xs : List TA} {bl : List TB} {kk : TV → List (Bool × TB) → Option R} {r : R}, G.go f xs bl kk = some r →
  ∃ v out, F f (xs.map (J0c (lns bl))) (bl.map (JI (lns bl))) = some (Js (J9p out) v, out.map fun x => JI (J9p out) x.2) ∧
   (∀ (k : Nat) x, out[k]? = some (true, x) → k < bl.length → lnB x = lns bl k) ∧ kk v out = some r
def J6Q (ids : List Nat) (new m : Nat) : Nat → List (Bool × TB) → Option (List (Nat × Bool × TB))
 | _, [] => some []
 | k, (s, x) :: r => match J3c ids new m k, Jdb ids new m x, J6Q ids new m (k + 1) r with
  | some b, some y, some l => some ((b, s && decide (k < ids.length), y) :: l)
  | _, _, _ => none
section
variable {R : Type}
def Jm1 (flex : Bool) (a b n : Nat) : Bool := if flex = true then decide (a ≤ b ∧ b ≤ a + n) else decide (b = a + n)
theorem Jmw {flex : Bool} {a b n : Nat} (h : Jm1 flex a b n = true) : (if flex = true then a ≤ b ∧ b ≤ a + n else b = a + n) ∧ a ≤ b ∧ b ≤ a + n := by
 unfold Jm1 at h
 cases flex with
 | true => simp at h; exact ⟨by simpa using h, h⟩
 | false => simp at h; exact ⟨by simpa using h, by omega, by omega⟩
def Jca (G : TG) (f : FuncId) (args : List (TV × Bool)) (flex : Bool) (n : Nat) (d : Option Nat) (new : Nat) (s : TSt) (kk : TSt → Option R) : Option R :=
 JdO args s fun xs s1 =>
 match J9F xs [] with
 | none => none
 | some i0 => match J94 s1 i0 i0 with
  | none => none
  | some i1 => match J94 s1 i1 i1 with
   | none => none
   | some ids => if J2U ids = true then
     match JeP ids xs, J6s ids s1 ids with
     | some ys, some bl => G.go f ys bl fun v out =>
       if Jm1 flex ids.length out.length n = true then
        match Jlo ids new out.length v, J6Q ids new out.length 0 out with
        | some v', some ws => if J2U (ws.map (·.1)) = true then kk (JM d v' (J7H ws s1)) else none
        | _, _ => none
       else none
     | _, _ => none
    else none
theorem Jja {ids : List Nat} {new m : Nat} {x y : TB} (h : Jdb ids new m x = some y) : lnB y = lnB x := by
 cases x with
 | dead => cases h
 | box t x => injection h with h; subst h; rfl
 | mbox t cs =>
  simp only [Jdb] at h
  split at h
  ·injection h with h; subst h; rfl
  ·cases h
 | arr w t rows => injection h with h; subst h; rfl
theorem Ji5 {ids : List Nat} {new m : Nat} : ∀ {k : Nat} {out : List (Bool × TB)} {ws : List (Nat × Bool × TB)}, J6Q ids new m k out = some ws →
  ws.length = out.length ∧ ∀ (j : Nat) s x, out[j]? = some (s, x) → ∃ b y, J3c ids new m (k + j) = some b ∧ Jdb ids new m x = some y ∧ ws[j]? = some (b, s && decide (k + j < ids.length), y)
 | k, [], ws, h => by injection h with h; subst h; exact ⟨rfl, fun j s x h => by simp at h⟩
 | k, (s, x) :: r, ws, h => by
  simp only [J6Q] at h
  split at h
  ·rename_i b y l hb hy hl
   injection h with h; subst h
   obtain ⟨h1, h2⟩ := Ji5 hl
   refine ⟨by simp [h1], fun j s' x' hj => ?_⟩
   cases j with
   | zero =>
    simp at hj
    obtain ⟨rfl, rfl⟩ := hj
    exact ⟨b, y, hb, hy, by simp⟩
   | succ j =>
    obtain ⟨b', y', q1, q2, q3⟩ := h2 j s' x' (by simpa using hj)
    refine ⟨b', y', by rw [← q1]; congr 1; omega, q2, ?_⟩
    simp only [List.getElem?_cons_succ, q3]
    rw [show k + 1 + j = k + (j + 1) by omega]
  ·cases h
theorem Jop {l : List Nat} (h : J2U l = true) : l.Nodup := J81 h
theorem Jk2 {ids : List Nat} (h : J2U ids = true) : J2U ((ids.map Ent.whole).map Ent.id) = true := by
 rw [List.map_map, show Ent.id ∘ Ent.whole = id from rfl, List.map_id]; exact h
theorem Jji {ids : List Nat} {new m : Nat} {L Lp : Nat → Nat} (hL : ∀ k b, J3c ids new m k = some b → Lp b = L k) {ws0 : List (Nat × Blk)} {st : St} : ∀ {j : Nat} {es : List Nat} {out : List (Bool × TB)} {ws : List (Nat × Bool × TB)},
  (∀ (i : Nat) b, es[i]? = some b → ids[j + i]? = some b) → j + es.length = ids.length → es.length ≤ out.length → J6Q ids new m j out = some ws →
  (J1R ws0 (ids.map .whole) new (es.map .whole) (out.map fun x => JI L x.2)).run st = some ((ws.take es.length).map fun x => (x.1, JI Lp x.2.2))
 | j, [], out, ws, _, _, _, h => by simp [J1R, Jk]
 | j, b :: es, [], ws, _, _, hl, h => by simp at hl
 | j, b :: es, (s, x) :: out, ws, he, hj, hl, h => by
  simp only [J6Q] at h
  split at h
  ·rename_i b' y l hb hy hl'
   injection h with h; subst h
   have ih := Jji hL (ws0 := ws0) (st := st) (j := j + 1) (es := es) (out := out) (ws := l) (fun i c hc => by
    have := he (i + 1) c (by simpa using hc)
    rw [← this]; congr 1; omega) (by simp at hj; omega) (by simpa using hl) hl'
   have hbb : b' = b := by
    have h0 := he 0 b (by simp)
    unfold J3c at hb
    rw [if_pos (by simp at hj; omega)] at hb
    rw [Nat.add_zero] at h0
    rw [hb] at h0
    injection h0
   subst hbb
   simp only [List.map_cons, J1R, run_bind]
   have hout : (J4Q ws0 (ids.map .whole) new (.whole b') (JI L x)).run st = some (b', JI Lp y) := by
    cases x with
    | dead => cases hy
    | box t x =>
     injection hy with hy; subst hy
     simp only [Ja0, J4Q, JbE (J5r _), Jk]
    | mbox t cs =>
     simp only [Jdb] at hy
     split at hy
     ·rename_i l' hl2
      injection hy with hy; subst hy
      simp only [Ja4, J4Q, J8e hL hl2, Jk]
     ·cases hy
    | arr w t rows =>
     injection hy with hy; subst hy
     simp only [Jjp, J4Q, Jk]
   simp only [hout, Option.bind_some, ih, Jk, List.length_cons, List.take_succ_cons, List.map_cons]
  ·cases h
theorem Jix {ids : List Nat} {new m : Nat} {L Lp : Nat → Nat} (hL : ∀ k b, J3c ids new m k = some b → Lp b = L k) : ∀ {j : Nat} {out : List (Bool × TB)} {ws : List (Nat × Bool × TB)},
  J6Q ids new m (ids.length + j) out = some ws → J1u (ids.map .whole) new (new + j) (out.map fun x => JI L x.2) = some (ws.map fun x => (x.1, JI Lp x.2.2))
 | j, [], ws, h => by injection h with h; subst h; rfl
 | j, (s, x) :: out, ws, h => by
  simp only [J6Q] at h
  split at h
  ·rename_i b' y l hb hy hl'
   injection h with h; subst h
   have ih := Jix hL (j := j + 1) hl'
   have hbb : b' = new + j := by
    unfold J3c at hb
    rw [if_neg (by omega)] at hb
    split at hb
    ·injection hb with hb; omega
    ·cases hb
   subst hbb
   cases x with
   | dead => cases hy
   | box t x =>
    injection hy with hy; subst hy
    simp only [List.map_cons, Ja0, J1u, JbE (J5r _)]
    rw [show new + j + 1 = new + (j + 1) by omega, ih]
   | mbox t cs =>
    simp only [Jdb] at hy
    split at hy
    ·rename_i l' hl2
     injection hy with hy; subst hy
     simp only [List.map_cons, Ja4, J1u, J8e hL hl2]
     rw [show new + j + 1 = new + (j + 1) by omega, ih]
    ·cases hy
   | arr w t rows =>
    injection hy with hy; subst hy
    simp only [List.map_cons, Jjp, J1u]
    rw [show new + j + 1 = new + (j + 1) by omega, ih]
  ·cases h
theorem Jej {ids : List Nat} {new m : Nat} : ∀ {n k : Nat} {out : List (Bool × TB)} {ws : List (Nat × Bool × TB)}, J6Q ids new m k out = some ws → J6Q ids new m (k + n) (out.drop n) = some (ws.drop n)
 | 0, k, out, ws, h => h
 | n + 1, k, [], ws, h => by injection h with h; subst h; rfl
 | n + 1, k, (s, x) :: out, ws, h => by
  simp only [J6Q] at h
  split at h
  ·rename_i b y l hb hy hl
   injection h with h; subst h
   have := Jej (n := n) hl
   rw [show k + (n + 1) = k + 1 + n by omega]
   exact this
  ·cases h
theorem J7Q {F : Orc} {G : TG} (hG : GOk F G) {f : FuncId} {args : List (TV × Bool)} {flex : Bool} {n : Nat} {d : Option Nat} {new : Nat} {s : TSt} {kk : TSt → Option R} {r : R}
  (hd : J61 s new n = true) (h : Jca G f args flex n d new s kk = some r) :
  ∃ xs ws es1 es args' blks v res back fresh, (J1W (args.map (·.2)) (args.map fun x => Js (lns s.sto) x.1)).run (Jf s) = some (xs, ws) ∧
   (J2m ws (JV.entsOfL xs []) (JV.entsOfL xs [])).run (Jf s) = some es1 ∧ (J2m ws es1 es1).run (Jf s) = some es ∧ J2U (es.map Ent.id) = true ∧
   ren.renL (fun e => J0M e es 0) xs = some args' ∧ (J37 ws (fun e => J0M e es 0) es).run (Jf s) = some blks ∧ F f args' blks = some res ∧
   (if flex = true then es.length ≤ res.2.length ∧ res.2.length ≤ es.length + n else res.2.length = es.length + n) ∧ bk es new res.1 = some v ∧ J1u es new new (res.2.drop es.length) = some fresh ∧
   (J1R ws es new es res.2).run (Jf s) = some back ∧ ∃ s', put d ⟨v, ws ++ back ++ fresh⟩ (Jf s) = Jf s' ∧ kk s' = some r := by
 unfold Jca at h
 obtain ⟨xs, s1, ws, h1, f1, h⟩ := Jde (Fzd.refl s) h
 rw [List.nil_append] at f1
 split at h
 ·cases h
 ·rename_i i0 hi0
  split at h
  ·cases h
  ·rename_i i1 hi1
   split at h
   ·cases h
   ·rename_i ids hids
    split at h
    ·rename_i hnd
     split at h
     ·rename_i ys bl hys hbl
      obtain ⟨v, out, hF, hsame, h⟩ := hG.ok h
      split at h
      ·rename_i hlen
       split at h
       ·rename_i v' tws hv' htws
        split at h
        ·rename_i hnd2
         have e0 : JV.entsOfL (xs.map (J0c (lns s.sto))) [] = i0.map .whole := J9d (lns s.sto) (l := []) hi0
         have e1 := J65 f1 hi1
         have e2 := J65 f1 hids
         obtain ⟨bl1, bl2⟩ := JcG hbl
         have hL : ∀ b k, J2K b ids 0 = some k → lns bl k = lns s.sto b := by
          intro b k hk
          obtain ⟨_, hk⟩ := J95 hk
          rw [bl2 k b (by simpa using hk), f1.2.1]
         have e3 := JgF hL hys
         have e4 := Je5 hL f1 rfl hbl
         obtain ⟨b1, b2⟩ := Ji5 htws
         have hout : ∀ (j : Nat), J9p out j = match out[j]? with
           | some x => lnB x.2
           | none => 0 := by
          intro j
          unfold J9p lns
          rw [List.getElem?_map]
          cases out[j]? <;> rfl
         have hids_lt : ∀ (k b : Nat), ids[k]? = some b → b < s1.sto.length := by
          have key : ∀ (bs : List Nat) (bl : List TB), J6s ids s1 bs = some bl → ∀ (k b : Nat), bs[k]? = some b → b < s1.sto.length := by
           intro bs
           induction bs with
           | nil => intro bl _ k b hk; simp at hk
           | cons c bs ih =>
            intro bl hbl k b hk
            simp only [J6s] at hbl
            split at hbl
            ·rename_i x hx
             split at hbl
             ·rename_i y l hy hl
              cases k with
              | zero => simp at hk; subst hk; exact J9 hx
              | succ k => exact ih l hl k b (by simpa using hk)
             ·cases hbl
            ·cases hbl
          exact key ids bl hbl
         have hslen : s1.sto.length = s.sto.length := by
          have := congrArg (fun st => st.sto.length) f1.2.2.1
          simpa only [Jf, List.length_map, J7g] using this
         obtain ⟨hlenR, hlen0, hlen'⟩ := Jmw hlen
         have hdead := J56 hd
         have hmem : ∀ x ∈ tws, ∃ (j : Nat) (sm : Bool) (y : TB), out[j]? = some (sm, y) ∧ J3c ids new out.length j = some x.1 ∧ Jdb ids new out.length y = some x.2.2 ∧ x.2.1 = (sm && decide (j < ids.length)) := by
          intro x hx
          obtain ⟨j, hj⟩ := List.getElem?_of_mem hx
          have hjl : j < out.length := by rw [← b1]; exact J9 hj
          obtain ⟨b, y, q1, q2, q3⟩ := b2 j (out[j]'hjl).1 (out[j]'hjl).2 (List.getElem?_eq_getElem hjl)
          rw [hj] at q3
          injection q3 with q3
          rw [Nat.zero_add] at q1 q3
          exact ⟨j, _, _, List.getElem?_eq_getElem hjl, by rw [q3]; exact q1, by rw [q3]; exact q2, by rw [q3]; rfl⟩
         have hrange : ∀ x ∈ tws, x.1 < s1.sto.length := by
          intro x hx
          obtain ⟨j, sm, y, q1, q2, q3, q4⟩ := hmem x hx
          unfold J3c at q2
          split at q2
          ·exact hids_lt j _ q2
          ·split at q2
           ·injection q2 with q2
            rw [← q2, hslen]
            exact J9 (hdead (j - ids.length) (by omega))
           ·cases q2
         have hflag : ∀ x ∈ tws, x.2.1 = true → lnB x.2.2 = lns s1.sto x.1 := by
          intro x hx hx1
          obtain ⟨j, sm, y, q1, q2, q3, q4⟩ := hmem x hx
          rw [q4, Bool.and_eq_true, decide_eq_true_eq] at hx1
          obtain ⟨rfl, hj⟩ := hx1
          rw [Jja q3, hsame j y q1 (by rw [bl1]; exact hj)]
          unfold J3c at q2
          rw [if_pos hj] at q2
          exact bl2 j _ q2
         obtain ⟨w1, w2⟩ := JqI (Jop hnd2) hrange hflag
         have hLp : ∀ k b, J3c ids new out.length k = some b → lns (J7H tws s1).sto b = J9p out k := by
          intro k b hk
          have hk' : k < out.length := by
           unfold J3c at hk
           split at hk
           ·omega
           ·split at hk
            ·assumption
            ·cases hk
          obtain ⟨b', y, q1, q2, q3⟩ := b2 k (out[k]'hk').1 (out[k]'hk').2 (List.getElem?_eq_getElem hk')
          rw [Nat.zero_add] at q1 q3
          rw [q1] at hk
          injection hk with hk
          subst hk
          rw [w2 _ (JO q3), Jja q2, hout, List.getElem?_eq_getElem hk']
         have e5 := JqF hLp hv'
         have e6 := Jji hLp (ws0 := ws) (st := Jf s) (j := 0) (es := ids) (out := out) (ws := tws) (fun i b hb => by rw [Nat.zero_add]; exact hb) (by omega) hlen0 htws
         have e7 := Jix hLp (j := 0) (out := out.drop ids.length) (ws := tws.drop ids.length) (by have := Jej (n := ids.length) htws; rwa [Nat.zero_add, ← Nat.add_zero ids.length] at this)
         rw [Nat.add_zero] at e7
         refine ⟨xs.map (J0c (lns s.sto)), ws, i1.map .whole, ids.map .whole, _, _, Js (lns (J7H tws s1).sto) v', _, _, (tws.drop ids.length).map (fun x => (x.1, JI (lns (J7H tws s1).sto) x.2.2)), h1, ?_, e2, Jk2 hnd, e3, e4, hF, ?_, e5, ?_, e6, JM d v' (J7H tws s1), ?_, h⟩
         ·rw [e0]; exact e1
         ·simp only [List.length_map]
          exact hlenR
         ·simp only [List.length_map, ← List.map_drop]
          exact e7
         ·refine J5L ?_ d v'
          rw [w1, f1.2.2.1]
          congr 1
          rw [List.append_assoc, J0w, ← List.map_append, List.take_append_drop]
        ·cases h
       ·cases h
      ·cases h
     ·cases h
    ·cases h
end
end Go.Am
end
section
namespace Go.Am
inductive TOp where
 | mv (x : TO)
 | mkarr (t : Ty) (x : TO)
 | pick (c a b : TO)
 | newbox (t : Ty)
 | box (t : Ty) (x : TO)
 | build (t : Ty) (parts : List (Nat × Ty × TO))
 | lits (own : Bool) (t : Ty) (n : Nat) (parts : List (Nat × TO))
 | load (agg : Bool) (t : Ty) (x : TO)
 | store (t : Ty) (x v : TO)
 | nilchk (x : TO)
 | bin (op : BinOp) (bt : TBT) (x y : TO)
 | un (op : UnOp) (x : TO)
 | conv (k : CK) (x : TO)
 | mkslice (own : Bool) (t : Ty) (bytes : Nat) (l c : TO)
 | slice (k : TSK) (x : TO) (lo hi mx : Option TO)
 | faddr (off : Nat) (x : TO)
 | field (agg : Bool) (off : Nat) (t : Ty) (x : TO)
 | iaddr (t : Ty) (x i : TO)
 | aaddr (len esz : Nat) (x i : TO)
 | sidx (x i : TO)
 | aidx (agg : Bool) (len : Nat) (t : Ty) (x i : TO)
 | extr (x : TO) (i : Nat)
 | call (f : FuncId) (args : List TO) (k : Nat)
 | callo (f : FuncId) (args : List (TO × Bool)) (k : Nat)
 | callv (g : TO) (args : List TO) (k : Nat)
 | len (str : Bool) (x : TO)
 | alen (n : Nat)
 | app (t : Ty) (bytes : Nat) (x y : TO)
 | appn (t : Ty) (bytes : Nat) (y : TO)
 | appz (t : Ty) (bytes : Nat) (x y : TO)
 | appc (t : Ty) (bytes : Nat) (x y : TO)
 | mm (mx : Bool) (x y : TO)
 | mkfn (f : FuncId) (first caps : List TO)
 | newboxo (t : Ty) (os : List (Nat × Ty))
 | buildo (t : Ty) (parts : List (Nat × Ty × TO)) (os : List (Nat × Ty))
 | storen (t : Ty) (x : TO)
def zer (t : Ty) : List PV := cel t t.zero
def erp : TOp → AOp
 | .mv x => .mv (erO x)
 | .mkarr t x => .mkarr t.sz (erO x)
 | .pick c a b => .pick (erO c) (erO a) (erO b)
 | .newbox t => .newbox (zer t)
 | .box t x => .box t.sz (erO x)
 | .build t parts => .build (zer t) (erP parts)
 | .lits own t n parts => .lits own t.sz n (zer t) (parts.map fun x => (x.1, erO x.2))
 | .load agg t x => .load agg t.sz (erO x)
 | .store t x v => .store t.sz (erO x) (erO v)
 | .nilchk x => .nilchk (erO x)
 | .bin op bt x y => .bin op (erT bt) (erO x) (erO y)
 | .un op x => .un op (erO x)
 | .conv k x => .conv k (erO x)
 | .mkslice own t bytes l c => .mkslice own t.sz bytes (zer t) (erO l) (erO c)
 | .slice k x lo hi mx => .slice (erK k) (erO x) (lo.map erO) (hi.map erO) (mx.map erO)
 | .faddr off x => .faddr off (erO x)
 | .field agg off t x => .field agg off t.sz (erO x)
 | .iaddr t x i => .iaddr t.sz (erO x) (erO i)
 | .aaddr len esz x i => .aaddr len esz (erO x) (erO i)
 | .sidx x i => .sidx (erO x) (erO i)
 | .aidx agg len t x i => .aidx agg len t.sz (erO x) (erO i)
 | .extr x i => .extr (erO x) i
 | .call f args k => .call f (args.map erO) k
 | .callo f args k => .callo f (args.map (·.2)) (args.map fun x => erO x.1) k
 | .callv g args k => .callv (erO g) (args.map erO) k
 | .len str x => .len str (erO x)
 | .alen n => .alen n
 | .app t bytes x y => .app t.sz bytes (zer t) (erO x) (erO y)
 | .appn t bytes y => .appn t.sz bytes (zer t) (erO y)
 | .appz t bytes x y => .appz t.sz bytes (zer t) (erO x) (erO y)
 | .appc t bytes x y => .appc t.sz bytes (zer t) (erO x) (erO y)
 | .mm mx x y => .mm mx (erO x) (erO y)
 | .mkfn f first caps => .mkfn f (first.map erO) (caps.map erO)
 | .newboxo t os => .newboxo (zer t) (J6c os)
 | .buildo t parts os => .buildo (zer t) (erP parts) (J6c os)
 | .storen t x => .storen t.sz (erO x)
def J0s : TOp → Nat
 | .newbox _ | .box _ _ | .mkarr _ _ | .appn _ _ _ | .appc _ _ _ _ => 1
 | .lits own _ _ _ => if own = true then 1 else 0
 | .mkslice own _ _ _ _ => if own = true then 1 else 0
 | .conv (.toBytes own) _ => if own = true then 1 else 0
 | .call _ _ k | .callv _ _ k | .callo _ _ k => k
 | .newboxo _ os => os.length + 1
 | .buildo _ _ os => os.length
 | .storen _ _ => 1
 | _ => 0
theorem J9O (op : TOp) : J3j (erp op) = J0s op := by
 cases op <;> try rfl
 ·rename_i k x; cases k <;> rfl
 ·simp [erp, J3j, J0s, J6c]
 ·simp [erp, J3j, J0s, J6c]
def JbL : List (TO × Bool) → TSt → Option (List (TV × Bool))
 | [], _ => some []
 | (o, x) :: r, s => match tev o s, JbL r s with
  | some v, some l => some ((v, x) :: l)
  | _, _ => none
theorem J7l {s : TSt} : ∀ {xs : List (TO × Bool)} {l : List (TV × Bool)}, JbL xs s = some l →
  (evs (xs.map fun x => erO x.1)).run (Jf s) = some (l.map fun x => Js (lns s.sto) x.1) ∧ l.map (·.2) = xs.map (·.2)
 | [], l, h => by injection h with h; subst h; exact ⟨rfl, rfl⟩
 | (o, x) :: q, l, h => by
  simp only [JbL] at h
  split at h
  ·rename_i v l' hv hl
   injection h with h; subst h
   obtain ⟨h1, h2⟩ := J7l hl
   exact ⟨by simp only [List.map_cons, evs, run_bind, Jx hv, Option.bind_some, h1, Jk], by simp [h2]⟩
  ·cases h
section
variable {R : Type}
def top (G : TG) (op : TOp) (d : Option Nat) (new : Nat) (s : TSt) (k : TSt → Option R) : Option R :=
 match op with
 | .mv x => match tev x s with
  | some v => k (JM d v s)
  | none => none
 | .mkarr t _ => JnK t d new s k
 | .pick c a b => match tev c s with
  | some (.a (.c (.d .b x))) => Jlx x (tev a s) (tev b s) fun v => k (JM d v s)
  | _ => none
 | .newbox t => JkG t d new s k
 | .box t x => match tev x s with
  | some v => Jp4 t v d new s k
  | none => none
 | .build t parts => JhU t parts d s k
 | .lits own t n parts => JlL own t n parts d new s k
 | .load agg t x => match tev x s with
  | some v => Jl9 agg t v d s k
  | none => none
 | .store t x y => match tev x s, tev y s with
  | some v, some u => Jik t v u d s k
  | _, _ => none
 | .nilchk x => match tev x s with
  | some v => Jpt v fun v => k (JM d v s)
  | none => none
 | .bin op bt x y => match tev x s, tev y s with
  | some v, some u => Jog op bt v u fun v => k (JM d v s)
  | _, _ => none
 | .un op x => match tev x s with
  | some v => tUn op v fun v => k (JM d v s)
  | none => none
 | .conv c x => match tev x s with
  | some v => JlF c v d new s k
  | none => none
 | .mkslice own t bytes l c => match tev l s, tev c s with
  | some v, some u => JcP own t bytes v u d new s k
  | _, _ => none
 | .slice kd x lo hi mx => match tev x s, tbn lo s, tbn hi s, tbn mx s with
  | some v, some a, some b, some c => Jjk kd v a b c d s k
  | _, _, _, _ => none
 | .faddr off x => match tev x s with
  | some v => Jic off v fun v => k (JM d v s)
  | none => none
 | .field agg off t x => match tev x s with
  | some v => Jjo agg off t v d s k
  | none => none
 | .iaddr t x i => match tev x s, tev i s with
  | some v, some u => JhW t v u s fun v => k (JM d v s)
  | _, _ => none
 | .aaddr len esz x i => match tev x s, tev i s with
  | some v, some u => JhI len esz v u fun v => k (JM d v s)
  | _, _ => none
 | .sidx x i => match tev x s, tev i s with
  | some v, some u => Jml v u fun v => k (JM d v s)
  | _, _ => none
 | .aidx agg len t x i => match tev x s, tev i s with
  | some v, some u => JlT agg len t v u d s k
  | _, _ => none
 | .extr x i => match tev x s with
  | some v => JlH v i fun v => k (JM d v s)
  | none => none
 | .call f args n => match JbL (args.map fun x => (x, false)) s with
  | some l => Jca G f l false n d new s k
  | none => none
 | .callo f args n => match JbL args s with
  | some l => Jca G f l true n d new s k
  | none => none
 | .callv g args n => match tev g s, JbL (args.map fun x => (x, false)) s with
  | some (.a (.fn f a c)), some l => Jca G f (a.map (fun x => (.a (.c x), false)) ++ l ++ c.map (fun x => (.a (.c x), false))) false n d new s k
  | some (.a (.c (.fn f))), some l => Jca G f l false n d new s k
  | _, _ => none
 | .len str x => match tev x s with
  | some v => JoB str v s fun v => k (JM d v s)
  | none => none
 | .alen n => k (JM d (vi .i64 n) s)
 | .app t bytes x y => match tev x s, tev y s with
  | some v, some u => Jlm t bytes v u d s k
  | _, _ => none
 | .appn t bytes y => match tev y s with
  | some u => Jlv t bytes u d new s k
  | none => none
 | .appz t bytes x y => match tev x s, tev y s with
  | some v, some u => Jmi t bytes v u d s k
  | _, _ => none
 | .appc t bytes x y => match tev x s, tev y s with
  | some v, some u => JlE t bytes v u d new s k
  | _, _ => none
 | .mm mx x y => match tev x s, tev y s with
  | some v, some u => tMm mx v u fun v => k (JM d v s)
  | _, _ => none
 | .mkfn f first caps => match tcl first s, tcl caps s with
  | some a, some c => k (JM d (.a (.fn f a c)) s)
  | _, _ => none
 | .newboxo t os => JdF t os d new s k
 | .buildo t parts os => JfZ t parts os d new s k
 | .storen t x => match tev x s with
  | some v => Jff t v d new s k
  | none => none
theorem JdI {F : Orc} {f : FuncId} {vs xs args' : List AV} {ws : List (Nat × Blk)} {es1 es : List Ent} {blks : List Blk} {v : AV} {res : Res} {back fresh : List (Nat × Blk)} {n new : Nat} {st : St}
  (h1 : (J4n vs).run st = some (xs, ws)) (h2 : (J2m ws (JV.entsOfL xs []) (JV.entsOfL xs [])).run st = some es1) (h3 : (J2m ws es1 es1).run st = some es) (h4 : J2U (es.map Ent.id) = true)
  (h5 : ren.renL (fun e => J0M e es 0) xs = some args') (h6 : (J37 ws (fun e => J0M e es 0) es).run st = some blks) (h7 : F f args' blks = some res) (h8 : res.2.length = es.length + n)
  (h9 : bk es new res.1 = some v) (h10 : J1u es new new (res.2.drop es.length) = some fresh) (h11 : (J1R ws es new es res.2).run st = some back) :
  (J3i F f vs n new).run st = some ⟨v, ws ++ back ++ fresh⟩ := by
 simp only [J3i, run_bind, h1, h2, h3, h4, h5, h6, h7, if_pos h8, h9, h10, h11, Option.bind_some, if_true, Jk]
theorem JmP {F : Orc} {f : FuncId} {xs args' : List AV} {ws : List (Nat × Blk)} {es1 es : List Ent} {blks : List Blk} {v : AV} {res : Res} {back fresh : List (Nat × Blk)} {n new : Nat} {st : St}
  (h2 : (J2m ws (JV.entsOfL xs []) (JV.entsOfL xs [])).run st = some es1) (h3 : (J2m ws es1 es1).run st = some es) (h4 : J2U (es.map Ent.id) = true)
  (h5 : ren.renL (fun e => J0M e es 0) xs = some args') (h6 : (J37 ws (fun e => J0M e es 0) es).run st = some blks) (h7 : F f args' blks = some res) (h8 : es.length ≤ res.2.length ∧ res.2.length ≤ es.length + n)
  (h9 : bk es new res.1 = some v) (h10 : J1u es new new (res.2.drop es.length) = some fresh) (h11 : (J1R ws es new es res.2).run st = some back) :
  (J1w F f (xs, ws) n new).run st = some ⟨v, ws ++ back ++ fresh⟩ := by
 simp only [J1w, run_bind, h2, h3, h4, h5, h6, h7, if_pos h8, h9, h10, h11, Option.bind_some, if_true, Jk]
theorem Jae (args : List TO) : (args.map fun x => (x, false)).map (fun x : TO × Bool => erO x.1) = args.map erO := by
 rw [List.map_map]; rfl
theorem Jrs {F : Orc} {G : TG} (hG : GOk F G) {op : TOp} {d : Option Nat} {new : Nat} {s : TSt} {k : TSt → Option R} {r : R} (hd : J61 s new (J0s op) = true) (h : top G op d new s k = some r) : Ok (opR F (erp op) new) d s k r := by
 have hlt : ∀ j, j < J0s op → new + j < s.sto.length := fun j hj => J9 (J56 hd j hj)
 unfold top at h
 split at h
 ·split at h
  ·rename_i x _ v hv
   refine J0Q (v := v) ?_ h
   simp only [erp, opR, run_bind, Jx hv, Option.bind_some, Jk]
  ·cases h
 ·exact Jmx F (by have := hlt 0 (by simp [J0s]); simpa using this) h
 ·split at h
  ·rename_i hc
   exact JnX F hc h
  ·cases h
 ·exact JlR F (by have := J56 hd 0 (by simp [J0s]); simpa using this) h
 ·split at h
  ·rename_i hv
   exact Jqs F (by have := J56 hd 0 (by simp [J0s]); simpa using this) hv h
  ·cases h
 ·exact JnG F new h
 ·rename_i own t n parts
  exact JpD F (fun ho => by have := hlt 0 (by simp [J0s, ho]); simpa using this) h
 ·split at h
  ·rename_i hv
   obtain ⟨e, s', h1, h2, h3⟩ := JoR h
   exact ⟨e, s', by simp only [erp, opR, run_bind, Jx hv, Option.bind_some, h1], h2, h3⟩
  ·cases h
 ·split at h
  ·rename_i hv hu
   obtain ⟨e, s', h1, h2, h3⟩ := Jna h
   exact ⟨e, s', by simp only [erp, opR, run_bind, Jx hv, Jx hu, Option.bind_some, h1], h2, h3⟩
  ·cases h
 ·split at h
  ·rename_i hv
   exact JqH F hv h
  ·cases h
 ·split at h
  ·rename_i hv hu
   obtain ⟨e, s', h1, h2, h3⟩ := (Jr5 h).ok
   exact ⟨e, s', by simp only [erp, opR, run_bind, Jx hv, Jx hu, Option.bind_some, h1], h2, h3⟩
  ·cases h
 ·split at h
  ·rename_i hv
   obtain ⟨e, s', h1, h2, h3⟩ := (Js9 h).ok
   exact ⟨e, s', by simp only [erp, opR, run_bind, Jx hv, Option.bind_some, h1], h2, h3⟩
  ·cases h
 ·split at h
  ·rename_i hv
   exact Jot F hv (fun ho => by subst ho; have := hlt 0 (by simp [J0s]); simpa using this) h
  ·cases h
 ·split at h
  ·rename_i hv hu
   exact JjL F hv hu (fun ho => by have := hlt 0 (by simp [J0s, ho]); simpa using this) h
  ·cases h
 ·split at h
  ·rename_i h1 h2 h3 h4
   exact Jmv F h1 h2 h3 h4 h
  ·cases h
 ·split at h
  ·rename_i hv
   obtain ⟨e, s', h1, h2, h3⟩ := (Jnc h).ok
   exact ⟨e, s', by simp only [erp, opR, run_bind, Jx hv, Option.bind_some, h1], h2, h3⟩
  ·cases h
 ·split at h
  ·rename_i hv
   obtain ⟨e, s', h1, h2, h3⟩ := Jn0 h
   exact ⟨e, s', by simp only [erp, opR, run_bind, Jx hv, Option.bind_some, h1], h2, h3⟩
  ·cases h
 ·split at h
  ·rename_i hv hu
   obtain ⟨e, s', h1, h2, h3⟩ := JnF h
   exact ⟨e, s', by simp only [erp, opR, run_bind, Jx hv, Jx hu, Option.bind_some, h1], h2, h3⟩
  ·cases h
 ·split at h
  ·rename_i hv hu
   obtain ⟨e, s', h1, h2, h3⟩ := (Jmn h).ok
   exact ⟨e, s', by simp only [erp, opR, run_bind, Jx hv, Jx hu, Option.bind_some, h1], h2, h3⟩
  ·cases h
 ·split at h
  ·rename_i hv hu
   exact Jpd F hv hu h
  ·cases h
 ·split at h
  ·rename_i hv hu
   exact Jpm F hv hu h
  ·cases h
 ·split at h
  ·rename_i hv
   obtain ⟨e, s', h1, h2, h3⟩ := (Jph h).ok
   exact ⟨e, s', by simp only [erp, opR, run_bind, Jx hv, Option.bind_some, h1], h2, h3⟩
  ·cases h
 ·rename_i f args n
  split at h
  ·rename_i l hl
   obtain ⟨e1, e2⟩ := J7l hl
   rw [Jae] at e1
   obtain ⟨xs, ws, es1, es, args', blks, v, res, back, fresh, q1, q2, q3, q4, q5, q6, q7, q8, q9, q10, q11, s', q12, q13⟩ := J7Q hG hd h
   rw [J5R _ _ (fun x hx => by
    rw [e2, List.map_map] at hx
    obtain ⟨y, _, rfl⟩ := List.mem_map.1 hx
    rfl)] at q1
   refine ⟨_, s', ?_, q12, q13⟩
   simp only [erp, opR, run_bind, e1, Option.bind_some]
   exact JdI q1 q2 q3 q4 q5 q6 q7 (by simpa [J0s] using q8) q9 q10 q11
  ·cases h
 ·rename_i f args n
  split at h
  ·rename_i l hl
   obtain ⟨e1, e2⟩ := J7l hl
   obtain ⟨xs, ws, es1, es, args', blks, v, res, back, fresh, q1, q2, q3, q4, q5, q6, q7, q8, q9, q10, q11, s', q12, q13⟩ := J7Q hG hd h
   rw [e2] at q1
   refine ⟨_, s', ?_, q12, q13⟩
   simp only [erp, opR, run_bind, e1, Option.bind_some, q1]
   exact JmP q2 q3 q4 q5 q6 q7 (by simpa [J0s] using q8) q9 q10 q11
  ·cases h
 ·rename_i g args n
  split at h
  ·rename_i f a c l hg hl
   obtain ⟨e1, e2⟩ := J7l hl
   rw [Jae] at e1
   obtain ⟨xs, ws, es1, es, args', blks, v, res, back, fresh, q1, q2, q3, q4, q5, q6, q7, q8, q9, q10, q11, s', q12, q13⟩ := J7Q hG hd h
   have e4 : ∀ z : List TC, (z.map (fun x => ((TV.a (.c x), false) : TV × Bool))).map (fun x => Js (lns s.sto) x.1) = z.map (Jt (lns s.sto)) := fun z => by rw [List.map_map]; rfl
   rw [J5R _ _ (fun x hx => by
    simp only [List.map_append, List.map_map, List.mem_append, List.mem_map] at hx
    rcases hx with (⟨y, _, rfl⟩ | hx) | ⟨y, _, rfl⟩
    ·rfl
    ·obtain ⟨y, hy, rfl⟩ := hx
     have hm : y.2 ∈ l.map (·.2) := List.mem_map.2 ⟨y, hy, rfl⟩
     rw [e2, List.map_map] at hm
     obtain ⟨z, _, hz⟩ := List.mem_map.1 hm
     rw [← hz]
     rfl
    ·rfl), List.map_append, List.map_append, e4, e4] at q1
   refine ⟨_, s', ?_, q12, q13⟩
   simp only [erp, opR, run_bind, Jx hg, Option.bind_some, Jp2, e1]
   exact JdI q1 q2 q3 q4 q5 q6 q7 (by simpa [J0s] using q8) q9 q10 q11
  ·rename_i f l hg hl
   obtain ⟨e1, e2⟩ := J7l hl
   rw [Jae] at e1
   obtain ⟨xs, ws, es1, es, args', blks, v, res, back, fresh, q1, q2, q3, q4, q5, q6, q7, q8, q9, q10, q11, s', q12, q13⟩ := J7Q hG hd h
   rw [J5R _ _ (fun x hx => by
    rw [e2, List.map_map] at hx
    obtain ⟨y, _, rfl⟩ := List.mem_map.1 hx
    rfl)] at q1
   refine ⟨_, s', ?_, q12, q13⟩
   simp only [erp, opR, run_bind, Jx hg, Option.bind_some, Js3, e1, List.nil_append, List.append_nil]
   exact JdI q1 q2 q3 q4 q5 q6 q7 (by simpa [J0s] using q8) q9 q10 q11
  ·cases h
 ·split at h
  ·rename_i hv
   obtain ⟨e, s', h1, h2, h3⟩ := (Jqe h).ok
   exact ⟨e, s', by simp only [erp, opR, run_bind, Jx hv, Option.bind_some, h1], h2, h3⟩
  ·cases h
 ·rename_i n
  exact J0Q (v := vi .i64 n) rfl h
 ·split at h
  ·rename_i hv hu
   obtain ⟨e, s', h1, h2, h3⟩ := Jkn h
   exact ⟨e, s', by simp only [erp, opR, run_bind, Jx hv, Jx hu, Option.bind_some, h1], h2, h3⟩
  ·cases h
 ·split at h
  ·rename_i hu
   exact JoO F hu (by have := hlt 0 (by simp [J0s]); simpa using this) h
  ·cases h
 ·split at h
  ·rename_i hv hu
   exact JoS F hv hu h
  ·cases h
 ·split at h
  ·rename_i hv hu
   exact Jpb F hv hu (by have := hlt 0 (by simp [J0s]); simpa using this) h
  ·cases h
 ·split at h
  ·rename_i hv hu
   obtain ⟨e, s', h1, h2, h3⟩ := (Jsp h).ok
   exact ⟨e, s', by simp only [erp, opR, run_bind, Jx hv, Jx hu, Option.bind_some, h1], h2, h3⟩
  ·cases h
 ·rename_i f first caps
  split at h
  ·rename_i a c ha hc
   refine J0Q (v := .a (.fn f a c)) ?_ h
   simp only [erp, opR, run_bind, Jij ha, Jij hc, Option.bind_some, Jp2, Jk]
  ·cases h
 ·exact Jk0 F hd h
 ·exact Jm7 F hd h
 ·split at h
  ·rename_i hv
   exact JlA F (by have := J56 hd 0 (by simp [J0s]); simpa using this) hv h
  ·cases h
structure J6e where
 op : TOp
 dst : Option Nat
 g : Option (Nat × Bool)
def eri (i : J6e) : J0q := ⟨erp i.op, i.dst, i.g⟩
def rbE (g : Nat) (v : TV) : List (Nat × TV) → List (Nat × TV)
 | [] => []
 | (m, u) :: r => if m = g then (m, v) :: r else (m, u) :: rbE g v r
def rb (g : Nat) (v : TV) (s : TSt) : TSt := ⟨rbE g v s.env, s.sto⟩
theorem Jiz {g : Nat} {v : TV} {s : TSt} (h : tlk g s.env = some v) : rb g v s = s := by
 have key : ∀ env : List (Nat × TV), tlk g env = some v → rbE g v env = env := by
  intro env
  induction env with
  | nil => intro h; cases h
  | cons x r ih =>
   intro h
   obtain ⟨m, u⟩ := x
   simp only [tlk] at h
   simp only [rbE]
   split at h
   ·rename_i e; injection h with h; subst e h; simp
   ·rename_i e; rw [if_neg (fun e' => e e'.symm), ih h]
 unfold rb
 rw [key _ h]
def Jmh (G : TG) (i : J6e) (new : Nat) (s : TSt) (k : TSt → Option R) : Option R :=
 match i.g with
 | none => if J61 s new (J0s i.op) = true then top G i.op i.dst new s k else none
 | some (g, want) => match tlk g s.env with
  | some (.a (.c (.d .b x))) => if x = want then
    (if J61 s new (J0s i.op) = true then top G i.op i.dst new (rb g (vb want) s) k else none)
   else k (JM i.dst uv (rb g (vb !want) s))
  | some (.tup []) => k (JM i.dst uv s)
  | _ => none
theorem JkO {F : Orc} {G : TG} (hG : GOk F G) {i : J6e} {new : Nat} {s : TSt} {k : TSt → Option R} {r : R} (h : Jmh G i new s k = some r) : Ok (J0t F (eri i) new) i.dst s k r := by
 have hop : ∀ {s : TSt}, J61 s new (J0s i.op) = true → top G i.op i.dst new s k = some r → Ok (opD F (erp i.op) new) i.dst s k r := by
  intro s hd h
  obtain ⟨e, s', h1, h2, h3⟩ := Jrs hG hd h
  refine ⟨e, s', ?_, h2, h3⟩
  simp only [opD, run_bind, J9O, Ji3 hd, Option.bind_some, h1]
 unfold Jmh at h
 split at h
 ·rename_i hg
  split at h
  ·rename_i hd
   obtain ⟨e, s', h1, h2, h3⟩ := hop hd h
   refine ⟨e, s', ?_, h2, h3⟩
   simp only [J0t, eri, hg]
   exact h1
  ·cases h
 ·rename_i g want hg
  split at h
  ·rename_i x hx
   have hl : lk g (Jf s).env = some (.p (.b x)) := by
    show lk g (J2G _ s.env) = _
    rw [J8S, hx]; rfl
   split at h
   ·rename_i hw
    subst hw
    rw [Jiz hx] at h
    split at h
    ·rename_i hd
     obtain ⟨e, s', h1, h2, h3⟩ := hop hd h
     refine ⟨e, s', ?_, h2, h3⟩
     simp only [J0t, eri, hg, J4W, hl, Option.bind_some, if_true]
     exact h1
    ·cases h
   ·rename_i hw
    have hx' : x = !want := by clear hl hx h; cases x <;> cases want <;> first | rfl | exact absurd rfl hw
    subst hx'
    rw [Jiz hx] at h
    refine J0Q (v := uv) ?_ h
    simp only [J0t, eri, hg, J4W, hl, Option.bind_some]
    rw [if_neg hw]; rfl
  ·rename_i hx
   have hl : lk g (Jf s).env = some (.tup []) := by
    show lk g (J2G _ s.env) = _
    rw [J8S, hx]; rfl
   refine J0Q (v := uv) ?_ h
   simp only [J0t, eri, hg, J4W, hl, Option.bind_some, Jk]; rfl
  ·cases h
def JlV (G : TG) : List J6e → Nat → TSt → (TSt → Option R) → Option R
 | [], _, s, k => k s
 | i :: r, new, s, k => Jmh G i new s fun s => JlV G r (new + J0s i.op) s k
theorem Jkh {F : Orc} {G : TG} (hG : GOk F G) : ∀ {ins : List J6e} {new : Nat} {s : TSt} {k : TSt → Option R} {r : R}, JlV G ins new s k = some r → ∃ s', J1F F (ins.map eri) new (Jf s) = some (Jf s') ∧ k s' = some r
 | [], new, s, k, r, h => ⟨s, rfl, h⟩
 | i :: q, new, s, k, r, h => by
  simp only [JlV] at h
  obtain ⟨e, s1, h1, h2, h⟩ := JkO hG h
  obtain ⟨s2, h3, h4⟩ := Jkh hG h
  refine ⟨s2, ?_, h4⟩
  simp only [List.map_cons, J1F, h1]
  rw [show put (eri i).dst e (Jf s) = Jf s1 from h2, show J3j (eri i).op = J0s i.op from J9O _, h3]
def Jen : List J6e → Nat
 | [] => 0
 | i :: r => J0s i.op + Jen r
theorem JdJ : ∀ ins : List J6e, news (ins.map eri) = Jen ins
 | [] => rfl
 | i :: r => by
  simp only [List.map_cons, news, Jen, JdJ r]
  rw [show J3j (eri i).op = J0s i.op from J9O _]
def Jhf (n : Nat) (s : TSt) : TSt := if n = 0 then s else ⟨s.env, s.sto ++ List.replicate n .dead⟩
theorem Jir (sto : List TB) (n : Nat) : lns (sto ++ List.replicate n .dead) = lns sto := by
 funext c
 unfold lns
 rcases Nat.lt_or_ge c sto.length with h | h
 ·rw [List.getElem?_append_left h]
 ·rw [List.getElem?_append_right h, List.getElem?_eq_none h, List.getElem?_replicate]
  split <;> rfl
theorem JhJ (n : Nat) (s : TSt) : Jf (Jhf n s) = ⟨(Jf s).env, room n (Jf s).sto⟩ := by
 unfold Jhf room
 split
 ·rfl
 ·unfold Jf
  rw [Jir]
  simp only [List.map_append, List.map_replicate]
  rfl
end
end Go.Am
end
section
namespace Go.Am
def Rb {α : Type} (S : Nat → Prop) (m : RM α) (st : St) : Prop := ∀ b, Loc.blk b ∈ m.reads st → S b
section
variable {α β : Type} {S : Nat → Prop} {st : St}
theorem JB (a : α) : Rb S (.ret a) st := fun b h => by simp [RM.reads] at h
theorem Jq : Rb S (.fail : RM α) st := fun b h => by simp [RM.reads] at h
theorem Jv {m : RM α} {f : α → RM β} (h : Rb S m st) (hf : ∀ a, m.run st = some a → Rb S (f a) st) : Rb S (m.bind f) st := by
 intro b hb
 rw [J3I] at hb
 rcases List.mem_append.1 hb with hb | hb
 ·exact h b hb
 ·cases hm : m.run st with
  | none => rw [hm] at hb; simp at hb
  | some a => rw [hm] at hb; exact hf a hm b (by simpa using hb)
theorem J59 {b : Nat} {k : Blk → RM α} (hb : S b) (h : ∀ v, st.sto[b]? = some v → Rb S (k v) st) : Rb S (.blk b k) st := by
 intro c hc
 simp only [RM.reads, List.mem_cons] at hc
 rcases hc with hc | hc
 ·injection hc with hc; subst hc; exact hb
 ·cases hv : st.sto[b]? with
  | none => rw [hv] at hc; simp at hc
  | some v => rw [hv] at hc; exact h v hv c hc
theorem Jl2 {n : Nat} {k : AV → RM α} (h : ∀ v, lk n st.env = some v → Rb S (k v) st) : Rb S (.slot n k) st := by
 intro c hc
 simp only [RM.reads, List.mem_cons] at hc
 rcases hc with hc | hc
 ·cases hc
 ·cases hv : lk n st.env with
  | none => rw [hv] at hc; simp at hc
  | some v => rw [hv] at hc; exact h v hv c hc
theorem JeK (x : Option AV) : Rb S (val x) st := by cases x <;> first | exact Jq | exact JB _
theorem J4k (x : Opd) : Rb S (ev x) st := by cases x <;> first | exact JB _ | exact Jl2 fun v _ => JB v
theorem Jj2 : ∀ xs : List Opd, Rb S (evs xs) st
 | [] => JB _
 | x :: r => Jv (J4k x) fun v _ => Jv (Jj2 r) fun vs _ => JB _
theorem JiV (x : Option Opd) : Rb S (evo x) st := by
 cases x with
 | none => exact JB _
 | some x => exact Jv (J4k x) fun v _ => JB _
end
def J3n : AV → List Nat
 | .ptr b _ => [b]
 | .slr b _ _ => [b]
 | .ep b _ _ _ => [b]
 | _ => []
def avR : AV → List Nat
 | .agg cs => cs.flatMap J3n
 | x => J3n x
section
variable {S : Nat → Prop} {st : St}
theorem Js6 {x : AV} (h : ∀ b ∈ J3n x, S b) : Rb S (fz.fz1 x) st := by
 cases x with
 | slr b i n =>
  refine J59 (h b (by simp [J3n])) fun v _ => ?_
  cases v with
  | arr w esz rows => dsimp only; split <;> first | exact JB _ | exact Jq
  | _ => exact Jq
 | p c => exact JB _
 | _ => exact Jq
theorem JmW : ∀ {xs : List AV}, (∀ b ∈ xs.flatMap J3n, S b) → Rb S (fz.fzL xs) st
 | [], _ => JB _
 | x :: r, h => Jv (Js6 fun b hb => h b (by simp [hb])) fun a _ => Jv (JmW fun b hb => h b (by simp only [List.flatMap_cons, List.mem_append]; exact .inr hb)) fun c _ => JB _
theorem JeM {x : AV} (h : ∀ b ∈ avR x, S b) : Rb S (fz x) st := by
 cases x with
 | slr b i n =>
  refine J59 (h b (by simp [avR, J3n])) fun v _ => ?_
  cases v with
  | arr w esz rows => dsimp only; split <;> first | exact JB _ | exact Jq
  | _ => exact Jq
 | p c => exact JB _
 | data cs => exact JB _
 | agg cs => exact JmW h
 | _ => exact Jq
theorem JrX {x : AV} {a : List PV × List (Nat × Blk)} (h : (fz.fz1 x).run st = some a) : ∀ y ∈ a.2, y.1 ∈ J3n x := by
 cases x with
 | slr b i n =>
  simp only [fz.fz1, J0r] at h
  obtain ⟨v, _, h⟩ := Option.bind_eq_some_iff.1 h
  cases v with
  | arr w esz rows =>
   dsimp only at h
   split at h
   ·injection h with h; subst h; simp [J3n]
   ·cases h
  | _ => cases h
 | p c => injection h with h; subst h; simp
 | _ => cases h
theorem JnH : ∀ {xs : List AV} {a : List PV × List (Nat × Blk)}, (fz.fzL xs).run st = some a → ∀ y ∈ a.2, y.1 ∈ xs.flatMap J3n
 | [], a, h, y, hy => by injection h with h; subst h; simp at hy
 | x :: r, a, h, y, hy => by
  simp only [fz.fzL] at h
  obtain ⟨c, h1, h⟩ := bind_some h
  obtain ⟨e, h2, h⟩ := bind_some h
  injection h with h; subst h
  simp only [List.mem_append] at hy
  simp only [List.flatMap_cons, List.mem_append]
  rcases hy with hy | hy
  ·exact .inl (JrX h1 y hy)
  ·exact .inr (JnH h2 y hy)
theorem Jed {x : AV} {a : List PV × List (Nat × Blk)} (h : (fz x).run st = some a) : ∀ y ∈ a.2, y.1 ∈ avR x := by
 cases x with
 | slr b i n =>
  simp only [fz, J0r] at h
  obtain ⟨v, _, h⟩ := Option.bind_eq_some_iff.1 h
  cases v with
  | arr w esz rows =>
   dsimp only at h
   split at h
   ·injection h with h; subst h; simp [avR, J3n]
   ·cases h
  | _ => cases h
 | p c => injection h with h; subst h; simp
 | data cs => injection h with h; subst h; simp
 | agg cs => exact JnH h
 | _ => cases h
theorem Jfx {esz : Nat} {x : AV} (h : ∀ b ∈ avR x, S b) : Rb S (J1g esz x) st := by
 unfold J1g
 split
 ·split <;> first | exact JB _ | exact Jq
 ·split <;> first | exact JB _ | exact Jq
 ·refine J59 (h _ (by simp [avR, J3n])) fun v _ => ?_
  split
  ·split <;> first | exact JB _ | exact Jq
  ·exact Jq
 ·exact Jq
theorem Jra {agg : Bool} {size : Nat} {x : AV} (h : ∀ b ∈ avR x, S b) : Rb S (J2D agg size x) st := by
 unfold J2D
 split
 ·split <;> first | exact JeK _ | exact Jq
 ·refine J59 (h _ (by simp [avR, J3n])) fun v _ => ?_
  split
  ·split <;> first | exact JeK _ | exact Jq
  ·exact Jq
 ·refine J59 (h _ (by simp [avR, J3n])) fun v _ => ?_
  split
  ·split
   ·split
    ·split <;> first | exact JeK _ | exact Jq
    ·exact Jq
   ·exact Jq
  ·exact Jq
 ·exact Jq
theorem Jeq {x : Option AV} {e : Eff} (h : (val x).run st = some e) : e.ws = [] := by
 cases x with
 | none => cases h
 | some v => injection h with h; subst h; rfl
theorem Jq6 {agg : Bool} {size : Nat} {x : AV} {e : Eff} (h : (J2D agg size x).run st = some e) : e.ws = [] := by
 unfold J2D at h
 split at h
 ·split at h <;> first | exact Jeq h | cases h
 ·simp only [J0r] at h
  obtain ⟨v, _, h⟩ := Option.bind_eq_some_iff.1 h
  split at h
  ·split at h <;> first | exact Jeq h | cases h
  ·cases h
 ·simp only [J0r] at h
  obtain ⟨v, _, h⟩ := Option.bind_eq_some_iff.1 h
  split at h
  ·split at h
   ·split at h
    ·split at h <;> first | exact Jeq h | cases h
    ·cases h
   ·cases h
  ·cases h
 ·cases h
theorem JnW {size : Nat} {x v : AV} (h : ∀ b ∈ avR x, S b) (hv : ∀ b ∈ avR v, S b) : Rb S (J2k size x v) st := by
 unfold J2k
 split
 ·refine J59 (h _ (by simp [avR, J3n])) fun y _ => ?_
  split
  ·split
   ·split
    ·split <;> first | exact JB _ | exact Jq
    ·exact Jq
   ·exact Jq
  ·exact Jq
 ·refine J59 (h _ (by simp [avR, J3n])) fun y _ => ?_
  split
  ·split
   ·split
    ·refine Jv (JeM hv) fun a _ => ?_
     split
     ·split <;> first | exact JB _ | exact Jq
     ·exact Jq
    ·exact Jq
   ·exact Jq
  ·exact Jq
 ·exact Jq
theorem Jpg {size : Nat} {x v : AV} {e : Eff} (h : (J2k size x v).run st = some e) : ∀ y ∈ e.ws, y.1 ∈ avR x ++ avR v := by
 unfold J2k at h
 split at h
 ·simp only [J0r] at h
  obtain ⟨w, _, h⟩ := Option.bind_eq_some_iff.1 h
  split at h
  ·split at h
   ·split at h
    ·split at h
     ·injection h with h; subst h; simp [avR, J3n]
     ·cases h
    ·cases h
   ·cases h
  ·cases h
 ·simp only [J0r] at h
  obtain ⟨w, _, h⟩ := Option.bind_eq_some_iff.1 h
  split at h
  ·split at h
   ·split at h
    ·obtain ⟨a, h1, h⟩ := bind_some h
     split at h
     ·split at h
      ·injection h with h; subst h
       intro y hy
       simp only [List.mem_append, List.mem_singleton] at hy ⊢
       rcases hy with hy | rfl
       ·exact .inr (Jed h1 y hy)
       ·exact .inl (by simp [avR, J3n])
      ·cases h
     ·cases h
    ·cases h
   ·cases h
  ·cases h
 ·cases h
theorem Jo3 {esz : Nat} {x i : AV} (h : ∀ b ∈ avR x, S b) : Rb S (J3Z esz x i) st := by
 unfold J3Z
 split
 ·split
  ·split <;> first | exact JB _ | exact Jq
  ·exact Jq
 ·refine J59 (h _ (by simp [avR, J3n])) fun v _ => ?_
  split
  ·split <;> first | exact JB _ | exact Jq
  ·exact Jq
 ·exact Jq
theorem JpF {esz : Nat} {x i : AV} {e : Eff} (h : (J3Z esz x i).run st = some e) : e.ws = [] := by
 unfold J3Z at h
 split at h
 ·split at h
  ·split at h
   ·injection h with h; subst h; rfl
   ·cases h
  ·cases h
 ·simp only [J0r] at h
  obtain ⟨v, _, h⟩ := Option.bind_eq_some_iff.1 h
  split at h
  ·split at h
   ·injection h with h; subst h; rfl
   ·cases h
  ·cases h
 ·cases h
theorem JrU {esz bytes : Nat} {x y : AV} (h : ∀ b ∈ avR x, S b) (hy : ∀ b ∈ avR y, S b) : Rb S (J4P esz bytes x y) st := by
 unfold J4P
 split
 ·refine J59 (h _ (by simp [avR, J3n])) fun v _ => ?_
  split
  ·refine Jv (Jfx hy) fun new _ => ?_
   split <;> first | exact JB _ | exact Jq
  ·exact Jq
 ·exact Jq
theorem Js8 {esz bytes : Nat} {x y : AV} {e : Eff} (h : (J4P esz bytes x y).run st = some e) : ∀ z ∈ e.ws, z.1 ∈ avR x := by
 unfold J4P at h
 split at h
 ·simp only [J0r] at h
  obtain ⟨v, _, h⟩ := Option.bind_eq_some_iff.1 h
  split at h
  ·obtain ⟨new, _, h⟩ := bind_some h
   split at h
   ·injection h with h; subst h; simp [avR, J3n]
   ·cases h
  ·cases h
 ·cases h
theorem JkK : ∀ {k new : Nat}, (∀ j, j < k → S (new + j)) → Rb S (J7U new k) st
 | 0, _, _ => JB _
 | k + 1, new, h => J59 (h 0 (by omega)) fun v _ => by
   cases v with
   | dead => exact JkK fun j hj => by have := h (j + 1) (by omega); rwa [Nat.add_comm j 1, ← Nat.add_assoc] at this
   | _ => exact Jq
theorem JmU : ∀ {xs : List Opd}, (∀ x ∈ xs, ∀ v, (ev x).run st = some v → ∀ b ∈ avR v, S b) → Rb S (fzs xs) st
 | [], _ => JB _
 | x :: r, h => Jv (J4k x) fun v hv => Jv (JeM (h x (by simp) v hv)) fun a _ => Jv (JmU fun y hy => h y (by simp [hy])) fun c _ => JB _
theorem JhD : ∀ {xs : List Opd} {a : List (List PV) × List (Nat × Blk)}, (∀ x ∈ xs, ∀ v, (ev x).run st = some v → ∀ b ∈ avR v, S b) → (fzs xs).run st = some a → ∀ y ∈ a.2, S y.1
 | [], a, _, h, y, hy => by injection h with h; subst h; simp at hy
 | x :: r, a, hS, h, y, hy => by
  simp only [fzs] at h
  obtain ⟨v, h0, h⟩ := bind_some h
  obtain ⟨c, h1, h⟩ := bind_some h
  obtain ⟨e, h2, h⟩ := bind_some h
  injection h with h; subst h
  simp only [List.mem_append] at hy
  rcases hy with hy | hy
  ·exact hS x (by simp) v h0 _ (Jed h1 y hy)
  ·exact JhD (fun z hz => hS z (by simp [hz])) h2 y hy
theorem Jl6 {x : AV} (h : ∀ b ∈ avR x, S b) : Rb S (J5J x) st := by
 cases x with
 | slr b i n =>
  refine Jv (JeM h) fun a _ => ?_
  split <;> first | exact JB _ | exact Jq
 | agg cs => exact Jv (JeM h) fun a _ => JB _
 | tup cs => exact Jq
 | _ => exact JB _
theorem Jko {x : AV} {a : AV × List (Nat × Blk)} (h : (J5J x).run st = some a) : ∀ y ∈ a.2, y.1 ∈ avR x := by
 cases x with
 | slr b i n =>
  simp only [J5J] at h
  obtain ⟨c, h1, h⟩ := bind_some h
  split at h
  ·injection h with h; subst h; exact Jed h1
  ·cases h
 | agg cs =>
  simp only [J5J] at h
  obtain ⟨c, h1, h⟩ := bind_some h
  injection h with h; subst h; exact Jed h1
 | tup cs => cases h
 | _ => injection h with h; subst h; simp
theorem J8C : ∀ {m : List Bool} {xs : List AV}, (∀ x ∈ xs, ∀ b ∈ avR x, S b) → Rb S (J1W m xs) st
 | _, [], _ => by unfold J1W; exact JB _
 | [], x :: r, h => Jv (Jl6 (h x (by simp))) fun a _ => Jv (J8C fun y hy => h y (by simp [hy])) fun c _ => JB _
 | true :: m, x :: r, h => Jv (J8C fun y hy => h y (by simp [hy])) fun c _ => JB _
 | false :: m, x :: r, h => Jv (Jl6 (h x (by simp))) fun a _ => Jv (J8C fun y hy => h y (by simp [hy])) fun c _ => JB _
theorem J8M : ∀ {m : List Bool} {xs : List AV} {a : List AV × List (Nat × Blk)}, (∀ x ∈ xs, ∀ b ∈ avR x, S b) → (J1W m xs).run st = some a → ∀ y ∈ a.2, S y.1
 | m, [], a, _, h, y, hy => by unfold J1W at h; injection h with h; subst h; simp at hy
 | [], x :: r, a, hS, h, y, hy => by
  simp only [J1W] at h
  obtain ⟨c, h1, h⟩ := bind_some h
  obtain ⟨e, h2, h⟩ := bind_some h
  injection h with h; subst h
  simp only [List.mem_append] at hy
  rcases hy with hy | hy
  ·exact hS x (by simp) _ (Jko h1 y hy)
  ·exact J8M (fun z hz => hS z (by simp [hz])) h2 y hy
 | true :: m, x :: r, a, hS, h, y, hy => by
  simp only [J1W] at h
  obtain ⟨e, h2, h⟩ := bind_some h
  injection h with h; subst h
  exact J8M (fun z hz => hS z (by simp [hz])) h2 y hy
 | false :: m, x :: r, a, hS, h, y, hy => by
  simp only [J1W] at h
  obtain ⟨c, h1, h⟩ := bind_some h
  obtain ⟨e, h2, h⟩ := bind_some h
  injection h with h; subst h
  simp only [List.mem_append] at hy
  rcases hy with hy | hy
  ·exact hS x (by simp) _ (Jko h1 y hy)
  ·exact J8M (fun z hz => hS z (by simp [hz])) h2 y hy
theorem Jl8 {ws : List (Nat × Blk)} {b : Nat} (h : S b) : Rb S (J9w ws b) st := J59 h fun v _ => by split <;> exact JB _
theorem Jfe {ws : List (Nat × Blk)} : ∀ {r : List Nat} {acc : List Ent}, (∀ b ∈ r, S b) → Rb S (J2m ws (r.map .whole) acc) st
 | [], acc, _ => JB _
 | b :: r, acc, h => by
  simp only [List.map_cons, J2m]
  refine Jv (Jl8 (h b (by simp))) fun x _ => ?_
  cases x <;> exact Jfe fun c hc => h c (by simp [hc])
theorem Jgp {ws : List (Nat × Blk)} {ρ : Ent → Option Nat} : ∀ {r : List Nat}, (∀ b ∈ r, S b) → Rb S (J37 ws ρ (r.map .whole)) st
 | [], _ => JB _
 | b :: r, h => by
  simp only [List.map_cons, J37, JaG]
  refine Jv (Jv (Jl8 (h b (by simp))) fun x _ => ?_) fun x _ => Jv (Jgp fun c hc => h c (by simp [hc])) fun l _ => JB _
  cases x with
  | box cs => dsimp only; split <;> first | exact JB _ | exact Jq
  | arr w e rows => exact JB _
  | dead => exact Jq
theorem Je4 {ws : List (Nat × Blk)} {es : List Ent} {new : Nat} : ∀ {r : List Nat} {l : List Blk}, Rb S (J1R ws es new (r.map .whole) l) st
 | [], l => by cases l <;> exact JB _
 | b :: r, [] => Jq
 | b :: r, x :: l => by
  simp only [List.map_cons, J1R]
  refine Jv ?_ fun y _ => Jv Je4 fun ys _ => JB _
  cases x with
  | box cs => simp only [J4Q]; split <;> first | exact JB _ | exact Jq
  | arr w e rows => exact JB _
  | dead => exact Jq
theorem Jey {ws : List (Nat × Blk)} {es : List Ent} {new : Nat} : ∀ {r : List Nat} {l : List Blk} {ys : List (Nat × Blk)}, (J1R ws es new (r.map .whole) l).run st = some ys → ∀ y ∈ ys, y.1 ∈ r
 | [], l, ys, h, y, hy => by
  have : ys = [] := by cases l <;> (injection h with h; exact h.symm)
  subst this; simp at hy
 | b :: r, [], ys, h, _, _ => by cases h
 | b :: r, x :: l, ys, h, y, hy => by
  simp only [List.map_cons, J1R] at h
  obtain ⟨z, h1, h⟩ := bind_some h
  obtain ⟨zs, h2, h⟩ := bind_some h
  injection h with h; subst h
  rcases List.mem_cons.1 hy with rfl | hy
  ·cases x with
   | box cs =>
    simp only [J4Q] at h1
    split at h1
    ·injection h1 with h1; subst h1; simp
    ·cases h1
   | arr w e rows => injection h1 with h1; subst h1; simp
   | dead => cases h1
  ·exact List.mem_cons_of_mem _ (Jey h2 y hy)
theorem Jaa {es : List Ent} {new : Nat} : ∀ {l : List Blk} {k : Nat} {ys : List (Nat × Blk)}, J1u es new k l = some ys → ∀ y ∈ ys, ∃ j, j < l.length ∧ y.1 = k + j
 | [], k, ys, h, y, hy => by injection h with h; subst h; simp at hy
 | .dead :: l, k, ys, h, _, _ => by cases h
 | .box cs :: l, k, ys, h, y, hy => by
  simp only [J1u] at h
  split at h
  ·rename_i c zs _ hz
   injection h with h; subst h
   rcases List.mem_cons.1 hy with rfl | hy
   ·exact ⟨0, by simp, rfl⟩
   ·obtain ⟨j, hj, e⟩ := Jaa hz y hy
    exact ⟨j + 1, by simp; omega, by omega⟩
  ·cases h
 | .arr w e rows :: l, k, ys, h, y, hy => by
  simp only [J1u] at h
  split at h
  ·rename_i zs hz
   injection h with h; subst h
   rcases List.mem_cons.1 hy with rfl | hy
   ·exact ⟨0, by simp, rfl⟩
   ·obtain ⟨j, hj, e⟩ := Jaa hz y hy
    exact ⟨j + 1, by simp; omega, by omega⟩
  ·cases h
theorem Jdj (e x : Ent) (l : List Ent) (h : e ∈ l) : e ∈ J7E x l := by unfold J7E; split <;> simp [h]
mutual
theorem Jpj : ∀ (x : AV) (l : List Ent) (e : Ent), e ∈ l → e ∈ JV x l
 | .ptr b off, l, e, h => Jdj e _ l h
 | .slr b i n, l, e, h => Jdj e _ l h
 | .ep b ex i off, l, e, h => Jdj e _ l h
 | .fn f a c, l, e, h => entsL_sub c _ e (entsL_sub a l e h)
 | .agg cs, l, e, h => entsL_sub cs l e h
 | .tup cs, l, e, h => entsL_sub cs l e h
 | .p _, l, e, h => h
 | .data _, l, e, h => h
 | .cp _ _, l, e, h => h
 | .unk, l, e, h => h
theorem entsL_sub : ∀ (xs : List AV) (l : List Ent) (e : Ent), e ∈ l → e ∈ JV.entsOfL xs l
 | [], l, e, h => h
 | x :: r, l, e, h => entsL_sub r _ e (Jpj x l e h)
end
theorem Jj1 {ws : List (Nat × Blk)} : ∀ {r acc l : List Ent}, (J2m ws r acc).run st = some l → ∀ e ∈ acc, e ∈ l := by
 intro r
 induction r with
 | nil => intro acc l h e he; injection h with h; subst h; exact he
 | cons x r ih =>
  intro acc l h e he
  cases x with
  | whole b =>
   simp only [J2m] at h
   obtain ⟨y, _, h⟩ := bind_some h
   cases y with
   | box cs => exact ih h e (entsL_sub cs acc e he)
   | _ => exact ih h e he
  | elem b ex i => exact ih h e he
theorem Jgb {F : Orc} {f : FuncId} {xs : List AV} {ws : List (Nat × Blk)} {e0 es1 ids : List Nat} {n new : Nat} (hS : ∀ b ∈ ids, S b) (hw : ∀ y ∈ ws, S y.1) (hn : ∀ j, j < n → S (new + j))
  (h0 : JV.entsOfL xs [] = e0.map .whole) (h1 : (J2m ws (e0.map .whole) (e0.map .whole)).run st = some (es1.map .whole)) (h2 : (J2m ws (es1.map .whole) (es1.map .whole)).run st = some (ids.map .whole)) :
  Rb S (J1w F f (xs, ws) n new) st ∧ (∀ e, (J1w F f (xs, ws) n new).run st = some e → ∀ y ∈ e.ws, S y.1) := by
 have s1 : ∀ b ∈ es1, S b := fun b hb => by
  have := Jj1 h2 (.whole b) (List.mem_map.2 ⟨b, hb, rfl⟩)
  obtain ⟨c, hc, e⟩ := List.mem_map.1 this
  injection e with e; subst e; exact hS c hc
 have s0 : ∀ b ∈ e0, S b := fun b hb => by
  have := Jj1 h1 (.whole b) (List.mem_map.2 ⟨b, hb, rfl⟩)
  obtain ⟨c, hc, e⟩ := List.mem_map.1 this
  injection e with e; subst e; exact s1 c hc
 constructor
 ·unfold J1w
  simp only [h0]
  refine Jv (Jfe s0) fun a ha => ?_
  rw [h1] at ha; injection ha with ha; subst ha
  refine Jv (Jfe s1) fun a ha => ?_
  rw [h2] at ha; injection ha with ha; subst ha
  split
  ·split
   ·exact Jq
   ·refine Jv (Jgp hS) fun bl _ => ?_
    split
    ·exact Jq
    ·split
     ·split
      ·exact Jv Je4 fun _ _ => JB _
      ·exact Jq
     ·exact Jq
  ·exact Jq
 ·intro e h y hy
  unfold J1w at h
  simp only [h0] at h
  obtain ⟨a, ha, h⟩ := bind_some h
  rw [h1] at ha; injection ha with ha; subst ha
  obtain ⟨a, ha, h⟩ := bind_some h
  rw [h2] at ha; injection ha with ha; subst ha
  split at h
  ·split at h
   ·cases h
   ·obtain ⟨bl, _, h⟩ := bind_some h
    split at h
    ·cases h
    ·split at h
     ·rename_i hlen
      split at h
      ·rename_i v fresh _ hf
       obtain ⟨back, hb, h⟩ := bind_some h
       injection h with h; subst h
       simp only [List.mem_append] at hy
       rcases hy with (hy | hy) | hy
       ·exact hw y hy
       ·exact hS _ (Jey hb y hy)
       ·obtain ⟨j, hj, e⟩ := Jaa hf y hy
        rw [e]
        exact hn j (by simp only [List.length_drop, List.length_map] at hj hlen; omega)
      ·cases h
     ·cases h
  ·cases h
end
def tcR : TC → List Nat
 | .ptr b _ => [b]
 | .slr b => [b]
 | .slo b _ => [b]
 | .ep b _ _ => [b]
 | .epo b _ _ _ => [b]
 | _ => []
def tvR : TV → List Nat
 | .a (.c x) => tcR x
 | .a (.m _ cs) => cs.flatMap tcR
 | _ => []
theorem Jrz (L : Nat → Nat) (x : TC) : J3n (Jt L x) = tcR x := by cases x <;> rfl
theorem J2P (L : Nat → Nat) (v : TV) : avR (Js L v) = tvR v := by
 cases v with
 | a x =>
  cases x with
  | c x => cases x <;> rfl
  | dt t x => rfl
  | m t cs =>
   show (cs.map (Jt L)).flatMap J3n = cs.flatMap tcR
   rw [List.flatMap_map]
   congr 1
   funext x; exact Jrz L x
  | fn f a c => rfl
 | tup vs => rfl
def rng (new : Nat) : Nat → List Nat
 | 0 => []
 | k + 1 => new :: rng (new + 1) k
theorem J4x : ∀ {k new j : Nat}, j < k → new + j ∈ rng new k
 | 0, _, _, h => by omega
 | k + 1, new, j, h => by
  cases j with
  | zero => simp [rng]
  | succ j =>
   simp only [rng, List.mem_cons]
   right
   rw [show new + (j + 1) = new + 1 + j by omega]
   exact J4x (by omega)
def J4C {α β : Type} (m : Option α) (f : α → Option β) : Option β := match m with
 | some x => f x
 | none => none
theorem J0J {α β : Type} {m : Option α} {f : α → Option β} {b : β} (h : J4C m f = some b) : ∃ a, m = some a ∧ f a = some b := by
 cases m with
 | none => cases h
 | some a => exact ⟨a, rfl, h⟩
def Jpl (l : List (TV × Bool)) (s : TSt) : Option (List Nat) :=
 JdO l s fun xs s1 => J4C (J9F xs []) fun i0 => J4C (J94 s1 i0 i0) fun i1 => J94 s1 i1 i1
def tcU (l : List (TV × Bool)) (n new : Nat) (s : TSt) : Option (List Nat × List Nat) :=
 J4C (Jpl l s) fun ids => some (rng new n ++ (l.flatMap fun x => tvR x.1) ++ ids, rng new n ++ (l.flatMap fun x => tvR x.1) ++ ids)
def tpR (s : TSt) : List (Nat × TO) → Option (List Nat)
 | [] => some []
 | (_, o) :: r => J4C (tev o s) fun v => J4C (tpR s r) fun l => some (tvR v ++ l)
def uw (op : TOp) (new : Nat) (s : TSt) : Option (List Nat × List Nat) :=
 match op with
 | .load _ _ x => J4C (tev x s) fun v => some (tvR v, [])
 | .newbox _ => some ([new], [new])
 | .store _ x y => J4C (tev x s) fun v => J4C (tev y s) fun u => some (tvR v ++ tvR u, tvR v ++ tvR u)
 | .iaddr _ x _ => J4C (tev x s) fun v => some (tvR v, [])
 | .lits own t n ps => J4C (tpR s ps) fun l => some (rng new (J0s (.lits own t n ps)) ++ l, rng new (J0s (.lits own t n ps)) ++ l)
 | .appn _ _ y => J4C (tev y s) fun v => some (new :: tvR v, [new])
 | .app _ _ x y => J4C (tev x s) fun v => J4C (tev y s) fun u => some (tvR v ++ tvR u, tvR v)
 | .slice _ x _ _ _ => J4C (tev x s) fun v => some (tvR v, tvR v)
 | .call _ args n => J4C (JbL (args.map fun x => (x, false)) s) fun l => tcU l n new s
 | .callo _ args n => J4C (JbL args s) fun l => tcU l n new s
 | .mkslice own t bytes l c => some (rng new (J0s (.mkslice own t bytes l c)), rng new (J0s (.mkslice own t bytes l c)))
 | .conv k x => J4C (tev x s) fun v => some (rng new (J0s (.conv k x)) ++ tvR v, rng new (J0s (.conv k x)))
 | _ => none
theorem J4t {F : Orc} {op : TOp} {new : Nat} {st : St} {S : Nat → Prop} (hd : ∀ j, j < J0s op → S (new + j)) (h : Rb S (opR F (erp op) new) st) : Rb S (opD F (erp op) new) st := by
 unfold opD
 rw [J9O]
 exact Jv (JkK hd) fun _ _ => h
theorem J3r {F : Orc} {op : AOp} {new : Nat} {st : St} {e : Eff} (h : (opD F op new).run st = some e) : (opR F op new).run st = some e := by
 unfold opD at h
 obtain ⟨_, _, h⟩ := bind_some h
 exact h
def UW (F : Orc) (op : AOp) (new : Nat) (st : St) (U W : List Nat) : Prop :=
 Rb (· ∈ U) (opD F op new) st ∧ ∀ e, (opD F op new).run st = some e → ∀ y ∈ e.ws, y.1 ∈ W
theorem J3y {x : TO} {s : TSt} {v : TV} (h : tev x s = some v) {a : AV} (ha : (ev (erO x)).run (Jf s) = some a) : a = Js (lns s.sto) v := by
 rw [Jx h] at ha; injection ha with ha; exact ha.symm
theorem Jkj {l : List (TV × Bool)} {s : TSt} {ids : List Nat} (h : Jpl l s = some ids) : ∃ (xs : List AV) (ws : List (Nat × Blk)) (i0 i1 : List Nat), (J1W (l.map (·.2)) (l.map fun x => Js (lns s.sto) x.1)).run (Jf s) = some (xs, ws) ∧
  JV.entsOfL xs [] = i0.map .whole ∧ (J2m ws (i0.map .whole) (i0.map .whole)).run (Jf s) = some (i1.map .whole) ∧ (J2m ws (i1.map .whole) (i1.map .whole)).run (Jf s) = some (ids.map .whole) := by
 unfold Jpl at h
 obtain ⟨xs, s1, ws, h1, f1, h⟩ := Jde (Fzd.refl s) h
 rw [List.nil_append] at f1
 obtain ⟨i0, h2, h⟩ := J0J h
 obtain ⟨i1, h3, h4⟩ := J0J h
 exact ⟨_, ws, i0, i1, h1, J9d (lns s.sto) (l := []) h2, J65 f1 h3, J65 f1 h4⟩
theorem Jo0 {F : Orc} {f : FuncId} {vs : List AV} {n new : Nat} {st : St} {S : Nat → Prop} {a : List AV × List (Nat × Blk)} (ha : (J4n vs).run st = some a) (hr : Rb S (J4n vs) st)
  (h : ∀ (_ : Unit), Rb S (J1w F f a n new) st) : Rb S (J3i F f vs n new) st := by
 unfold J3i
 refine Jv hr fun a' ha' => ?_
 rw [ha] at ha'; injection ha' with ha'; subst ha'
 have h := h ()
 unfold J1w at h
 intro b hb
 refine h b ?_
 revert hb
 simp only [J3I]
 intro hb
 rcases List.mem_append.1 hb with hb | hb
 ·exact List.mem_append.2 (.inl hb)
 ·refine List.mem_append.2 (.inr ?_)
  revert hb
  cases (J2m a.2 (JV.entsOfL a.1 []) (JV.entsOfL a.1 [])).run st with
  | none => intro hb; exact hb
  | some es1 =>
   simp only [Option.map_some, Option.getD_some, J3I]
   intro hb
   rcases List.mem_append.1 hb with hb | hb
   ·exact List.mem_append.2 (.inl hb)
   ·refine List.mem_append.2 (.inr ?_)
    revert hb
    cases (J2m a.2 es1 es1).run st with
    | none => intro hb; exact hb
    | some es =>
     simp only [Option.map_some, Option.getD_some]
     split
     ·split
      ·intro hb; exact hb
      ·simp only [J3I]
       intro hb
       rcases List.mem_append.1 hb with hb | hb
       ·exact List.mem_append.2 (.inl hb)
       ·refine List.mem_append.2 (.inr ?_)
        revert hb
        cases (J37 a.2 (fun e => J0M e es 0) es).run st with
        | none => intro hb; exact hb
        | some bl =>
         simp only [Option.map_some, Option.getD_some]
         split
         ·intro hb; exact hb
         ·split
          ·rename_i hlen
           rw [if_pos (by omega)]
           intro hb; exact hb
          ·intro hb; simp [RM.reads] at hb
     ·intro hb; exact hb
theorem JsE (F : Orc) {op : TOp} {new : Nat} {s : TSt} {U W : List Nat} (h : uw op new s = some (U, W)) : UW F (erp op) new (Jf s) U W := by
 unfold uw at h
 split at h
 ·rename_i agg t x
  obtain ⟨v, hv, h⟩ := J0J h
  injection h with h; injection h with h1 h2; subst h1 h2
  refine ⟨J4t (op := .load agg t x) (fun j hj => by simp [J0s] at hj) (Jv (J4k _) fun a ha => ?_), fun e he y hy => ?_⟩
  ·rw [J3y hv ha]; exact Jra fun b hb => by rw [J2P] at hb; exact hb
  ·have he := J3r he
   simp only [erp, opR] at he
   obtain ⟨a, ha, he⟩ := bind_some he
   rw [Jq6 he] at hy; simp at hy
 ·rename_i t
  injection h with h; injection h with h1 h2; subst h1 h2
  refine ⟨J4t (op := .newbox t) (fun j hj => by simp [J0s] at hj; subst hj; simp) (JB _), fun e he y hy => ?_⟩
  have he := J3r he
  injection he with he; subst he
  simp only [List.mem_singleton] at hy
  subst hy; simp
 ·rename_i t x y
  obtain ⟨v, hv, h⟩ := J0J h
  obtain ⟨u, hu, h⟩ := J0J h
  injection h with h; injection h with h1 h2; subst h1 h2
  refine ⟨J4t (op := .store t x y) (fun j hj => by simp [J0s] at hj) (Jv (J4k _) fun a ha => Jv (J4k _) fun c hc => ?_), fun e he z hz => ?_⟩
  ·rw [J3y hv ha, J3y hu hc]
   exact JnW (fun b hb => by rw [J2P] at hb; simp [hb]) (fun b hb => by rw [J2P] at hb; simp [hb])
  ·have he := J3r he
   simp only [erp, opR] at he
   obtain ⟨a, ha, he⟩ := bind_some he
   obtain ⟨c, hc, he⟩ := bind_some he
   have := Jpg he z hz
   rwa [J3y hv ha, J3y hu hc, J2P, J2P] at this
 ·rename_i t x i
  obtain ⟨v, hv, h⟩ := J0J h
  injection h with h; injection h with h1 h2; subst h1 h2
  refine ⟨J4t (op := .iaddr t x i) (fun j hj => by simp [J0s] at hj) (Jv (J4k _) fun a ha => Jv (J4k _) fun c hc => ?_), fun e he y hy => ?_⟩
  ·rw [J3y hv ha]; exact Jo3 fun b hb => by rw [J2P] at hb; exact hb
  ·have he := J3r he
   simp only [erp, opR] at he
   obtain ⟨a, ha, he⟩ := bind_some he
   obtain ⟨c, hc, he⟩ := bind_some he
   rw [JpF he] at hy; simp at hy
 ·rename_i own t n ps
  obtain ⟨l, hl, h⟩ := J0J h
  injection h with h; injection h with h1 h2; subst h1 h2
  have hS : ∀ x ∈ ps.map (fun x => erO x.2), ∀ v, (ev x).run (Jf s) = some v → ∀ b ∈ avR v, b ∈ rng new (J0s (.lits own t n ps)) ++ l := by
   have key : ∀ (ps : List (Nat × TO)) (l : List Nat), tpR s ps = some l → ∀ x ∈ ps.map (fun x => erO x.2), ∀ v, (ev x).run (Jf s) = some v → ∀ b ∈ avR v, b ∈ l := by
    intro ps
    induction ps with
    | nil => intro l _ x hx; simp at hx
    | cons p ps ih =>
     intro l hl x hx v hv b hb
     obtain ⟨i, o⟩ := p
     simp only [tpR] at hl
     obtain ⟨u, hu, hl⟩ := J0J hl
     obtain ⟨q, hq, hl⟩ := J0J hl
     injection hl with hl; subst hl
     simp only [List.map_cons, List.mem_cons] at hx
     rcases hx with rfl | hx
     ·rw [J3y hu hv, J2P] at hb; simp [hb]
     ·simp [ih q hq x hx v hv b hb]
   intro x hx v hv b hb
   exact List.mem_append.2 (.inr (key ps l hl x hx v hv b hb))
  have e1 : (ps.map fun x => (x.1, erO x.2)).map (·.2) = ps.map fun x => erO x.2 := by simp
  refine ⟨J4t (op := .lits own t n ps) (fun j hj => List.mem_append.2 (.inl (J4x hj))) ?_, fun e he y hy => ?_⟩
  ·simp only [erp, opR, e1]
   refine Jv (JmU hS) fun a _ => ?_
   split
   ·split <;> exact JB _
   ·exact Jq
  ·have he := J3r he
   simp only [erp, opR, e1] at he
   obtain ⟨a, ha, he⟩ := bind_some he
   split at he
   ·split at he
    ·rename_i ho
     injection he with he; subst he
     simp only [List.mem_append, List.mem_singleton] at hy
     rcases hy with hy | rfl
     ·exact JhD hS ha y hy
     ·exact List.mem_append.2 (.inl (by have := J4x (k := J0s (.lits own t n ps)) (new := new) (j := 0) (by simp [J0s, ho]); simpa using this))
    ·injection he with he; subst he
     exact JhD hS ha y hy
   ·cases he
 ·rename_i t bytes y
  obtain ⟨v, hv, h⟩ := J0J h
  injection h with h; injection h with h1 h2; subst h1 h2
  refine ⟨J4t (op := .appn t bytes y) (fun j hj => by simp [J0s] at hj; subst hj; simp) (Jv (J4k _) fun a ha => ?_), fun e he z hz => ?_⟩
  ·rw [J3y hv ha]
   refine Jv (Jfx fun b hb => by rw [J2P] at hb; simp [hb]) fun rows _ => ?_
   split <;> first | exact JB _ | exact Jq
  ·have he := J3r he
   simp only [erp, opR] at he
   obtain ⟨a, ha, he⟩ := bind_some he
   obtain ⟨rows, _, he⟩ := bind_some he
   split at he
   ·injection he with he; subst he
    simp only [List.mem_singleton] at hz
    subst hz; simp
   ·cases he
 ·rename_i t bytes x y
  obtain ⟨v, hv, h⟩ := J0J h
  obtain ⟨u, hu, h⟩ := J0J h
  injection h with h; injection h with h1 h2; subst h1 h2
  refine ⟨J4t (op := .app t bytes x y) (fun j hj => by simp [J0s] at hj) (Jv (J4k _) fun a ha => Jv (J4k _) fun c hc => ?_), fun e he z hz => ?_⟩
  ·rw [J3y hv ha, J3y hu hc]
   exact JrU (fun b hb => by rw [J2P] at hb; simp [hb]) (fun b hb => by rw [J2P] at hb; simp [hb])
  ·have he := J3r he
   simp only [erp, opR] at he
   obtain ⟨a, ha, he⟩ := bind_some he
   obtain ⟨c, hc, he⟩ := bind_some he
   have := Js8 he z hz
   rwa [J3y hv ha, J2P] at this
 ·rename_i kd x lo hi mx
  obtain ⟨v, hv, h⟩ := J0J h
  injection h with h; injection h with h1 h2; subst h1 h2
  refine ⟨J4t (op := .slice kd x lo hi mx) (fun j hj => by simp [J0s] at hj) (Jv (J4k _) fun a ha => Jv (JiV _) fun _ _ => Jv (JiV _) fun _ _ => Jv (JiV _) fun _ _ => ?_), fun e he z hz => ?_⟩
  ·have e := J3y hv ha
   split
   ·refine Jv (JeM fun b hb => ?_) fun y _ => ?_
    ·rw [e, J2P] at hb; exact hb
    ·split
     ·split <;> first | exact JB _ | exact Jq
     ·exact Jq
   ·exact JeK _
  ·have he := J3r he
   simp only [erp, opR] at he
   obtain ⟨a, ha, he⟩ := bind_some he
   obtain ⟨_, _, he⟩ := bind_some he
   obtain ⟨_, _, he⟩ := bind_some he
   obtain ⟨_, _, he⟩ := bind_some he
   have e0 := J3y hv ha
   split at he
   ·obtain ⟨y, hy, he⟩ := bind_some he
    split at he
    ·split at he
     ·injection he with he; subst he
      have := Jed hy z hz
      rwa [e0, J2P] at this
     ·cases he
    ·cases he
   ·rw [Jeq he] at hz; simp at hz
 ·rename_i f args n
  obtain ⟨l, hl, h⟩ := J0J h
  unfold tcU at h
  obtain ⟨ids, hi, h⟩ := J0J h
  injection h with h; injection h with h1 h2; subst h1 h2
  obtain ⟨xs, ws, i0, i1, q1, q2, q3, q4⟩ := Jkj hi
  obtain ⟨e1, e2⟩ := J7l hl
  rw [Jae] at e1
  rw [J5R _ _ (fun x hx => by
   rw [e2, List.map_map] at hx
   obtain ⟨y, _, rfl⟩ := List.mem_map.1 hx
   rfl)] at q1
  have hA : ∀ x ∈ l.map (fun x => Js (lns s.sto) x.1), ∀ b ∈ avR x, b ∈ rng new n ++ (l.flatMap fun x => tvR x.1) ++ ids := by
   intro x hx b hb
   obtain ⟨y, hy, rfl⟩ := List.mem_map.1 hx
   rw [J2P] at hb
   simp only [List.mem_append]
   exact .inl (.inr (List.mem_flatMap.2 ⟨y, hy, hb⟩))
  have hrA : Rb (· ∈ rng new n ++ (l.flatMap fun x => tvR x.1) ++ ids) (J4n (l.map fun x => Js (lns s.sto) x.1)) (Jf s) := by
   rw [← J7Z]; exact J8C hA
  have hwA : ∀ y ∈ ws, y.1 ∈ rng new n ++ (l.flatMap fun x => tvR x.1) ++ ids := by
   rw [← J7Z] at q1
   exact J8M (S := (· ∈ rng new n ++ (l.flatMap fun x => tvR x.1) ++ ids)) hA q1
  obtain ⟨c1, c2⟩ := Jgb (F := F) (f := f) (S := (· ∈ rng new n ++ (l.flatMap fun x => tvR x.1) ++ ids)) (n := n) (new := new) (fun b hb => by simp [hb]) hwA
   (fun j hj => by simp only [List.mem_append]; exact .inl (.inl (J4x hj))) q2 q3 q4
  refine ⟨J4t (op := .call f args n) (fun j hj => by simp only [List.mem_append]; exact .inl (.inl (J4x hj))) (Jv (Jj2 _) fun a ha => ?_), fun e he y hy => ?_⟩
  ·rw [e1] at ha; injection ha with ha; subst ha
   exact Jo0 q1 hrA fun _ => c1
  ·have he := J3r he
   simp only [erp, opR] at he
   obtain ⟨a, ha, he⟩ := bind_some he
   rw [e1] at ha; injection ha with ha; subst ha
   obtain ⟨ar, h1, h2⟩ := Jkc he
   rw [q1] at h1; injection h1 with h1; subst h1
   exact c2 e h2 y hy
 ·rename_i f args n
  obtain ⟨l, hl, h⟩ := J0J h
  unfold tcU at h
  obtain ⟨ids, hi, h⟩ := J0J h
  injection h with h; injection h with h1 h2; subst h1 h2
  obtain ⟨xs, ws, i0, i1, q1, q2, q3, q4⟩ := Jkj hi
  obtain ⟨e1, e2⟩ := J7l hl
  have hA : ∀ x ∈ l.map (fun x => Js (lns s.sto) x.1), ∀ b ∈ avR x, b ∈ rng new n ++ (l.flatMap fun x => tvR x.1) ++ ids := by
   intro x hx b hb
   obtain ⟨y, hy, rfl⟩ := List.mem_map.1 hx
   rw [J2P] at hb
   simp only [List.mem_append]
   exact .inl (.inr (List.mem_flatMap.2 ⟨y, hy, hb⟩))
  rw [e2] at q1
  have hwA : ∀ y ∈ ws, y.1 ∈ rng new n ++ (l.flatMap fun x => tvR x.1) ++ ids := J8M (S := (· ∈ rng new n ++ (l.flatMap fun x => tvR x.1) ++ ids)) hA q1
  obtain ⟨c1, c2⟩ := Jgb (F := F) (f := f) (S := (· ∈ rng new n ++ (l.flatMap fun x => tvR x.1) ++ ids)) (n := n) (new := new) (fun b hb => by simp [hb]) hwA
   (fun j hj => by simp only [List.mem_append]; exact .inl (.inl (J4x hj))) q2 q3 q4
  refine ⟨J4t (op := .callo f args n) (fun j hj => by simp only [List.mem_append]; exact .inl (.inl (J4x hj))) (Jv (Jj2 _) fun a ha => ?_), fun e he y hy => ?_⟩
  ·rw [e1] at ha; injection ha with ha; subst ha
   refine Jv (J8C hA) fun a ha => ?_
   rw [q1] at ha; injection ha with ha; subst ha
   exact c1
  ·have he := J3r he
   simp only [erp, opR] at he
   obtain ⟨a, ha, he⟩ := bind_some he
   rw [e1] at ha; injection ha with ha; subst ha
   obtain ⟨a, ha, he⟩ := bind_some he
   rw [q1] at ha; injection ha with ha; subst ha
   exact c2 e he y hy
 ·rename_i own t bytes l c
  injection h with h; injection h with h1 h2; subst h1 h2
  refine ⟨J4t (op := .mkslice own t bytes l c) (fun j hj => J4x hj) (Jv (J4k _) fun a ha => Jv (J4k _) fun d hd => ?_), fun e he y hy => ?_⟩
  ·split
   ·split
    ·split <;> exact JB _
    ·exact Jq
   ·exact Jq
  ·have he := J3r he
   simp only [erp, opR] at he
   obtain ⟨a, ha, he⟩ := bind_some he
   obtain ⟨d, hd, he⟩ := bind_some he
   split at he
   ·split at he
    ·split at he
     ·rename_i ho
      injection he with he; subst he
      simp only [List.mem_singleton] at hy
      subst hy
      have := J4x (k := J0s (.mkslice own t bytes l c)) (new := new) (j := 0) (by simp [J0s, ho])
      simpa using this
     ·injection he with he; subst he; simp at hy
    ·cases he
   ·cases he
 ·rename_i k x
  obtain ⟨v, hv, h⟩ := J0J h
  injection h with h; injection h with h1 h2; subst h1 h2
  refine ⟨J4t (op := .conv k x) (fun j hj => List.mem_append.2 (.inl (J4x hj))) (Jv (J4k _) fun a ha => ?_), fun e he y hy => ?_⟩
  ·have hr : ∀ b ∈ avR a, b ∈ rng new (J0s (.conv k x)) ++ tvR v := fun b hb => by rw [J3y hv ha, J2P] at hb; simp [hb]
   split
   ·exact JB _
   ·exact JB _
   ·refine Jv (Jfx hr) fun rows _ => ?_
    split <;> first | exact JB _ | exact Jq
   ·split <;> exact JB _
   ·exact Jq
  ·have he := J3r he
   simp only [erp, opR] at he
   obtain ⟨a, ha, he⟩ := bind_some he
   split at he
   ·injection he with he; subst he; simp at hy
   ·injection he with he; subst he; simp at hy
   ·obtain ⟨rows, _, he⟩ := bind_some he
    split at he
    ·injection he with he; subst he; simp at hy
    ·cases he
   ·split at he
    ·rename_i ho
     injection he with he; subst he
     simp only [List.mem_singleton] at hy
     subst hy
     simp [J0s, ho, rng]
    ·injection he with he; subst he; simp at hy
   ·cases he
 ·cases h
abbrev J8P := Option (List Nat × List Nat)
section
variable {R : Type}
def Jsk (i : J6e) (s : TSt) : Bool := match i.g with
 | none => false
 | some (g, want) => if i.dst = some g then false else match tlk g s.env with
  | some (.a (.c (.d .b x))) => if x = want then false else true
  | some (.tup []) => true
  | _ => false
def uwI (i : J6e) (new : Nat) (s s' : TSt) : J8P := if Jsk i s' = true then some ([], []) else uw i.op new s
def Jht (G : TG) : List J6e → Nat → TSt → List J8P → (TSt → List J8P → Option R) → Option R
 | [], _, s, l, k => k s l
 | i :: r, new, s, l, k => Jmh G i new s fun s' => Jht G r (new + J0s i.op) s' (l ++ [uwI i new s s']) k
def J7P : J8P → (List Nat × List Nat) → Prop
 | none, _ => True
 | some (U, W), x => (∀ b ∈ x.1, b ∈ U) ∧ ∀ b ∈ x.2, b ∈ W
def Jhc (l : List J8P) : List (Nat × Nat) → Bool
 | [] => true
 | (i, j) :: r => (match l[i]?, l[j]? with
  | some (some a), some (some b) => J49 a.2 b.1 && J49 a.2 b.2 && J49 a.1 b.2
  | _, _ => false) && Jhc l r
theorem J6N {b : Nat} : ∀ {l : List Loc}, b ∈ J2W l → Loc.blk b ∈ l
 | .blk c :: r, h => by
  simp only [J2W, List.mem_cons] at h
  rcases h with rfl | h
  ·simp
  ·simp [J6N h]
 | .slot n :: r, h => by simp only [J2W] at h; simp [J6N h]
theorem J7P.snoc {l : List J8P} {l0 : Log} {x : J8P} {y : List Nat × List Nat} (hl : l.length = l0.length) (ho : ∀ (j : Nat) a b, l[j]? = some a → l0[j]? = some b → J7P a b) (hx : J7P x y) (j : Nat) (a : J8P) (b : List Nat × List Nat) (ha : (l ++ [x])[j]? = some a) (hb : (l0 ++ [y])[j]? = some b) : J7P a b := by
 rcases Nat.lt_or_ge j l.length with hj | hj
 ·rw [List.getElem?_append_left hj] at ha
  rw [List.getElem?_append_left (by omega)] at hb
  exact ho j a b ha hb
 ·rw [List.getElem?_append_right hj] at ha
  rw [List.getElem?_append_right (by omega)] at hb
  have hj0 : j - l.length = 0 := by have := J9 ha; simp at this; omega
  rw [hj0] at ha
  rw [← hl, hj0] at hb
  simp at ha hb
  subst ha hb
  exact hx
theorem Jqc {F : Orc} {i : J6e} {new : Nat} {s s' : TSt} {e : Eff} (h : (J0t F (eri i) new).run (Jf s) = some e) (hp : put i.dst e (Jf s) = Jf s') : J7P (uwI i new s s') (J2W ((J0t F (eri i) new).reads (Jf s)), e.ws.map (·.1)) := by
 unfold uwI
 split
 ·rename_i hn
  unfold Jsk at hn
  split at hn
  ·cases hn
  ·rename_i g want hg
   split at hn
   ·cases hn
   ·rename_i hd
    have hlk : lk g (Jf s').env = lk g (Jf s).env := by
     rw [← hp]
     unfold put
     split
     ·rename_i d hds
      show lk g ((d, e.val) :: (Jf s).env) = _
      simp only [lk]
      rw [if_neg (fun e0 => hd (by rw [hds, e0]))]
     ·rfl
    have hx' : ∀ v, tlk g s'.env = some v → lk g (Jf s).env = some (Js (lns s'.sto) v) := fun v hv => by
     rw [← hlk]
     show lk g (J2G _ s'.env) = _
     rw [J8S, hv]; rfl
    split at hn
    ·rename_i x hx
     split at hn
     ·cases hn
     ·rename_i hw
      have hl := hx' _ hx
      rw [e_b] at hl
      have hi : J0t F (eri i) new = .slot g fun
        | .p (.b x) => if x = want then opD F (eri i).op new else .ret ⟨J11, []⟩
        | .tup [] => .ret ⟨J11, []⟩
        | _ => .fail := by unfold J0t; rw [show (eri i).g = i.g from rfl, hg]; rfl
      rw [hi] at h ⊢
      refine ⟨fun b hb => ?_, fun b hb => ?_⟩
      ·have := J6N hb
       simp only [RM.reads, hl, List.mem_cons, if_neg hw] at this
       rcases this with this | this
       ·cases this
       ·simp at this
      ·simp only [J4W, hl, Option.bind_some, if_neg hw, Jk] at h
       injection h with h; subst h
       exact hb
    ·rename_i hx
     have hl := hx' _ hx
     have hl : lk g (Jf s).env = some (.tup []) := hl
     have hi : J0t F (eri i) new = .slot g fun
       | .p (.b x) => if x = want then opD F (eri i).op new else .ret ⟨J11, []⟩
       | .tup [] => .ret ⟨J11, []⟩
       | _ => .fail := by unfold J0t; rw [show (eri i).g = i.g from rfl, hg]; rfl
     rw [hi] at h ⊢
     refine ⟨fun b hb => ?_, fun b hb => ?_⟩
     ·have := J6N hb
      simp only [RM.reads, hl, List.mem_cons] at this
      rcases this with this | this
      ·cases this
      ·simp at this
     ·simp only [J4W, hl, Option.bind_some, Jk] at h
      injection h with h; subst h
      exact hb
    ·cases hn
 ·cases hu : uw i.op new s with
  | none => trivial
  | some uw' =>
   obtain ⟨U, W⟩ := uw'
   obtain ⟨h1, h2⟩ := JsE F hu
   have hr : Rb (· ∈ U) (J0t F (eri i) new) (Jf s) := by
    unfold J0t
    split
    ·exact h1
    ·refine Jl2 fun v hv => ?_
     split
     ·split
      ·exact h1
      ·exact JB _
     ·exact JB _
     ·exact Jq
   refine ⟨fun b hb => hr b (J6N hb), fun b hb => ?_⟩
   obtain ⟨y, hy, rfl⟩ := List.mem_map.1 hb
   unfold J0t at h
   split at h
   ·exact h2 e h y hy
   ·simp only [J4W] at h
    obtain ⟨v, hv, h⟩ := Option.bind_eq_some_iff.1 h
    split at h
    ·split at h
     ·exact h2 e h y hy
     ·injection h with h; subst h; simp at hy
    ·injection h with h; subst h; simp at hy
    ·cases h
theorem Jjr {F : Orc} {G : TG} (hG : GOk F G) : ∀ {ins : List J6e} {new : Nat} {s : TSt} {l : List J8P} {l0 : Log} {k : TSt → List J8P → Option R} {r : R}, l.length = l0.length → (∀ (j : Nat) a b, l[j]? = some a → l0[j]? = some b → J7P a b) →
  Jht G ins new s l k = some r → ∃ s' l' tl, J2T F (ins.map eri) new (Jf s) l0 = some (Jf s', l') ∧ k s' tl = some r ∧ tl.length = l'.length ∧ ∀ (j : Nat) a b, tl[j]? = some a → l'[j]? = some b → J7P a b
 | [], new, s, l, l0, k, r, hl, ho, h => ⟨s, l0, l, rfl, h, hl, ho⟩
 | i :: q, new, s, l, l0, k, r, hl, ho, h => by
  simp only [Jht] at h
  obtain ⟨e, s1, h1, h2, h⟩ := JkO hG h
  obtain ⟨s2, l', tl, h3, h4, h5, h6⟩ := Jjr hG (l0 := l0 ++ [(J2W ((J0t F (eri i) new).reads (Jf s)), e.ws.map (·.1))]) (by rw [List.length_append, List.length_append, hl]; rfl) (J7P.snoc hl ho (Jqc h1 h2)) h
  refine ⟨s2, l', tl, ?_, h4, h5, h6⟩
  simp only [List.map_cons, J2T, h1]
  rw [show put (eri i).dst e (Jf s) = Jf s1 from h2, show J3j (eri i).op = J0s i.op from J9O _, h3]
theorem JcZ {a b a' b' : List Nat} (h : J49 a' b' = true) (ha : ∀ x ∈ a, x ∈ a') (hb : ∀ x ∈ b, x ∈ b') : J49 a b = true := by
 unfold J49 at h ⊢
 rw [List.all_eq_true] at h ⊢
 intro x hx
 have := h x (ha x hx)
 simp only [Bool.not_eq_true', List.contains_eq_mem, decide_eq_false_iff_not] at this ⊢
 exact fun hm => this (hb x hm)
theorem Jj6 {l : List J8P} {l' : Log} (hl : l.length = l'.length) (ho : ∀ (j : Nat) a b, l[j]? = some a → l'[j]? = some b → J7P a b) : ∀ {ps : List (Nat × Nat)}, Jhc l ps = true → J8h l' ps = true
 | [], _ => rfl
 | (i, j) :: r, h => by
  simp only [Jhc, Bool.and_eq_true] at h
  obtain ⟨h1, h2⟩ := h
  simp only [J8h, Bool.and_eq_true]
  refine ⟨?_, Jj6 hl ho h2⟩
  split at h1
  ·rename_i a b ha hb
   have hi : i < l'.length := by have := J9 ha; omega
   have hj : j < l'.length := by have := J9 hb; omega
   have oa := ho i _ _ ha (List.getElem?_eq_getElem hi)
   have ob := ho j _ _ hb (List.getElem?_eq_getElem hj)
   rw [List.getElem?_eq_getElem hi, List.getElem?_eq_getElem hj]
   simp only [Bool.and_eq_true] at h1 ⊢
   exact ⟨⟨JcZ h1.1.1 oa.2 ob.1, JcZ h1.1.2 oa.2 ob.2⟩, JcZ h1.2 oa.1 ob.2⟩
  ·cases h1
def Jof (G : TG) (pairs : List (Nat × Nat)) (ins : List J6e) (s : TSt) (k : TSt → Option R) : Option R :=
 match pairs with
 | [] => JlV G ins s.sto.length (Jhf (Jen ins) s) k
 | p :: ps => Jht G ins s.sto.length (Jhf (Jen ins) s) [] fun s' l => if Jhc l (p :: ps) = true then k s' else none
theorem Jqu {F : Orc} {G : TG} (hG : GOk F G) {pairs : List (Nat × Nat)} {ins : List J6e} {s : TSt} {k : TSt → Option R} {r : R} (h : Jof G pairs ins s k = some r) : ∃ s', region F pairs (ins.map eri) (Jf s) = some (Jf s') ∧ k s' = some r := by
 have hlen : (Jf s).sto.length = s.sto.length := by simp [Jf]
 unfold Jof at h
 split at h
 ·obtain ⟨s', h1, h2⟩ := Jkh hG h
  refine ⟨s', ?_, h2⟩
  simp only [region, JdJ]
  rw [JhJ] at h1
  rw [hlen]
  exact h1
 ·obtain ⟨s', l', tl, h1, h2, h3, h4⟩ := Jjr hG (l0 := []) rfl (fun j a b ha hb => by simp at ha) h
  split at h2
  ·rename_i hp
   refine ⟨s', ?_, h2⟩
   simp only [region, JdJ]
   rw [JhJ] at h1
   rw [hlen, h1]
   simp only [Jj6 h3 h4 hp, if_true]
  ·cases h2
end
end Go.Am
end
