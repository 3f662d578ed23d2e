/-
  Parts of a proof.
-/
import Derived.Below
import Derived.Test.YtkopficpneehnaaX1
import Derived.Test.YtkopficpneehnaaX2
set_option linter.unusedSimpArgs false
set_option linter.unusedVariables false
section
namespace Go.Am
@[congr] theorem Ju4 {o o' : Option Out} {k : St → Option Out} (h : o = o') : thn o k = thn o' k := by rw [h]
@[congr] theorem JtC {α β : Type} {o o' : RM α} {f : α → RM β} (h : o = o') : o.bind f = o'.bind f := by rw [h]
@[congr] theorem JtE {α β : Type} {o o' : Option α} {f : α → Option β} (h : o = o') : o.bind f = o'.bind f := by rw [h]
@[simp] theorem J7c (s k) : thn (some (.normal, s)) k = k s := rfl
@[simp] theorem Jqi (i s k) : thn (some (.exit i, s)) k = some (.exit i, s) := rfl
@[simp] theorem Jso (s k) : thn (some (.ret, s)) k = some (.ret, s) := rfl
@[simp] theorem JqG (k) : thn none k = none := rfl
def JiI (o : Option Out) (k : St → Option Out) : Option Out :=
 match o with
 | some (.normal, s) => k s
 | _ => none
@[congr] theorem JtK {o o' : Option Out} {k : St → Option Out} (h : o = o') : JiI o k = JiI o' k := by rw [h]
@[simp] theorem JkW (s k) : JiI (some (.normal, s)) k = k s := rfl
def blo (id : Nat) (o : Option Out) : Option Out :=
 match o with
 | some (.exit k, s) => if k = id then some (.normal, s) else some (.exit k, s)
 | o => o
@[simp] theorem Jn7 (id s) : blo id (some (.normal, s)) = some (.normal, s) := rfl
@[simp] theorem Jkw (id i s) : blo id (some (.exit i, s)) = if i = id then some (.normal, s) else some (.exit i, s) := rfl
@[simp] theorem JrJ (id s) : blo id (some (.ret, s)) = some (.ret, s) := rfl
@[simp] theorem Jq7 (id) : blo id none = none := rfl
def nrm (o : Option St) : Option Out := match o with
 | some s => some (.normal, s)
 | none => none
@[simp] theorem JpZ (s) : nrm (some s) = some (.normal, s) := rfl
@[simp] theorem Jp3 : nrm none = none := rfl
def evv (x : Opd) (env : List (Nat × AV)) : Option AV := match x with
 | .t n => lk n env
 | .c v => some v
@[simp] theorem JuC (n env) : evv (.t n) env = lk n env := rfl
@[simp] theorem JuD (v env) : evv (.c v) env = some v := rfl
theorem JeG (x : Opd) (s : St) : (ev x).run s = evv x s.env := by
 cases x with
 | t n => simp only [ev, RM.run, evv]; cases lk n s.env <;> rfl
 | c v => rfl
section
variable (T : J21)
@[simp ↓] theorem Jtq (s) : X T .skip s = some (.normal, s) := by rw [J7N]; rfl
@[simp ↓] theorem JqM (a b s) : X T (.seq a b) s = thn (X T a s) fun s => X T b s := by
 rw [J7N]; simp only [step]
 cases X T a s with
 | none => rfl
 | some o => obtain ⟨e, s'⟩ := o; cases e <;> rfl
theorem JqS (d ps ins s) : X T (.reg d ps ins) s = nrm (region (AF T) ps ins s) := by
 rw [J7N]; simp only [step]
 show (match region (AF T) ps ins s with | some s' => some (AX.normal, s') | none => none) = _
 cases region (AF T) ps ins s <;> rfl
@[simp ↓] theorem Juy (d ins env sto) : X T (.reg d [] ins) ⟨env, sto⟩ = nrm (J1Z (AF T) ins sto.length ⟨env, room (news ins) sto⟩) := by
 rw [JqS]; rfl
def cnd (x : Option AV) (a b : Option Out) (c : Unit → Option Out) : Option Out :=
 match x with
 | some (.p (.b x)) => if x = true then a else b
 | some .unk => c ()
 | _ => none
@[congr] theorem Ju6 {x x' : Option AV} {a b : Option Out} {c : Unit → Option Out} (h : x = x') : cnd x a b c = cnd x' a b c := by rw [h]
@[simp] theorem JqL (x a b c) : cnd (some (.p (.b x))) a b c = if x = true then a else b := rfl
@[simp] theorem JrM (a b c) : cnd (some .unk) a b c = c () := rfl
@[simp ↓] theorem JsA (x a b s) : X T (.cond x a b) s = cnd (evv x s.env) (X T a s) (X T b s) fun _ => same (X T a s) (X T b s) := by
 rw [J7N]; simp only [step, JeG]
 cases evv x s.env with
 | none => rfl
 | some v =>
  cases v with
  | p c => cases c <;> rfl
  | _ => rfl
@[simp ↓] theorem Jsl (id c s) : X T (.block id c) s = blo id (X T c s) := by
 rw [J7N]; simp only [step]
 cases X T c s with
 | none => rfl
 | some o => obtain ⟨e, s'⟩ := o; cases e <;> rfl
@[simp ↓] theorem JrY (c s) : X T (.scope c) s = X T c s := by rw [J7N]; rfl
@[simp ↓] theorem JsS (id s) : X T (.exit id) s = some (.exit id, s) := by rw [J7N]; rfl
@[simp ↓] theorem JtS (s) : X T .ret s = some (.ret, s) := by rw [J7N]; rfl
@[simp ↓] theorem Jo6 (live c s) : X T (.keep live c) s = X T c ⟨restr live s.env, s.sto⟩ := by rw [J7N]; rfl
@[simp ↓] theorem JuF (live pre x a b rest s) : X T (.br live pre x a b rest) s = JiI (X T pre s) fun s1 =>
  cnd (evv x s1.env) (thn (X T a s1) fun s => X T rest s) (thn (X T b s1) fun s => X T rest s) fun _ =>
   same (J4q s1.sto.length live (thn (X T a s1) fun s => X T rest s)) (J4q s1.sto.length live (thn (X T b s1) fun s => X T rest s)) := by
 rw [J7N]; simp only [step, JeG]
 cases X T pre s with
 | none => rfl
 | some o =>
  obtain ⟨e, s1⟩ := o
  cases e with
  | normal =>
   dsimp only [JiI]
   cases evv x s1.env with
   | none => rfl
   | some v =>
    cases v with
    | p c => cases c <;> rfl
    | _ => rfl
  | exit => rfl
  | ret => rfl
@[simp ↓] theorem JsG (live c env sto) : X T (.loop live c) ⟨env, sto⟩ = X T (.lp sto.length live c) ⟨restr live env, sto⟩ := by
 rw [J7N]; simp [step, clean]
theorem Jq1 (n live c s) : X T (.lp n live c) s = thn (X T c s) fun s => match clean n live s with
  | some s => X T (.lp n live c) s
  | none => none := by
 rw [J7N]; simp only [step]
 cases X T c s with
 | none => rfl
 | some o => obtain ⟨e, s'⟩ := o; cases e <;> rfl
def JiT (res : List Jc8) (fresh : Bool) (m : Nat) (o : Option Out) : Option Res :=
 match o with
 | some (.normal, s) => J2p ⟨0, 0, .skip, res, fresh⟩ m s
 | some (.ret, s) => J2p ⟨0, 0, .skip, res, fresh⟩ m s
 | _ => none
@[congr] theorem JtH {res : List Jc8} {fresh : Bool} {m : Nat} {o o' : Option Out} (h : o = o') : JiT res fresh m o = JiT res fresh m o' := by rw [h]
@[simp] theorem JkH (res fresh m s) : JiT res fresh m (some (.normal, s)) = J2p ⟨0, 0, .skip, res, fresh⟩ m s := rfl
@[simp] theorem Jq6 (res fresh m s) : JiT res fresh m (some (.ret, s)) = J2p ⟨0, 0, .skip, res, fresh⟩ m s := rfl
theorem JrQ {f : FuncId} {k : J5l} (h : T f = some (.fork k)) (args blks) : AF T f args blks = if args.length = k.np then J8G (X T) k args blks else none := by
 unfold AF J7z; rw [h]
@[simp] theorem JtN (o : Option Res) : Jes o o = o := by unfold Jes; cases o <;> simp
theorem JtO {f : FuncId} {fn : AFn} (h : T f = some (.fn fn)) (args blks) : AF T f args blks = if args.length = fn.np then
  JiT fn.res fn.fresh blks.length (X T fn.body ⟨J66 0 args, blks⟩)
 else none := by
 unfold AF J7z; rw [h]; rfl
end
variable {F : Orc} {env : List (Nat × AV)} {sto : List Blk} {new : Nat} {r : List J0E} {d : Nat}
@[simp] theorem JmD (s) : J1Z F [] new s = some s := rfl
theorem JkS (i s) : J1Z F (i :: r) new s = ((J0C F i new).run s).bind fun e => J1Z F r (new + J3K i.op) (put i.dst e s) := by
 simp only [J1Z]; cases (J0C F i new).run s <;> rfl
@[simp] theorem Juq : news [] = 0 := rfl
@[simp ↓] theorem Ju5 (i) : news (i :: r) = J3K i.op + news r := rfl
@[simp] theorem Juz : room 0 sto = sto := rfl
@[simp] theorem Ju7 (n) : room (n + 1) sto = sto ++ List.replicate (n + 1) .dead := rfl
@[simp] theorem JuB (n) : lk n [] = none := rfl
@[simp] theorem Js1 (n m v) (r : List (Nat × AV)) : lk n ((m, v) :: r) = if n = m then some v else lk n r := rfl
attribute [simp ↓] JkS J0C opD J8M J3K run_bind JeG opR
attribute [simp] put val evs evo J2y J31
 J8j Jds Jdw unP J62 Jin fz fz.fzL fz.fz1 fzs J5q J2V J2G sub spl J6n Jfs Jge Jcw JbS J4A Jft JbQ J4u J3v J8b J8c J1D J1e J5D mmP cellsOf unp J4v J3x
 J8l one J66 J1d J9o J2U
@[simp] theorem Jua (o : Option Out) : same o o = o := by unfold same; cases o <;> simp
@[simp ↓] theorem Jh {α : Type} (a : α) (s : St) : (RM.ret a).run s = some a := rfl
@[simp ↓] theorem Jqm {α : Type} (s : St) : (RM.fail : RM α).run s = none := rfl
@[simp ↓] theorem J5o {α : Type} (n : Nat) (k : AV → RM α) (s : St) : (RM.slot n k).run s = (lk n s.env).bind fun v => (k v).run s := by simp only [RM.run]; cases lk n s.env <;> rfl
@[simp ↓] theorem J0D {α : Type} (n : Nat) (k : Blk → RM α) (s : St) : (RM.blk n k).run s = (s.sto[n]?).bind fun v => (k v).run s := by simp only [RM.run]; cases s.sto[n]? <;> rfl
@[simp] theorem Jsd : upd [] sto = sto := rfl
@[simp] theorem JqC (b x ws) : upd ((b, x) :: ws) sto = upd ws (sto.set b x) := rfl
@[simp] theorem Ju9 : restr [] env = [] := rfl
@[simp] theorem JmE (k l) : restr (k :: l) env = match lk k env with
  | some v => (k, v) :: restr l env
  | none => restr l env := rfl
end Go.Am
namespace Go.Am
def J5t : AV → Bool
 | .p _ | .data _ | .cp _ _ | .unk => true
 | _ => false
@[simp] theorem Jum (c) : J5t (.p c) = true := rfl
@[simp] theorem JtB (c) : J5t (.data c) = true := rfl
@[simp] theorem Ju8 (c o) : J5t (.cp c o) = true := rfl
theorem Jfg : ∀ {args : List AV} {l : List Ent}, args.all J5t = true → JW.entsOfL args l = l
 | [], l, _ => rfl
 | x :: r, l, h => by
  simp only [List.all_cons, Bool.and_eq_true] at h
  obtain ⟨h1, h2⟩ := h
  simp only [JW.entsOfL]
  cases x <;> simp [J5t] at h1 <;> simp only [JW] <;> exact Jfg h2
theorem Jh3 {ρ : Ent → Option Nat} : ∀ {args : List AV}, args.all J5t = true → ren.renL ρ args = some args
 | [], _ => rfl
 | x :: r, h => by
  simp only [List.all_cons, Bool.and_eq_true] at h
  have := Jh3 (ρ := ρ) h.2
  have h1 := h.1
  clear h
  cases x <;> simp [J5t] at h1 <;> simp [ren.renL, ren, this]
theorem JpX {es : List Ent} {new : Nat} {x : AV} (h : J5t x = true) : bk es new x = some x := by
 cases x <;> simp [J5t] at h <;> rfl
theorem Jca {es : List Ent} {new : Nat} : ∀ {xs : List AV}, xs.all J5t = true → bk.bkL es new xs = some xs
 | [], _ => rfl
 | x :: r, h => by
  simp only [List.all_cons, Bool.and_eq_true] at h
  simp [bk.bkL, JpX h.1, Jca h.2]
@[simp] theorem JuE (es new c) : bk es new (.p c) = some (.p c) := rfl
@[simp] theorem Jux (es new c) : bk es new (.data c) = some (.data c) := rfl
@[simp] theorem JuA (es new l) : bk es new (.tup l) = (bk.bkL es new l).map .tup := by simp only [bk]; cases bk.bkL es new l <;> rfl
@[simp] theorem Juw (es new) : bk.bkL es new [] = some [] := rfl
@[simp] theorem Jus (es new x l) : bk.bkL es new (x :: l) = (bk es new x).bind fun y => (bk.bkL es new l).map fun l => y :: l := by
 simp only [bk.bkL]; cases bk es new x <;> simp; cases bk.bkL es new l <;> rfl
@[simp] theorem JtD (n live) : J4q n live none = none := rfl
@[simp] theorem JkM (n live e s) : J4q n live (some (e, s)) = (clean n live s).map fun s => (e, s) := by
 simp only [J4q]; cases clean n live s <;> rfl
attribute [simp ↓] Option.bind_some Option.bind_none J7c Jqi Jso JqG JkW JpZ Jp3 JqL JrM Jn7 Jkw JrJ Jq7 JkH Jq6 JmD Js1 JmE Jsd JqC
attribute [simp] clean JbX J80 J3r fin fin.finL J2p J3b J86 JW JW.entsOfL J8a J3f J9F J34 unp
end Go.Am
end
section
namespace Go.Am
inductive Fr where
 | sq (b : J07)
 | bl (id : Nat)
 | td (n : Nat) (live : List Nat)
 | lo (n : Nat) (live : List Nat) (c : J07)
noncomputable def again (T : J21) (n : Nat) (live : List Nat) (c : J07) (o : Option St) : Option Out := match o with
 | some s => X T (.lp n live c) s
 | none => none
section
variable (T : J21) (f : AFn) (m : Nat) (k : List Fr)
theorem JsJ (live c s) : X T (.tidy live c) s = J4q s.sto.length live (X T c s) := by rw [J7N]; rfl
end
open Classical in
noncomputable def Jz {σ ρ : Type} (f : σ → Option (σ ⊕ ρ)) (s : σ) : Option ρ :=
 let it : Nat → σ → Option ρ := fun n => n.rec (fun _ => none) fun _ ih s => match f s with
  | some (.inl s') => ih s'
  | some (.inr r) => some r
  | none => none
 if h : ∃ n r, it n s = some r then it (Classical.choose h) s else none
def J61 {σ ρ : Type} (f : σ → Option (σ ⊕ ρ)) : Nat → σ → Option ρ
 | 0, _ => none
 | n + 1, s => match f s with
  | some (.inl s') => J61 f n s'
  | some (.inr r) => some r
  | none => none
section
variable {σ ρ : Type} {f : σ → Option (σ ⊕ ρ)}
theorem JfS (n : Nat) : ∀ s : σ, (Nat.rec (motive := fun _ => σ → Option ρ) (fun _ => none) (fun _ ih s => match f s with
  | some (.inl s') => ih s'
  | some (.inr r) => some r
  | none => none) n) s = J61 f n s := by
 induction n with
 | zero => intro s; rfl
 | succ n ih => intro s; simp only [J61]; split <;> first | rfl | exact ih _
theorem Jcr : ∀ {n : Nat} {s : σ} {r : ρ} (m : Nat), J61 f n s = some r → J61 f (n + m) s = some r
 | 0, _, _, _, h => by cases h
 | n + 1, s, r, m, h => by
  rw [show n + 1 + m = (n + m) + 1 by omega]
  simp only [J61] at h ⊢
  split at h
  ·exact Jcr m h
  ·exact h
  ·cases h
theorem JqH {n m : Nat} {s : σ} {r r' : ρ} (h : J61 f n s = some r) (h' : J61 f m s = some r') : r = r' := by
 have a := Jcr m h
 have b := Jcr n h'
 rw [Nat.add_comm m n] at b
 rw [a] at b; injection b
theorem J9R {s : σ} {r : ρ} : Jz f s = some r ↔ ∃ n, J61 f n s = some r := by
 unfold Jz
 dsimp only
 constructor
 ·intro h
  split at h
  ·exact ⟨_, by rw [← JfS]; exact h⟩
  ·cases h
 ·rintro ⟨n, h⟩
  have hex : ∃ n r, (Nat.rec (motive := fun _ => σ → Option ρ) (fun _ => none) (fun _ ih s => match f s with
   | some (.inl s') => ih s'
   | some (.inr r) => some r
   | none => none) n) s = some r := ⟨n, r, by rw [JfS]; exact h⟩
  rw [dif_pos hex]
  obtain ⟨r', hr⟩ := Classical.choose_spec hex
  rw [hr]
  rw [JfS] at hr
  rw [JqH hr h]
theorem Jnb {s : σ} {r : ρ} (h : f s = some (.inr r)) : Jz f s = some r := J9R.2 ⟨1, by simp only [J61, h]⟩
theorem Jmw {s s' : σ} (h : f s = some (.inl s')) : Jz f s = Jz f s' := by
 have key : ∀ r, Jz f s = some r ↔ Jz f s' = some r := by
  intro r
  rw [J9R, J9R]
  constructor
  ·rintro ⟨n, hn⟩
   cases n with
   | zero => cases hn
   | succ n => simp only [J61, h] at hn; exact ⟨n, hn⟩
  ·rintro ⟨n, hn⟩
   exact ⟨n + 1, by simp only [J61, h]; exact hn⟩
 cases hs : Jz f s with
 | some r => exact ((key r).1 hs).symm
 | none =>
  cases hs' : Jz f s' with
  | none => rfl
  | some r => rw [(key r).2 hs'] at hs; cases hs
theorem JnR {P : σ → ρ → Prop} (h1 : ∀ s r, f s = some (.inr r) → P s r) (h2 : ∀ s s' r, f s = some (.inl s') → P s' r → P s r) {s : σ} {r : ρ} (h : Jz f s = some r) : P s r := by
 obtain ⟨n, hn⟩ := J9R.1 h
 clear h
 induction n generalizing s with
 | zero => cases hn
 | succ n ih =>
  simp only [J61] at hn
  split at hn
  ·rename_i h; exact h2 _ _ _ h (ih hn)
  ·rename_i h; injection hn with hn; subst hn; exact h1 _ _ h
  ·cases hn
end
end Go.Am
end
section
namespace Go.Am
section
variable {α : Type}
def idx (l : List α) (n : Int) : Option α := if 0 ≤ n then l[n.toNat]? else none
def inb (k : Nat) (n : Int) : Option Unit := if 0 ≤ n ∧ n < k then some () else none
def J1V (bytes : Nat) (l l' : List α) : Option (List α) := if J1e (l.length + l'.length) bytes = true then some (l ++ l') else none
def cloS (bytes : Nat) (l : List α) : Option (List α) := if J1e l.length bytes = true then some l else none
def Jtx (bytes : Nat) (l l' : List α) : Option (List α) := if 0 < l'.length ∧ J1e (l.length + l'.length) bytes = true then some (l ++ l') else none
def mkS (bytes : Nat) (n m : Int) (z : α) : Option (List α) :=
 if 0 ≤ n ∧ n ≤ m ∧ bytes * m ≤ 281474976710656 ∧ m ≤ 281474976710656 then some (List.replicate n.toNat z) else none
def JjG (x : Option Int) (top dflt : Nat) : Option Nat := match x with
 | none => some dflt
 | some n => if 0 ≤ n ∧ n ≤ top then some n.toNat else none
def Jgv (n : Nat) (lo hi : Option Int) : Option (Nat × Nat) := match JjG hi n n with
 | none => none
 | some h => match JjG lo h 0 with
  | none => none
  | some l => some (l, h)
def J7E (l : List α) (lo hi : Option Int) : Option (List α) := match Jgv l.length lo hi with
 | some c => some ((l.drop c.1).take (c.2 - c.1))
 | none => none
def Jti (k : IntKind) (x y : Int) : Option Int := if y = 0 then none else some (k.wrap (x.tdiv y))
def Jcd (x y : Int) : Option Int := if y = 0 then none else some (x.tmod y)
def Jt8 (k : IntKind) (x y : Int) : Option Int := if y < 0 then none else some (k.wrap (x * 2 ^ (min y.toNat k.bits)))
def Jtg (k : IntKind) (x y : Int) : Option Int := if y < 0 then none else some (x.fdiv (2 ^ (min y.toNat k.bits)))
def Jug (k : IntKind) (x y : Int) : Int := k.wrap (BitVec.ofInt k.bits x &&& BitVec.ofInt k.bits y).toNat
def orI (k : IntKind) (x y : Int) : Int := k.wrap (BitVec.ofInt k.bits x ||| BitVec.ofInt k.bits y).toNat
def Jj9 (k : IntKind) (x y : Int) : Int := k.wrap (BitVec.ofInt k.bits x ^^^ BitVec.ofInt k.bits y).toNat
def Juj (k : IntKind) (n : Int) : Int := k.wrap (BitVec.ofInt k.bits (if k.signed then -1 else k.max) ^^^ BitVec.ofInt k.bits n).toNat
def JbZ (a b : List UInt8) : Option (List UInt8) := if a.length + b.length ≤ 4611686018427387904 then some (a ++ b) else none
def Jto (l : List UInt8) (n : Int) : Option Int := if 0 ≤ n then (match l[n.toNat]? with | some u => some (u.toNat : Int) | none => none) else none
def JpD {k : Nat} (v : Vector α k) (n : Int) : Option α := if 0 ≤ n ∧ n < k then v[n.toNat]? else none
def toStr (l : List Int) : List UInt8 := l.map fun n => UInt8.ofNat n.toNat
def toByt (l : List UInt8) : List Int := l.map fun u => (u.toNat : Int)
def Jui (x y : Int) : Int := if y < x then y else x
def Jun (x y : Int) : Int := if y > x then y else x
end
@[reducible] def cat (a b : List PV) : List PV := a ++ b
def r_i (k : IntKind) (n : Int) : List PV := [.i k n]
def r_b (x : Bool) : List PV := [.b x]
def r_s (l : List UInt8) : List PV := [.s l]
def Juu {α : Type} (esz : Nat) (r : α → List PV) (l : List α) : List PV := [.sl esz (l.map r)]
def J7n {α : Type} {n : Nat} (r : α → List PV) (v : Vector α n) : List PV := (v.toList.map r).flatten
section
variable {α : Type}
theorem J5O (cs : List α) (off size : Nat) : sub cs off size = if off + size ≤ cs.length then some ((cs.drop off).take size) else none := by
 unfold sub
 split
 ·rename_i h
  obtain ⟨rfl, rfl⟩ := h
  simp
 ·rfl
theorem J6Z (cs : List α) (off : Nat) (vs : List α) : spl cs off vs = if off + vs.length ≤ cs.length then some (cs.take off ++ vs ++ cs.drop (off + vs.length)) else none := by
 unfold spl
 split
 ·rename_i h
  obtain ⟨rfl, h⟩ := h
  rw [if_pos (by omega)]
  simp [← h]
 ·rfl
theorem Jgf {cs : List α} {n : Nat} (h : cs.length = n) : sub cs 0 n = some cs := by
 subst h; rw [J5O]; simp
theorem Jln {cs vs : List α} (h : cs.length = vs.length) : spl cs 0 vs = some vs := by
 rw [J6Z]; simp [h]
theorem Jo8 {a b c : List α} {off size : Nat} (h1 : a.length = off) (h2 : b.length = size) : sub (a ++ (b ++ c)) off size = some b := by
 subst h1 h2
 rw [J5O, if_pos (by simp)]
 simp
theorem Jmx {b c : List α} {size : Nat} (h2 : b.length = size) : sub (b ++ c) 0 size = some b := Jo8 (a := []) rfl h2
theorem JnO {a b c v : List α} {off : Nat} (h1 : a.length = off) (h2 : b.length = v.length) : spl (a ++ (b ++ c)) off v = some (a ++ (v ++ c)) := by
 subst h1
 rw [J6Z, if_pos (by simp; omega), ← h2]
 simp
theorem JmY {b c v : List α} (h2 : b.length = v.length) : spl (b ++ c) 0 v = some (v ++ c) := JnO (a := []) rfl h2
theorem Jli {cs ds r : List α} {a m k n : Nat} (h1 : sub cs a m = some ds) (h2 : sub ds k n = some r) : sub cs (a + k) n = some r := by
 rw [J5O] at h1 h2 ⊢
 split at h1
 ·injection h1 with h1; subst h1
  split at h2
  ·rename_i h3 h4
   injection h2 with h2; subst h2
   simp at h4
   rw [if_pos (by omega), List.drop_take, List.take_take, List.drop_drop]
   congr 2
   omega
  ·cases h2
 ·cases h1
theorem JlT {cs ds ds' v cs' : List α} {a m k : Nat} (h1 : sub cs a m = some ds) (h2 : spl ds k v = some ds') (h3 : spl cs a ds' = some cs') : spl cs (a + k) v = some cs' := by
 rw [J5O] at h1
 rw [J6Z] at h2 h3 ⊢
 split at h1
 ·rename_i h4
  injection h1 with h1; subst h1
  split at h2
  ·rename_i h5
   injection h2 with h2; subst h2
   simp at h5
   split at h3
   ·injection h3 with h3; subst h3
    rw [if_pos (by omega)]
    congr 1
    simp only [List.length_append, List.length_take, List.length_drop, List.take_take, List.drop_take, List.drop_drop, List.append_assoc]
    have e1 : cs.take (a + k) = cs.take a ++ (cs.drop a).take k := List.take_add ..
    rw [e1, List.append_assoc]
    rw [show min k m = k by omega]
    congr 3
    have e2 : cs.drop (a + k + v.length) = (cs.drop (a + (k + v.length))).take (m - (k + v.length)) ++ cs.drop (a + m) := by
     have := List.take_append_drop (m - (k + v.length)) (cs.drop (a + (k + v.length)))
     rw [List.drop_drop] at this
     rw [show a + (k + v.length) + (m - (k + v.length)) = a + m by omega] at this
     rw [this]; congr 1; omega
    rw [e2]
    congr 2
    omega
   ·cases h3
  ·cases h2
 ·cases h1
theorem J7O {β : Type} (g : α → β) (cs : List α) (off size : Nat) : sub (cs.map g) off size = (sub cs off size).map (List.map g) := by
 rw [J5O, J5O]
 simp only [List.length_map]
 split <;> simp [List.map_drop, List.map_take]
theorem J7I {β : Type} (g : α → β) (cs : List α) (off : Nat) (vs : List α) : spl (cs.map g) off (vs.map g) = (spl cs off vs).map (List.map g) := by
 rw [J6Z, J6Z]
 simp only [List.length_map]
 split <;> simp [List.map_drop, List.map_take]
theorem Jc7 {n k w : Nat} {r : α → List PV} (hr : ∀ x, (r x).length = w) {v : Vector α n} {x : α} (h : v[k]? = some x) : sub (J7n r v) (k * w) w = some (r x) := by
 have key : ∀ (l : List α) (k : Nat) (x : α), l[k]? = some x → sub ((l.map r).flatten) (k * w) w = some (r x) := by
  intro l
  induction l with
  | nil => intro k x h; simp at h
  | cons y l ih =>
   intro k x h
   cases k with
   | zero =>
    simp at h; subst h
    rw [Nat.zero_mul, List.map_cons, List.flatten_cons]
    exact Jmx (hr _)
   | succ k =>
    simp at h
    have := ih k x h
    rw [List.map_cons, List.flatten_cons]
    rw [J5O] at this ⊢
    split at this
    ·injection this with this
     have e : (k + 1) * w = w + k * w := by rw [Nat.succ_mul]; omega
     rw [e, if_pos (by simp [hr]; simp at *; omega)]
     have e2 : w + k * w = (r y).length + k * w := by rw [hr]
     rw [e2, List.drop_length_add_append, this]
    ·cases this
 exact key _ _ _ (by rw [← h]; simp)
theorem JoR {n k w : Nat} {r : α → List PV} (hr : ∀ x, (r x).length = w) {v : Vector α n} (h : k < n) (y : α) : spl (J7n r v) (k * w) (r y) = some (J7n r (v.setIfInBounds k y)) := by
 have key : ∀ (l : List α) (k : Nat), k < l.length → spl ((l.map r).flatten) (k * w) (r y) = some (((l.set k y).map r).flatten) := by
  intro l
  induction l with
  | nil => intro k h; simp at h
  | cons z l ih =>
   intro k h
   cases k with
   | zero =>
    rw [Nat.zero_mul, List.map_cons, List.flatten_cons]
    rw [JmY (by rw [hr, hr])]
    simp
   | succ k =>
    simp at h
    have := ih k h
    rw [List.map_cons, List.flatten_cons]
    rw [J6Z] at this ⊢
    split at this
    ·rename_i hle
     injection this with this
     have e : (k + 1) * w = (r z).length + k * w := by rw [Nat.succ_mul, hr]; omega
     rw [e, if_pos (by simp [hr] at hle ⊢; omega)]
     simp only [List.set_cons_succ, List.map_cons, List.flatten_cons]
     rw [← this]
     rw [show (r z).length + k * w + (r y).length = (r z).length + (k * w + (r y).length) by omega]
     simp only [List.take_length_add_append, List.drop_length_add_append, List.append_assoc]
    ·cases this
 have h2 := key v.toList k (by simpa using h)
 unfold J7n
 rw [h2]
 congr 3
 simp [Vector.setIfInBounds, Vector.toList]
theorem Jte {n w : Nat} {r : α → List PV} (hr : ∀ x, (r x).length = w) (v : Vector α n) : (J7n r v).length = n * w := by
 have key : ∀ l : List α, ((l.map r).flatten).length = l.length * w := by
  intro l
  induction l with
  | nil => simp
  | cons x l ih => simp [ih, hr, Nat.succ_mul, Nat.add_comm]
 unfold J7n
 rw [key]; simp
end
theorem J9l : ∀ l : List PV, unp (l.map AV.p) = some l
 | [] => rfl
 | x :: l => by simp [unp, J9l l]
theorem Jdq (l : List PV) : J2y true (l.map AV.p) = some (.data l) := by simp [J2y, J9l]
theorem J5N : ∀ l : List PV, (l.map AV.p).all J5t = true
 | [] => rfl
 | x :: l => by simp
theorem Jhl (m : Nat) (ids : List Nat) (sto : List Blk) : ∀ l : List PV, fin.finL m ids sto (l.map AV.p) = some (l.map AV.p)
 | [] => rfl
 | x :: l => by simp [fin.finL, fin, Jhl m ids sto l]
theorem Jho (l : List PV) (acc : List Ent) : JW.entsOfL (l.map AV.p) acc = acc := Jfg (J5N l)
theorem Jod {α : Type} {r : α → List PV} {l : List α} {n : Int} {x : α} (h : idx l n = some x) : Jft (l.map r) n = some (r x) := by
 unfold idx at h
 unfold Jft
 split at h
 ·rename_i h0
  rw [if_pos h0, List.getElem?_map, h]; rfl
 ·cases h
theorem Jld {k : Nat} {n : Int} {u : Unit} (h : inb k n = some u) : 0 ≤ n ∧ n < k := by
 unfold inb at h
 split at h
 ·assumption
 ·cases h
theorem Jpc {α : Type} {k : Nat} {v : Vector α k} {n : Int} {x : α} (h : JpD v n = some x) : (0 ≤ n ∧ n < k) ∧ v[n.toNat]? = some x := by
 unfold JpD at h
 split at h
 ·exact ⟨by assumption, h⟩
 ·cases h
theorem Jr1 {α : Type} {r : α → List PV} {esz bytes b : Nat} {w : Bool} {l l' l2 : List α} {y : AV} {s : St} (h : J1V bytes l l2 = some l') (hb : s.sto[b]? = some (.arr w esz (l.map r))) (hy : (J1D esz y).run s = some (l2.map r)) :
  (J5D esz bytes (.slr b 0 l.length) y).run s = some ⟨.slr b 0 l'.length, [(b, .arr w esz (l'.map r))]⟩ := by
 unfold J1V at h
 split at h
 ·rename_i hr
  injection h with h; subst h
  simp only [J5D, J0D, hb, Option.bind_some, run_bind, hy]
  rw [if_pos ⟨by trivial, by trivial, by simp, by simpa using hr⟩]
  simp [Jh]
 ·cases h
theorem Jb4 : ∀ l : List Int, J60 (l.map (r_i .u8)) = some (toStr l)
 | [] => rfl
 | x :: l => by simp [J60, r_i, Jb4 l, toStr]
theorem JdO (l : List UInt8) : l.map J2U = (toByt l).map (r_i .u8) := by simp [toByt, J2U, r_i, Function.comp_def]
theorem JoT {α : Type} {bytes : Nat} {l l' : List α} (h : cloS bytes l = some l') : J1e l.length bytes = true ∧ l' = l := by
 unfold cloS at h
 split at h
 ·injection h with h; exact ⟨by assumption, h.symm⟩
 ·cases h
theorem Jse {α : Type} {bytes : Nat} {n m : Int} {z : α} {l : List α} (h : mkS bytes n m z = some l) : (0 ≤ n ∧ n ≤ m ∧ bytes * m ≤ 281474976710656 ∧ m ≤ 281474976710656) ∧ l = List.replicate n.toNat z := by
 unfold mkS at h
 split at h
 ·injection h with h; exact ⟨by assumption, h.symm⟩
 ·cases h
end Go.Am
end
section
set_option linter.unusedSimpArgs false
set_option linter.unusedVariables false
namespace Go.Am
open Go.RowKit
theorem JpS {σ : List Blk} {g : Gh} {w w' : World} (hi : Inv ⟨σ, g, w⟩) (hb : Below w.heap.size w w') :
  Inv ⟨σ, g, w'⟩ ∧ Js ⟨σ, g, w⟩ ⟨σ, g, w'⟩ := by
 have hk : ∀ (r : Nat) x, w.heap[r]? = some x → w'.heap[r]? = some x := fun r x h => by rw [hb.block r (J0o h)]; exact h
 have hc : ∀ r o v, cellAt w r o = some v → cellAt w' r o = some v := by
  intro r o v h
  have hr : r < w.heap.size := by
   unfold cellAt at h
   split at h
   ·rename_i hx; exact J0o hx
   ·cases h
  unfold cellAt at h ⊢
  rw [hb.block r hr]
  exact h
 have t : Js ⟨σ, g, w⟩ ⟨σ, g, w'⟩ := by
  refine ⟨⟨hb.size, fun r c e fz h => ⟨c, hk r _ h, rfl, fun _ _ => rfl⟩, fun r x h _ => hk r x h, hb.os, hb.output⟩, fun _ _ h => h, fun _ _ h => .inl h, fun r o ⟨b, hb⟩ => .inl ⟨b, hb⟩, Nat.le_refl _, fun _ cs h => ⟨⟨cs, h, rfl⟩, rfl⟩,
   fun _ wm _ rows h => ⟨wm, rows, h, id, Nat.le_refl _, fun _ => rfl⟩⟩
 exact ⟨J4U hi t (fun _ => False) (fun _ _ => ⟨rfl, rfl⟩) (fun _ r o v _ _ h => hc r o v h) (fun _ _ h => h.elim) (fun _ _ _ _ h => h.elim)
  (fun _ _ _ _ h => h.elim) (fun r o h => Nat.lt_of_lt_of_le (hi.const r o h).1 hb.size) (fun _ _ _ _ h => h.elim) (fun _ _ _ h h' => (h' h).elim), t⟩
def JdJ : PV → Option Value
 | .b x => some (.bool x)
 | .i k n => some (.int k n)
 | .s l => some (.string ⟨l.toArray⟩)
 | _ => none
theorem JpI {x : PV} {v : Value} (h : JdJ x = some v) (w : World) (C : Nat → Nat → Prop) : Jl w C x v := by
 cases x <;> simp only [JdJ, Option.some.injEq, reduceCtorEq] at h <;> subst h
 ·exact .b _
 ·exact .i _ _
 ·exact .s _
theorem Jsb {x : PV} {v v' : Value} {w : World} {C : Nat → Nat → Prop} (h : Jl w C x v) (hv : JdJ x = some v') : v = v' := by
 cases x <;> simp only [JdJ, Option.some.injEq, reduceCtorEq] at hv <;> subst hv <;> cases h <;> rfl
theorem Jsj {P : Program} {f : FuncId} {xs : List PV} {vs : List Value} {r : PV} {v : Value} {blks : List Blk}
  (hf : ∃ fn, P.funcs[f]? = some fn ∧ fn.body.isSome = true ∧ (fn.name == "runtime.NumGoroutine") = false)
  (hx : xs.mapM JdJ = some vs) (hr : JdJ r = some v)
  (hc : ∀ w, Calls P f vs.toArray w fun e w' => e = .returned v ∧ Below w.heap.size w w') :
  J2f P f (xs.map .p) blks (.p r, blks) := by
 refine ⟨hf, fun g w vals hi hl ha => ?_⟩
 have hvals : vals = vs.toArray := by
  have key : ∀ (xs : List PV) (vs vl : List Value), xs.mapM JdJ = some vs → xs.length = vl.length →
    (∀ (i : Nat) x v, (xs.map AV.p)[i]? = some x → vl[i]? = some v → Jf ⟨blks, g, w⟩ x v) → vl = vs := by
   intro xs
   induction xs with
   | nil => intro vs vl h1 h2 _; simp at h1 h2; subst h1; exact List.length_eq_zero_iff.1 h2.symm
   | cons x r ih =>
    intro vs vl h1 h2 h3
    simp only [List.mapM_cons, Option.pure_def, Option.bind_eq_bind] at h1
    obtain ⟨v0, hv0, h1⟩ := Option.bind_eq_some_iff.1 h1
    obtain ⟨vr, hvr, h1⟩ := Option.bind_eq_some_iff.1 h1
    simp only [Option.some.injEq] at h1
    subst h1
    cases vl with
    | nil => simp at h2
    | cons u ur =>
     have := h3 0 (.p x) u rfl rfl
     cases this with
     | p _ _ hp =>
      rw [Jsb hp hv0, ih vr ur hvr (by simpa using h2) (fun i x v hx hv => h3 (i + 1) x v hx hv)]
  apply Array.ext'
  rw [key xs vs vals.toList hx (by simpa using hl) (fun i x v h1 h2 => ha i x v h1 (by simpa using h2))]
 subst hvals
 refine (hc w).mono ?_
 rintro e w' ⟨rfl, hb⟩
 obtain ⟨hi', t⟩ := JpS hi hb
 exact ⟨v, g, rfl, hi', t, .p _ _ (JpI hr _ _)⟩
theorem Jaz {T : J21} {f : FuncId} {g : List AV → List Blk → Option Res} (h : T f = some (.prim g)) (args blks) : AF T f args blks = g args blks := by
 unfold AF J7z; rw [h]
def JpF (a : Option AFn) (k : Option J5l) (g q : Option (List AV → List Blk → Option Res)) : Option Jmo :=
 match a with
 | some a => some (.fn a)
 | none => match k with
  | some k => some (.fork k)
  | none => match g with
   | some g => some (.prim g)
   | none => q.map .prim
theorem J3g {a : Option AFn} {k : Option J5l} {g q : Option (List AV → List Blk → Option Res)} {e : Jmo} (h : JpF a k g q = some e) :
  (∃ x, a = some x ∧ e = .fn x) ∨ (∃ x, k = some x ∧ e = .fork x) ∨ (∃ x, g = some x ∧ e = .prim x) ∨ (∃ x, q = some x ∧ e = .prim x) := by
 cases a with
 | some a => exact .inl ⟨a, rfl, by injection h with h; exact h.symm⟩
 | none =>
  cases k with
  | some k => exact .inr (.inl ⟨k, rfl, by injection h with h; exact h.symm⟩)
  | none =>
   cases g with
   | some g => exact .inr (.inr (.inl ⟨g, rfl, by injection h with h; exact h.symm⟩))
   | none =>
    cases q with
    | some q => exact .inr (.inr (.inr ⟨q, rfl, by injection h with h; exact h.symm⟩))
    | none => cases h
def JiL (l : List UInt8) (n : Int) : Option (List UInt8) :=
 if 0 ≤ n ∧ n ≤ 9223372036854775807 ∧ l.length * n.toNat ≤ 140737488355328 then some (List.replicate n.toNat l).flatten else none
def Jj0 : List AV → List Blk → Option Res
 | [.p (.s l), .p (.i .i64 n)], blks => (JiL l n).map fun r => (.p (.s r), blks)
 | _, _ => none
theorem Ju0 (x y : Bool) : J0L [.b] [.b x] [.b y] = some (decide (x = y)) := by
 simp only [J0L, JaY]
 cases x <;> cases y <;> rfl
theorem JtM (k : IntKind) (x y : Int) : J0L [.i k] [.i k x] [.i k y] = some (decide (x = y)) := by
 by_cases h : x = y <;> simp [J0L, JaY, h]
theorem JtR (x y : List UInt8) : J0L [.s] [.s x] [.s y] = some (decide (x = y)) := by
 by_cases h : x = y <;> simp [J0L, JaY, h]
theorem Jls {p q : Prop} [Decidable p] [Decidable q] : ∀ {k1 k2 : List KD} {a1 a2 b1 b2 : List PV}, J0L k1 a1 b1 = some (decide p) → J0L k2 a2 b2 = some (decide q) → J0L (k1 ++ k2) (cat a1 a2) (cat b1 b2) = some (decide (p ∧ q)) := by
 have key : ∀ (k1 k2 : List KD) (a1 a2 b1 b2 : List PV) (r s : Bool), J0L k1 a1 b1 = some r → J0L k2 a2 b2 = some s → J0L (k1 ++ k2) (a1 ++ a2) (b1 ++ b2) = some (r && s) := by
  intro k1
  induction k1 with
  | nil =>
   intro k2 a1 a2 b1 b2 r s h1 h2
   cases a1 <;> cases b1 <;> simp [J0L] at h1
   subst h1
   simpa using h2
  | cons k ks ih =>
   intro k2 a1 a2 b1 b2 r s h1 h2
   cases a1 with
   | nil => simp [J0L] at h1
   | cons a a1 =>
    cases b1 with
    | nil => simp [J0L] at h1
    | cons b b1 =>
     simp only [J0L] at h1
     split at h1
     ·rename_i u c hu hc
      injection h1 with h1
      subst h1
      simp only [List.cons_append, J0L, hu, ih _ _ _ _ _ _ _ hc h2, Bool.and_assoc]
     ·cases h1
 intro k1 k2 a1 a2 b1 b2 h1 h2
 rw [key _ _ _ _ _ _ _ _ h1 h2, Bool.decide_and]
theorem Jty {α : Type} [DecidableEq α] {n : Nat} {ks : List KD} {r : α → List PV} (h : ∀ x y, J0L ks (r x) (r y) = some (decide (x = y))) (v w : Vector α n) :
  J0L (List.replicate n ks).flatten (J7n r v) (J7n r w) = some (decide (v = w)) := by
 have key : ∀ (l l' : List α), l.length = l'.length → J0L (List.replicate l.length ks).flatten (l.map r).flatten (l'.map r).flatten = some (decide (l = l')) := by
  intro l
  induction l with
  | nil => intro l' h1; cases l' with
   | nil => simp [J0L]
   | cons a l' => simp at h1
  | cons a l ih =>
   intro l' h1
   cases l' with
   | nil => simp at h1
   | cons b l' =>
    have h2 := Jls (h a b) (ih l' (by simpa using h1))
    simp only [List.length_cons, List.replicate_succ, List.flatten_cons, List.map_cons]
    rw [show (decide (a :: l = b :: l')) = decide (a = b ∧ l = l') by simp]
    exact h2
 have h3 := key v.toList w.toList (by simp)
 rw [show v.toList.length = n by simp] at h3
 rw [show decide (v = w) = decide (v.toList = w.toList) by
  apply decide_eq_decide.2
  exact ⟨fun e => by rw [e], fun e => Vector.toList_inj.1 e⟩]
 exact h3
end Go.Am
end
section
namespace Go.Am
def J9 (k : IntKind) (a c : Int) : Int := k.wrap (a + c)
def J23 (k : IntKind) (a c : Int) : Int := k.wrap (a - c)
def JjP (k : IntKind) (a c : Int) : Int := k.wrap (a * c)
def Juv (k : IntKind) (n : Int) : Int := k.wrap (0 - n)
def cvI (k : IntKind) (n : Int) : Int := k.wrap n
def eqI (a c : Int) : Bool := decide (a = c)
def neI (a c : Int) : Bool := !decide (a = c)
def ltI (a c : Int) : Bool := decide (a < c)
def leI (a c : Int) : Bool := decide (a ≤ c)
def gtI (a c : Int) : Bool := decide (a > c)
def geI (a c : Int) : Bool := decide (a ≥ c)
def eqS (a c : List UInt8) : Bool := decide (a = c)
def neS (a c : List UInt8) : Bool := !decide (a = c)
def ltS (a c : List UInt8) : Bool := Op.bytesLess a c
def leS (a c : List UInt8) : Bool := Op.bytesLess a c || decide (a = c)
def gtS (a c : List UInt8) : Bool := !(Op.bytesLess a c || decide (a = c))
def geS (a c : List UInt8) : Bool := !Op.bytesLess a c
def eqB (a c : Bool) : Bool := decide (a = c)
def J0A (x : Bool) : Bool := !x
def J5 {α : Type} (l : List α) : Int := l.length
def Jue {α : Type} (c : Bool) (x y : α) : α := if c = true then x else y
def lat {α : Type} (l : List α) (i : Nat) : Option α := l[i]?
def J3n {α : Type} (l : List α) (i : Nat) (x : α) : List α := l.set i x
def vat {α : Type} {n : Nat} (l : Vector α n) (i : Nat) : Option α := l[i]?
def Jsy {α : Type} {n : Nat} (l : Vector α n) (i : Nat) (x : α) : Vector α n := l.setIfInBounds i x
inductive Ty where
 | b
 | i (k : IntKind)
 | s
 | l (t : Ty)
 | pr (a c : Ty)
 | ar (n : Nat) (t : Ty)
 | u
 | f
 deriving DecidableEq
@[reducible] def Ty.D : Ty → Type
 | .b => Bool
 | .i _ => Int
 | .s => List UInt8
 | .l t => List t.D
 | .pr a c => a.D × c.D
 | .ar n t => Vector t.D n
 | .u => Unit
 | .f => Unit
def Ty.sz : Ty → Nat
 | .b => 1
 | .i _ => 1
 | .s => 1
 | .l _ => 1
 | .pr a c => a.sz + c.sz
 | .ar n t => n * t.sz
 | .u => 0
 | .f => 1
def cel : (t : Ty) → t.D → List PV
 | .b, x => [.b x]
 | .i k, x => [.i k x]
 | .s, x => [.s x]
 | .l t, x => [.sl t.sz (x.map (cel t))]
 | .pr a c, x => cel a x.1 ++ cel c x.2
 | .ar _ t, x => J7n (cel t) x
 | .u, _ => []
 | .f, _ => [.nf]
theorem J0m : ∀ (t : Ty) (x : t.D), (cel t x).length = t.sz
 | .b, _ => rfl
 | .i _, _ => rfl
 | .s, _ => rfl
 | .l _, _ => rfl
 | .pr a c, x => by simp only [cel, List.length_append, J0m a, J0m c, Ty.sz]
 | .ar n t, x => by simp only [cel, Ty.sz]; exact Jte (J0m t) x
 | .u, _ => rfl
 | .f, _ => rfl
def Ty.eqd : (t : Ty) → DecidableEq t.D
 | .b => inferInstanceAs (DecidableEq Bool)
 | .i _ => inferInstanceAs (DecidableEq Int)
 | .s => inferInstanceAs (DecidableEq (List UInt8))
 | .l t => have := t.eqd; inferInstanceAs (DecidableEq (List t.D))
 | .pr a c => have := a.eqd; have := c.eqd; inferInstanceAs (DecidableEq (a.D × c.D))
 | .ar n t => have := t.eqd; inferInstanceAs (DecidableEq (Vector t.D n))
 | .u => inferInstanceAs (DecidableEq Unit)
 | .f => inferInstanceAs (DecidableEq Unit)
def eqT (t : Ty) (x y : t.D) : Bool := have := t.eqd; decide (x = y)
theorem J77 {t : Ty} {x y : t.D} : eqT t x y = true ↔ x = y := by simp [eqT]
def Ty.zero : (t : Ty) → t.D
 | .b => false
 | .i _ => (0 : Int)
 | .s => []
 | .l _ => []
 | .pr a c => (a.zero, c.zero)
 | .ar n t => Vector.replicate n t.zero
 | .u => ()
 | .f => ()
def Ty.ks : Ty → Option (List KD)
 | .b => some [.b]
 | .i k => some [.i k]
 | .s => some [.s]
 | .l _ => none
 | .pr a c => match a.ks, c.ks with
  | some x, some y => some (x ++ y)
  | _, _ => none
 | .ar n t => match t.ks with
  | some x => some (List.replicate n x).flatten
  | none => none
 | .u => some []
 | .f => none
theorem JcE : ∀ (t : Ty) {ks : List KD} (x y : t.D), t.ks = some ks → J0L ks (cel t x) (cel t y) = some (eqT t x y)
 | .b, ks, x, y, h => by injection h with h; subst h; exact Ju0 x y
 | .i k, ks, x, y, h => by injection h with h; subst h; exact JtM k x y
 | .s, ks, x, y, h => by injection h with h; subst h; exact JtR x y
 | .l _, _, _, _, h => by cases h
 | .pr a c, ks, x, y, h => by
  simp only [Ty.ks] at h
  split at h
  ·rename_i p q hp hq
   injection h with h; subst h
   have h1 := JcE a x.1 y.1 hp
   have h2 := JcE c x.2 y.2 hq
   unfold eqT at h1 h2
   have e1 : (have := a.eqd; decide (x.1 = y.1)) = @decide _ (a.eqd x.1 y.1) := rfl
   have := @Jls _ _ (a.eqd x.1 y.1) (c.eqd x.2 y.2) _ _ _ _ _ _ h1 h2
   simp only [cel]
   refine this.trans (congrArg some ?_)
   unfold eqT
   apply decide_eq_decide.2
   exact ⟨fun ⟨e, f⟩ => Prod.ext e f, fun e => by rw [e]; exact ⟨rfl, rfl⟩⟩
  ·cases h
 | .ar n t, ks, x, y, h => by
  simp only [Ty.ks] at h
  split at h
  ·rename_i p hp
   injection h with h; subst h
   have := @Jty t.D t.eqd n p (cel t) (fun x y => by have := JcE t x y hp; exact this) x y
   simp only [cel]
   refine this.trans (congrArg some ?_)
   unfold eqT
   apply decide_eq_decide.2
   rfl
  ·cases h
 | .u, ks, x, y, h => by injection h with h; subst h; rfl
 | .f, _, _, _, h => by cases h
inductive Sp where
 | f (off : Nat)
 | a (i esz : Nat)
 deriving DecidableEq
def spo : List Sp → Nat
 | [] => 0
 | .f o :: r => o + spo r
 | .a i e :: r => i * e + spo r
def spf : Nat → List Sp → Nat × List Sp
 | o, .f k :: r => spf (o + k) r
 | o, r => (o, r)
theorem Ji5 : ∀ (o : Nat) (p : List Sp), (spf o p).1 + spo (spf o p).2 = o + spo p
 | o, [] => rfl
 | o, .f k :: r => by simp only [spf, Ji5, spo]; omega
 | o, .a i e :: r => rfl
section
variable {R : Type}
def prt : (t : Ty) → t.D → (off : Nat) → List Sp → (w : Ty) → (w.D → Option R) → Option R
 | t, x, off, p, w, k =>
  if h : t = w ∧ off = 0 ∧ p = [] then k (h.1 ▸ x)
  else match t, x with
   | .pr a c, x => if off + (if p = [] then w.sz else 1) ≤ a.sz then prt a x.1 off p w k
    else if a.sz ≤ off then prt c x.2 (off - a.sz) p w k
    else none
   | .ar _ t, x => if p = [] then (vat x (off / t.sz)).bind fun y => prt t y (off % t.sz) p w k
    else match off, p with
     | 0, .a i e :: r => if e = t.sz then (vat x i).bind fun y => prt t y (spf 0 r).1 (spf 0 r).2 w k else none
     | _, _ => none
   | _, _ => none
def pst : (t : Ty) → t.D → (off : Nat) → List Sp → (w : Ty) → w.D → (t.D → Option R) → Option R
 | t, x, off, p, w, v, k =>
  if h : t = w ∧ off = 0 ∧ p = [] then k (h.1.symm ▸ v)
  else match t, x, k with
   | .pr a c, x, k => if off + (if p = [] then w.sz else 1) ≤ a.sz then pst a x.1 off p w v fun y => k (y, x.2)
    else if a.sz ≤ off then pst c x.2 (off - a.sz) p w v fun y => k (x.1, y)
    else none
   | .ar _ t, x, k => if p = [] then (vat x (off / t.sz)).bind fun y => pst t y (off % t.sz) p w v fun y => k (Jsy x (off / t.sz) y)
    else match off, p with
     | 0, .a i e :: r => if e = t.sz then (vat x i).bind fun y => pst t y (spf 0 r).1 (spf 0 r).2 w v fun y => k (Jsy x i y) else none
     | _, _ => none
   | _, _, _ => none
end
theorem JpP {α : Type} {a b v : List α} {off n : Nat} (h : sub a off n = some v) : sub (a ++ b) off n = some v := by
 rw [J5O] at h ⊢
 split at h
 ·rename_i hl
  injection h with h
  rw [if_pos (by simp; omega), ← h, List.drop_append_of_le_length (by omega), List.take_append_of_le_length (by simp; omega)]
 ·cases h
theorem JnF {α : Type} {a b v : List α} {off n : Nat} (h0 : a.length ≤ off) (h : sub b (off - a.length) n = some v) : sub (a ++ b) off n = some v := by
 rw [J5O] at h ⊢
 split at h
 ·injection h with h
  rw [if_pos (by simp; omega), ← h, List.drop_append, List.drop_of_length_le h0]
  simp
 ·cases h
theorem Jpy {α : Type} {a b v a' : List α} {off : Nat} (h : spl a off v = some a') : spl (a ++ b) off v = some (a' ++ b) := by
 rw [J6Z] at h ⊢
 split at h
 ·rename_i hl
  injection h with h
  rw [if_pos (by simp; omega), ← h, List.take_append_of_le_length (by omega), List.drop_append_of_le_length (by omega)]
  simp
 ·cases h
theorem Jow {α : Type} {a b v b' : List α} {off : Nat} (h0 : a.length ≤ off) (h : spl b (off - a.length) v = some b') : spl (a ++ b) off v = some (a ++ b') := by
 rw [J6Z] at h ⊢
 split at h
 ·injection h with h
  rw [if_pos (by simp; omega), ← h, List.take_append, List.take_of_length_le h0, List.drop_append, List.drop_of_length_le (by omega)]
  simp
  omega
 ·cases h
theorem Jlw {α : Type} {n i : Nat} {x : Vector α n} {y : α} (h : x[i]? = some y) : i < n := by
 rcases Nat.lt_or_ge i n with h1 | h1
 ·exact h1
 ·rw [Vector.getElem?_eq_none h1] at h; cases h
theorem J6W {R : Type} {t w : Ty} {x : t.D} {off : Nat} {p : List Sp} {k : w.D → Option R} {r : R} (h0 : t = w ∧ off = 0 ∧ p = []) (h : k (h0.1 ▸ x) = some r) :
  ∃ y, sub (cel t x) (off + spo p) w.sz = some (cel w y) ∧ k y = some r := by
 obtain ⟨rfl, rfl, rfl⟩ := h0
 exact ⟨x, by simpa [spo] using Jgf (J0m _ x), h⟩
theorem J71 {R : Type} {t w : Ty} {x : t.D} {off : Nat} {p : List Sp} {v : w.D} {k : t.D → Option R} {r : R} (h0 : t = w ∧ off = 0 ∧ p = []) (h : k (h0.1.symm ▸ v) = some r) :
  ∃ y, spl (cel t x) (off + spo p) (cel w v) = some (cel t y) ∧ k y = some r := by
 obtain ⟨rfl, rfl, rfl⟩ := h0
 exact ⟨v, by simpa [spo] using Jln ((J0m _ x).trans (J0m _ v).symm), h⟩
theorem J78 {R : Type} : ∀ {t : Ty} {x : t.D} {off : Nat} {p : List Sp} {w : Ty} {k : w.D → Option R} {r : R}, prt t x off p w k = some r →
  ∃ y, sub (cel t x) (off + spo p) w.sz = some (cel w y) ∧ k y = some r
 | .pr a c, x, off, p, w, k, r, h => by
  unfold prt at h
  by_cases h0 : Ty.pr a c = w ∧ off = 0 ∧ p = []
  ·rw [dif_pos h0] at h; exact J6W h0 h
  ·rw [dif_neg h0] at h
   dsimp only at h
   by_cases h1 : off + (if p = [] then w.sz else 1) ≤ a.sz
   ·rw [if_pos h1] at h
    obtain ⟨y, q1, q2⟩ := J78 h
    exact ⟨y, JpP q1, q2⟩
   ·rw [if_neg h1] at h
    by_cases h2 : a.sz ≤ off
    ·rw [if_pos h2] at h
     obtain ⟨y, q1, q2⟩ := J78 h
     refine ⟨y, JnF (by rw [J0m]; omega) ?_, q2⟩
     rw [J0m, show off + spo p - a.sz = off - a.sz + spo p by omega]
     exact q1
    ·rw [if_neg h2] at h; cases h
 | .ar n t, x, off, p, w, k, r, h => by
  unfold prt at h
  by_cases h0 : Ty.ar n t = w ∧ off = 0 ∧ p = []
  ·rw [dif_pos h0] at h; exact J6W h0 h
  ·rw [dif_neg h0] at h
   dsimp only at h
   by_cases hp : p = []
   ·rw [if_pos hp] at h
    obtain ⟨z, hz, h⟩ := Option.bind_eq_some_iff.1 h
    obtain ⟨y, h1, h2⟩ := J78 h
    refine ⟨y, ?_, h2⟩
    have := Jli (Jc7 (J0m t) hz) h1
    rw [← this, hp]
    simp only [spo, Nat.add_zero]
    show sub (J7n (cel t) x) _ _ = _
    congr 1
    rw [Nat.mul_comm]; exact (Nat.div_add_mod off t.sz).symm
   ·rw [if_neg hp] at h
    split at h
    ·rename_i _ i e q _
     split at h
     ·rename_i he
      obtain ⟨z, hz, h⟩ := Option.bind_eq_some_iff.1 h
      obtain ⟨y, h1, h2⟩ := J78 h
      refine ⟨y, ?_, h2⟩
      have := Jli (Jc7 (J0m t) hz) h1
      rw [← this]
      show sub (J7n (cel t) x) _ _ = _
      congr 1
      have := Ji5 0 q
      simp only [spo, he]
      omega
     ·cases h
    ·cases h
 | .b, x, off, p, w, k, r, h => by
  unfold prt at h
  split at h
  next h0 => exact J6W h0 h
  next => cases h
 | .i _, x, off, p, w, k, r, h => by
  unfold prt at h
  split at h
  next h0 => exact J6W h0 h
  next => cases h
 | .s, x, off, p, w, k, r, h => by
  unfold prt at h
  split at h
  next h0 => exact J6W h0 h
  next => cases h
 | .l _, x, off, p, w, k, r, h => by
  unfold prt at h
  split at h
  next h0 => exact J6W h0 h
  next => cases h
 | .u, x, off, p, w, k, r, h => by
  unfold prt at h
  split at h
  next h0 => exact J6W h0 h
  next => cases h
 | .f, x, off, p, w, k, r, h => by
  unfold prt at h
  split at h
  next h0 => exact J6W h0 h
  next => cases h
theorem J7Q {R : Type} : ∀ {t : Ty} {x : t.D} {off : Nat} {p : List Sp} {w : Ty} {v : w.D} {k : t.D → Option R} {r : R}, pst t x off p w v k = some r →
  ∃ y, spl (cel t x) (off + spo p) (cel w v) = some (cel t y) ∧ k y = some r
 | .pr a c, x, off, p, w, v, k, r, h => by
  unfold pst at h
  by_cases h0 : Ty.pr a c = w ∧ off = 0 ∧ p = []
  ·rw [dif_pos h0] at h; exact J71 h0 h
  ·rw [dif_neg h0] at h
   dsimp only at h
   by_cases h1 : off + (if p = [] then w.sz else 1) ≤ a.sz
   ·rw [if_pos h1] at h
    obtain ⟨y, q1, q2⟩ := J7Q h
    exact ⟨(y, x.2), Jpy q1, q2⟩
   ·rw [if_neg h1] at h
    by_cases h2 : a.sz ≤ off
    ·rw [if_pos h2] at h
     obtain ⟨y, q1, q2⟩ := J7Q h
     refine ⟨(x.1, y), Jow (by rw [J0m]; omega) ?_, q2⟩
     rw [J0m, show off + spo p - a.sz = off - a.sz + spo p by omega]
     exact q1
    ·rw [if_neg h2] at h; cases h
 | .ar n t, x, off, p, w, v, k, r, h => by
  unfold pst at h
  by_cases h0 : Ty.ar n t = w ∧ off = 0 ∧ p = []
  ·rw [dif_pos h0] at h; exact J71 h0 h
  ·rw [dif_neg h0] at h
   dsimp only at h
   by_cases hp : p = []
   ·rw [if_pos hp] at h
    obtain ⟨z, hz, h⟩ := Option.bind_eq_some_iff.1 h
    obtain ⟨y, h1, h2⟩ := J7Q h
    refine ⟨_, ?_, h2⟩
    have := JlT (Jc7 (J0m t) hz) h1 (JoR (J0m t) (Jlw hz) y)
    subst hp
    simp only [spo, Nat.add_zero] at this ⊢
    rw [Nat.mul_comm, Nat.div_add_mod] at this
    exact this
   ·rw [if_neg hp] at h
    split at h
    ·rename_i _ i e q _
     split at h
     ·rename_i he
      obtain ⟨z, hz, h⟩ := Option.bind_eq_some_iff.1 h
      obtain ⟨y, h1, h2⟩ := J7Q h
      refine ⟨_, ?_, h2⟩
      have := JlT (Jc7 (J0m t) hz) h1 (JoR (J0m t) (Jlw hz) y)
      have e1 := Ji5 0 q
      simp only [spo, he]
      rw [show i * t.sz + ((spf 0 q).1 + spo (spf 0 q).2) = 0 + (i * t.sz + spo q) by omega] at this
      exact this
     ·cases h
    ·cases h
 | .b, x, off, p, w, v, k, r, h => by
  unfold pst at h
  split at h
  next h0 => exact J71 h0 h
  next => cases h
 | .i _, x, off, p, w, v, k, r, h => by
  unfold pst at h
  split at h
  next h0 => exact J71 h0 h
  next => cases h
 | .s, x, off, p, w, v, k, r, h => by
  unfold pst at h
  split at h
  next h0 => exact J71 h0 h
  next => cases h
 | .l _, x, off, p, w, v, k, r, h => by
  unfold pst at h
  split at h
  next h0 => exact J71 h0 h
  next => cases h
 | .u, x, off, p, w, v, k, r, h => by
  unfold pst at h
  split at h
  next h0 => exact J71 h0 h
  next => cases h
 | .f, x, off, p, w, v, k, r, h => by
  unfold pst at h
  split at h
  next h0 => exact J71 h0 h
  next => cases h
end Go.Am
end
section
namespace Go.Am
inductive TC where
 | d (t : Ty) (x : t.D)
 | sc (t : Ty) (rows : List t.D)
 | np
 | nf
 | un
 | ptr (b : Nat) (p : List Sp)
 | cp (t : Ty) (x : t.D) (p : List Sp)
 | slr (b : Nat)
 | slo (b n : Nat)
 | ep (b i : Nat) (p : List Sp)
 | epo (b e i : Nat) (p : List Sp)
 | fn (f : FuncId)
inductive TA where
 | c (x : TC)
 | dt (t : Ty) (x : t.D)
 | m (t : Ty) (cs : List TC)
 | fn (f : FuncId) (first caps : List TC)
inductive TV where
 | a (x : TA)
 | tup (vs : List TA)
inductive TB where
 | dead
 | box (t : Ty) (x : t.D)
 | mbox (t : Ty) (cs : List TC)
 | arr (w : Bool) (t : Ty) (rows : List t.D)
structure TSt where
 env : List (Nat × TV)
 sto : List TB
def hdP : List PV → PV
 | [c] => c
 | _ => .np
def lnB : TB → Nat
 | .arr _ _ rows => rows.length
 | _ => 0
def lnO : Option TB → Nat
 | some x => lnB x
 | none => 0
def lns (sto : List TB) (b : Nat) : Nat := lnO sto[b]?
section
variable (L : Nat → Nat)
def Jr : TC → AV
 | .d t x => .p (hdP (cel t x))
 | .sc t rows => .p (.slc t.sz (rows.map (cel t)))
 | .np => .p .np
 | .nf => .p .nf
 | .un => .unk
 | .ptr b p => .ptr b (spo p)
 | .cp t x p => .cp (cel t x) (spo p)
 | .slr b => .slr b 0 (L b)
 | .slo b n => .slr b 0 n
 | .ep b i p => .ep b (L b) i (spo p)
 | .epo b e i p => .ep b e i (spo p)
 | .fn f => .fn f [] []
def J0j : TA → AV
 | .c x => Jr L x
 | .dt t x => .data (cel t x)
 | .m _ cs => .agg (cs.map (Jr L))
 | .fn f a c => .fn f (a.map (Jr L)) (c.map (Jr L))
def Jp : TV → AV
 | .a x => J0j L x
 | .tup vs => .tup (vs.map (J0j L))
def JF : TB → Blk
 | .dead => .dead
 | .box t x => .box ((cel t x).map .p)
 | .mbox _ cs => .box (cs.map (Jr L))
 | .arr w t rows => .arr w t.sz (rows.map (cel t))
end
def J2X (L : Nat → Nat) (env : List (Nat × TV)) : List (Nat × AV) := env.map fun x => (x.1, Jp L x.2)
def Jb (s : TSt) : St := ⟨J2X (lns s.sto) s.env, s.sto.map (JF (lns s.sto))⟩
section
variable (L : Nat → Nat)
theorem Jaw (t x) : JF L (.box t x) = .box ((cel t x).map .p) := rfl
theorem JaO (t cs) : JF L (.mbox t cs) = .box (cs.map (Jr L)) := rfl
theorem Jjt (w t rows) : JF L (.arr w t rows) = .arr w t.sz (rows.map (cel t)) := rfl
theorem J4I (b p) : Jp L (.a (.c (.ptr b p))) = .ptr b (spo p) := rfl
theorem J7D (t x p) : Jp L (.a (.c (.cp t x p))) = .cp (cel t x) (spo p) := rfl
theorem J3j (b) : Jp L (.a (.c (.slr b))) = .slr b 0 (L b) := rfl
theorem J7U (b i p) : Jp L (.a (.c (.ep b i p))) = .ep b (L b) i (spo p) := rfl
theorem e_i (k x) : Jp L (.a (.c (.d (.i k) x))) = .p (.i k x) := rfl
theorem e_b (x) : Jp L (.a (.c (.d .b x))) = .p (.b x) := rfl
theorem e_s (x) : Jp L (.a (.c (.d .s x))) = .p (.s x) := rfl
theorem e_l (t x) : Jp L (.a (.c (.d (.l t) x))) = .p (.sl t.sz (x.map (cel t))) := rfl
theorem Jt5 (f) : Jp L (.a (.c (.fn f))) = .fn f [] [] := rfl
theorem Jmr (t x) : Jp L (.a (.dt t x)) = .data (cel t x) := rfl
theorem JpW (f a c) : Jp L (.a (.fn f a c)) = .fn f (a.map (Jr L)) (c.map (Jr L)) := rfl
theorem e_m (t cs) : Jp L (.a (.m t cs)) = .agg (cs.map (Jr L)) := rfl
end
theorem Jk3 {t : Ty} (h : t.sz = 1) (x : t.D) : cel t x = [hdP (cel t x)] := by
 have := J0m t x
 rw [h] at this
 match hc : cel t x, this with
 | [c], _ => rfl
def kC (b n : Nat) : TC → TC
 | .slr c => if c = b then .slo b n else .slr c
 | .ep c i p => if c = b then .epo b n i p else .ep c i p
 | x => x
def kA (b n : Nat) : TA → TA
 | .c x => .c (kC b n x)
 | .dt t x => .dt t x
 | .m t cs => .m t (cs.map (kC b n))
 | .fn f a c => .fn f (a.map (kC b n)) (c.map (kC b n))
def kV (b n : Nat) : TV → TV
 | .a x => .a (kA b n x)
 | .tup vs => .tup (vs.map (kA b n))
def kB (b n : Nat) : TB → TB
 | .mbox t cs => .mbox t (cs.map (kC b n))
 | x => x
def wS (b : Nat) (x : TB) (s : TSt) : TSt := ⟨s.env, s.sto.set b x⟩
def wN (b : Nat) (x : TB) (s : TSt) : TSt :=
 ⟨s.env.map fun y => (y.1, kV b (lns s.sto b) y.2), (s.sto.map (kB b (lns s.sto b))).set b x⟩
def JL (d : Option Nat) (v : TV) (s : TSt) : TSt :=
 match d with
 | some d => ⟨(d, v) :: s.env, s.sto⟩
 | none => s
section
variable {L L' : Nat → Nat} {b : Nat}
theorem k_C (h : ∀ c, c ≠ b → L' c = L c) (x : TC) : Jr L' (kC b (L b) x) = Jr L x := by
 cases x with
 | slr c =>
  by_cases e : c = b
  ·subst e; simp only [kC, if_pos, Jr]
  ·simp only [kC, if_neg e, Jr, h c e]
 | ep c i p =>
  by_cases e : c = b
  ·subst e; simp only [kC, if_pos, Jr]
  ·simp only [kC, if_neg e, Jr, h c e]
 | _ => rfl
theorem Jta (h : ∀ c, c ≠ b → L' c = L c) (xs : List TC) : (xs.map (kC b (L b))).map (Jr L') = xs.map (Jr L) := by
 rw [List.map_map]; exact List.map_congr_left fun x _ => k_C h x
theorem k_A (h : ∀ c, c ≠ b → L' c = L c) (x : TA) : J0j L' (kA b (L b) x) = J0j L x := by
 cases x <;> simp only [kA, J0j, k_C h, Jta h]
theorem k_V (h : ∀ c, c ≠ b → L' c = L c) (x : TV) : Jp L' (kV b (L b) x) = Jp L x := by
 cases x <;> simp only [kV, Jp, k_A h, List.map_map, Function.comp_def]
theorem k_B (h : ∀ c, c ≠ b → L' c = L c) (x : TB) : JF L' (kB b (L b) x) = JF L x := by
 cases x <;> simp only [kB, JF, Jta h]
theorem JsZ (b n : Nat) (x : TB) : lnB (kB b n x) = lnB x := by cases x <;> rfl
theorem Jtb (sto : List TB) (b n c : Nat) : lns (sto.map (kB b n)) c = lns sto c := by
 unfold lns
 rw [List.getElem?_map]
 cases sto[c]? with
 | none => rfl
 | some x => exact JsZ b n x
theorem Jm2 (sto : List TB) (b : Nat) (x : TB) (c : Nat) (h : c ≠ b) : lns (sto.set b x) c = lns sto c := by
 unfold lns
 rw [List.getElem?_set_ne (fun e => h e.symm)]
theorem Jkf {sto : List TB} {b : Nat} (h : b < sto.length) (x : TB) : lns (sto.set b x) b = lnB x := by
 unfold lns
 rw [List.getElem?_set_self h]; rfl
theorem JqR (b : Nat) (x : TB) (s : TSt) : Jb (wN b x s) = ⟨(Jb s).env, (Jb s).sto.set b (JF (lns (wN b x s).sto) x)⟩ := by
 have h : ∀ c, c ≠ b → lns (wN b x s).sto c = lns s.sto c := fun c hc => by
  unfold wN
  rw [Jm2 _ _ _ _ hc, Jtb]
 unfold Jb
 congr 1
 ·show J2X _ (s.env.map fun y => (y.1, kV b (lns s.sto b) y.2)) = J2X _ s.env
  unfold J2X
  rw [List.map_map]
  exact List.map_congr_left fun y _ => by simp only [Function.comp, k_V h]
 ·show ((s.sto.map (kB b (lns s.sto b))).set b x).map _ = _
  rw [List.map_set, List.map_map]
  congr 1
  exact List.map_congr_left fun y _ => k_B h y
theorem Jay {b : Nat} {x : TB} {s : TSt} (h : lnB x = lns s.sto b) : lns (wS b x s).sto = lns s.sto := by
 funext c
 by_cases hc : c = b
 ·subst hc
  unfold wS
  rcases Nat.lt_or_ge c s.sto.length with hl | hl
  ·rw [Jkf hl, h]
  ·rw [List.set_eq_of_length_le hl]
 ·exact Jm2 _ _ _ _ hc
theorem Jbl {b : Nat} {x : TB} {s : TSt} (h : lnB x = lns s.sto b) : Jb (wS b x s) = ⟨(Jb s).env, (Jb s).sto.set b (JF (lns s.sto) x)⟩ := by
 unfold Jb
 rw [Jay h]
 unfold wS
 rw [List.map_set]
theorem J6l {s s1 : TSt} {ws : List (Nat × Blk)} (h : Jb s1 = ⟨(Jb s).env, upd ws (Jb s).sto⟩) (d : Option Nat) (v : TV) : put d ⟨Jp (lns s1.sto) v, ws⟩ (Jb s) = Jb (JL d v s1) := by
 cases d with
 | none => exact h.symm
 | some d =>
  simp only [put, JL]
  have h1 : (Jb s1).env = (Jb s).env := by rw [h]
  have h2 : (Jb s1).sto = upd ws (Jb s).sto := by rw [h]
  unfold Jb at h1 h2 ⊢
  simp only [J2X, List.map_cons] at h1 h2 ⊢
  rw [h1, h2]
end
theorem Jam {s : TSt} (d : Option Nat) (v : TV) : put d ⟨Jp (lns s.sto) v, []⟩ (Jb s) = Jb (JL d v s) := J6l rfl d v
def tlk (n : Nat) : List (Nat × TV) → Option TV
 | [] => none
 | (m, v) :: r => if n = m then some v else tlk n r
theorem J9h (L : Nat → Nat) (n : Nat) : ∀ env : List (Nat × TV), lk n (J2X L env) = (tlk n env).map (Jp L)
 | [] => rfl
 | (m, v) :: r => by
  simp only [J2X, List.map_cons, lk, tlk]
  split
  ·rfl
  ·exact J9h L n r
theorem J0O (s : TSt) (b : Nat) : (Jb s).sto[b]? = (s.sto[b]?).map (JF (lns s.sto)) := by
 unfold Jb; rw [List.getElem?_map]
theorem J3P {sto : List TB} {b : Nat} {w : Bool} {t : Ty} {rows : List t.D} (h : sto[b]? = some (.arr w t rows)) : lns sto b = rows.length := by
 unfold lns; rw [h]; rfl
inductive TO where
 | t (n : Nat)
 | c (x : TV)
def erO : TO → Opd
 | .t n => .t n
 | .c x => .c (Jp (fun _ => 0) x)
def JqX : TC → Bool
 | .d _ _ | .sc _ _ | .np | .nf | .un | .fn _ => true
 | _ => false
def Ji8 : TA → Bool
 | .c x => JqX x
 | .dt _ _ => true
 | .m _ _ => false
 | .fn _ a c => a.isEmpty && c.isEmpty
def JcZ : TV → Bool
 | .a x => Ji8 x
 | .tup vs => vs.isEmpty
theorem JpY {L L' : Nat → Nat} {v : TV} (h : JcZ v = true) : Jp L v = Jp L' v := by
 cases v with
 | a x =>
  cases x with
  | c x => cases x <;> first | rfl | (simp [JcZ, Ji8, JqX] at h)
  | dt t x => rfl
  | m t cs => simp [JcZ, Ji8] at h
  | fn f a c =>
   simp [JcZ, Ji8] at h
   obtain ⟨rfl, rfl⟩ := h
   rfl
 | tup vs =>
  simp [JcZ] at h
  subst h; rfl
def tev : TO → TSt → Option TV
 | .t n, s => tlk n s.env
 | .c x, _ => if JcZ x = true then some x else none
theorem Jw {x : TO} {s : TSt} {v : TV} (h : tev x s = some v) : (ev (erO x)).run (Jb s) = some (Jp (lns s.sto) v) := by
 cases x with
 | t n =>
  simp only [erO, ev, J5o]
  show (lk n (J2X (lns s.sto) s.env)).bind _ = _
  rw [J9h, show tlk n s.env = some v from h]
  rfl
 | c x =>
  simp only [tev] at h
  split at h
  ·rename_i hf
   injection h with h; subst h
   simp only [erO, ev, Jh]
   rw [JpY hf]
  ·cases h
end Go.Am
end
section
namespace Go.Am
@[reducible] def vi (k : IntKind) (n : Int) : TV := .a (.c (.d (.i k) n))
@[reducible] def vb (x : Bool) : TV := .a (.c (.d .b x))
@[reducible] def vs (l : List UInt8) : TV := .a (.c (.d .s l))
@[reducible] def vl (t : Ty) (l : List t.D) : TV := .a (.c (.d (.l t) l))
def uv : TV := .tup []
def mkv (agg : Bool) (t : Ty) (x : t.D) : TV := if agg = true then .a (.dt t x) else .a (.c (.d t x))
def Ok {R : Type} (m : RM Eff) (d : Option Nat) (s : TSt) (k : TSt → Option R) (r : R) : Prop :=
 ∃ e s', m.run (Jb s) = some e ∧ put d e (Jb s) = Jb s' ∧ k s' = some r
def asm : (t : Ty) → List TC → Option t.D
 | .pr a c, l => match asm a (l.take a.sz), asm c (l.drop a.sz) with
  | some x, some y => some (x, y)
  | _, _ => none
 | .ar _ _, _ => none
 | .u, l => if l.isEmpty = true then some () else none
 | t, l => match l with
  | [.d t' x] => if h : t' = t then some (h ▸ x) else none
  | _ => none
def JdF : (t : Ty) → t.D → Option (List TC)
 | .pr a c, x => match JdF a x.1, JdF c x.2 with
  | some l, some q => some (l ++ q)
  | _, _ => none
 | .ar _ _, _ => none
 | .u, _ => some []
 | t, x => some [.d t x]
theorem Jch (L : Nat → Nat) : ∀ {t : Ty} {l : List TC} {x : t.D}, asm t l = some x → l.map (Jr L) = (cel t x).map .p
 | .pr a c, l, x, h => by
  simp only [asm] at h
  split at h
  ·rename_i y z hy hz
   injection h with h; subst h
   have h1 := Jch L hy
   have h2 := Jch L hz
   simp only [cel, List.map_append, ← h1, ← h2]
   rw [← List.map_append, List.take_append_drop]
  ·cases h
 | .ar _ _, _, _, h => by cases h
 | .u, l, x, h => by
  simp only [asm] at h
  split at h
  ·rename_i h0; rw [List.isEmpty_iff.1 h0]; rfl
  ·cases h
 | .b, l, x, h => by
  simp only [asm] at h
  split at h
  ·split at h
   ·rename_i h0; subst h0; injection h with h; subst h; rfl
   ·cases h
  ·cases h
 | .i _, l, x, h => by
  simp only [asm] at h
  split at h
  ·split at h
   ·rename_i h0; subst h0; injection h with h; subst h; rfl
   ·cases h
  ·cases h
 | .s, l, x, h => by
  simp only [asm] at h
  split at h
  ·split at h
   ·rename_i h0; subst h0; injection h with h; subst h; rfl
   ·cases h
  ·cases h
 | .l _, l, x, h => by
  simp only [asm] at h
  split at h
  ·split at h
   ·rename_i h0; subst h0; injection h with h; subst h; rfl
   ·cases h
  ·cases h
 | .f, l, x, h => by
  simp only [asm] at h
  split at h
  ·split at h
   ·rename_i h0; subst h0; injection h with h; subst h; rfl
   ·cases h
  ·cases h
theorem Jau (L : Nat → Nat) : ∀ {t : Ty} {x : t.D} {l : List TC}, JdF t x = some l → l.map (Jr L) = (cel t x).map .p
 | .pr a c, x, l, h => by
  simp only [JdF] at h
  split at h
  ·rename_i y z hy hz
   injection h with h; subst h
   have h1 := Jau L hy
   have h2 := Jau L hz
   simp only [cel, List.map_append, ← h1, ← h2]
  ·cases h
 | .ar _ _, _, _, h => by cases h
 | .u, x, l, h => by injection h with h; subst h; rfl
 | .b, x, l, h => by injection h with h; subst h; rfl
 | .i _, x, l, h => by injection h with h; subst h; rfl
 | .s, x, l, h => by injection h with h; subst h; rfl
 | .l _, x, l, h => by injection h with h; subst h; rfl
 | .f, x, l, h => by injection h with h; subst h; rfl
def zcs : Ty → List TC
 | .pr a c => zcs a ++ zcs c
 | .ar n t => (List.replicate n (zcs t)).flatten
 | .u => []
 | t => [.d t t.zero]
theorem Jav (L : Nat → Nat) : ∀ t : Ty, (zcs t).map (Jr L) = (cel t t.zero).map .p
 | .pr a c => by simp only [zcs, List.map_append, Jav L a, Jav L c, Ty.zero, cel]
 | .ar n t => by
  have ih := Jav L t
  have e : cel (.ar n t) (Ty.ar n t).zero = (List.replicate n (cel t t.zero)).flatten := by
   simp only [cel, J7n, Ty.zero, Vector.toList_replicate, List.map_replicate]
  rw [e]
  simp only [zcs, List.map_flatten, List.map_replicate, ih]
 | .u => rfl
 | .b => rfl
 | .i _ => rfl
 | .s => rfl
 | .l _ => rfl
 | .f => rfl
def mkb (t : Ty) (cs : List TC) : TB := match asm t cs with
 | some x => .box t x
 | none => .mbox t cs
theorem JcT (L : Nat → Nat) (t : Ty) (cs : List TC) : JF L (mkb t cs) = .box (cs.map (Jr L)) := by
 unfold mkb
 split
 ·rename_i x hx; rw [Jaw, Jch L hx]
 ·rfl
theorem JcD (t : Ty) (cs : List TC) : lnB (mkb t cs) = 0 := by unfold mkb; split <;> rfl
def JmN : TC → Bool
 | .ptr _ _ | .cp _ _ _ | .slr _ | .slo _ _ | .ep _ _ _ | .epo _ _ _ _ | .un | .fn _ => true
 | _ => false
theorem Jgt (L : Nat → Nat) : ∀ {cs : List TC}, cs.any JmN = true → unp (cs.map (Jr L)) = none
 | [], h => by simp at h
 | x :: r, h => by
  simp only [List.any_cons, Bool.or_eq_true] at h
  rcases h with h | h
  ·cases x <;> simp [JmN] at h <;> rfl
  ·have := Jgt L h
   cases x <;> simp [Jr, unp, this]
def mka (agg : Bool) (t : Ty) (cs : List TC) : Option TV :=
 if agg = true then
  match asm t cs with
  | some x => some (.a (.dt t x))
  | none => if cs.any JmN = true then some (.a (.m t cs)) else none
 else match cs with
  | [c] => some (.a (.c c))
  | _ => none
theorem JaL (L : Nat → Nat) {agg : Bool} {t : Ty} {cs : List TC} {v : TV} (h : mka agg t cs = some v) : J2y agg (cs.map (Jr L)) = some (Jp L v) := by
 unfold mka at h
 split at h
 ·rename_i ha
  subst ha
  split at h
  ·rename_i x hx
   injection h with h; subst h
   rw [Jch L hx, Jdq]; rfl
  ·split at h
   ·rename_i hr
    injection h with h; subst h
    simp only [J2y, Jgt L hr, if_true]; rfl
   ·cases h
 ·rename_i ha
  split at h
  ·injection h with h; subst h
   have : agg = false := by simpa using ha
   subst this
   rfl
  ·cases h
def tcs : TV → Option (List TC)
 | .a (.c .un) => none
 | .a (.c x) => some [x]
 | .a (.dt t x) => JdF t x
 | .a (.m _ cs) => some cs
 | .a (.fn f [] []) => some [.fn f]
 | _ => none
theorem JbR (L : Nat → Nat) {v : TV} {cs : List TC} (h : tcs v = some cs) : cellsOf (Jp L v) = some (cs.map (Jr L)) := by
 cases v with
 | a x =>
  cases x with
  | c x =>
   cases x <;> cases h <;> rfl
  | dt t x =>
   simp only [Jp, J0j, cellsOf]
   rw [Jau L h]
  | m t cs =>
   injection h with h; subst h; rfl
  | fn f a c =>
   cases a with
   | nil => cases c with
    | nil => injection h with h; subst h; rfl
    | cons y c => cases h
   | cons y a => cases h
 | tup vs => cases h
def tdv (t : Ty) : TV → Option t.D
 | .a (.c (.d t' x)) => if h : t' = t then some (h ▸ x) else none
 | .a (.dt t' x) => if h : t' = t then some (h ▸ x) else none
 | _ => none
def agv : TV → Bool
 | .a (.dt _ _) => true
 | _ => false
theorem JsM (L : Nat → Nat) {t : Ty} {v : TV} {x : t.D} (h : tdv t v = some x) : Jp L v = if agv v = true then .data (cel t x) else .p (hdP (cel t x)) := by
 unfold tdv at h
 split at h
 ·split at h
  ·rename_i h0; subst h0; injection h with h; subst h; rfl
  ·cases h
 ·split at h
  ·rename_i h0; subst h0; injection h with h; subst h; rfl
  ·cases h
 ·cases h
def JaP : List Sp → Option Nat
 | [] => some 0
 | .f o :: r => match JaP r with
  | some n => some (o + n)
  | none => none
 | .a _ _ :: _ => none
theorem Jao : ∀ {p : List Sp} {n : Nat}, JaP p = some n → spo p = n
 | [], n, h => by injection h with h
 | .f o :: r, n, h => by
  simp only [JaP] at h
  split at h
  ·rename_i m hm
   injection h with h
   simp only [spo, Jao hm, h]
  ·cases h
 | .a _ _ :: _, _, h => by cases h
section
variable {R : Type}
def Jng (agg : Bool) (t : Ty) (v : TV) (d : Option Nat) (s : TSt) (k : TSt → Option R) : Option R :=
 if agg = true ∨ t.sz = 1 then
  match v with
  | .a (.c (.cp t0 x p)) => prt t0 x (spf 0 p).1 (spf 0 p).2 t fun y => k (JL d (mkv agg t y) s)
  | .a (.c (.ptr b p)) => match s.sto[b]? with
   | some (.box t0 x) => prt t0 x (spf 0 p).1 (spf 0 p).2 t fun y => k (JL d (mkv agg t y) s)
   | some (.mbox _ cs) => match JaP p with
    | some off => match sub cs off t.sz with
     | some l => match mka agg t l with
      | some v => k (JL d v s)
      | none => none
     | none => none
    | none => none
   | _ => none
  | .a (.c (.ep b i p)) => match s.sto[b]? with
   | some (.arr _ t0 rows) => (lat rows i).bind fun row => prt t0 row (spf 0 p).1 (spf 0 p).2 t fun y => k (JL d (mkv agg t y) s)
   | _ => none
  | _ => none
 else none
theorem JaC (L : Nat → Nat) {agg : Bool} {t : Ty} (h : agg = true ∨ t.sz = 1) (y : t.D) : J31 agg (cel t y) = some (Jp L (mkv agg t y)) := by
 unfold mkv
 split
 ·rename_i ha; subst ha; rfl
 ·rename_i ha
  have : agg = false := by simpa using ha
  subst this
  have := h.resolve_left (by simp)
  rw [Jk3 this]; rfl
theorem Jk4 (p : List Sp) : (spf 0 p).1 + spo (spf 0 p).2 = spo p := by have := Ji5 0 p; omega
theorem Jqj {agg : Bool} {t : Ty} {v : TV} {d : Option Nat} {s : TSt} {k : TSt → Option R} {r : R} (h : Jng agg t v d s k = some r) : Ok (J2V agg t.sz (Jp (lns s.sto) v)) d s k r := by
 unfold Jng at h
 split at h
 ·rename_i ha
  split at h
  ·rename_i t0 x p
   obtain ⟨y, h1, h2⟩ := J78 h
   rw [Jk4] at h1
   refine ⟨_, _, ?_, Jam d (mkv agg t y), h2⟩
   simp only [J4I, J7D, J7U, J3j, J2V, h1, JaC (lns s.sto) ha, val]; rfl
  ·rename_i b p
   split at h
   ·rename_i t0 x hb
    obtain ⟨y, h1, h2⟩ := J78 h
    rw [Jk4] at h1
    refine ⟨_, _, ?_, Jam d (mkv agg t y), h2⟩
    have hc : J2y agg ((cel t y).map .p) = J31 agg (cel t y) := by
     unfold J2y J31
     split
     ·rw [J9l]
     ·cases hcel : cel t y with
      | nil => rfl
      | cons a l => cases l <;> rfl
    simp only [J4I, J7D, J7U, J3j, J2V, J0D, J0O, hb, Option.map_some, Option.bind_some, JF, J7O, h1, hc, JaC (lns s.sto) ha, val]; rfl
   ·rename_i cs hb
    split at h
    ·rename_i off ho
     split at h
     ·rename_i l hl
      split at h
      ·rename_i v hv
       refine ⟨_, _, ?_, Jam d v, h⟩
       simp only [J4I, J7D, J7U, J3j, J2V, J0D, J0O, hb, Option.map_some, Option.bind_some, JF, J7O, Jao ho, hl, JaL (lns s.sto) hv, val]; rfl
      ·cases h
     ·cases h
    ·cases h
   ·cases h
  ·rename_i b i p
   split at h
   ·rename_i w t0 rows hb
    obtain ⟨row, hr, h⟩ := Option.bind_eq_some_iff.1 h
    have hr : rows[i]? = some row := hr
    obtain ⟨y, h1, h2⟩ := J78 h
    rw [Jk4] at h1
    refine ⟨_, _, ?_, Jam d (mkv agg t y), h2⟩
    simp only [J4I, J7D, J7U, J3j, J2V, J0D, J0O, hb, Option.map_some, Option.bind_some, JF, J3P hb, List.length_map, if_true, List.getElem?_map, hr, h1, JaC (lns s.sto) ha, val]; rfl
   ·cases h
  ·cases h
 ·cases h
end
end Go.Am
end
section
namespace Go.Am
section
variable {R : Type}
def fzC : (t : Ty) → List TC → TSt → (t.D → TSt → Option R) → Option R
 | .pr a c, l, s, k => fzC a (l.take a.sz) s fun x s => fzC c (l.drop a.sz) s fun y s => k (x, y) s
 | .ar _ _, _, _, _ => none
 | .u, l, s, k => if l.isEmpty = true then k () s else none
 | .l e, l, s, k => match l with
  | [.d t' x] => if h : t' = .l e then k (h ▸ x) s else none
  | [.slr b] => match s.sto[b]? with
   | some (.arr _ e' rows) => if h : e' = e then k (h ▸ rows) (wS b (.arr false e' rows) s) else none
   | _ => none
  | _ => none
 | t, l, s, k => match l with
  | [.d t' x] => if h : t' = t then k (h ▸ x) s else none
  | _ => none
def tfz (t : Ty) (v : TV) (s : TSt) (k : t.D → TSt → Option R) : Option R :=
 match v with
 | .a (.dt t' x) => if h : t' = t then k (h ▸ x) s else none
 | .a (.c x) => fzC t [x] s k
 | .a (.m _ cs) => fzC t cs s k
 | _ => none
def Fzd (s s' : TSt) (ws : List (Nat × Blk)) : Prop :=
 s'.env = s.env ∧ lns s'.sto = lns s.sto ∧ Jb s' = ⟨(Jb s).env, upd ws (Jb s).sto⟩ ∧ (∀ (b : Nat) (t : Ty) (rows : List t.D) (w : Bool), s'.sto[b]? = some (TB.arr w t rows) → ∃ w', s.sto[b]? = some (TB.arr w' t rows)) ∧
 (∀ (b : Nat) (t : Ty) (rows : List t.D), s.sto[b]? = some (TB.arr false t rows) → s'.sto[b]? = some (TB.arr false t rows)) ∧
 ∀ x ∈ ws, ∃ (t : Ty) (rows : List t.D), s'.sto[x.1]? = some (TB.arr false t rows)
theorem Fzd.refl (s : TSt) : Fzd s s [] := ⟨rfl, rfl, rfl, fun b t rows w h => ⟨w, h⟩, fun b t rows h => h, fun x h => by cases h⟩
theorem Fzd.trans {s1 s2 s3 : TSt} {a c : List (Nat × Blk)} (h : Fzd s1 s2 a) (h' : Fzd s2 s3 c) : Fzd s1 s3 (a ++ c) := by
 obtain ⟨h1, h2, h3, h4, h5, h6⟩ := h
 obtain ⟨q1, q2, q3, q4, q5, q6⟩ := h'
 refine ⟨q1.trans h1, q2.trans h2, ?_, fun b t rows w h => ?_, fun b t rows h => q5 b t rows (h5 b t rows h), fun x hx => ?_⟩
 ·rw [q3, h3, J0I]
 ·obtain ⟨w', h⟩ := q4 b t rows w h
  exact h4 b t rows w' h
 ·rcases List.mem_append.1 hx with hx | hx
  ·obtain ⟨t, rows, h⟩ := h6 x hx
   exact ⟨t, rows, q5 _ t rows h⟩
  ·exact q6 x hx
theorem JfO {s : TSt} {b : Nat} {w : Bool} {t : Ty} {rows : List t.D} (hb : s.sto[b]? = some (.arr w t rows)) : Fzd s (wS b (.arr false t rows) s) [(b, .arr false t.sz (rows.map (cel t)))] := by
 have hl : lnB (.arr false t rows) = lns s.sto b := by rw [J3P hb]; rfl
 have hs : (wS b (.arr false t rows) s).sto[b]? = some (.arr false t rows) := by unfold wS; rw [List.getElem?_set_self (J8 hb)]
 have ho : ∀ c, c ≠ b → (wS b (.arr false t rows) s).sto[c]? = s.sto[c]? := fun c hc => by unfold wS; rw [List.getElem?_set_ne (fun e => hc e.symm)]
 refine ⟨rfl, Jay hl, Jbl hl, fun c t' rs w' h => ?_, fun c t' rs h => ?_, fun x hx => ?_⟩
 ·by_cases hc : c = b
  ·subst hc
   rw [hs] at h
   injection h with h
   injection h with h1 h2 h3
   subst h2
   have h3 := eq_of_heq h3
   subst h3
   exact ⟨w, hb⟩
  ·rw [ho c hc] at h
   exact ⟨w', h⟩
 ·by_cases hc : c = b
  ·subst hc
   rw [hb] at h
   injection h with h
   injection h with h1 h2 h3
   subst h2
   have h3 := eq_of_heq h3
   subst h3
   exact hs
  ·rw [ho c hc]; exact h
 ·simp only [List.mem_singleton] at hx
  subst hx
  exact ⟨t, rows, hs⟩
theorem Js6 (x y : List AV) (st : St) : (fz.fzL (x ++ y)).run st = ((fz.fzL x).run st).bind fun a => ((fz.fzL y).run st).map fun c => (a.1 ++ c.1, a.2 ++ c.2) := by
 induction x with
 | nil => simp only [List.nil_append, fz.fzL, Jh, Option.bind_some]; cases (fz.fzL y).run st <;> rfl
 | cons v x ih =>
  simp only [List.cons_append, fz.fzL, run_bind, ih]
  cases (fz.fz1 v).run st with
  | none => rfl
  | some a =>
   simp only [Option.bind_some]
   cases (fz.fzL x).run st with
   | none => rfl
   | some c =>
    simp only [Option.bind_some]
    cases (fz.fzL y).run st with
    | none => rfl
    | some e => simp [Jh]
theorem Jce {L : Nat → Nat} {t t' : Ty} {x : t'.D} (h : t' = t) (h1 : t.sz = 1) (st : St) : (fz.fzL ([TC.d t' x].map (Jr L))).run st = some (cel t (h ▸ x), []) := by
 subst h
 have e := Jk3 h1 x
 simp only [List.map_cons, List.map_nil, Jr, fz.fzL, fz.fz1, run_bind, Jh, Option.bind_some, List.append_nil]
 rw [← e]
theorem Jct : ∀ {t : Ty} {l : List TC} {s0 s : TSt} {w0 : List (Nat × Blk)} {k : t.D → TSt → Option R} {r : R}, Fzd s0 s w0 → fzC t l s k = some r →
  ∃ y s' ws, (fz.fzL (l.map (Jr (lns s0.sto)))).run (Jb s0) = some (cel t y, ws) ∧ Fzd s0 s' (w0 ++ ws) ∧ k y s' = some r
 | .pr a c, l, s0, s, w0, k, r, f0, h => by
  simp only [fzC] at h
  obtain ⟨x, s1, w1, e1, f1, h⟩ := Jct f0 h
  obtain ⟨y, s2, w2, e2, f2, h⟩ := Jct f1 h
  refine ⟨(x, y), s2, w1 ++ w2, ?_, by rw [← List.append_assoc]; exact f2, h⟩
  have := Js6 ((l.take a.sz).map (Jr (lns s0.sto))) ((l.drop a.sz).map (Jr (lns s0.sto))) (Jb s0)
  rw [← List.map_append, List.take_append_drop, e1, e2] at this
  exact this
 | .ar _ _, _, _, _, _, _, _, _, h => by cases h
 | .u, l, s0, s, w0, k, r, f0, h => by
  simp only [fzC] at h
  split at h
  ·rename_i h0
   refine ⟨(), s, [], ?_, by rw [List.append_nil]; exact f0, h⟩
   rw [List.isEmpty_iff.1 h0]; rfl
  ·cases h
 | .l e, l, s0, s, w0, k, r, f0, h => by
  simp only [fzC] at h
  split at h
  ·split at h
   ·rename_i h0; exact ⟨_, s, [], Jce h0 rfl _, by rw [List.append_nil]; exact f0, h⟩
   ·cases h
  ·rename_i b
   split at h
   ·rename_i w e' rows hb
    split at h
    ·rename_i h0
     subst h0
     obtain ⟨w', hb0⟩ := f0.2.2.2.1 b _ rows w hb
     refine ⟨rows, _, [(b, .arr false e'.sz (rows.map (cel e')))], ?_, f0.trans (JfO hb), h⟩
     simp only [List.map_cons, List.map_nil, Jr, fz.fzL, fz.fz1, run_bind, J0D, J0O, hb0, Option.map_some, Option.bind_some, JF, J3P hb0, List.length_map, Nat.zero_add, if_true, List.drop_zero, Jh]
     rfl
    ·cases h
   ·cases h
  ·cases h
 | .b, l, s0, s, w0, k, r, f0, h => by
  simp only [fzC] at h
  split at h
  ·split at h
   ·rename_i h0; exact ⟨_, s, [], Jce h0 rfl _, by rw [List.append_nil]; exact f0, h⟩
   ·cases h
  ·cases h
 | .i _, l, s0, s, w0, k, r, f0, h => by
  simp only [fzC] at h
  split at h
  ·split at h
   ·rename_i h0; exact ⟨_, s, [], Jce h0 rfl _, by rw [List.append_nil]; exact f0, h⟩
   ·cases h
  ·cases h
 | .s, l, s0, s, w0, k, r, f0, h => by
  simp only [fzC] at h
  split at h
  ·split at h
   ·rename_i h0; exact ⟨_, s, [], Jce h0 rfl _, by rw [List.append_nil]; exact f0, h⟩
   ·cases h
  ·cases h
 | .f, l, s0, s, w0, k, r, f0, h => by
  simp only [fzC] at h
  split at h
  ·split at h
   ·rename_i h0; exact ⟨_, s, [], Jce h0 rfl _, by rw [List.append_nil]; exact f0, h⟩
   ·cases h
  ·cases h
theorem Jud (x : AV) (hx : (∀ cs, x ≠ .data cs) ∧ ∀ cs, x ≠ .agg cs) (st : St) {y : List PV} {ws : List (Nat × Blk)} (h : (fz.fzL [x]).run st = some (y, ws)) : (fz x).run st = some (y, ws) := by
 simp only [fz.fzL, run_bind, Jh] at h
 cases x with
 | p c => simpa [fz, fz.fz1, Jh] using h
 | slr b i n =>
  simp only [fz, fz.fz1] at h ⊢
  obtain ⟨a, h1, h⟩ := Option.bind_eq_some_iff.1 h
  simp at h
  rw [h1]
  simp [← h]
 | data cs => exact absurd rfl (hx.1 cs)
 | agg cs => exact absurd rfl (hx.2 cs)
 | _ => simp [fz.fz1, Jqm] at h
theorem JnG {t : Ty} {v : TV} {s0 s : TSt} {w0 : List (Nat × Blk)} {k : t.D → TSt → Option R} {r : R} (f0 : Fzd s0 s w0) (h : tfz t v s k = some r) :
  ∃ y s' ws, (fz (Jp (lns s0.sto) v)).run (Jb s0) = some (cel t y, ws) ∧ Fzd s0 s' (w0 ++ ws) ∧ k y s' = some r := by
 unfold tfz at h
 split at h
 ·split at h
  ·rename_i h0; subst h0
   exact ⟨_, s, [], rfl, by rw [List.append_nil]; exact f0, h⟩
  ·cases h
 ·rename_i x
  obtain ⟨y, s', ws, h1, h2, h3⟩ := Jct f0 h
  refine ⟨y, s', ws, Jud _ ⟨fun cs => ?_, fun cs => ?_⟩ _ h1, h2, h3⟩ <;> cases x <;> simp [Jr, Jp, J0j]
 ·obtain ⟨y, s', ws, h1, h2, h3⟩ := Jct f0 h
  exact ⟨y, s', ws, h1, h2, h3⟩
 ·cases h
end
end Go.Am
end
section
namespace Go.Am
section
variable {R : Type}
theorem JbW (L : Nat → Nat) {t : Ty} {v : TV} {x : t.D} (h : tdv t v = some x) (ha : agv v = true ∨ t.sz = 1) : cellsOf (Jp L v) = some ((cel t x).map .p) := by
 rw [JsM L h]
 split
 ·rfl
 ·rename_i hn
  rw [Jk3 (ha.resolve_left hn)]; rfl
def Jjd (t : Ty) (x u : TV) (d : Option Nat) (s : TSt) (k : TSt → Option R) : Option R :=
 match x with
 | .a (.c (.ptr b p)) => match s.sto[b]? with
  | some (.box t0 y) => match tdv t u with
   | some z => if agv u = true ∨ t.sz = 1 then pst t0 y (spf 0 p).1 (spf 0 p).2 t z fun y' => k (JL d uv (wS b (.box t0 y') s)) else none
   | none => match JaP p, JdF t0 y, tcs u with
    | some off, some cs, some l => if l.length = t.sz then
      match spl cs off l with
      | some cs' => k (JL d uv (wS b (mkb t0 cs') s))
      | none => none
     else none
    | some off, none, some l => if off = 0 ∧ l.length = t0.sz ∧ l.length = t.sz then k (JL d uv (wS b (mkb t0 l) s)) else none
    | _, _, _ => none
  | some (.mbox t0 cs) => match JaP p, tcs u with
   | some off, some l => if l.length = t.sz then
     match spl cs off l with
     | some cs' => k (JL d uv (wS b (mkb t0 cs') s))
     | none => none
    else none
   | _, _ => none
  | _ => none
 | .a (.c (.ep b i p)) => tfz t u s fun z s1 => match s1.sto[b]? with
  | some (.arr true t0 rows) => (lat rows i).bind fun row => pst t0 row (spf 0 p).1 (spf 0 p).2 t z fun row' => k (JL d uv (wS b (.arr true t0 (J3n rows i row')) s1))
  | _ => none
 | _ => none
theorem Jtf (L : Nat → Nat) : Jp L uv = J1d := rfl
theorem JcH {s : TSt} {b : Nat} {t : Ty} {x : t.D} (h : s.sto[b]? = some (.box t x)) : lns s.sto b = 0 := by unfold lns; rw [h]; rfl
theorem Jjn {s : TSt} {b : Nat} {t : Ty} {cs : List TC} (h : s.sto[b]? = some (.mbox t cs)) : lns s.sto b = 0 := by unfold lns; rw [h]; rfl
theorem J6G {s : TSt} {b : Nat} (h : s.sto[b]? = some .dead) : lns s.sto b = 0 := by unfold lns; rw [h]; rfl
theorem Jf5 {m : RM Eff} {d : Option Nat} {s : TSt} {k : TSt → Option R} {r : R} {b : Nat} {x : TB} {v : TV} (hl : lnB x = lns s.sto b) (hm : m.run (Jb s) = some ⟨Jp (lns s.sto) v, [(b, JF (lns s.sto) x)]⟩)
  (h : k (JL d v (wS b x s)) = some r) : Ok m d s k r := by
 refine ⟨_, _, hm, ?_, h⟩
 have e := Jay hl
 rw [← e]
 refine J6l ?_ d v
 rw [Jbl hl, e]; rfl
theorem JmH {m : RM Eff} {d : Option Nat} {s : TSt} {k : TSt → Option R} {r : R} {b : Nat} {x : TB} {v : TV} (hm : m.run (Jb s) = some ⟨Jp (lns (wN b x s).sto) v, [(b, JF (lns (wN b x s).sto) x)]⟩)
  (h : k (JL d v (wN b x s)) = some r) : Ok m d s k r :=
 ⟨_, _, hm, J6l (JqR b x s) d v, h⟩
theorem J16 {m : RM Eff} {d : Option Nat} {s : TSt} {k : TSt → Option R} {r : R} {v : TV} (hm : m.run (Jb s) = some ⟨Jp (lns s.sto) v, []⟩) (h : k (JL d v s) = some r) : Ok m d s k r :=
 ⟨_, _, hm, Jam d v, h⟩
theorem Jjw {m : RM Eff} {d : Option Nat} {s s' : TSt} {ws : List (Nat × Blk)} {k : TSt → Option R} {r : R} {v : TV} (f : Fzd s s' ws) (hm : m.run (Jb s) = some ⟨Jp (lns s.sto) v, ws⟩) (h : k (JL d v s') = some r) : Ok m d s k r := by
 refine ⟨_, _, hm, ?_, h⟩
 rw [← f.2.1]
 exact J6l f.2.2.1 d v
theorem JnC {t : Ty} {x u : TV} {d : Option Nat} {s : TSt} {k : TSt → Option R} {r : R} (h : Jjd t x u d s k = some r) : Ok (J2G t.sz (Jp (lns s.sto) x) (Jp (lns s.sto) u)) d s k r := by
 unfold Jjd at h
 split at h
 ·rename_i b p
  split at h
  ·rename_i t0 y hb
   split at h
   ·rename_i z hz
    split at h
    ·rename_i ha
     obtain ⟨y', h1, h2⟩ := J7Q h
     rw [Jk4] at h1
     refine Jf5 (x := .box t0 y') (v := uv) (JcH hb).symm ?_ h2
     simp only [J4I, J7D, J7U, J3j, J2G, J0D, J0O, hb, Option.map_some, Option.bind_some, JF, JbW (lns s.sto) hz ha, List.length_map, J0m, if_true, J7I, h1, Jh]
     rfl
    ·cases h
   ·split at h
    ·rename_i off cs l ho hc hl
     split at h
     ·rename_i hn
      split at h
      ·rename_i cs' hs
       refine Jf5 (x := mkb t0 cs') (v := uv) ((JcD _ _).trans (JcH hb).symm) ?_ h
       rw [JcT]
       simp only [J4I, J7D, J7U, J3j, J2G, J0D, J0O, hb, Option.map_some, Option.bind_some, JF, JbR (lns s.sto) hl, List.length_map, hn, if_true, Jao ho, ← Jau (lns s.sto) hc, J7I, hs, Jh]
       rfl
      ·cases h
     ·cases h
    ·rename_i off l ho _ hl
     split at h
     ·rename_i h0
      obtain ⟨rfl, h1, h2⟩ := h0
      refine Jf5 (x := mkb t0 l) (v := uv) ((JcD _ _).trans (JcH hb).symm) ?_ h
      rw [JcT]
      have he : spl ((cel t0 y).map AV.p) 0 (l.map (Jr (lns s.sto))) = some (l.map (Jr (lns s.sto))) := Jln (by rw [List.length_map, List.length_map, J0m, h1])
      simp only [J4I, J7D, J7U, J3j, J2G, J0D, J0O, hb, Option.map_some, Option.bind_some, JF, JbR (lns s.sto) hl, List.length_map, h2, if_true, Jao ho, he, Jh]
      rfl
     ·cases h
    ·cases h
  ·rename_i t0 cs hb
   split at h
   ·rename_i off l ho hl
    split at h
    ·rename_i hn
     split at h
     ·rename_i cs' hs
      refine Jf5 (x := mkb t0 cs') (v := uv) ((JcD _ _).trans (Jjn hb).symm) ?_ h
      rw [JcT]
      simp only [J4I, J7D, J7U, J3j, J2G, J0D, J0O, hb, Option.map_some, Option.bind_some, JF, JbR (lns s.sto) hl, List.length_map, hn, if_true, Jao ho, J7I, hs, Jh]
      rfl
     ·cases h
    ·cases h
   ·cases h
  ·cases h
 ·rename_i b i p
  obtain ⟨z, s1, ws, h1, f, h⟩ := JnG (Fzd.refl s) h
  rw [List.nil_append] at f
  split at h
  ·rename_i t0 rows hb
   obtain ⟨row, hr, h⟩ := Option.bind_eq_some_iff.1 h
   have hr : rows[i]? = some row := hr
   obtain ⟨row', q1, q2⟩ := J7Q h
   rw [Jk4] at q1
   obtain ⟨w', hb0⟩ := f.2.2.2.1 b _ rows true hb
   have hw : w' = true := by
    cases w' with
    | true => rfl
    | false =>
     have := f.2.2.2.2.1 b _ rows hb0
     rw [hb] at this; injection this with this; injection this with this; cases this
   subst hw
   have hnot : (ws.all fun y => y.1 != b) = true := by
    rw [List.all_eq_true]
    intro y hy
    obtain ⟨t', rows', hf⟩ := f.2.2.2.2.2 y hy
    rw [bne_iff_ne]
    intro e
    rw [e, hb] at hf
    injection hf with hf; injection hf with hf; cases hf
   have hl : lnB (.arr true t0 (J3n rows i row')) = lns s1.sto b := by rw [J3P hb]; simp [lnB, J3n]
   refine ⟨⟨J1d, ws ++ [(b, .arr true t0.sz ((J3n rows i row').map (cel t0)))]⟩, _, ?_, ?_, q2⟩
   ·simp only [J4I, J7D, J7U, J3j, J2G, J0D, J0O, hb0, Option.map_some, Option.bind_some, JF, J3P hb0, List.length_map, if_true, List.getElem?_map, hr, run_bind, h1, J0m, hnot, and_self, q1, Jh, List.map_set, J3n]
   ·rw [← Jtf (lns (wS b (.arr true t0 (J3n rows i row')) s1).sto)]
    refine J6l ?_ d uv
    rw [Jbl hl, f.2.2.1, J0I]; rfl
  ·cases h
 ·cases h
def tpv : List (Nat × Ty × TO) → TSt → Option (List (Nat × (w : Ty) × w.D))
 | [], _ => some []
 | (off, w, o) :: r, s => match tev o s with
  | some v => match tdv w v with
   | some z => if agv v = true ∨ w.sz = 1 then
     match tpv r s with
     | some l => some ((off, ⟨w, z⟩) :: l)
     | none => none
    else none
   | none => none
  | none => none
def Jil (t : Ty) : t.D → List (Nat × (w : Ty) × w.D) → (t.D → Option R) → Option R
 | x, [], k => k x
 | x, (off, ⟨w, z⟩) :: r, k => pst t x off [] w z fun x' => Jil t x' r k
def tpc : List (Nat × Ty × TO) → TSt → Option (List (Nat × Nat × List TC))
 | [], _ => some []
 | (off, w, o) :: r, s => match tev o s with
  | some v => match tcs v with
   | some l => match tpc r s with
    | some q => some ((off, w.sz, l) :: q)
    | none => none
   | none => none
  | none => none
def JeP : List (Nat × Nat × List TC) → List TC → Option (List TC)
 | [], cs => some cs
 | (off, n, c) :: r, cs => if c.length = n then
   match spl cs off c with
   | some cs' => JeP r cs'
   | none => none
  else none
def erP (parts : List (Nat × Ty × TO)) : List (Nat × Nat × Opd) := parts.map fun x => (x.1, x.2.1.sz, erO x.2.2)
theorem Jj2 {s : TSt} : ∀ {parts : List (Nat × Ty × TO)} {l : List (Nat × Nat × List TC)}, tpc parts s = some l →
  (J3x (erP parts)).run (Jb s) = some (l.map fun x => (x.1, x.2.1, x.2.2.map (Jr (lns s.sto))))
 | [], l, h => by injection h with h; subst h; rfl
 | (off, w, o) :: r, l, h => by
  simp only [tpc] at h
  split at h
  ·rename_i v hv
   split at h
   ·rename_i c hc
    split at h
    ·rename_i q hq
     injection h with h; subst h
     have ih := Jj2 hq
     simp only [erP, List.map_cons, J3x, run_bind, Jw hv, Option.bind_some, JbR (lns s.sto) hc]
     rw [show (r.map fun x => (x.1, x.2.1.sz, erO x.2.2)) = erP r from rfl, ih]
     rfl
    ·cases h
   ·cases h
  ·cases h
theorem Jnu {s : TSt} : ∀ {parts : List (Nat × Ty × TO)} {l : List (Nat × (w : Ty) × w.D)}, tpv parts s = some l →
  (J3x (erP parts)).run (Jb s) = some (l.map fun x => (x.1, x.2.1.sz, (cel x.2.1 x.2.2).map .p))
 | [], l, h => by injection h with h; subst h; rfl
 | (off, w, o) :: r, l, h => by
  simp only [tpv] at h
  split at h
  ·rename_i v hv
   split at h
   ·rename_i z hz
    split at h
    ·rename_i ha
     split at h
     ·rename_i q hq
      injection h with h; subst h
      have ih := Jnu hq
      simp only [erP, List.map_cons, J3x, run_bind, Jw hv, Option.bind_some, JbW (lns s.sto) hz ha]
      rw [show (r.map fun x => (x.1, x.2.1.sz, erO x.2.2)) = erP r from rfl, ih]
      rfl
     ·cases h
    ·cases h
   ·cases h
  ·cases h
theorem Jiu {t : Ty} : ∀ {l : List (Nat × (w : Ty) × w.D)} {x : t.D} {k : t.D → Option R} {r : R}, Jil t x l k = some r →
  ∃ y, J4v (l.map fun x => (x.1, x.2.1.sz, (cel x.2.1 x.2.2).map .p)) ((cel t x).map .p) = some ((cel t y).map .p) ∧ k y = some r
 | [], x, k, r, h => ⟨x, rfl, h⟩
 | (off, ⟨w, z⟩) :: q, x, k, r, h => by
  simp only [Jil] at h
  obtain ⟨x', h1, h2⟩ := J7Q h
  obtain ⟨y, h3, h4⟩ := Jiu h2
  refine ⟨y, ?_, h4⟩
  simp only [List.map_cons, J4v, List.length_map, J0m, if_true]
  rw [J7I, show off = off + spo [] from rfl, h1]
  exact h3
theorem JdL (L : Nat → Nat) : ∀ {l : List (Nat × Nat × List TC)} {cs cs' : List TC}, JeP l cs = some cs' →
  J4v (l.map fun x => (x.1, x.2.1, x.2.2.map (Jr L))) (cs.map (Jr L)) = some (cs'.map (Jr L))
 | [], cs, cs', h => by injection h with h; subst h; rfl
 | (off, n, c) :: q, cs, cs', h => by
  simp only [JeP] at h
  split at h
  ·rename_i hn
   split at h
   ·rename_i c1 hs
    simp only [List.map_cons, J4v, List.length_map, hn, if_true, J7I, hs, Option.map_some]
    exact JdL L h
   ·cases h
  ·cases h
def JiF (t : Ty) (parts : List (Nat × Ty × TO)) (d : Option Nat) (s : TSt) (k : TSt → Option R) : Option R :=
 match tpv parts s with
 | some l => Jil t t.zero l fun y => k (JL d (.a (.dt t y)) s)
 | none => match tpc parts s with
  | some l => match JeP l (zcs t) with
   | some cs' => match mka true t cs' with
    | some v => k (JL d v s)
    | none => none
   | none => none
  | none => none
theorem Joo (F : Orc) (new : Nat) {t : Ty} {parts : List (Nat × Ty × TO)} {d : Option Nat} {s : TSt} {k : TSt → Option R} {r : R} (h : JiF t parts d s k = some r) : Ok (opR F (.build (cel t t.zero) (erP parts)) new) d s k r := by
 unfold JiF at h
 split at h
 ·rename_i l hl
  obtain ⟨y, h1, h2⟩ := Jiu h
  refine J16 (v := .a (.dt t y)) ?_ h2
  simp only [opR, run_bind, Jnu hl, Option.bind_some, h1, Jdq, val, Jh]; rfl
 ·split at h
  ·rename_i l hl
   split at h
   ·rename_i cs' hf
    split at h
    ·rename_i v hv
     refine J16 (v := v) ?_ h
     simp only [opR, run_bind, Jj2 hl, Option.bind_some, ← Jav (lns s.sto) t, JdL (lns s.sto) hf, JaL (lns s.sto) hv, val, Jh]
    ·cases h
   ·cases h
  ·cases h
def JiN (agg : Bool) (off : Nat) (t : Ty) (v : TV) (d : Option Nat) (s : TSt) (k : TSt → Option R) : Option R :=
 if agg = true ∨ t.sz = 1 then
  match v with
  | .a (.dt t0 x) => prt t0 x off [] t fun y => k (JL d (mkv agg t y) s)
  | .a (.m _ cs) => match sub cs off t.sz with
   | some l => match mka agg t l with
    | some v => k (JL d v s)
    | none => none
   | none => none
  | _ => none
 else none
theorem JoB {agg : Bool} {off : Nat} {t : Ty} {v : TV} {d : Option Nat} {s : TSt} {k : TSt → Option R} {r : R} (h : JiN agg off t v d s k = some r) : Ok (val (J6n agg off t.sz (Jp (lns s.sto) v))) d s k r := by
 unfold JiN at h
 split at h
 ·rename_i ha
  split at h
  ·rename_i t0 x
   obtain ⟨y, h1, h2⟩ := J78 h
   refine J16 (v := mkv agg t y) ?_ h2
   simp only [spo, Nat.add_zero] at h1
   simp only [Jmr, e_m, J6n, h1, JaC (lns s.sto) ha, val, Jh]
  ·rename_i cs
   split at h
   ·rename_i l hl
    split at h
    ·rename_i v hv
     refine J16 (v := v) ?_ h
     simp only [Jmr, e_m, J6n, J7O, hl, Option.map_some, JaL (lns s.sto) hv, val, Jh]
    ·cases h
   ·cases h
  ·cases h
 ·cases h
end
end Go.Am
end
section
namespace Go.Am
section
variable {R : Type}
theorem JgM {α : Type} [BEq α] [LawfulBEq α] [DecidableEq α] (x y : α) : (x == y) = decide (x = y) := by
 by_cases h : x = y <;> simp [h]
def Vl (m : Option AV) (s : TSt) (kk : TV → Option R) (r : R) : Prop := ∃ v, m = some (Jp (lns s.sto) v) ∧ kk v = some r
theorem Vl.ok {m : Option AV} {d : Option Nat} {s : TSt} {k : TSt → Option R} {r : R} (h : Vl m s (fun v => k (JL d v s)) r) : Ok (val m) d s k r := by
 obtain ⟨v, h1, h2⟩ := h
 refine J16 (v := v) ?_ h2
 rw [h1]; rfl
def Jpf (op : BinOp) (k : IntKind) (a c : Int) (kk : TV → Option R) : Option R :=
 match op with
 | .add => kk (vi k (J9 k a c))
 | .sub => kk (vi k (J23 k a c))
 | .mul => kk (vi k (JjP k a c))
 | .quo => (Jti k a c).bind fun q => kk (vi k q)
 | .rem => (Jcd a c).bind fun q => kk (vi k q)
 | .and => kk (vi k (Jug k a c))
 | .or => kk (vi k (orI k a c))
 | .xor => kk (vi k (Jj9 k a c))
 | .eql => kk (vb (eqI a c))
 | .neq => kk (vb (neI a c))
 | .lss => kk (vb (ltI a c))
 | .leq => kk (vb (leI a c))
 | .gtr => kk (vb (gtI a c))
 | .geq => kk (vb (geI a c))
 | _ => none
def JpR (op : BinOp) (a c : List UInt8) (kk : TV → Option R) : Option R :=
 match op with
 | .add => (JbZ a c).bind fun q => kk (vs q)
 | .eql => kk (vb (eqS a c))
 | .neq => kk (vb (neS a c))
 | .lss => kk (vb (ltS a c))
 | .leq => kk (vb (leS a c))
 | .gtr => kk (vb (gtS a c))
 | .geq => kk (vb (geS a c))
 | _ => none
inductive TBT where
 | plain
 | bool
 | flat (t : Ty)
 | nilp
 | nilf
def erT : TBT → BT
 | .plain => .plain
 | .bool => .bool
 | .flat t => .flat (t.ks.getD [])
 | .nilp => .nilp
 | .nilf => .nilf
def J8h (op : BinOp) (x : Bool) (kk : TV → Option R) : Option R :=
 match op with
 | .eql => kk (vb x)
 | .neq => kk (vb (J0A x))
 | _ => none
def Jpm (op : BinOp) (bt : TBT) (x y : TV) (kk : TV → Option R) : Option R :=
 match bt with
 | .plain => match x, y with
  | .a (.c (.d (.i k) a)), .a (.c (.d (.i k') c)) => match op with
   | .shl => (Jt8 k a c).bind fun q => kk (vi k q)
   | .shr => (Jtg k a c).bind fun q => kk (vi k q)
   | _ => if k = k' then Jpf op k a c kk else none
  | .a (.c (.d .s a)), .a (.c (.d .s c)) => JpR op a c kk
  | _, _ => none
 | .bool => match x, y with
  | .a (.c (.d .b a)), .a (.c (.d .b c)) => J8h op (eqB a c) kk
  | _, _ => none
 | .flat t => match x, y with
  | .a (.dt t1 a), .a (.dt t2 c) => if h : t1 = t ∧ t2 = t ∧ t.ks.isSome = true then J8h op (eqT t (h.1 ▸ a) (h.2.1 ▸ c)) kk else none
  | _, _ => none
 | .nilp => match x with
  | .a (.c .np) => J8h op true kk
  | .a (.c (.ptr _ _)) => J8h op false kk
  | .a (.c (.cp _ _ _)) => J8h op false kk
  | .a (.c (.ep _ _ _)) => J8h op false kk
  | _ => none
 | .nilf => match x with
  | .a (.c .nf) => J8h op true kk
  | .a (.fn _ _ _) => J8h op false kk
  | .a (.c (.fn _)) => J8h op false kk
  | .a (.c (.d .f _)) => J8h op true kk
  | _ => none
theorem JcR {op : BinOp} {x : Bool} {s : TSt} {kk : TV → Option R} {r : R} (h : J8h op x kk = some r) : Vl (J62 op (some x)) s kk r := by
 unfold J8h at h
 split at h
 ·exact ⟨_, rfl, h⟩
 ·exact ⟨_, rfl, h⟩
 ·cases h
theorem Jsq {op : BinOp} {k : IntKind} {a c : Int} {s : TSt} {kk : TV → Option R} {r : R} (h : Jpf op k a c kk = some r) : Vl ((Jds op k a c).map .p) s kk r := by
  unfold Jpf at h
  split at h <;> first
    | exact ⟨_, rfl, h⟩
    | (obtain ⟨q, h1, h⟩ := Option.bind_eq_some_iff.1 h
       refine ⟨_, ?_, h⟩
       first | unfold Jti at h1 | unfold Jcd at h1
       split at h1
       · cases h1
       · rename_i h0
         injection h1 with h1
         simp only [Jds, if_neg h0, h1, Option.map_some, e_i])
    | (refine ⟨_, ?_, h⟩; simp only [Jds, JgM, Option.map_some, e_b, bne, eqI, neI, ltI, leI, gtI, geI]; done)
    | cases h
theorem Jst {op : BinOp} {a c : List UInt8} {s : TSt} {kk : TV → Option R} {r : R} (h : JpR op a c kk = some r) : Vl ((Jdw op a c).map .p) s kk r := by
  unfold JpR at h
  split at h <;> first
    | (obtain ⟨q, h1, h⟩ := Option.bind_eq_some_iff.1 h
       refine ⟨_, ?_, h⟩
       unfold JbZ at h1
       split at h1
       · rename_i h0
         injection h1 with h1
         simp only [Jdw, if_pos h0, h1, Option.map_some, e_s]
       · cases h1)
    | (refine ⟨_, ?_, h⟩; simp only [Jdw, JgM, Option.map_some, e_b, eqS, neS, ltS, leS, gtS, geS]; done)
    | cases h
theorem Js8 {op : BinOp} {bt : TBT} {x y : TV} {s : TSt} {kk : TV → Option R} {r : R} (h : Jpm op bt x y kk = some r) : Vl (J8j op (erT bt) (Jp (lns s.sto) x) (Jp (lns s.sto) y)) s kk r := by
 unfold Jpm at h
 split at h
 ·split at h
  ·rename_i k a k' c
   simp only [e_i, erT, J8j]
   split at h
   ·obtain ⟨q, h1, h⟩ := Option.bind_eq_some_iff.1 h
    unfold Jt8 at h1
    split at h1
    ·cases h1
    ·rename_i h0; injection h1 with h1; exact ⟨_, by simp only [J9o, if_neg h0, h1, Option.map_some, e_i], h⟩
   ·obtain ⟨q, h1, h⟩ := Option.bind_eq_some_iff.1 h
    unfold Jtg at h1
    split at h1
    ·cases h1
    ·rename_i h0; injection h1 with h1; exact ⟨_, by simp only [J9o, if_neg h0, h1, Option.map_some, e_i], h⟩
   ·split at h
    ·rename_i hk
     subst hk
     simp only [if_true]
     cases op <;> first | exact Jsq h | cases h
    ·cases h
  ·exact Jst h
  ·cases h
 ·split at h
  ·rename_i a c
   simp only [e_b, erT, J8j, JgM]
   exact JcR h
  ·cases h
 ·split at h
  ·rename_i t t1 a t2 c
   split at h
   ·rename_i h0
    obtain ⟨rfl, rfl, h1⟩ := h0
    obtain ⟨ks, hks⟩ := Option.isSome_iff_exists.1 h1
    simp only [Jmr, erT, J8j, hks, Option.getD_some, JcE _ a c hks]
    exact JcR h
   ·cases h
  ·cases h
 ·split at h <;> first | exact JcR h | cases h
 ·split at h <;> first | exact JcR h | cases h
def tUn (op : UnOp) (x : TV) (kk : TV → Option R) : Option R :=
 match op, x with
 | .neg, .a (.c (.d (.i k) n)) => kk (vi k (Juv k n))
 | .xor, .a (.c (.d (.i k) n)) => kk (vi k (Juj k n))
 | .not, .a (.c (.d .b x)) => kk (vb (J0A x))
 | _, _ => none
theorem Jt3 {op : UnOp} {x : TV} {s : TSt} {kk : TV → Option R} {r : R} (h : tUn op x kk = some r) : Vl (unP op (Jp (lns s.sto) x)) s kk r := by
 unfold tUn at h
 split at h <;> first | exact ⟨_, rfl, h⟩ | cases h
def tMm (mx : Bool) (x y : TV) (kk : TV → Option R) : Option R :=
 match x, y with
 | .a (.c (.d (.i k) a)), .a (.c (.d (.i _) c)) => kk (vi k (if mx = true then Jun a c else Jui a c))
 | _, _ => none
theorem JsW {mx : Bool} {x y : TV} {s : TSt} {kk : TV → Option R} {r : R} (h : tMm mx x y kk = some r) : Vl (mmP mx (Jp (lns s.sto) x) (Jp (lns s.sto) y)) s kk r := by
 unfold tMm at h
 split at h
 ·exact ⟨_, by cases mx <;> rfl, h⟩
 ·cases h
def tls (t : Ty) (v : TV) (s : TSt) : Option (List t.D) :=
 match v with
 | .a (.c (.d (.l t') l)) => if h : t' = t then some (h ▸ l) else none
 | .a (.c (.d .s l)) => if h : t = .i .u8 then some (h ▸ (toByt l : List (Ty.i .u8).D)) else none
 | .a (.c (.slr b)) => match s.sto[b]? with
  | some (.arr _ t' rows) => if h : t' = t then some (h ▸ rows) else none
  | _ => none
 | _ => none
theorem Jf6 {t : Ty} {v : TV} {s : TSt} {l : List t.D} (h : tls t v s = some l) : (J1D t.sz (Jp (lns s.sto) v)).run (Jb s) = some (l.map (cel t)) := by
 unfold tls at h
 split at h
 ·split at h
  ·rename_i h0; subst h0; injection h with h; subst h
   simp only [e_l, J1D, if_true, Jh]
  ·cases h
 ·split at h
  ·rename_i h0; subst h0; injection h with h; subst h
   simp only [e_s, J1D, Ty.sz, if_true, Jh, JdO]
   rfl
  ·cases h
 ·rename_i b
  split at h
  ·rename_i w t' rows hb
   split at h
   ·rename_i h0; subst h0; injection h with h; subst h
    simp only [J3j, J1D, J0D, J0O, hb, Option.map_some, Option.bind_some, JF, J3P hb, List.length_map, Nat.zero_add, and_self, if_true, Jh, List.drop_zero]
   ·cases h
  ·cases h
 ·cases h
def JmR (k : CK) (x : TV) (d : Option Nat) (new : Nat) (s : TSt) (kk : TSt → Option R) : Option R :=
 match k with
 | .int k => match x with
  | .a (.c (.d (.i _) n)) => kk (JL d (vi k (cvI k n)) s)
  | _ => none
 | .same => match x with
  | .a (.c (.d .s l)) => kk (JL d (vs l) s)
  | _ => none
 | .toStr => match tls (.i .u8) x s with
  | some l => kk (JL d (vs (toStr l)) s)
  | none => none
 | .toBytes own => match x with
  | .a (.c (.d .s l)) => if own = true then kk (JL d (.a (.c (.slr new))) (wN new (.arr true (.i .u8) (toByt l)) s)) else kk (JL d (vl (.i .u8) (toByt l)) s)
  | _ => none
theorem Jqd (F : Orc) {k : CK} {x : TO} {v : TV} {d : Option Nat} {new : Nat} {s : TSt} {kk : TSt → Option R} {r : R} (hx : tev x s = some v) (hn : k = .toBytes true → new < s.sto.length) (h : JmR k v d new s kk = some r) : Ok (opR F (.conv k (erO x)) new) d s kk r := by
 unfold JmR at h
 split at h
 ·split at h
  ·refine J16 (v := vi _ _) ?_ h
   simp only [opR, run_bind, Jw hx, Option.bind_some, e_i, Jh, cvI]
  ·cases h
 ·split at h
  ·refine J16 (v := vs _) ?_ h
   simp only [opR, run_bind, Jw hx, Option.bind_some, e_s, Jh]
  ·cases h
 ·split at h
  ·rename_i l hl
   refine J16 (v := vs _) ?_ h
   have := Jf6 hl
   have e : l.map (cel (.i .u8)) = l.map (r_i .u8) := rfl
   rw [e] at this
   simp only [opR, run_bind, Jw hx, Option.bind_some, this, Jb4, e_s, Jh, Ty.sz]
   rw [show (J1D 1 (Jp (lns s.sto) v)).run (Jb s) = some (l.map (r_i .u8)) from this]
   simp only [Option.bind_some, Jb4, Jh]
  ·cases h
 ·rename_i own
  split at h
  ·rename_i l
   split at h
   ·rename_i ho
    subst ho
    refine JmH (x := .arr true (.i .u8) (toByt l)) (v := .a (.c (.slr new))) ?_ h
    simp only [opR, run_bind, Jw hx, Option.bind_some, e_s, if_true, Jh, J3j, JF, JdO]
    have e : lns (wN new (TB.arr true (Ty.i IntKind.u8) (toByt l)) s).sto new = l.length := by
     unfold wN
     rw [Jkf (by simpa using hn rfl)]
     simp [lnB, toByt]
    rw [e]; rfl
   ·rename_i ho
    have : own = false := by simpa using ho
    subst this
    refine J16 (v := vl _ _) ?_ h
    simp only [opR, run_bind, Jw hx, Option.bind_some, e_s, Bool.false_eq_true, if_false, Jh, e_l, JdO]
    rfl
  ·cases h
end
end Go.Am
end
section
namespace Go.Am
section
variable {R : Type}
theorem Jm5 (p q : List Sp) : spo (p ++ q) = spo p + spo q := by
 induction p with
 | nil => simp [spo]
 | cons x p ih => cases x <;> simp only [List.cons_append, spo, ih] <;> omega
def Jkb (off : Nat) (x : TV) (kk : TV → Option R) : Option R :=
 match x with
 | .a (.c (.ptr b p)) => kk (.a (.c (.ptr b (p ++ [.f off]))))
 | .a (.c (.cp t x p)) => kk (.a (.c (.cp t x (p ++ [.f off]))))
 | .a (.c (.ep b i p)) => kk (.a (.c (.ep b i (p ++ [.f off]))))
 | _ => none
theorem JoI {off : Nat} {x : TV} {s : TSt} {kk : TV → Option R} {r : R} (h : Jkb off x kk = some r) : Vl (Jcw off (Jp (lns s.sto) x)) s kk r := by
 unfold Jkb at h
 split at h <;> first
  | (refine ⟨_, ?_, h⟩; simp only [J4I, J7D, J7U, Jcw, Jm5, spo, Nat.add_zero]; done)
  | cases h
def Jjk (len esz : Nat) (x i : TV) (kk : TV → Option R) : Option R :=
 match i with
 | .a (.c (.d (.i _) n)) => (inb len n).bind fun _ => match x with
  | .a (.c (.ptr b p)) => kk (.a (.c (.ptr b (p ++ [.a n.toNat esz]))))
  | .a (.c (.cp t x p)) => kk (.a (.c (.cp t x (p ++ [.a n.toNat esz]))))
  | .a (.c (.ep b i p)) => kk (.a (.c (.ep b i (p ++ [.a n.toNat esz]))))
  | _ => none
 | _ => none
theorem Jov {len esz : Nat} {x i : TV} {s : TSt} {kk : TV → Option R} {r : R} (h : Jjk len esz x i kk = some r) : Vl (JbS len esz (Jp (lns s.sto) x) (Jp (lns s.sto) i)) s kk r := by
 unfold Jjk at h
 split at h
 ·obtain ⟨_, h1, h⟩ := Option.bind_eq_some_iff.1 h
  have h0 := Jld h1
  split at h <;> first
   | (refine ⟨_, ?_, h⟩; simp only [J4I, J7D, J7U, e_i, JbS, if_pos h0, Jm5, spo, Nat.add_zero]; done)
   | cases h
 ·cases h
def Jku (t : Ty) (x i : TV) (s : TSt) (kk : TV → Option R) : Option R :=
 match i with
 | .a (.c (.d (.i _) n)) => match x with
  | .a (.c (.d (.l t') l)) => if t' = t then (idx l n).bind fun y => kk (.a (.c (.cp t' y []))) else none
  | .a (.c (.slr b)) => match s.sto[b]? with
   | some (.arr _ t' rows) => if t' = t then (inb rows.length n).bind fun _ => kk (.a (.c (.ep b n.toNat []))) else none
   | _ => none
  | _ => none
 | _ => none
theorem Jof {t : Ty} {x i : TV} {d : Option Nat} {s : TSt} {k : TSt → Option R} {r : R} (h : Jku t x i s (fun v => k (JL d v s)) = some r) : Ok (J4A t.sz (Jp (lns s.sto) x) (Jp (lns s.sto) i)) d s k r := by
 unfold Jku at h
 split at h
 ·split at h
  ·split at h
   ·rename_i h0; subst h0
    obtain ⟨y, h1, h⟩ := Option.bind_eq_some_iff.1 h
    refine J16 (v := .a (.c (.cp _ y []))) ?_ h
    simp only [e_l, e_i, J7D, J4A, if_true, Jod h1, Jh, spo]
   ·cases h
  ·rename_i b
   split at h
   ·rename_i w t' rows hb
    split at h
    ·rename_i h0; subst h0
     obtain ⟨_, h1, h⟩ := Option.bind_eq_some_iff.1 h
     have h0 := Jld h1
     refine J16 (v := .a (.c (.ep b _ []))) ?_ h
     simp only [J3j, e_i, J7U, J4A, J0D, J0O, hb, Option.map_some, Option.bind_some, JF, J3P hb, List.length_map, Nat.zero_add, true_and]
     rw [if_pos h0]
     rfl
    ·cases h
   ·cases h
  ·cases h
 ·cases h
def Jnk (x i : TV) (kk : TV → Option R) : Option R :=
 match x, i with
 | .a (.c (.d .s l)), .a (.c (.d (.i _) n)) => (Jto l n).bind fun u => kk (vi .u8 u)
 | _, _ => none
theorem JpB (F : Orc) {x i : TO} {vx vi' : TV} {d : Option Nat} {new : Nat} {s : TSt} {k : TSt → Option R} {r : R} (hx : tev x s = some vx) (hi : tev i s = some vi') (h : Jnk vx vi' (fun v => k (JL d v s)) = some r) : Ok (opR F (.sidx (erO x) (erO i)) new) d s k r := by
 unfold Jnk at h
 split at h
 ·rename_i l k' n
  obtain ⟨u, h1, h⟩ := Option.bind_eq_some_iff.1 h
  refine J16 (v := vi .u8 u) ?_ h
  simp only [opR, run_bind, Jw hx, Jw hi, Option.bind_some, e_s, e_i]
  unfold Jto at h1
  split at h1
  ·rename_i h0
   rw [if_pos h0]
   split at h1
   ·rename_i q hq
    injection h1 with h1
    rw [hq, ← h1]; rfl
   ·cases h1
  ·cases h1
 ·cases h
def JmC (j : Int) (k : Nat → Option R) : Nat → Option R
 | 0 => none
 | m + 1 => if eqI j m = true then k m else JmC j k m
theorem Jlv {j : Int} {k : Nat → Option R} {r : R} : ∀ {n : Nat}, JmC j k n = some r → ∃ m, m < n ∧ j = m ∧ k m = some r
 | 0, h => by cases h
 | n + 1, h => by
  simp only [JmC] at h
  split at h
  ·rename_i e; exact ⟨n, by omega, by simpa [eqI] using e, h⟩
  ·obtain ⟨m, h1, h2, h3⟩ := Jlv h
   exact ⟨m, by omega, h2, h3⟩
def Jnd (agg : Bool) (len : Nat) (t : Ty) (x i : TV) (d : Option Nat) (s : TSt) (k : TSt → Option R) : Option R :=
 if agg = true ∨ t.sz = 1 then
  match x, i with
  | .a (.dt (.ar n t') v), .a (.c (.d (.i _) j)) => if h : t' = t ∧ n = len then (JpD v j).bind fun y => k (JL d (mkv agg t (h.1 ▸ y)) s) else none
  | .a (.m _ cs), .a (.c (.d (.i _) j)) => JmC j (fun m => match sub cs (m * t.sz) t.sz with
   | some l => match mka agg t l with
    | some v => k (JL d v s)
    | none => none
   | none => none) len
  | _, _ => none
 else none
theorem Jps (F : Orc) {agg : Bool} {len : Nat} {t : Ty} {x i : TO} {vx vi' : TV} {d : Option Nat} {new : Nat} {s : TSt} {k : TSt → Option R} {r : R} (hx : tev x s = some vx) (hi : tev i s = some vi') (h : Jnd agg len t vx vi' d s k = some r) :
  Ok (opR F (.aidx agg len t.sz (erO x) (erO i)) new) d s k r := by
 unfold Jnd at h
 split at h
 ·rename_i ha
  split at h
  ·rename_i n t' v k' j
   split at h
   ·rename_i h0
    obtain ⟨rfl, rfl⟩ := h0
    obtain ⟨y, h1, h⟩ := Option.bind_eq_some_iff.1 h
    obtain ⟨h2, h3⟩ := Jpc h1
    refine J16 (v := mkv agg t' y) ?_ h
    simp only [opR, run_bind, Jw hx, Jw hi, Option.bind_some, Jmr, e_i, if_pos h2, J6n]
    rw [show cel (.ar n t') v = J7n (cel t') v from rfl, Jc7 (J0m t') h3]
    simp only [JaC (lns s.sto) ha, val, Jh]
   ·cases h
  ·rename_i t0 cs k' j
   obtain ⟨m, h1, e0, h3⟩ := Jlv h
   clear h
   subst e0
   split at h3
   ·rename_i l hl
    split at h3
    ·rename_i v hv
     refine J16 (v := v) ?_ h3
     have h2 : (0 : Int) ≤ m ∧ (m : Int) < len := by omega
     simp only [opR, run_bind, Jw hx, Jw hi, Option.bind_some, e_m, e_i, if_pos h2, J6n, Int.toNat_natCast, J7O, hl, Option.map_some, JaL (lns s.sto) hv, val, Jh]
    ·cases h3
   ·cases h3
  ·cases h
 ·cases h
def Jmh (x : TV) (i : Nat) (kk : TV → Option R) : Option R :=
 match x with
 | .tup vs => match vs[i]? with
  | some v => kk (.a v)
  | none => none
 | _ => none
theorem JpV {x : TV} {i : Nat} {s : TSt} {kk : TV → Option R} {r : R} (h : Jmh x i kk = some r) : Vl (Jfs i (Jp (lns s.sto) x)) s kk r := by
 unfold Jmh at h
 split at h
 ·split at h
  ·rename_i v hv
   refine ⟨_, ?_, h⟩
   simp only [Jp, Jfs, List.getElem?_map, hv, Option.map_some]
  ·cases h
 ·cases h
def JqF (str : Bool) (x : TV) (s : TSt) (kk : TV → Option R) : Option R :=
 match str, x with
 | true, .a (.c (.d .s l)) => kk (vi .i64 (J5 l))
 | false, .a (.c (.d (.l _) l)) => kk (vi .i64 (J5 l))
 | false, .a (.c (.slr b)) => match s.sto[b]? with
  | some (.arr _ _ rows) => kk (vi .i64 (J5 rows))
  | _ => none
 | false, .a (.c (.slo _ n)) => kk (vi .i64 n)
 | _, _ => none
theorem Js3 {str : Bool} {x : TV} {s : TSt} {kk : TV → Option R} {r : R} (h : JqF str x s kk = some r) : Vl (Jge str (Jp (lns s.sto) x)) s kk r := by
 unfold JqF at h
 split at h
 ·exact ⟨_, rfl, h⟩
 ·exact ⟨_, by simp only [e_l, Jge, List.length_map, e_i, J5], h⟩
 ·split at h
  ·rename_i hb
   exact ⟨_, by simp only [J3j, Jge, J3P hb, e_i, J5], h⟩
  ·cases h
 ·exact ⟨_, rfl, h⟩
 ·cases h
theorem Jg6 {s : TSt} {new : Nat} (hn : new < s.sto.length) {w : Bool} {t : Ty} {rows : List t.D} : lns (wN new (TB.arr w t rows) s).sto new = rows.length := by
 unfold wN
 rw [Jkf (by simpa using hn)]; rfl
theorem JeJ {m : RM Eff} {d : Option Nat} {s : TSt} {k : TSt → Option R} {r : R} {new : Nat} {t : Ty} {rows : List t.D} (hn : new < s.sto.length)
  (hm : m.run (Jb s) = some ⟨.slr new 0 rows.length, [(new, .arr true t.sz (rows.map (cel t)))]⟩) (h : k (JL d (.a (.c (.slr new))) (wN new (.arr true t rows) s)) = some r) : Ok m d s k r := by
 refine JmH (x := .arr true t rows) (v := .a (.c (.slr new))) ?_ h
 rw [hm, J3j, Jg6 hn]; rfl
def Je3 (own : Bool) (t : Ty) (bytes : Nat) (l c : TV) (d : Option Nat) (new : Nat) (s : TSt) (k : TSt → Option R) : Option R :=
 match l, c with
 | .a (.c (.d (.i _) n)), .a (.c (.d (.i _) m)) => (mkS bytes n m t.zero).bind fun rows =>
  if own = true then k (JL d (.a (.c (.slr new))) (wN new (.arr true t rows) s)) else k (JL d (vl t rows) s)
 | _, _ => none
theorem JkG (F : Orc) {own : Bool} {t : Ty} {bytes : Nat} {l c : TO} {vl' vc : TV} {d : Option Nat} {new : Nat} {s : TSt} {k : TSt → Option R} {r : R} (hl : tev l s = some vl') (hc : tev c s = some vc) (hn : own = true → new < s.sto.length)
  (h : Je3 own t bytes vl' vc d new s k = some r) : Ok (opR F (.mkslice own t.sz bytes (cel t t.zero) (erO l) (erO c)) new) d s k r := by
 unfold Je3 at h
 split at h
 ·obtain ⟨rows, h1, h3⟩ := Option.bind_eq_some_iff.1 h
  obtain ⟨h2, rfl⟩ := Jse h1
  clear h
  split at h3
  ·rename_i ho
   subst ho
   refine JeJ (hn rfl) ?_ h3
   simp only [opR, run_bind, Jw hl, Jw hc, Option.bind_some, e_i, if_pos h2, if_true, Jh, List.length_replicate, List.map_replicate]
  ·rename_i ho
   have : own = false := by simpa using ho
   subst this
   refine J16 (v := vl t _) ?_ h3
   simp only [opR, run_bind, Jw hl, Jw hc, Option.bind_some, e_i, if_pos h2, Bool.false_eq_true, if_false, Jh, e_l, List.map_replicate]
 ·cases h
def Jnf (t : Ty) (bytes : Nat) (x y : TV) (d : Option Nat) (s : TSt) (k : TSt → Option R) : Option R :=
 match x with
 | .a (.c (.slr b)) => match s.sto[b]? with
  | some (.arr w t' rows) => if h : t' = t then
    match tls t' y s with
    | some l => (J1V bytes rows l).bind fun m => k (JL d (.a (.c (.slr b))) (wN b (.arr w t' m) s))
    | none => none
   else none
  | _ => none
 | _ => none
theorem JlJ {t : Ty} {bytes : Nat} {x y : TV} {d : Option Nat} {s : TSt} {k : TSt → Option R} {r : R} (h : Jnf t bytes x y d s k = some r) : Ok (J5D t.sz bytes (Jp (lns s.sto) x) (Jp (lns s.sto) y)) d s k r := by
 unfold Jnf at h
 split at h
 ·rename_i b
  split at h
  ·rename_i w t' rows hb
   split at h
   ·rename_i h0; subst h0
    split at h
    ·rename_i l hl
     obtain ⟨m, h1, h⟩ := Option.bind_eq_some_iff.1 h
     refine JmH (x := .arr w t' m) (v := .a (.c (.slr b))) ?_ h
     have hb' : (Jb s).sto[b]? = some (.arr w t'.sz (rows.map (cel t'))) := by rw [J0O, hb]; rfl
     have := Jr1 h1 hb' (Jf6 hl)
     rw [J3j, J3P hb, this, J3j, Jg6 (J8 hb)]
     rfl
    ·cases h
   ·cases h
  ·cases h
 ·cases h
def Jn1 (t : Ty) (bytes : Nat) (y : TV) (d : Option Nat) (new : Nat) (s : TSt) (k : TSt → Option R) : Option R :=
 match tls t y s with
 | some l => (cloS bytes l).bind fun m => k (JL d (.a (.c (.slr new))) (wN new (.arr true t m) s))
 | none => none
theorem Jp7 (F : Orc) {t : Ty} {bytes : Nat} {z : List PV} {y : TO} {vy : TV} {d : Option Nat} {new : Nat} {s : TSt} {k : TSt → Option R} {r : R} (hy : tev y s = some vy) (hn : new < s.sto.length) (h : Jn1 t bytes vy d new s k = some r) : Ok (opR F (.appn t.sz bytes z (erO y)) new) d s k r := by
 unfold Jn1 at h
 split at h
 ·rename_i l hl
  obtain ⟨m, h1, h3⟩ := Option.bind_eq_some_iff.1 h
  obtain ⟨h2, rfl⟩ := JoT h1
  refine JeJ hn ?_ h3
  simp only [opR, run_bind, Jw hy, Option.bind_some, Jf6 hl, List.length_map, h2, if_true, Jh]
 ·cases h
def Jn9 (t : Ty) (bytes : Nat) (x y : TV) (d : Option Nat) (s : TSt) (k : TSt → Option R) : Option R :=
 match y with
 | .a (.c (.d (.i _) n)) => if 0 ≤ n then Jnf t bytes x (vl t (List.replicate n.toNat t.zero)) d s k else none
 | _ => none
theorem JoV (F : Orc) {t : Ty} {bytes : Nat} {x y : TO} {vx vy : TV} {d : Option Nat} {new : Nat} {s : TSt} {k : TSt → Option R} {r : R} (hx : tev x s = some vx) (hy : tev y s = some vy) (h : Jn9 t bytes vx vy d s k = some r) : Ok (opR F (.appz t.sz bytes (cel t t.zero) (erO x) (erO y)) new) d s k r := by
 unfold Jn9 at h
 split at h
 ·rename_i n
  split at h
  ·rename_i h0
   obtain ⟨e, s', h1, h2, h3⟩ := JlJ h
   refine ⟨e, s', ?_, h2, h3⟩
   simp only [opR, run_bind, Jw hx, Jw hy, Option.bind_some, e_i, zrs, if_pos h0]
   rw [e_l, List.map_replicate] at h1
   exact h1
  ·cases h
 ·cases h
def JmT (t : Ty) (bytes : Nat) (x y : TV) (d : Option Nat) (new : Nat) (s : TSt) (k : TSt → Option R) : Option R :=
 match x with
 | .a (.c (.sc t' rows)) => if h : t' = t then
   match tls t' y s with
   | some l => (Jtx bytes rows l).bind fun m => k (JL d (.a (.c (.slr new))) (wN new (.arr true t' m) s))
   | none => none
  else none
 | _ => none
theorem Jqp (F : Orc) {t : Ty} {bytes : Nat} {z : List PV} {x y : TO} {vx vy : TV} {d : Option Nat} {new : Nat} {s : TSt} {k : TSt → Option R} {r : R} (hx : tev x s = some vx) (hy : tev y s = some vy) (hn : new < s.sto.length) (h : JmT t bytes vx vy d new s k = some r) :
  Ok (opR F (.appc t.sz bytes z (erO x) (erO y)) new) d s k r := by
 unfold JmT at h
 split at h
 ·rename_i t' rows
  split at h
  ·rename_i h0; subst h0
   split at h
   ·rename_i l hl
    obtain ⟨m, h1, h⟩ := Option.bind_eq_some_iff.1 h
    unfold Jtx at h1
    split at h1
    ·rename_i h2
     injection h1 with h1
     subst h1
     refine JeJ hn ?_ h
     simp only [opR, run_bind, Jw hx, Jw hy, Option.bind_some]
     show (JjA t'.sz bytes (.p (.slc t'.sz (rows.map (cel t')))) _ new).run _ = _
     simp only [JjA, run_bind, Jf6 hl, Option.bind_some, List.length_map, true_and, h2, and_self, if_true, Jh, List.length_append, List.map_append]
    ·cases h1
   ·cases h
  ·cases h
 ·cases h
def tbn (x : Option TO) (s : TSt) : Option (Option (IntKind × Int)) :=
 match x with
 | none => some none
 | some o => match tev o s with
  | some (.a (.c (.d (.i k) n))) => some (some (k, n))
  | _ => none
def bv (x : Option (IntKind × Int)) : Option AV := x.map fun y => .p (.i y.1 y.2)
theorem Jap {x : Option TO} {s : TSt} {y : Option (IntKind × Int)} (h : tbn x s = some y) : (evo (x.map erO)).run (Jb s) = some (bv y) := by
 cases x with
 | none => injection h with h; subst h; rfl
 | some o =>
  simp only [tbn] at h
  split at h
  ·rename_i k n ho
   injection h with h; subst h
   simp only [Option.map_some, evo, run_bind, Jw ho, Option.bind_some, Jh, bv, e_i]
  ·cases h
theorem Jsv (x : Option (IntKind × Int)) (top d : Nat) : J4u (bv x) top d = JjG (x.map (·.2)) top d := by
 cases x <;> rfl
theorem Jon (n : Nat) (lo hi : Option (IntKind × Int)) : JbQ n (bv lo) (bv hi) = Jgv n (lo.map (·.2)) (hi.map (·.2)) := by
 unfold JbQ Jgv
 simp only [Jsv]
 rfl
inductive TSK where
 | str
 | sl (t : Ty)
def erK : TSK → SK
 | .str => .str
 | .sl t => .sl t.sz
def Jpa (t : Ty) (x : TV) (s : TSt) (kk : List t.D → TSt → Option R) : Option R :=
 match x with
 | .a (.c (.d (.l t') l)) => if h : t' = t then kk (h ▸ l) s else none
 | .a (.c (.slr b)) => match s.sto[b]? with
  | some (.arr _ t' rows) => if h : t' = t then kk (h ▸ rows) (wS b (.arr false t' rows) s) else none
  | _ => none
 | _ => none
theorem JrE {t : Ty} {x : TV} {s : TSt} {kk : List t.D → TSt → Option R} {r : R} (h : Jpa t x s kk = some r) :
  ∃ l s' ws, Fzd s s' ws ∧ kk l s' = some r ∧ ((Jp (lns s.sto) x = .p (.sl t.sz (l.map (cel t))) ∧ ws = []) ∨
   ∃ b, Jp (lns s.sto) x = .slr b 0 l.length ∧ (fz (.slr b 0 l.length)).run (Jb s) = some ([.sl t.sz (l.map (cel t))], ws)) := by
 unfold Jpa at h
 split at h
 ·split at h
  ·rename_i h0; subst h0
   exact ⟨_, s, [], Fzd.refl s, h, .inl ⟨e_l _ _ _, rfl⟩⟩
  ·cases h
 ·rename_i b
  split at h
  ·rename_i w t' rows hb
   split at h
   ·rename_i h0; subst h0
    refine ⟨_, _, _, JfO hb, h, .inr ⟨b, by rw [J3j, J3P hb], ?_⟩⟩
    simp only [fz, J0D, J0O, hb, Option.map_some, Option.bind_some, JF, List.length_map, Nat.zero_add, if_true, List.drop_zero, Jh]
   ·cases h
  ·cases h
 ·cases h
def Jkk (kd : TSK) (x : TV) (lo hi mx : Option (IntKind × Int)) (d : Option Nat) (s : TSt) (k : TSt → Option R) : Option R :=
 match kd with
 | .str => match x, mx with
  | .a (.c (.d .s l)), none => (J7E l (lo.map (·.2)) (hi.map (·.2))).bind fun q => k (JL d (vs q) s)
  | _, _ => none
 | .sl t => Jpa t x s fun l s1 => match mx with
  | none => (J7E l (lo.map (·.2)) (hi.map (·.2))).bind fun q => k (JL d (vl t q) s1)
  | some (_, n) => match lo, hi with
   | none, some (_, h) => if h = l.length ∧ n = l.length then k (JL d (.a (.c (.sc t l))) s1) else none
   | _, _ => none
theorem JlD {α : Type} {l q : List α} {lo hi : Option Int} (h : J7E l lo hi = some q) : ∃ c, Jgv l.length lo hi = some c ∧ q = (l.drop c.1).take (c.2 - c.1) := by
 unfold J7E at h
 split at h
 ·rename_i c hc
  injection h with h
  exact ⟨c, hc, h.symm⟩
 ·cases h
theorem JoO (F : Orc) {kd : TSK} {x : TO} {vx : TV} {lo hi mx : Option TO} {l h' m : Option (IntKind × Int)} {d : Option Nat} {new : Nat} {s : TSt} {k : TSt → Option R} {r : R} (hx : tev x s = some vx) (hl : tbn lo s = some l) (hh : tbn hi s = some h') (hm : tbn mx s = some m)
  (h : Jkk kd vx l h' m d s k = some r) : Ok (opR F (.slice (erK kd) (erO x) (lo.map erO) (hi.map erO) (mx.map erO)) new) d s k r := by
 unfold Jkk at h
 split at h
 ·split at h
  ·rename_i l0
   obtain ⟨q, h1, h⟩ := Option.bind_eq_some_iff.1 h
   obtain ⟨c, hc, rfl⟩ := JlD h1
   refine J16 (v := vs _) ?_ h
   have e0 : bv none = none := rfl
   simp only [opR, run_bind, Jw hx, Jap hl, Jap hh, Jap hm, Option.bind_some, e_s, erK, e0, J3v, J8b, val, Jon, hc, Jh]
  ·cases h
 ·rename_i t
  obtain ⟨y, s1, ws, f, h, hv⟩ := JrE h
  have red : ∀ (res : AV), J3v (.sl t.sz) (.p (.sl t.sz (y.map (cel t)))) (bv l) (bv h') (bv m) = some res →
    (opR F (.slice (erK (.sl t)) (erO x) (lo.map erO) (hi.map erO) (mx.map erO)) new).run (Jb s) = some ⟨res, ws⟩ := by
   intro res hr
   simp only [opR, run_bind, Jw hx, Jap hl, Jap hh, Jap hm, Option.bind_some, erK]
   rcases hv with ⟨hv, rfl⟩ | ⟨b, hv, hf⟩
   ·simp only [hv, hr, val, Jh]
   ·simp only [hv, run_bind, hf, Option.bind_some, hr, Jh]
  split at h
  ·obtain ⟨q, h2, h⟩ := Option.bind_eq_some_iff.1 h
   obtain ⟨c, hc, rfl⟩ := JlD h2
   refine Jjw (v := vl t _) f (red _ ?_) h
   have e0 : bv none = none := rfl
   simp only [e0, J3v, J8c, if_true, List.length_map, Jon, hc, e_l, List.map_take, List.map_drop]
  ·split at h
   ·split at h
    ·rename_i h0
     refine Jjw (v := .a (.c (.sc t y))) f (red _ ?_) h
     simp only [bv, Option.map_none, Option.map_some, J3v, Jij, List.length_map, h0, and_self, if_true]
     rfl
    ·cases h
   ·cases h
end
end Go.Am
end
section
namespace Go.Am
section
variable {R : Type}
def JmB (t : Ty) : List (Nat × TO) → TSt → TSt → (List (Nat × t.D) → TSt → Option R) → Option R
 | [], _, s, k => k [] s
 | (i, o) :: r, s0, s, k => match tev o s0 with
  | some v => tfz t v s fun z s' => JmB t r s0 s' fun l s'' => k ((i, z) :: l) s''
  | none => none
theorem Jm7 {t : Ty} : ∀ {parts : List (Nat × TO)} {s0 s : TSt} {w0 : List (Nat × Blk)} {k : List (Nat × t.D) → TSt → Option R} {r : R}, Fzd s0 s w0 → JmB t parts s0 s k = some r →
  ∃ l s' ws, (fzs (parts.map fun x => erO x.2)).run (Jb s0) = some (l.map fun x => cel t x.2, ws) ∧ Fzd s0 s' (w0 ++ ws) ∧ l.map (·.1) = parts.map (·.1) ∧ k l s' = some r
 | [], s0, s, w0, k, r, f, h => ⟨[], s, [], rfl, by rw [List.append_nil]; exact f, rfl, h⟩
 | (i, o) :: q, s0, s, w0, k, r, f, h => by
  simp only [JmB] at h
  split at h
  ·rename_i v hv
   obtain ⟨z, s1, w1, h1, f1, h⟩ := JnG f h
   obtain ⟨l, s2, w2, h2, f2, h3, h⟩ := Jm7 f1 h
   refine ⟨(i, z) :: l, s2, w1 ++ w2, ?_, by rw [← List.append_assoc]; exact f2, by simp [h3], h⟩
   simp only [List.map_cons, fzs, run_bind, Jw hv, Option.bind_some, h1, h2, Jh]
  ·cases h
def Jfw {α : Type} : List (Nat × α) → List α → Option (List α)
 | [], rows => some rows
 | (i, c) :: r, rows => if i < rows.length then Jfw r (rows.set i c) else none
theorem Jhd {t : Ty} : ∀ {l : List (Nat × t.D)} {rows rows' : List t.D}, Jfw l rows = some rows' →
  J5q t.sz ((l.map (·.1)).zip (l.map fun x => cel t x.2)) (rows.map (cel t)) = some (rows'.map (cel t)) ∧ rows'.length = rows.length
 | [], rows, rows', h => by injection h with h; subst h; exact ⟨rfl, rfl⟩
 | (i, c) :: q, rows, rows', h => by
  simp only [Jfw] at h
  split at h
  ·rename_i h0
   obtain ⟨h1, h2⟩ := Jhd h
   refine ⟨?_, by simpa using h2⟩
   simp only [List.map_cons, List.zip_cons_cons, J5q, J0m, true_and, List.length_map, if_pos h0]
   rw [← List.map_set]; exact h1
  ·cases h
def JmF (own : Bool) (t : Ty) (n : Nat) (parts : List (Nat × TO)) (d : Option Nat) (new : Nat) (s : TSt) (k : TSt → Option R) : Option R :=
 JmB t parts s s fun l s1 => match Jfw l (List.replicate n t.zero) with
  | some rows => if own = true then k (JL d (.a (.c (.slr new))) (wN new (.arr true t rows) s1)) else k (JL d (vl t rows) s1)
  | none => none
theorem Jql (F : Orc) {own : Bool} {t : Ty} {n : Nat} {parts : List (Nat × TO)} {d : Option Nat} {new : Nat} {s : TSt} {k : TSt → Option R} {r : R} (hn : own = true → new < s.sto.length)
  (h : JmF own t n parts d new s k = some r) : Ok (opR F (.lits own t.sz n (cel t t.zero) (parts.map fun x => (x.1, erO x.2))) new) d s k r := by
 unfold JmF at h
 obtain ⟨l, s1, ws, h1, f, h2, h3⟩ := Jm7 (Fzd.refl s) h
 rw [List.nil_append] at f
 clear h
 split at h3
 ·rename_i rows hp
  obtain ⟨q1, q2⟩ := Jhd hp
  rw [List.length_replicate] at q2
  rw [List.map_replicate] at q1
  have e1 : (parts.map fun x => (x.1, erO x.2)).map (·.2) = parts.map fun x => erO x.2 := by simp
  have e2 : (parts.map fun x => (x.1, erO x.2)).map (·.1) = l.map (·.1) := by rw [h2]; simp
  split at h3
  ·rename_i ho
   subst ho
   have hn1 : new < s1.sto.length := by
    have := congrArg (fun st => st.sto.length) f.2.2.1
    simp only [Jb, List.length_map, J7W] at this
    rw [this]; exact hn rfl
   refine ⟨⟨Jp (lns (wN new (.arr true t rows) s1).sto) (.a (.c (.slr new))), ws ++ [(new, .arr true t.sz (rows.map (cel t)))]⟩, _, ?_, J6l ?_ d _, h3⟩
   ·rw [J3j, Jg6 hn1]
    simp only [opR, run_bind, e1, h1, Option.bind_some, e2, q1, if_true, Jh, q2]
   ·rw [JqR, f.2.2.1, J0I]; rfl
  ·rename_i ho
   have : own = false := by simpa using ho
   subst this
   refine Jjw (v := vl t rows) f ?_ h3
   simp only [opR, run_bind, e1, h1, Option.bind_some, e2, q1, Bool.false_eq_true, if_false, Jh, e_l]
 ·cases h3
def J6s (s : TSt) : Nat → Nat → Bool
 | _, 0 => true
 | new, k + 1 => (match s.sto[new]? with
  | some .dead => true
  | _ => false) && J6s s (new + 1) k
theorem JiP {s : TSt} : ∀ {k new : Nat}, J6s s new k = true → (J8M new k).run (Jb s) = some ()
 | 0, _, _ => rfl
 | k + 1, new, h => by
  simp only [J6s, Bool.and_eq_true] at h
  obtain ⟨h1, h2⟩ := h
  split at h1
  ·rename_i hd
   simp only [J8M, J0D, J0O, hd, Option.map_some, Option.bind_some, JF]
   exact JiP h2
  ·cases h1
theorem J5w {s : TSt} : ∀ {k new : Nat}, J6s s new k = true → ∀ j, j < k → s.sto[new + j]? = some .dead
 | 0, _, _, j, hj => by omega
 | k + 1, new, h, j, hj => by
  simp only [J6s, Bool.and_eq_true] at h
  obtain ⟨h1, h2⟩ := h
  cases j with
  | zero =>
   split at h1
   ·rename_i hd; exact hd
   ·cases h1
  | succ j =>
   have := J5w h2 j (by omega)
   rw [← this]; congr 1; omega
theorem JgN {m : RM Eff} {d : Option Nat} {s : TSt} {k : TSt → Option R} {r : R} {new : Nat} {x : TB} (hd : s.sto[new]? = some .dead) (h0 : lnB x = 0)
  (hm : m.run (Jb s) = some ⟨.ptr new 0, [(new, JF (lns s.sto) x)]⟩) (h : k (JL d (.a (.c (.ptr new []))) (wS new x s)) = some r) : Ok m d s k r := by
 refine Jf5 (x := x) (v := .a (.c (.ptr new []))) (h0.trans (J6G hd).symm) ?_ h
 rw [hm]; rfl
def JlW (t : Ty) (d : Option Nat) (new : Nat) (s : TSt) (k : TSt → Option R) : Option R :=
 k (JL d (.a (.c (.ptr new []))) (wS new (.box t t.zero) s))
theorem Jmf (F : Orc) {t : Ty} {d : Option Nat} {new : Nat} {s : TSt} {k : TSt → Option R} {r : R} (hd : s.sto[new]? = some .dead) (h : JlW t d new s k = some r) : Ok (opR F (.newbox (cel t t.zero)) new) d s k r :=
 JgN hd (x := .box t t.zero) rfl rfl h
def Jpp (t : Ty) (x : TV) (d : Option Nat) (new : Nat) (s : TSt) (k : TSt → Option R) : Option R :=
 match tdv t x with
 | some z => if agv x = true ∨ t.sz = 1 then k (JL d (.a (.c (.ptr new []))) (wS new (.box t z) s)) else none
 | none => match tcs x with
  | some cs => if cs.length = t.sz then k (JL d (.a (.c (.ptr new []))) (wS new (.mbox t cs) s)) else none
  | none => none
theorem Jsk (F : Orc) {t : Ty} {x : TO} {v : TV} {d : Option Nat} {new : Nat} {s : TSt} {k : TSt → Option R} {r : R} (hd : s.sto[new]? = some .dead) (hx : tev x s = some v) (h : Jpp t v d new s k = some r) : Ok (opR F (.box t.sz (erO x)) new) d s k r := by
 unfold Jpp at h
 split at h
 ·rename_i z hz
  split at h
  ·rename_i ha
   refine JgN hd (x := .box t z) rfl ?_ h
   simp only [opR, run_bind, Jw hx, Option.bind_some, JbW (lns s.sto) hz ha, List.length_map, J0m, if_true, Jh, JF]
  ·cases h
 ·split at h
  ·rename_i cs hc
   split at h
   ·rename_i hn
    refine JgN hd (x := .mbox t cs) rfl ?_ h
    simp only [opR, run_bind, Jw hx, Option.bind_some, JbR (lns s.sto) hc, List.length_map, hn, if_true, Jh, JF]
   ·cases h
  ·cases h
def J7v : List (Nat × Ty) → Nat → TSt → TSt
 | [], _, s => s
 | (_, t) :: r, n, s => J7v r (n + 1) (wS n (.arr true t []) s)
def Jec : List (Nat × Ty) → Nat → List TC → List TC
 | [], _, cs => cs
 | (off, _) :: r, n, cs => Jec r (n + 1) (cs.set off (.slr n))
def J6F (os : List (Nat × Ty)) : List (Nat × Nat) := os.map fun x => (x.1, x.2.sz)
theorem JdY : ∀ {os : List (Nat × Ty)} {new : Nat} {s : TSt}, (∀ j, j < os.length → s.sto[new + j]? = some .dead) →
  lns (J7v os new s).sto = lns s.sto ∧ Jb (J7v os new s) = ⟨(Jb s).env, upd (J3m (J6F os) new) (Jb s).sto⟩ ∧ (∀ b, (∀ j, j < os.length → b ≠ new + j) → (J7v os new s).sto[b]? = s.sto[b]?)
 | [], _, s, _ => ⟨rfl, rfl, fun _ _ => rfl⟩
 | (off, t) :: q, new, s, h => by
  have hd : s.sto[new]? = some .dead := h 0 (by simp)
  have hl : lnB (.arr true t []) = lns s.sto new := (J6G hd).symm
  have e := Jay hl
  have ho : ∀ c, c ≠ new → (wS new (.arr true t []) s).sto[c]? = s.sto[c]? := fun c hc => by unfold wS; rw [List.getElem?_set_ne (fun e => hc e.symm)]
  obtain ⟨h1, h2, h3⟩ := JdY (os := q) (new := new + 1) (s := wS new (.arr true t []) s) (fun j hj => by
   rw [ho _ (by omega)]
   have := h (j + 1) (by simp; omega)
   rw [← this]; congr 1; omega)
  refine ⟨h1.trans e, ?_, fun b hb => ?_⟩
  ·simp only [J7v]
   rw [h2, Jbl hl]
   simp only [J6F, List.map_cons, J3m]
   rfl
  ·simp only [J7v]
   rw [h3 b (fun j hj => by have := hb (j + 1) (by simp; omega); omega), ho b (by have := hb 0 (by simp); omega)]
theorem JfN {L : Nat → Nat} : ∀ {os : List (Nat × Ty)} {new : Nat} {cs : List TC}, (∀ j, j < os.length → L (new + j) = 0) → (Jec os new cs).map (Jr L) = J7R (J6F os) new (cs.map (Jr L))
 | [], _, _, _ => rfl
 | (off, t) :: q, new, cs, h => by
  simp only [Jec, J6F, List.map_cons, J7R]
  rw [JfN (os := q) (new := new + 1) (fun j hj => by have := h (j + 1) (by simp; omega); rw [← this]; congr 1; omega), List.map_set]
  have : Jr L (.slr new) = .slr new 0 0 := by simp only [Jr]; rw [show L new = 0 from h 0 (by simp)]
  rw [this]; rfl
def Jee (t : Ty) (os : List (Nat × Ty)) (d : Option Nat) (new : Nat) (s : TSt) (k : TSt → Option R) : Option R :=
 k (JL d (.a (.c (.ptr (new + os.length) []))) (wS (new + os.length) (.mbox t (Jec os new (zcs t))) (J7v os new s)))
theorem Jl4 (F : Orc) {t : Ty} {os : List (Nat × Ty)} {d : Option Nat} {new : Nat} {s : TSt} {k : TSt → Option R} {r : R} (hd : J6s s new (os.length + 1) = true) (h : Jee t os d new s k = some r) :
  Ok (opR F (.newboxo (cel t t.zero) (J6F os)) new) d s k r := by
 unfold Jee at h
 generalize hc : zcs t = cs at h
 ·have hd' := J5w hd
  obtain ⟨h1, h2, h3⟩ := JdY (os := os) (new := new) (s := s) (fun j hj => hd' j (by omega))
  have hl : lnB (.mbox t (Jec os new cs)) = lns (J7v os new s).sto (new + os.length) := by
   rw [h1, J6G (hd' os.length (by omega))]; rfl
  have e := Jay hl
  have el : (J6F os).length = os.length := by simp [J6F]
  refine ⟨⟨Jp (lns (wS (new + os.length) (.mbox t (Jec os new cs)) (J7v os new s)).sto) (.a (.c (.ptr (new + os.length) []))), J3m (J6F os) new ++ [(new + os.length, .box (J7R (J6F os) new ((cel t t.zero).map .p)))]⟩, _, ?_, J6l ?_ d _, h⟩
  ·simp only [opR, Jh, el]; rfl
  ·rw [Jbl hl, h2, J0I]
   simp only [JF]
   rw [JfN (fun j hj => by rw [h1]; exact J6G (hd' j (by omega))), ← hc, Jav]
   rfl
def JfZ (t : Ty) (parts : List (Nat × Ty × TO)) (os : List (Nat × Ty)) (d : Option Nat) (new : Nat) (s : TSt) (k : TSt → Option R) : Option R :=
 match tpc parts s with
 | some l => match JeP l (Jec os new (zcs t)) with
  | some cs' => match mka true t cs' with
   | some v => k (JL d v (J7v os new s))
   | none => none
  | none => none
 | none => none
theorem JmZ (F : Orc) {t : Ty} {parts : List (Nat × Ty × TO)} {os : List (Nat × Ty)} {d : Option Nat} {new : Nat} {s : TSt} {k : TSt → Option R} {r : R} (hd : J6s s new os.length = true) (h : JfZ t parts os d new s k = some r) :
  Ok (opR F (.buildo (cel t t.zero) (erP parts) (J6F os)) new) d s k r := by
 unfold JfZ at h
 split at h
 ·rename_i l hl
  have hd' := J5w hd
  obtain ⟨h1, h2, h3⟩ := JdY (os := os) (new := new) (s := s) (fun j hj => hd' j (by omega))
  split at h
  ·rename_i cs' hf
   split at h
   ·rename_i v hv
    refine ⟨⟨Jp (lns (J7v os new s).sto) v, J3m (J6F os) new⟩, _, ?_, J6l h2 d _, h⟩
    have e1 := JfN (L := lns s.sto) (os := os) (new := new) (cs := zcs t) (fun j hj => J6G (hd' j (by omega)))
    rw [Jav] at e1
    have e2 := JdL (lns s.sto) hf
    rw [e1] at e2
    simp only [opR, run_bind, Jj2 hl, Option.bind_some, e2, JaL (lns s.sto) hv, Jh, h1]
   ·cases h
  ·cases h
 ·cases h
def JnN (t : Ty) (d : Option Nat) (new : Nat) (s : TSt) (k : TSt → Option R) : Option R :=
 k (JL d (.a (.c (.slr new))) (wN new (.arr true t []) s))
theorem JoQ (F : Orc) {t : Ty} {x : Opd} {d : Option Nat} {new : Nat} {s : TSt} {k : TSt → Option R} {r : R} (hn : new < s.sto.length) (h : JnN t d new s k = some r) : Ok (opR F (.mkarr t.sz x) new) d s k r :=
 JeJ (rows := []) hn rfl h
def tyB : Option TB → Ty
 | some (.box t _) => t
 | some (.mbox t _) => t
 | _ => .u
def JfW (t : Ty) (x : TV) (d : Option Nat) (new : Nat) (s : TSt) (k : TSt → Option R) : Option R :=
 match x with
 | .a (.c (.ptr b p)) => match JaP p, (match s.sto[b]? with
   | some (.box t0 y) => JdF t0 y
   | some (.mbox _ cs) => some cs
   | _ => none) with
  | some off, some cs => match spl cs off [.slr new] with
   | some cs' => k (JL d uv (wS b (.mbox (tyB s.sto[b]?) cs') (wS new (.arr true t []) s)))
   | none => none
  | _, _ => none
 | _ => none
theorem Jnp (F : Orc) {t : Ty} {x : TO} {v : TV} {d : Option Nat} {new : Nat} {s : TSt} {k : TSt → Option R} {r : R} (hd : s.sto[new]? = some .dead) (hx : tev x s = some v) (h : JfW t v d new s k = some r) : Ok (opR F (.storen t.sz (erO x)) new) d s k r := by
 unfold JfW at h
 split at h
 ·rename_i b p
  split at h
  ·rename_i off cs ho hc
   split at h
   ·rename_i cs' hs
    have hl : lnB (.arr true t []) = lns s.sto new := (J6G hd).symm
    have key : b ≠ new ∧ lns s.sto b = 0 ∧ (Jb s).sto[b]? = some (.box (cs.map (Jr (lns s.sto)))) := by
     split at hc
     ·rename_i t0 y hb
      refine ⟨fun e => ?_, JcH hb, ?_⟩
      ·rw [e, hd] at hb; injection hb with hb; cases hb
      ·rw [J0O, hb, Jau _ hc]; rfl
     ·rename_i t0 cs0 hb
      injection hc with hc
      subst hc
      refine ⟨fun e => ?_, Jjn hb, ?_⟩
      ·rw [e, hd] at hb; injection hb with hb; cases hb
      ·rw [J0O, hb]; rfl
     ·cases hc
    obtain ⟨hne, h0, hb⟩ := key
    have e1 := Jay hl
    have hl2 : lnB (.mbox (tyB s.sto[b]?) cs') = lns (wS new (.arr true t []) s).sto b := by rw [e1, h0]; rfl
    refine ⟨⟨Jp (lns (wS b (.mbox (tyB s.sto[b]?) cs') (wS new (.arr true t []) s)).sto) uv, (new, .arr true t.sz []) :: [(b, .box (cs'.map (Jr (lns s.sto))))]⟩, _, ?_, J6l ?_ d _, h⟩
    ·have e2 : Jr (lns s.sto) (.slr new) = .slr new 0 0 := by simp only [Jr]; rw [J6G hd]
     have e3 : spl (cs.map (Jr (lns s.sto))) (spo p) [.slr new 0 0] = some (cs'.map (Jr (lns s.sto))) := by
      rw [← e2, Jao ho]
      have := J7I (Jr (lns s.sto)) cs off [TC.slr new]
      rw [hs] at this
      exact this
     simp only [opR, run_bind, Jw hx, Option.bind_some, J4I, J2G, J0D, hb, cellsOf, List.length_cons, List.length_nil, Nat.zero_add, if_true, e3, Jh]
     rfl
    ·rw [Jbl hl2, Jbl hl, e1]; rfl
   ·cases h
  ·cases h
 ·cases h
def Jmi (c : Bool) (a b : Option TV) (kk : TV → Option R) : Option R :=
 match a, b with
 | some (.a (.c (.d t x))), some (.a (.c (.d t' y))) => if h : t' = t then kk (.a (.c (.d t (Jue c x (h ▸ y))))) else none
 | some x, some y => if c = true then kk x else kk y
 | some x, none => if c = true then kk x else none
 | none, some y => if c = true then none else kk y
 | none, none => none
theorem Jqy (F : Orc) {c a b : TO} {x : Bool} {d : Option Nat} {new : Nat} {s : TSt} {k : TSt → Option R} {r : R} (hc : tev c s = some (vb x)) (h : Jmi x (tev a s) (tev b s) (fun v => k (JL d v s)) = some r) : Ok (opR F (.pick (erO c) (erO a) (erO b)) new) d s k r := by
 have key : ∃ v, (if x = true then tev a s else tev b s) = some v ∧ k (JL d v s) = some r := by
  unfold Jmi at h
  split at h
  ·rename_i t y t' z ha hb
   split at h
   ·rename_i h0; subst h0
    refine ⟨_, ?_, h⟩
    rw [ha, hb]
    cases x <;> rfl
   ·cases h
  ·rename_i y z _ ha hb
   split at h
   ·rename_i hx; exact ⟨y, by rw [if_pos hx]; exact ha, h⟩
   ·rename_i hx; exact ⟨z, by rw [if_neg hx]; exact hb, h⟩
  ·rename_i y ha hb
   split at h
   ·rename_i hx; exact ⟨y, by rw [if_pos hx]; exact ha, h⟩
   ·cases h
  ·rename_i y ha hb
   split at h
   ·cases h
   ·rename_i hx; exact ⟨y, by rw [if_neg hx]; exact hb, h⟩
  ·cases h
 obtain ⟨v, h1, h2⟩ := key
 refine J16 (v := v) ?_ h2
 simp only [opR, run_bind, Jw hc, Option.bind_some, e_b]
 cases x with
 | true =>
  rw [if_pos rfl] at h1
  simp only [if_true, run_bind, Jw h1, Option.bind_some, Jh]
 | false =>
  rw [if_neg (by simp)] at h1
  simp only [Bool.false_eq_true, if_false, run_bind, Jw h1, Option.bind_some, Jh]
def tcl : List TO → TSt → Option (List TC)
 | [], _ => some []
 | o :: r, s => match tev o s with
  | some (.a (.c x)) => match tcl r s with
   | some l => some (x :: l)
   | none => none
  | _ => none
theorem Jju {s : TSt} : ∀ {xs : List TO} {l : List TC}, tcl xs s = some l → (evs (xs.map erO)).run (Jb s) = some (l.map (Jr (lns s.sto)))
 | [], l, h => by injection h with h; subst h; rfl
 | o :: q, l, h => by
  simp only [tcl] at h
  split at h
  ·rename_i x hx
   split at h
   ·rename_i l' hl
    injection h with h; subst h
    simp only [List.map_cons, evs, run_bind, Jw hx, Option.bind_some, Jju hl, Jh]
    rfl
   ·cases h
  ·cases h
def Jq5 (x : TV) (kk : TV → Option R) : Option R :=
 match x with
 | .a (.c (.ptr b p)) => kk (.a (.c (.ptr b p)))
 | .a (.c (.cp t y p)) => kk (.a (.c (.cp t y p)))
 | .a (.c (.ep b i p)) => kk (.a (.c (.ep b i p)))
 | .a (.fn f a c) => kk (.a (.fn f a c))
 | .a (.c (.fn f)) => kk (.a (.c (.fn f)))
 | _ => none
theorem JrF (F : Orc) {x : TO} {v : TV} {d : Option Nat} {new : Nat} {s : TSt} {k : TSt → Option R} {r : R} (hx : tev x s = some v) (h : Jq5 v (fun v => k (JL d v s)) = some r) : Ok (opR F (.nilchk (erO x)) new) d s k r := by
  unfold Jq5 at h
  split at h <;> first
    | (refine J16 (v := _) ?_ h
       simp only [opR, run_bind, Jw hx, Option.bind_some, J4I, J7D, J7U, JpW, Jt5, Jh]; done)
    | cases h
end
end Go.Am
end
section
namespace Go.Am
section
variable {R : Type}
def Jpj (keep : Bool) (v : TV) (s : TSt) (kk : TA → TSt → Option R) : Option R :=
 match v with
 | .a x => if keep = true then kk x s else
  match x with
  | .c (.slr b) => match s.sto[b]? with
   | some (.arr _ t' rows) => kk (.c (.d (.l t') rows)) (wS b (.arr false t' rows) s)
   | _ => none
  | .c (.slo _ _) => none
  | .m t cs => fzC t cs s fun x s' => kk (.dt t x) s'
  | x => kk x s
 | .tup _ => none
def JeZ : List (TV × Bool) → TSt → (List TA → TSt → Option R) → Option R
 | [], s, kk => kk [] s
 | (v, keep) :: r, s, kk => Jpj keep v s fun x s => JeZ r s fun l s => kk (x :: l) s
theorem Jsr {keep : Bool} {v : TV} {s0 s : TSt} {w0 : List (Nat × Blk)} {kk : TA → TSt → Option R} {r : R} (f : Fzd s0 s w0) (h : Jpj keep v s kk = some r) :
  ∃ x s' ws, (if keep = true then RM.ret (Jp (lns s0.sto) v, []) else J6e (Jp (lns s0.sto) v)).run (Jb s0) = some (J0j (lns s0.sto) x, ws) ∧ Fzd s0 s' (w0 ++ ws) ∧ kk x s' = some r := by
 unfold Jpj at h
 split at h
 ·rename_i x
  split at h
  ·rename_i hk
   subst hk
   exact ⟨x, s, [], rfl, by rw [List.append_nil]; exact f, h⟩
  ·rename_i hk
   have : keep = false := by simpa using hk
   subst this
   simp only [Bool.false_eq_true, if_false]
   split at h
   ·rename_i b
    split at h
    ·rename_i w t' rows hb
     obtain ⟨w', hb0⟩ := f.2.2.2.1 b _ rows w hb
     refine ⟨_, _, [(b, .arr false t'.sz (rows.map (cel t')))], ?_, f.trans (JfO hb), h⟩
     simp only [J3j, J6e, fz, run_bind, J0D, J0O, hb0, Option.map_some, Option.bind_some, JF, J3P hb0, List.length_map, Nat.zero_add, if_true, List.drop_zero, Jh]
     rfl
    ·cases h
   ·cases h
   ·obtain ⟨y, s', ws, h1, h2, h3⟩ := Jct f h
    refine ⟨_, s', ws, ?_, h2, h3⟩
    simp only [e_m, J6e, fz, run_bind, h1, Option.bind_some, Jh]
    rfl
   ·rename_i n1 n2 n3
    refine ⟨x, s, [], ?_, by rw [List.append_nil]; exact f, h⟩
    cases x with
    | c x =>
     cases x with
     | slr b => exact absurd rfl (n1 b)
     | slo b n => exact absurd rfl (n2 b n)
     | _ => rfl
    | m t cs => exact absurd rfl (n3 t cs)
    | _ => rfl
 ·cases h
theorem JdD : ∀ {vs : List (TV × Bool)} {s0 s : TSt} {w0 : List (Nat × Blk)} {kk : List TA → TSt → Option R} {r : R}, Fzd s0 s w0 → JeZ vs s kk = some r →
  ∃ xs s' ws, (J2i (vs.map (·.2)) (vs.map fun x => Jp (lns s0.sto) x.1)).run (Jb s0) = some (xs.map (J0j (lns s0.sto)), ws) ∧ Fzd s0 s' (w0 ++ ws) ∧ kk xs s' = some r
 | [], s0, s, w0, kk, r, f, h => ⟨[], s, [], rfl, by rw [List.append_nil]; exact f, h⟩
 | (v, keep) :: q, s0, s, w0, kk, r, f, h => by
  simp only [JeZ] at h
  obtain ⟨x, s1, w1, h1, f1, h⟩ := Jsr f h
  obtain ⟨xs, s2, w2, h2, f2, h⟩ := JdD f1 h
  refine ⟨x :: xs, s2, w1 ++ w2, ?_, by rw [← List.append_assoc]; exact f2, h⟩
  cases keep with
  | true =>
   simp only [if_true, Jh] at h1
   injection h1 with h1
   injection h1 with h1 h3
   subst h3
   simp only [List.map_cons, J2i, run_bind, h2, Option.bind_some, Jh, h1, List.nil_append]
  | false =>
   simp only [Bool.false_eq_true, if_false] at h1
   simp only [List.map_cons, J2i, run_bind, h1, h2, Option.bind_some, Jh]
theorem J8K : ∀ (vs : List AV), J2i [] vs = J4J vs
 | [] => rfl
 | x :: r => by simp only [J2i, J4J, J8K r]
theorem J6o : ∀ (m : List Bool) (vs : List AV), (∀ x ∈ m, x = false) → J2i m vs = J4J vs
 | [], vs, _ => J8K vs
 | b :: m, [], _ => rfl
 | b :: m, x :: r, h => by
  have : b = false := h b (by simp)
  subst this
  simp only [J2i, J4J, J6o m r (fun x hx => h x (by simp [hx]))]
def JiQ (b : Nat) (l : List Nat) : List Nat := if l.any (fun x => x == b) = true then l else l ++ [b]
def Jif (x : TC) (l : List Nat) : Option (List Nat) :=
 match x with
 | .ptr b _ => some (JiQ b l)
 | .slr b => some (JiQ b l)
 | .slo b _ => some (JiQ b l)
 | .ep _ _ _ => none
 | .epo _ _ _ _ => none
 | _ => some l
def J9W : List TC → List Nat → Option (List Nat)
 | [], l => some l
 | x :: r, l => match Jif x l with
  | some l => J9W r l
  | none => none
def JmW (x : TA) (l : List Nat) : Option (List Nat) :=
 match x with
 | .c x => Jif x l
 | .dt _ _ => some l
 | .m _ cs => J9W cs l
 | .fn _ a c => match J9W a l with
  | some l => J9W c l
  | none => none
def Jan : List TA → List Nat → Option (List Nat)
 | [], l => some l
 | x :: r, l => match JmW x l with
  | some l => Jan r l
  | none => none
def J9u (s : TSt) : List Nat → List Nat → Option (List Nat)
 | [], acc => some acc
 | b :: r, acc => match s.sto[b]? with
  | some (.mbox _ cs) => match J9W cs acc with
   | some acc => J9u s r acc
   | none => none
  | some _ => J9u s r acc
  | none => none
theorem Jkr (b : Nat) (l : List Nat) : J8a (.whole b) (l.map .whole) = (JiQ b l).map .whole := by
 unfold J8a JiQ
 have : (l.map Ent.whole).any (fun x => x == .whole b) = l.any (fun x => x == b) := by
  rw [List.any_map]
  congr 1
  funext x
  simp only [Function.comp]
  by_cases h : x = b
  ·subst h; simp
  ·have h1 : (x == b) = false := by simpa using h
   have h2 : (Ent.whole x == Ent.whole b) = false := by simpa using h
   rw [h1, h2]
 rw [this]
 split <;> simp
section
variable (L : Nat → Nat)
theorem JiU {x : TC} {l l' : List Nat} (h : Jif x l = some l') : JW (Jr L x) (l.map .whole) = l'.map .whole := by
 unfold Jif at h
 split at h <;> first
  | (injection h with h; subst h; simp only [Jr, JW, Jkr]; done)
  | (cases h; done)
  | skip
 injection h with h; subst h
 rename_i n1 n2 n3 n4 n5
 cases x with
 | ptr b p => exact absurd rfl (n1 b p)
 | slr b => exact absurd rfl (n2 b)
 | slo b n => exact absurd rfl (n3 b n)
 | ep b i p => exact absurd rfl (n4 b i p)
 | epo b e i p => exact absurd rfl (n5 b e i p)
 | _ => rfl
theorem J7S : ∀ {xs : List TC} {l l' : List Nat}, J9W xs l = some l' → JW.entsOfL (xs.map (Jr L)) (l.map .whole) = l'.map .whole
 | [], l, l', h => by injection h with h; subst h; rfl
 | x :: r, l, l', h => by
  simp only [J9W] at h
  split at h
  ·rename_i l1 h1
   simp only [List.map_cons, JW.entsOfL, JiU L h1]
   exact J7S h
  ·cases h
theorem JqJ {x : TA} {l l' : List Nat} (h : JmW x l = some l') : JW (J0j L x) (l.map .whole) = l'.map .whole := by
 cases x with
 | c x => exact JiU L h
 | dt t x => injection h with h; subst h; rfl
 | m t cs => exact J7S L h
 | fn f a c =>
  simp only [JmW] at h
  split at h
  ·rename_i l1 h1
   simp only [J0j, JW, J7S L h1]
   exact J7S L h
  ·cases h
theorem J9z : ∀ {xs : List TA} {l l' : List Nat}, Jan xs l = some l' → JW.entsOfL (xs.map (J0j L)) (l.map .whole) = l'.map .whole
 | [], l, l', h => by injection h with h; subst h; rfl
 | x :: r, l, l', h => by
  simp only [Jan] at h
  split at h
  ·rename_i l1 h1
   simp only [List.map_cons, JW.entsOfL, JqJ L h1]
   exact J9z h
  ·cases h
end
theorem JdA {s0 s1 : TSt} {ws : List (Nat × Blk)} (f : Fzd s0 s1 ws) {b : Nat} {y : TB} (h : s1.sto[b]? = some y) : (Ja3 ws b).run (Jb s0) = some (JF (lns s0.sto) y) := by
 have h1 : (Jb s1).sto[b]? = some (JF (lns s0.sto) y) := by rw [J0O, h, f.2.1]; rfl
 rw [f.2.2.1] at h1
 have hlt : b < (Jb s0).sto.length := by
  have := J8 h1
  rw [J7W] at this
  exact this
 have := J70 ws (Jb s0).sto b hlt
 simp only at h1
 rw [h1] at this
 simp only [Ja3, J0D, List.getElem?_eq_getElem hlt, Option.bind_some]
 split at this
 ·rename_i z hz
  try rw [hz]
  simp only [Jh]
  exact this.symm
 ·rename_i hz
  try rw [hz]
  simp only [Jh]
  rw [List.getElem?_eq_getElem hlt] at this
  exact this.symm
theorem J6M {s0 s1 : TSt} {ws : List (Nat × Blk)} (f : Fzd s0 s1 ws) : ∀ {r acc l : List Nat}, J9u s1 r acc = some l → (J2I ws (r.map .whole) (acc.map .whole)).run (Jb s0) = some (l.map .whole)
 | [], acc, l, h => by injection h with h; subst h; rfl
 | b :: r, acc, l, h => by
  simp only [J9u] at h
  split at h
  ·rename_i cs hb
   split at h
   ·rename_i acc' ha
    simp only [List.map_cons, J2I, run_bind, JdA f hb, Option.bind_some, JF, J7S (lns s0.sto) ha]
    exact J6M f h
   ·cases h
  ·rename_i x hn hb
   simp only [List.map_cons, J2I, run_bind, JdA f hb, Option.bind_some]
   cases x with
   | mbox t cs => exact absurd rfl (hn t cs)
   | box t x =>
    simp only [JF]
    rw [Jho]
    exact J6M f h
   | _ => exact J6M f h
  ·cases h
end
end Go.Am
end
section
namespace Go.Am
def kCs (K : List Nat) (L : Nat → Nat) : TC → TC
 | .slr c => if K.any (fun x => x == c) = true then .slo c (L c) else .slr c
 | .ep c i p => if K.any (fun x => x == c) = true then .epo c (L c) i p else .ep c i p
 | x => x
def kAs (K : List Nat) (L : Nat → Nat) : TA → TA
 | .c x => .c (kCs K L x)
 | .dt t x => .dt t x
 | .m t cs => .m t (cs.map (kCs K L))
 | .fn f a c => .fn f (a.map (kCs K L)) (c.map (kCs K L))
def kVs (K : List Nat) (L : Nat → Nat) : TV → TV
 | .a x => .a (kAs K L x)
 | .tup vs => .tup (vs.map (kAs K L))
def kBs (K : List Nat) (L : Nat → Nat) : TB → TB
 | .mbox t cs => .mbox t (cs.map (kCs K L))
 | x => x
section
variable {K : List Nat} {L L' : Nat → Nat} (h : ∀ c, K.any (fun x => x == c) = false → L' c = L c)
include h
theorem JtA (x : TC) : Jr L' (kCs K L x) = Jr L x := by
 cases x with
 | slr c =>
  cases e : K.any (fun x => x == c) with
  | true => simp only [kCs, e, if_true, Jr]
  | false => simp only [kCs, e, Bool.false_eq_true, if_false, Jr, h c e]
 | ep c i p =>
  cases e : K.any (fun x => x == c) with
  | true => simp only [kCs, e, if_true, Jr]
  | false => simp only [kCs, e, Bool.false_eq_true, if_false, Jr, h c e]
 | _ => rfl
theorem JqU (xs : List TC) : (xs.map (kCs K L)).map (Jr L') = xs.map (Jr L) := by
 rw [List.map_map]; exact List.map_congr_left fun x _ => JtA h x
theorem Juf (x : TA) : J0j L' (kAs K L x) = J0j L x := by
 cases x <;> simp only [kAs, J0j, JtA h, JqU h]
theorem Juk (x : TV) : Jp L' (kVs K L x) = Jp L x := by
 cases x <;> simp only [kVs, Jp, Juf h, List.map_map, Function.comp_def]
theorem Jub (x : TB) : JF L' (kBs K L x) = JF L x := by
 cases x <;> simp only [kBs, JF, JqU h]
end
theorem JrS (K : List Nat) (L : Nat → Nat) (x : TB) : lnB (kBs K L x) = lnB x := by cases x <;> rfl
theorem JrG (sto : List TB) (K : List Nat) (L : Nat → Nat) (c : Nat) : lns (sto.map (kBs K L)) c = lns sto c := by
 unfold lns
 rw [List.getElem?_map]
 cases sto[c]? with
 | none => rfl
 | some x => exact JrS K L x
def JaQ (ws : List (Nat × Bool × TB)) (sto : List TB) : List TB := ws.foldl (fun σ x => σ.set x.1 x.2.2) sto
def J8m (ws : List (Nat × Bool × TB)) (s : TSt) : TSt :=
 match ws with
 | [] => s
 | ws =>
  let K := (ws.filter fun x => !x.2.1).map (·.1)
  ⟨s.env.map fun y => (y.1, kVs K (lns s.sto) y.2), JaQ ws (s.sto.map (kBs K (lns s.sto)))⟩
theorem Jeb : ∀ {ws : List (Nat × Bool × TB)} {sto : List TB} {c : Nat}, c ∉ ws.map (·.1) → (JaQ ws sto)[c]? = sto[c]?
 | [], _, _, _ => rfl
 | x :: ws, sto, c, h => by
  simp only [List.map_cons, List.mem_cons, not_or] at h
  show (JaQ ws (sto.set x.1 x.2.2))[c]? = _
  rw [Jeb h.2, List.getElem?_set_ne (fun e => h.1 e.symm)]
theorem Jlj : ∀ {ws : List (Nat × Bool × TB)} {sto : List TB}, (ws.map (·.1)).Nodup → ∀ x ∈ ws, x.1 < sto.length → (JaQ ws sto)[x.1]? = some x.2.2
 | [], _, _, x, hx, _ => by cases hx
 | y :: ws, sto, hn, x, hx, hl => by
  simp only [List.map_cons, List.nodup_cons] at hn
  show (JaQ ws (sto.set y.1 y.2.2))[x.1]? = _
  rcases List.mem_cons.1 hx with rfl | hx
  ·rw [Jeb hn.1, List.getElem?_set_self hl]
  ·exact Jlj hn.2 x hx (by simpa using hl)
theorem JiK (f : TB → Blk) : ∀ (ws : List (Nat × Bool × TB)) (sto : List TB), (JaQ ws sto).map f = upd (ws.map fun x => (x.1, f x.2.2)) (sto.map f)
 | [], _ => rfl
 | x :: ws, sto => by
  show (JaQ ws (sto.set x.1 x.2.2)).map f = upd (ws.map fun x => (x.1, f x.2.2)) ((sto.map f).set x.1 (f x.2.2))
  rw [JiK f ws, List.map_set]
theorem Jsi {ws : List (Nat × Bool × TB)} {s : TSt} (hn : (ws.map (·.1)).Nodup) (hl : ∀ x ∈ ws, x.1 < s.sto.length) (hf : ∀ x ∈ ws, x.2.1 = true → lnB x.2.2 = lns s.sto x.1) :
  Jb (J8m ws s) = ⟨(Jb s).env, upd (ws.map fun x => (x.1, JF (lns (J8m ws s).sto) x.2.2)) (Jb s).sto⟩ ∧ ∀ x ∈ ws, lns (J8m ws s).sto x.1 = lnB x.2.2 := by
 cases ws with
 | nil => exact ⟨rfl, fun x hx => by cases hx⟩
 | cons x0 ws0 =>
  generalize hw : x0 :: ws0 = ws at *
  have hdef : J8m ws s = ⟨s.env.map fun y => (y.1, kVs ((ws.filter fun x => !x.2.1).map (·.1)) (lns s.sto) y.2), JaQ ws (s.sto.map (kBs ((ws.filter fun x => !x.2.1).map (·.1)) (lns s.sto)))⟩ := by
   subst hw; rfl
  have hin : ∀ x ∈ ws, lns (J8m ws s).sto x.1 = lnB x.2.2 := fun x hx => by
   rw [hdef]
   unfold lns
   rw [Jlj hn x hx (by simpa using hl x hx)]; rfl
  have hk : ∀ c, ((ws.filter fun x => !x.2.1).map (·.1)).any (fun x => x == c) = false → lns (J8m ws s).sto c = lns s.sto c := by
   intro c hc
   by_cases hm : c ∈ ws.map (·.1)
   ·obtain ⟨x, hx, rfl⟩ := List.mem_map.1 hm
    cases hx1 : x.2.1 with
    | true => rw [hin x hx, hf x hx hx1]
    | false =>
     have : ((ws.filter fun x => !x.2.1).map (·.1)).any (fun y => y == x.1) = true := by
      rw [List.any_eq_true]
      exact ⟨x.1, List.mem_map.2 ⟨x, List.mem_filter.2 ⟨hx, by simp [hx1]⟩, rfl⟩, by simp⟩
     rw [hc] at this; cases this
   ·rw [hdef]
    have := JrG s.sto ((ws.filter fun x => !x.2.1).map (·.1)) (lns s.sto) c
    rw [← this]
    unfold lns
    rw [Jeb hm]
  refine ⟨?_, hin⟩
  generalize hL : lns (J8m ws s).sto = L' at *
  unfold Jb
  rw [hL, hdef]
  congr 1
  ·show J2X L' (s.env.map fun y => (y.1, kVs _ (lns s.sto) y.2)) = J2X _ s.env
   unfold J2X
   rw [List.map_map]
   exact List.map_congr_left fun y _ => by simp only [Function.comp, Juk hk]
  ·show (JaQ ws (s.sto.map _)).map (JF L') = _
   rw [JiK, List.map_map]
   congr 1
   exact List.map_congr_left fun y _ => Jub hk y
theorem Jmd (b : Nat) : ∀ (ids : List Nat) (k : Nat), J0Y (.whole b) (ids.map .whole) k = J34 b ids k
 | [], _ => rfl
 | x :: r, k => by
  simp only [List.map_cons, J0Y, J34]
  by_cases h : x = b
  ·subst h; simp
  ·simp [h, Jmd b r (k + 1)]
def Jia (ids : List Nat) : TC → Option TC
 | .ptr b p => (J34 b ids 0).bind fun k => some (.ptr k p)
 | .slr b => (J34 b ids 0).bind fun k => some (.slr k)
 | .slo b n => (J34 b ids 0).bind fun k => some (.slo k n)
 | .ep _ _ _ => none
 | .epo _ _ _ _ => none
 | x => some x
def JaZ (ids : List Nat) : List TC → Option (List TC)
 | [] => some []
 | x :: r => match Jia ids x, JaZ ids r with
  | some y, some l => some (y :: l)
  | _, _ => none
def JfC (ids : List Nat) : TA → Option TA
 | .c x => match Jia ids x with
  | some y => some (.c y)
  | none => none
 | .dt t x => some (.dt t x)
 | .m t cs => match JaZ ids cs with
  | some l => some (.m t l)
  | none => none
 | .fn f a c => match JaZ ids a, JaZ ids c with
  | some a, some c => some (.fn f a c)
  | _, _ => none
def Jf9 (ids : List Nat) : List TA → Option (List TA)
 | [] => some []
 | x :: r => match JfC ids x, Jf9 ids r with
  | some y, some l => some (y :: l)
  | _, _ => none
def JjB (ids : List Nat) : TB → Option TB
 | .box t x => some (.box t x)
 | .mbox t cs => match JaZ ids cs with
  | some l => some (.mbox t l)
  | none => none
 | .arr w t rows => some (.arr w t rows)
 | .dead => none
def J6Y (ids : List Nat) (s : TSt) : List Nat → Option (List TB)
 | [] => some []
 | b :: r => match s.sto[b]? with
  | some x => match JjB ids x, J6Y ids s r with
   | some y, some l => some (y :: l)
   | _, _ => none
  | none => none
section
variable {ids : List Nat} {L L' : Nat → Nat} (hL : ∀ b k, J34 b ids 0 = some k → L' k = L b)
include hL
theorem JiS {x y : TC} (h : Jia ids x = some y) : ren (fun e => J0Y e (ids.map .whole) 0) (Jr L x) = some (Jr L' y) := by
  cases x <;> simp only [Jia] at h <;> first
    | (obtain ⟨k, hk, h⟩ := Option.bind_eq_some_iff.1 h
       injection h with h; subst h
       simp only [Jr, ren, Jmd, hk, Option.map_some]
       try rw [hL _ _ hk]
       done)
    | (injection h with h; subst h; rfl)
    | cases h
theorem J9b : ∀ {xs ys : List TC}, JaZ ids xs = some ys → ren.renL (fun e => J0Y e (ids.map .whole) 0) (xs.map (Jr L)) = some (ys.map (Jr L'))
 | [], ys, h => by injection h with h; subst h; rfl
 | x :: r, ys, h => by
  simp only [JaZ] at h
  split at h
  ·rename_i y l hy hl
   injection h with h; subst h
   simp only [List.map_cons, ren.renL, JiS hL hy, J9b hl]
  ·cases h
theorem JqB {x y : TA} (h : JfC ids x = some y) : ren (fun e => J0Y e (ids.map .whole) 0) (J0j L x) = some (J0j L' y) := by
 cases x with
 | c x =>
  simp only [JfC] at h
  split at h
  ·rename_i y hy
   injection h with h; subst h
   exact JiS hL hy
  ·cases h
 | dt t x => injection h with h; subst h; rfl
 | m t cs =>
  simp only [JfC] at h
  split at h
  ·rename_i l hl
   injection h with h; subst h
   simp only [J0j, ren, J9b hL hl, Option.map_some]
  ·cases h
 | fn f a c =>
  simp only [JfC] at h
  split at h
  ·rename_i a' c' ha hc
   injection h with h; subst h
   simp only [J0j, ren, J9b hL ha, J9b hL hc, Option.bind_some, Option.map_some]
  ·cases h
theorem Jhr : ∀ {xs ys : List TA}, Jf9 ids xs = some ys → ren.renL (fun e => J0Y e (ids.map .whole) 0) (xs.map (J0j L)) = some (ys.map (J0j L'))
 | [], ys, h => by injection h with h; subst h; rfl
 | x :: r, ys, h => by
  simp only [Jf9] at h
  split at h
  ·rename_i y l hy hl
   injection h with h; subst h
   simp only [List.map_cons, ren.renL, JqB hL hy, Jhr hl]
  ·cases h
theorem JeV {s0 s1 : TSt} {ws : List (Nat × Blk)} (f : Fzd s0 s1 ws) (hL0 : lns s0.sto = L) : ∀ {bs : List Nat} {bl : List TB}, J6Y ids s1 bs = some bl →
  (J3t ws (fun e => J0Y e (ids.map .whole) 0) (bs.map .whole)).run (Jb s0) = some (bl.map (JF L'))
 | [], bl, h => by injection h with h; subst h; rfl
 | b :: r, bl, h => by
  simp only [J6Y] at h
  split at h
  ·rename_i x hb
   split at h
   ·rename_i y l hy hl
    injection h with h; subst h
    have ih := JeV f hL0 hl
    have hg := JdA f hb
    rw [hL0] at hg
    simp only [List.map_cons, J3t, Jbc, run_bind, hg, Option.bind_some]
    cases x with
    | dead => cases hy
    | box t x =>
     injection hy with hy; subst hy
     have : ren.renL (fun e => J0Y e (ids.map .whole) 0) ((cel t x).map AV.p) = some ((cel t x).map AV.p) := Jh3 (J5N _)
     simp only [JF, this, Jh, Option.bind_some, ih]
    | mbox t cs =>
     simp only [JjB] at hy
     split at hy
     ·rename_i l' hl'
      injection hy with hy; subst hy
      simp only [JF, J9b hL hl', Jh, Option.bind_some, ih]
     ·cases hy
    | arr w t rows =>
     injection hy with hy; subst hy
     simp only [JF, Jh, Option.bind_some, ih]
   ·cases h
  ·cases h
end
theorem Jdj {ids : List Nat} {s : TSt} : ∀ {bs : List Nat} {bl : List TB}, J6Y ids s bs = some bl → bl.length = bs.length ∧ ∀ (k b : Nat), bs[k]? = some b → lns bl k = lns s.sto b
 | [], bl, h => by injection h with h; subst h; exact ⟨rfl, fun k b h => by simp at h⟩
 | b :: r, bl, h => by
  simp only [J6Y] at h
  split at h
  ·rename_i x hb
   split at h
   ·rename_i y l hy hl
    injection h with h; subst h
    obtain ⟨h1, h2⟩ := Jdj hl
    refine ⟨by simp [h1], fun k c hk => ?_⟩
    cases k with
    | zero =>
     simp at hk; subst hk
     unfold lns
     rw [hb]
     show lnB y = lnB x
     cases x with
     | dead => cases hy
     | box t x => injection hy with hy; subst hy; rfl
     | mbox t cs =>
      simp only [JjB] at hy
      split at hy
      ·injection hy with hy; subst hy; rfl
      ·cases hy
     | arr w t rows => injection hy with hy; subst hy; rfl
    | succ k =>
     have := h2 k c (by simpa using hk)
     unfold lns at this ⊢
     rw [← this]; simp
   ·cases h
  ·cases h
def J3w (ids : List Nat) (new m k : Nat) : Option Nat := if k < ids.length then ids[k]? else if k < m then some (new + (k - ids.length)) else none
def JmG (ids : List Nat) (new m : Nat) : TC → Option TC
 | .ptr k p => (J3w ids new m k).bind fun b => some (.ptr b p)
 | .slr k => (J3w ids new m k).bind fun b => some (.slr b)
 | .slo k n => (J3w ids new m k).bind fun b => some (.slo b n)
 | .ep k i p => (J3w ids new m k).bind fun b => some (.ep b i p)
 | .epo k e i p => (J3w ids new m k).bind fun b => some (.epo b e i p)
 | x => some x
def Jek (ids : List Nat) (new m : Nat) : List TC → Option (List TC)
 | [] => some []
 | x :: r => match JmG ids new m x, Jek ids new m r with
  | some y, some l => some (y :: l)
  | _, _ => none
def Jgm (ids : List Nat) (new m : Nat) : TA → Option TA
 | .c x => match JmG ids new m x with
  | some y => some (.c y)
  | none => none
 | .dt t x => some (.dt t x)
 | .m t cs => match Jek ids new m cs with
  | some l => some (.m t l)
  | none => none
 | .fn f a c => match Jek ids new m a, Jek ids new m c with
  | some a, some c => some (.fn f a c)
  | _, _ => none
def Jii (ids : List Nat) (new m : Nat) : List TA → Option (List TA)
 | [] => some []
 | x :: r => match Jgm ids new m x, Jii ids new m r with
  | some y, some l => some (y :: l)
  | _, _ => none
def Jn5 (ids : List Nat) (new m : Nat) : TV → Option TV
 | .a x => match Jgm ids new m x with
  | some y => some (.a y)
  | none => none
 | .tup vs => match Jii ids new m vs with
  | some l => some (.tup l)
  | none => none
def JdI (ids : List Nat) (new m : Nat) : TB → Option TB
 | .box t x => some (.box t x)
 | .mbox t cs => match Jek ids new m cs with
  | some l => some (.mbox t l)
  | none => none
 | .arr w t rows => some (.arr w t rows)
 | .dead => none
section
variable {ids : List Nat} {new m : Nat} {L Lp : Nat → Nat} (hL : ∀ k b, J3w ids new m k = some b → Lp b = L k)
theorem Jt9 {k b o : Nat} (h : J3w ids new m k = some b) : bk (ids.map .whole) new (.ptr k o) = some (.ptr b o) := by
 unfold J3w at h
 simp only [bk, List.length_map, List.getElem?_map]
 split at h
 ·rename_i hk; rw [if_pos hk, h]; rfl
 ·rename_i hk
  split at h
  ·injection h with h; rw [if_neg hk, h]
  ·cases h
theorem Jtm {k b i n : Nat} (h : J3w ids new m k = some b) : bk (ids.map .whole) new (.slr k i n) = some (.slr b i n) := by
 unfold J3w at h
 simp only [bk, List.length_map, List.getElem?_map]
 split at h
 ·rename_i hk; rw [if_pos hk, h]; rfl
 ·rename_i hk
  split at h
  ·injection h with h; rw [if_neg hk, h]
  ·cases h
theorem Ju2 {k b e i o : Nat} (h : J3w ids new m k = some b) : bk (ids.map .whole) new (.ep k e i o) = some (.ep b e i o) := by
 unfold J3w at h
 simp only [bk, List.length_map, List.getElem?_map]
 split at h
 ·rename_i hk; rw [if_pos hk, h]; rfl
 ·rename_i hk
  split at h
  ·injection h with h; rw [if_neg hk, h]
  ·cases h
include hL
theorem Jlg {x y : TC} (h : JmG ids new m x = some y) : bk (ids.map .whole) new (Jr L x) = some (Jr Lp y) := by
  cases x <;> simp only [JmG] at h <;> first
    | (obtain ⟨b, hb, h⟩ := Option.bind_eq_some_iff.1 h
       injection h with h; subst h
       simp only [Jr, Jt9 hb, Jtm hb, Ju2 hb, hL _ _ hb]
       done)
    | (injection h with h; subst h; rfl)
theorem J8Y : ∀ {xs ys : List TC}, Jek ids new m xs = some ys → bk.bkL (ids.map .whole) new (xs.map (Jr L)) = some (ys.map (Jr Lp))
 | [], ys, h => by injection h with h; subst h; rfl
 | x :: r, ys, h => by
  simp only [Jek] at h
  split at h
  ·rename_i y l hy hl
   injection h with h; subst h
   simp only [List.map_cons, bk.bkL, Jlg hL hy, J8Y hl]
  ·cases h
theorem JlY {x y : TA} (h : Jgm ids new m x = some y) : bk (ids.map .whole) new (J0j L x) = some (J0j Lp y) := by
 cases x with
 | c x =>
  simp only [Jgm] at h
  split at h
  ·rename_i y hy
   injection h with h; subst h
   exact Jlg hL hy
  ·cases h
 | dt t x => injection h with h; subst h; rfl
 | m t cs =>
  simp only [Jgm] at h
  split at h
  ·rename_i l hl
   injection h with h; subst h
   simp only [J0j, bk, J8Y hL hl]
  ·cases h
 | fn f a c =>
  simp only [Jgm] at h
  split at h
  ·rename_i a' c' ha hc
   injection h with h; subst h
   simp only [J0j, bk, J8Y hL ha, J8Y hL hc]
  ·cases h
theorem Jj1 : ∀ {xs ys : List TA}, Jii ids new m xs = some ys → bk.bkL (ids.map .whole) new (xs.map (J0j L)) = some (ys.map (J0j Lp))
 | [], ys, h => by injection h with h; subst h; rfl
 | x :: r, ys, h => by
  simp only [Jii] at h
  split at h
  ·rename_i y l hy hl
   injection h with h; subst h
   simp only [List.map_cons, bk.bkL, JlY hL hy, Jj1 hl]
  ·cases h
theorem Jsu {x y : TV} (h : Jn5 ids new m x = some y) : bk (ids.map .whole) new (Jp L x) = some (Jp Lp y) := by
 cases x with
 | a x =>
  simp only [Jn5] at h
  split at h
  ·rename_i y hy
   injection h with h; subst h
   exact JlY hL hy
  ·cases h
 | tup vs =>
  simp only [Jn5] at h
  split at h
  ·rename_i l hl
   injection h with h; subst h
   simp only [Jp, bk, Jj1 hL hl]
  ·cases h
end
end Go.Am
end
section
namespace Go.Am
structure TG where
 go : ∀ {R : Type}, FuncId → List TA → List TB → (TV → List (Bool × TB) → Option R) → Option R
def Ja7 (out : List (Bool × TB)) : Nat → Nat := lns (out.map (·.2))
structure GOk (F : Orc) (G : TG) : Prop where
 ok : ∀ {R : Type} {f : FuncId} {xs : List TA} {bl : List TB} {kk : TV → List (Bool × TB) → Option R} {r : R}, G.go f xs bl kk = some r →
  ∃ v out, F f (xs.map (J0j (lns bl))) (bl.map (JF (lns bl))) = some (Jp (Ja7 out) v, out.map fun x => JF (Ja7 out) x.2) ∧
   (∀ (k : Nat) x, out[k]? = some (true, x) → k < bl.length → lnB x = lns bl k) ∧ kk v out = some r
def J7d (ids : List Nat) (new m : Nat) : Nat → List (Bool × TB) → Option (List (Nat × Bool × TB))
 | _, [] => some []
 | k, (s, x) :: r => match J3w ids new m k, JdI ids new m x, J7d ids new m (k + 1) r with
  | some b, some y, some l => some ((b, s && decide (k < ids.length), y) :: l)
  | _, _, _ => none
section
variable {R : Type}
def Jnq (flex : Bool) (a b n : Nat) : Bool := if flex = true then decide (a ≤ b ∧ b ≤ a + n) else decide (b = a + n)
theorem Jo1 {flex : Bool} {a b n : Nat} (h : Jnq flex a b n = true) : (if flex = true then a ≤ b ∧ b ≤ a + n else b = a + n) ∧ a ≤ b ∧ b ≤ a + n := by
 unfold Jnq at h
 cases flex with
 | true => simp at h; exact ⟨by simpa using h, h⟩
 | false => simp at h; exact ⟨by simpa using h, by omega, by omega⟩
def JcG (G : TG) (f : FuncId) (args : List (TV × Bool)) (flex : Bool) (n : Nat) (d : Option Nat) (new : Nat) (s : TSt) (kk : TSt → Option R) : Option R :=
 JeZ args s fun xs s1 =>
 match Jan xs [] with
 | none => none
 | some i0 => match J9u s1 i0 i0 with
  | none => none
  | some i1 => match J9u s1 i1 i1 with
   | none => none
   | some ids => if J3f ids = true then
     match Jf9 ids xs, J6Y ids s1 ids with
     | some ys, some bl => G.go f ys bl fun v out =>
       if Jnq flex ids.length out.length n = true then
        match Jn5 ids new out.length v, J7d ids new out.length 0 out with
        | some v', some ws => if J3f (ws.map (·.1)) = true then kk (JL d v' (J8m ws s1)) else none
        | _, _ => none
       else none
     | _, _ => none
    else none
theorem Jkn {ids : List Nat} {new m : Nat} {x y : TB} (h : JdI ids new m x = some y) : lnB y = lnB x := by
 cases x with
 | dead => cases h
 | box t x => injection h with h; subst h; rfl
 | mbox t cs =>
  simp only [JdI] at h
  split at h
  ·injection h with h; subst h; rfl
  ·cases h
 | arr w t rows => injection h with h; subst h; rfl
theorem Jjg {ids : List Nat} {new m : Nat} : ∀ {k : Nat} {out : List (Bool × TB)} {ws : List (Nat × Bool × TB)}, J7d ids new m k out = some ws →
  ws.length = out.length ∧ ∀ (j : Nat) s x, out[j]? = some (s, x) → ∃ b y, J3w ids new m (k + j) = some b ∧ JdI ids new m x = some y ∧ ws[j]? = some (b, s && decide (k + j < ids.length), y)
 | k, [], ws, h => by injection h with h; subst h; exact ⟨rfl, fun j s x h => by simp at h⟩
 | k, (s, x) :: r, ws, h => by
  simp only [J7d] at h
  split at h
  ·rename_i b y l hb hy hl
   injection h with h; subst h
   obtain ⟨h1, h2⟩ := Jjg hl
   refine ⟨by simp [h1], fun j s' x' hj => ?_⟩
   cases j with
   | zero =>
    simp at hj
    obtain ⟨rfl, rfl⟩ := hj
    exact ⟨b, y, hb, hy, by simp⟩
   | succ j =>
    obtain ⟨b', y', q1, q2, q3⟩ := h2 j s' x' (by simpa using hj)
    refine ⟨b', y', by rw [← q1]; congr 1; omega, q2, ?_⟩
    simp only [List.getElem?_cons_succ, q3]
    rw [show k + 1 + j = k + (j + 1) by omega]
  ·cases h
theorem JpL {l : List Nat} (h : J3f l = true) : l.Nodup := J8w h
theorem Jl3 {ids : List Nat} (h : J3f ids = true) : J3f ((ids.map Ent.whole).map Ent.id) = true := by
 rw [List.map_map, show Ent.id ∘ Ent.whole = id from rfl, List.map_id]; exact h
theorem Jiw {ids : List Nat} {new m : Nat} {L Lp : Nat → Nat} (hL : ∀ k b, J3w ids new m k = some b → Lp b = L k) {ws0 : List (Nat × Blk)} {st : St} : ∀ {j : Nat} {es : List Nat} {out : List (Bool × TB)} {ws : List (Nat × Bool × TB)},
  (∀ (i : Nat) b, es[i]? = some b → ids[j + i]? = some b) → j + es.length = ids.length → es.length ≤ out.length → J7d ids new m j out = some ws →
  (J2g ws0 (ids.map .whole) new (es.map .whole) (out.map fun x => JF L x.2)).run st = some ((ws.take es.length).map fun x => (x.1, JF Lp x.2.2))
 | j, [], out, ws, _, _, _, h => by simp [J2g, Jh]
 | j, b :: es, [], ws, _, _, hl, h => by simp at hl
 | j, b :: es, (s, x) :: out, ws, he, hj, hl, h => by
  simp only [J7d] at h
  split at h
  ·rename_i b' y l hb hy hl'
   injection h with h; subst h
   have ih := Jiw hL (ws0 := ws0) (st := st) (j := j + 1) (es := es) (out := out) (ws := l) (fun i c hc => by
    have := he (i + 1) c (by simpa using hc)
    rw [← this]; congr 1; omega) (by simp at hj; omega) (by simpa using hl) hl'
   have hbb : b' = b := by
    have h0 := he 0 b (by simp)
    unfold J3w at hb
    rw [if_pos (by simp at hj; omega)] at hb
    rw [Nat.add_zero] at h0
    rw [hb] at h0
    injection h0
   subst hbb
   simp only [List.map_cons, J2g, run_bind]
   have hout : (J5z ws0 (ids.map .whole) new (.whole b') (JF L x)).run st = some (b', JF Lp y) := by
    cases x with
    | dead => cases hy
    | box t x =>
     injection hy with hy; subst hy
     simp only [Jaw, J5z, Jca (J5N _), Jh]
    | mbox t cs =>
     simp only [JdI] at hy
     split at hy
     ·rename_i l' hl2
      injection hy with hy; subst hy
      simp only [JaO, J5z, J8Y hL hl2, Jh]
     ·cases hy
    | arr w t rows =>
     injection hy with hy; subst hy
     simp only [Jjt, J5z, Jh]
   simp only [hout, Option.bind_some, ih, Jh, List.length_cons, List.take_succ_cons, List.map_cons]
  ·cases h
theorem JjJ {ids : List Nat} {new m : Nat} {L Lp : Nat → Nat} (hL : ∀ k b, J3w ids new m k = some b → Lp b = L k) : ∀ {j : Nat} {out : List (Bool × TB)} {ws : List (Nat × Bool × TB)},
  J7d ids new m (ids.length + j) out = some ws → J1O (ids.map .whole) new (new + j) (out.map fun x => JF L x.2) = some (ws.map fun x => (x.1, JF Lp x.2.2))
 | j, [], ws, h => by injection h with h; subst h; rfl
 | j, (s, x) :: out, ws, h => by
  simp only [J7d] at h
  split at h
  ·rename_i b' y l hb hy hl'
   injection h with h; subst h
   have ih := JjJ hL (j := j + 1) hl'
   have hbb : b' = new + j := by
    unfold J3w at hb
    rw [if_neg (by omega)] at hb
    split at hb
    ·injection hb with hb; omega
    ·cases hb
   subst hbb
   cases x with
   | dead => cases hy
   | box t x =>
    injection hy with hy; subst hy
    simp only [List.map_cons, Jaw, J1O, Jca (J5N _)]
    rw [show new + j + 1 = new + (j + 1) by omega, ih]
   | mbox t cs =>
    simp only [JdI] at hy
    split at hy
    ·rename_i l' hl2
     injection hy with hy; subst hy
     simp only [List.map_cons, JaO, J1O, J8Y hL hl2]
     rw [show new + j + 1 = new + (j + 1) by omega, ih]
    ·cases hy
   | arr w t rows =>
    injection hy with hy; subst hy
    simp only [List.map_cons, Jjt, J1O]
    rw [show new + j + 1 = new + (j + 1) by omega, ih]
  ·cases h
theorem Jf1 {ids : List Nat} {new m : Nat} : ∀ {n k : Nat} {out : List (Bool × TB)} {ws : List (Nat × Bool × TB)}, J7d ids new m k out = some ws → J7d ids new m (k + n) (out.drop n) = some (ws.drop n)
 | 0, k, out, ws, h => h
 | n + 1, k, [], ws, h => by injection h with h; subst h; rfl
 | n + 1, k, (s, x) :: out, ws, h => by
  simp only [J7d] at h
  split at h
  ·rename_i b y l hb hy hl
   injection h with h; subst h
   have := Jf1 (n := n) hl
   rw [show k + (n + 1) = k + 1 + n by omega]
   exact this
  ·cases h
theorem J8F {F : Orc} {G : TG} (hG : GOk F G) {f : FuncId} {args : List (TV × Bool)} {flex : Bool} {n : Nat} {d : Option Nat} {new : Nat} {s : TSt} {kk : TSt → Option R} {r : R}
  (hd : J6s s new n = true) (h : JcG G f args flex n d new s kk = some r) :
  ∃ xs ws es1 es args' blks v res back fresh, (J2i (args.map (·.2)) (args.map fun x => Jp (lns s.sto) x.1)).run (Jb s) = some (xs, ws) ∧
   (J2I ws (JW.entsOfL xs []) (JW.entsOfL xs [])).run (Jb s) = some es1 ∧ (J2I ws es1 es1).run (Jb s) = some es ∧ J3f (es.map Ent.id) = true ∧
   ren.renL (fun e => J0Y e es 0) xs = some args' ∧ (J3t ws (fun e => J0Y e es 0) es).run (Jb s) = some blks ∧ F f args' blks = some res ∧
   (if flex = true then es.length ≤ res.2.length ∧ res.2.length ≤ es.length + n else res.2.length = es.length + n) ∧ bk es new res.1 = some v ∧ J1O es new new (res.2.drop es.length) = some fresh ∧
   (J2g ws es new es res.2).run (Jb s) = some back ∧ ∃ s', put d ⟨v, ws ++ back ++ fresh⟩ (Jb s) = Jb s' ∧ kk s' = some r := by
 unfold JcG at h
 obtain ⟨xs, s1, ws, h1, f1, h⟩ := JdD (Fzd.refl s) h
 rw [List.nil_append] at f1
 split at h
 ·cases h
 ·rename_i i0 hi0
  split at h
  ·cases h
  ·rename_i i1 hi1
   split at h
   ·cases h
   ·rename_i ids hids
    split at h
    ·rename_i hnd
     split at h
     ·rename_i ys bl hys hbl
      obtain ⟨v, out, hF, hsame, h⟩ := hG.ok h
      split at h
      ·rename_i hlen
       split at h
       ·rename_i v' tws hv' htws
        split at h
        ·rename_i hnd2
         have e0 : JW.entsOfL (xs.map (J0j (lns s.sto))) [] = i0.map .whole := J9z (lns s.sto) (l := []) hi0
         have e1 := J6M f1 hi1
         have e2 := J6M f1 hids
         obtain ⟨bl1, bl2⟩ := Jdj hbl
         have hL : ∀ b k, J34 b ids 0 = some k → lns bl k = lns s.sto b := by
          intro b k hk
          obtain ⟨_, hk⟩ := J9M hk
          rw [bl2 k b (by simpa using hk), f1.2.1]
         have e3 := Jhr hL hys
         have e4 := JeV hL f1 rfl hbl
         obtain ⟨b1, b2⟩ := Jjg htws
         have hout : ∀ (j : Nat), Ja7 out j = match out[j]? with
           | some x => lnB x.2
           | none => 0 := by
          intro j
          unfold Ja7 lns
          rw [List.getElem?_map]
          cases out[j]? <;> rfl
         have hids_lt : ∀ (k b : Nat), ids[k]? = some b → b < s1.sto.length := by
          have key : ∀ (bs : List Nat) (bl : List TB), J6Y ids s1 bs = some bl → ∀ (k b : Nat), bs[k]? = some b → b < s1.sto.length := by
           intro bs
           induction bs with
           | nil => intro bl _ k b hk; simp at hk
           | cons c bs ih =>
            intro bl hbl k b hk
            simp only [J6Y] at hbl
            split at hbl
            ·rename_i x hx
             split at hbl
             ·rename_i y l hy hl
              cases k with
              | zero => simp at hk; subst hk; exact J8 hx
              | succ k => exact ih l hl k b (by simpa using hk)
             ·cases hbl
            ·cases hbl
          exact key ids bl hbl
         have hslen : s1.sto.length = s.sto.length := by
          have := congrArg (fun st => st.sto.length) f1.2.2.1
          simpa only [Jb, List.length_map, J7W] using this
         obtain ⟨hlenR, hlen0, hlen'⟩ := Jo1 hlen
         have hdead := J5w hd
         have hmem : ∀ x ∈ tws, ∃ (j : Nat) (sm : Bool) (y : TB), out[j]? = some (sm, y) ∧ J3w ids new out.length j = some x.1 ∧ JdI ids new out.length y = some x.2.2 ∧ x.2.1 = (sm && decide (j < ids.length)) := by
          intro x hx
          obtain ⟨j, hj⟩ := List.getElem?_of_mem hx
          have hjl : j < out.length := by rw [← b1]; exact J8 hj
          obtain ⟨b, y, q1, q2, q3⟩ := b2 j (out[j]'hjl).1 (out[j]'hjl).2 (List.getElem?_eq_getElem hjl)
          rw [hj] at q3
          injection q3 with q3
          rw [Nat.zero_add] at q1 q3
          exact ⟨j, _, _, List.getElem?_eq_getElem hjl, by rw [q3]; exact q1, by rw [q3]; exact q2, by rw [q3]; rfl⟩
         have hrange : ∀ x ∈ tws, x.1 < s1.sto.length := by
          intro x hx
          obtain ⟨j, sm, y, q1, q2, q3, q4⟩ := hmem x hx
          unfold J3w at q2
          split at q2
          ·exact hids_lt j _ q2
          ·split at q2
           ·injection q2 with q2
            rw [← q2, hslen]
            exact J8 (hdead (j - ids.length) (by omega))
           ·cases q2
         have hflag : ∀ x ∈ tws, x.2.1 = true → lnB x.2.2 = lns s1.sto x.1 := by
          intro x hx hx1
          obtain ⟨j, sm, y, q1, q2, q3, q4⟩ := hmem x hx
          rw [q4, Bool.and_eq_true, decide_eq_true_eq] at hx1
          obtain ⟨rfl, hj⟩ := hx1
          rw [Jkn q3, hsame j y q1 (by rw [bl1]; exact hj)]
          unfold J3w at q2
          rw [if_pos hj] at q2
          exact bl2 j _ q2
         obtain ⟨w1, w2⟩ := Jsi (JpL hnd2) hrange hflag
         have hLp : ∀ k b, J3w ids new out.length k = some b → lns (J8m tws s1).sto b = Ja7 out k := by
          intro k b hk
          have hk' : k < out.length := by
           unfold J3w at hk
           split at hk
           ·omega
           ·split at hk
            ·assumption
            ·cases hk
          obtain ⟨b', y, q1, q2, q3⟩ := b2 k (out[k]'hk').1 (out[k]'hk').2 (List.getElem?_eq_getElem hk')
          rw [Nat.zero_add] at q1 q3
          rw [q1] at hk
          injection hk with hk
          subst hk
          rw [w2 _ (JM q3), Jkn q2, hout, List.getElem?_eq_getElem hk']
         have e5 := Jsu hLp hv'
         have e6 := Jiw hLp (ws0 := ws) (st := Jb s) (j := 0) (es := ids) (out := out) (ws := tws) (fun i b hb => by rw [Nat.zero_add]; exact hb) (by omega) hlen0 htws
         have e7 := JjJ hLp (j := 0) (out := out.drop ids.length) (ws := tws.drop ids.length) (by have := Jf1 (n := ids.length) htws; rwa [Nat.zero_add, ← Nat.add_zero ids.length] at this)
         rw [Nat.add_zero] at e7
         refine ⟨xs.map (J0j (lns s.sto)), ws, i1.map .whole, ids.map .whole, _, _, Jp (lns (J8m tws s1).sto) v', _, _, (tws.drop ids.length).map (fun x => (x.1, JF (lns (J8m tws s1).sto) x.2.2)), h1, ?_, e2, Jl3 hnd, e3, e4, hF, ?_, e5, ?_, e6, JL d v' (J8m tws s1), ?_, h⟩
         ·rw [e0]; exact e1
         ·simp only [List.length_map]
          exact hlenR
         ·simp only [List.length_map, ← List.map_drop]
          exact e7
         ·refine J6l ?_ d v'
          rw [w1, f1.2.2.1]
          congr 1
          rw [List.append_assoc, J0I, ← List.map_append, List.take_append_drop]
        ·cases h
       ·cases h
      ·cases h
     ·cases h
    ·cases h
end
end Go.Am
end
section
namespace Go.Am
inductive TOp where
 | mv (x : TO)
 | mkarr (t : Ty) (x : TO)
 | pick (c a b : TO)
 | newbox (t : Ty)
 | box (t : Ty) (x : TO)
 | build (t : Ty) (parts : List (Nat × Ty × TO))
 | lits (own : Bool) (t : Ty) (n : Nat) (parts : List (Nat × TO))
 | load (agg : Bool) (t : Ty) (x : TO)
 | store (t : Ty) (x v : TO)
 | nilchk (x : TO)
 | bin (op : BinOp) (bt : TBT) (x y : TO)
 | un (op : UnOp) (x : TO)
 | conv (k : CK) (x : TO)
 | mkslice (own : Bool) (t : Ty) (bytes : Nat) (l c : TO)
 | slice (k : TSK) (x : TO) (lo hi mx : Option TO)
 | faddr (off : Nat) (x : TO)
 | field (agg : Bool) (off : Nat) (t : Ty) (x : TO)
 | iaddr (t : Ty) (x i : TO)
 | aaddr (len esz : Nat) (x i : TO)
 | sidx (x i : TO)
 | aidx (agg : Bool) (len : Nat) (t : Ty) (x i : TO)
 | extr (x : TO) (i : Nat)
 | call (f : FuncId) (args : List TO) (k : Nat)
 | callo (f : FuncId) (args : List (TO × Bool)) (k : Nat)
 | callv (g : TO) (args : List TO) (k : Nat)
 | len (str : Bool) (x : TO)
 | alen (n : Nat)
 | app (t : Ty) (bytes : Nat) (x y : TO)
 | appn (t : Ty) (bytes : Nat) (y : TO)
 | appz (t : Ty) (bytes : Nat) (x y : TO)
 | appc (t : Ty) (bytes : Nat) (x y : TO)
 | mm (mx : Bool) (x y : TO)
 | mkfn (f : FuncId) (first caps : List TO)
 | newboxo (t : Ty) (os : List (Nat × Ty))
 | buildo (t : Ty) (parts : List (Nat × Ty × TO)) (os : List (Nat × Ty))
 | storen (t : Ty) (x : TO)
def zer (t : Ty) : List PV := cel t t.zero
def erp : TOp → AOp
 | .mv x => .mv (erO x)
 | .mkarr t x => .mkarr t.sz (erO x)
 | .pick c a b => .pick (erO c) (erO a) (erO b)
 | .newbox t => .newbox (zer t)
 | .box t x => .box t.sz (erO x)
 | .build t parts => .build (zer t) (erP parts)
 | .lits own t n parts => .lits own t.sz n (zer t) (parts.map fun x => (x.1, erO x.2))
 | .load agg t x => .load agg t.sz (erO x)
 | .store t x v => .store t.sz (erO x) (erO v)
 | .nilchk x => .nilchk (erO x)
 | .bin op bt x y => .bin op (erT bt) (erO x) (erO y)
 | .un op x => .un op (erO x)
 | .conv k x => .conv k (erO x)
 | .mkslice own t bytes l c => .mkslice own t.sz bytes (zer t) (erO l) (erO c)
 | .slice k x lo hi mx => .slice (erK k) (erO x) (lo.map erO) (hi.map erO) (mx.map erO)
 | .faddr off x => .faddr off (erO x)
 | .field agg off t x => .field agg off t.sz (erO x)
 | .iaddr t x i => .iaddr t.sz (erO x) (erO i)
 | .aaddr len esz x i => .aaddr len esz (erO x) (erO i)
 | .sidx x i => .sidx (erO x) (erO i)
 | .aidx agg len t x i => .aidx agg len t.sz (erO x) (erO i)
 | .extr x i => .extr (erO x) i
 | .call f args k => .call f (args.map erO) k
 | .callo f args k => .callo f (args.map (·.2)) (args.map fun x => erO x.1) k
 | .callv g args k => .callv (erO g) (args.map erO) k
 | .len str x => .len str (erO x)
 | .alen n => .alen n
 | .app t bytes x y => .app t.sz bytes (zer t) (erO x) (erO y)
 | .appn t bytes y => .appn t.sz bytes (zer t) (erO y)
 | .appz t bytes x y => .appz t.sz bytes (zer t) (erO x) (erO y)
 | .appc t bytes x y => .appc t.sz bytes (zer t) (erO x) (erO y)
 | .mm mx x y => .mm mx (erO x) (erO y)
 | .mkfn f first caps => .mkfn f (first.map erO) (caps.map erO)
 | .newboxo t os => .newboxo (zer t) (J6F os)
 | .buildo t parts os => .buildo (zer t) (erP parts) (J6F os)
 | .storen t x => .storen t.sz (erO x)
def J0B : TOp → Nat
 | .newbox _ | .box _ _ | .mkarr _ _ | .appn _ _ _ | .appc _ _ _ _ => 1
 | .lits own _ _ _ => if own = true then 1 else 0
 | .mkslice own _ _ _ _ => if own = true then 1 else 0
 | .conv (.toBytes own) _ => if own = true then 1 else 0
 | .call _ _ k | .callv _ _ k | .callo _ _ k => k
 | .newboxo _ os => os.length + 1
 | .buildo _ _ os => os.length
 | .storen _ _ => 1
 | _ => 0
theorem Jax (op : TOp) : J3K (erp op) = J0B op := by
 cases op <;> try rfl
 ·rename_i k x; cases k <;> rfl
 ·simp [erp, J3K, J0B, J6F]
 ·simp [erp, J3K, J0B, J6F]
def JbP : List (TO × Bool) → TSt → Option (List (TV × Bool))
 | [], _ => some []
 | (o, x) :: r, s => match tev o s, JbP r s with
  | some v, some l => some ((v, x) :: l)
  | _, _ => none
theorem J7T {s : TSt} : ∀ {xs : List (TO × Bool)} {l : List (TV × Bool)}, JbP xs s = some l →
  (evs (xs.map fun x => erO x.1)).run (Jb s) = some (l.map fun x => Jp (lns s.sto) x.1) ∧ l.map (·.2) = xs.map (·.2)
 | [], l, h => by injection h with h; subst h; exact ⟨rfl, rfl⟩
 | (o, x) :: q, l, h => by
  simp only [JbP] at h
  split at h
  ·rename_i v l' hv hl
   injection h with h; subst h
   obtain ⟨h1, h2⟩ := J7T hl
   exact ⟨by simp only [List.map_cons, evs, run_bind, Jw hv, Option.bind_some, h1, Jh], by simp [h2]⟩
  ·cases h
section
variable {R : Type}
def top (G : TG) (op : TOp) (d : Option Nat) (new : Nat) (s : TSt) (k : TSt → Option R) : Option R :=
 match op with
 | .mv x => match tev x s with
  | some v => k (JL d v s)
  | none => none
 | .mkarr t _ => JnN t d new s k
 | .pick c a b => match tev c s with
  | some (.a (.c (.d .b x))) => Jmi x (tev a s) (tev b s) fun v => k (JL d v s)
  | _ => none
 | .newbox t => JlW t d new s k
 | .box t x => match tev x s with
  | some v => Jpp t v d new s k
  | none => none
 | .build t parts => JiF t parts d s k
 | .lits own t n parts => JmF own t n parts d new s k
 | .load agg t x => match tev x s with
  | some v => Jng agg t v d s k
  | none => none
 | .store t x y => match tev x s, tev y s with
  | some v, some u => Jjd t v u d s k
  | _, _ => none
 | .nilchk x => match tev x s with
  | some v => Jq5 v fun v => k (JL d v s)
  | none => none
 | .bin op bt x y => match tev x s, tev y s with
  | some v, some u => Jpm op bt v u fun v => k (JL d v s)
  | _, _ => none
 | .un op x => match tev x s with
  | some v => tUn op v fun v => k (JL d v s)
  | none => none
 | .conv c x => match tev x s with
  | some v => JmR c v d new s k
  | none => none
 | .mkslice own t bytes l c => match tev l s, tev c s with
  | some v, some u => Je3 own t bytes v u d new s k
  | _, _ => none
 | .slice kd x lo hi mx => match tev x s, tbn lo s, tbn hi s, tbn mx s with
  | some v, some a, some b, some c => Jkk kd v a b c d s k
  | _, _, _, _ => none
 | .faddr off x => match tev x s with
  | some v => Jkb off v fun v => k (JL d v s)
  | none => none
 | .field agg off t x => match tev x s with
  | some v => JiN agg off t v d s k
  | none => none
 | .iaddr t x i => match tev x s, tev i s with
  | some v, some u => Jku t v u s fun v => k (JL d v s)
  | _, _ => none
 | .aaddr len esz x i => match tev x s, tev i s with
  | some v, some u => Jjk len esz v u fun v => k (JL d v s)
  | _, _ => none
 | .sidx x i => match tev x s, tev i s with
  | some v, some u => Jnk v u fun v => k (JL d v s)
  | _, _ => none
 | .aidx agg len t x i => match tev x s, tev i s with
  | some v, some u => Jnd agg len t v u d s k
  | _, _ => none
 | .extr x i => match tev x s with
  | some v => Jmh v i fun v => k (JL d v s)
  | none => none
 | .call f args n => match JbP (args.map fun x => (x, false)) s with
  | some l => JcG G f l false n d new s k
  | none => none
 | .callo f args n => match JbP args s with
  | some l => JcG G f l true n d new s k
  | none => none
 | .callv g args n => match tev g s, JbP (args.map fun x => (x, false)) s with
  | some (.a (.fn f a c)), some l => JcG G f (a.map (fun x => (.a (.c x), false)) ++ l ++ c.map (fun x => (.a (.c x), false))) false n d new s k
  | some (.a (.c (.fn f))), some l => JcG G f l false n d new s k
  | _, _ => none
 | .len str x => match tev x s with
  | some v => JqF str v s fun v => k (JL d v s)
  | none => none
 | .alen n => k (JL d (vi .i64 n) s)
 | .app t bytes x y => match tev x s, tev y s with
  | some v, some u => Jnf t bytes v u d s k
  | _, _ => none
 | .appn t bytes y => match tev y s with
  | some u => Jn1 t bytes u d new s k
  | none => none
 | .appz t bytes x y => match tev x s, tev y s with
  | some v, some u => Jn9 t bytes v u d s k
  | _, _ => none
 | .appc t bytes x y => match tev x s, tev y s with
  | some v, some u => JmT t bytes v u d new s k
  | _, _ => none
 | .mm mx x y => match tev x s, tev y s with
  | some v, some u => tMm mx v u fun v => k (JL d v s)
  | _, _ => none
 | .mkfn f first caps => match tcl first s, tcl caps s with
  | some a, some c => k (JL d (.a (.fn f a c)) s)
  | _, _ => none
 | .newboxo t os => Jee t os d new s k
 | .buildo t parts os => JfZ t parts os d new s k
 | .storen t x => match tev x s with
  | some v => JfW t v d new s k
  | none => none
theorem Jea {F : Orc} {f : FuncId} {vs xs args' : List AV} {ws : List (Nat × Blk)} {es1 es : List Ent} {blks : List Blk} {v : AV} {res : Res} {back fresh : List (Nat × Blk)} {n new : Nat} {st : St}
  (h1 : (J4J vs).run st = some (xs, ws)) (h2 : (J2I ws (JW.entsOfL xs []) (JW.entsOfL xs [])).run st = some es1) (h3 : (J2I ws es1 es1).run st = some es) (h4 : J3f (es.map Ent.id) = true)
  (h5 : ren.renL (fun e => J0Y e es 0) xs = some args') (h6 : (J3t ws (fun e => J0Y e es 0) es).run st = some blks) (h7 : F f args' blks = some res) (h8 : res.2.length = es.length + n)
  (h9 : bk es new res.1 = some v) (h10 : J1O es new new (res.2.drop es.length) = some fresh) (h11 : (J2g ws es new es res.2).run st = some back) :
  (J3H F f vs n new).run st = some ⟨v, ws ++ back ++ fresh⟩ := by
 simp only [J3H, run_bind, h1, h2, h3, h4, h5, h6, h7, if_pos h8, h9, h10, h11, Option.bind_some, if_true, Jh]
theorem Jog {F : Orc} {f : FuncId} {xs args' : List AV} {ws : List (Nat × Blk)} {es1 es : List Ent} {blks : List Blk} {v : AV} {res : Res} {back fresh : List (Nat × Blk)} {n new : Nat} {st : St}
  (h2 : (J2I ws (JW.entsOfL xs []) (JW.entsOfL xs [])).run st = some es1) (h3 : (J2I ws es1 es1).run st = some es) (h4 : J3f (es.map Ent.id) = true)
  (h5 : ren.renL (fun e => J0Y e es 0) xs = some args') (h6 : (J3t ws (fun e => J0Y e es 0) es).run st = some blks) (h7 : F f args' blks = some res) (h8 : es.length ≤ res.2.length ∧ res.2.length ≤ es.length + n)
  (h9 : bk es new res.1 = some v) (h10 : J1O es new new (res.2.drop es.length) = some fresh) (h11 : (J2g ws es new es res.2).run st = some back) :
  (J1Q F f (xs, ws) n new).run st = some ⟨v, ws ++ back ++ fresh⟩ := by
 simp only [J1Q, run_bind, h2, h3, h4, h5, h6, h7, if_pos h8, h9, h10, h11, Option.bind_some, if_true, Jh]
theorem Jb6 (args : List TO) : (args.map fun x => (x, false)).map (fun x : TO × Bool => erO x.1) = args.map erO := by
 rw [List.map_map]; rfl
theorem Jt1 {F : Orc} {G : TG} (hG : GOk F G) {op : TOp} {d : Option Nat} {new : Nat} {s : TSt} {k : TSt → Option R} {r : R} (hd : J6s s new (J0B op) = true) (h : top G op d new s k = some r) : Ok (opR F (erp op) new) d s k r := by
 have hlt : ∀ j, j < J0B op → new + j < s.sto.length := fun j hj => J8 (J5w hd j hj)
 unfold top at h
 split at h
 ·split at h
  ·rename_i x _ v hv
   refine J16 (v := v) ?_ h
   simp only [erp, opR, run_bind, Jw hv, Option.bind_some, Jh]
  ·cases h
 ·exact JoQ F (by have := hlt 0 (by simp [J0B]); simpa using this) h
 ·split at h
  ·rename_i hc
   exact Jqy F hc h
  ·cases h
 ·exact Jmf F (by have := J5w hd 0 (by simp [J0B]); simpa using this) h
 ·split at h
  ·rename_i hv
   exact Jsk F (by have := J5w hd 0 (by simp [J0B]); simpa using this) hv h
  ·cases h
 ·exact Joo F new h
 ·rename_i own t n parts
  exact Jql F (fun ho => by have := hlt 0 (by simp [J0B, ho]); simpa using this) h
 ·split at h
  ·rename_i hv
   obtain ⟨e, s', h1, h2, h3⟩ := Jqj h
   exact ⟨e, s', by simp only [erp, opR, run_bind, Jw hv, Option.bind_some, h1], h2, h3⟩
  ·cases h
 ·split at h
  ·rename_i hv hu
   obtain ⟨e, s', h1, h2, h3⟩ := JnC h
   exact ⟨e, s', by simp only [erp, opR, run_bind, Jw hv, Jw hu, Option.bind_some, h1], h2, h3⟩
  ·cases h
 ·split at h
  ·rename_i hv
   exact JrF F hv h
  ·cases h
 ·split at h
  ·rename_i hv hu
   obtain ⟨e, s', h1, h2, h3⟩ := (Js8 h).ok
   exact ⟨e, s', by simp only [erp, opR, run_bind, Jw hv, Jw hu, Option.bind_some, h1], h2, h3⟩
  ·cases h
 ·split at h
  ·rename_i hv
   obtain ⟨e, s', h1, h2, h3⟩ := (Jt3 h).ok
   exact ⟨e, s', by simp only [erp, opR, run_bind, Jw hv, Option.bind_some, h1], h2, h3⟩
  ·cases h
 ·split at h
  ·rename_i hv
   exact Jqd F hv (fun ho => by subst ho; have := hlt 0 (by simp [J0B]); simpa using this) h
  ·cases h
 ·split at h
  ·rename_i hv hu
   exact JkG F hv hu (fun ho => by have := hlt 0 (by simp [J0B, ho]); simpa using this) h
  ·cases h
 ·split at h
  ·rename_i h1 h2 h3 h4
   exact JoO F h1 h2 h3 h4 h
  ·cases h
 ·split at h
  ·rename_i hv
   obtain ⟨e, s', h1, h2, h3⟩ := (JoI h).ok
   exact ⟨e, s', by simp only [erp, opR, run_bind, Jw hv, Option.bind_some, h1], h2, h3⟩
  ·cases h
 ·split at h
  ·rename_i hv
   obtain ⟨e, s', h1, h2, h3⟩ := JoB h
   exact ⟨e, s', by simp only [erp, opR, run_bind, Jw hv, Option.bind_some, h1], h2, h3⟩
  ·cases h
 ·split at h
  ·rename_i hv hu
   obtain ⟨e, s', h1, h2, h3⟩ := Jof h
   exact ⟨e, s', by simp only [erp, opR, run_bind, Jw hv, Jw hu, Option.bind_some, h1], h2, h3⟩
  ·cases h
 ·split at h
  ·rename_i hv hu
   obtain ⟨e, s', h1, h2, h3⟩ := (Jov h).ok
   exact ⟨e, s', by simp only [erp, opR, run_bind, Jw hv, Jw hu, Option.bind_some, h1], h2, h3⟩
  ·cases h
 ·split at h
  ·rename_i hv hu
   exact JpB F hv hu h
  ·cases h
 ·split at h
  ·rename_i hv hu
   exact Jps F hv hu h
  ·cases h
 ·split at h
  ·rename_i hv
   obtain ⟨e, s', h1, h2, h3⟩ := (JpV h).ok
   exact ⟨e, s', by simp only [erp, opR, run_bind, Jw hv, Option.bind_some, h1], h2, h3⟩
  ·cases h
 ·rename_i f args n
  split at h
  ·rename_i l hl
   obtain ⟨e1, e2⟩ := J7T hl
   rw [Jb6] at e1
   obtain ⟨xs, ws, es1, es, args', blks, v, res, back, fresh, q1, q2, q3, q4, q5, q6, q7, q8, q9, q10, q11, s', q12, q13⟩ := J8F hG hd h
   rw [J6o _ _ (fun x hx => by
    rw [e2, List.map_map] at hx
    obtain ⟨y, _, rfl⟩ := List.mem_map.1 hx
    rfl)] at q1
   refine ⟨_, s', ?_, q12, q13⟩
   simp only [erp, opR, run_bind, e1, Option.bind_some]
   exact Jea q1 q2 q3 q4 q5 q6 q7 (by simpa [J0B] using q8) q9 q10 q11
  ·cases h
 ·rename_i f args n
  split at h
  ·rename_i l hl
   obtain ⟨e1, e2⟩ := J7T hl
   obtain ⟨xs, ws, es1, es, args', blks, v, res, back, fresh, q1, q2, q3, q4, q5, q6, q7, q8, q9, q10, q11, s', q12, q13⟩ := J8F hG hd h
   rw [e2] at q1
   refine ⟨_, s', ?_, q12, q13⟩
   simp only [erp, opR, run_bind, e1, Option.bind_some, q1]
   exact Jog q2 q3 q4 q5 q6 q7 (by simpa [J0B] using q8) q9 q10 q11
  ·cases h
 ·rename_i g args n
  split at h
  ·rename_i f a c l hg hl
   obtain ⟨e1, e2⟩ := J7T hl
   rw [Jb6] at e1
   obtain ⟨xs, ws, es1, es, args', blks, v, res, back, fresh, q1, q2, q3, q4, q5, q6, q7, q8, q9, q10, q11, s', q12, q13⟩ := J8F hG hd h
   have e4 : ∀ z : List TC, (z.map (fun x => ((TV.a (.c x), false) : TV × Bool))).map (fun x => Jp (lns s.sto) x.1) = z.map (Jr (lns s.sto)) := fun z => by rw [List.map_map]; rfl
   rw [J6o _ _ (fun x hx => by
    simp only [List.map_append, List.map_map, List.mem_append, List.mem_map] at hx
    rcases hx with (⟨y, _, rfl⟩ | hx) | ⟨y, _, rfl⟩
    ·rfl
    ·obtain ⟨y, hy, rfl⟩ := hx
     have hm : y.2 ∈ l.map (·.2) := List.mem_map.2 ⟨y, hy, rfl⟩
     rw [e2, List.map_map] at hm
     obtain ⟨z, _, hz⟩ := List.mem_map.1 hm
     rw [← hz]
     rfl
    ·rfl), List.map_append, List.map_append, e4, e4] at q1
   refine ⟨_, s', ?_, q12, q13⟩
   simp only [erp, opR, run_bind, Jw hg, Option.bind_some, JpW, e1]
   exact Jea q1 q2 q3 q4 q5 q6 q7 (by simpa [J0B] using q8) q9 q10 q11
  ·rename_i f l hg hl
   obtain ⟨e1, e2⟩ := J7T hl
   rw [Jb6] at e1
   obtain ⟨xs, ws, es1, es, args', blks, v, res, back, fresh, q1, q2, q3, q4, q5, q6, q7, q8, q9, q10, q11, s', q12, q13⟩ := J8F hG hd h
   rw [J6o _ _ (fun x hx => by
    rw [e2, List.map_map] at hx
    obtain ⟨y, _, rfl⟩ := List.mem_map.1 hx
    rfl)] at q1
   refine ⟨_, s', ?_, q12, q13⟩
   simp only [erp, opR, run_bind, Jw hg, Option.bind_some, Jt5, e1, List.nil_append, List.append_nil]
   exact Jea q1 q2 q3 q4 q5 q6 q7 (by simpa [J0B] using q8) q9 q10 q11
  ·cases h
 ·split at h
  ·rename_i hv
   obtain ⟨e, s', h1, h2, h3⟩ := (Js3 h).ok
   exact ⟨e, s', by simp only [erp, opR, run_bind, Jw hv, Option.bind_some, h1], h2, h3⟩
  ·cases h
 ·rename_i n
  exact J16 (v := vi .i64 n) rfl h
 ·split at h
  ·rename_i hv hu
   obtain ⟨e, s', h1, h2, h3⟩ := JlJ h
   exact ⟨e, s', by simp only [erp, opR, run_bind, Jw hv, Jw hu, Option.bind_some, h1], h2, h3⟩
  ·cases h
 ·split at h
  ·rename_i hu
   exact Jp7 F hu (by have := hlt 0 (by simp [J0B]); simpa using this) h
  ·cases h
 ·split at h
  ·rename_i hv hu
   exact JoV F hv hu h
  ·cases h
 ·split at h
  ·rename_i hv hu
   exact Jqp F hv hu (by have := hlt 0 (by simp [J0B]); simpa using this) h
  ·cases h
 ·split at h
  ·rename_i hv hu
   obtain ⟨e, s', h1, h2, h3⟩ := (JsW h).ok
   exact ⟨e, s', by simp only [erp, opR, run_bind, Jw hv, Jw hu, Option.bind_some, h1], h2, h3⟩
  ·cases h
 ·rename_i f first caps
  split at h
  ·rename_i a c ha hc
   refine J16 (v := .a (.fn f a c)) ?_ h
   simp only [erp, opR, run_bind, Jju ha, Jju hc, Option.bind_some, JpW, Jh]
  ·cases h
 ·exact Jl4 F hd h
 ·exact JmZ F hd h
 ·split at h
  ·rename_i hv
   exact Jnp F (by have := J5w hd 0 (by simp [J0B]); simpa using this) hv h
  ·cases h
structure J6H where
 op : TOp
 dst : Option Nat
 g : Option (Nat × Bool)
def eri (i : J6H) : J0E := ⟨erp i.op, i.dst, i.g⟩
def rbE (g : Nat) (v : TV) : List (Nat × TV) → List (Nat × TV)
 | [] => []
 | (m, u) :: r => if m = g then (m, v) :: r else (m, u) :: rbE g v r
def rb (g : Nat) (v : TV) (s : TSt) : TSt := ⟨rbE g v s.env, s.sto⟩
theorem Jjc {g : Nat} {v : TV} {s : TSt} (h : tlk g s.env = some v) : rb g v s = s := by
 have key : ∀ env : List (Nat × TV), tlk g env = some v → rbE g v env = env := by
  intro env
  induction env with
  | nil => intro h; cases h
  | cons x r ih =>
   intro h
   obtain ⟨m, u⟩ := x
   simp only [tlk] at h
   simp only [rbE]
   split at h
   ·rename_i e; injection h with h; subst e h; simp
   ·rename_i e; rw [if_neg (fun e' => e e'.symm), ih h]
 unfold rb
 rw [key _ h]
def Jmg (G : TG) (i : J6H) (new : Nat) (s : TSt) (k : TSt → Option R) : Option R :=
 match i.g with
 | none => if J6s s new (J0B i.op) = true then top G i.op i.dst new s k else none
 | some (g, want) => match tlk g s.env with
  | some (.a (.c (.d .b x))) => if x = want then
    (if J6s s new (J0B i.op) = true then top G i.op i.dst new (rb g (vb want) s) k else none)
   else k (JL i.dst uv (rb g (vb !want) s))
  | some (.tup []) => k (JL i.dst uv s)
  | _ => none
theorem JlE {F : Orc} {G : TG} (hG : GOk F G) {i : J6H} {new : Nat} {s : TSt} {k : TSt → Option R} {r : R} (h : Jmg G i new s k = some r) : Ok (J0C F (eri i) new) i.dst s k r := by
 have hop : ∀ {s : TSt}, J6s s new (J0B i.op) = true → top G i.op i.dst new s k = some r → Ok (opD F (erp i.op) new) i.dst s k r := by
  intro s hd h
  obtain ⟨e, s', h1, h2, h3⟩ := Jt1 hG hd h
  refine ⟨e, s', ?_, h2, h3⟩
  simp only [opD, run_bind, Jax, JiP hd, Option.bind_some, h1]
 unfold Jmg at h
 split at h
 ·rename_i hg
  split at h
  ·rename_i hd
   obtain ⟨e, s', h1, h2, h3⟩ := hop hd h
   refine ⟨e, s', ?_, h2, h3⟩
   simp only [J0C, eri, hg]
   exact h1
  ·cases h
 ·rename_i g want hg
  split at h
  ·rename_i x hx
   have hl : lk g (Jb s).env = some (.p (.b x)) := by
    show lk g (J2X _ s.env) = _
    rw [J9h, hx]; rfl
   split at h
   ·rename_i hw
    subst hw
    rw [Jjc hx] at h
    split at h
    ·rename_i hd
     obtain ⟨e, s', h1, h2, h3⟩ := hop hd h
     refine ⟨e, s', ?_, h2, h3⟩
     simp only [J0C, eri, hg, J5o, hl, Option.bind_some, if_true]
     exact h1
    ·cases h
   ·rename_i hw
    have hx' : x = !want := by clear hl hx h; cases x <;> cases want <;> first | rfl | exact absurd rfl hw
    subst hx'
    rw [Jjc hx] at h
    refine J16 (v := uv) ?_ h
    simp only [J0C, eri, hg, J5o, hl, Option.bind_some]
    rw [if_neg hw]; rfl
  ·rename_i hx
   have hl : lk g (Jb s).env = some (.tup []) := by
    show lk g (J2X _ s.env) = _
    rw [J9h, hx]; rfl
   refine J16 (v := uv) ?_ h
   simp only [J0C, eri, hg, J5o, hl, Option.bind_some, Jh]; rfl
  ·cases h
def Jnh (G : TG) : List J6H → Nat → TSt → (TSt → Option R) → Option R
 | [], _, s, k => k s
 | i :: r, new, s, k => Jmg G i new s fun s => Jnh G r (new + J0B i.op) s k
theorem Jme {F : Orc} {G : TG} (hG : GOk F G) : ∀ {ins : List J6H} {new : Nat} {s : TSt} {k : TSt → Option R} {r : R}, Jnh G ins new s k = some r → ∃ s', J1Z F (ins.map eri) new (Jb s) = some (Jb s') ∧ k s' = some r
 | [], new, s, k, r, h => ⟨s, rfl, h⟩
 | i :: q, new, s, k, r, h => by
  simp only [Jnh] at h
  obtain ⟨e, s1, h1, h2, h⟩ := JlE hG h
  obtain ⟨s2, h3, h4⟩ := Jme hG h
  refine ⟨s2, ?_, h4⟩
  simp only [List.map_cons, J1Z, h1]
  rw [show put (eri i).dst e (Jb s) = Jb s1 from h2, show J3K (eri i).op = J0B i.op from Jax _, h3]
def Jev : List J6H → Nat
 | [] => 0
 | i :: r => J0B i.op + Jev r
theorem Jdv : ∀ ins : List J6H, news (ins.map eri) = Jev ins
 | [] => rfl
 | i :: r => by
  simp only [List.map_cons, news, Jev, Jdv r]
  rw [show J3K (eri i).op = J0B i.op from Jax _]
def Jib (n : Nat) (s : TSt) : TSt := if n = 0 then s else ⟨s.env, s.sto ++ List.replicate n .dead⟩
theorem Jio (sto : List TB) (n : Nat) : lns (sto ++ List.replicate n .dead) = lns sto := by
 funext c
 unfold lns
 rcases Nat.lt_or_ge c sto.length with h | h
 ·rw [List.getElem?_append_left h]
 ·rw [List.getElem?_append_right h, List.getElem?_eq_none h, List.getElem?_replicate]
  split <;> rfl
theorem JjY (n : Nat) (s : TSt) : Jb (Jib n s) = ⟨(Jb s).env, room n (Jb s).sto⟩ := by
 unfold Jib room
 split
 ·rfl
 ·unfold Jb
  rw [Jio]
  simp only [List.map_append, List.map_replicate]
  rfl
end
end Go.Am
end
section
namespace Go.Am
def Rb {α : Type} (S : Nat → Prop) (m : RM α) (st : St) : Prop := ∀ b, Loc.blk b ∈ m.reads st → S b
section
variable {α β : Type} {S : Nat → Prop} {st : St}
theorem JB (a : α) : Rb S (.ret a) st := fun b h => by simp [RM.reads] at h
theorem Jn : Rb S (.fail : RM α) st := fun b h => by simp [RM.reads] at h
theorem Jt {m : RM α} {f : α → RM β} (h : Rb S m st) (hf : ∀ a, m.run st = some a → Rb S (f a) st) : Rb S (m.bind f) st := by
 intro b hb
 rw [J45] at hb
 rcases List.mem_append.1 hb with hb | hb
 ·exact h b hb
 ·cases hm : m.run st with
  | none => rw [hm] at hb; simp at hb
  | some a => rw [hm] at hb; exact hf a hm b (by simpa using hb)
theorem J5u {b : Nat} {k : Blk → RM α} (hb : S b) (h : ∀ v, st.sto[b]? = some v → Rb S (k v) st) : Rb S (.blk b k) st := by
 intro c hc
 simp only [RM.reads, List.mem_cons] at hc
 rcases hc with hc | hc
 ·injection hc with hc; subst hc; exact hb
 ·cases hv : st.sto[b]? with
  | none => rw [hv] at hc; simp at hc
  | some v => rw [hv] at hc; exact h v hv c hc
theorem Jlf {n : Nat} {k : AV → RM α} (h : ∀ v, lk n st.env = some v → Rb S (k v) st) : Rb S (.slot n k) st := by
 intro c hc
 simp only [RM.reads, List.mem_cons] at hc
 rcases hc with hc | hc
 ·cases hc
 ·cases hv : lk n st.env with
  | none => rw [hv] at hc; simp at hc
  | some v => rw [hv] at hc; exact h v hv c hc
theorem Jfn (x : Option AV) : Rb S (val x) st := by cases x <;> first | exact Jn | exact JB _
theorem J4S (x : Opd) : Rb S (ev x) st := by cases x <;> first | exact JB _ | exact Jlf fun v _ => JB v
theorem Jis : ∀ xs : List Opd, Rb S (evs xs) st
 | [] => JB _
 | x :: r => Jt (J4S x) fun v _ => Jt (Jis r) fun vs _ => JB _
theorem JiA (x : Option Opd) : Rb S (evo x) st := by
 cases x with
 | none => exact JB _
 | some x => exact Jt (J4S x) fun v _ => JB _
end
def J3M : AV → List Nat
 | .ptr b _ => [b]
 | .slr b _ _ => [b]
 | .ep b _ _ _ => [b]
 | _ => []
def avR : AV → List Nat
 | .agg cs => cs.flatMap J3M
 | x => J3M x
section
variable {S : Nat → Prop} {st : St}
theorem Jtv {x : AV} (h : ∀ b ∈ J3M x, S b) : Rb S (fz.fz1 x) st := by
 cases x with
 | slr b i n =>
  refine J5u (h b (by simp [J3M])) fun v _ => ?_
  cases v with
  | arr w esz rows => dsimp only; split <;> first | exact JB _ | exact Jn
  | _ => exact Jn
 | p c => exact JB _
 | _ => exact Jn
theorem JnV : ∀ {xs : List AV}, (∀ b ∈ xs.flatMap J3M, S b) → Rb S (fz.fzL xs) st
 | [], _ => JB _
 | x :: r, h => Jt (Jtv fun b hb => h b (by simp [hb])) fun a _ => Jt (JnV fun b hb => h b (by simp only [List.flatMap_cons, List.mem_append]; exact .inr hb)) fun c _ => JB _
theorem JeN {x : AV} (h : ∀ b ∈ avR x, S b) : Rb S (fz x) st := by
 cases x with
 | slr b i n =>
  refine J5u (h b (by simp [avR, J3M])) fun v _ => ?_
  cases v with
  | arr w esz rows => dsimp only; split <;> first | exact JB _ | exact Jn
  | _ => exact Jn
 | p c => exact JB _
 | data cs => exact JB _
 | agg cs => exact JnV h
 | _ => exact Jn
theorem JsB {x : AV} {a : List PV × List (Nat × Blk)} (h : (fz.fz1 x).run st = some a) : ∀ y ∈ a.2, y.1 ∈ J3M x := by
 cases x with
 | slr b i n =>
  simp only [fz.fz1, J0D] at h
  obtain ⟨v, _, h⟩ := Option.bind_eq_some_iff.1 h
  cases v with
  | arr w esz rows =>
   dsimp only at h
   split at h
   ·injection h with h; subst h; simp [J3M]
   ·cases h
  | _ => cases h
 | p c => injection h with h; subst h; simp
 | _ => cases h
theorem Joe : ∀ {xs : List AV} {a : List PV × List (Nat × Blk)}, (fz.fzL xs).run st = some a → ∀ y ∈ a.2, y.1 ∈ xs.flatMap J3M
 | [], a, h, y, hy => by injection h with h; subst h; simp at hy
 | x :: r, a, h, y, hy => by
  simp only [fz.fzL] at h
  obtain ⟨c, h1, h⟩ := bind_some h
  obtain ⟨e, h2, h⟩ := bind_some h
  injection h with h; subst h
  simp only [List.mem_append] at hy
  simp only [List.flatMap_cons, List.mem_append]
  rcases hy with hy | hy
  ·exact .inl (JsB h1 y hy)
  ·exact .inr (Joe h2 y hy)
theorem JfB {x : AV} {a : List PV × List (Nat × Blk)} (h : (fz x).run st = some a) : ∀ y ∈ a.2, y.1 ∈ avR x := by
 cases x with
 | slr b i n =>
  simp only [fz, J0D] at h
  obtain ⟨v, _, h⟩ := Option.bind_eq_some_iff.1 h
  cases v with
  | arr w esz rows =>
   dsimp only at h
   split at h
   ·injection h with h; subst h; simp [avR, J3M]
   ·cases h
  | _ => cases h
 | p c => injection h with h; subst h; simp
 | data cs => injection h with h; subst h; simp
 | agg cs => exact Joe h
 | _ => cases h
theorem Jgx {esz : Nat} {x : AV} (h : ∀ b ∈ avR x, S b) : Rb S (J1D esz x) st := by
 unfold J1D
 split
 ·split <;> first | exact JB _ | exact Jn
 ·split <;> first | exact JB _ | exact Jn
 ·refine J5u (h _ (by simp [avR, J3M])) fun v _ => ?_
  split
  ·split <;> first | exact JB _ | exact Jn
  ·exact Jn
 ·exact Jn
theorem JrH {agg : Bool} {size : Nat} {x : AV} (h : ∀ b ∈ avR x, S b) : Rb S (J2V agg size x) st := by
 unfold J2V
 split
 ·split <;> first | exact Jfn _ | exact Jn
 ·refine J5u (h _ (by simp [avR, J3M])) fun v _ => ?_
  split
  ·split <;> first | exact Jfn _ | exact Jn
  ·exact Jn
 ·refine J5u (h _ (by simp [avR, J3M])) fun v _ => ?_
  split
  ·split
   ·split
    ·split <;> first | exact Jfn _ | exact Jn
    ·exact Jn
   ·exact Jn
  ·exact Jn
 ·exact Jn
theorem JeY {x : Option AV} {e : Eff} (h : (val x).run st = some e) : e.ws = [] := by
 cases x with
 | none => cases h
 | some v => injection h with h; subst h; rfl
theorem Jrm {agg : Bool} {size : Nat} {x : AV} {e : Eff} (h : (J2V agg size x).run st = some e) : e.ws = [] := by
 unfold J2V at h
 split at h
 ·split at h <;> first | exact JeY h | cases h
 ·simp only [J0D] at h
  obtain ⟨v, _, h⟩ := Option.bind_eq_some_iff.1 h
  split at h
  ·split at h <;> first | exact JeY h | cases h
  ·cases h
 ·simp only [J0D] at h
  obtain ⟨v, _, h⟩ := Option.bind_eq_some_iff.1 h
  split at h
  ·split at h
   ·split at h
    ·split at h <;> first | exact JeY h | cases h
    ·cases h
   ·cases h
  ·cases h
 ·cases h
theorem JpC {size : Nat} {x v : AV} (h : ∀ b ∈ avR x, S b) (hv : ∀ b ∈ avR v, S b) : Rb S (J2G size x v) st := by
 unfold J2G
 split
 ·refine J5u (h _ (by simp [avR, J3M])) fun y _ => ?_
  split
  ·split
   ·split
    ·split <;> first | exact JB _ | exact Jn
    ·exact Jn
   ·exact Jn
  ·exact Jn
 ·refine J5u (h _ (by simp [avR, J3M])) fun y _ => ?_
  split
  ·split
   ·split
    ·refine Jt (JeN hv) fun a _ => ?_
     split
     ·split <;> first | exact JB _ | exact Jn
     ·exact Jn
    ·exact Jn
   ·exact Jn
  ·exact Jn
 ·exact Jn
theorem JpK {size : Nat} {x v : AV} {e : Eff} (h : (J2G size x v).run st = some e) : ∀ y ∈ e.ws, y.1 ∈ avR x ++ avR v := by
 unfold J2G at h
 split at h
 ·simp only [J0D] at h
  obtain ⟨w, _, h⟩ := Option.bind_eq_some_iff.1 h
  split at h
  ·split at h
   ·split at h
    ·split at h
     ·injection h with h; subst h; simp [avR, J3M]
     ·cases h
    ·cases h
   ·cases h
  ·cases h
 ·simp only [J0D] at h
  obtain ⟨w, _, h⟩ := Option.bind_eq_some_iff.1 h
  split at h
  ·split at h
   ·split at h
    ·obtain ⟨a, h1, h⟩ := bind_some h
     split at h
     ·split at h
      ·injection h with h; subst h
       intro y hy
       simp only [List.mem_append, List.mem_singleton] at hy ⊢
       rcases hy with hy | rfl
       ·exact .inr (JfB h1 y hy)
       ·exact .inl (by simp [avR, J3M])
      ·cases h
     ·cases h
    ·cases h
   ·cases h
  ·cases h
 ·cases h
theorem JqE {esz : Nat} {x i : AV} (h : ∀ b ∈ avR x, S b) : Rb S (J4A esz x i) st := by
 unfold J4A
 split
 ·split
  ·split <;> first | exact JB _ | exact Jn
  ·exact Jn
 ·refine J5u (h _ (by simp [avR, J3M])) fun v _ => ?_
  split
  ·split <;> first | exact JB _ | exact Jn
  ·exact Jn
 ·exact Jn
theorem Jqb {esz : Nat} {x i : AV} {e : Eff} (h : (J4A esz x i).run st = some e) : e.ws = [] := by
 unfold J4A at h
 split at h
 ·split at h
  ·split at h
   ·injection h with h; subst h; rfl
   ·cases h
  ·cases h
 ·simp only [J0D] at h
  obtain ⟨v, _, h⟩ := Option.bind_eq_some_iff.1 h
  split at h
  ·split at h
   ·injection h with h; subst h; rfl
   ·cases h
  ·cases h
 ·cases h
theorem Jt7 {esz bytes : Nat} {x y : AV} (h : ∀ b ∈ avR x, S b) (hy : ∀ b ∈ avR y, S b) : Rb S (J5D esz bytes x y) st := by
 unfold J5D
 split
 ·refine J5u (h _ (by simp [avR, J3M])) fun v _ => ?_
  split
  ·refine Jt (Jgx hy) fun new _ => ?_
   split <;> first | exact JB _ | exact Jn
  ·exact Jn
 ·exact Jn
theorem Jtl {esz bytes : Nat} {x y : AV} {e : Eff} (h : (J5D esz bytes x y).run st = some e) : ∀ z ∈ e.ws, z.1 ∈ avR x := by
 unfold J5D at h
 split at h
 ·simp only [J0D] at h
  obtain ⟨v, _, h⟩ := Option.bind_eq_some_iff.1 h
  split at h
  ·obtain ⟨new, _, h⟩ := bind_some h
   split at h
   ·injection h with h; subst h; simp [avR, J3M]
   ·cases h
  ·cases h
 ·cases h
theorem Jlm : ∀ {k new : Nat}, (∀ j, j < k → S (new + j)) → Rb S (J8M new k) st
 | 0, _, _ => JB _
 | k + 1, new, h => J5u (h 0 (by omega)) fun v _ => by
   cases v with
   | dead => exact Jlm fun j hj => by have := h (j + 1) (by omega); rwa [Nat.add_comm j 1, ← Nat.add_assoc] at this
   | _ => exact Jn
theorem Joy : ∀ {xs : List Opd}, (∀ x ∈ xs, ∀ v, (ev x).run st = some v → ∀ b ∈ avR v, S b) → Rb S (fzs xs) st
 | [], _ => JB _
 | x :: r, h => Jt (J4S x) fun v hv => Jt (JeN (h x (by simp) v hv)) fun a _ => Jt (Joy fun y hy => h y (by simp [hy])) fun c _ => JB _
theorem JjE : ∀ {xs : List Opd} {a : List (List PV) × List (Nat × Blk)}, (∀ x ∈ xs, ∀ v, (ev x).run st = some v → ∀ b ∈ avR v, S b) → (fzs xs).run st = some a → ∀ y ∈ a.2, S y.1
 | [], a, _, h, y, hy => by injection h with h; subst h; simp at hy
 | x :: r, a, hS, h, y, hy => by
  simp only [fzs] at h
  obtain ⟨v, h0, h⟩ := bind_some h
  obtain ⟨c, h1, h⟩ := bind_some h
  obtain ⟨e, h2, h⟩ := bind_some h
  injection h with h; subst h
  simp only [List.mem_append] at hy
  rcases hy with hy | hy
  ·exact hS x (by simp) v h0 _ (JfB h1 y hy)
  ·exact JjE (fun z hz => hS z (by simp [hz])) h2 y hy
theorem JlB {x : AV} (h : ∀ b ∈ avR x, S b) : Rb S (J6e x) st := by
 cases x with
 | slr b i n =>
  refine Jt (JeN h) fun a _ => ?_
  split <;> first | exact JB _ | exact Jn
 | agg cs => exact Jt (JeN h) fun a _ => JB _
 | tup cs => exact Jn
 | _ => exact JB _
theorem JlO {x : AV} {a : AV × List (Nat × Blk)} (h : (J6e x).run st = some a) : ∀ y ∈ a.2, y.1 ∈ avR x := by
 cases x with
 | slr b i n =>
  simp only [J6e] at h
  obtain ⟨c, h1, h⟩ := bind_some h
  split at h
  ·injection h with h; subst h; exact JfB h1
  ·cases h
 | agg cs =>
  simp only [J6e] at h
  obtain ⟨c, h1, h⟩ := bind_some h
  injection h with h; subst h; exact JfB h1
 | tup cs => cases h
 | _ => injection h with h; subst h; simp
theorem J9r : ∀ {m : List Bool} {xs : List AV}, (∀ x ∈ xs, ∀ b ∈ avR x, S b) → Rb S (J2i m xs) st
 | _, [], _ => by unfold J2i; exact JB _
 | [], x :: r, h => Jt (JlB (h x (by simp))) fun a _ => Jt (J9r fun y hy => h y (by simp [hy])) fun c _ => JB _
 | true :: m, x :: r, h => Jt (J9r fun y hy => h y (by simp [hy])) fun c _ => JB _
 | false :: m, x :: r, h => Jt (JlB (h x (by simp))) fun a _ => Jt (J9r fun y hy => h y (by simp [hy])) fun c _ => JB _
theorem J9n : ∀ {m : List Bool} {xs : List AV} {a : List AV × List (Nat × Blk)}, (∀ x ∈ xs, ∀ b ∈ avR x, S b) → (J2i m xs).run st = some a → ∀ y ∈ a.2, S y.1
 | m, [], a, _, h, y, hy => by unfold J2i at h; injection h with h; subst h; simp at hy
 | [], x :: r, a, hS, h, y, hy => by
  simp only [J2i] at h
  obtain ⟨c, h1, h⟩ := bind_some h
  obtain ⟨e, h2, h⟩ := bind_some h
  injection h with h; subst h
  simp only [List.mem_append] at hy
  rcases hy with hy | hy
  ·exact hS x (by simp) _ (JlO h1 y hy)
  ·exact J9n (fun z hz => hS z (by simp [hz])) h2 y hy
 | true :: m, x :: r, a, hS, h, y, hy => by
  simp only [J2i] at h
  obtain ⟨e, h2, h⟩ := bind_some h
  injection h with h; subst h
  exact J9n (fun z hz => hS z (by simp [hz])) h2 y hy
 | false :: m, x :: r, a, hS, h, y, hy => by
  simp only [J2i] at h
  obtain ⟨c, h1, h⟩ := bind_some h
  obtain ⟨e, h2, h⟩ := bind_some h
  injection h with h; subst h
  simp only [List.mem_append] at hy
  rcases hy with hy | hy
  ·exact hS x (by simp) _ (JlO h1 y hy)
  ·exact J9n (fun z hz => hS z (by simp [hz])) h2 y hy
theorem Jlb {ws : List (Nat × Blk)} {b : Nat} (h : S b) : Rb S (Ja3 ws b) st := J5u h fun v _ => by split <;> exact JB _
theorem JfK {ws : List (Nat × Blk)} : ∀ {r : List Nat} {acc : List Ent}, (∀ b ∈ r, S b) → Rb S (J2I ws (r.map .whole) acc) st
 | [], acc, _ => JB _
 | b :: r, acc, h => by
  simp only [List.map_cons, J2I]
  refine Jt (Jlb (h b (by simp))) fun x _ => ?_
  cases x <;> exact JfK fun c hc => h c (by simp [hc])
theorem Jhn {ws : List (Nat × Blk)} {ρ : Ent → Option Nat} : ∀ {r : List Nat}, (∀ b ∈ r, S b) → Rb S (J3t ws ρ (r.map .whole)) st
 | [], _ => JB _
 | b :: r, h => by
  simp only [List.map_cons, J3t, Jbc]
  refine Jt (Jt (Jlb (h b (by simp))) fun x _ => ?_) fun x _ => Jt (Jhn fun c hc => h c (by simp [hc])) fun l _ => JB _
  cases x with
  | box cs => dsimp only; split <;> first | exact JB _ | exact Jn
  | arr w e rows => exact JB _
  | dead => exact Jn
theorem JfG {ws : List (Nat × Blk)} {es : List Ent} {new : Nat} : ∀ {r : List Nat} {l : List Blk}, Rb S (J2g ws es new (r.map .whole) l) st
 | [], l => by cases l <;> exact JB _
 | b :: r, [] => Jn
 | b :: r, x :: l => by
  simp only [List.map_cons, J2g]
  refine Jt ?_ fun y _ => Jt JfG fun ys _ => JB _
  cases x with
  | box cs => simp only [J5z]; split <;> first | exact JB _ | exact Jn
  | arr w e rows => exact JB _
  | dead => exact Jn
theorem Jfp {ws : List (Nat × Blk)} {es : List Ent} {new : Nat} : ∀ {r : List Nat} {l : List Blk} {ys : List (Nat × Blk)}, (J2g ws es new (r.map .whole) l).run st = some ys → ∀ y ∈ ys, y.1 ∈ r
 | [], l, ys, h, y, hy => by
  have : ys = [] := by cases l <;> (injection h with h; exact h.symm)
  subst this; simp at hy
 | b :: r, [], ys, h, _, _ => by cases h
 | b :: r, x :: l, ys, h, y, hy => by
  simp only [List.map_cons, J2g] at h
  obtain ⟨z, h1, h⟩ := bind_some h
  obtain ⟨zs, h2, h⟩ := bind_some h
  injection h with h; subst h
  rcases List.mem_cons.1 hy with rfl | hy
  ·cases x with
   | box cs =>
    simp only [J5z] at h1
    split at h1
    ·injection h1 with h1; subst h1; simp
    ·cases h1
   | arr w e rows => injection h1 with h1; subst h1; simp
   | dead => cases h1
  ·exact List.mem_cons_of_mem _ (Jfp h2 y hy)
theorem Jb3 {es : List Ent} {new : Nat} : ∀ {l : List Blk} {k : Nat} {ys : List (Nat × Blk)}, J1O es new k l = some ys → ∀ y ∈ ys, ∃ j, j < l.length ∧ y.1 = k + j
 | [], k, ys, h, y, hy => by injection h with h; subst h; simp at hy
 | .dead :: l, k, ys, h, _, _ => by cases h
 | .box cs :: l, k, ys, h, y, hy => by
  simp only [J1O] at h
  split at h
  ·rename_i c zs _ hz
   injection h with h; subst h
   rcases List.mem_cons.1 hy with rfl | hy
   ·exact ⟨0, by simp, rfl⟩
   ·obtain ⟨j, hj, e⟩ := Jb3 hz y hy
    exact ⟨j + 1, by simp; omega, by omega⟩
  ·cases h
 | .arr w e rows :: l, k, ys, h, y, hy => by
  simp only [J1O] at h
  split at h
  ·rename_i zs hz
   injection h with h; subst h
   rcases List.mem_cons.1 hy with rfl | hy
   ·exact ⟨0, by simp, rfl⟩
   ·obtain ⟨j, hj, e⟩ := Jb3 hz y hy
    exact ⟨j + 1, by simp; omega, by omega⟩
  ·cases h
theorem JdZ (e x : Ent) (l : List Ent) (h : e ∈ l) : e ∈ J8a x l := by unfold J8a; split <;> simp [h]
mutual
theorem Jpz : ∀ (x : AV) (l : List Ent) (e : Ent), e ∈ l → e ∈ JW x l
 | .ptr b off, l, e, h => JdZ e _ l h
 | .slr b i n, l, e, h => JdZ e _ l h
 | .ep b ex i off, l, e, h => JdZ e _ l h
 | .fn f a c, l, e, h => entsL_sub c _ e (entsL_sub a l e h)
 | .agg cs, l, e, h => entsL_sub cs l e h
 | .tup cs, l, e, h => entsL_sub cs l e h
 | .p _, l, e, h => h
 | .data _, l, e, h => h
 | .cp _ _, l, e, h => h
 | .unk, l, e, h => h
theorem entsL_sub : ∀ (xs : List AV) (l : List Ent) (e : Ent), e ∈ l → e ∈ JW.entsOfL xs l
 | [], l, e, h => h
 | x :: r, l, e, h => entsL_sub r _ e (Jpz x l e h)
end
theorem Jjy {ws : List (Nat × Blk)} : ∀ {r acc l : List Ent}, (J2I ws r acc).run st = some l → ∀ e ∈ acc, e ∈ l := by
 intro r
 induction r with
 | nil => intro acc l h e he; injection h with h; subst h; exact he
 | cons x r ih =>
  intro acc l h e he
  cases x with
  | whole b =>
   simp only [J2I] at h
   obtain ⟨y, _, h⟩ := bind_some h
   cases y with
   | box cs => exact ih h e (entsL_sub cs acc e he)
   | _ => exact ih h e he
  | elem b ex i => exact ih h e he
theorem Jhh {F : Orc} {f : FuncId} {xs : List AV} {ws : List (Nat × Blk)} {e0 es1 ids : List Nat} {n new : Nat} (hS : ∀ b ∈ ids, S b) (hw : ∀ y ∈ ws, S y.1) (hn : ∀ j, j < n → S (new + j))
  (h0 : JW.entsOfL xs [] = e0.map .whole) (h1 : (J2I ws (e0.map .whole) (e0.map .whole)).run st = some (es1.map .whole)) (h2 : (J2I ws (es1.map .whole) (es1.map .whole)).run st = some (ids.map .whole)) :
  Rb S (J1Q F f (xs, ws) n new) st ∧ (∀ e, (J1Q F f (xs, ws) n new).run st = some e → ∀ y ∈ e.ws, S y.1) := by
 have s1 : ∀ b ∈ es1, S b := fun b hb => by
  have := Jjy h2 (.whole b) (List.mem_map.2 ⟨b, hb, rfl⟩)
  obtain ⟨c, hc, e⟩ := List.mem_map.1 this
  injection e with e; subst e; exact hS c hc
 have s0 : ∀ b ∈ e0, S b := fun b hb => by
  have := Jjy h1 (.whole b) (List.mem_map.2 ⟨b, hb, rfl⟩)
  obtain ⟨c, hc, e⟩ := List.mem_map.1 this
  injection e with e; subst e; exact s1 c hc
 constructor
 ·unfold J1Q
  simp only [h0]
  refine Jt (JfK s0) fun a ha => ?_
  rw [h1] at ha; injection ha with ha; subst ha
  refine Jt (JfK s1) fun a ha => ?_
  rw [h2] at ha; injection ha with ha; subst ha
  split
  ·split
   ·exact Jn
   ·refine Jt (Jhn hS) fun bl _ => ?_
    split
    ·exact Jn
    ·split
     ·split
      ·exact Jt JfG fun _ _ => JB _
      ·exact Jn
     ·exact Jn
  ·exact Jn
 ·intro e h y hy
  unfold J1Q at h
  simp only [h0] at h
  obtain ⟨a, ha, h⟩ := bind_some h
  rw [h1] at ha; injection ha with ha; subst ha
  obtain ⟨a, ha, h⟩ := bind_some h
  rw [h2] at ha; injection ha with ha; subst ha
  split at h
  ·split at h
   ·cases h
   ·obtain ⟨bl, _, h⟩ := bind_some h
    split at h
    ·cases h
    ·split at h
     ·rename_i hlen
      split at h
      ·rename_i v fresh _ hf
       obtain ⟨back, hb, h⟩ := bind_some h
       injection h with h; subst h
       simp only [List.mem_append] at hy
       rcases hy with (hy | hy) | hy
       ·exact hw y hy
       ·exact hS _ (Jfp hb y hy)
       ·obtain ⟨j, hj, e⟩ := Jb3 hf y hy
        rw [e]
        exact hn j (by simp only [List.length_drop, List.length_map] at hj hlen; omega)
      ·cases h
     ·cases h
  ·cases h
end
def tcR : TC → List Nat
 | .ptr b _ => [b]
 | .slr b => [b]
 | .slo b _ => [b]
 | .ep b _ _ => [b]
 | .epo b _ _ _ => [b]
 | _ => []
def tvR : TV → List Nat
 | .a (.c x) => tcR x
 | .a (.m _ cs) => cs.flatMap tcR
 | _ => []
theorem Jtj (L : Nat → Nat) (x : TC) : J3M (Jr L x) = tcR x := by cases x <;> rfl
theorem J3e (L : Nat → Nat) (v : TV) : avR (Jp L v) = tvR v := by
 cases v with
 | a x =>
  cases x with
  | c x => cases x <;> rfl
  | dt t x => rfl
  | m t cs =>
   show (cs.map (Jr L)).flatMap J3M = cs.flatMap tcR
   rw [List.flatMap_map]
   congr 1
   funext x; exact Jtj L x
  | fn f a c => rfl
 | tup vs => rfl
def rng (new : Nat) : Nat → List Nat
 | 0 => []
 | k + 1 => new :: rng (new + 1) k
theorem J50 : ∀ {k new j : Nat}, j < k → new + j ∈ rng new k
 | 0, _, _, h => by omega
 | k + 1, new, j, h => by
  cases j with
  | zero => simp [rng]
  | succ j =>
   simp only [rng, List.mem_cons]
   right
   rw [show new + (j + 1) = new + 1 + j by omega]
   exact J50 (by omega)
def J5a {α β : Type} (m : Option α) (f : α → Option β) : Option β := match m with
 | some x => f x
 | none => none
theorem J0W {α β : Type} {m : Option α} {f : α → Option β} {b : β} (h : J5a m f = some b) : ∃ a, m = some a ∧ f a = some b := by
 cases m with
 | none => cases h
 | some a => exact ⟨a, rfl, h⟩
def JpH (l : List (TV × Bool)) (s : TSt) : Option (List Nat) :=
 JeZ l s fun xs s1 => J5a (Jan xs []) fun i0 => J5a (J9u s1 i0 i0) fun i1 => J9u s1 i1 i1
def tcU (l : List (TV × Bool)) (n new : Nat) (s : TSt) : Option (List Nat × List Nat) :=
 J5a (JpH l s) fun ids => some (rng new n ++ (l.flatMap fun x => tvR x.1) ++ ids, rng new n ++ (l.flatMap fun x => tvR x.1) ++ ids)
def tpR (s : TSt) : List (Nat × TO) → Option (List Nat)
 | [] => some []
 | (_, o) :: r => J5a (tev o s) fun v => J5a (tpR s r) fun l => some (tvR v ++ l)
def uw (op : TOp) (new : Nat) (s : TSt) : Option (List Nat × List Nat) :=
 match op with
 | .load _ _ x => J5a (tev x s) fun v => some (tvR v, [])
 | .newbox _ => some ([new], [new])
 | .store _ x y => J5a (tev x s) fun v => J5a (tev y s) fun u => some (tvR v ++ tvR u, tvR v ++ tvR u)
 | .iaddr _ x _ => J5a (tev x s) fun v => some (tvR v, [])
 | .lits own t n ps => J5a (tpR s ps) fun l => some (rng new (J0B (.lits own t n ps)) ++ l, rng new (J0B (.lits own t n ps)) ++ l)
 | .appn _ _ y => J5a (tev y s) fun v => some (new :: tvR v, [new])
 | .app _ _ x y => J5a (tev x s) fun v => J5a (tev y s) fun u => some (tvR v ++ tvR u, tvR v)
 | .slice _ x _ _ _ => J5a (tev x s) fun v => some (tvR v, tvR v)
 | .call _ args n => J5a (JbP (args.map fun x => (x, false)) s) fun l => tcU l n new s
 | .callo _ args n => J5a (JbP args s) fun l => tcU l n new s
 | .mkslice own t bytes l c => some (rng new (J0B (.mkslice own t bytes l c)), rng new (J0B (.mkslice own t bytes l c)))
 | .conv k x => J5a (tev x s) fun v => some (rng new (J0B (.conv k x)) ++ tvR v, rng new (J0B (.conv k x)))
 | _ => none
theorem J4W {F : Orc} {op : TOp} {new : Nat} {st : St} {S : Nat → Prop} (hd : ∀ j, j < J0B op → S (new + j)) (h : Rb S (opR F (erp op) new) st) : Rb S (opD F (erp op) new) st := by
 unfold opD
 rw [Jax]
 exact Jt (Jlm hd) fun _ _ => h
theorem J3N {F : Orc} {op : AOp} {new : Nat} {st : St} {e : Eff} (h : (opD F op new).run st = some e) : (opR F op new).run st = some e := by
 unfold opD at h
 obtain ⟨_, _, h⟩ := bind_some h
 exact h
def UW (F : Orc) (op : AOp) (new : Nat) (st : St) (U W : List Nat) : Prop :=
 Rb (· ∈ U) (opD F op new) st ∧ ∀ e, (opD F op new).run st = some e → ∀ y ∈ e.ws, y.1 ∈ W
theorem J3V {x : TO} {s : TSt} {v : TV} (h : tev x s = some v) {a : AV} (ha : (ev (erO x)).run (Jb s) = some a) : a = Jp (lns s.sto) v := by
 rw [Jw h] at ha; injection ha with ha; exact ha.symm
theorem JlU {l : List (TV × Bool)} {s : TSt} {ids : List Nat} (h : JpH l s = some ids) : ∃ (xs : List AV) (ws : List (Nat × Blk)) (i0 i1 : List Nat), (J2i (l.map (·.2)) (l.map fun x => Jp (lns s.sto) x.1)).run (Jb s) = some (xs, ws) ∧
  JW.entsOfL xs [] = i0.map .whole ∧ (J2I ws (i0.map .whole) (i0.map .whole)).run (Jb s) = some (i1.map .whole) ∧ (J2I ws (i1.map .whole) (i1.map .whole)).run (Jb s) = some (ids.map .whole) := by
 unfold JpH at h
 obtain ⟨xs, s1, ws, h1, f1, h⟩ := JdD (Fzd.refl s) h
 rw [List.nil_append] at f1
 obtain ⟨i0, h2, h⟩ := J0W h
 obtain ⟨i1, h3, h4⟩ := J0W h
 exact ⟨_, ws, i0, i1, h1, J9z (lns s.sto) (l := []) h2, J6M f1 h3, J6M f1 h4⟩
theorem JpO {F : Orc} {f : FuncId} {vs : List AV} {n new : Nat} {st : St} {S : Nat → Prop} {a : List AV × List (Nat × Blk)} (ha : (J4J vs).run st = some a) (hr : Rb S (J4J vs) st)
  (h : ∀ (_ : Unit), Rb S (J1Q F f a n new) st) : Rb S (J3H F f vs n new) st := by
 unfold J3H
 refine Jt hr fun a' ha' => ?_
 rw [ha] at ha'; injection ha' with ha'; subst ha'
 have h := h ()
 unfold J1Q at h
 intro b hb
 refine h b ?_
 revert hb
 simp only [J45]
 intro hb
 rcases List.mem_append.1 hb with hb | hb
 ·exact List.mem_append.2 (.inl hb)
 ·refine List.mem_append.2 (.inr ?_)
  revert hb
  cases (J2I a.2 (JW.entsOfL a.1 []) (JW.entsOfL a.1 [])).run st with
  | none => intro hb; exact hb
  | some es1 =>
   simp only [Option.map_some, Option.getD_some, J45]
   intro hb
   rcases List.mem_append.1 hb with hb | hb
   ·exact List.mem_append.2 (.inl hb)
   ·refine List.mem_append.2 (.inr ?_)
    revert hb
    cases (J2I a.2 es1 es1).run st with
    | none => intro hb; exact hb
    | some es =>
     simp only [Option.map_some, Option.getD_some]
     split
     ·split
      ·intro hb; exact hb
      ·simp only [J45]
       intro hb
       rcases List.mem_append.1 hb with hb | hb
       ·exact List.mem_append.2 (.inl hb)
       ·refine List.mem_append.2 (.inr ?_)
        revert hb
        cases (J3t a.2 (fun e => J0Y e es 0) es).run st with
        | none => intro hb; exact hb
        | some bl =>
         simp only [Option.map_some, Option.getD_some]
         split
         ·intro hb; exact hb
         ·split
          ·rename_i hlen
           rw [if_pos (by omega)]
           intro hb; exact hb
          ·intro hb; simp [RM.reads] at hb
     ·intro hb; exact hb
theorem JtQ (F : Orc) {op : TOp} {new : Nat} {s : TSt} {U W : List Nat} (h : uw op new s = some (U, W)) : UW F (erp op) new (Jb s) U W := by
 unfold uw at h
 split at h
 ·rename_i agg t x
  obtain ⟨v, hv, h⟩ := J0W h
  injection h with h; injection h with h1 h2; subst h1 h2
  refine ⟨J4W (op := .load agg t x) (fun j hj => by simp [J0B] at hj) (Jt (J4S _) fun a ha => ?_), fun e he y hy => ?_⟩
  ·rw [J3V hv ha]; exact JrH fun b hb => by rw [J3e] at hb; exact hb
  ·have he := J3N he
   simp only [erp, opR] at he
   obtain ⟨a, ha, he⟩ := bind_some he
   rw [Jrm he] at hy; simp at hy
 ·rename_i t
  injection h with h; injection h with h1 h2; subst h1 h2
  refine ⟨J4W (op := .newbox t) (fun j hj => by simp [J0B] at hj; subst hj; simp) (JB _), fun e he y hy => ?_⟩
  have he := J3N he
  injection he with he; subst he
  simp only [List.mem_singleton] at hy
  subst hy; simp
 ·rename_i t x y
  obtain ⟨v, hv, h⟩ := J0W h
  obtain ⟨u, hu, h⟩ := J0W h
  injection h with h; injection h with h1 h2; subst h1 h2
  refine ⟨J4W (op := .store t x y) (fun j hj => by simp [J0B] at hj) (Jt (J4S _) fun a ha => Jt (J4S _) fun c hc => ?_), fun e he z hz => ?_⟩
  ·rw [J3V hv ha, J3V hu hc]
   exact JpC (fun b hb => by rw [J3e] at hb; simp [hb]) (fun b hb => by rw [J3e] at hb; simp [hb])
  ·have he := J3N he
   simp only [erp, opR] at he
   obtain ⟨a, ha, he⟩ := bind_some he
   obtain ⟨c, hc, he⟩ := bind_some he
   have := JpK he z hz
   rwa [J3V hv ha, J3V hu hc, J3e, J3e] at this
 ·rename_i t x i
  obtain ⟨v, hv, h⟩ := J0W h
  injection h with h; injection h with h1 h2; subst h1 h2
  refine ⟨J4W (op := .iaddr t x i) (fun j hj => by simp [J0B] at hj) (Jt (J4S _) fun a ha => Jt (J4S _) fun c hc => ?_), fun e he y hy => ?_⟩
  ·rw [J3V hv ha]; exact JqE fun b hb => by rw [J3e] at hb; exact hb
  ·have he := J3N he
   simp only [erp, opR] at he
   obtain ⟨a, ha, he⟩ := bind_some he
   obtain ⟨c, hc, he⟩ := bind_some he
   rw [Jqb he] at hy; simp at hy
 ·rename_i own t n ps
  obtain ⟨l, hl, h⟩ := J0W h
  injection h with h; injection h with h1 h2; subst h1 h2
  have hS : ∀ x ∈ ps.map (fun x => erO x.2), ∀ v, (ev x).run (Jb s) = some v → ∀ b ∈ avR v, b ∈ rng new (J0B (.lits own t n ps)) ++ l := by
   have key : ∀ (ps : List (Nat × TO)) (l : List Nat), tpR s ps = some l → ∀ x ∈ ps.map (fun x => erO x.2), ∀ v, (ev x).run (Jb s) = some v → ∀ b ∈ avR v, b ∈ l := by
    intro ps
    induction ps with
    | nil => intro l _ x hx; simp at hx
    | cons p ps ih =>
     intro l hl x hx v hv b hb
     obtain ⟨i, o⟩ := p
     simp only [tpR] at hl
     obtain ⟨u, hu, hl⟩ := J0W hl
     obtain ⟨q, hq, hl⟩ := J0W hl
     injection hl with hl; subst hl
     simp only [List.map_cons, List.mem_cons] at hx
     rcases hx with rfl | hx
     ·rw [J3V hu hv, J3e] at hb; simp [hb]
     ·simp [ih q hq x hx v hv b hb]
   intro x hx v hv b hb
   exact List.mem_append.2 (.inr (key ps l hl x hx v hv b hb))
  have e1 : (ps.map fun x => (x.1, erO x.2)).map (·.2) = ps.map fun x => erO x.2 := by simp
  refine ⟨J4W (op := .lits own t n ps) (fun j hj => List.mem_append.2 (.inl (J50 hj))) ?_, fun e he y hy => ?_⟩
  ·simp only [erp, opR, e1]
   refine Jt (Joy hS) fun a _ => ?_
   split
   ·split <;> exact JB _
   ·exact Jn
  ·have he := J3N he
   simp only [erp, opR, e1] at he
   obtain ⟨a, ha, he⟩ := bind_some he
   split at he
   ·split at he
    ·rename_i ho
     injection he with he; subst he
     simp only [List.mem_append, List.mem_singleton] at hy
     rcases hy with hy | rfl
     ·exact JjE hS ha y hy
     ·exact List.mem_append.2 (.inl (by have := J50 (k := J0B (.lits own t n ps)) (new := new) (j := 0) (by simp [J0B, ho]); simpa using this))
    ·injection he with he; subst he
     exact JjE hS ha y hy
   ·cases he
 ·rename_i t bytes y
  obtain ⟨v, hv, h⟩ := J0W h
  injection h with h; injection h with h1 h2; subst h1 h2
  refine ⟨J4W (op := .appn t bytes y) (fun j hj => by simp [J0B] at hj; subst hj; simp) (Jt (J4S _) fun a ha => ?_), fun e he z hz => ?_⟩
  ·rw [J3V hv ha]
   refine Jt (Jgx fun b hb => by rw [J3e] at hb; simp [hb]) fun rows _ => ?_
   split <;> first | exact JB _ | exact Jn
  ·have he := J3N he
   simp only [erp, opR] at he
   obtain ⟨a, ha, he⟩ := bind_some he
   obtain ⟨rows, _, he⟩ := bind_some he
   split at he
   ·injection he with he; subst he
    simp only [List.mem_singleton] at hz
    subst hz; simp
   ·cases he
 ·rename_i t bytes x y
  obtain ⟨v, hv, h⟩ := J0W h
  obtain ⟨u, hu, h⟩ := J0W h
  injection h with h; injection h with h1 h2; subst h1 h2
  refine ⟨J4W (op := .app t bytes x y) (fun j hj => by simp [J0B] at hj) (Jt (J4S _) fun a ha => Jt (J4S _) fun c hc => ?_), fun e he z hz => ?_⟩
  ·rw [J3V hv ha, J3V hu hc]
   exact Jt7 (fun b hb => by rw [J3e] at hb; simp [hb]) (fun b hb => by rw [J3e] at hb; simp [hb])
  ·have he := J3N he
   simp only [erp, opR] at he
   obtain ⟨a, ha, he⟩ := bind_some he
   obtain ⟨c, hc, he⟩ := bind_some he
   have := Jtl he z hz
   rwa [J3V hv ha, J3e] at this
 ·rename_i kd x lo hi mx
  obtain ⟨v, hv, h⟩ := J0W h
  injection h with h; injection h with h1 h2; subst h1 h2
  refine ⟨J4W (op := .slice kd x lo hi mx) (fun j hj => by simp [J0B] at hj) (Jt (J4S _) fun a ha => Jt (JiA _) fun _ _ => Jt (JiA _) fun _ _ => Jt (JiA _) fun _ _ => ?_), fun e he z hz => ?_⟩
  ·have e := J3V hv ha
   split
   ·refine Jt (JeN fun b hb => ?_) fun y _ => ?_
    ·rw [e, J3e] at hb; exact hb
    ·split
     ·split <;> first | exact JB _ | exact Jn
     ·exact Jn
   ·exact Jfn _
  ·have he := J3N he
   simp only [erp, opR] at he
   obtain ⟨a, ha, he⟩ := bind_some he
   obtain ⟨_, _, he⟩ := bind_some he
   obtain ⟨_, _, he⟩ := bind_some he
   obtain ⟨_, _, he⟩ := bind_some he
   have e0 := J3V hv ha
   split at he
   ·obtain ⟨y, hy, he⟩ := bind_some he
    split at he
    ·split at he
     ·injection he with he; subst he
      have := JfB hy z hz
      rwa [e0, J3e] at this
     ·cases he
    ·cases he
   ·rw [JeY he] at hz; simp at hz
 ·rename_i f args n
  obtain ⟨l, hl, h⟩ := J0W h
  unfold tcU at h
  obtain ⟨ids, hi, h⟩ := J0W h
  injection h with h; injection h with h1 h2; subst h1 h2
  obtain ⟨xs, ws, i0, i1, q1, q2, q3, q4⟩ := JlU hi
  obtain ⟨e1, e2⟩ := J7T hl
  rw [Jb6] at e1
  rw [J6o _ _ (fun x hx => by
   rw [e2, List.map_map] at hx
   obtain ⟨y, _, rfl⟩ := List.mem_map.1 hx
   rfl)] at q1
  have hA : ∀ x ∈ l.map (fun x => Jp (lns s.sto) x.1), ∀ b ∈ avR x, b ∈ rng new n ++ (l.flatMap fun x => tvR x.1) ++ ids := by
   intro x hx b hb
   obtain ⟨y, hy, rfl⟩ := List.mem_map.1 hx
   rw [J3e] at hb
   simp only [List.mem_append]
   exact .inl (.inr (List.mem_flatMap.2 ⟨y, hy, hb⟩))
  have hrA : Rb (· ∈ rng new n ++ (l.flatMap fun x => tvR x.1) ++ ids) (J4J (l.map fun x => Jp (lns s.sto) x.1)) (Jb s) := by
   rw [← J8K]; exact J9r hA
  have hwA : ∀ y ∈ ws, y.1 ∈ rng new n ++ (l.flatMap fun x => tvR x.1) ++ ids := by
   rw [← J8K] at q1
   exact J9n (S := (· ∈ rng new n ++ (l.flatMap fun x => tvR x.1) ++ ids)) hA q1
  obtain ⟨c1, c2⟩ := Jhh (F := F) (f := f) (S := (· ∈ rng new n ++ (l.flatMap fun x => tvR x.1) ++ ids)) (n := n) (new := new) (fun b hb => by simp [hb]) hwA
   (fun j hj => by simp only [List.mem_append]; exact .inl (.inl (J50 hj))) q2 q3 q4
  refine ⟨J4W (op := .call f args n) (fun j hj => by simp only [List.mem_append]; exact .inl (.inl (J50 hj))) (Jt (Jis _) fun a ha => ?_), fun e he y hy => ?_⟩
  ·rw [e1] at ha; injection ha with ha; subst ha
   exact JpO q1 hrA fun _ => c1
  ·have he := J3N he
   simp only [erp, opR] at he
   obtain ⟨a, ha, he⟩ := bind_some he
   rw [e1] at ha; injection ha with ha; subst ha
   obtain ⟨ar, h1, h2⟩ := Jm9 he
   rw [q1] at h1; injection h1 with h1; subst h1
   exact c2 e h2 y hy
 ·rename_i f args n
  obtain ⟨l, hl, h⟩ := J0W h
  unfold tcU at h
  obtain ⟨ids, hi, h⟩ := J0W h
  injection h with h; injection h with h1 h2; subst h1 h2
  obtain ⟨xs, ws, i0, i1, q1, q2, q3, q4⟩ := JlU hi
  obtain ⟨e1, e2⟩ := J7T hl
  have hA : ∀ x ∈ l.map (fun x => Jp (lns s.sto) x.1), ∀ b ∈ avR x, b ∈ rng new n ++ (l.flatMap fun x => tvR x.1) ++ ids := by
   intro x hx b hb
   obtain ⟨y, hy, rfl⟩ := List.mem_map.1 hx
   rw [J3e] at hb
   simp only [List.mem_append]
   exact .inl (.inr (List.mem_flatMap.2 ⟨y, hy, hb⟩))
  rw [e2] at q1
  have hwA : ∀ y ∈ ws, y.1 ∈ rng new n ++ (l.flatMap fun x => tvR x.1) ++ ids := J9n (S := (· ∈ rng new n ++ (l.flatMap fun x => tvR x.1) ++ ids)) hA q1
  obtain ⟨c1, c2⟩ := Jhh (F := F) (f := f) (S := (· ∈ rng new n ++ (l.flatMap fun x => tvR x.1) ++ ids)) (n := n) (new := new) (fun b hb => by simp [hb]) hwA
   (fun j hj => by simp only [List.mem_append]; exact .inl (.inl (J50 hj))) q2 q3 q4
  refine ⟨J4W (op := .callo f args n) (fun j hj => by simp only [List.mem_append]; exact .inl (.inl (J50 hj))) (Jt (Jis _) fun a ha => ?_), fun e he y hy => ?_⟩
  ·rw [e1] at ha; injection ha with ha; subst ha
   refine Jt (J9r hA) fun a ha => ?_
   rw [q1] at ha; injection ha with ha; subst ha
   exact c1
  ·have he := J3N he
   simp only [erp, opR] at he
   obtain ⟨a, ha, he⟩ := bind_some he
   rw [e1] at ha; injection ha with ha; subst ha
   obtain ⟨a, ha, he⟩ := bind_some he
   rw [q1] at ha; injection ha with ha; subst ha
   exact c2 e he y hy
 ·rename_i own t bytes l c
  injection h with h; injection h with h1 h2; subst h1 h2
  refine ⟨J4W (op := .mkslice own t bytes l c) (fun j hj => J50 hj) (Jt (J4S _) fun a ha => Jt (J4S _) fun d hd => ?_), fun e he y hy => ?_⟩
  ·split
   ·split
    ·split <;> exact JB _
    ·exact Jn
   ·exact Jn
  ·have he := J3N he
   simp only [erp, opR] at he
   obtain ⟨a, ha, he⟩ := bind_some he
   obtain ⟨d, hd, he⟩ := bind_some he
   split at he
   ·split at he
    ·split at he
     ·rename_i ho
      injection he with he; subst he
      simp only [List.mem_singleton] at hy
      subst hy
      have := J50 (k := J0B (.mkslice own t bytes l c)) (new := new) (j := 0) (by simp [J0B, ho])
      simpa using this
     ·injection he with he; subst he; simp at hy
    ·cases he
   ·cases he
 ·rename_i k x
  obtain ⟨v, hv, h⟩ := J0W h
  injection h with h; injection h with h1 h2; subst h1 h2
  refine ⟨J4W (op := .conv k x) (fun j hj => List.mem_append.2 (.inl (J50 hj))) (Jt (J4S _) fun a ha => ?_), fun e he y hy => ?_⟩
  ·have hr : ∀ b ∈ avR a, b ∈ rng new (J0B (.conv k x)) ++ tvR v := fun b hb => by rw [J3V hv ha, J3e] at hb; simp [hb]
   split
   ·exact JB _
   ·exact JB _
   ·refine Jt (Jgx hr) fun rows _ => ?_
    split <;> first | exact JB _ | exact Jn
   ·split <;> exact JB _
   ·exact Jn
  ·have he := J3N he
   simp only [erp, opR] at he
   obtain ⟨a, ha, he⟩ := bind_some he
   split at he
   ·injection he with he; subst he; simp at hy
   ·injection he with he; subst he; simp at hy
   ·obtain ⟨rows, _, he⟩ := bind_some he
    split at he
    ·injection he with he; subst he; simp at hy
    ·cases he
   ·split at he
    ·rename_i ho
     injection he with he; subst he
     simp only [List.mem_singleton] at hy
     subst hy
     simp [J0B, ho, rng]
    ·injection he with he; subst he; simp at hy
   ·cases he
 ·cases h
abbrev J9q := Option (List Nat × List Nat)
section
variable {R : Type}
def Jt6 (i : J6H) (s : TSt) : Bool := match i.g with
 | none => false
 | some (g, want) => if i.dst = some g then false else match tlk g s.env with
  | some (.a (.c (.d .b x))) => if x = want then false else true
  | some (.tup []) => true
  | _ => false
def uwI (i : J6H) (new : Nat) (s s' : TSt) : J9q := if Jt6 i s' = true then some ([], []) else uw i.op new s
def Ji4 (G : TG) : List J6H → Nat → TSt → List J9q → (TSt → List J9q → Option R) → Option R
 | [], _, s, l, k => k s l
 | i :: r, new, s, l, k => Jmg G i new s fun s' => Ji4 G r (new + J0B i.op) s' (l ++ [uwI i new s s']) k
def J8v : J9q → (List Nat × List Nat) → Prop
 | none, _ => True
 | some (U, W), x => (∀ b ∈ x.1, b ∈ U) ∧ ∀ b ∈ x.2, b ∈ W
def Jig (l : List J9q) : List (Nat × Nat) → Bool
 | [] => true
 | (i, j) :: r => (match l[i]?, l[j]? with
  | some (some a), some (some b) => J4w a.2 b.1 && J4w a.2 b.2 && J4w a.1 b.2
  | _, _ => false) && Jig l r
theorem J7p {b : Nat} : ∀ {l : List Loc}, b ∈ J38 l → Loc.blk b ∈ l
 | .blk c :: r, h => by
  simp only [J38, List.mem_cons] at h
  rcases h with rfl | h
  ·simp
  ·simp [J7p h]
 | .slot n :: r, h => by simp only [J38] at h; simp [J7p h]
theorem J8v.snoc {l : List J9q} {l0 : Log} {x : J9q} {y : List Nat × List Nat} (hl : l.length = l0.length) (ho : ∀ (j : Nat) a b, l[j]? = some a → l0[j]? = some b → J8v a b) (hx : J8v x y) (j : Nat) (a : J9q) (b : List Nat × List Nat) (ha : (l ++ [x])[j]? = some a) (hb : (l0 ++ [y])[j]? = some b) : J8v a b := by
 rcases Nat.lt_or_ge j l.length with hj | hj
 ·rw [List.getElem?_append_left hj] at ha
  rw [List.getElem?_append_left (by omega)] at hb
  exact ho j a b ha hb
 ·rw [List.getElem?_append_right hj] at ha
  rw [List.getElem?_append_right (by omega)] at hb
  have hj0 : j - l.length = 0 := by have := J8 ha; simp at this; omega
  rw [hj0] at ha
  rw [← hl, hj0] at hb
  simp at ha hb
  subst ha hb
  exact hx
theorem Jrb {F : Orc} {i : J6H} {new : Nat} {s s' : TSt} {e : Eff} (h : (J0C F (eri i) new).run (Jb s) = some e) (hp : put i.dst e (Jb s) = Jb s') : J8v (uwI i new s s') (J38 ((J0C F (eri i) new).reads (Jb s)), e.ws.map (·.1)) := by
 unfold uwI
 split
 ·rename_i hn
  unfold Jt6 at hn
  split at hn
  ·cases hn
  ·rename_i g want hg
   split at hn
   ·cases hn
   ·rename_i hd
    have hlk : lk g (Jb s').env = lk g (Jb s).env := by
     rw [← hp]
     unfold put
     split
     ·rename_i d hds
      show lk g ((d, e.val) :: (Jb s).env) = _
      simp only [lk]
      rw [if_neg (fun e0 => hd (by rw [hds, e0]))]
     ·rfl
    have hx' : ∀ v, tlk g s'.env = some v → lk g (Jb s).env = some (Jp (lns s'.sto) v) := fun v hv => by
     rw [← hlk]
     show lk g (J2X _ s'.env) = _
     rw [J9h, hv]; rfl
    split at hn
    ·rename_i x hx
     split at hn
     ·cases hn
     ·rename_i hw
      have hl := hx' _ hx
      rw [e_b] at hl
      have hi : J0C F (eri i) new = .slot g fun
        | .p (.b x) => if x = want then opD F (eri i).op new else .ret ⟨J1d, []⟩
        | .tup [] => .ret ⟨J1d, []⟩
        | _ => .fail := by unfold J0C; rw [show (eri i).g = i.g from rfl, hg]; rfl
      rw [hi] at h ⊢
      refine ⟨fun b hb => ?_, fun b hb => ?_⟩
      ·have := J7p hb
       simp only [RM.reads, hl, List.mem_cons, if_neg hw] at this
       rcases this with this | this
       ·cases this
       ·simp at this
      ·simp only [J5o, hl, Option.bind_some, if_neg hw, Jh] at h
       injection h with h; subst h
       exact hb
    ·rename_i hx
     have hl := hx' _ hx
     have hl : lk g (Jb s).env = some (.tup []) := hl
     have hi : J0C F (eri i) new = .slot g fun
       | .p (.b x) => if x = want then opD F (eri i).op new else .ret ⟨J1d, []⟩
       | .tup [] => .ret ⟨J1d, []⟩
       | _ => .fail := by unfold J0C; rw [show (eri i).g = i.g from rfl, hg]; rfl
     rw [hi] at h ⊢
     refine ⟨fun b hb => ?_, fun b hb => ?_⟩
     ·have := J7p hb
      simp only [RM.reads, hl, List.mem_cons] at this
      rcases this with this | this
      ·cases this
      ·simp at this
     ·simp only [J5o, hl, Option.bind_some, Jh] at h
      injection h with h; subst h
      exact hb
    ·cases hn
 ·cases hu : uw i.op new s with
  | none => trivial
  | some uw' =>
   obtain ⟨U, W⟩ := uw'
   obtain ⟨h1, h2⟩ := JtQ F hu
   have hr : Rb (· ∈ U) (J0C F (eri i) new) (Jb s) := by
    unfold J0C
    split
    ·exact h1
    ·refine Jlf fun v hv => ?_
     split
     ·split
      ·exact h1
      ·exact JB _
     ·exact JB _
     ·exact Jn
   refine ⟨fun b hb => hr b (J7p hb), fun b hb => ?_⟩
   obtain ⟨y, hy, rfl⟩ := List.mem_map.1 hb
   unfold J0C at h
   split at h
   ·exact h2 e h y hy
   ·simp only [J5o] at h
    obtain ⟨v, hv, h⟩ := Option.bind_eq_some_iff.1 h
    split at h
    ·split at h
     ·exact h2 e h y hy
     ·injection h with h; subst h; simp at hy
    ·injection h with h; subst h; simp at hy
    ·cases h
theorem JjV {F : Orc} {G : TG} (hG : GOk F G) : ∀ {ins : List J6H} {new : Nat} {s : TSt} {l : List J9q} {l0 : Log} {k : TSt → List J9q → Option R} {r : R}, l.length = l0.length → (∀ (j : Nat) a b, l[j]? = some a → l0[j]? = some b → J8v a b) →
  Ji4 G ins new s l k = some r → ∃ s' l' tl, J39 F (ins.map eri) new (Jb s) l0 = some (Jb s', l') ∧ k s' tl = some r ∧ tl.length = l'.length ∧ ∀ (j : Nat) a b, tl[j]? = some a → l'[j]? = some b → J8v a b
 | [], new, s, l, l0, k, r, hl, ho, h => ⟨s, l0, l, rfl, h, hl, ho⟩
 | i :: q, new, s, l, l0, k, r, hl, ho, h => by
  simp only [Ji4] at h
  obtain ⟨e, s1, h1, h2, h⟩ := JlE hG h
  obtain ⟨s2, l', tl, h3, h4, h5, h6⟩ := JjV hG (l0 := l0 ++ [(J38 ((J0C F (eri i) new).reads (Jb s)), e.ws.map (·.1))]) (by rw [List.length_append, List.length_append, hl]; rfl) (J8v.snoc hl ho (Jrb h1 h2)) h
  refine ⟨s2, l', tl, ?_, h4, h5, h6⟩
  simp only [List.map_cons, J39, h1]
  rw [show put (eri i).dst e (Jb s) = Jb s1 from h2, show J3K (eri i).op = J0B i.op from Jax _, h3]
theorem Je0 {a b a' b' : List Nat} (h : J4w a' b' = true) (ha : ∀ x ∈ a, x ∈ a') (hb : ∀ x ∈ b, x ∈ b') : J4w a b = true := by
 unfold J4w at h ⊢
 rw [List.all_eq_true] at h ⊢
 intro x hx
 have := h x (ha x hx)
 simp only [Bool.not_eq_true', List.contains_eq_mem, decide_eq_false_iff_not] at this ⊢
 exact fun hm => this (hb x hm)
theorem Jiq {l : List J9q} {l' : Log} (hl : l.length = l'.length) (ho : ∀ (j : Nat) a b, l[j]? = some a → l'[j]? = some b → J8v a b) : ∀ {ps : List (Nat × Nat)}, Jig l ps = true → J8W l' ps = true
 | [], _ => rfl
 | (i, j) :: r, h => by
  simp only [Jig, Bool.and_eq_true] at h
  obtain ⟨h1, h2⟩ := h
  simp only [J8W, Bool.and_eq_true]
  refine ⟨?_, Jiq hl ho h2⟩
  split at h1
  ·rename_i a b ha hb
   have hi : i < l'.length := by have := J8 ha; omega
   have hj : j < l'.length := by have := J8 hb; omega
   have oa := ho i _ _ ha (List.getElem?_eq_getElem hi)
   have ob := ho j _ _ hb (List.getElem?_eq_getElem hj)
   rw [List.getElem?_eq_getElem hi, List.getElem?_eq_getElem hj]
   simp only [Bool.and_eq_true] at h1 ⊢
   exact ⟨⟨Je0 h1.1.1 oa.2 ob.1, Je0 h1.1.2 oa.2 ob.2⟩, Je0 h1.2 oa.1 ob.2⟩
  ·cases h1
def Jqr (G : TG) (pairs : List (Nat × Nat)) (ins : List J6H) (s : TSt) (k : TSt → Option R) : Option R :=
 match pairs with
 | [] => Jnh G ins s.sto.length (Jib (Jev ins) s) k
 | p :: ps => Ji4 G ins s.sto.length (Jib (Jev ins) s) [] fun s' l => if Jig l (p :: ps) = true then k s' else none
theorem Jss {F : Orc} {G : TG} (hG : GOk F G) {pairs : List (Nat × Nat)} {ins : List J6H} {s : TSt} {k : TSt → Option R} {r : R} (h : Jqr G pairs ins s k = some r) : ∃ s', region F pairs (ins.map eri) (Jb s) = some (Jb s') ∧ k s' = some r := by
 have hlen : (Jb s).sto.length = s.sto.length := by simp [Jb]
 unfold Jqr at h
 split at h
 ·obtain ⟨s', h1, h2⟩ := Jme hG h
  refine ⟨s', ?_, h2⟩
  simp only [region, Jdv]
  rw [JjY] at h1
  rw [hlen]
  exact h1
 ·obtain ⟨s', l', tl, h1, h2, h3, h4⟩ := JjV hG (l0 := []) rfl (fun j a b ha hb => by simp at ha) h
  split at h2
  ·rename_i hp
   refine ⟨s', ?_, h2⟩
   simp only [region, Jdv]
   rw [JjY] at h1
   rw [hlen, h1]
   simp only [Jiq h3 h4 hp, if_true]
  ·cases h2
end
end Go.Am
end
