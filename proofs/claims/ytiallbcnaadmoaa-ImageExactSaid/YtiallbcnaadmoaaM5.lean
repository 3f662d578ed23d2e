/-
  Parts of a proof.
-/
import Derived.Test.YtiallbcnaadmoaaM4
set_option linter.unusedSimpArgs false
set_option linter.unusedVariables false
section
namespace Go.Am
section
variable {α : Type}
def idx (l : List α) (n : Int) : Option α := if 0 ≤ n then l[n.toNat]? else none
def inb (k : Nat) (n : Int) : Option Unit := if 0 ≤ n ∧ n < k then some () else none
def JdS (bytes : Nat) (l l' : List α) : Option (List α) := if J5r (l.length + l'.length) bytes = true then some (l ++ l') else none
def Jrl (bytes : Nat) (l : List α) : Option (List α) := if J5r l.length bytes = true then some l else none
def mkS (bytes : Nat) (n m : Int) (z : α) : Option (List α) :=
 if 0 ≤ n ∧ n ≤ m ∧ bytes * m ≤ 281474976710656 ∧ m ≤ 281474976710656 then some (List.replicate n.toNat z) else none
def JdT (x : Option Int) (top dflt : Nat) : Option Nat := match x with
 | none => some dflt
 | some n => if 0 ≤ n ∧ n ≤ top then some n.toNat else none
def JfX (n : Nat) (lo hi : Option Int) : Option (Nat × Nat) := match JdT hi n n with
 | none => none
 | some h => match JdT lo h 0 with
  | none => none
  | some l => some (l, h)
def J2U (l : List α) (lo hi : Option Int) : Option (List α) := match JfX l.length lo hi with
 | some c => some ((l.drop c.1).take (c.2 - c.1))
 | none => none
def Jx9 (k : IntKind) (x y : Int) : Option Int := if y = 0 then none else some (k.wrap (x.tdiv y))
def JkO (x y : Int) : Option Int := if y = 0 then none else some (x.tmod y)
def Jgy (k : IntKind) (x y : Int) : Option Int := if y < 0 then none else some (k.wrap (x * 2 ^ (min y.toNat k.bits)))
def J8X (k : IntKind) (x y : Int) : Option Int := if y < 0 then none else some (x.fdiv (2 ^ (min y.toNat k.bits)))
def J59 (k : IntKind) (x y : Int) : Int := k.wrap (BitVec.ofInt k.bits x &&& BitVec.ofInt k.bits y).toNat
def orI (k : IntKind) (x y : Int) : Int := k.wrap (BitVec.ofInt k.bits x ||| BitVec.ofInt k.bits y).toNat
def J5Z (k : IntKind) (x y : Int) : Int := k.wrap (BitVec.ofInt k.bits x ^^^ BitVec.ofInt k.bits y).toNat
def JqK (k : IntKind) (n : Int) : Int := k.wrap (BitVec.ofInt k.bits (if k.signed then -1 else k.max) ^^^ BitVec.ofInt k.bits n).toNat
def J2I (a b : List UInt8) : Option (List UInt8) := if a.length + b.length ≤ 4611686018427387904 then some (a ++ b) else none
def JcH (l : List UInt8) (n : Int) : Option Int := if 0 ≤ n then (match l[n.toNat]? with | some u => some (u.toNat : Int) | none => none) else none
def J93 {k : Nat} (v : Vector α k) (n : Int) : Option α := if 0 ≤ n ∧ n < k then v[n.toNat]? else none
def Jao {k : Nat} (v : Vector α k) (n : Int) (x : α) : Vector α k := v.setIfInBounds n.toNat x
def toStr (l : List Int) : List UInt8 := l.map fun n => UInt8.ofNat n.toNat
def Jab (l : List UInt8) : List Int := l.map fun u => (u.toNat : Int)
def Jii (x y : Int) : Int := if y < x then y else x
def Jj5 (x y : Int) : Int := if y > x then y else x
end
@[reducible] def cat (a b : List PV) : List PV := a ++ b
def r_i (k : IntKind) (n : Int) : List PV := [.i k n]
def r_b (x : Bool) : List PV := [.b x]
def r_s (l : List UInt8) : List PV := [.s l]
def Jl9 {α : Type} (esz : Nat) (r : α → List PV) (l : List α) : List PV := [.sl esz (l.map r)]
theorem Jbr (k : IntKind) (n : Int) : (r_i k n).length = 1 := rfl
def J08 {α : Type} {n : Nat} (r : α → List PV) (v : Vector α n) : List PV := (v.toList.map r).flatten
section
variable {α : Type}
theorem J6K (cs : List α) (off size : Nat) : sub cs off size = if off + size ≤ cs.length then some ((cs.drop off).take size) else none := by
 unfold sub
 split
 ·rename_i h
  obtain ⟨rfl, rfl⟩ := h
  simp
 ·rfl
theorem J7S (cs : List α) (off : Nat) (vs : List α) : spl cs off vs = if off + vs.length ≤ cs.length then some (cs.take off ++ vs ++ cs.drop (off + vs.length)) else none := by
 unfold spl
 split
 ·rename_i h
  obtain ⟨rfl, h⟩ := h
  rw [if_pos (by omega)]
  simp [← h]
 ·rfl
theorem JbD {cs : List α} {n : Nat} (h : cs.length = n) : sub cs 0 n = some cs := by
 subst h; rw [J6K]; simp
theorem Jbs {cs vs : List α} (h : cs.length = vs.length) : spl cs 0 vs = some vs := by
 rw [J7S]; simp [h]
theorem JbN {a b c : List α} {off size : Nat} (h1 : a.length = off) (h2 : b.length = size) : sub (a ++ (b ++ c)) off size = some b := by
 subst h1 h2
 rw [J6K, if_pos (by simp)]
 simp
theorem J9y {b c : List α} {size : Nat} (h2 : b.length = size) : sub (b ++ c) 0 size = some b := JbN (a := []) rfl h2
theorem JaT {a b : List α} {off size : Nat} (h1 : a.length = off) (h2 : b.length = size) : sub (a ++ b) off size = some b := by
 have := JbN (c := []) h1 h2; simpa using this
theorem JbQ {a b c v : List α} {off : Nat} (h1 : a.length = off) (h2 : b.length = v.length) : spl (a ++ (b ++ c)) off v = some (a ++ (v ++ c)) := by
 subst h1
 rw [J7S, if_pos (by simp; omega), ← h2]
 simp
theorem J9t {b c v : List α} (h2 : b.length = v.length) : spl (b ++ c) 0 v = some (v ++ c) := JbQ (a := []) rfl h2
theorem JaL {a b v : List α} {off : Nat} (h1 : a.length = off) (h2 : b.length = v.length) : spl (a ++ b) off v = some (a ++ v) := by
 have := JbQ (c := []) h1 h2; simpa using this
theorem J89 {cs ds r : List α} {a m k n : Nat} (h1 : sub cs a m = some ds) (h2 : sub ds k n = some r) : sub cs (a + k) n = some r := by
 rw [J6K] at h1 h2 ⊢
 split at h1
 ·injection h1 with h1; subst h1
  split at h2
  ·rename_i h3 h4
   injection h2 with h2; subst h2
   simp at h4
   rw [if_pos (by omega), List.drop_take, List.take_take, List.drop_drop]
   congr 2
   omega
  ·cases h2
 ·cases h1
theorem Jkz {cs ds ds' v cs' : List α} {a m k : Nat} (h1 : sub cs a m = some ds) (h2 : spl ds k v = some ds') (h3 : spl cs a ds' = some cs') : spl cs (a + k) v = some cs' := by
 rw [J6K] at h1
 rw [J7S] at h2 h3 ⊢
 split at h1
 ·rename_i h4
  injection h1 with h1; subst h1
  split at h2
  ·rename_i h5
   injection h2 with h2; subst h2
   simp at h5
   split at h3
   ·injection h3 with h3; subst h3
    rw [if_pos (by omega)]
    congr 1
    simp only [List.length_append, List.length_take, List.length_drop, List.take_take, List.drop_take, List.drop_drop, List.append_assoc]
    have e1 : cs.take (a + k) = cs.take a ++ (cs.drop a).take k := List.take_add ..
    rw [e1, List.append_assoc]
    rw [show min k m = k by omega]
    congr 3
    have e2 : cs.drop (a + k + v.length) = (cs.drop (a + (k + v.length))).take (m - (k + v.length)) ++ cs.drop (a + m) := by
     have := List.take_append_drop (m - (k + v.length)) (cs.drop (a + (k + v.length)))
     rw [List.drop_drop] at this
     rw [show a + (k + v.length) + (m - (k + v.length)) = a + m by omega] at this
     rw [this]; congr 1; omega
    rw [e2]
    congr 2
    omega
   ·cases h3
  ·cases h2
 ·cases h1
theorem JtG {β : Type} (g : α → β) (cs : List α) (off size : Nat) : sub (cs.map g) off size = (sub cs off size).map (List.map g) := by
 rw [J6K, J6K]
 simp only [List.length_map]
 split <;> simp [List.map_drop, List.map_take]
theorem JnV {β : Type} (g : α → β) (cs : List α) (off : Nat) (vs : List α) : spl (cs.map g) off (vs.map g) = (spl cs off vs).map (List.map g) := by
 rw [J7S, J7S]
 simp only [List.length_map]
 split <;> simp [List.map_drop, List.map_take]
theorem J9X {n k w : Nat} {r : α → List PV} (hr : ∀ x, (r x).length = w) {v : Vector α n} {x : α} (h : v[k]? = some x) : sub (J08 r v) (k * w) w = some (r x) := by
 have key : ∀ (l : List α) (k : Nat) (x : α), l[k]? = some x → sub ((l.map r).flatten) (k * w) w = some (r x) := by
  intro l
  induction l with
  | nil => intro k x h; simp at h
  | cons y l ih =>
   intro k x h
   cases k with
   | zero =>
    simp at h; subst h
    rw [Nat.zero_mul, List.map_cons, List.flatten_cons]
    exact J9y (hr _)
   | succ k =>
    simp at h
    have := ih k x h
    rw [List.map_cons, List.flatten_cons]
    rw [J6K] at this ⊢
    split at this
    ·injection this with this
     have e : (k + 1) * w = w + k * w := by rw [Nat.succ_mul]; omega
     rw [e, if_pos (by simp [hr]; simp at *; omega)]
     have e2 : w + k * w = (r y).length + k * w := by rw [hr]
     rw [e2, List.drop_length_add_append, this]
    ·cases this
 exact key _ _ _ (by rw [← h]; simp)
theorem JjT {n k w : Nat} {r : α → List PV} (hr : ∀ x, (r x).length = w) {v : Vector α n} (h : k < n) (y : α) : spl (J08 r v) (k * w) (r y) = some (J08 r (v.setIfInBounds k y)) := by
 have key : ∀ (l : List α) (k : Nat), k < l.length → spl ((l.map r).flatten) (k * w) (r y) = some (((l.set k y).map r).flatten) := by
  intro l
  induction l with
  | nil => intro k h; simp at h
  | cons z l ih =>
   intro k h
   cases k with
   | zero =>
    rw [Nat.zero_mul, List.map_cons, List.flatten_cons]
    rw [J9t (by rw [hr, hr])]
    simp
   | succ k =>
    simp at h
    have := ih k h
    rw [List.map_cons, List.flatten_cons]
    rw [J7S] at this ⊢
    split at this
    ·rename_i hle
     injection this with this
     have e : (k + 1) * w = (r z).length + k * w := by rw [Nat.succ_mul, hr]; omega
     rw [e, if_pos (by simp [hr] at hle ⊢; omega)]
     simp only [List.set_cons_succ, List.map_cons, List.flatten_cons]
     rw [← this]
     rw [show (r z).length + k * w + (r y).length = (r z).length + (k * w + (r y).length) by omega]
     simp only [List.take_length_add_append, List.drop_length_add_append, List.append_assoc]
    ·cases this
 have h2 := key v.toList k (by simpa using h)
 unfold J08
 rw [h2]
 congr 3
 simp [Vector.setIfInBounds, Vector.toList]
theorem J65 {n w : Nat} {r : α → List PV} (hr : ∀ x, (r x).length = w) (v : Vector α n) : (J08 r v).length = n * w := by
 have key : ∀ l : List α, ((l.map r).flatten).length = l.length * w := by
  intro l
  induction l with
  | nil => simp
  | cons x l ih => simp [ih, hr, Nat.succ_mul, Nat.add_comm]
 unfold J08
 rw [key]; simp
end
theorem Jo2 : ∀ l : List PV, unp (l.map AV.p) = some l
 | [] => rfl
 | x :: l => by simp [unp, Jo2 l]
theorem JhT (l : List PV) : J1R true (l.map AV.p) = some (.data l) := by simp [J1R, Jo2]
theorem Jb : ∀ l : List PV, (l.map AV.p).all J4l = true
 | [] => rfl
 | x :: l => by simp
theorem JlY (m : Nat) (ids : List Nat) (sto : List Blk) : ∀ l : List PV, fin.finL m ids sto (l.map AV.p) = some (l.map AV.p)
 | [] => rfl
 | x :: l => by simp [fin.finL, fin, JlY m ids sto l]
theorem JrG (l : List PV) (acc : List Ent) : J09.entsOfL (l.map AV.p) acc = acc := J7l (Jb l)
theorem J2e {α : Type} {r : α → List PV} {l : List α} {n : Int} {x : α} (h : idx l n = some x) : Jcp (l.map r) n = some (r x) := by
 unfold idx at h
 unfold Jcp
 split at h
 ·rename_i h0
  rw [if_pos h0, List.getElem?_map, h]; rfl
 ·cases h
theorem Jes {α : Type} {r : α → List PV} {l : List α} {n : Int} {x : α} (h : idx l n = some x) : (l.map r)[n.toNat]? = some (r x) := by
 unfold idx at h
 split at h
 ·rw [List.getElem?_map, h]; rfl
 ·cases h
theorem Jh5 {α : Type} {l : List α} {n : Int} {x : α} (h : idx l n = some x) : 0 ≤ n ∧ n.toNat < l.length := by
 unfold idx at h
 split at h
 ·rename_i h0
  refine ⟨h0, ?_⟩
  have := List.getElem?_eq_some_iff.1 h
  exact this.1
 ·cases h
theorem J9A {k : Nat} {n : Int} {u : Unit} (h : inb k n = some u) : 0 ≤ n ∧ n < k := by
 unfold inb at h
 split at h
 ·assumption
 ·cases h
theorem J5k {α : Type} {k : Nat} {v : Vector α k} {n : Int} {x : α} (h : J93 v n = some x) : (0 ≤ n ∧ n < k) ∧ v[n.toNat]? = some x := by
 unfold J93 at h
 split at h
 ·exact ⟨by assumption, h⟩
 ·cases h
theorem JgW {α : Type} {k : Nat} {v : Vector α k} {n : Int} {x : α} (h : J93 v n = some x) : n.toNat < k := by
 have := (J5k h).1; omega
theorem Jh2 {α : Type} {r : α → List PV} {esz bytes b : Nat} {w : Bool} {l l' l2 : List α} {y : AV} {s : St} (h : JdS bytes l l2 = some l') (hb : s.sto[b]? = some (.arr w esz (l.map r))) (hy : (J0a esz y).run s = some (l2.map r)) :
  (J5e esz bytes (.slr b 0 l.length) y).run s = some ⟨.slr b 0 l'.length, [(b, .arr w esz (l'.map r))]⟩ := by
 unfold JdS at h
 split at h
 ·rename_i hr
  injection h with h; subst h
  simp only [J5e, J71, hb, Option.bind_some, run_bind, hy]
  rw [if_pos ⟨by trivial, by trivial, by simp, by simpa using hr⟩]
  simp [J1u]
 ·cases h
theorem JeI : ∀ l : List Int, J6l (l.map (r_i .u8)) = some (toStr l)
 | [] => rfl
 | x :: l => by simp [J6l, r_i, JeI l, toStr]
theorem JiK (l : List UInt8) : l.map J4I = (Jab l).map (r_i .u8) := by simp [Jab, J4I, r_i, Function.comp_def]
theorem JtZ {α : Type} {bytes : Nat} {l l' : List α} (h : Jrl bytes l = some l') : J5r l.length bytes = true ∧ l' = l := by
 unfold Jrl at h
 split at h
 ·injection h with h; exact ⟨by assumption, h.symm⟩
 ·cases h
theorem JaH {α : Type} {bytes : Nat} {n m : Int} {z : α} {l : List α} (h : mkS bytes n m z = some l) : (0 ≤ n ∧ n ≤ m ∧ bytes * m ≤ 281474976710656 ∧ m ≤ 281474976710656) ∧ l = List.replicate n.toNat z := by
 unfold mkS at h
 split at h
 ·injection h with h; exact ⟨by assumption, h.symm⟩
 ·cases h
theorem Jqd {x : Option Int} {k : IntKind} {top d : Nat} : J7P (x.map fun n => AV.p (.i k n)) top d = JdT x top d := by
 cases x <;> rfl
theorem Jq9 {k : IntKind} {n : Nat} {lo hi : Option Int} : Jgl n (lo.map fun n => AV.p (.i k n)) (hi.map fun n => AV.p (.i k n)) = JfX n lo hi := by
 unfold Jgl JfX
 rw [Jqd]
 cases JdT hi n n with
 | none => rfl
 | some h => simp only [Jqd]; cases JdT lo h 0 <;> rfl
theorem JrT {α : Type} {r : α → List PV} {esz : Nat} {k : IntKind} {l l' : List α} {lo hi : Option Int} (h : J2U l lo hi = some l') :
  J9o esz (.p (.sl esz (l.map r))) (lo.map fun n => AV.p (.i k n)) (hi.map fun n => AV.p (.i k n)) = some (.p (.sl esz (l'.map r))) := by
 unfold J2U at h
 simp only [J9o, if_true, List.length_map, Jq9]
 split at h
 ·rename_i c hc
  injection h with h; subst h
  rw [hc]; simp [List.map_drop, List.map_take]
 ·cases h
theorem J4b {k : IntKind} {l l' : List UInt8} {lo hi : Option Int} (h : J2U l lo hi = some l') :
  J2Z (.p (.s l)) (lo.map fun n => AV.p (.i k n)) (hi.map fun n => AV.p (.i k n)) = some (.p (.s l')) := by
 unfold J2U at h
 simp only [J2Z, Jq9]
 split at h
 ·rename_i c hc
  injection h with h; subst h
  rw [hc]
 ·cases h
def Jj (F : Orc) (f : FuncId) (a : List AV × List (Nat × Blk)) (k new : Nat) : RM Eff :=
 (J7X a.2 (J09.entsOfL a.1 []) (J09.entsOfL a.1 [])).bind fun es1 =>
 (J7X a.2 es1 es1).bind fun es =>
 if J45 (es.map Ent.id) then
  match ren.renL (fun e => J3Y e es 0) a.1 with
  | none => .fail
  | some args' => (J57 a.2 (fun e => J3Y e es 0) es).bind fun blks =>
   match F f args' blks with
   | none => .fail
   | some r => if r.2.length = es.length + k then
     match bk es new r.1, J4d es new new (r.2.drop es.length) with
     | some v, some fresh => (J38 a.2 es new es r.2).bind fun back => .ret ⟨v, a.2 ++ back ++ fresh⟩
     | _, _ => .fail
    else .fail
 else .fail
theorem Jcw (F : Orc) (f : FuncId) (args : List AV) (k new : Nat) : J8h F f args k new = (JE args).bind fun a => Jj F f a k new := rfl
def JjL : AV → Bool
 | .tup l => l.all J4l
 | v => J4l v
theorem JlO {es : List Ent} {new : Nat} {v : AV} (h : JjL v = true) : bk es new v = some v := by
 cases v with
 | tup l => simp only [JjL] at h; simp [bk, Jdr h]
 | _ => exact Jou h
theorem Js {F : Orc} {f : FuncId} {args : List AV} {v : AV} (hp : args.all J4l = true) (hF : F f args [] = some (v, [])) (hv : JjL v = true) (ws : List (Nat × Blk)) (new : Nat) (s : St) :
  (Jj F f (args, ws) 0 new).run s = some ⟨v, ws⟩ := by
 have e1 : J09.entsOfL args [] = [] := J7l hp
 simp only [Jj, run_bind, e1, J7X, J1u, Option.bind_some, List.map_nil, J45, if_true, J9s hp, J57, hF, List.length_nil, Nat.zero_add, List.drop_nil, J4d, J38, JlO hv, List.append_nil]
theorem Jqy {F : Orc} {f : FuncId} {args cs : List AV} (hp : args.all J4l = true) (hF : F f args [] = some (.ptr 0 0, [.box cs])) (hc : cs.all J4l = true) (ws : List (Nat × Blk)) (new : Nat) (s : St) :
  (Jj F f (args, ws) 1 new).run s = some ⟨.ptr new 0, ws ++ [(new, .box cs)]⟩ := by
 have e1 : J09.entsOfL args [] = [] := J7l hp
 simp [Jj, run_bind, e1, J7X, J1u, J45, J9s hp, J57, hF, J4d, J38, bk, Jdr hc]
theorem JqP {F : Orc} {f : FuncId} {args : List AV} {n esz : Nat} {w : Bool} {rows : List (List PV)} (hp : args.all J4l = true) (hF : F f args [] = some (.slr 0 0 n, [.arr w esz rows])) (ws : List (Nat × Blk)) (new : Nat) (s : St) :
  (Jj F f (args, ws) 1 new).run s = some ⟨.slr new 0 n, ws ++ [(new, .arr w esz rows)]⟩ := by
 have e1 : J09.entsOfL args [] = [] := J7l hp
 simp [Jj, run_bind, e1, J7X, J1u, J45, J9s hp, J57, hF, J4d, J38, bk]
def JK (ws : List (Nat × Blk)) (s : St) : List Nat → List (List AV) → Prop
 | [], [] => True
 | b :: bs, cs :: css => (J7x ws b).run s = some (.box cs) ∧ JK ws s bs css
 | _, _ => False
def Jk (css : List (List AV)) : Bool := css.all fun cs => cs.all J4l
theorem JgH {ws : List (Nat × Blk)} {s : St} : ∀ {bs : List Nat} {css : List (List AV)} {acc : List Ent}, JK ws s bs css → Jk css = true → (J7X ws (bs.map .whole) acc).run s = some acc
 | [], [], _, _, _ => rfl
 | b :: bs, cs :: css, acc, h, hp => by
  simp only [Jk, List.all_cons, Bool.and_eq_true] at hp
  simp only [List.map_cons, J7X, run_bind, h.1, Option.bind_some, J7l hp.1]
  exact JgH h.2 hp.2
theorem JeR {ws : List (Nat × Blk)} {s : St} {ρ : Ent → Option Nat} : ∀ {bs : List Nat} {css : List (List AV)}, JK ws s bs css → Jk css = true → (J57 ws ρ (bs.map .whole)).run s = some (css.map .box)
 | [], [], _, _ => rfl
 | b :: bs, cs :: css, h, hp => by
  simp only [Jk, List.all_cons, Bool.and_eq_true] at hp
  simp only [List.map_cons, J57, run_bind, Jds, h.1, Option.bind_some, J9s hp.1, J1u, JeR h.2 hp.2]
theorem Jly {ws : List (Nat × Blk)} {s : St} {es : List Ent} {new : Nat} : ∀ {bs : List Nat} {css : List (List AV)}, bs.length = css.length → Jk css = true → (J38 ws es new (bs.map .whole) (css.map .box)).run s = some (bs.zip (css.map .box))
 | [], [], _, _ => rfl
 | b :: bs, cs :: css, h, hp => by
  simp only [Jk, List.all_cons, Bool.and_eq_true] at hp
  simp only [List.map_cons, J38, run_bind, J9V, Jdr hp.1, J1u, Option.bind_some, Jly (bs := bs) (css := css) (by simpa using h) hp.2, List.zip_cons_cons]
 | [], _ :: _, h, _ => by simp at h
 | _ :: _, [], h, _ => by simp at h
theorem Jy {F : Orc} {f : FuncId} {args args' : List AV} {bs : List Nat} {css css' : List (List AV)} {v : AV} (he : J09.entsOfL args [] = bs.map .whole) (hn : J45 bs = true)
  (hr : ren.renL (fun e => J3Y e (bs.map .whole) 0) args = some args') (hp : Jk css = true) (hF : F f args' (css.map .box) = some (v, css'.map .box)) (hl : bs.length = css'.length) (hv : JjL v = true) (hp' : Jk css' = true)
  (ws : List (Nat × Blk)) (new : Nat) (s : St) (hb : JK ws s bs css) : (Jj F f (args, ws) 0 new).run s = some ⟨v, ws ++ bs.zip (css'.map .box)⟩ := by
 have e0 : (bs.map Ent.whole).map Ent.id = bs := by rw [List.map_map]; exact List.map_id bs
 have e1 : (css'.map Blk.box).length = (bs.map Ent.whole).length + 0 := by simp [hl]
 have e2 : (css'.map Blk.box).drop (bs.map Ent.whole).length = [] := by simp [hl]
 simp only [Jj, run_bind, he, JgH hb hp, Option.bind_some, e0, hn, if_true, hr, JeR hb hp, hF, e1, e2, JlO hv, J4d, Jly hl hp', J1u, List.append_nil]
end Go.Am
end
