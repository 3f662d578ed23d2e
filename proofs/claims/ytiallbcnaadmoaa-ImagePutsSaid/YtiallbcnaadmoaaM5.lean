/-
  Parts of a proof.
-/
import Derived.Test.YtiallbcnaadmoaaM4
set_option linter.unusedSimpArgs false
set_option linter.unusedVariables false
section
namespace Go.Am
section
variable {α : Type}
def idx (l : List α) (n : Int) : Option α := if 0 ≤ n then l[n.toNat]? else none
def inb (k : Nat) (n : Int) : Option Unit := if 0 ≤ n ∧ n < k then some () else none
def JcB (bytes : Nat) (l l' : List α) : Option (List α) := if J5P (l.length + l'.length) bytes = true then some (l ++ l') else none
def mkS (bytes : Nat) (n m : Int) (z : α) : Option (List α) :=
 if 0 ≤ n ∧ n ≤ m ∧ bytes * m ≤ 281474976710656 ∧ m ≤ 281474976710656 then some (List.replicate n.toNat z) else none
def Jcx (x : Option Int) (top dflt : Nat) : Option Nat := match x with
 | none => some dflt
 | some n => if 0 ≤ n ∧ n ≤ top then some n.toNat else none
def Jf2 (n : Nat) (lo hi : Option Int) : Option (Nat × Nat) := match Jcx hi n n with
 | none => none
 | some h => match Jcx lo h 0 with
  | none => none
  | some l => some (l, h)
def J2H (l : List α) (lo hi : Option Int) : Option (List α) := match Jf2 l.length lo hi with
 | some c => some ((l.drop c.1).take (c.2 - c.1))
 | none => none
def JuD (k : IntKind) (x y : Int) : Option Int := if y = 0 then none else some (k.wrap (x.tdiv y))
def Jm0 (x y : Int) : Option Int := if y = 0 then none else some (x.tmod y)
def JcF (k : IntKind) (x y : Int) : Option Int := if y < 0 then none else some (k.wrap (x * 2 ^ (min y.toNat k.bits)))
def J7V (k : IntKind) (x y : Int) : Option Int := if y < 0 then none else some (x.fdiv (2 ^ (min y.toNat k.bits)))
def J4G (k : IntKind) (x y : Int) : Int := k.wrap (BitVec.ofInt k.bits x &&& BitVec.ofInt k.bits y).toNat
def orI (k : IntKind) (x y : Int) : Int := k.wrap (BitVec.ofInt k.bits x ||| BitVec.ofInt k.bits y).toNat
def J5S (k : IntKind) (x y : Int) : Int := k.wrap (BitVec.ofInt k.bits x ^^^ BitVec.ofInt k.bits y).toNat
def Jjy (k : IntKind) (n : Int) : Int := k.wrap (BitVec.ofInt k.bits (if k.signed then -1 else k.max) ^^^ BitVec.ofInt k.bits n).toNat
def J46 (a b : List UInt8) : Option (List UInt8) := if a.length + b.length ≤ 4611686018427387904 then some (a ++ b) else none
def Jcu (l : List UInt8) (n : Int) : Option Int := if 0 ≤ n then (match l[n.toNat]? with | some u => some (u.toNat : Int) | none => none) else none
def J80 {k : Nat} (v : Vector α k) (n : Int) : Option α := if 0 ≤ n ∧ n < k then v[n.toNat]? else none
def J7Z {k : Nat} (v : Vector α k) (n : Int) (x : α) : Vector α k := v.setIfInBounds n.toNat x
def toStr (l : List Int) : List UInt8 := l.map fun n => UInt8.ofNat n.toNat
def J96 (l : List UInt8) : List Int := l.map fun u => (u.toNat : Int)
def Jh9 (x y : Int) : Int := if y < x then y else x
def JvT (x y : Int) : Int := if y > x then y else x
end
@[reducible] def cat (a b : List PV) : List PV := a ++ b
def r_i (k : IntKind) (n : Int) : List PV := [.i k n]
def r_b (x : Bool) : List PV := [.b x]
def r_s (l : List UInt8) : List PV := [.s l]
def Jje {α : Type} (esz : Nat) (r : α → List PV) (l : List α) : List PV := [.sl esz (l.map r)]
theorem Jan (k : IntKind) (n : Int) : (r_i k n).length = 1 := rfl
def J06 {α : Type} {n : Nat} (r : α → List PV) (v : Vector α n) : List PV := (v.toList.map r).flatten
section
variable {α : Type}
theorem J5U (cs : List α) (off size : Nat) : sub cs off size = if off + size ≤ cs.length then some ((cs.drop off).take size) else none := by
 unfold sub
 split
 ·rename_i h
  obtain ⟨rfl, rfl⟩ := h
  simp
 ·rfl
theorem J7d (cs : List α) (off : Nat) (vs : List α) : spl cs off vs = if off + vs.length ≤ cs.length then some (cs.take off ++ vs ++ cs.drop (off + vs.length)) else none := by
 unfold spl
 split
 ·rename_i h
  obtain ⟨rfl, h⟩ := h
  rw [if_pos (by omega)]
  simp [← h]
 ·rfl
theorem Jav {cs : List α} {n : Nat} (h : cs.length = n) : sub cs 0 n = some cs := by
 subst h; rw [J5U]; simp
theorem Jas {cs vs : List α} (h : cs.length = vs.length) : spl cs 0 vs = some vs := by
 rw [J7d]; simp [h]
theorem JaK {a b c : List α} {off size : Nat} (h1 : a.length = off) (h2 : b.length = size) : sub (a ++ (b ++ c)) off size = some b := by
 subst h1 h2
 rw [J5U, if_pos (by simp)]
 simp
theorem J8y {b c : List α} {size : Nat} (h2 : b.length = size) : sub (b ++ c) 0 size = some b := JaK (a := []) rfl h2
theorem J9U {a b : List α} {off size : Nat} (h1 : a.length = off) (h2 : b.length = size) : sub (a ++ b) off size = some b := by
 have := JaK (c := []) h1 h2; simpa using this
theorem JaG {a b c v : List α} {off : Nat} (h1 : a.length = off) (h2 : b.length = v.length) : spl (a ++ (b ++ c)) off v = some (a ++ (v ++ c)) := by
 subst h1
 rw [J7d, if_pos (by simp; omega), ← h2]
 simp
theorem J8I {b c v : List α} (h2 : b.length = v.length) : spl (b ++ c) 0 v = some (v ++ c) := JaG (a := []) rfl h2
theorem J9S {a b v : List α} {off : Nat} (h1 : a.length = off) (h2 : b.length = v.length) : spl (a ++ b) off v = some (a ++ v) := by
 have := JaG (c := []) h1 h2; simpa using this
theorem J77 {cs ds r : List α} {a m k n : Nat} (h1 : sub cs a m = some ds) (h2 : sub ds k n = some r) : sub cs (a + k) n = some r := by
 rw [J5U] at h1 h2 ⊢
 split at h1
 ·injection h1 with h1; subst h1
  split at h2
  ·rename_i h3 h4
   injection h2 with h2; subst h2
   simp at h4
   rw [if_pos (by omega), List.drop_take, List.take_take, List.drop_drop]
   congr 2
   omega
  ·cases h2
 ·cases h1
theorem JiT {cs ds ds' v cs' : List α} {a m k : Nat} (h1 : sub cs a m = some ds) (h2 : spl ds k v = some ds') (h3 : spl cs a ds' = some cs') : spl cs (a + k) v = some cs' := by
 rw [J5U] at h1
 rw [J7d] at h2 h3 ⊢
 split at h1
 ·rename_i h4
  injection h1 with h1; subst h1
  split at h2
  ·rename_i h5
   injection h2 with h2; subst h2
   simp at h5
   split at h3
   ·injection h3 with h3; subst h3
    rw [if_pos (by omega)]
    congr 1
    simp only [List.length_append, List.length_take, List.length_drop, List.take_take, List.drop_take, List.drop_drop, List.append_assoc]
    have e1 : cs.take (a + k) = cs.take a ++ (cs.drop a).take k := List.take_add ..
    rw [e1, List.append_assoc]
    rw [show min k m = k by omega]
    congr 3
    have e2 : cs.drop (a + k + v.length) = (cs.drop (a + (k + v.length))).take (m - (k + v.length)) ++ cs.drop (a + m) := by
     have := List.take_append_drop (m - (k + v.length)) (cs.drop (a + (k + v.length)))
     rw [List.drop_drop] at this
     rw [show a + (k + v.length) + (m - (k + v.length)) = a + m by omega] at this
     rw [this]; congr 1; omega
    rw [e2]
    congr 2
    omega
   ·cases h3
  ·cases h2
 ·cases h1
theorem JrH {β : Type} (g : α → β) (cs : List α) (off size : Nat) : sub (cs.map g) off size = (sub cs off size).map (List.map g) := by
 rw [J5U, J5U]
 simp only [List.length_map]
 split <;> simp [List.map_drop, List.map_take]
theorem Jm9 {β : Type} (g : α → β) (cs : List α) (off : Nat) (vs : List α) : spl (cs.map g) off (vs.map g) = (spl cs off vs).map (List.map g) := by
 rw [J7d, J7d]
 simp only [List.length_map]
 split <;> simp [List.map_drop, List.map_take]
theorem J8T {n k w : Nat} {r : α → List PV} (hr : ∀ x, (r x).length = w) {v : Vector α n} {x : α} (h : v[k]? = some x) : sub (J06 r v) (k * w) w = some (r x) := by
 have key : ∀ (l : List α) (k : Nat) (x : α), l[k]? = some x → sub ((l.map r).flatten) (k * w) w = some (r x) := by
  intro l
  induction l with
  | nil => intro k x h; simp at h
  | cons y l ih =>
   intro k x h
   cases k with
   | zero =>
    simp at h; subst h
    rw [Nat.zero_mul, List.map_cons, List.flatten_cons]
    exact J8y (hr _)
   | succ k =>
    simp at h
    have := ih k x h
    rw [List.map_cons, List.flatten_cons]
    rw [J5U] at this ⊢
    split at this
    ·injection this with this
     have e : (k + 1) * w = w + k * w := by rw [Nat.succ_mul]; omega
     rw [e, if_pos (by simp [hr]; simp at *; omega)]
     have e2 : w + k * w = (r y).length + k * w := by rw [hr]
     rw [e2, List.drop_length_add_append, this]
    ·cases this
 exact key _ _ _ (by rw [← h]; simp)
theorem Jic {n k w : Nat} {r : α → List PV} (hr : ∀ x, (r x).length = w) {v : Vector α n} (h : k < n) (y : α) : spl (J06 r v) (k * w) (r y) = some (J06 r (v.setIfInBounds k y)) := by
 have key : ∀ (l : List α) (k : Nat), k < l.length → spl ((l.map r).flatten) (k * w) (r y) = some (((l.set k y).map r).flatten) := by
  intro l
  induction l with
  | nil => intro k h; simp at h
  | cons z l ih =>
   intro k h
   cases k with
   | zero =>
    rw [Nat.zero_mul, List.map_cons, List.flatten_cons]
    rw [J8I (by rw [hr, hr])]
    simp
   | succ k =>
    simp at h
    have := ih k h
    rw [List.map_cons, List.flatten_cons]
    rw [J7d] at this ⊢
    split at this
    ·rename_i hle
     injection this with this
     have e : (k + 1) * w = (r z).length + k * w := by rw [Nat.succ_mul, hr]; omega
     rw [e, if_pos (by simp [hr] at hle ⊢; omega)]
     simp only [List.set_cons_succ, List.map_cons, List.flatten_cons]
     rw [← this]
     rw [show (r z).length + k * w + (r y).length = (r z).length + (k * w + (r y).length) by omega]
     simp only [List.take_length_add_append, List.drop_length_add_append, List.append_assoc]
    ·cases this
 have h2 := key v.toList k (by simpa using h)
 unfold J06
 rw [h2]
 congr 3
 simp [Vector.setIfInBounds, Vector.toList]
theorem J5o {n w : Nat} {r : α → List PV} (hr : ∀ x, (r x).length = w) (v : Vector α n) : (J06 r v).length = n * w := by
 have key : ∀ l : List α, ((l.map r).flatten).length = l.length * w := by
  intro l
  induction l with
  | nil => simp
  | cons x l ih => simp [ih, hr, Nat.succ_mul, Nat.add_comm]
 unfold J06
 rw [key]; simp
end
theorem JlC : ∀ l : List PV, unp (l.map AV.p) = some l
 | [] => rfl
 | x :: l => by simp [unp, JlC l]
theorem JgB (l : List PV) : J1K true (l.map AV.p) = some (.data l) := by simp [J1K, JlC]
theorem Jf : ∀ l : List PV, (l.map AV.p).all J3X = true
 | [] => rfl
 | x :: l => by simp
theorem JjE (m : Nat) (ids : List Nat) (sto : List Blk) : ∀ l : List PV, fin.finL m ids sto (l.map AV.p) = some (l.map AV.p)
 | [] => rfl
 | x :: l => by simp [fin.finL, fin, JjE m ids sto l]
theorem Jpm (l : List PV) (acc : List Ent) : J03.entsOfL (l.map AV.p) acc = acc := J6A (Jf l)
theorem J4t {α : Type} {r : α → List PV} {l : List α} {n : Int} {x : α} (h : idx l n = some x) : Jbl (l.map r) n = some (r x) := by
 unfold idx at h
 unfold Jbl
 split at h
 ·rename_i h0
  rw [if_pos h0, List.getElem?_map, h]; rfl
 ·cases h
theorem JgU {α : Type} {r : α → List PV} {l : List α} {n : Int} {x : α} (h : idx l n = some x) : (l.map r)[n.toNat]? = some (r x) := by
 unfold idx at h
 split at h
 ·rw [List.getElem?_map, h]; rfl
 ·cases h
theorem JiV {α : Type} {l : List α} {n : Int} {x : α} (h : idx l n = some x) : 0 ≤ n ∧ n.toNat < l.length := by
 unfold idx at h
 split at h
 ·rename_i h0
  refine ⟨h0, ?_⟩
  have := List.getElem?_eq_some_iff.1 h
  exact this.1
 ·cases h
theorem J8x {k : Nat} {n : Int} {u : Unit} (h : inb k n = some u) : 0 ≤ n ∧ n < k := by
 unfold inb at h
 split at h
 ·assumption
 ·cases h
theorem J4D {α : Type} {k : Nat} {v : Vector α k} {n : Int} {x : α} (h : J80 v n = some x) : (0 ≤ n ∧ n < k) ∧ v[n.toNat]? = some x := by
 unfold J80 at h
 split at h
 ·exact ⟨by assumption, h⟩
 ·cases h
theorem JfI {α : Type} {k : Nat} {v : Vector α k} {n : Int} {x : α} (h : J80 v n = some x) : n.toNat < k := by
 have := (J4D h).1; omega
theorem Jfv {α : Type} {r : α → List PV} {esz bytes b : Nat} {w : Bool} {l l' l2 : List α} {y : AV} {s : St} (h : JcB bytes l l2 = some l') (hb : s.sto[b]? = some (.arr w esz (l.map r))) (hy : (J02 esz y).run s = some (l2.map r)) :
  (J4L esz bytes (.slr b 0 l.length) y).run s = some ⟨.slr b 0 l'.length, [(b, .arr w esz (l'.map r))]⟩ := by
 unfold JcB at h
 split at h
 ·rename_i hr
  injection h with h; subst h
  simp only [J4L, J65, hb, Option.bind_some, run_bind, hy]
  rw [if_pos ⟨by trivial, by trivial, by simp, by simpa using hr⟩]
  simp [J1n]
 ·cases h
theorem JdG : ∀ l : List Int, J5C (l.map (r_i .u8)) = some (toStr l)
 | [] => rfl
 | x :: l => by simp [J5C, r_i, JdG l, toStr]
theorem Jhh (l : List UInt8) : l.map J4e = (J96 l).map (r_i .u8) := by simp [J96, J4e, r_i, Function.comp_def]
theorem J9E {α : Type} {bytes : Nat} {n m : Int} {z : α} {l : List α} (h : mkS bytes n m z = some l) : (0 ≤ n ∧ n ≤ m ∧ bytes * m ≤ 281474976710656 ∧ m ≤ 281474976710656) ∧ l = List.replicate n.toNat z := by
 unfold mkS at h
 split at h
 ·injection h with h; exact ⟨by assumption, h.symm⟩
 ·cases h
theorem Jo4 {x : Option Int} {k : IntKind} {top d : Nat} : J7b (x.map fun n => AV.p (.i k n)) top d = Jcx x top d := by
 cases x <;> rfl
theorem Joo {k : IntKind} {n : Nat} {lo hi : Option Int} : Jfa n (lo.map fun n => AV.p (.i k n)) (hi.map fun n => AV.p (.i k n)) = Jf2 n lo hi := by
 unfold Jfa Jf2
 rw [Jo4]
 cases Jcx hi n n with
 | none => rfl
 | some h => simp only [Jo4]; cases Jcx lo h 0 <;> rfl
theorem Jqk {α : Type} {r : α → List PV} {esz : Nat} {k : IntKind} {l l' : List α} {lo hi : Option Int} (h : J2H l lo hi = some l') :
  J89 esz (.p (.sl esz (l.map r))) (lo.map fun n => AV.p (.i k n)) (hi.map fun n => AV.p (.i k n)) = some (.p (.sl esz (l'.map r))) := by
 unfold J2H at h
 simp only [J89, if_true, List.length_map, Joo]
 split at h
 ·rename_i c hc
  injection h with h; subst h
  rw [hc]; simp [List.map_drop, List.map_take]
 ·cases h
theorem J6r {k : IntKind} {l l' : List UInt8} {lo hi : Option Int} (h : J2H l lo hi = some l') :
  J3Y (.p (.s l)) (lo.map fun n => AV.p (.i k n)) (hi.map fun n => AV.p (.i k n)) = some (.p (.s l')) := by
 unfold J2H at h
 simp only [J3Y, Joo]
 split at h
 ·rename_i c hc
  injection h with h; subst h
  rw [hc]
 ·cases h
def Jj (F : Orc) (f : FuncId) (a : List AV × List (Nat × Blk)) (k new : Nat) : RM Eff :=
 (J6S a.2 (J03.entsOfL a.1 []) (J03.entsOfL a.1 [])).bind fun es1 =>
 (J6S a.2 es1 es1).bind fun es =>
 if J3L (es.map Ent.id) then
  match ren.renL (fun e => J3m e es 0) a.1 with
  | none => .fail
  | some args' => (J4y a.2 (fun e => J3m e es 0) es).bind fun blks =>
   match F f args' blks with
   | none => .fail
   | some r => if r.2.length = es.length + k then
     match bk es new r.1, J3G es new new (r.2.drop es.length) with
     | some v, some fresh => (J2P a.2 es new es r.2).bind fun back => .ret ⟨v, a.2 ++ back ++ fresh⟩
     | _, _ => .fail
    else .fail
 else .fail
theorem Jbs (F : Orc) (f : FuncId) (args : List AV) (k new : Nat) : J7q F f args k new = (JB args).bind fun a => Jj F f a k new := rfl
def JhY : AV → Bool
 | .tup l => l.all J3X
 | v => J3X v
theorem JjP {es : List Ent} {new : Nat} {v : AV} (h : JhY v = true) : bk es new v = some v := by
 cases v with
 | tup l => simp only [JhY] at h; simp [bk, Jcf h]
 | _ => exact JlS h
theorem Jx {F : Orc} {f : FuncId} {args : List AV} {v : AV} (hp : args.all J3X = true) (hF : F f args [] = some (v, [])) (hv : JhY v = true) (ws : List (Nat × Blk)) (new : Nat) (s : St) :
  (Jj F f (args, ws) 0 new).run s = some ⟨v, ws⟩ := by
 have e1 : J03.entsOfL args [] = [] := J6A hp
 simp only [Jj, run_bind, e1, J6S, J1n, Option.bind_some, List.map_nil, J3L, if_true, J8a hp, J4y, hF, List.length_nil, Nat.zero_add, List.drop_nil, J3G, J2P, JjP hv, List.append_nil]
theorem JoZ {F : Orc} {f : FuncId} {args cs : List AV} (hp : args.all J3X = true) (hF : F f args [] = some (.ptr 0 0, [.box cs])) (hc : cs.all J3X = true) (ws : List (Nat × Blk)) (new : Nat) (s : St) :
  (Jj F f (args, ws) 1 new).run s = some ⟨.ptr new 0, ws ++ [(new, .box cs)]⟩ := by
 have e1 : J03.entsOfL args [] = [] := J6A hp
 simp [Jj, run_bind, e1, J6S, J1n, J3L, J8a hp, J4y, hF, J3G, J2P, bk, Jcf hc]
theorem Jp7 {F : Orc} {f : FuncId} {args : List AV} {n esz : Nat} {w : Bool} {rows : List (List PV)} (hp : args.all J3X = true) (hF : F f args [] = some (.slr 0 0 n, [.arr w esz rows])) (ws : List (Nat × Blk)) (new : Nat) (s : St) :
  (Jj F f (args, ws) 1 new).run s = some ⟨.slr new 0 n, ws ++ [(new, .arr w esz rows)]⟩ := by
 have e1 : J03.entsOfL args [] = [] := J6A hp
 simp [Jj, run_bind, e1, J6S, J1n, J3L, J8a hp, J4y, hF, J3G, J2P, bk]
def J07 (ws : List (Nat × Blk)) (s : St) : List Nat → List (List AV) → Prop
 | [], [] => True
 | b :: bs, cs :: css => (J6H ws b).run s = some (.box cs) ∧ J07 ws s bs css
 | _, _ => False
def Jm (css : List (List AV)) : Bool := css.all fun cs => cs.all J3X
theorem Jfl {ws : List (Nat × Blk)} {s : St} : ∀ {bs : List Nat} {css : List (List AV)} {acc : List Ent}, J07 ws s bs css → Jm css = true → (J6S ws (bs.map .whole) acc).run s = some acc
 | [], [], _, _, _ => rfl
 | b :: bs, cs :: css, acc, h, hp => by
  simp only [Jm, List.all_cons, Bool.and_eq_true] at hp
  simp only [List.map_cons, J6S, run_bind, h.1, Option.bind_some, J6A hp.1]
  exact Jfl h.2 hp.2
theorem Jds {ws : List (Nat × Blk)} {s : St} {ρ : Ent → Option Nat} : ∀ {bs : List Nat} {css : List (List AV)}, J07 ws s bs css → Jm css = true → (J4y ws ρ (bs.map .whole)).run s = some (css.map .box)
 | [], [], _, _ => rfl
 | b :: bs, cs :: css, h, hp => by
  simp only [Jm, List.all_cons, Bool.and_eq_true] at hp
  simp only [List.map_cons, J4y, run_bind, Jci, h.1, Option.bind_some, J8a hp.1, J1n, Jds h.2 hp.2]
theorem JjH {ws : List (Nat × Blk)} {s : St} {es : List Ent} {new : Nat} : ∀ {bs : List Nat} {css : List (List AV)}, bs.length = css.length → Jm css = true → (J2P ws es new (bs.map .whole) (css.map .box)).run s = some (bs.zip (css.map .box))
 | [], [], _, _ => rfl
 | b :: bs, cs :: css, h, hp => by
  simp only [Jm, List.all_cons, Bool.and_eq_true] at hp
  simp only [List.map_cons, J2P, run_bind, J8S, Jcf hp.1, J1n, Option.bind_some, JjH (bs := bs) (css := css) (by simpa using h) hp.2, List.zip_cons_cons]
 | [], _ :: _, h, _ => by simp at h
 | _ :: _, [], h, _ => by simp at h
theorem JT {F : Orc} {f : FuncId} {args args' : List AV} {bs : List Nat} {css css' : List (List AV)} {v : AV} (he : J03.entsOfL args [] = bs.map .whole) (hn : J3L bs = true)
  (hr : ren.renL (fun e => J3m e (bs.map .whole) 0) args = some args') (hp : Jm css = true) (hF : F f args' (css.map .box) = some (v, css'.map .box)) (hl : bs.length = css'.length) (hv : JhY v = true) (hp' : Jm css' = true)
  (ws : List (Nat × Blk)) (new : Nat) (s : St) (hb : J07 ws s bs css) : (Jj F f (args, ws) 0 new).run s = some ⟨v, ws ++ bs.zip (css'.map .box)⟩ := by
 have e0 : (bs.map Ent.whole).map Ent.id = bs := by rw [List.map_map]; exact List.map_id bs
 have e1 : (css'.map Blk.box).length = (bs.map Ent.whole).length + 0 := by simp [hl]
 have e2 : (css'.map Blk.box).drop (bs.map Ent.whole).length = [] := by simp [hl]
 simp only [Jj, run_bind, he, Jfl hb hp, Option.bind_some, e0, hn, if_true, hr, Jds hb hp, hF, e1, e2, JjP hv, J3G, JjH hl hp', J1n, List.append_nil]
end Go.Am
end
