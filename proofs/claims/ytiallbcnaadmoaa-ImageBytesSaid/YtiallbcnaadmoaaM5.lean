/-
  Parts of a proof.
-/
import Derived.Test.YtiallbcnaadmoaaM4
set_option linter.unusedSimpArgs false
set_option linter.unusedVariables false
section
namespace Go.Am
section
variable {α : Type}
def idx (l : List α) (n : Int) : Option α := if 0 ≤ n then l[n.toNat]? else none
def inb (k : Nat) (n : Int) : Option Unit := if 0 ≤ n ∧ n < k then some () else none
def Jbf (bytes : Nat) (l l' : List α) : Option (List α) := if J5n (l.length + l'.length) bytes = true then some (l ++ l') else none
def Jqu (bytes : Nat) (l : List α) : Option (List α) := if J5n l.length bytes = true then some l else none
def mkS (bytes : Nat) (n m : Int) (z : α) : Option (List α) :=
 if 0 ≤ n ∧ n ≤ m ∧ bytes * m ≤ 281474976710656 ∧ m ≤ 281474976710656 then some (List.replicate n.toNat z) else none
def JdH (x : Option Int) (top dflt : Nat) : Option Nat := match x with
 | none => some dflt
 | some n => if 0 ≤ n ∧ n ≤ top then some n.toNat else none
def JgX (n : Nat) (lo hi : Option Int) : Option (Nat × Nat) := match JdH hi n n with
 | none => none
 | some h => match JdH lo h 0 with
  | none => none
  | some l => some (l, h)
def J0Z (l : List α) (lo hi : Option Int) : Option (List α) := match JgX l.length lo hi with
 | some c => some ((l.drop c.1).take (c.2 - c.1))
 | none => none
def JqB (k : IntKind) (x y : Int) : Option Int := if y = 0 then none else some (k.wrap (x.tdiv y))
def Jl0 (x y : Int) : Option Int := if y = 0 then none else some (x.tmod y)
def JdR (k : IntKind) (x y : Int) : Option Int := if y < 0 then none else some (k.wrap (x * 2 ^ (min y.toNat k.bits)))
def J8O (k : IntKind) (x y : Int) : Option Int := if y < 0 then none else some (x.fdiv (2 ^ (min y.toNat k.bits)))
def J5e (k : IntKind) (x y : Int) : Int := k.wrap (BitVec.ofInt k.bits x &&& BitVec.ofInt k.bits y).toNat
def orI (k : IntKind) (x y : Int) : Int := k.wrap (BitVec.ofInt k.bits x ||| BitVec.ofInt k.bits y).toNat
def J5J (k : IntKind) (x y : Int) : Int := k.wrap (BitVec.ofInt k.bits x ^^^ BitVec.ofInt k.bits y).toNat
def Jr6 (k : IntKind) (n : Int) : Int := k.wrap (BitVec.ofInt k.bits (if k.signed then -1 else k.max) ^^^ BitVec.ofInt k.bits n).toNat
def J1Z (a b : List UInt8) : Option (List UInt8) := if a.length + b.length ≤ 4611686018427387904 then some (a ++ b) else none
def JcR (l : List UInt8) (n : Int) : Option Int := if 0 ≤ n then (match l[n.toNat]? with | some u => some (u.toNat : Int) | none => none) else none
def J8R {k : Nat} (v : Vector α k) (n : Int) : Option α := if 0 ≤ n ∧ n < k then v[n.toNat]? else none
def Ja7 {k : Nat} (v : Vector α k) (n : Int) (x : α) : Vector α k := v.setIfInBounds n.toNat x
def toStr (l : List Int) : List UInt8 := l.map fun n => UInt8.ofNat n.toNat
def J9S (l : List UInt8) : List Int := l.map fun u => (u.toNat : Int)
def Jji (x y : Int) : Int := if y < x then y else x
def JxW (x y : Int) : Int := if y > x then y else x
end
@[reducible] def cat (a b : List PV) : List PV := a ++ b
def r_i (k : IntKind) (n : Int) : List PV := [.i k n]
def r_b (x : Bool) : List PV := [.b x]
def r_s (l : List UInt8) : List PV := [.s l]
def JkU {α : Type} (esz : Nat) (r : α → List PV) (l : List α) : List PV := [.sl esz (l.map r)]
theorem Jbd (k : IntKind) (n : Int) : (r_i k n).length = 1 := rfl
def JV {α : Type} {n : Nat} (r : α → List PV) (v : Vector α n) : List PV := (v.toList.map r).flatten
section
variable {α : Type}
theorem J6E (cs : List α) (off size : Nat) : sub cs off size = if off + size ≤ cs.length then some ((cs.drop off).take size) else none := by
 unfold sub
 split
 ·rename_i h
  obtain ⟨rfl, rfl⟩ := h
  simp
 ·rfl
theorem J7D (cs : List α) (off : Nat) (vs : List α) : spl cs off vs = if off + vs.length ≤ cs.length then some (cs.take off ++ vs ++ cs.drop (off + vs.length)) else none := by
 unfold spl
 split
 ·rename_i h
  obtain ⟨rfl, h⟩ := h
  rw [if_pos (by omega)]
  simp [← h]
 ·rfl
theorem Jbh {cs : List α} {n : Nat} (h : cs.length = n) : sub cs 0 n = some cs := by
 subst h; rw [J6E]; simp
theorem Jbp {cs vs : List α} (h : cs.length = vs.length) : spl cs 0 vs = some vs := by
 rw [J7D]; simp [h]
theorem JbB {a b c : List α} {off size : Nat} (h1 : a.length = off) (h2 : b.length = size) : sub (a ++ (b ++ c)) off size = some b := by
 subst h1 h2
 rw [J6E, if_pos (by simp)]
 simp
theorem J9y {b c : List α} {size : Nat} (h2 : b.length = size) : sub (b ++ c) 0 size = some b := JbB (a := []) rfl h2
theorem Jau {a b : List α} {off size : Nat} (h1 : a.length = off) (h2 : b.length = size) : sub (a ++ b) off size = some b := by
 have := JbB (c := []) h1 h2; simpa using this
theorem JbA {a b c v : List α} {off : Nat} (h1 : a.length = off) (h2 : b.length = v.length) : spl (a ++ (b ++ c)) off v = some (a ++ (v ++ c)) := by
 subst h1
 rw [J7D, if_pos (by simp; omega), ← h2]
 simp
theorem J9p {b c v : List α} (h2 : b.length = v.length) : spl (b ++ c) 0 v = some (v ++ c) := JbA (a := []) rfl h2
theorem JaD {a b v : List α} {off : Nat} (h1 : a.length = off) (h2 : b.length = v.length) : spl (a ++ b) off v = some (a ++ v) := by
 have := JbA (c := []) h1 h2; simpa using this
theorem J7P {cs ds r : List α} {a m k n : Nat} (h1 : sub cs a m = some ds) (h2 : sub ds k n = some r) : sub cs (a + k) n = some r := by
 rw [J6E] at h1 h2 ⊢
 split at h1
 ·injection h1 with h1; subst h1
  split at h2
  ·rename_i h3 h4
   injection h2 with h2; subst h2
   simp at h4
   rw [if_pos (by omega), List.drop_take, List.take_take, List.drop_drop]
   congr 2
   omega
  ·cases h2
 ·cases h1
theorem JkF {cs ds ds' v cs' : List α} {a m k : Nat} (h1 : sub cs a m = some ds) (h2 : spl ds k v = some ds') (h3 : spl cs a ds' = some cs') : spl cs (a + k) v = some cs' := by
 rw [J6E] at h1
 rw [J7D] at h2 h3 ⊢
 split at h1
 ·rename_i h4
  injection h1 with h1; subst h1
  split at h2
  ·rename_i h5
   injection h2 with h2; subst h2
   simp at h5
   split at h3
   ·injection h3 with h3; subst h3
    rw [if_pos (by omega)]
    congr 1
    simp only [List.length_append, List.length_take, List.length_drop, List.take_take, List.drop_take, List.drop_drop, List.append_assoc]
    have e1 : cs.take (a + k) = cs.take a ++ (cs.drop a).take k := List.take_add ..
    rw [e1, List.append_assoc]
    rw [show min k m = k by omega]
    congr 3
    have e2 : cs.drop (a + k + v.length) = (cs.drop (a + (k + v.length))).take (m - (k + v.length)) ++ cs.drop (a + m) := by
     have := List.take_append_drop (m - (k + v.length)) (cs.drop (a + (k + v.length)))
     rw [List.drop_drop] at this
     rw [show a + (k + v.length) + (m - (k + v.length)) = a + m by omega] at this
     rw [this]; congr 1; omega
    rw [e2]
    congr 2
    omega
   ·cases h3
  ·cases h2
 ·cases h1
theorem JtA {β : Type} (g : α → β) (cs : List α) (off size : Nat) : sub (cs.map g) off size = (sub cs off size).map (List.map g) := by
 rw [J6E, J6E]
 simp only [List.length_map]
 split <;> simp [List.map_drop, List.map_take]
theorem JnX {β : Type} (g : α → β) (cs : List α) (off : Nat) (vs : List α) : spl (cs.map g) off (vs.map g) = (spl cs off vs).map (List.map g) := by
 rw [J7D, J7D]
 simp only [List.length_map]
 split <;> simp [List.map_drop, List.map_take]
theorem J9K {n k w : Nat} {r : α → List PV} (hr : ∀ x, (r x).length = w) {v : Vector α n} {x : α} (h : v[k]? = some x) : sub (JV r v) (k * w) w = some (r x) := by
 have key : ∀ (l : List α) (k : Nat) (x : α), l[k]? = some x → sub ((l.map r).flatten) (k * w) w = some (r x) := by
  intro l
  induction l with
  | nil => intro k x h; simp at h
  | cons y l ih =>
   intro k x h
   cases k with
   | zero =>
    simp at h; subst h
    rw [Nat.zero_mul, List.map_cons, List.flatten_cons]
    exact J9y (hr _)
   | succ k =>
    simp at h
    have := ih k x h
    rw [List.map_cons, List.flatten_cons]
    rw [J6E] at this ⊢
    split at this
    ·injection this with this
     have e : (k + 1) * w = w + k * w := by rw [Nat.succ_mul]; omega
     rw [e, if_pos (by simp [hr]; simp at *; omega)]
     have e2 : w + k * w = (r y).length + k * w := by rw [hr]
     rw [e2, List.drop_length_add_append, this]
    ·cases this
 exact key _ _ _ (by rw [← h]; simp)
theorem Jkv {n k w : Nat} {r : α → List PV} (hr : ∀ x, (r x).length = w) {v : Vector α n} (h : k < n) (y : α) : spl (JV r v) (k * w) (r y) = some (JV r (v.setIfInBounds k y)) := by
 have key : ∀ (l : List α) (k : Nat), k < l.length → spl ((l.map r).flatten) (k * w) (r y) = some (((l.set k y).map r).flatten) := by
  intro l
  induction l with
  | nil => intro k h; simp at h
  | cons z l ih =>
   intro k h
   cases k with
   | zero =>
    rw [Nat.zero_mul, List.map_cons, List.flatten_cons]
    rw [J9p (by rw [hr, hr])]
    simp
   | succ k =>
    simp at h
    have := ih k h
    rw [List.map_cons, List.flatten_cons]
    rw [J7D] at this ⊢
    split at this
    ·rename_i hle
     injection this with this
     have e : (k + 1) * w = (r z).length + k * w := by rw [Nat.succ_mul, hr]; omega
     rw [e, if_pos (by simp [hr] at hle ⊢; omega)]
     simp only [List.set_cons_succ, List.map_cons, List.flatten_cons]
     rw [← this]
     rw [show (r z).length + k * w + (r y).length = (r z).length + (k * w + (r y).length) by omega]
     simp only [List.take_length_add_append, List.drop_length_add_append, List.append_assoc]
    ·cases this
 have h2 := key v.toList k (by simpa using h)
 unfold JV
 rw [h2]
 congr 3
 simp [Vector.setIfInBounds, Vector.toList]
theorem J5U {n w : Nat} {r : α → List PV} (hr : ∀ x, (r x).length = w) (v : Vector α n) : (JV r v).length = n * w := by
 have key : ∀ l : List α, ((l.map r).flatten).length = l.length * w := by
  intro l
  induction l with
  | nil => simp
  | cons x l ih => simp [ih, hr, Nat.succ_mul, Nat.add_comm]
 unfold JV
 rw [key]; simp
end
theorem Jno : ∀ l : List PV, unp (l.map AV.p) = some l
 | [] => rfl
 | x :: l => by simp [unp, Jno l]
theorem JhV (l : List PV) : J1J true (l.map AV.p) = some (.data l) := by simp [J1J, Jno]
theorem J9 : ∀ l : List PV, (l.map AV.p).all J4V = true
 | [] => rfl
 | x :: l => by simp
theorem JlY (m : Nat) (ids : List Nat) (sto : List Blk) : ∀ l : List PV, fin.finL m ids sto (l.map AV.p) = some (l.map AV.p)
 | [] => rfl
 | x :: l => by simp [fin.finL, fin, JlY m ids sto l]
theorem JrY (l : List PV) (acc : List Ent) : JY.entsOfL (l.map AV.p) acc = acc := J83 (J9 l)
theorem J43 {α : Type} {r : α → List PV} {l : List α} {n : Int} {x : α} (h : idx l n = some x) : Jcc (l.map r) n = some (r x) := by
 unfold idx at h
 unfold Jcc
 split at h
 ·rename_i h0
  rw [if_pos h0, List.getElem?_map, h]; rfl
 ·cases h
theorem Jj5 {α : Type} {r : α → List PV} {l : List α} {n : Int} {x : α} (h : idx l n = some x) : (l.map r)[n.toNat]? = some (r x) := by
 unfold idx at h
 split at h
 ·rw [List.getElem?_map, h]; rfl
 ·cases h
theorem Jlp {α : Type} {l : List α} {n : Int} {x : α} (h : idx l n = some x) : 0 ≤ n ∧ n.toNat < l.length := by
 unfold idx at h
 split at h
 ·rename_i h0
  refine ⟨h0, ?_⟩
  have := List.getElem?_eq_some_iff.1 h
  exact this.1
 ·cases h
theorem J9m {k : Nat} {n : Int} {u : Unit} (h : inb k n = some u) : 0 ≤ n ∧ n < k := by
 unfold inb at h
 split at h
 ·assumption
 ·cases h
theorem J5i {α : Type} {k : Nat} {v : Vector α k} {n : Int} {x : α} (h : J8R v n = some x) : (0 ≤ n ∧ n < k) ∧ v[n.toNat]? = some x := by
 unfold J8R at h
 split at h
 ·exact ⟨by assumption, h⟩
 ·cases h
theorem Jh5 {α : Type} {k : Nat} {v : Vector α k} {n : Int} {x : α} (h : J8R v n = some x) : n.toNat < k := by
 have := (J5i h).1; omega
theorem Jct {α : Type} {r : α → List PV} {esz bytes b : Nat} {w : Bool} {l l' l2 : List α} {y : AV} {s : St} (h : Jbf bytes l l2 = some l') (hb : s.sto[b]? = some (.arr w esz (l.map r))) (hy : (JT esz y).run s = some (l2.map r)) :
  (J4t esz bytes (.slr b 0 l.length) y).run s = some ⟨.slr b 0 l'.length, [(b, .arr w esz (l'.map r))]⟩ := by
 unfold Jbf at h
 split at h
 ·rename_i hr
  injection h with h; subst h
  simp only [J4t, J6Z, hb, Option.bind_some, run_bind, hy]
  rw [if_pos ⟨by trivial, by trivial, by simp, by simpa using hr⟩]
  simp [J29]
 ·cases h
theorem Jf2 : ∀ l : List Int, J6m (l.map (r_i .u8)) = some (toStr l)
 | [] => rfl
 | x :: l => by simp [J6m, r_i, Jf2 l, toStr]
theorem Jj9 (l : List UInt8) : l.map J4B = (J9S l).map (r_i .u8) := by simp [J9S, J4B, r_i, Function.comp_def]
theorem JsU {α : Type} {bytes : Nat} {l l' : List α} (h : Jqu bytes l = some l') : J5n l.length bytes = true ∧ l' = l := by
 unfold Jqu at h
 split at h
 ·injection h with h; exact ⟨by assumption, h.symm⟩
 ·cases h
theorem Jao {α : Type} {bytes : Nat} {n m : Int} {z : α} {l : List α} (h : mkS bytes n m z = some l) : (0 ≤ n ∧ n ≤ m ∧ bytes * m ≤ 281474976710656 ∧ m ≤ 281474976710656) ∧ l = List.replicate n.toNat z := by
 unfold mkS at h
 split at h
 ·injection h with h; exact ⟨by assumption, h.symm⟩
 ·cases h
theorem Jqg {x : Option Int} {k : IntKind} {top d : Nat} : J7E (x.map fun n => AV.p (.i k n)) top d = JdH x top d := by
 cases x <;> rfl
theorem Jqj {k : IntKind} {n : Nat} {lo hi : Option Int} : JgA n (lo.map fun n => AV.p (.i k n)) (hi.map fun n => AV.p (.i k n)) = JgX n lo hi := by
 unfold JgA JgX
 rw [Jqg]
 cases JdH hi n n with
 | none => rfl
 | some h => simp only [Jqg]; cases JdH lo h 0 <;> rfl
theorem Jsr {α : Type} {r : α → List PV} {esz : Nat} {k : IntKind} {l l' : List α} {lo hi : Option Int} (h : J0Z l lo hi = some l') :
  J8Z esz (.p (.sl esz (l.map r))) (lo.map fun n => AV.p (.i k n)) (hi.map fun n => AV.p (.i k n)) = some (.p (.sl esz (l'.map r))) := by
 unfold J0Z at h
 simp only [J8Z, if_true, List.length_map, Jqj]
 split at h
 ·rename_i c hc
  injection h with h; subst h
  rw [hc]; simp [List.map_drop, List.map_take]
 ·cases h
theorem J0X {k : IntKind} {l l' : List UInt8} {lo hi : Option Int} (h : J0Z l lo hi = some l') :
  J13 (.p (.s l)) (lo.map fun n => AV.p (.i k n)) (hi.map fun n => AV.p (.i k n)) = some (.p (.s l')) := by
 unfold J0Z at h
 simp only [J13, Jqj]
 split at h
 ·rename_i c hc
  injection h with h; subst h
  rw [hc]
 ·cases h
def Jm (F : Orc) (f : FuncId) (a : List AV × List (Nat × Blk)) (k new : Nat) : RM Eff :=
 (J9e a.2 (JY.entsOfL a.1 []) (JY.entsOfL a.1 [])).bind fun es1 =>
 (J9e a.2 es1 es1).bind fun es =>
 if J5s (es.map Ent.id) then
  match ren.renL (fun e => J4U e es 0) a.1 with
  | none => .fail
  | some args' => (J6y a.2 (fun e => J4U e es 0) es).bind fun blks =>
   match F f args' blks with
   | none => .fail
   | some r => if r.2.length = es.length + k then
     match bk es new r.1, J5h es new new (r.2.drop es.length) with
     | some v, some fresh => (J42 a.2 es new es r.2).bind fun back => .ret ⟨v, a.2 ++ back ++ fresh⟩
     | _, _ => .fail
    else .fail
 else .fail
theorem Jcs (F : Orc) (f : FuncId) (args : List AV) (k new : Nat) : J80 F f args k new = (JC args).bind fun a => Jm F f a k new := rfl
def Jkw : AV → Bool
 | .tup l => l.all J4V
 | v => J4V v
theorem Jmc {es : List Ent} {new : Nat} {v : AV} (h : Jkw v = true) : bk es new v = some v := by
 cases v with
 | tup l => simp only [Jkw] at h; simp [bk, JdA h]
 | _ => exact Joh h
theorem Jt {F : Orc} {f : FuncId} {args : List AV} {v : AV} (hp : args.all J4V = true) (hF : F f args [] = some (v, [])) (hv : Jkw v = true) (ws : List (Nat × Blk)) (new : Nat) (s : St) :
  (Jm F f (args, ws) 0 new).run s = some ⟨v, ws⟩ := by
 have e1 : JY.entsOfL args [] = [] := J83 hp
 simp only [Jm, run_bind, e1, J9e, J29, Option.bind_some, List.map_nil, J5s, if_true, Jap hp, J6y, hF, List.length_nil, Nat.zero_add, List.drop_nil, J5h, J42, Jmc hv, List.append_nil]
theorem JqA {F : Orc} {f : FuncId} {args cs : List AV} (hp : args.all J4V = true) (hF : F f args [] = some (.ptr 0 0, [.box cs])) (hc : cs.all J4V = true) (ws : List (Nat × Blk)) (new : Nat) (s : St) :
  (Jm F f (args, ws) 1 new).run s = some ⟨.ptr new 0, ws ++ [(new, .box cs)]⟩ := by
 have e1 : JY.entsOfL args [] = [] := J83 hp
 simp [Jm, run_bind, e1, J9e, J29, J5s, Jap hp, J6y, hF, J5h, J42, bk, JdA hc]
def JG (ws : List (Nat × Blk)) (s : St) : List Nat → List (List AV) → Prop
 | [], [] => True
 | b :: bs, cs :: css => (J9d ws b).run s = some (.box cs) ∧ JG ws s bs css
 | _, _ => False
def Jl (css : List (List AV)) : Bool := css.all fun cs => cs.all J4V
theorem JgG {ws : List (Nat × Blk)} {s : St} : ∀ {bs : List Nat} {css : List (List AV)} {acc : List Ent}, JG ws s bs css → Jl css = true → (J9e ws (bs.map .whole) acc).run s = some acc
 | [], [], _, _, _ => rfl
 | b :: bs, cs :: css, acc, h, hp => by
  simp only [Jl, List.all_cons, Bool.and_eq_true] at hp
  simp only [List.map_cons, J9e, run_bind, h.1, Option.bind_some, J83 hp.1]
  exact JgG h.2 hp.2
theorem Jfa {ws : List (Nat × Blk)} {s : St} {ρ : Ent → Option Nat} : ∀ {bs : List Nat} {css : List (List AV)}, JG ws s bs css → Jl css = true → (J6y ws ρ (bs.map .whole)).run s = some (css.map .box)
 | [], [], _, _ => rfl
 | b :: bs, cs :: css, h, hp => by
  simp only [Jl, List.all_cons, Bool.and_eq_true] at hp
  simp only [List.map_cons, J6y, run_bind, JeI, h.1, Option.bind_some, Jap hp.1, J29, Jfa h.2 hp.2]
theorem JlT {ws : List (Nat × Blk)} {s : St} {es : List Ent} {new : Nat} : ∀ {bs : List Nat} {css : List (List AV)}, bs.length = css.length → Jl css = true → (J42 ws es new (bs.map .whole) (css.map .box)).run s = some (bs.zip (css.map .box))
 | [], [], _, _ => rfl
 | b :: bs, cs :: css, h, hp => by
  simp only [Jl, List.all_cons, Bool.and_eq_true] at hp
  simp only [List.map_cons, J42, run_bind, JaU, JdA hp.1, J29, Option.bind_some, JlT (bs := bs) (css := css) (by simpa using h) hp.2, List.zip_cons_cons]
 | [], _ :: _, h, _ => by simp at h
 | _ :: _, [], h, _ => by simp at h
theorem Jy {F : Orc} {f : FuncId} {args args' : List AV} {bs : List Nat} {css css' : List (List AV)} {v : AV} (he : JY.entsOfL args [] = bs.map .whole) (hn : J5s bs = true)
  (hr : ren.renL (fun e => J4U e (bs.map .whole) 0) args = some args') (hp : Jl css = true) (hF : F f args' (css.map .box) = some (v, css'.map .box)) (hl : bs.length = css'.length) (hv : Jkw v = true) (hp' : Jl css' = true)
  (ws : List (Nat × Blk)) (new : Nat) (s : St) (hb : JG ws s bs css) : (Jm F f (args, ws) 0 new).run s = some ⟨v, ws ++ bs.zip (css'.map .box)⟩ := by
 have e0 : (bs.map Ent.whole).map Ent.id = bs := by rw [List.map_map]; exact List.map_id bs
 have e1 : (css'.map Blk.box).length = (bs.map Ent.whole).length + 0 := by simp [hl]
 have e2 : (css'.map Blk.box).drop (bs.map Ent.whole).length = [] := by simp [hl]
 simp only [Jm, run_bind, he, JgG hb hp, Option.bind_some, e0, hn, if_true, hr, Jfa hb hp, hF, e1, e2, Jmc hv, J5h, JlT hl hp', J29, List.append_nil]
end Go.Am
end
