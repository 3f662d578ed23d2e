/-
  Parts of a proof.
-/
import Derived.Test.YtiallbcnaadmoaaM4
set_option linter.unusedSimpArgs false
set_option linter.unusedVariables false
section
namespace Go.Am
section
variable {α : Type}
def idx (l : List α) (n : Int) : Option α := if 0 ≤ n then l[n.toNat]? else none
def inb (k : Nat) (n : Int) : Option Unit := if 0 ≤ n ∧ n < k then some () else none
def JaB (bytes : Nat) (l l' : List α) : Option (List α) := if J63 (l.length + l'.length) bytes = true then some (l ++ l') else none
def mkS (bytes : Nat) (n m : Int) (z : α) : Option (List α) :=
 if 0 ≤ n ∧ n ≤ m ∧ bytes * m ≤ 281474976710656 ∧ m ≤ 281474976710656 then some (List.replicate n.toNat z) else none
def Jd7 (x : Option Int) (top dflt : Nat) : Option Nat := match x with
 | none => some dflt
 | some n => if 0 ≤ n ∧ n ≤ top then some n.toNat else none
def Jfv (n : Nat) (lo hi : Option Int) : Option (Nat × Nat) := match Jd7 hi n n with
 | none => none
 | some h => match Jd7 lo h 0 with
  | none => none
  | some l => some (l, h)
def J1i (l : List α) (lo hi : Option Int) : Option (List α) := match Jfv l.length lo hi with
 | some c => some ((l.drop c.1).take (c.2 - c.1))
 | none => none
def JvB (k : IntKind) (x y : Int) : Option Int := if y = 0 then none else some (k.wrap (x.tdiv y))
def JfP (x y : Int) : Option Int := if y = 0 then none else some (x.tmod y)
def Jd3 (k : IntKind) (x y : Int) : Option Int := if y < 0 then none else some (k.wrap (x * 2 ^ (min y.toNat k.bits)))
def J8b (k : IntKind) (x y : Int) : Option Int := if y < 0 then none else some (x.fdiv (2 ^ (min y.toNat k.bits)))
def J4L (k : IntKind) (x y : Int) : Int := k.wrap (BitVec.ofInt k.bits x &&& BitVec.ofInt k.bits y).toNat
def orI (k : IntKind) (x y : Int) : Int := k.wrap (BitVec.ofInt k.bits x ||| BitVec.ofInt k.bits y).toNat
def J4E (k : IntKind) (x y : Int) : Int := k.wrap (BitVec.ofInt k.bits x ^^^ BitVec.ofInt k.bits y).toNat
def JpI (k : IntKind) (n : Int) : Int := k.wrap (BitVec.ofInt k.bits (if k.signed then -1 else k.max) ^^^ BitVec.ofInt k.bits n).toNat
def J3z (a b : List UInt8) : Option (List UInt8) := if a.length + b.length ≤ 4611686018427387904 then some (a ++ b) else none
def JbO (l : List UInt8) (n : Int) : Option Int := if 0 ≤ n then (match l[n.toNat]? with | some u => some (u.toNat : Int) | none => none) else none
def J85 {k : Nat} (v : Vector α k) (n : Int) : Option α := if 0 ≤ n ∧ n < k then v[n.toNat]? else none
def J9G {k : Nat} (v : Vector α k) (n : Int) (x : α) : Vector α k := v.setIfInBounds n.toNat x
def toStr (l : List Int) : List UInt8 := l.map fun n => UInt8.ofNat n.toNat
def J9h (l : List UInt8) : List Int := l.map fun u => (u.toNat : Int)
def Jhj (x y : Int) : Int := if y < x then y else x
def JwB (x y : Int) : Int := if y > x then y else x
end
@[reducible] def cat (a b : List PV) : List PV := a ++ b
def r_i (k : IntKind) (n : Int) : List PV := [.i k n]
def r_b (x : Bool) : List PV := [.b x]
def r_s (l : List UInt8) : List PV := [.s l]
def JjV {α : Type} (esz : Nat) (r : α → List PV) (l : List α) : List PV := [.sl esz (l.map r)]
theorem JaK (k : IntKind) (n : Int) : (r_i k n).length = 1 := rfl
def JU {α : Type} {n : Nat} (r : α → List PV) (v : Vector α n) : List PV := (v.toList.map r).flatten
section
variable {α : Type}
theorem J6u (cs : List α) (off size : Nat) : sub cs off size = if off + size ≤ cs.length then some ((cs.drop off).take size) else none := by
 unfold sub
 split
 ·rename_i h
  obtain ⟨rfl, rfl⟩ := h
  simp
 ·rfl
theorem J7m (cs : List α) (off : Nat) (vs : List α) : spl cs off vs = if off + vs.length ≤ cs.length then some (cs.take off ++ vs ++ cs.drop (off + vs.length)) else none := by
 unfold spl
 split
 ·rename_i h
  obtain ⟨rfl, h⟩ := h
  rw [if_pos (by omega)]
  simp [← h]
 ·rfl
theorem JaA {cs : List α} {n : Nat} (h : cs.length = n) : sub cs 0 n = some cs := by
 subst h; rw [J6u]; simp
theorem JaC {cs vs : List α} (h : cs.length = vs.length) : spl cs 0 vs = some vs := by
 rw [J7m]; simp [h]
theorem JaV {a b c : List α} {off size : Nat} (h1 : a.length = off) (h2 : b.length = size) : sub (a ++ (b ++ c)) off size = some b := by
 subst h1 h2
 rw [J6u, if_pos (by simp)]
 simp
theorem J8E {b c : List α} {size : Nat} (h2 : b.length = size) : sub (b ++ c) 0 size = some b := JaV (a := []) rfl h2
theorem J9X {a b : List α} {off size : Nat} (h1 : a.length = off) (h2 : b.length = size) : sub (a ++ b) off size = some b := by
 have := JaV (c := []) h1 h2; simpa using this
theorem JaX {a b c v : List α} {off : Nat} (h1 : a.length = off) (h2 : b.length = v.length) : spl (a ++ (b ++ c)) off v = some (a ++ (v ++ c)) := by
 subst h1
 rw [J7m, if_pos (by simp; omega), ← h2]
 simp
theorem J8D {b c v : List α} (h2 : b.length = v.length) : spl (b ++ c) 0 v = some (v ++ c) := JaX (a := []) rfl h2
theorem J9O {a b v : List α} {off : Nat} (h1 : a.length = off) (h2 : b.length = v.length) : spl (a ++ b) off v = some (a ++ v) := by
 have := JaX (c := []) h1 h2; simpa using this
theorem J77 {cs ds r : List α} {a m k n : Nat} (h1 : sub cs a m = some ds) (h2 : sub ds k n = some r) : sub cs (a + k) n = some r := by
 rw [J6u] at h1 h2 ⊢
 split at h1
 ·injection h1 with h1; subst h1
  split at h2
  ·rename_i h3 h4
   injection h2 with h2; subst h2
   simp at h4
   rw [if_pos (by omega), List.drop_take, List.take_take, List.drop_drop]
   congr 2
   omega
  ·cases h2
 ·cases h1
theorem JjW {cs ds ds' v cs' : List α} {a m k : Nat} (h1 : sub cs a m = some ds) (h2 : spl ds k v = some ds') (h3 : spl cs a ds' = some cs') : spl cs (a + k) v = some cs' := by
 rw [J6u] at h1
 rw [J7m] at h2 h3 ⊢
 split at h1
 ·rename_i h4
  injection h1 with h1; subst h1
  split at h2
  ·rename_i h5
   injection h2 with h2; subst h2
   simp at h5
   split at h3
   ·injection h3 with h3; subst h3
    rw [if_pos (by omega)]
    congr 1
    simp only [List.length_append, List.length_take, List.length_drop, List.take_take, List.drop_take, List.drop_drop, List.append_assoc]
    have e1 : cs.take (a + k) = cs.take a ++ (cs.drop a).take k := List.take_add ..
    rw [e1, List.append_assoc]
    rw [show min k m = k by omega]
    congr 3
    have e2 : cs.drop (a + k + v.length) = (cs.drop (a + (k + v.length))).take (m - (k + v.length)) ++ cs.drop (a + m) := by
     have := List.take_append_drop (m - (k + v.length)) (cs.drop (a + (k + v.length)))
     rw [List.drop_drop] at this
     rw [show a + (k + v.length) + (m - (k + v.length)) = a + m by omega] at this
     rw [this]; congr 1; omega
    rw [e2]
    congr 2
    omega
   ·cases h3
  ·cases h2
 ·cases h1
theorem JsZ {β : Type} (g : α → β) (cs : List α) (off size : Nat) : sub (cs.map g) off size = (sub cs off size).map (List.map g) := by
 rw [J6u, J6u]
 simp only [List.length_map]
 split <;> simp [List.map_drop, List.map_take]
theorem JmW {β : Type} (g : α → β) (cs : List α) (off : Nat) (vs : List α) : spl (cs.map g) off (vs.map g) = (spl cs off vs).map (List.map g) := by
 rw [J7m, J7m]
 simp only [List.length_map]
 split <;> simp [List.map_drop, List.map_take]
theorem J91 {n k w : Nat} {r : α → List PV} (hr : ∀ x, (r x).length = w) {v : Vector α n} {x : α} (h : v[k]? = some x) : sub (JU r v) (k * w) w = some (r x) := by
 have key : ∀ (l : List α) (k : Nat) (x : α), l[k]? = some x → sub ((l.map r).flatten) (k * w) w = some (r x) := by
  intro l
  induction l with
  | nil => intro k x h; simp at h
  | cons y l ih =>
   intro k x h
   cases k with
   | zero =>
    simp at h; subst h
    rw [Nat.zero_mul, List.map_cons, List.flatten_cons]
    exact J8E (hr _)
   | succ k =>
    simp at h
    have := ih k x h
    rw [List.map_cons, List.flatten_cons]
    rw [J6u] at this ⊢
    split at this
    ·injection this with this
     have e : (k + 1) * w = w + k * w := by rw [Nat.succ_mul]; omega
     rw [e, if_pos (by simp [hr]; simp at *; omega)]
     have e2 : w + k * w = (r y).length + k * w := by rw [hr]
     rw [e2, List.drop_length_add_append, this]
    ·cases this
 exact key _ _ _ (by rw [← h]; simp)
theorem JiH {n k w : Nat} {r : α → List PV} (hr : ∀ x, (r x).length = w) {v : Vector α n} (h : k < n) (y : α) : spl (JU r v) (k * w) (r y) = some (JU r (v.setIfInBounds k y)) := by
 have key : ∀ (l : List α) (k : Nat), k < l.length → spl ((l.map r).flatten) (k * w) (r y) = some (((l.set k y).map r).flatten) := by
  intro l
  induction l with
  | nil => intro k h; simp at h
  | cons z l ih =>
   intro k h
   cases k with
   | zero =>
    rw [Nat.zero_mul, List.map_cons, List.flatten_cons]
    rw [J8D (by rw [hr, hr])]
    simp
   | succ k =>
    simp at h
    have := ih k h
    rw [List.map_cons, List.flatten_cons]
    rw [J7m] at this ⊢
    split at this
    ·rename_i hle
     injection this with this
     have e : (k + 1) * w = (r z).length + k * w := by rw [Nat.succ_mul, hr]; omega
     rw [e, if_pos (by simp [hr] at hle ⊢; omega)]
     simp only [List.set_cons_succ, List.map_cons, List.flatten_cons]
     rw [← this]
     rw [show (r z).length + k * w + (r y).length = (r z).length + (k * w + (r y).length) by omega]
     simp only [List.take_length_add_append, List.drop_length_add_append, List.append_assoc]
    ·cases this
 have h2 := key v.toList k (by simpa using h)
 unfold JU
 rw [h2]
 congr 3
 simp [Vector.setIfInBounds, Vector.toList]
theorem J5p {n w : Nat} {r : α → List PV} (hr : ∀ x, (r x).length = w) (v : Vector α n) : (JU r v).length = n * w := by
 have key : ∀ l : List α, ((l.map r).flatten).length = l.length * w := by
  intro l
  induction l with
  | nil => simp
  | cons x l ih => simp [ih, hr, Nat.succ_mul, Nat.add_comm]
 unfold JU
 rw [key]; simp
end
theorem JmI : ∀ l : List PV, unp (l.map AV.p) = some l
 | [] => rfl
 | x :: l => by simp [unp, JmI l]
theorem Jhb (l : List PV) : J1C true (l.map AV.p) = some (.data l) := by simp [J1C, JmI]
theorem Jh : ∀ l : List PV, (l.map AV.p).all J4y = true
 | [] => rfl
 | x :: l => by simp
theorem JkY (m : Nat) (ids : List Nat) (sto : List Blk) : ∀ l : List PV, fin.finL m ids sto (l.map AV.p) = some (l.map AV.p)
 | [] => rfl
 | x :: l => by simp [fin.finL, fin, JkY m ids sto l]
theorem Jrh (l : List PV) (acc : List Ent) : JW.entsOfL (l.map AV.p) acc = acc := J7v (Jh l)
theorem J6M {α : Type} {r : α → List PV} {l : List α} {n : Int} {x : α} (h : idx l n = some x) : Jbx (l.map r) n = some (r x) := by
 unfold idx at h
 unfold Jbx
 split at h
 ·rename_i h0
  rw [if_pos h0, List.getElem?_map, h]; rfl
 ·cases h
theorem Jmb {α : Type} {r : α → List PV} {l : List α} {n : Int} {x : α} (h : idx l n = some x) : (l.map r)[n.toNat]? = some (r x) := by
 unfold idx at h
 split at h
 ·rw [List.getElem?_map, h]; rfl
 ·cases h
theorem JoL {α : Type} {l : List α} {n : Int} {x : α} (h : idx l n = some x) : 0 ≤ n ∧ n.toNat < l.length := by
 unfold idx at h
 split at h
 ·rename_i h0
  refine ⟨h0, ?_⟩
  have := List.getElem?_eq_some_iff.1 h
  exact this.1
 ·cases h
theorem J8M {k : Nat} {n : Int} {u : Unit} (h : inb k n = some u) : 0 ≤ n ∧ n < k := by
 unfold inb at h
 split at h
 ·assumption
 ·cases h
theorem J4H {α : Type} {k : Nat} {v : Vector α k} {n : Int} {x : α} (h : J85 v n = some x) : (0 ≤ n ∧ n < k) ∧ v[n.toNat]? = some x := by
 unfold J85 at h
 split at h
 ·exact ⟨by assumption, h⟩
 ·cases h
theorem Jg7 {α : Type} {k : Nat} {v : Vector α k} {n : Int} {x : α} (h : J85 v n = some x) : n.toNat < k := by
 have := (J4H h).1; omega
theorem JdE {α : Type} {r : α → List PV} {esz bytes b : Nat} {w : Bool} {l l' l2 : List α} {y : AV} {s : St} (h : JaB bytes l l2 = some l') (hb : s.sto[b]? = some (.arr w esz (l.map r))) (hy : (JS esz y).run s = some (l2.map r)) :
  (J4s esz bytes (.slr b 0 l.length) y).run s = some ⟨.slr b 0 l'.length, [(b, .arr w esz (l'.map r))]⟩ := by
 unfold JaB at h
 split at h
 ·rename_i hr
  injection h with h; subst h
  simp only [J4s, J6t, hb, Option.bind_some, run_bind, hy]
  rw [if_pos ⟨by trivial, by trivial, by simp, by simpa using hr⟩]
  simp [J1Z]
 ·cases h
theorem JdN : ∀ l : List Int, J5F (l.map (r_i .u8)) = some (toStr l)
 | [] => rfl
 | x :: l => by simp [J5F, r_i, JdN l, toStr]
theorem Jhi (l : List UInt8) : l.map J49 = (J9h l).map (r_i .u8) := by simp [J9h, J49, r_i, Function.comp_def]
theorem J9J {α : Type} {bytes : Nat} {n m : Int} {z : α} {l : List α} (h : mkS bytes n m z = some l) : (0 ≤ n ∧ n ≤ m ∧ bytes * m ≤ 281474976710656 ∧ m ≤ 281474976710656) ∧ l = List.replicate n.toNat z := by
 unfold mkS at h
 split at h
 ·injection h with h; exact ⟨by assumption, h.symm⟩
 ·cases h
theorem JoD {x : Option Int} {k : IntKind} {top d : Nat} : J78 (x.map fun n => AV.p (.i k n)) top d = Jd7 x top d := by
 cases x <;> rfl
theorem JoW {k : IntKind} {n : Nat} {lo hi : Option Int} : JfC n (lo.map fun n => AV.p (.i k n)) (hi.map fun n => AV.p (.i k n)) = Jfv n lo hi := by
 unfold JfC Jfv
 rw [JoD]
 cases Jd7 hi n n with
 | none => rfl
 | some h => simp only [JoD]; cases Jd7 lo h 0 <;> rfl
theorem JqR {α : Type} {r : α → List PV} {esz : Nat} {k : IntKind} {l l' : List α} {lo hi : Option Int} (h : J1i l lo hi = some l') :
  J8m esz (.p (.sl esz (l.map r))) (lo.map fun n => AV.p (.i k n)) (hi.map fun n => AV.p (.i k n)) = some (.p (.sl esz (l'.map r))) := by
 unfold J1i at h
 simp only [J8m, if_true, List.length_map, JoW]
 split at h
 ·rename_i c hc
  injection h with h; subst h
  rw [hc]; simp [List.map_drop, List.map_take]
 ·cases h
theorem J2z {k : IntKind} {l l' : List UInt8} {lo hi : Option Int} (h : J1i l lo hi = some l') :
  J2b (.p (.s l)) (lo.map fun n => AV.p (.i k n)) (hi.map fun n => AV.p (.i k n)) = some (.p (.s l')) := by
 unfold J1i at h
 simp only [J2b, JoW]
 split at h
 ·rename_i c hc
  injection h with h; subst h
  rw [hc]
 ·cases h
def Jl (F : Orc) (f : FuncId) (a : List AV × List (Nat × Blk)) (k new : Nat) : RM Eff :=
 (J8h a.2 (JW.entsOfL a.1 []) (JW.entsOfL a.1 [])).bind fun es1 =>
 (J8h a.2 es1 es1).bind fun es =>
 if J4Y (es.map Ent.id) then
  match ren.renL (fun e => J4v e es 0) a.1 with
  | none => .fail
  | some args' => (J5S a.2 (fun e => J4v e es 0) es).bind fun blks =>
   match F f args' blks with
   | none => .fail
   | some r => if r.2.length = es.length + k then
     match bk es new r.1, J4M es new new (r.2.drop es.length) with
     | some v, some fresh => (J3D a.2 es new es r.2).bind fun back => .ret ⟨v, a.2 ++ back ++ fresh⟩
     | _, _ => .fail
    else .fail
 else .fail
theorem JbM (F : Orc) (f : FuncId) (args : List AV) (k new : Nat) : J7A F f args k new = (Jz args).bind fun a => Jl F f a k new := rfl
def JiM : AV → Bool
 | .tup l => l.all J4y
 | v => J4y v
theorem JkR {es : List Ent} {new : Nat} {v : AV} (h : JiM v = true) : bk es new v = some v := by
 cases v with
 | tup l => simp only [JiM] at h; simp [bk, Jcz h]
 | _ => exact Jnc h
theorem Ju {F : Orc} {f : FuncId} {args : List AV} {v : AV} (hp : args.all J4y = true) (hF : F f args [] = some (v, [])) (hv : JiM v = true) (ws : List (Nat × Blk)) (new : Nat) (s : St) :
  (Jl F f (args, ws) 0 new).run s = some ⟨v, ws⟩ := by
 have e1 : JW.entsOfL args [] = [] := J7v hp
 simp only [Jl, run_bind, e1, J8h, J1Z, Option.bind_some, List.map_nil, J4Y, if_true, J9L hp, J5S, hF, List.length_nil, Nat.zero_add, List.drop_nil, J4M, J3D, JkR hv, List.append_nil]
theorem Jpx {F : Orc} {f : FuncId} {args cs : List AV} (hp : args.all J4y = true) (hF : F f args [] = some (.ptr 0 0, [.box cs])) (hc : cs.all J4y = true) (ws : List (Nat × Blk)) (new : Nat) (s : St) :
  (Jl F f (args, ws) 1 new).run s = some ⟨.ptr new 0, ws ++ [(new, .box cs)]⟩ := by
 have e1 : JW.entsOfL args [] = [] := J7v hp
 simp [Jl, run_bind, e1, J8h, J1Z, J4Y, J9L hp, J5S, hF, J4M, J3D, bk, Jcz hc]
def J06 (ws : List (Nat × Blk)) (s : St) : List Nat → List (List AV) → Prop
 | [], [] => True
 | b :: bs, cs :: css => (J8j ws b).run s = some (.box cs) ∧ J06 ws s bs css
 | _, _ => False
def Jt (css : List (List AV)) : Bool := css.all fun cs => cs.all J4y
theorem JfI {ws : List (Nat × Blk)} {s : St} : ∀ {bs : List Nat} {css : List (List AV)} {acc : List Ent}, J06 ws s bs css → Jt css = true → (J8h ws (bs.map .whole) acc).run s = some acc
 | [], [], _, _, _ => rfl
 | b :: bs, cs :: css, acc, h, hp => by
  simp only [Jt, List.all_cons, Bool.and_eq_true] at hp
  simp only [List.map_cons, J8h, run_bind, h.1, Option.bind_some, J7v hp.1]
  exact JfI h.2 hp.2
theorem Jem {ws : List (Nat × Blk)} {s : St} {ρ : Ent → Option Nat} : ∀ {bs : List Nat} {css : List (List AV)}, J06 ws s bs css → Jt css = true → (J5S ws ρ (bs.map .whole)).run s = some (css.map .box)
 | [], [], _, _ => rfl
 | b :: bs, cs :: css, h, hp => by
  simp only [Jt, List.all_cons, Bool.and_eq_true] at hp
  simp only [List.map_cons, J5S, run_bind, Je6, h.1, Option.bind_some, J9L hp.1, J1Z, Jem h.2 hp.2]
theorem Jl1 {ws : List (Nat × Blk)} {s : St} {es : List Ent} {new : Nat} : ∀ {bs : List Nat} {css : List (List AV)}, bs.length = css.length → Jt css = true → (J3D ws es new (bs.map .whole) (css.map .box)).run s = some (bs.zip (css.map .box))
 | [], [], _, _ => rfl
 | b :: bs, cs :: css, h, hp => by
  simp only [Jt, List.all_cons, Bool.and_eq_true] at hp
  simp only [List.map_cons, J3D, run_bind, Ja8, Jcz hp.1, J1Z, Option.bind_some, Jl1 (bs := bs) (css := css) (by simpa using h) hp.2, List.zip_cons_cons]
 | [], _ :: _, h, _ => by simp at h
 | _ :: _, [], h, _ => by simp at h
theorem JZ {F : Orc} {f : FuncId} {args args' : List AV} {bs : List Nat} {css css' : List (List AV)} {v : AV} (he : JW.entsOfL args [] = bs.map .whole) (hn : J4Y bs = true)
  (hr : ren.renL (fun e => J4v e (bs.map .whole) 0) args = some args') (hp : Jt css = true) (hF : F f args' (css.map .box) = some (v, css'.map .box)) (hl : bs.length = css'.length) (hv : JiM v = true) (hp' : Jt css' = true)
  (ws : List (Nat × Blk)) (new : Nat) (s : St) (hb : J06 ws s bs css) : (Jl F f (args, ws) 0 new).run s = some ⟨v, ws ++ bs.zip (css'.map .box)⟩ := by
 have e0 : (bs.map Ent.whole).map Ent.id = bs := by rw [List.map_map]; exact List.map_id bs
 have e1 : (css'.map Blk.box).length = (bs.map Ent.whole).length + 0 := by simp [hl]
 have e2 : (css'.map Blk.box).drop (bs.map Ent.whole).length = [] := by simp [hl]
 simp only [Jl, run_bind, he, JfI hb hp, Option.bind_some, e0, hn, if_true, hr, Jem hb hp, hF, e1, e2, JkR hv, J4M, Jl1 hl hp', J1Z, List.append_nil]
end Go.Am
end
