/-
  Parts of a proof: AmTy.
-/
import Derived.Test.YteiakclfpfmigaaM4
set_option linter.unusedSimpArgs false
set_option linter.unusedVariables false
section
namespace Go.Am
section
variable {α : Type}
def idx (l : List α) (n : Int) : Option α := if 0 ≤ n then l[n.toNat]? else none
def inb (k : Nat) (n : Int) : Option Unit := if 0 ≤ n ∧ n < k then some () else none
def JcE (bytes : Nat) (l l' : List α) : Option (List α) := if J5E (l.length + l'.length) bytes = true then some (l ++ l') else none
def Jjz (bytes : Nat) (l : List α) : Option (List α) := if J5E l.length bytes = true then some l else none
def mkS (bytes : Nat) (n m : Int) (z : α) : Option (List α) :=
  if 0 ≤ n ∧ n ≤ m ∧ bytes * m ≤ 281474976710656 ∧ m ≤ 281474976710656 then some (List.replicate n.toNat z) else none
def Jew (x : Option Int) (top dflt : Nat) : Option Nat := match x with
  | none => some dflt
  | some n => if 0 ≤ n ∧ n ≤ top then some n.toNat else none
def JhQ (n : Nat) (lo hi : Option Int) : Option (Nat × Nat) := match Jew hi n n with
  | none => none
  | some h => match Jew lo h 0 with
    | none => none
    | some l => some (l, h)
def J7D (l : List α) (lo hi : Option Int) : Option (List α) := match JhQ l.length lo hi with
  | some c => some ((l.drop c.1).take (c.2 - c.1))
  | none => none
def Jti (k : IntKind) (x y : Int) : Option Int := if y = 0 then none else some (k.wrap (x.tdiv y))
def JjF (x y : Int) : Option Int := if y = 0 then none else some (x.tmod y)
def Jeo (k : IntKind) (x y : Int) : Option Int := if y < 0 then none else some (k.wrap (x * 2 ^ (min y.toNat k.bits)))
def JlL (k : IntKind) (x y : Int) : Option Int := if y < 0 then none else some (x.fdiv (2 ^ (min y.toNat k.bits)))
def Ju9 (k : IntKind) (x y : Int) : Int := k.wrap (BitVec.ofInt k.bits x &&& BitVec.ofInt k.bits y).toNat
def orI (k : IntKind) (x y : Int) : Int := k.wrap (BitVec.ofInt k.bits x ||| BitVec.ofInt k.bits y).toNat
def JnO (k : IntKind) (x y : Int) : Int := k.wrap (BitVec.ofInt k.bits x ^^^ BitVec.ofInt k.bits y).toNat
def Jun (k : IntKind) (n : Int) : Int := k.wrap (BitVec.ofInt k.bits (if k.signed then -1 else k.max) ^^^ BitVec.ofInt k.bits n).toNat
def J9U (a b : List UInt8) : Option (List UInt8) := if a.length + b.length ≤ 4611686018427387904 then some (a ++ b) else none
def Jfi (l : List UInt8) (n : Int) : Option Int := if 0 ≤ n then (match l[n.toNat]? with | some u => some (u.toNat : Int) | none => none) else none
def Jd0 {k : Nat} (v : Vector α k) (n : Int) : Option α := if 0 ≤ n ∧ n < k then v[n.toNat]? else none
def toStr (l : List Int) : List UInt8 := l.map fun n => UInt8.ofNat n.toNat
def J9m (l : List UInt8) : List Int := l.map fun u => (u.toNat : Int)
def JhP (x y : Int) : Int := if y < x then y else x
def Jf4 (x y : Int) : Int := if y > x then y else x
end
@[reducible] def cat (a b : List PV) : List PV := a ++ b
def r_i (k : IntKind) (n : Int) : List PV := [.i k n]
def r_b (x : Bool) : List PV := [.b x]
def r_s (l : List UInt8) : List PV := [.s l]
def Jju {α : Type} (esz : Nat) (r : α → List PV) (l : List α) : List PV := [.sl esz (l.map r)]
theorem J8a (k : IntKind) (n : Int) : (r_i k n).length = 1 := rfl
def J1Q {α : Type} {n : Nat} (r : α → List PV) (v : Vector α n) : List PV := (v.toList.map r).flatten
section
variable {α : Type}
theorem J6L (cs : List α) (off size : Nat) : sub cs off size = if off + size ≤ cs.length then some ((cs.drop off).take size) else none := by
  unfold sub
  split
  · rename_i h
    obtain ⟨rfl, rfl⟩ := h
    simp
  · rfl
theorem J8f (cs : List α) (off : Nat) (vs : List α) : spl cs off vs = if off + vs.length ≤ cs.length then some (cs.take off ++ vs ++ cs.drop (off + vs.length)) else none := by
  unfold spl
  split
  · rename_i h
    obtain ⟨rfl, h⟩ := h
    rw [if_pos (by omega)]
    simp [← h]
  · rfl
theorem Jbo {cs : List α} {n : Nat} (h : cs.length = n) : sub cs 0 n = some cs := by
  subst h; rw [J6L]; simp
theorem Jbj {cs vs : List α} (h : cs.length = vs.length) : spl cs 0 vs = some vs := by
  rw [J8f]; simp [h]
theorem J5y {a b c : List α} {off size : Nat} (h1 : a.length = off) (h2 : b.length = size) : sub (a ++ (b ++ c)) off size = some b := by
  subst h1 h2
  rw [J6L, if_pos (by simp)]
  simp
theorem J8U {b c : List α} {size : Nat} (h2 : b.length = size) : sub (b ++ c) 0 size = some b := J5y (a := []) rfl h2
theorem J9K {a b : List α} {off size : Nat} (h1 : a.length = off) (h2 : b.length = size) : sub (a ++ b) off size = some b := by
  have := J5y (c := []) h1 h2; simpa using this
theorem J5A {a b c v : List α} {off : Nat} (h1 : a.length = off) (h2 : b.length = v.length) : spl (a ++ (b ++ c)) off v = some (a ++ (v ++ c)) := by
  subst h1
  rw [J8f, if_pos (by simp; omega), ← h2]
  simp
theorem J9B {b c v : List α} (h2 : b.length = v.length) : spl (b ++ c) 0 v = some (v ++ c) := J5A (a := []) rfl h2
theorem J9X {a b v : List α} {off : Nat} (h1 : a.length = off) (h2 : b.length = v.length) : spl (a ++ b) off v = some (a ++ v) := by
  have := J5A (c := []) h1 h2; simpa using this
theorem J9u {cs ds r : List α} {a m k n : Nat} (h1 : sub cs a m = some ds) (h2 : sub ds k n = some r) : sub cs (a + k) n = some r := by
  rw [J6L] at h1 h2 ⊢
  split at h1
  · injection h1 with h1; subst h1
    split at h2
    · rename_i h3 h4
      injection h2 with h2; subst h2
      simp at h4
      rw [if_pos (by omega), List.drop_take, List.take_take, List.drop_drop]
      congr 2
      omega
    · cases h2
  · cases h1
theorem Jnd {cs ds ds' v cs' : List α} {a m k : Nat} (h1 : sub cs a m = some ds) (h2 : spl ds k v = some ds') (h3 : spl cs a ds' = some cs') : spl cs (a + k) v = some cs' := by
  rw [J6L] at h1
  rw [J8f] at h2 h3 ⊢
  split at h1
  · rename_i h4
    injection h1 with h1; subst h1
    split at h2
    · rename_i h5
      injection h2 with h2; subst h2
      simp at h5
      split at h3
      · injection h3 with h3; subst h3
        rw [if_pos (by omega)]
        congr 1
        simp only [List.length_append, List.length_take, List.length_drop, List.take_take, List.drop_take, List.drop_drop, List.append_assoc]
        have e1 : cs.take (a + k) = cs.take a ++ (cs.drop a).take k := List.take_add ..
        rw [e1, List.append_assoc]
        rw [show min k m = k by omega]
        congr 3
        have e2 : cs.drop (a + k + v.length) = (cs.drop (a + (k + v.length))).take (m - (k + v.length)) ++ cs.drop (a + m) := by
          have := List.take_append_drop (m - (k + v.length)) (cs.drop (a + (k + v.length)))
          rw [List.drop_drop] at this
          rw [show a + (k + v.length) + (m - (k + v.length)) = a + m by omega] at this
          rw [this]; congr 1; omega
        rw [e2]
        congr 2
        omega
      · cases h3
    · cases h2
  · cases h1
theorem Jpx {β : Type} (g : α → β) (cs : List α) (off size : Nat) : sub (cs.map g) off size = (sub cs off size).map (List.map g) := by
  rw [J6L, J6L]
  simp only [List.length_map]
  split <;> simp [List.map_drop, List.map_take]
theorem Jll {β : Type} (g : α → β) (cs : List α) (off : Nat) (vs : List α) : spl (cs.map g) off (vs.map g) = (spl cs off vs).map (List.map g) := by
  rw [J8f, J8f]
  simp only [List.length_map]
  split <;> simp [List.map_drop, List.map_take]
theorem Jd5 {n k w : Nat} {r : α → List PV} (hr : ∀ x, (r x).length = w) {v : Vector α n} {x : α} (h : v[k]? = some x) : sub (J1Q r v) (k * w) w = some (r x) := by
  have key : ∀ (l : List α) (k : Nat) (x : α), l[k]? = some x → sub ((l.map r).flatten) (k * w) w = some (r x) := by
    intro l
    induction l with
    | nil => intro k x h; simp at h
    | cons y l ih =>
      intro k x h
      cases k with
      | zero =>
        simp at h; subst h
        rw [Nat.zero_mul, List.map_cons, List.flatten_cons]
        exact J8U (hr _)
      | succ k =>
        simp at h
        have := ih k x h
        rw [List.map_cons, List.flatten_cons]
        rw [J6L] at this ⊢
        split at this
        · injection this with this
          have e : (k + 1) * w = w + k * w := by rw [Nat.succ_mul]; omega
          rw [e, if_pos (by simp [hr]; simp at *; omega)]
          have e2 : w + k * w = (r y).length + k * w := by rw [hr]
          rw [e2, List.drop_length_add_append, this]
        · cases this
  exact key _ _ _ (by rw [← h]; simp)
theorem JiA {n w : Nat} {r : α → List PV} (hr : ∀ x, (r x).length = w) (v : Vector α n) : (J1Q r v).length = n * w := by
  have key : ∀ l : List α, ((l.map r).flatten).length = l.length * w := by
    intro l
    induction l with
    | nil => simp
    | cons x l ih => simp [ih, hr, Nat.succ_mul, Nat.add_comm]
  unfold J1Q
  rw [key]; simp
end
theorem Jhr : ∀ l : List PV, unp (l.map AV.p) = some l
  | [] => rfl
  | x :: l => by simp [unp, Jhr l]
theorem JgW (l : List PV) : J1T true (l.map AV.p) = some (.data l) := by simp [J1T, Jhr]
theorem J6 : ∀ l : List PV, (l.map AV.p).all J3X = true
  | [] => rfl
  | x :: l => by simp
theorem Jk4 (m : Nat) (ids : List Nat) (sto : List Blk) : ∀ l : List PV, fin.finL m ids sto (l.map AV.p) = some (l.map AV.p)
  | [] => rfl
  | x :: l => by simp [fin.finL, fin, Jk4 m ids sto l]
theorem Jp0 (l : List PV) (acc : List Ent) : J0a.entsOfL (l.map AV.p) acc = acc := J5t (J6 l)
theorem J2R {α : Type} {r : α → List PV} {l : List α} {n : Int} {x : α} (h : idx l n = some x) : Jb6 (l.map r) n = some (r x) := by
  unfold idx at h
  unfold Jb6
  split at h
  · rename_i h0
    rw [if_pos h0, List.getElem?_map, h]; rfl
  · cases h
theorem J7S {α : Type} {r : α → List PV} {l : List α} {n : Int} {x : α} (h : idx l n = some x) : (l.map r)[n.toNat]? = some (r x) := by
  unfold idx at h
  split at h
  · rw [List.getElem?_map, h]; rfl
  · cases h
theorem Jai {α : Type} {l : List α} {n : Int} {x : α} (h : idx l n = some x) : 0 ≤ n ∧ n.toNat < l.length := by
  unfold idx at h
  split at h
  · rename_i h0
    refine ⟨h0, ?_⟩
    have := List.getElem?_eq_some_iff.1 h
    exact this.1
  · cases h
theorem JjD {k : Nat} {n : Int} {u : Unit} (h : inb k n = some u) : 0 ≤ n ∧ n < k := by
  unfold inb at h
  split at h
  · assumption
  · cases h
theorem Jak {α : Type} {k : Nat} {v : Vector α k} {n : Int} {x : α} (h : Jd0 v n = some x) : (0 ≤ n ∧ n < k) ∧ v[n.toNat]? = some x := by
  unfold Jd0 at h
  split at h
  · exact ⟨by assumption, h⟩
  · cases h
theorem Jg7 {α : Type} {r : α → List PV} {esz bytes b : Nat} {w : Bool} {l l' l2 : List α} {y : AV} {s : St} (h : JcE bytes l l2 = some l') (hb : s.sto[b]? = some (.arr w esz (l.map r))) (hy : (J0n esz y).run s = some (l2.map r)) :
    (J7j esz bytes (.slr b 0 l.length) y).run s = some ⟨.slr b 0 l'.length, [(b, .arr w esz (l'.map r))]⟩ := by
  unfold JcE at h
  split at h
  · rename_i hr
    injection h with h; subst h
    simp only [J7j, J6Q, hb, Option.bind_some, run_bind, hy]
    rw [if_pos ⟨by trivial, by trivial, by simp, by simpa using hr⟩]
    simp [J1l]
  · cases h
theorem JdT : ∀ l : List Int, J6s (l.map (r_i .u8)) = some (toStr l)
  | [] => rfl
  | x :: l => by simp [J6s, r_i, JdT l, toStr]
theorem JhH (l : List UInt8) : l.map J4Q = (J9m l).map (r_i .u8) := by simp [J9m, J4Q, r_i, Function.comp_def]
theorem Jlk {α : Type} {bytes : Nat} {l l' : List α} (h : Jjz bytes l = some l') : J5E l.length bytes = true ∧ l' = l := by
  unfold Jjz at h
  split at h
  · injection h with h; exact ⟨by assumption, h.symm⟩
  · cases h
theorem J8P {α : Type} {bytes : Nat} {n m : Int} {z : α} {l : List α} (h : mkS bytes n m z = some l) : (0 ≤ n ∧ n ≤ m ∧ bytes * m ≤ 281474976710656 ∧ m ≤ 281474976710656) ∧ l = List.replicate n.toNat z := by
  unfold mkS at h
  split at h
  · injection h with h; exact ⟨by assumption, h.symm⟩
  · cases h
theorem Jtf {α : Type} {bytes : Nat} {n : Int} {z : α} {l : List α} (r : α → List PV) {esz : Nat} {k : IntKind} (h : mkS bytes n n z = some l) : zrs esz (r z) (.p (.i k n)) = some (.p (.sl esz (l.map r))) := by
  obtain ⟨⟨h0, _⟩, rfl⟩ := J8P h
  simp only [zrs, if_pos h0, List.map_replicate]
theorem Jng {x : Option Int} {k : IntKind} {top d : Nat} : J7A (x.map fun n => AV.p (.i k n)) top d = Jew x top d := by
  cases x <;> rfl
theorem Jnc {k : IntKind} {n : Nat} {lo hi : Option Int} : Jf3 n (lo.map fun n => AV.p (.i k n)) (hi.map fun n => AV.p (.i k n)) = JhQ n lo hi := by
  unfold Jf3 JhQ
  rw [Jng]
  cases Jew hi n n with
  | none => rfl
  | some h => simp only [Jng]; cases Jew lo h 0 <;> rfl
theorem JoS {α : Type} {r : α → List PV} {esz : Nat} {k : IntKind} {l l' : List α} {lo hi : Option Int} (h : J7D l lo hi = some l') :
    J8C esz (.p (.sl esz (l.map r))) (lo.map fun n => AV.p (.i k n)) (hi.map fun n => AV.p (.i k n)) = some (.p (.sl esz (l'.map r))) := by
  unfold J7D at h
  simp only [J8C, if_true, List.length_map, Jnc]
  split at h
  · rename_i c hc
    injection h with h; subst h
    rw [hc]; simp [List.map_drop, List.map_take]
  · cases h
theorem J9t {k : IntKind} {l l' : List UInt8} {lo hi : Option Int} (h : J7D l lo hi = some l') :
    J61 (.p (.s l)) (lo.map fun n => AV.p (.i k n)) (hi.map fun n => AV.p (.i k n)) = some (.p (.s l')) := by
  unfold J7D at h
  simp only [J61, Jnc]
  split at h
  · rename_i c hc
    injection h with h; subst h
    rw [hc]
  · cases h
def Jo (F : Orc) (f : FuncId) (a : List AV × List (Nat × Blk)) (k new : Nat) : RM Eff :=
  (J7m a.2 (J0a.entsOfL a.1 []) (J0a.entsOfL a.1 [])).bind fun es1 =>
  (J7m a.2 es1 es1).bind fun es =>
  if J41 (es.map Ent.id) then
    match ren.renL (fun e => J32 e es 0) a.1 with
    | none => .fail
    | some args' => (J4m a.2 (fun e => J32 e es 0) es).bind fun blks =>
      match F f args' blks with
      | none => .fail
      | some r => if r.2.length = es.length + k then
          match bk es new r.1, J3p es new new (r.2.drop es.length) with
          | some v, some fresh => (J2l a.2 es new es r.2).bind fun back => .ret ⟨v, a.2 ++ back ++ fresh⟩
          | _, _ => .fail
        else .fail
  else .fail
theorem Jbk (F : Orc) (f : FuncId) (args : List AV) (k new : Nat) : J7X F f args k new = (JM args).bind fun a => Jo F f a k new := rfl
def Jfz : AV → Bool
  | .tup l => l.all J3X
  | v => J3X v
theorem Jfs {es : List Ent} {new : Nat} {v : AV} (h : Jfz v = true) : bk es new v = some v := by
  cases v with
  | tup l => simp only [Jfz] at h; simp [bk, Jcm h]
  | _ => exact JlN h
theorem JN {F : Orc} {f : FuncId} {args : List AV} {v : AV} (hp : args.all J3X = true) (hF : F f args [] = some (v, [])) (hv : Jfz v = true) (ws : List (Nat × Blk)) (new : Nat) (s : St) :
    (Jo F f (args, ws) 0 new).run s = some ⟨v, ws⟩ := by
  have e1 : J0a.entsOfL args [] = [] := J5t hp
  simp only [Jo, run_bind, e1, J7m, J1l, Option.bind_some, List.map_nil, J41, if_true, J6d hp, J4m, hF, List.length_nil, Nat.zero_add, List.drop_nil, J3p, J2l, Jfs hv, List.append_nil]
theorem JnS {F : Orc} {f : FuncId} {args : List AV} {cs : List AV} (hp : args.all J3X = true) (hF : F f args [] = some (.ptr 0 0, [.box cs])) (hc : cs.all J3X = true) (ws : List (Nat × Blk)) (new : Nat) (s : St) :
    (Jo F f (args, ws) 1 new).run s = some ⟨.ptr new 0, ws ++ [(new, .box cs)]⟩ := by
  have e1 : J0a.entsOfL args [] = [] := J5t hp
  simp [Jo, run_bind, e1, J7m, J1l, J41, J6d hp, J4m, hF, J3p, J2l, bk, Jcm hc]
theorem JiP {F : Orc} {f : FuncId} {args : List AV} {n esz : Nat} {w : Bool} {rows : List (List PV)} (hp : args.all J3X = true) (hF : F f args [] = some (.slr 0 0 n, [.arr w esz rows])) (ws : List (Nat × Blk)) (new : Nat) (s : St) :
    (Jo F f (args, ws) 1 new).run s = some ⟨.slr new 0 n, ws ++ [(new, .arr w esz rows)]⟩ := by
  have e1 : J0a.entsOfL args [] = [] := J5t hp
  simp [Jo, run_bind, e1, J7m, J1l, J41, J6d hp, J4m, hF, J3p, J2l, bk]
def JB (ws : List (Nat × Blk)) (s : St) : List Nat → List (List AV) → Prop
  | [], [] => True
  | b :: bs, cs :: css => (J7E ws b).run s = some (.box cs) ∧ JB ws s bs css
  | _, _ => False
def Ji (css : List (List AV)) : Bool := css.all fun cs => cs.all J3X
theorem JcA {ws : List (Nat × Blk)} {s : St} : ∀ {bs : List Nat} {css : List (List AV)} {acc : List Ent}, JB ws s bs css → Ji css = true → (J7m ws (bs.map .whole) acc).run s = some acc
  | [], [], _, _, _ => rfl
  | b :: bs, cs :: css, acc, h, hp => by
    simp only [Ji, List.all_cons, Bool.and_eq_true] at hp
    simp only [List.map_cons, J7m, run_bind, h.1, Option.bind_some, J5t hp.1]
    exact JcA h.2 hp.2
theorem Jbv {ws : List (Nat × Blk)} {s : St} {ρ : Ent → Option Nat} : ∀ {bs : List Nat} {css : List (List AV)}, JB ws s bs css → Ji css = true → (J4m ws ρ (bs.map .whole)).run s = some (css.map .box)
  | [], [], _, _ => rfl
  | b :: bs, cs :: css, h, hp => by
    simp only [Ji, List.all_cons, Bool.and_eq_true] at hp
    simp only [List.map_cons, J4m, run_bind, Jcn, h.1, Option.bind_some, J6d hp.1, J1l, Jbv h.2 hp.2]
theorem Jf7 {ws : List (Nat × Blk)} {s : St} {es : List Ent} {new : Nat} : ∀ {bs : List Nat} {css : List (List AV)}, bs.length = css.length → Ji css = true → (J2l ws es new (bs.map .whole) (css.map .box)).run s = some (bs.zip (css.map .box))
  | [], [], _, _ => rfl
  | b :: bs, cs :: css, h, hp => by
    simp only [Ji, List.all_cons, Bool.and_eq_true] at hp
    simp only [List.map_cons, J2l, run_bind, J9e, Jcm hp.1, J1l, Option.bind_some, Jf7 (bs := bs) (css := css) (by simpa using h) hp.2, List.zip_cons_cons]
  | [], _ :: _, h, _ => by simp at h
  | _ :: _, [], h, _ => by simp at h
theorem Jw {F : Orc} {f : FuncId} {args args' : List AV} {bs : List Nat} {css css' : List (List AV)} {v : AV} (he : J0a.entsOfL args [] = bs.map .whole) (hn : J41 bs = true)
    (hr : ren.renL (fun e => J32 e (bs.map .whole) 0) args = some args') (hp : Ji css = true) (hF : F f args' (css.map .box) = some (v, css'.map .box)) (hl : bs.length = css'.length) (hv : Jfz v = true) (hp' : Ji css' = true)
    (ws : List (Nat × Blk)) (new : Nat) (s : St) (hb : JB ws s bs css) : (Jo F f (args, ws) 0 new).run s = some ⟨v, ws ++ bs.zip (css'.map .box)⟩ := by
  have e0 : (bs.map Ent.whole).map Ent.id = bs := by rw [List.map_map]; exact List.map_id bs
  have e1 : (css'.map Blk.box).length = (bs.map Ent.whole).length + 0 := by simp [hl]
  have e2 : (css'.map Blk.box).drop (bs.map Ent.whole).length = [] := by simp [hl]
  simp only [Jo, run_bind, he, JcA hb hp, Option.bind_some, e0, hn, if_true, hr, Jbv hb hp, hF, e1, e2, Jfs hv, J3p, Jf7 hl hp', J1l, List.append_nil]
end Go.Am
end
