/-
  Parts of a proof: AmTy.
-/
import Derived.Test.YteiakclfpfmigaaM4
set_option linter.unusedSimpArgs false
set_option linter.unusedVariables false
section
namespace Go.Am
section
variable {α : Type}
def idx (l : List α) (n : Int) : Option α := if 0 ≤ n then l[n.toNat]? else none
def inb (k : Nat) (n : Int) : Option Unit := if 0 ≤ n ∧ n < k then some () else none
def Jav (bytes : Nat) (l l' : List α) : Option (List α) := if 0 < l'.length ∧ J4Y (l.length + l'.length) bytes = true then some (l ++ l') else none
def mkS (bytes : Nat) (n m : Int) (z : α) : Option (List α) :=
  if 0 ≤ n ∧ n ≤ m ∧ bytes * m ≤ 281474976710656 ∧ m ≤ 281474976710656 then some (List.replicate n.toNat z) else none
def JlV (k : IntKind) (x y : Int) : Option Int := if y = 0 then none else some (k.wrap (x.tdiv y))
def J7x (x y : Int) : Option Int := if y = 0 then none else some (x.tmod y)
def JlA (k : IntKind) (x y : Int) : Option Int := if y < 0 then none else some (k.wrap (x * 2 ^ (min y.toNat k.bits)))
def J7v (k : IntKind) (x y : Int) : Option Int := if y < 0 then none else some (x.fdiv (2 ^ (min y.toNat k.bits)))
def J2U (k : IntKind) (x y : Int) : Int := k.wrap (BitVec.ofInt k.bits x &&& BitVec.ofInt k.bits y).toNat
def orI (k : IntKind) (x y : Int) : Int := k.wrap (BitVec.ofInt k.bits x ||| BitVec.ofInt k.bits y).toNat
def J43 (k : IntKind) (x y : Int) : Int := k.wrap (BitVec.ofInt k.bits x ^^^ BitVec.ofInt k.bits y).toNat
def JiV (k : IntKind) (n : Int) : Int := k.wrap (BitVec.ofInt k.bits (if k.signed then -1 else k.max) ^^^ BitVec.ofInt k.bits n).toNat
def J7y (a b : List UInt8) : Option (List UInt8) := if a.length + b.length ≤ 4611686018427387904 then some (a ++ b) else none
def JbU (l : List UInt8) (n : Int) : Option Int := if 0 ≤ n then (match l[n.toNat]? with | some u => some (u.toNat : Int) | none => none) else none
def J6x {k : Nat} (v : Vector α k) (n : Int) : Option α := if 0 ≤ n ∧ n < k then v[n.toNat]? else none
def JbX {k : Nat} (v : Vector α k) (n : Int) (x : α) : Vector α k := v.setIfInBounds n.toNat x
def toStr (l : List Int) : List UInt8 := l.map fun n => UInt8.ofNat n.toNat
def J5m (l : List UInt8) : List Int := l.map fun u => (u.toNat : Int)
def JmH (x y : Int) : Int := if y < x then y else x
def Jb2 (x y : Int) : Int := if y > x then y else x
end
@[reducible] def cat (a b : List PV) : List PV := a ++ b
def r_i (k : IntKind) (n : Int) : List PV := [.i k n]
def r_b (x : Bool) : List PV := [.b x]
def r_s (l : List UInt8) : List PV := [.s l]
def Jcq {α : Type} (esz : Nat) (r : α → List PV) (l : List α) : List PV := [.sl esz (l.map r)]
theorem J6d (k : IntKind) (n : Int) : (r_i k n).length = 1 := rfl
def JF {α : Type} {n : Nat} (r : α → List PV) (v : Vector α n) : List PV := (v.toList.map r).flatten
section
variable {α : Type}
theorem J3S (cs : List α) (off size : Nat) : sub cs off size = if off + size ≤ cs.length then some ((cs.drop off).take size) else none := by
  unfold sub
  split
  · rename_i h
    obtain ⟨rfl, rfl⟩ := h
    simp
  · rfl
theorem J4q (cs : List α) (off : Nat) (vs : List α) : spl cs off vs = if off + vs.length ≤ cs.length then some (cs.take off ++ vs ++ cs.drop (off + vs.length)) else none := by
  unfold spl
  split
  · rename_i h
    obtain ⟨rfl, h⟩ := h
    rw [if_pos (by omega)]
    simp [← h]
  · rfl
theorem J6P {cs : List α} {n : Nat} (h : cs.length = n) : sub cs 0 n = some cs := by
  subst h; rw [J3S]; simp
theorem J6T {cs vs : List α} (h : cs.length = vs.length) : spl cs 0 vs = some vs := by
  rw [J4q]; simp [h]
theorem J5A {a b c : List α} {off size : Nat} (h1 : a.length = off) (h2 : b.length = size) : sub (a ++ (b ++ c)) off size = some b := by
  subst h1 h2
  rw [J3S, if_pos (by simp)]
  simp
theorem J5W {b c : List α} {size : Nat} (h2 : b.length = size) : sub (b ++ c) 0 size = some b := J5A (a := []) rfl h2
theorem J6H {a b : List α} {off size : Nat} (h1 : a.length = off) (h2 : b.length = size) : sub (a ++ b) off size = some b := by
  have := J5A (c := []) h1 h2; simpa using this
theorem J5z {a b c v : List α} {off : Nat} (h1 : a.length = off) (h2 : b.length = v.length) : spl (a ++ (b ++ c)) off v = some (a ++ (v ++ c)) := by
  subst h1
  rw [J4q, if_pos (by simp; omega), ← h2]
  simp
theorem J5H {b c v : List α} (h2 : b.length = v.length) : spl (b ++ c) 0 v = some (v ++ c) := J5z (a := []) rfl h2
theorem J6G {a b v : List α} {off : Nat} (h1 : a.length = off) (h2 : b.length = v.length) : spl (a ++ b) off v = some (a ++ v) := by
  have := J5z (c := []) h1 h2; simpa using this
theorem J9E {cs ds r : List α} {a m k n : Nat} (h1 : sub cs a m = some ds) (h2 : sub ds k n = some r) : sub cs (a + k) n = some r := by
  rw [J3S] at h1 h2 ⊢
  split at h1
  · injection h1 with h1; subst h1
    split at h2
    · rename_i h3 h4
      injection h2 with h2; subst h2
      simp at h4
      rw [if_pos (by omega), List.drop_take, List.take_take, List.drop_drop]
      congr 2
      omega
    · cases h2
  · cases h1
theorem Jj5 {β : Type} (g : α → β) (cs : List α) (off size : Nat) : sub (cs.map g) off size = (sub cs off size).map (List.map g) := by
  rw [J3S, J3S]
  simp only [List.length_map]
  split <;> simp [List.map_drop, List.map_take]
theorem JeK {β : Type} (g : α → β) (cs : List α) (off : Nat) (vs : List α) : spl (cs.map g) off (vs.map g) = (spl cs off vs).map (List.map g) := by
  rw [J4q, J4q]
  simp only [List.length_map]
  split <;> simp [List.map_drop, List.map_take]
theorem JbC {n k w : Nat} {r : α → List PV} (hr : ∀ x, (r x).length = w) {v : Vector α n} {x : α} (h : v[k]? = some x) : sub (JF r v) (k * w) w = some (r x) := by
  have key : ∀ (l : List α) (k : Nat) (x : α), l[k]? = some x → sub ((l.map r).flatten) (k * w) w = some (r x) := by
    intro l
    induction l with
    | nil => intro k x h; simp at h
    | cons y l ih =>
      intro k x h
      cases k with
      | zero =>
        simp at h; subst h
        rw [Nat.zero_mul, List.map_cons, List.flatten_cons]
        exact J5W (hr _)
      | succ k =>
        simp at h
        have := ih k x h
        rw [List.map_cons, List.flatten_cons]
        rw [J3S] at this ⊢
        split at this
        · injection this with this
          have e : (k + 1) * w = w + k * w := by rw [Nat.succ_mul]; omega
          rw [e, if_pos (by simp [hr]; simp at *; omega)]
          have e2 : w + k * w = (r y).length + k * w := by rw [hr]
          rw [e2, List.drop_length_add_append, this]
        · cases this
  exact key _ _ _ (by rw [← h]; simp)
theorem JlQ {n k w : Nat} {r : α → List PV} (hr : ∀ x, (r x).length = w) {v : Vector α n} (h : k < n) (y : α) : spl (JF r v) (k * w) (r y) = some (JF r (v.setIfInBounds k y)) := by
  have key : ∀ (l : List α) (k : Nat), k < l.length → spl ((l.map r).flatten) (k * w) (r y) = some (((l.set k y).map r).flatten) := by
    intro l
    induction l with
    | nil => intro k h; simp at h
    | cons z l ih =>
      intro k h
      cases k with
      | zero =>
        rw [Nat.zero_mul, List.map_cons, List.flatten_cons]
        rw [J5H (by rw [hr, hr])]
        simp
      | succ k =>
        simp at h
        have := ih k h
        rw [List.map_cons, List.flatten_cons]
        rw [J4q] at this ⊢
        split at this
        · rename_i hle
          injection this with this
          have e : (k + 1) * w = (r z).length + k * w := by rw [Nat.succ_mul, hr]; omega
          rw [e, if_pos (by simp [hr] at hle ⊢; omega)]
          simp only [List.set_cons_succ, List.map_cons, List.flatten_cons]
          rw [← this]
          rw [show (r z).length + k * w + (r y).length = (r z).length + (k * w + (r y).length) by omega]
          simp only [List.take_length_add_append, List.drop_length_add_append, List.append_assoc]
        · cases this
  have h2 := key v.toList k (by simpa using h)
  unfold JF
  rw [h2]
  congr 3
  simp [Vector.setIfInBounds, Vector.toList]
theorem J2P {n w : Nat} {r : α → List PV} (hr : ∀ x, (r x).length = w) (v : Vector α n) : (JF r v).length = n * w := by
  have key : ∀ l : List α, ((l.map r).flatten).length = l.length * w := by
    intro l
    induction l with
    | nil => simp
    | cons x l ih => simp [ih, hr, Nat.succ_mul, Nat.add_comm]
  unfold JF
  rw [key]; simp
end
theorem JeL : ∀ l : List PV, unp (l.map AV.p) = some l
  | [] => rfl
  | x :: l => by simp [unp, JeL l]
theorem Jaq (l : List PV) : J0J true (l.map AV.p) = some (.data l) := by simp [J0J, JeL]
theorem J2o : ∀ l : List PV, (l.map AV.p).all J2B = true
  | [] => rfl
  | x :: l => by simp
theorem JcN (m : Nat) (ids : List Nat) (sto : List Blk) : ∀ l : List PV, fin.finL m ids sto (l.map AV.p) = some (l.map AV.p)
  | [] => rfl
  | x :: l => by simp [fin.finL, fin, JcN m ids sto l]
theorem JhF (l : List PV) (acc : List Ent) : JM.entsOfL (l.map AV.p) acc = acc := J4Z (J2o l)
theorem J46 {α : Type} {r : α → List PV} {l : List α} {n : Int} {x : α} (h : idx l n = some x) : J6D (l.map r) n = some (r x) := by
  unfold idx at h
  unfold J6D
  split at h
  · rename_i h0
    rw [if_pos h0, List.getElem?_map, h]; rfl
  · cases h
theorem J5s {α : Type} {r : α → List PV} {l : List α} {n : Int} {x : α} (h : idx l n = some x) : (l.map r)[n.toNat]? = some (r x) := by
  unfold idx at h
  split at h
  · rw [List.getElem?_map, h]; rfl
  · cases h
theorem J6b {α : Type} {l : List α} {n : Int} {x : α} (h : idx l n = some x) : 0 ≤ n ∧ n.toNat < l.length := by
  unfold idx at h
  split at h
  · rename_i h0
    refine ⟨h0, ?_⟩
    have := List.getElem?_eq_some_iff.1 h
    exact this.1
  · cases h
theorem JbW {k : Nat} {n : Int} {u : Unit} (h : inb k n = some u) : 0 ≤ n ∧ n < k := by
  unfold inb at h
  split at h
  · assumption
  · cases h
theorem J5q {α : Type} {k : Nat} {v : Vector α k} {n : Int} {x : α} (h : J6x v n = some x) : (0 ≤ n ∧ n < k) ∧ v[n.toNat]? = some x := by
  unfold J6x at h
  split at h
  · exact ⟨by assumption, h⟩
  · cases h
theorem JkL {α : Type} {k : Nat} {v : Vector α k} {n : Int} {x : α} (h : J6x v n = some x) : n.toNat < k := by
  have := (J5q h).1; omega
theorem J8h : ∀ l : List Int, J34 (l.map (r_i .u8)) = some (toStr l)
  | [] => rfl
  | x :: l => by simp [J34, r_i, J8h l, toStr]
theorem JaV (l : List UInt8) : l.map J28 = (J5m l).map (r_i .u8) := by simp [J5m, J28, r_i, Function.comp_def]
theorem JbV {α : Type} {bytes : Nat} {n m : Int} {z : α} {l : List α} (h : mkS bytes n m z = some l) : (0 ≤ n ∧ n ≤ m ∧ bytes * m ≤ 281474976710656 ∧ m ≤ 281474976710656) ∧ l = List.replicate n.toNat z := by
  unfold mkS at h
  split at h
  · injection h with h; exact ⟨by assumption, h.symm⟩
  · cases h
def Jy (F : Orc) (f : FuncId) (a : List AV × List (Nat × Blk)) (k new : Nat) : RM Eff :=
  (J5r a.2 (JM.entsOfL a.1 []) (JM.entsOfL a.1 [])).bind fun es1 =>
  (J5r a.2 es1 es1).bind fun es =>
  if J2N (es.map Ent.id) then
    match ren.renL (fun e => J2u e es 0) a.1 with
    | none => .fail
    | some args' => (J3W a.2 (fun e => J2u e es 0) es).bind fun blks =>
      match F f args' blks with
      | none => .fail
      | some r => if r.2.length = es.length + k then
          match bk es new r.1, J2G es new new (r.2.drop es.length) with
          | some v, some fresh => (J32 a.2 es new es r.2).bind fun back => .ret ⟨v, a.2 ++ back ++ fresh⟩
          | _, _ => .fail
        else .fail
  else .fail
theorem J6O (F : Orc) (f : FuncId) (args : List AV) (k new : Nat) : J4f F f args k new = (Jq args).bind fun a => Jy F f a k new := rfl
def Jbg : AV → Bool
  | .tup l => l.all J2B
  | v => J2B v
theorem JcP {es : List Ent} {new : Nat} {v : AV} (h : Jbg v = true) : bk es new v = some v := by
  cases v with
  | tup l => simp only [Jbg] at h; simp [bk, J96 h]
  | _ => exact Jex h
theorem J01 {F : Orc} {f : FuncId} {args : List AV} {v : AV} (hp : args.all J2B = true) (hF : F f args [] = some (v, [])) (hv : Jbg v = true) (ws : List (Nat × Blk)) (new : Nat) (s : St) :
    (Jy F f (args, ws) 0 new).run s = some ⟨v, ws⟩ := by
  have e1 : JM.entsOfL args [] = [] := J4Z hp
  simp only [Jy, run_bind, e1, J5r, J1f, Option.bind_some, List.map_nil, J2N, if_true, J6q hp, J3W, hF, List.length_nil, Nat.zero_add, List.drop_nil, J2G, J32, JcP hv, List.append_nil]
theorem JbK {F : Orc} {f : FuncId} {args : List AV} {n esz : Nat} {w : Bool} {rows : List (List PV)} (hp : args.all J2B = true) (hF : F f args [] = some (.slr 0 0 n, [.arr w esz rows])) (ws : List (Nat × Blk)) (new : Nat) (s : St) :
    (Jy F f (args, ws) 1 new).run s = some ⟨.slr new 0 n, ws ++ [(new, .arr w esz rows)]⟩ := by
  have e1 : JM.entsOfL args [] = [] := J4Z hp
  simp [Jy, run_bind, e1, J5r, J1f, J2N, J6q hp, J3W, hF, J2G, J32, bk]
def J4m (ws : List (Nat × Blk)) (s : St) : List Nat → List (List AV) → Prop
  | [], [] => True
  | b :: bs, cs :: css => (J5w ws b).run s = some (.box cs) ∧ J4m ws s bs css
  | _, _ => False
def J24 (css : List (List AV)) : Bool := css.all fun cs => cs.all J2B
theorem JcI {ws : List (Nat × Blk)} {s : St} : ∀ {bs : List Nat} {css : List (List AV)} {acc : List Ent}, J4m ws s bs css → J24 css = true → (J5r ws (bs.map .whole) acc).run s = some acc
  | [], [], _, _, _ => rfl
  | b :: bs, cs :: css, acc, h, hp => by
    simp only [J24, List.all_cons, Bool.and_eq_true] at hp
    simp only [List.map_cons, J5r, run_bind, h.1, Option.bind_some, J4Z hp.1]
    exact JcI h.2 hp.2
theorem Jea {ws : List (Nat × Blk)} {s : St} {ρ : Ent → Option Nat} : ∀ {bs : List Nat} {css : List (List AV)}, J4m ws s bs css → J24 css = true → (J3W ws ρ (bs.map .whole)).run s = some (css.map .box)
  | [], [], _, _ => rfl
  | b :: bs, cs :: css, h, hp => by
    simp only [J24, List.all_cons, Bool.and_eq_true] at hp
    simp only [List.map_cons, J3W, run_bind, J9U, h.1, Option.bind_some, J6q hp.1, J1f, Jea h.2 hp.2]
theorem JcU {ws : List (Nat × Blk)} {s : St} {es : List Ent} {new : Nat} : ∀ {bs : List Nat} {css : List (List AV)}, bs.length = css.length → J24 css = true → (J32 ws es new (bs.map .whole) (css.map .box)).run s = some (bs.zip (css.map .box))
  | [], [], _, _ => rfl
  | b :: bs, cs :: css, h, hp => by
    simp only [J24, List.all_cons, Bool.and_eq_true] at hp
    simp only [List.map_cons, J32, run_bind, J7I, J96 hp.1, J1f, Option.bind_some, JcU (bs := bs) (css := css) (by simpa using h) hp.2, List.zip_cons_cons]
  | [], _ :: _, h, _ => by simp at h
  | _ :: _, [], h, _ => by simp at h
theorem J7w {F : Orc} {f : FuncId} {args args' : List AV} {bs : List Nat} {css css' : List (List AV)} {v : AV} (he : JM.entsOfL args [] = bs.map .whole) (hn : J2N bs = true)
    (hr : ren.renL (fun e => J2u e (bs.map .whole) 0) args = some args') (hp : J24 css = true) (hF : F f args' (css.map .box) = some (v, css'.map .box)) (hl : bs.length = css'.length) (hv : Jbg v = true) (hp' : J24 css' = true)
    (ws : List (Nat × Blk)) (new : Nat) (s : St) (hb : J4m ws s bs css) : (Jy F f (args, ws) 0 new).run s = some ⟨v, ws ++ bs.zip (css'.map .box)⟩ := by
  have e0 : (bs.map Ent.whole).map Ent.id = bs := by rw [List.map_map]; exact List.map_id bs
  have e1 : (css'.map Blk.box).length = (bs.map Ent.whole).length + 0 := by simp [hl]
  have e2 : (css'.map Blk.box).drop (bs.map Ent.whole).length = [] := by simp [hl]
  simp only [Jy, run_bind, he, JcI hb hp, Option.bind_some, e0, hn, if_true, hr, Jea hb hp, hF, e1, e2, JcP hv, J2G, JcU hl hp', J1f, List.append_nil]
end Go.Am
end
