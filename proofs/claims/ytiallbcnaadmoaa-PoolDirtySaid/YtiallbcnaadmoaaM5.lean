/-
  Parts of a proof: AmTy.
-/
import Derived.Test.YtiallbcnaadmoaaM4
set_option linter.unusedSimpArgs false
set_option linter.unusedVariables false
section
namespace Go.Am
section
variable {α : Type}
def idx (l : List α) (n : Int) : Option α := if 0 ≤ n then l[n.toNat]? else none
def inb (k : Nat) (n : Int) : Option Unit := if 0 ≤ n ∧ n < k then some () else none
def JhH (bytes : Nat) (l l' : List α) : Option (List α) := if J5L (l.length + l'.length) bytes = true then some (l ++ l') else none
def JcJ (bytes : Nat) (l l' : List α) : Option (List α) := if 0 < l'.length ∧ J5L (l.length + l'.length) bytes = true then some (l ++ l') else none
def Jdd (x : Option Int) (top dflt : Nat) : Option Nat := match x with
  | none => some dflt
  | some n => if 0 ≤ n ∧ n ≤ top then some n.toNat else none
def Jh0 (n : Nat) (lo hi : Option Int) : Option (Nat × Nat) := match Jdd hi n n with
  | none => none
  | some h => match Jdd lo h 0 with
    | none => none
    | some l => some (l, h)
def Jd7 (l : List α) (lo hi : Option Int) : Option (List α) := match Jh0 l.length lo hi with
  | some c => some ((l.drop c.1).take (c.2 - c.1))
  | none => none
def Joh (k : IntKind) (x y : Int) : Option Int := if y = 0 then none else some (k.wrap (x.tdiv y))
def Jbq (x y : Int) : Option Int := if y = 0 then none else some (x.tmod y)
def JoB (k : IntKind) (x y : Int) : Option Int := if y < 0 then none else some (k.wrap (x * 2 ^ (min y.toNat k.bits)))
def J9i (k : IntKind) (x y : Int) : Option Int := if y < 0 then none else some (x.fdiv (2 ^ (min y.toNat k.bits)))
def J3B (k : IntKind) (x y : Int) : Int := k.wrap (BitVec.ofInt k.bits x &&& BitVec.ofInt k.bits y).toNat
def orI (k : IntKind) (x y : Int) : Int := k.wrap (BitVec.ofInt k.bits x ||| BitVec.ofInt k.bits y).toNat
def J4V (k : IntKind) (x y : Int) : Int := k.wrap (BitVec.ofInt k.bits x ^^^ BitVec.ofInt k.bits y).toNat
def JkQ (k : IntKind) (n : Int) : Int := k.wrap (BitVec.ofInt k.bits (if k.signed then -1 else k.max) ^^^ BitVec.ofInt k.bits n).toNat
def J9h (a b : List UInt8) : Option (List UInt8) := if a.length + b.length ≤ 4611686018427387904 then some (a ++ b) else none
def JeL (l : List UInt8) (n : Int) : Option Int := if 0 ≤ n then (match l[n.toNat]? with | some u => some (u.toNat : Int) | none => none) else none
def J7G {k : Nat} (v : Vector α k) (n : Int) : Option α := if 0 ≤ n ∧ n < k then v[n.toNat]? else none
def JeY {k : Nat} (v : Vector α k) (n : Int) (x : α) : Vector α k := v.setIfInBounds n.toNat x
def toStr (l : List Int) : List UInt8 := l.map fun n => UInt8.ofNat n.toNat
def J6X (l : List UInt8) : List Int := l.map fun u => (u.toNat : Int)
def JpR (x y : Int) : Int := if y < x then y else x
def J71 (x y : Int) : Int := if y > x then y else x
end
@[reducible] def cat (a b : List PV) : List PV := a ++ b
def r_i (k : IntKind) (n : Int) : List PV := [.i k n]
def r_b (x : Bool) : List PV := [.b x]
def r_s (l : List UInt8) : List PV := [.s l]
def Jek {α : Type} (esz : Nat) (r : α → List PV) (l : List α) : List PV := [.sl esz (l.map r)]
theorem J7H (k : IntKind) (n : Int) : (r_i k n).length = 1 := rfl
def JM {α : Type} {n : Nat} (r : α → List PV) (v : Vector α n) : List PV := (v.toList.map r).flatten
section
variable {α : Type}
theorem J52 (cs : List α) (off size : Nat) : sub cs off size = if off + size ≤ cs.length then some ((cs.drop off).take size) else none := by
  unfold sub
  split
  · rename_i h
    obtain ⟨rfl, rfl⟩ := h
    simp
  · rfl
theorem J5t (cs : List α) (off : Nat) (vs : List α) : spl cs off vs = if off + vs.length ≤ cs.length then some (cs.take off ++ vs ++ cs.drop (off + vs.length)) else none := by
  unfold spl
  split
  · rename_i h
    obtain ⟨rfl, h⟩ := h
    rw [if_pos (by omega)]
    simp [← h]
  · rfl
theorem J77 {cs : List α} {n : Nat} (h : cs.length = n) : sub cs 0 n = some cs := by
  subst h; rw [J52]; simp
theorem J79 {cs vs : List α} (h : cs.length = vs.length) : spl cs 0 vs = some vs := by
  rw [J5t]; simp [h]
theorem J61 {a b c : List α} {off size : Nat} (h1 : a.length = off) (h2 : b.length = size) : sub (a ++ (b ++ c)) off size = some b := by
  subst h1 h2
  rw [J52, if_pos (by simp)]
  simp
theorem J5e {b c : List α} {size : Nat} (h2 : b.length = size) : sub (b ++ c) 0 size = some b := J61 (a := []) rfl h2
theorem J6e {a b : List α} {off size : Nat} (h1 : a.length = off) (h2 : b.length = size) : sub (a ++ b) off size = some b := by
  have := J61 (c := []) h1 h2; simpa using this
theorem J6c {a b c v : List α} {off : Nat} (h1 : a.length = off) (h2 : b.length = v.length) : spl (a ++ (b ++ c)) off v = some (a ++ (v ++ c)) := by
  subst h1
  rw [J5t, if_pos (by simp; omega), ← h2]
  simp
theorem J5b {b c v : List α} (h2 : b.length = v.length) : spl (b ++ c) 0 v = some (v ++ c) := J6c (a := []) rfl h2
theorem J6l {a b v : List α} {off : Nat} (h1 : a.length = off) (h2 : b.length = v.length) : spl (a ++ b) off v = some (a ++ v) := by
  have := J6c (c := []) h1 h2; simpa using this
theorem J4e {cs ds r : List α} {a m k n : Nat} (h1 : sub cs a m = some ds) (h2 : sub ds k n = some r) : sub cs (a + k) n = some r := by
  rw [J52] at h1 h2 ⊢
  split at h1
  · injection h1 with h1; subst h1
    split at h2
    · rename_i h3 h4
      injection h2 with h2; subst h2
      simp at h4
      rw [if_pos (by omega), List.drop_take, List.take_take, List.drop_drop]
      congr 2
      omega
    · cases h2
  · cases h1
theorem JkM {β : Type} (g : α → β) (cs : List α) (off size : Nat) : sub (cs.map g) off size = (sub cs off size).map (List.map g) := by
  rw [J52, J52]
  simp only [List.length_map]
  split <;> simp [List.map_drop, List.map_take]
theorem JgU {β : Type} (g : α → β) (cs : List α) (off : Nat) (vs : List α) : spl (cs.map g) off (vs.map g) = (spl cs off vs).map (List.map g) := by
  rw [J5t, J5t]
  simp only [List.length_map]
  split <;> simp [List.map_drop, List.map_take]
theorem J9F {n k w : Nat} {r : α → List PV} (hr : ∀ x, (r x).length = w) {v : Vector α n} {x : α} (h : v[k]? = some x) : sub (JM r v) (k * w) w = some (r x) := by
  have key : ∀ (l : List α) (k : Nat) (x : α), l[k]? = some x → sub ((l.map r).flatten) (k * w) w = some (r x) := by
    intro l
    induction l with
    | nil => intro k x h; simp at h
    | cons y l ih =>
      intro k x h
      cases k with
      | zero =>
        simp at h; subst h
        rw [Nat.zero_mul, List.map_cons, List.flatten_cons]
        exact J5e (hr _)
      | succ k =>
        simp at h
        have := ih k x h
        rw [List.map_cons, List.flatten_cons]
        rw [J52] at this ⊢
        split at this
        · injection this with this
          have e : (k + 1) * w = w + k * w := by rw [Nat.succ_mul]; omega
          rw [e, if_pos (by simp [hr]; simp at *; omega)]
          have e2 : w + k * w = (r y).length + k * w := by rw [hr]
          rw [e2, List.drop_length_add_append, this]
        · cases this
  exact key _ _ _ (by rw [← h]; simp)
theorem Jom {n k w : Nat} {r : α → List PV} (hr : ∀ x, (r x).length = w) {v : Vector α n} (h : k < n) (y : α) : spl (JM r v) (k * w) (r y) = some (JM r (v.setIfInBounds k y)) := by
  have key : ∀ (l : List α) (k : Nat), k < l.length → spl ((l.map r).flatten) (k * w) (r y) = some (((l.set k y).map r).flatten) := by
    intro l
    induction l with
    | nil => intro k h; simp at h
    | cons z l ih =>
      intro k h
      cases k with
      | zero =>
        rw [Nat.zero_mul, List.map_cons, List.flatten_cons]
        rw [J5b (by rw [hr, hr])]
        simp
      | succ k =>
        simp at h
        have := ih k h
        rw [List.map_cons, List.flatten_cons]
        rw [J5t] at this ⊢
        split at this
        · rename_i hle
          injection this with this
          have e : (k + 1) * w = (r z).length + k * w := by rw [Nat.succ_mul, hr]; omega
          rw [e, if_pos (by simp [hr] at hle ⊢; omega)]
          simp only [List.set_cons_succ, List.map_cons, List.flatten_cons]
          rw [← this]
          rw [show (r z).length + k * w + (r y).length = (r z).length + (k * w + (r y).length) by omega]
          simp only [List.take_length_add_append, List.drop_length_add_append, List.append_assoc]
        · cases this
  have h2 := key v.toList k (by simpa using h)
  unfold JM
  rw [h2]
  congr 3
  simp [Vector.setIfInBounds, Vector.toList]
theorem J3t {n w : Nat} {r : α → List PV} (hr : ∀ x, (r x).length = w) (v : Vector α n) : (JM r v).length = n * w := by
  have key : ∀ l : List α, ((l.map r).flatten).length = l.length * w := by
    intro l
    induction l with
    | nil => simp
    | cons x l ih => simp [ih, hr, Nat.succ_mul, Nat.add_comm]
  unfold JM
  rw [key]; simp
end
theorem JgC : ∀ l : List PV, unp (l.map AV.p) = some l
  | [] => rfl
  | x :: l => by simp [unp, JgC l]
theorem JcA (l : List PV) : J12 true (l.map AV.p) = some (.data l) := by simp [J12, JgC]
theorem JV : ∀ l : List PV, (l.map AV.p).all J2l = true
  | [] => rfl
  | x :: l => by simp
theorem JfA (m : Nat) (ids : List Nat) (sto : List Blk) : ∀ l : List PV, fin.finL m ids sto (l.map AV.p) = some (l.map AV.p)
  | [] => rfl
  | x :: l => by simp [fin.finL, fin, JfA m ids sto l]
theorem JjY (l : List PV) (acc : List Ent) : JL.entsOfL (l.map AV.p) acc = acc := J55 (JV l)
theorem J3b {α : Type} {r : α → List PV} {l : List α} {n : Int} {x : α} (h : idx l n = some x) : J8k (l.map r) n = some (r x) := by
  unfold idx at h
  unfold J8k
  split at h
  · rename_i h0
    rw [if_pos h0, List.getElem?_map, h]; rfl
  · cases h
theorem Jd9 {α : Type} {r : α → List PV} {l : List α} {n : Int} {x : α} (h : idx l n = some x) : (l.map r)[n.toNat]? = some (r x) := by
  unfold idx at h
  split at h
  · rw [List.getElem?_map, h]; rfl
  · cases h
theorem JeC {α : Type} {l : List α} {n : Int} {x : α} (h : idx l n = some x) : 0 ≤ n ∧ n.toNat < l.length := by
  unfold idx at h
  split at h
  · rename_i h0
    refine ⟨h0, ?_⟩
    have := List.getElem?_eq_some_iff.1 h
    exact this.1
  · cases h
theorem JbK {k : Nat} {n : Int} {u : Unit} (h : inb k n = some u) : 0 ≤ n ∧ n < k := by
  unfold inb at h
  split at h
  · assumption
  · cases h
theorem J56 {α : Type} {k : Nat} {v : Vector α k} {n : Int} {x : α} (h : J7G v n = some x) : (0 ≤ n ∧ n < k) ∧ v[n.toNat]? = some x := by
  unfold J7G at h
  split at h
  · exact ⟨by assumption, h⟩
  · cases h
theorem Jne {α : Type} {k : Nat} {v : Vector α k} {n : Int} {x : α} (h : J7G v n = some x) : n.toNat < k := by
  have := (J56 h).1; omega
theorem Jno {α : Type} {r : α → List PV} {esz bytes b : Nat} {w : Bool} {l l' l2 : List α} {y : AV} {s : St} (h : JhH bytes l l2 = some l') (hb : s.sto[b]? = some (.arr w esz (l.map r))) (hy : (JU esz y).run s = some (l2.map r)) :
    (J5G esz bytes (.slr b 0 l.length) y).run s = some ⟨.slr b 0 l'.length, [(b, .arr w esz (l'.map r))]⟩ := by
  unfold JhH at h
  split at h
  · rename_i hr
    injection h with h; subst h
    simp only [J5G, J41, hb, Option.bind_some, run_bind, hy]
    rw [if_pos ⟨by trivial, by trivial, by simp, by simpa using hr⟩]
    simp [J0O]
  · cases h
theorem Ja1 : ∀ l : List Int, J3J (l.map (r_i .u8)) = some (toStr l)
  | [] => rfl
  | x :: l => by simp [J3J, r_i, Ja1 l, toStr]
theorem Jdl (l : List UInt8) : l.map J2A = (J6X l).map (r_i .u8) := by simp [J6X, J2A, r_i, Function.comp_def]
theorem Jin {x : Option Int} {k : IntKind} {top d : Nat} : J51 (x.map fun n => AV.p (.i k n)) top d = Jdd x top d := by
  cases x <;> rfl
theorem Jnb {k : IntKind} {n : Nat} {lo hi : Option Int} : Jb8 n (lo.map fun n => AV.p (.i k n)) (hi.map fun n => AV.p (.i k n)) = Jh0 n lo hi := by
  unfold Jb8 Jh0
  rw [Jin]
  cases Jdd hi n n with
  | none => rfl
  | some h => simp only [Jin]; cases Jdd lo h 0 <;> rfl
theorem Jku {α : Type} {r : α → List PV} {esz : Nat} {k : IntKind} {l l' : List α} {lo hi : Option Int} (h : Jd7 l lo hi = some l') :
    J68 esz (.p (.sl esz (l.map r))) (lo.map fun n => AV.p (.i k n)) (hi.map fun n => AV.p (.i k n)) = some (.p (.sl esz (l'.map r))) := by
  unfold Jd7 at h
  simp only [J68, if_true, List.length_map, Jnb]
  split at h
  · rename_i c hc
    injection h with h; subst h
    rw [hc]; simp [List.map_drop, List.map_take]
  · cases h
def Jr (F : Orc) (f : FuncId) (a : List AV × List (Nat × Blk)) (k new : Nat) : RM Eff :=
  (J5B a.2 (JL.entsOfL a.1 []) (JL.entsOfL a.1 [])).bind fun es1 =>
  (J5B a.2 es1 es1).bind fun es =>
  if J2P (es.map Ent.id) then
    match ren.renL (fun e => J25 e es 0) a.1 with
    | none => .fail
    | some args' => (J3r a.2 (fun e => J25 e es 0) es).bind fun blks =>
      match F f args' blks with
      | none => .fail
      | some r => if r.2.length = es.length + k then
          match bk es new r.1, J2B es new new (r.2.drop es.length) with
          | some v, some fresh => (J2Y a.2 es new es r.2).bind fun back => .ret ⟨v, a.2 ++ back ++ fresh⟩
          | _, _ => .fail
        else .fail
  else .fail
theorem J8p (F : Orc) (f : FuncId) (args : List AV) (k new : Nat) : J57 F f args k new = (Ju args).bind fun a => Jr F f a k new := rfl
def Jdz : AV → Bool
  | .tup l => l.all J2l
  | v => J2l v
theorem Jft {es : List Ent} {new : Nat} {v : AV} (h : Jdz v = true) : bk es new v = some v := by
  cases v with
  | tup l => simp only [Jdz] at h; simp [bk, J91 h]
  | _ => exact JgL h
theorem JD {F : Orc} {f : FuncId} {args : List AV} {v : AV} (hp : args.all J2l = true) (hF : F f args [] = some (v, [])) (hv : Jdz v = true) (ws : List (Nat × Blk)) (new : Nat) (s : St) :
    (Jr F f (args, ws) 0 new).run s = some ⟨v, ws⟩ := by
  have e1 : JL.entsOfL args [] = [] := J55 hp
  simp only [Jr, run_bind, e1, J5B, J0O, Option.bind_some, List.map_nil, J2P, if_true, J73 hp, J3r, hF, List.length_nil, Nat.zero_add, List.drop_nil, J2B, J2Y, Jft hv, List.append_nil]
theorem JjA {F : Orc} {f : FuncId} {args : List AV} {cs : List AV} (hp : args.all J2l = true) (hF : F f args [] = some (.ptr 0 0, [.box cs])) (hc : cs.all J2l = true) (ws : List (Nat × Blk)) (new : Nat) (s : St) :
    (Jr F f (args, ws) 1 new).run s = some ⟨.ptr new 0, ws ++ [(new, .box cs)]⟩ := by
  have e1 : JL.entsOfL args [] = [] := J55 hp
  simp [Jr, run_bind, e1, J5B, J0O, J2P, J73 hp, J3r, hF, J2B, J2Y, bk, J91 hc]
theorem J9T {F : Orc} {f : FuncId} {args : List AV} {n esz : Nat} {w : Bool} {rows : List (List PV)} (hp : args.all J2l = true) (hF : F f args [] = some (.slr 0 0 n, [.arr w esz rows])) (ws : List (Nat × Blk)) (new : Nat) (s : St) :
    (Jr F f (args, ws) 1 new).run s = some ⟨.slr new 0 n, ws ++ [(new, .arr w esz rows)]⟩ := by
  have e1 : JL.entsOfL args [] = [] := J55 hp
  simp [Jr, run_bind, e1, J5B, J0O, J2P, J73 hp, J3r, hF, J2B, J2Y, bk]
def J2Q (ws : List (Nat × Blk)) (s : St) : List Nat → List (List AV) → Prop
  | [], [] => True
  | b :: bs, cs :: css => (J5J ws b).run s = some (.box cs) ∧ J2Q ws s bs css
  | _, _ => False
def J0J (css : List (List AV)) : Bool := css.all fun cs => cs.all J2l
theorem Jfa {ws : List (Nat × Blk)} {s : St} : ∀ {bs : List Nat} {css : List (List AV)} {acc : List Ent}, J2Q ws s bs css → J0J css = true → (J5B ws (bs.map .whole) acc).run s = some acc
  | [], [], _, _, _ => rfl
  | b :: bs, cs :: css, acc, h, hp => by
    simp only [J0J, List.all_cons, Bool.and_eq_true] at hp
    simp only [List.map_cons, J5B, run_bind, h.1, Option.bind_some, J55 hp.1]
    exact Jfa h.2 hp.2
theorem Jhm {ws : List (Nat × Blk)} {s : St} {ρ : Ent → Option Nat} : ∀ {bs : List Nat} {css : List (List AV)}, J2Q ws s bs css → J0J css = true → (J3r ws ρ (bs.map .whole)).run s = some (css.map .box)
  | [], [], _, _ => rfl
  | b :: bs, cs :: css, h, hp => by
    simp only [J0J, List.all_cons, Bool.and_eq_true] at hp
    simp only [List.map_cons, J3r, run_bind, Ja4, h.1, Option.bind_some, J73 hp.1, J0O, Jhm h.2 hp.2]
theorem Jfp {ws : List (Nat × Blk)} {s : St} {es : List Ent} {new : Nat} : ∀ {bs : List Nat} {css : List (List AV)}, bs.length = css.length → J0J css = true → (J2Y ws es new (bs.map .whole) (css.map .box)).run s = some (bs.zip (css.map .box))
  | [], [], _, _ => rfl
  | b :: bs, cs :: css, h, hp => by
    simp only [J0J, List.all_cons, Bool.and_eq_true] at hp
    simp only [List.map_cons, J2Y, run_bind, J8D, J91 hp.1, J0O, Option.bind_some, Jfp (bs := bs) (css := css) (by simpa using h) hp.2, List.zip_cons_cons]
  | [], _ :: _, h, _ => by simp at h
  | _ :: _, [], h, _ => by simp at h
theorem J3F {F : Orc} {f : FuncId} {args args' : List AV} {bs : List Nat} {css css' : List (List AV)} {v : AV} (he : JL.entsOfL args [] = bs.map .whole) (hn : J2P bs = true)
    (hr : ren.renL (fun e => J25 e (bs.map .whole) 0) args = some args') (hp : J0J css = true) (hF : F f args' (css.map .box) = some (v, css'.map .box)) (hl : bs.length = css'.length) (hv : Jdz v = true) (hp' : J0J css' = true)
    (ws : List (Nat × Blk)) (new : Nat) (s : St) (hb : J2Q ws s bs css) : (Jr F f (args, ws) 0 new).run s = some ⟨v, ws ++ bs.zip (css'.map .box)⟩ := by
  have e0 : (bs.map Ent.whole).map Ent.id = bs := by rw [List.map_map]; exact List.map_id bs
  have e1 : (css'.map Blk.box).length = (bs.map Ent.whole).length + 0 := by simp [hl]
  have e2 : (css'.map Blk.box).drop (bs.map Ent.whole).length = [] := by simp [hl]
  simp only [Jr, run_bind, he, Jfa hb hp, Option.bind_some, e0, hn, if_true, hr, Jhm hb hp, hF, e1, e2, Jft hv, J2B, Jfp hl hp', J0O, List.append_nil]
end Go.Am
end
