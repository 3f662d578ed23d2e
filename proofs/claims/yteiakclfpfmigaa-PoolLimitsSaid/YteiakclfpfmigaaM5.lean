/-
  Parts of a proof: AmTy.
-/
import Derived.Test.YteiakclfpfmigaaM4
set_option linter.unusedSimpArgs false
set_option linter.unusedVariables false
section
namespace Go.Am
section
variable {α : Type}
def idx (l : List α) (n : Int) : Option α := if 0 ≤ n then l[n.toNat]? else none
def inb (k : Nat) (n : Int) : Option Unit := if 0 ≤ n ∧ n < k then some () else none
def J9Z (bytes : Nat) (l l' : List α) : Option (List α) := if 0 < l'.length ∧ J4P (l.length + l'.length) bytes = true then some (l ++ l') else none
def JkS (k : IntKind) (x y : Int) : Option Int := if y = 0 then none else some (k.wrap (x.tdiv y))
def J7e (x y : Int) : Option Int := if y = 0 then none else some (x.tmod y)
def Jlp (k : IntKind) (x y : Int) : Option Int := if y < 0 then none else some (k.wrap (x * 2 ^ (min y.toNat k.bits)))
def J7h (k : IntKind) (x y : Int) : Option Int := if y < 0 then none else some (x.fdiv (2 ^ (min y.toNat k.bits)))
def J2J (k : IntKind) (x y : Int) : Int := k.wrap (BitVec.ofInt k.bits x &&& BitVec.ofInt k.bits y).toNat
def orI (k : IntKind) (x y : Int) : Int := k.wrap (BitVec.ofInt k.bits x ||| BitVec.ofInt k.bits y).toNat
def J3L (k : IntKind) (x y : Int) : Int := k.wrap (BitVec.ofInt k.bits x ^^^ BitVec.ofInt k.bits y).toNat
def Jhl (k : IntKind) (n : Int) : Int := k.wrap (BitVec.ofInt k.bits (if k.signed then -1 else k.max) ^^^ BitVec.ofInt k.bits n).toNat
def J7a (a b : List UInt8) : Option (List UInt8) := if a.length + b.length ≤ 4611686018427387904 then some (a ++ b) else none
def JbA (l : List UInt8) (n : Int) : Option Int := if 0 ≤ n then (match l[n.toNat]? with | some u => some (u.toNat : Int) | none => none) else none
def J6b {k : Nat} (v : Vector α k) (n : Int) : Option α := if 0 ≤ n ∧ n < k then v[n.toNat]? else none
def JbY {k : Nat} (v : Vector α k) (n : Int) (x : α) : Vector α k := v.setIfInBounds n.toNat x
def toStr (l : List Int) : List UInt8 := l.map fun n => UInt8.ofNat n.toNat
def J5c (l : List UInt8) : List Int := l.map fun u => (u.toNat : Int)
def Jme (x y : Int) : Int := if y < x then y else x
def J6e (x y : Int) : Int := if y > x then y else x
end
@[reducible] def cat (a b : List PV) : List PV := a ++ b
def r_i (k : IntKind) (n : Int) : List PV := [.i k n]
def r_b (x : Bool) : List PV := [.b x]
def r_s (l : List UInt8) : List PV := [.s l]
def JiL {α : Type} (esz : Nat) (r : α → List PV) (l : List α) : List PV := [.sl esz (l.map r)]
theorem J5P (k : IntKind) (n : Int) : (r_i k n).length = 1 := rfl
def JH {α : Type} {n : Nat} (r : α → List PV) (v : Vector α n) : List PV := (v.toList.map r).flatten
section
variable {α : Type}
theorem J3M (cs : List α) (off size : Nat) : sub cs off size = if off + size ≤ cs.length then some ((cs.drop off).take size) else none := by
  unfold sub
  split
  · rename_i h
    obtain ⟨rfl, rfl⟩ := h
    simp
  · rfl
theorem J4f (cs : List α) (off : Nat) (vs : List α) : spl cs off vs = if off + vs.length ≤ cs.length then some (cs.take off ++ vs ++ cs.drop (off + vs.length)) else none := by
  unfold spl
  split
  · rename_i h
    obtain ⟨rfl, h⟩ := h
    rw [if_pos (by omega)]
    simp [← h]
  · rfl
theorem J6v {cs : List α} {n : Nat} (h : cs.length = n) : sub cs 0 n = some cs := by
  subst h; rw [J3M]; simp
theorem J6w {cs vs : List α} (h : cs.length = vs.length) : spl cs 0 vs = some vs := by
  rw [J4f]; simp [h]
theorem J5j {a b c : List α} {off size : Nat} (h1 : a.length = off) (h2 : b.length = size) : sub (a ++ (b ++ c)) off size = some b := by
  subst h1 h2
  rw [J3M, if_pos (by simp)]
  simp
theorem J5D {b c : List α} {size : Nat} (h2 : b.length = size) : sub (b ++ c) 0 size = some b := J5j (a := []) rfl h2
theorem J6o {a b : List α} {off size : Nat} (h1 : a.length = off) (h2 : b.length = size) : sub (a ++ b) off size = some b := by
  have := J5j (c := []) h1 h2; simpa using this
theorem J5n {a b c v : List α} {off : Nat} (h1 : a.length = off) (h2 : b.length = v.length) : spl (a ++ (b ++ c)) off v = some (a ++ (v ++ c)) := by
  subst h1
  rw [J4f, if_pos (by simp; omega), ← h2]
  simp
theorem J5H {b c v : List α} (h2 : b.length = v.length) : spl (b ++ c) 0 v = some (v ++ c) := J5n (a := []) rfl h2
theorem J6t {a b v : List α} {off : Nat} (h1 : a.length = off) (h2 : b.length = v.length) : spl (a ++ b) off v = some (a ++ v) := by
  have := J5n (c := []) h1 h2; simpa using this
theorem J9i {cs ds r : List α} {a m k n : Nat} (h1 : sub cs a m = some ds) (h2 : sub ds k n = some r) : sub cs (a + k) n = some r := by
  rw [J3M] at h1 h2 ⊢
  split at h1
  · injection h1 with h1; subst h1
    split at h2
    · rename_i h3 h4
      injection h2 with h2; subst h2
      simp at h4
      rw [if_pos (by omega), List.drop_take, List.take_take, List.drop_drop]
      congr 2
      omega
    · cases h2
  · cases h1
theorem JhE {β : Type} (g : α → β) (cs : List α) (off size : Nat) : sub (cs.map g) off size = (sub cs off size).map (List.map g) := by
  rw [J3M, J3M]
  simp only [List.length_map]
  split <;> simp [List.map_drop, List.map_take]
theorem Je5 {β : Type} (g : α → β) (cs : List α) (off : Nat) (vs : List α) : spl (cs.map g) off (vs.map g) = (spl cs off vs).map (List.map g) := by
  rw [J4f, J4f]
  simp only [List.length_map]
  split <;> simp [List.map_drop, List.map_take]
theorem Jb5 {n k w : Nat} {r : α → List PV} (hr : ∀ x, (r x).length = w) {v : Vector α n} {x : α} (h : v[k]? = some x) : sub (JH r v) (k * w) w = some (r x) := by
  have key : ∀ (l : List α) (k : Nat) (x : α), l[k]? = some x → sub ((l.map r).flatten) (k * w) w = some (r x) := by
    intro l
    induction l with
    | nil => intro k x h; simp at h
    | cons y l ih =>
      intro k x h
      cases k with
      | zero =>
        simp at h; subst h
        rw [Nat.zero_mul, List.map_cons, List.flatten_cons]
        exact J5D (hr _)
      | succ k =>
        simp at h
        have := ih k x h
        rw [List.map_cons, List.flatten_cons]
        rw [J3M] at this ⊢
        split at this
        · injection this with this
          have e : (k + 1) * w = w + k * w := by rw [Nat.succ_mul]; omega
          rw [e, if_pos (by simp [hr]; simp at *; omega)]
          have e2 : w + k * w = (r y).length + k * w := by rw [hr]
          rw [e2, List.drop_length_add_append, this]
        · cases this
  exact key _ _ _ (by rw [← h]; simp)
theorem Jkw {n k w : Nat} {r : α → List PV} (hr : ∀ x, (r x).length = w) {v : Vector α n} (h : k < n) (y : α) : spl (JH r v) (k * w) (r y) = some (JH r (v.setIfInBounds k y)) := by
  have key : ∀ (l : List α) (k : Nat), k < l.length → spl ((l.map r).flatten) (k * w) (r y) = some (((l.set k y).map r).flatten) := by
    intro l
    induction l with
    | nil => intro k h; simp at h
    | cons z l ih =>
      intro k h
      cases k with
      | zero =>
        rw [Nat.zero_mul, List.map_cons, List.flatten_cons]
        rw [J5H (by rw [hr, hr])]
        simp
      | succ k =>
        simp at h
        have := ih k h
        rw [List.map_cons, List.flatten_cons]
        rw [J4f] at this ⊢
        split at this
        · rename_i hle
          injection this with this
          have e : (k + 1) * w = (r z).length + k * w := by rw [Nat.succ_mul, hr]; omega
          rw [e, if_pos (by simp [hr] at hle ⊢; omega)]
          simp only [List.set_cons_succ, List.map_cons, List.flatten_cons]
          rw [← this]
          rw [show (r z).length + k * w + (r y).length = (r z).length + (k * w + (r y).length) by omega]
          simp only [List.take_length_add_append, List.drop_length_add_append, List.append_assoc]
        · cases this
  have h2 := key v.toList k (by simpa using h)
  unfold JH
  rw [h2]
  congr 3
  simp [Vector.setIfInBounds, Vector.toList]
theorem J2C {n w : Nat} {r : α → List PV} (hr : ∀ x, (r x).length = w) (v : Vector α n) : (JH r v).length = n * w := by
  have key : ∀ l : List α, ((l.map r).flatten).length = l.length * w := by
    intro l
    induction l with
    | nil => simp
    | cons x l ih => simp [ih, hr, Nat.succ_mul, Nat.add_comm]
  unfold JH
  rw [key]; simp
end
theorem Je8 : ∀ l : List PV, unp (l.map AV.p) = some l
  | [] => rfl
  | x :: l => by simp [unp, Je8 l]
theorem J9I (l : List PV) : J0D true (l.map AV.p) = some (.data l) := by simp [J0D, Je8]
theorem J2a : ∀ l : List PV, (l.map AV.p).all J2m = true
  | [] => rfl
  | x :: l => by simp
theorem Jc7 (m : Nat) (ids : List Nat) (sto : List Blk) : ∀ l : List PV, fin.finL m ids sto (l.map AV.p) = some (l.map AV.p)
  | [] => rfl
  | x :: l => by simp [fin.finL, fin, Jc7 m ids sto l]
theorem Jgw (l : List PV) (acc : List Ent) : JJ.entsOfL (l.map AV.p) acc = acc := J4N (J2a l)
theorem J5k {α : Type} {r : α → List PV} {l : List α} {n : Int} {x : α} (h : idx l n = some x) : J6j (l.map r) n = some (r x) := by
  unfold idx at h
  unfold J6j
  split at h
  · rename_i h0
    rw [if_pos h0, List.getElem?_map, h]; rfl
  · cases h
theorem Jde {α : Type} {r : α → List PV} {l : List α} {n : Int} {x : α} (h : idx l n = some x) : (l.map r)[n.toNat]? = some (r x) := by
  unfold idx at h
  split at h
  · rw [List.getElem?_map, h]; rfl
  · cases h
theorem Jf1 {α : Type} {l : List α} {n : Int} {x : α} (h : idx l n = some x) : 0 ≤ n ∧ n.toNat < l.length := by
  unfold idx at h
  split at h
  · rename_i h0
    refine ⟨h0, ?_⟩
    have := List.getElem?_eq_some_iff.1 h
    exact this.1
  · cases h
theorem Jbl {k : Nat} {n : Int} {u : Unit} (h : inb k n = some u) : 0 ≤ n ∧ n < k := by
  unfold inb at h
  split at h
  · assumption
  · cases h
theorem J5h {α : Type} {k : Nat} {v : Vector α k} {n : Int} {x : α} (h : J6b v n = some x) : (0 ≤ n ∧ n < k) ∧ v[n.toNat]? = some x := by
  unfold J6b at h
  split at h
  · exact ⟨by assumption, h⟩
  · cases h
theorem Jj2 {α : Type} {k : Nat} {v : Vector α k} {n : Int} {x : α} (h : J6b v n = some x) : n.toNat < k := by
  have := (J5h h).1; omega
theorem J8b : ∀ l : List Int, J2Q (l.map (r_i .u8)) = some (toStr l)
  | [] => rfl
  | x :: l => by simp [J2Q, r_i, J8b l, toStr]
theorem Ja7 (l : List UInt8) : l.map J1W = (J5c l).map (r_i .u8) := by simp [J5c, J1W, r_i, Function.comp_def]
def Jx (F : Orc) (f : FuncId) (a : List AV × List (Nat × Blk)) (k new : Nat) : RM Eff :=
  (J4w a.2 (JJ.entsOfL a.1 []) (JJ.entsOfL a.1 [])).bind fun es1 =>
  (J4w a.2 es1 es1).bind fun es =>
  if J2r (es.map Ent.id) then
    match ren.renL (fun e => J1G e es 0) a.1 with
    | none => .fail
    | some args' => (J2W a.2 (fun e => J1G e es 0) es).bind fun blks =>
      match F f args' blks with
      | none => .fail
      | some r => if r.2.length = es.length + k then
          match bk es new r.1, J24 es new new (r.2.drop es.length) with
          | some v, some fresh => (J2t a.2 es new es r.2).bind fun back => .ret ⟨v, a.2 ++ back ++ fresh⟩
          | _, _ => .fail
        else .fail
  else .fail
theorem J6y (F : Orc) (f : FuncId) (args : List AV) (k new : Nat) : J3X F f args k new = (Jq args).bind fun a => Jx F f a k new := rfl
def JaR : AV → Bool
  | .tup l => l.all J2m
  | v => J2m v
theorem Jcr {es : List Ent} {new : Nat} {v : AV} (h : JaR v = true) : bk es new v = some v := by
  cases v with
  | tup l => simp only [JaR] at h; simp [bk, J8E h]
  | _ => exact Jdi h
theorem JZ {F : Orc} {f : FuncId} {args : List AV} {v : AV} (hp : args.all J2m = true) (hF : F f args [] = some (v, [])) (hv : JaR v = true) (ws : List (Nat × Blk)) (new : Nat) (s : St) :
    (Jx F f (args, ws) 0 new).run s = some ⟨v, ws⟩ := by
  have e1 : JJ.entsOfL args [] = [] := J4N hp
  simp only [Jx, run_bind, e1, J4w, J0J, Option.bind_some, List.map_nil, J2r, if_true, J63 hp, J2W, hF, List.length_nil, Nat.zero_add, List.drop_nil, J24, J2t, Jcr hv, List.append_nil]
theorem Jbi {F : Orc} {f : FuncId} {args : List AV} {n esz : Nat} {w : Bool} {rows : List (List PV)} (hp : args.all J2m = true) (hF : F f args [] = some (.slr 0 0 n, [.arr w esz rows])) (ws : List (Nat × Blk)) (new : Nat) (s : St) :
    (Jx F f (args, ws) 1 new).run s = some ⟨.slr new 0 n, ws ++ [(new, .arr w esz rows)]⟩ := by
  have e1 : JJ.entsOfL args [] = [] := J4N hp
  simp [Jx, run_bind, e1, J4w, J0J, J2r, J63 hp, J2W, hF, J24, J2t, bk]
def J4a (ws : List (Nat × Blk)) (s : St) : List Nat → List (List AV) → Prop
  | [], [] => True
  | b :: bs, cs :: css => (J4C ws b).run s = some (.box cs) ∧ J4a ws s bs css
  | _, _ => False
def J1V (css : List (List AV)) : Bool := css.all fun cs => cs.all J2m
theorem Jct {ws : List (Nat × Blk)} {s : St} : ∀ {bs : List Nat} {css : List (List AV)} {acc : List Ent}, J4a ws s bs css → J1V css = true → (J4w ws (bs.map .whole) acc).run s = some acc
  | [], [], _, _, _ => rfl
  | b :: bs, cs :: css, acc, h, hp => by
    simp only [J1V, List.all_cons, Bool.and_eq_true] at hp
    simp only [List.map_cons, J4w, run_bind, h.1, Option.bind_some, J4N hp.1]
    exact Jct h.2 hp.2
theorem Jdo {ws : List (Nat × Blk)} {s : St} {ρ : Ent → Option Nat} : ∀ {bs : List Nat} {css : List (List AV)}, J4a ws s bs css → J1V css = true → (J2W ws ρ (bs.map .whole)).run s = some (css.map .box)
  | [], [], _, _ => rfl
  | b :: bs, cs :: css, h, hp => by
    simp only [J1V, List.all_cons, Bool.and_eq_true] at hp
    simp only [List.map_cons, J2W, run_bind, J7L, h.1, Option.bind_some, J63 hp.1, J0J, Jdo h.2 hp.2]
theorem JcA {ws : List (Nat × Blk)} {s : St} {es : List Ent} {new : Nat} : ∀ {bs : List Nat} {css : List (List AV)}, bs.length = css.length → J1V css = true → (J2t ws es new (bs.map .whole) (css.map .box)).run s = some (bs.zip (css.map .box))
  | [], [], _, _ => rfl
  | b :: bs, cs :: css, h, hp => by
    simp only [J1V, List.all_cons, Bool.and_eq_true] at hp
    simp only [List.map_cons, J2t, run_bind, J6H, J8E hp.1, J0J, Option.bind_some, JcA (bs := bs) (css := css) (by simpa using h) hp.2, List.zip_cons_cons]
  | [], _ :: _, h, _ => by simp at h
  | _ :: _, [], h, _ => by simp at h
theorem J7i {F : Orc} {f : FuncId} {args args' : List AV} {bs : List Nat} {css css' : List (List AV)} {v : AV} (he : JJ.entsOfL args [] = bs.map .whole) (hn : J2r bs = true)
    (hr : ren.renL (fun e => J1G e (bs.map .whole) 0) args = some args') (hp : J1V css = true) (hF : F f args' (css.map .box) = some (v, css'.map .box)) (hl : bs.length = css'.length) (hv : JaR v = true) (hp' : J1V css' = true)
    (ws : List (Nat × Blk)) (new : Nat) (s : St) (hb : J4a ws s bs css) : (Jx F f (args, ws) 0 new).run s = some ⟨v, ws ++ bs.zip (css'.map .box)⟩ := by
  have e0 : (bs.map Ent.whole).map Ent.id = bs := by rw [List.map_map]; exact List.map_id bs
  have e1 : (css'.map Blk.box).length = (bs.map Ent.whole).length + 0 := by simp [hl]
  have e2 : (css'.map Blk.box).drop (bs.map Ent.whole).length = [] := by simp [hl]
  simp only [Jx, run_bind, he, Jct hb hp, Option.bind_some, e0, hn, if_true, hr, Jdo hb hp, hF, e1, e2, Jcr hv, J24, JcA hl hp', J0J, List.append_nil]
end Go.Am
end
