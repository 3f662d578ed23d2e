/-
  Parts of a proof: AmTy.
-/
import Derived.Test.YteiakclfpfmigaaM4
set_option linter.unusedSimpArgs false
set_option linter.unusedVariables false
section
namespace Go.Am
section
variable {α : Type}
def idx (l : List α) (n : Int) : Option α := if 0 ≤ n then l[n.toNat]? else none
def JfZ (bytes : Nat) (l l' : List α) : Option (List α) := if J6a (l.length + l'.length) bytes = true then some (l ++ l') else none
def mkS (bytes : Nat) (n m : Int) (z : α) : Option (List α) :=
  if 0 ≤ n ∧ n ≤ m ∧ bytes * m ≤ 281474976710656 ∧ m ≤ 281474976710656 then some (List.replicate n.toNat z) else none
def Je3 (x : Option Int) (top dflt : Nat) : Option Nat := match x with
  | none => some dflt
  | some n => if 0 ≤ n ∧ n ≤ top then some n.toNat else none
def Jha (n : Nat) (lo hi : Option Int) : Option (Nat × Nat) := match Je3 hi n n with
  | none => none
  | some h => match Je3 lo h 0 with
    | none => none
    | some l => some (l, h)
def Jg3 (l : List α) (lo hi : Option Int) : Option (List α) := match Jha l.length lo hi with
  | some c => some ((l.drop c.1).take (c.2 - c.1))
  | none => none
def Jms (k : IntKind) (x y : Int) : Option Int := if y = 0 then none else some (k.wrap (x.tdiv y))
def JfM (x y : Int) : Option Int := if y = 0 then none else some (x.tmod y)
def JfC (k : IntKind) (x y : Int) : Option Int := if y < 0 then none else some (k.wrap (x * 2 ^ (min y.toNat k.bits)))
def JmC (k : IntKind) (x y : Int) : Option Int := if y < 0 then none else some (x.fdiv (2 ^ (min y.toNat k.bits)))
def Jnw (k : IntKind) (x y : Int) : Int := k.wrap (BitVec.ofInt k.bits x &&& BitVec.ofInt k.bits y).toNat
def orI (k : IntKind) (x y : Int) : Int := k.wrap (BitVec.ofInt k.bits x ||| BitVec.ofInt k.bits y).toNat
def Jnv (k : IntKind) (x y : Int) : Int := k.wrap (BitVec.ofInt k.bits x ^^^ BitVec.ofInt k.bits y).toNat
def Jny (k : IntKind) (n : Int) : Int := k.wrap (BitVec.ofInt k.bits (if k.signed then -1 else k.max) ^^^ BitVec.ofInt k.bits n).toNat
def JmB (a b : List UInt8) : Option (List UInt8) := if a.length + b.length ≤ 4611686018427387904 then some (a ++ b) else none
def JdJ (l : List UInt8) (n : Int) : Option Int := if 0 ≤ n then (match l[n.toNat]? with | some u => some (u.toNat : Int) | none => none) else none
def toStr (l : List Int) : List UInt8 := l.map fun n => UInt8.ofNat n.toNat
def J6h (l : List UInt8) : List Int := l.map fun u => (u.toNat : Int)
def JnM (x y : Int) : Int := if y < x then y else x
def J7X (x y : Int) : Int := if y > x then y else x
end
@[reducible] def cat (a b : List PV) : List PV := a ++ b
def r_i (k : IntKind) (n : Int) : List PV := [.i k n]
def r_b (x : Bool) : List PV := [.b x]
def r_s (l : List UInt8) : List PV := [.s l]
def JdY {α : Type} (esz : Nat) (r : α → List PV) (l : List α) : List PV := [.sl esz (l.map r)]
section
variable {α : Type}
theorem J5l (cs : List α) (off size : Nat) : sub cs off size = if off + size ≤ cs.length then some ((cs.drop off).take size) else none := by
  unfold sub
  split
  · rename_i h
    obtain ⟨rfl, rfl⟩ := h
    simp
  · rfl
theorem J5R (cs : List α) (off : Nat) (vs : List α) : spl cs off vs = if off + vs.length ≤ cs.length then some (cs.take off ++ vs ++ cs.drop (off + vs.length)) else none := by
  unfold spl
  split
  · rename_i h
    obtain ⟨rfl, h⟩ := h
    rw [if_pos (by omega)]
    simp [← h]
  · rfl
theorem J9c {cs : List α} {n : Nat} (h : cs.length = n) : sub cs 0 n = some cs := by
  subst h; rw [J5l]; simp
theorem J9o {cs vs : List α} (h : cs.length = vs.length) : spl cs 0 vs = some vs := by
  rw [J5R]; simp [h]
theorem J3g {a b c : List α} {off size : Nat} (h1 : a.length = off) (h2 : b.length = size) : sub (a ++ (b ++ c)) off size = some b := by
  subst h1 h2
  rw [J5l, if_pos (by simp)]
  simp
theorem J6F {b c : List α} {size : Nat} (h2 : b.length = size) : sub (b ++ c) 0 size = some b := J3g (a := []) rfl h2
theorem J6K {a b : List α} {off size : Nat} (h1 : a.length = off) (h2 : b.length = size) : sub (a ++ b) off size = some b := by
  have := J3g (c := []) h1 h2; simpa using this
theorem J3f {a b c v : List α} {off : Nat} (h1 : a.length = off) (h2 : b.length = v.length) : spl (a ++ (b ++ c)) off v = some (a ++ (v ++ c)) := by
  subst h1
  rw [J5R, if_pos (by simp; omega), ← h2]
  simp
theorem J6v {b c v : List α} (h2 : b.length = v.length) : spl (b ++ c) 0 v = some (v ++ c) := J3f (a := []) rfl h2
theorem J6x {a b v : List α} {off : Nat} (h1 : a.length = off) (h2 : b.length = v.length) : spl (a ++ b) off v = some (a ++ v) := by
  have := J3f (c := []) h1 h2; simpa using this
theorem Jh3 {cs ds r : List α} {a m k n : Nat} (h1 : sub cs a m = some ds) (h2 : sub ds k n = some r) : sub cs (a + k) n = some r := by
  rw [J5l] at h1 h2 ⊢
  split at h1
  · injection h1 with h1; subst h1
    split at h2
    · rename_i h3 h4
      injection h2 with h2; subst h2
      simp at h4
      rw [if_pos (by omega), List.drop_take, List.take_take, List.drop_drop]
      congr 2
      omega
    · cases h2
  · cases h1
theorem JjF {β : Type} (g : α → β) (cs : List α) (off size : Nat) : sub (cs.map g) off size = (sub cs off size).map (List.map g) := by
  rw [J5l, J5l]
  simp only [List.length_map]
  split <;> simp [List.map_drop, List.map_take]
theorem Jga {β : Type} (g : α → β) (cs : List α) (off : Nat) (vs : List α) : spl (cs.map g) off (vs.map g) = (spl cs off vs).map (List.map g) := by
  rw [J5R, J5R]
  simp only [List.length_map]
  split <;> simp [List.map_drop, List.map_take]
end
theorem JcO : ∀ l : List PV, unp (l.map AV.p) = some l
  | [] => rfl
  | x :: l => by simp [unp, JcO l]
theorem Jc3 (l : List PV) : J1d true (l.map AV.p) = some (.data l) := by simp [J1d, JcO]
theorem Ji : ∀ l : List PV, (l.map AV.p).all J2n = true
  | [] => rfl
  | x :: l => by simp
theorem Jej (m : Nat) (ids : List Nat) (sto : List Blk) : ∀ l : List PV, fin.finL m ids sto (l.map AV.p) = some (l.map AV.p)
  | [] => rfl
  | x :: l => by simp [fin.finL, fin, Jej m ids sto l]
theorem Jis (l : List PV) (acc : List Ent) : JX.entsOfL (l.map AV.p) acc = acc := J3c (Ji l)
theorem J6o {α : Type} {r : α → List PV} {l : List α} {n : Int} {x : α} (h : idx l n = some x) : J7I (l.map r) n = some (r x) := by
  unfold idx at h
  unfold J7I
  split at h
  · rename_i h0
    rw [if_pos h0, List.getElem?_map, h]; rfl
  · cases h
theorem J6k {α : Type} {r : α → List PV} {l : List α} {n : Int} {x : α} (h : idx l n = some x) : (l.map r)[n.toNat]? = some (r x) := by
  unfold idx at h
  split at h
  · rw [List.getElem?_map, h]; rfl
  · cases h
theorem J9n {α : Type} {l : List α} {n : Int} {x : α} (h : idx l n = some x) : 0 ≤ n ∧ n.toNat < l.length := by
  unfold idx at h
  split at h
  · rename_i h0
    refine ⟨h0, ?_⟩
    have := List.getElem?_eq_some_iff.1 h
    exact this.1
  · cases h
theorem JkX {α : Type} {r : α → List PV} {esz bytes b : Nat} {w : Bool} {l l' l2 : List α} {y : AV} {s : St} (h : JfZ bytes l l2 = some l') (hb : s.sto[b]? = some (.arr w esz (l.map r))) (hy : (J0e esz y).run s = some (l2.map r)) :
    (J5m esz bytes (.slr b 0 l.length) y).run s = some ⟨.slr b 0 l'.length, [(b, .arr w esz (l'.map r))]⟩ := by
  unfold JfZ at h
  split at h
  · rename_i hr
    injection h with h; subst h
    simp only [J5m, J44, hb, Option.bind_some, run_bind, hy]
    rw [if_pos ⟨by trivial, by trivial, by simp, by simpa using hr⟩]
    simp [J0P]
  · cases h
theorem Jad : ∀ l : List Int, J3P (l.map (r_i .u8)) = some (toStr l)
  | [] => rfl
  | x :: l => by simp [J3P, r_i, Jad l, toStr]
theorem Jcs (l : List UInt8) : l.map J2M = (J6h l).map (r_i .u8) := by simp [J6h, J2M, r_i, Function.comp_def]
theorem J9l {α : Type} {bytes : Nat} {n m : Int} {z : α} {l : List α} (h : mkS bytes n m z = some l) : (0 ≤ n ∧ n ≤ m ∧ bytes * m ≤ 281474976710656 ∧ m ≤ 281474976710656) ∧ l = List.replicate n.toNat z := by
  unfold mkS at h
  split at h
  · injection h with h; exact ⟨by assumption, h.symm⟩
  · cases h
theorem Jh4 {x : Option Int} {k : IntKind} {top d : Nat} : J4Q (x.map fun n => AV.p (.i k n)) top d = Je3 x top d := by
  cases x <;> rfl
theorem Jl6 {k : IntKind} {n : Nat} {lo hi : Option Int} : Jbf n (lo.map fun n => AV.p (.i k n)) (hi.map fun n => AV.p (.i k n)) = Jha n lo hi := by
  unfold Jbf Jha
  rw [Jh4]
  cases Je3 hi n n with
  | none => rfl
  | some h => simp only [Jh4]; cases Je3 lo h 0 <;> rfl
theorem Jif {α : Type} {r : α → List PV} {esz : Nat} {k : IntKind} {l l' : List α} {lo hi : Option Int} (h : Jg3 l lo hi = some l') :
    J5B esz (.p (.sl esz (l.map r))) (lo.map fun n => AV.p (.i k n)) (hi.map fun n => AV.p (.i k n)) = some (.p (.sl esz (l'.map r))) := by
  unfold Jg3 at h
  simp only [J5B, if_true, List.length_map, Jl6]
  split at h
  · rename_i c hc
    injection h with h; subst h
    rw [hc]; simp [List.map_drop, List.map_take]
  · cases h
def Jr (F : Orc) (f : FuncId) (a : List AV × List (Nat × Blk)) (k new : Nat) : RM Eff :=
  (J4x a.2 (JX.entsOfL a.1 []) (JX.entsOfL a.1 [])).bind fun es1 =>
  (J4x a.2 es1 es1).bind fun es =>
  if J2k (es.map Ent.id) then
    match ren.renL (fun e => J1R e es 0) a.1 with
    | none => .fail
    | some args' => (J2A a.2 (fun e => J1R e es 0) es).bind fun blks =>
      match F f args' blks with
      | none => .fail
      | some r => if r.2.length = es.length + k then
          match bk es new r.1, J25 es new new (r.2.drop es.length) with
          | some v, some fresh => (J1v a.2 es new es r.2).bind fun back => .ret ⟨v, a.2 ++ back ++ fresh⟩
          | _, _ => .fail
        else .fail
  else .fail
theorem J7M (F : Orc) (f : FuncId) (args : List AV) (k new : Nat) : J56 F f args k new = (JE args).bind fun a => Jr F f a k new := rfl
def Jb6 : AV → Bool
  | .tup l => l.all J2n
  | v => J2n v
theorem Jb4 {es : List Ent} {new : Nat} {v : AV} (h : Jb6 v = true) : bk es new v = some v := by
  cases v with
  | tup l => simp only [Jb6] at h; simp [bk, J8v h]
  | _ => exact JfT h
theorem J0b {F : Orc} {f : FuncId} {args : List AV} {v : AV} (hp : args.all J2n = true) (hF : F f args [] = some (v, [])) (hv : Jb6 v = true) (ws : List (Nat × Blk)) (new : Nat) (s : St) :
    (Jr F f (args, ws) 0 new).run s = some ⟨v, ws⟩ := by
  have e1 : JX.entsOfL args [] = [] := J3c hp
  simp only [Jr, run_bind, e1, J4x, J0P, Option.bind_some, List.map_nil, J2k, if_true, J3I hp, J2A, hF, List.length_nil, Nat.zero_add, List.drop_nil, J25, J1v, Jb4 hv, List.append_nil]
theorem Jhy {F : Orc} {f : FuncId} {args : List AV} {cs : List AV} (hp : args.all J2n = true) (hF : F f args [] = some (.ptr 0 0, [.box cs])) (hc : cs.all J2n = true) (ws : List (Nat × Blk)) (new : Nat) (s : St) :
    (Jr F f (args, ws) 1 new).run s = some ⟨.ptr new 0, ws ++ [(new, .box cs)]⟩ := by
  have e1 : JX.entsOfL args [] = [] := J3c hp
  simp [Jr, run_bind, e1, J4x, J0P, J2k, J3I hp, J2A, hF, J25, J1v, bk, J8v hc]
theorem Jdj {F : Orc} {f : FuncId} {args : List AV} {n esz : Nat} {w : Bool} {rows : List (List PV)} (hp : args.all J2n = true) (hF : F f args [] = some (.slr 0 0 n, [.arr w esz rows])) (ws : List (Nat × Blk)) (new : Nat) (s : St) :
    (Jr F f (args, ws) 1 new).run s = some ⟨.slr new 0 n, ws ++ [(new, .arr w esz rows)]⟩ := by
  have e1 : JX.entsOfL args [] = [] := J3c hp
  simp [Jr, run_bind, e1, J4x, J0P, J2k, J3I hp, J2A, hF, J25, J1v, bk]
def J0a (ws : List (Nat × Blk)) (s : St) : List Nat → List (List AV) → Prop
  | [], [] => True
  | b :: bs, cs :: css => (J4V ws b).run s = some (.box cs) ∧ J0a ws s bs css
  | _, _ => False
def Jx (css : List (List AV)) : Bool := css.all fun cs => cs.all J2n
theorem J8E {ws : List (Nat × Blk)} {s : St} : ∀ {bs : List Nat} {css : List (List AV)} {acc : List Ent}, J0a ws s bs css → Jx css = true → (J4x ws (bs.map .whole) acc).run s = some acc
  | [], [], _, _, _ => rfl
  | b :: bs, cs :: css, acc, h, hp => by
    simp only [Jx, List.all_cons, Bool.and_eq_true] at hp
    simp only [List.map_cons, J4x, run_bind, h.1, Option.bind_some, J3c hp.1]
    exact J8E h.2 hp.2
theorem J83 {ws : List (Nat × Blk)} {s : St} {ρ : Ent → Option Nat} : ∀ {bs : List Nat} {css : List (List AV)}, J0a ws s bs css → Jx css = true → (J2A ws ρ (bs.map .whole)).run s = some (css.map .box)
  | [], [], _, _ => rfl
  | b :: bs, cs :: css, h, hp => by
    simp only [Jx, List.all_cons, Bool.and_eq_true] at hp
    simp only [List.map_cons, J2A, run_bind, J8s, h.1, Option.bind_some, J3I hp.1, J0P, J83 h.2 hp.2]
theorem Jb8 {ws : List (Nat × Blk)} {s : St} {es : List Ent} {new : Nat} : ∀ {bs : List Nat} {css : List (List AV)}, bs.length = css.length → Jx css = true → (J1v ws es new (bs.map .whole) (css.map .box)).run s = some (bs.zip (css.map .box))
  | [], [], _, _ => rfl
  | b :: bs, cs :: css, h, hp => by
    simp only [Jx, List.all_cons, Bool.and_eq_true] at hp
    simp only [List.map_cons, J1v, run_bind, J65, J8v hp.1, J0P, Option.bind_some, Jb8 (bs := bs) (css := css) (by simpa using h) hp.2, List.zip_cons_cons]
  | [], _ :: _, h, _ => by simp at h
  | _ :: _, [], h, _ => by simp at h
theorem J0v {F : Orc} {f : FuncId} {args args' : List AV} {bs : List Nat} {css css' : List (List AV)} {v : AV} (he : JX.entsOfL args [] = bs.map .whole) (hn : J2k bs = true)
    (hr : ren.renL (fun e => J1R e (bs.map .whole) 0) args = some args') (hp : Jx css = true) (hF : F f args' (css.map .box) = some (v, css'.map .box)) (hl : bs.length = css'.length) (hv : Jb6 v = true) (hp' : Jx css' = true)
    (ws : List (Nat × Blk)) (new : Nat) (s : St) (hb : J0a ws s bs css) : (Jr F f (args, ws) 0 new).run s = some ⟨v, ws ++ bs.zip (css'.map .box)⟩ := by
  have e0 : (bs.map Ent.whole).map Ent.id = bs := by rw [List.map_map]; exact List.map_id bs
  have e1 : (css'.map Blk.box).length = (bs.map Ent.whole).length + 0 := by simp [hl]
  have e2 : (css'.map Blk.box).drop (bs.map Ent.whole).length = [] := by simp [hl]
  simp only [Jr, run_bind, he, J8E hb hp, Option.bind_some, e0, hn, if_true, hr, J83 hb hp, hF, e1, e2, Jb4 hv, J25, Jb8 hl hp', J0P, List.append_nil]
end Go.Am
end
