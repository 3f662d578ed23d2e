/-
  The abstract machine: values with types, and the operations on them.
-/
import Derived.Test.YteiakclfpfmigaaAmCps
set_option linter.unusedSimpArgs false
set_option linter.unusedVariables false
namespace Go.Am

/-! ### Operations on values with types -/

section
variable {α : Type}

def idx (l : List α) (n : Int) : Option α := if 0 ≤ n then l[n.toNat]? else none
def inb (k : Nat) (n : Int) : Option Unit := if 0 ≤ n ∧ n < k then some () else none
def appS (bytes : Nat) (l l' : List α) : Option (List α) := if roomy (l.length + l'.length) bytes = true then some (l ++ l') else none
def cloS (bytes : Nat) (l : List α) : Option (List α) := if roomy l.length bytes = true then some l else none
def mkS (bytes : Nat) (n m : Int) (z : α) : Option (List α) :=
  if 0 ≤ n ∧ n ≤ m ∧ bytes * m ≤ 281474976710656 ∧ m ≤ 281474976710656 then some (List.replicate n.toNat z) else none
def bndS (x : Option Int) (top dflt : Nat) : Option Nat := match x with
  | none => some dflt
  | some n => if 0 ≤ n ∧ n ≤ top then some n.toNat else none
def cutS (n : Nat) (lo hi : Option Int) : Option (Nat × Nat) := match bndS hi n n with
  | none => none
  | some h => match bndS lo h 0 with
    | none => none
    | some l => some (l, h)
def slcS (l : List α) (lo hi : Option Int) : Option (List α) := match cutS l.length lo hi with
  | some c => some ((l.drop c.1).take (c.2 - c.1))
  | none => none
def quoS (k : IntKind) (x y : Int) : Option Int := if y = 0 then none else some (k.wrap (x.tdiv y))
def remS (x y : Int) : Option Int := if y = 0 then none else some (x.tmod y)
def shlS (k : IntKind) (x y : Int) : Option Int := if y < 0 then none else some (k.wrap (x * 2 ^ (min y.toNat k.bits)))
def shrS (k : IntKind) (x y : Int) : Option Int := if y < 0 then none else some (x.fdiv (2 ^ (min y.toNat k.bits)))
def andI (k : IntKind) (x y : Int) : Int := k.wrap (BitVec.ofInt k.bits x &&& BitVec.ofInt k.bits y).toNat
def orI (k : IntKind) (x y : Int) : Int := k.wrap (BitVec.ofInt k.bits x ||| BitVec.ofInt k.bits y).toNat
def xorI (k : IntKind) (x y : Int) : Int := k.wrap (BitVec.ofInt k.bits x ^^^ BitVec.ofInt k.bits y).toNat
def notI (k : IntKind) (n : Int) : Int := k.wrap (BitVec.ofInt k.bits (if k.signed then -1 else k.max) ^^^ BitVec.ofInt k.bits n).toNat
def catS (a b : List UInt8) : Option (List UInt8) := if a.length + b.length ≤ 4611686018427387904 then some (a ++ b) else none
def sidS (l : List UInt8) (n : Int) : Option Int := if 0 ≤ n then (match l[n.toNat]? with | some u => some (u.toNat : Int) | none => none) else none
def vget {k : Nat} (v : Vector α k) (n : Int) : Option α := if 0 ≤ n ∧ n < k then v[n.toNat]? else none
def vset {k : Nat} (v : Vector α k) (n : Int) (x : α) : Vector α k := v.setIfInBounds n.toNat x
def toStr (l : List Int) : List UInt8 := l.map fun n => UInt8.ofNat n.toNat
def toByt (l : List UInt8) : List Int := l.map fun u => (u.toNat : Int)
def minI (x y : Int) : Int := if y < x then y else x
def maxI (x y : Int) : Int := if y > x then y else x

end

/-! ### Their cells -/

/-- Cells put together. -/
@[reducible] def cat (a b : List PV) : List PV := a ++ b

def r_i (k : IntKind) (n : Int) : List PV := [.i k n]
def r_b (x : Bool) : List PV := [.b x]
def r_s (l : List UInt8) : List PV := [.s l]
def r_sl {α : Type} (esz : Nat) (r : α → List PV) (l : List α) : List PV := [.sl esz (l.map r)]
theorem r_i_len (k : IntKind) (n : Int) : (r_i k n).length = 1 := rfl
theorem r_b_len (x : Bool) : (r_b x).length = 1 := rfl
theorem r_s_len (l : List UInt8) : (r_s l).length = 1 := rfl
theorem r_sl_len {α : Type} (esz : Nat) (r : α → List PV) (l : List α) : (r_sl esz r l).length = 1 := rfl

def e_ar {α : Type} {n : Nat} (r : α → List PV) (v : Vector α n) : List PV := (v.toList.map r).flatten

section
variable {α : Type}

theorem sub_def (cs : List α) (off size : Nat) : sub cs off size = if off + size ≤ cs.length then some ((cs.drop off).take size) else none := by
  unfold sub
  split
  · rename_i h
    obtain ⟨rfl, rfl⟩ := h
    simp
  · rfl

theorem spl_def (cs : List α) (off : Nat) (vs : List α) : spl cs off vs = if off + vs.length ≤ cs.length then some (cs.take off ++ vs ++ cs.drop (off + vs.length)) else none := by
  unfold spl
  split
  · rename_i h
    obtain ⟨rfl, h⟩ := h
    rw [if_pos (by omega)]
    simp [← h]
  · rfl

theorem sub_all {cs : List α} {n : Nat} (h : cs.length = n) : sub cs 0 n = some cs := by
  subst h; rw [sub_def]; simp

theorem spl_all {cs vs : List α} (h : cs.length = vs.length) : spl cs 0 vs = some vs := by
  rw [spl_def]; simp [h]

theorem sub_parts {a b c : List α} {off size : Nat} (h1 : a.length = off) (h2 : b.length = size) : sub (a ++ (b ++ c)) off size = some b := by
  subst h1 h2
  rw [sub_def, if_pos (by simp)]
  simp

theorem sub_parts0 {b c : List α} {size : Nat} (h2 : b.length = size) : sub (b ++ c) 0 size = some b := sub_parts (a := []) rfl h2
theorem sub_partsE {a b : List α} {off size : Nat} (h1 : a.length = off) (h2 : b.length = size) : sub (a ++ b) off size = some b := by
  have := sub_parts (c := []) h1 h2; simpa using this

theorem spl_parts {a b c v : List α} {off : Nat} (h1 : a.length = off) (h2 : b.length = v.length) : spl (a ++ (b ++ c)) off v = some (a ++ (v ++ c)) := by
  subst h1
  rw [spl_def, if_pos (by simp; omega), ← h2]
  simp

theorem spl_parts0 {b c v : List α} (h2 : b.length = v.length) : spl (b ++ c) 0 v = some (v ++ c) := spl_parts (a := []) rfl h2
theorem spl_partsE {a b v : List α} {off : Nat} (h1 : a.length = off) (h2 : b.length = v.length) : spl (a ++ b) off v = some (a ++ v) := by
  have := spl_parts (c := []) h1 h2; simpa using this

/-- A part of a part. -/
theorem sub_sub {cs ds r : List α} {a m k n : Nat} (h1 : sub cs a m = some ds) (h2 : sub ds k n = some r) : sub cs (a + k) n = some r := by
  rw [sub_def] at h1 h2 ⊢
  split at h1
  · injection h1 with h1; subst h1
    split at h2
    · rename_i h3 h4
      injection h2 with h2; subst h2
      simp at h4
      rw [if_pos (by omega), List.drop_take, List.take_take, List.drop_drop]
      congr 2
      omega
    · cases h2
  · cases h1

theorem spl_spl {cs ds ds' v cs' : List α} {a m k : Nat} (h1 : sub cs a m = some ds) (h2 : spl ds k v = some ds') (h3 : spl cs a ds' = some cs') : spl cs (a + k) v = some cs' := by
  rw [sub_def] at h1
  rw [spl_def] at h2 h3 ⊢
  split at h1
  · rename_i h4
    injection h1 with h1; subst h1
    split at h2
    · rename_i h5
      injection h2 with h2; subst h2
      simp at h5
      split at h3
      · injection h3 with h3; subst h3
        rw [if_pos (by omega)]
        congr 1
        simp only [List.length_append, List.length_take, List.length_drop, List.take_take, List.drop_take, List.drop_drop, List.append_assoc]
        have e1 : cs.take (a + k) = cs.take a ++ (cs.drop a).take k := List.take_add ..
        rw [e1, List.append_assoc]
        rw [show min k m = k by omega]
        congr 3
        have e2 : cs.drop (a + k + v.length) = (cs.drop (a + (k + v.length))).take (m - (k + v.length)) ++ cs.drop (a + m) := by
          have := List.take_append_drop (m - (k + v.length)) (cs.drop (a + (k + v.length)))
          rw [List.drop_drop] at this
          rw [show a + (k + v.length) + (m - (k + v.length)) = a + m by omega] at this
          rw [this]; congr 1; omega
        rw [e2]
        congr 2
        omega
      · cases h3
    · cases h2
  · cases h1

theorem sub_mapp {β : Type} (g : α → β) (cs : List α) (off size : Nat) : sub (cs.map g) off size = (sub cs off size).map (List.map g) := by
  rw [sub_def, sub_def]
  simp only [List.length_map]
  split <;> simp [List.map_drop, List.map_take]

theorem spl_mapp {β : Type} (g : α → β) (cs : List α) (off : Nat) (vs : List α) : spl (cs.map g) off (vs.map g) = (spl cs off vs).map (List.map g) := by
  rw [spl_def, spl_def]
  simp only [List.length_map]
  split <;> simp [List.map_drop, List.map_take]

theorem spl_mapp1 {β : Type} (g : α → β) (cs : List α) (off : Nat) (v : α) : spl (cs.map g) off [g v] = (spl cs off [v]).map (List.map g) := spl_mapp g cs off [v]

theorem ar_sub {n k w : Nat} {r : α → List PV} (hr : ∀ x, (r x).length = w) {v : Vector α n} {x : α} (h : v[k]? = some x) : sub (e_ar r v) (k * w) w = some (r x) := by
  have key : ∀ (l : List α) (k : Nat) (x : α), l[k]? = some x → sub ((l.map r).flatten) (k * w) w = some (r x) := by
    intro l
    induction l with
    | nil => intro k x h; simp at h
    | cons y l ih =>
      intro k x h
      cases k with
      | zero =>
        simp at h; subst h
        rw [Nat.zero_mul, List.map_cons, List.flatten_cons]
        exact sub_parts0 (hr _)
      | succ k =>
        simp at h
        have := ih k x h
        rw [List.map_cons, List.flatten_cons]
        rw [sub_def] at this ⊢
        split at this
        · injection this with this
          have e : (k + 1) * w = w + k * w := by rw [Nat.succ_mul]; omega
          rw [e, if_pos (by simp [hr]; simp at *; omega)]
          have e2 : w + k * w = (r y).length + k * w := by rw [hr]
          rw [e2, List.drop_length_add_append, this]
        · cases this
  exact key _ _ _ (by rw [← h]; simp)

theorem ar_spl {n k w : Nat} {r : α → List PV} (hr : ∀ x, (r x).length = w) {v : Vector α n} (h : k < n) (y : α) : spl (e_ar r v) (k * w) (r y) = some (e_ar r (v.setIfInBounds k y)) := by
  have key : ∀ (l : List α) (k : Nat), k < l.length → spl ((l.map r).flatten) (k * w) (r y) = some (((l.set k y).map r).flatten) := by
    intro l
    induction l with
    | nil => intro k h; simp at h
    | cons z l ih =>
      intro k h
      cases k with
      | zero =>
        rw [Nat.zero_mul, List.map_cons, List.flatten_cons]
        rw [spl_parts0 (by rw [hr, hr])]
        simp
      | succ k =>
        simp at h
        have := ih k h
        rw [List.map_cons, List.flatten_cons]
        rw [spl_def] at this ⊢
        split at this
        · rename_i hle
          injection this with this
          have e : (k + 1) * w = (r z).length + k * w := by rw [Nat.succ_mul, hr]; omega
          rw [e, if_pos (by simp [hr] at hle ⊢; omega)]
          simp only [List.set_cons_succ, List.map_cons, List.flatten_cons]
          rw [← this]
          rw [show (r z).length + k * w + (r y).length = (r z).length + (k * w + (r y).length) by omega]
          simp only [List.take_length_add_append, List.drop_length_add_append, List.append_assoc]
        · cases this
  have h2 := key v.toList k (by simpa using h)
  unfold e_ar
  rw [h2]
  congr 3
  simp [Vector.setIfInBounds, Vector.toList]

theorem ar_len {n w : Nat} {r : α → List PV} (hr : ∀ x, (r x).length = w) (v : Vector α n) : (e_ar r v).length = n * w := by
  have key : ∀ l : List α, ((l.map r).flatten).length = l.length * w := by
    intro l
    induction l with
    | nil => simp
    | cons x l ih => simp [ih, hr, Nat.succ_mul, Nat.add_comm]
  unfold e_ar
  rw [key]; simp

end

/-! ### Cells of values -/

theorem unp_mapp : ∀ l : List PV, unp (l.map AV.p) = some l
  | [] => rfl
  | x :: l => by simp [unp, unp_mapp l]

theorem ofCells_agg (l : List PV) : ofCells true (l.map AV.p) = some (.data l) := by simp [ofCells, unp_mapp]

theorem all_plain_mapp : ∀ l : List PV, (l.map AV.p).all plainA = true
  | [] => rfl
  | x :: l => by simp

theorem finL_mapp (m : Nat) (ids : List Nat) (sto : List Blk) : ∀ l : List PV, fin.finL m ids sto (l.map AV.p) = some (l.map AV.p)
  | [] => rfl
  | x :: l => by simp [fin.finL, fin, finL_mapp m ids sto l]

theorem ents_mapp (l : List PV) (acc : List Ent) : entsOf.entsOfL (l.map AV.p) acc = acc := ents_plain (all_plain_mapp l)

theorem rowAt_idx {α : Type} {r : α → List PV} {l : List α} {n : Int} {x : α} (h : idx l n = some x) : rowAt (l.map r) n = some (r x) := by
  unfold idx at h
  unfold rowAt
  split at h
  · rename_i h0
    rw [if_pos h0, List.getElem?_map, h]; rfl
  · cases h

theorem getq_idx {α : Type} {r : α → List PV} {l : List α} {n : Int} {x : α} (h : idx l n = some x) : (l.map r)[n.toNat]? = some (r x) := by
  unfold idx at h
  split at h
  · rw [List.getElem?_map, h]; rfl
  · cases h

theorem idx_inb {α : Type} {l : List α} {n : Int} {x : α} (h : idx l n = some x) : 0 ≤ n ∧ n.toNat < l.length := by
  unfold idx at h
  split at h
  · rename_i h0
    refine ⟨h0, ?_⟩
    have := List.getElem?_eq_some_iff.1 h
    exact this.1
  · cases h

theorem inb_iff {k : Nat} {n : Int} {u : Unit} (h : inb k n = some u) : 0 ≤ n ∧ n < k := by
  unfold inb at h
  split at h
  · assumption
  · cases h

theorem vget_iff {α : Type} {k : Nat} {v : Vector α k} {n : Int} {x : α} (h : vget v n = some x) : (0 ≤ n ∧ n < k) ∧ v[n.toNat]? = some x := by
  unfold vget at h
  split at h
  · exact ⟨by assumption, h⟩
  · cases h

theorem vget_lt {α : Type} {k : Nat} {v : Vector α k} {n : Int} {x : α} (h : vget v n = some x) : n.toNat < k := by
  have := (vget_iff h).1; omega

theorem appR_ok {α : Type} {r : α → List PV} {esz bytes b : Nat} {w : Bool} {l l' l2 : List α} {y : AV} {s : St} (h : appS bytes l l2 = some l') (hb : s.sto[b]? = some (.arr w esz (l.map r))) (hy : (rowsOf esz y).run s = some (l2.map r)) :
    (appR esz bytes (.slr b 0 l.length) y).run s = some ⟨.slr b 0 l'.length, [(b, .arr w esz (l'.map r))]⟩ := by
  unfold appS at h
  split at h
  · rename_i hr
    injection h with h; subst h
    simp only [appR, run_blk, hb, Option.bind_some, run_bind, hy]
    rw [if_pos ⟨by trivial, by trivial, by simp, by simpa using hr⟩]
    simp [run_ret]
  · cases h

theorem bytesOf_ok : ∀ l : List Int, bytesOf (l.map (r_i .u8)) = some (toStr l)
  | [] => rfl
  | x :: l => by simp [bytesOf, r_i, bytesOf_ok l, toStr]

theorem byteRows (l : List UInt8) : l.map byteRow = (toByt l).map (r_i .u8) := by simp [toByt, byteRow, r_i, Function.comp_def]

theorem cloS_iff {α : Type} {bytes : Nat} {l l' : List α} (h : cloS bytes l = some l') : roomy l.length bytes = true ∧ l' = l := by
  unfold cloS at h
  split at h
  · injection h with h; exact ⟨by assumption, h.symm⟩
  · cases h

theorem mkS_iff {α : Type} {bytes : Nat} {n m : Int} {z : α} {l : List α} (h : mkS bytes n m z = some l) : (0 ≤ n ∧ n ≤ m ∧ bytes * m ≤ 281474976710656 ∧ m ≤ 281474976710656) ∧ l = List.replicate n.toNat z := by
  unfold mkS at h
  split at h
  · injection h with h; exact ⟨by assumption, h.symm⟩
  · cases h

theorem bnd_run {x : Option Int} {k : IntKind} {top d : Nat} : boundOf (x.map fun n => AV.p (.i k n)) top d = bndS x top d := by
  cases x <;> rfl

theorem cut_run {k : IntKind} {n : Nat} {lo hi : Option Int} : cutN n (lo.map fun n => AV.p (.i k n)) (hi.map fun n => AV.p (.i k n)) = cutS n lo hi := by
  unfold cutN cutS
  rw [bnd_run]
  cases bndS hi n n with
  | none => rfl
  | some h => simp only [bnd_run]; cases bndS lo h 0 <;> rfl

theorem sliceL_ok {α : Type} {r : α → List PV} {esz : Nat} {k : IntKind} {l l' : List α} {lo hi : Option Int} (h : slcS l lo hi = some l') :
    sliceL esz (.p (.sl esz (l.map r))) (lo.map fun n => AV.p (.i k n)) (hi.map fun n => AV.p (.i k n)) = some (.p (.sl esz (l'.map r))) := by
  unfold slcS at h
  simp only [sliceL, if_true, List.length_map, cut_run]
  split at h
  · rename_i c hc
    injection h with h; subst h
    rw [hc]; simp [List.map_drop, List.map_take]
  · cases h

theorem sliceS_ok {k : IntKind} {l l' : List UInt8} {lo hi : Option Int} (h : slcS l lo hi = some l') :
    sliceS (.p (.s l)) (lo.map fun n => AV.p (.i k n)) (hi.map fun n => AV.p (.i k n)) = some (.p (.s l')) := by
  unfold slcS at h
  simp only [sliceS, cut_run]
  split at h
  · rename_i c hc
    injection h with h; subst h
    rw [hc]
  · cases h

/-! ### Calls -/

def callR2 (F : Orc) (f : FuncId) (a : List AV × List (Nat × Blk)) (k new : Nat) : RM Eff :=
  (extE a.2 (entsOf.entsOfL a.1 []) (entsOf.entsOfL a.1 [])).bind fun es1 =>
  (extE a.2 es1 es1).bind fun es =>
  if nodupB (es.map Ent.id) then
    match ren.renL (fun e => entAt e es 0) a.1 with
    | none => .fail
    | some args' => (blksIn a.2 (fun e => entAt e es 0) es).bind fun blks =>
      match F f args' blks with
      | none => .fail
      | some r => if r.2.length = es.length + k then
          match bk es new r.1, blksNew es new new (r.2.drop es.length) with
          | some v, some fresh => (blksOut a.2 es new es r.2).bind fun back => .ret ⟨v, a.2 ++ back ++ fresh⟩
          | _, _ => .fail
        else .fail
  else .fail

theorem callR_2 (F : Orc) (f : FuncId) (args : List AV) (k new : Nat) : callR F f args k new = (argsR args).bind fun a => callR2 F f a k new := rfl

def plainR : AV → Bool
  | .tup l => l.all plainA
  | v => plainA v

theorem bk_plainR {es : List Ent} {new : Nat} {v : AV} (h : plainR v = true) : bk es new v = some v := by
  cases v with
  | tup l => simp only [plainR] at h; simp [bk, bkL_plain h]
  | _ => exact bk_plain h

theorem callR2_plain {F : Orc} {f : FuncId} {args : List AV} {v : AV} (hp : args.all plainA = true) (hF : F f args [] = some (v, [])) (hv : plainR v = true) (ws : List (Nat × Blk)) (new : Nat) (s : St) :
    (callR2 F f (args, ws) 0 new).run s = some ⟨v, ws⟩ := by
  have e1 : entsOf.entsOfL args [] = [] := ents_plain hp
  simp only [callR2, run_bind, e1, extE, run_ret, Option.bind_some, List.map_nil, nodupB, if_true, ren_plain hp, blksIn, hF, List.length_nil, Nat.zero_add, List.drop_nil, blksNew, blksOut, bk_plainR hv, List.append_nil]

theorem callR2_new {F : Orc} {f : FuncId} {args : List AV} {cs : List AV} (hp : args.all plainA = true) (hF : F f args [] = some (.ptr 0 0, [.box cs])) (hc : cs.all plainA = true) (ws : List (Nat × Blk)) (new : Nat) (s : St) :
    (callR2 F f (args, ws) 1 new).run s = some ⟨.ptr new 0, ws ++ [(new, .box cs)]⟩ := by
  have e1 : entsOf.entsOfL args [] = [] := ents_plain hp
  simp [callR2, run_bind, e1, extE, run_ret, nodupB, ren_plain hp, blksIn, hF, blksNew, blksOut, bk, bkL_plain hc]

theorem callR2_arr {F : Orc} {f : FuncId} {args : List AV} {n esz : Nat} {w : Bool} {rows : List (List PV)} (hp : args.all plainA = true) (hF : F f args [] = some (.slr 0 0 n, [.arr w esz rows])) (ws : List (Nat × Blk)) (new : Nat) (s : St) :
    (callR2 F f (args, ws) 1 new).run s = some ⟨.slr new 0 n, ws ++ [(new, .arr w esz rows)]⟩ := by
  have e1 : entsOf.entsOfL args [] = [] := ents_plain hp
  simp [callR2, run_bind, e1, extE, run_ret, nodupB, ren_plain hp, blksIn, hF, blksNew, blksOut, bk]

theorem callR2_ptr {F : Orc} {f : FuncId} {b o : Nat} {args : List AV} {cs cs' : List AV} {v : AV} (hp : args.all plainA = true) (hc : cs.all plainA = true) (hF : F f (.ptr 0 o :: args) [.box cs] = some (v, [.box cs'])) (hv : plainR v = true) (hc' : cs'.all plainA = true)
    (ws : List (Nat × Blk)) (new : Nat) (s : St) (hb : (getB ws b).run s = some (.box cs)) :
    (callR2 F f (.ptr b o :: args, ws) 0 new).run s = some ⟨v, ws ++ [(b, .box cs')]⟩ := by
  have e1 : entsOf.entsOfL (.ptr b o :: args) [] = [.whole b] := by
    simp only [entsOf.entsOfL, entsOf, addEnt, List.any_nil, Bool.false_eq_true, if_false, List.nil_append]
    exact ents_plain hp
  have e2 : (extE ws [.whole b] [.whole b]).run s = some [.whole b] := by
    simp only [extE, run_bind, hb, Option.bind_some, ents_plain hc, run_ret]
  have e3 : (blksIn ws (fun e => entAt e [Ent.whole b] 0) [Ent.whole b]).run s = some [.box cs] := by
    simp only [blksIn, run_bind, blkIn, hb, Option.bind_some, ren_plain hc, run_ret]
  have e4 : ren.renL (fun e => entAt e [Ent.whole b] 0) (.ptr b o :: args) = some (.ptr 0 o :: args) := by
    simp [ren.renL, ren, entAt, ren_plain hp]
  have n1 : nodupB ([Ent.whole b].map Ent.id) = true := rfl
  simp only [callR2, run_bind, e1, e2, Option.bind_some, n1, if_true, e4, e3, hF, List.length_cons, List.length_nil, Nat.zero_add, Nat.add_zero, List.drop_succ_cons, List.drop_zero, blksNew, blksOut, blkOut, bk_plainR hv, bkL_plain hc', run_ret, List.append_nil]

/-- Boxes of plain cells, by their blocks. -/
def boxesAt (ws : List (Nat × Blk)) (s : St) : List Nat → List (List AV) → Prop
  | [], [] => True
  | b :: bs, cs :: css => (getB ws b).run s = some (.box cs) ∧ boxesAt ws s bs css
  | _, _ => False

def allPlain (css : List (List AV)) : Bool := css.all fun cs => cs.all plainA

theorem ext_boxes {ws : List (Nat × Blk)} {s : St} : ∀ {bs : List Nat} {css : List (List AV)} {acc : List Ent}, boxesAt ws s bs css → allPlain css = true → (extE ws (bs.map .whole) acc).run s = some acc
  | [], [], _, _, _ => rfl
  | b :: bs, cs :: css, acc, h, hp => by
    simp only [allPlain, List.all_cons, Bool.and_eq_true] at hp
    simp only [List.map_cons, extE, run_bind, h.1, Option.bind_some, ents_plain hp.1]
    exact ext_boxes h.2 hp.2

theorem in_boxes {ws : List (Nat × Blk)} {s : St} {ρ : Ent → Option Nat} : ∀ {bs : List Nat} {css : List (List AV)}, boxesAt ws s bs css → allPlain css = true → (blksIn ws ρ (bs.map .whole)).run s = some (css.map .box)
  | [], [], _, _ => rfl
  | b :: bs, cs :: css, h, hp => by
    simp only [allPlain, List.all_cons, Bool.and_eq_true] at hp
    simp only [List.map_cons, blksIn, run_bind, blkIn, h.1, Option.bind_some, ren_plain hp.1, run_ret, in_boxes h.2 hp.2]

theorem out_boxes {ws : List (Nat × Blk)} {s : St} {es : List Ent} {new : Nat} : ∀ {bs : List Nat} {css : List (List AV)}, bs.length = css.length → allPlain css = true → (blksOut ws es new (bs.map .whole) (css.map .box)).run s = some (bs.zip (css.map .box))
  | [], [], _, _ => rfl
  | b :: bs, cs :: css, h, hp => by
    simp only [allPlain, List.all_cons, Bool.and_eq_true] at hp
    simp only [List.map_cons, blksOut, run_bind, blkOut, bkL_plain hp.1, run_ret, Option.bind_some, out_boxes (bs := bs) (css := css) (by simpa using h) hp.2, List.zip_cons_cons]
  | [], _ :: _, h, _ => by simp at h
  | _ :: _, [], h, _ => by simp at h

/-- A call with pointers to boxes of plain cells, each box once. -/
theorem callR2_ptrs {F : Orc} {f : FuncId} {args args' : List AV} {bs : List Nat} {css css' : List (List AV)} {v : AV} (he : entsOf.entsOfL args [] = bs.map .whole) (hn : nodupB bs = true)
    (hr : ren.renL (fun e => entAt e (bs.map .whole) 0) args = some args') (hp : allPlain css = true) (hF : F f args' (css.map .box) = some (v, css'.map .box)) (hl : bs.length = css'.length) (hv : plainR v = true) (hp' : allPlain css' = true)
    (ws : List (Nat × Blk)) (new : Nat) (s : St) (hb : boxesAt ws s bs css) : (callR2 F f (args, ws) 0 new).run s = some ⟨v, ws ++ bs.zip (css'.map .box)⟩ := by
  have e0 : (bs.map Ent.whole).map Ent.id = bs := by rw [List.map_map]; exact List.map_id bs
  have e1 : (css'.map Blk.box).length = (bs.map Ent.whole).length + 0 := by simp [hl]
  have e2 : (css'.map Blk.box).drop (bs.map Ent.whole).length = [] := by simp [hl]
  simp only [callR2, run_bind, he, ext_boxes hb hp, Option.bind_some, e0, hn, if_true, hr, in_boxes hb hp, hF, e1, e2, bk_plainR hv, blksNew, out_boxes hl hp', run_ret, List.append_nil]

end Go.Am
