/-
  Parts of a proof.
-/
import Derived.ChangeArms
import Derived.OpenShut
import Derived.ChangeBears
import Derived.ChangeStays
import Derived.Handed
import Derived.RowKit3
import Derived.WalkKit
import Derived.ProofKit
import Derived.Test.YtiallbcnaadmoaaM4
import Derived.Test.YtiallbcnaadmoaaM11
set_option linter.unusedSimpArgs false
set_option linter.unusedVariables false
section
namespace Go.Am
set_option maxRecDepth 16000
set_option linter.unusedSimpArgs false
set_option linter.unusedVariables false
def cnt (l : List Bool) : Nat → Nat
 | 0 => 0
 | k + 1 => cnt l k + if l[k]? = some true then 1 else 0
theorem Jka (l : List Bool) (k : Nat) : cnt l (k + 1) = cnt l k + if l[k]? = some true then 1 else 0 := rfl
theorem Jnu (l : List Bool) : ∀ k, cnt l k ≤ k
 | 0 => Nat.le_refl _
 | k + 1 => by have := Jnu l k; unfold cnt; split <;> omega
theorem Jhe : ∀ (k : Nat) (t : List Bool) (l : List T_api_Copy), (l.Pairwise fun a b => a.Page < b.Page) → (∀ y ∈ l, 0 ≤ y.Page ∧ y.Page < k) → (∀ i : Nat, i < k → (t[i]? = some true ↔ ∃ y ∈ l, y.Page = i)) → l.length = cnt t k
 | 0, t, l, _, h, _ => by
  cases l with
  | nil => rfl
  | cons y l => have := h y (by simp); omega
 | k + 1, t, l, hp, h, hi => by
  unfold cnt
  by_cases hk : ∃ y ∈ l, y.Page = (k : Int)
  ·
   obtain ⟨y, hy, hpg⟩ := hk
   obtain ⟨a, z, rfl⟩ : ∃ a z, l = a ++ [z] := by
    rcases List.eq_nil_or_concat l with h0 | ⟨a, z, h0⟩
    ·rw [h0] at hy; cases hy
    ·exact ⟨a, z, by rw [h0, List.concat_eq_append]⟩
   rw [List.pairwise_append] at hp
   have hz : z.Page = (k : Int) := by
    rcases List.mem_append.1 hy with hy | hy
    ·have := hp.2.2 y hy z (by simp); have := (h z (by simp)).2; omega
    ·simp at hy; rw [← hy]; exact hpg
   have hlt : ∀ w ∈ a, w.Page < k := fun w hw => by have := hp.2.2 w hw z (by simp); omega
   have := Jhe k t a hp.1 (fun w hw => ⟨(h w (by simp [hw])).1, hlt w hw⟩) (fun i hik => by
    rw [hi i (by omega)]
    constructor
    ·rintro ⟨w, hw, e⟩
     rcases List.mem_append.1 hw with hw | hw
     ·exact ⟨w, hw, e⟩
     ·simp at hw; subst hw; omega
    ·rintro ⟨w, hw, e⟩
     exact ⟨w, by simp [hw], e⟩)
   rw [List.length_append, this, if_pos ((hi k (by omega)).2 ⟨y, hy, hpg⟩)]
   rfl
  ·have := Jhe k t l hp (fun w hw => ⟨(h w hw).1, by
    have h1 := (h w hw).2
    have : w.Page ≠ k := fun e => hk ⟨w, hw, e⟩
    omega⟩) (fun i hik => hi i (by omega))
   rw [this, if_neg (fun e => hk ((hi k (by omega)).1 e))]
   rfl
structure JbV (x : T_api_Image) (t : List Bool) : Prop where
 ok : J3E x
 small : x.Pages ≤ 8
 len : (t.length : Int) = x.Pages
 iff : ∀ i : Nat, i < t.length → (t[i]? = some true ↔ ∃ y ∈ x.Copies, y.Page = i)
theorem JbV.find {x : T_api_Image} {t : List Bool} (h : JbV x t) {i : Nat} (hi : i < t.length) : (J6W x.Copies i).2 = t[i] := by
 have h1 := h.iff i hi
 rw [List.getElem?_eq_getElem hi] at h1
 cases ht : t[i] with
 | true =>
  obtain ⟨y, hy, e⟩ := h1.1 (by rw [ht])
  rw [Jch h.ok.ord hy e]
 | false =>
  rw [JfU fun y hy e => by
   have := h1.2 ⟨y, hy, e⟩
   rw [ht] at this; cases this]
theorem JbV.count {x : T_api_Image} {t : List Bool} (h : JbV x t) : x.Copies.length = cnt t t.length := by
 refine Jhe t.length t x.Copies (JjG.1 h.ok.ord) (fun y hy => ?_) (fun i hi => h.iff i hi)
 have := J72 (h.ok.copies y hy)
 have := h.len
 omega
theorem JjJ {x : T_api_Image} {t : List Bool} (h : JbV x t) {b : T_pagemenddraw_Codes} (n : Int) (hn : 0 < n ∧ n < 100) :
  Tot (J43 n b x t (0, 0)) fun r => r = .inl (n - 1, b, x, t) := by
 have hl := h.len
 have hsm := h.small
 have hcp : x.Copies.length < 1000000 := by have := h.ok.len; omega
 unfold J43
 refine JjO (fun s : Int × Int => ∃ k : Nat, k ≤ t.length ∧ s = (((cnt t k : Nat) : Int), (k : Int))) (fun s => (x.Pages - s.2).toNat) _ ?_ ⟨0, by omega, rfl⟩
 rintro _ ⟨k, hk, rfl⟩
 dsimp only
 unfold J33
 refine .ite (fun hlt => ?_) (fun hge => ?_)
 ·have hlt : k < t.length := by simp at hlt; omega
  have e3 : IntKind.wrap .i64 ((k : Int) + 1) = ((k + 1 : Nat) : Int) := by rw [wrap64 (by omega) (by omega)]; omega
  have hc := Jnu t k
  refine .eq (JmD hcp k) (.eq (v := t[k]) (by rw [J57, List.getElem?_eq_getElem]) ?_)
  rw [J5C.2 h.ok, if_pos rfl, h.find hlt, if_pos (by simp)]
  unfold J32
  rw [e3]
  refine .ite (fun ht => ?_) (fun ht => ?_)
  ·refine .some (.inl ⟨_, rfl, ⟨k + 1, by omega, ?_⟩, by dsimp only; omega⟩)
   rw [wrap64 (by omega) (by omega)]
   rw [Jka, List.getElem?_eq_getElem hlt, ht, if_pos rfl]
   rfl
  ·refine .some (.inl ⟨_, rfl, ⟨k + 1, by omega, ?_⟩, by dsimp only; omega⟩)
   rw [Jka, List.getElem?_eq_getElem hlt, ht, if_neg (by decide)]
   rfl
 ·have hge : t.length ≤ k := by simp at hge; omega
  obtain rfl : k = t.length := by omega
  unfold J42
  obtain ⟨w, w1, _, w2⟩ := Jn8 hcp
  have hcnt := h.count
  refine .map (Q := fun r => r = .inl (n - 1, b, x, t)) (.eq w1 ?_) (fun r hr => .inr ⟨r, rfl, hr⟩)
  rw [w2, J5C.2 h.ok, hcnt, if_pos (by simp), if_neg (by simp)]
  unfold J41
  rw [wrap64 (by omega) (by omega)]
  exact .some rfl
theorem Jd8 {l : List Int} {pages : Int} (h : List.length l ≤ maxLen ∧ ∀ x ∈ l, 0 ≤ x ∧ x ≤ 255) (hp : 0 ≤ pages ∧ pages ≤ 255) : J2v l pages = some true := by
 have key : Tot (J2v l pages) fun r => r = true := by
  unfold J2v
  refine .eq JqM ?_
  rw [if_pos rfl]
  obtain ⟨b, e, hb⟩ := JrP h (n := 400) (by omega)
  have em : pages.tmod 8 = pages % 8 := Int.tmod_eq_emod_of_nonneg hp.1
  refine .eq e (.eq (v := pages % 8) (by unfold Jfh; rw [if_neg (by decide), wrap64 (by omega) (by omega), em]) ?_)
  have hm0 : 0 ≤ pages % 8 := by omega
  have hm1 : pages % 8 < 8 := by omega
  obtain ⟨n, hn⟩ : ∃ n : Nat, 1 + pages % 8 = (n : Int) := ⟨(1 + pages % 8).toNat, by omega⟩
  have ew : IntKind.wrap .i64 (1 + pages % 8) = (n : Int) := by rw [wrap64 (by omega) (by omega), hn]
  rw [ew]
  refine .eq (v := List.replicate n false) (by unfold mkS; rw [if_pos ⟨by omega, by omega, by omega, by omega⟩, Int.toNat_natCast]) (.bind (JoA hb (by omega) (by omega)) fun r1 ⟨h1, k0, k1⟩ => ?_)
  unfold J61
  refine JjO (fun s : Int × T_pagemenddraw_Codes × T_api_Image × List Bool => 0 ≤ s.1 ∧ s.1 < 20 ∧ J1z s.2.1 ∧ JbV s.2.2.1 s.2.2.2) (fun s => s.1.toNat) _ ?_ ⟨k0, k1, h1, ⟨by dsimp only; omega, by dsimp only; omega, by dsimp only; omega, by dsimp only; omega, fun c hc => (List.not_mem_nil hc).elim, fun k hk => (Nat.not_lt_zero _ hk).elim⟩, by dsimp only; omega, by simp, fun i hi => by simp [List.getElem?_replicate]⟩
  rintro ⟨k, b', x, t⟩ ⟨c0, c1, hb', ht⟩
  dsimp only at *
  have hsm := ht.small
  have hl := ht.len
  have p1 := ht.ok.p1
  unfold J2W
  refine .ite (fun hlt => ?_) (fun hge => .some (.inr ⟨_, rfl, rfl⟩))
  have hlt : 0 < k := by simpa using hlt
  refine .bind (JoA hb' p1 (by omega)) fun r2 ⟨h2, i0, i1⟩ => ?_
  obtain ⟨i, b2⟩ := r2
  dsimp only at h2 i0 i1 ⊢
  refine .bind (JsH h2 i0 (by omega)) fun r4 ⟨h4, o4, id4⟩ => .eq (JlD o4) ?_
  dsimp only
  have si : (idn (JaB r4.1) i).2 = 0 := by rw [← id4, JjV o4]
  obtain ⟨a, ea, _, oa, aid, apg, am, af⟩ := JoM ht.ok i0 i1 si
  obtain ⟨ii, rfl⟩ : ∃ ii : Nat, i = (ii : Int) := ⟨i.toNat, by omega⟩
  have hii : ii < t.length := by omega
  refine .eq ea ?_
  rw [if_neg (by simp)]
  refine .eq (v := t[ii]) (by rw [J57, List.getElem?_eq_getElem]) (.eq rfl ?_)
  rw [Int.toNat_natCast]
  have ht2 : JbV a (t.set ii true) := by
   refine ⟨oa, by omega, by rw [List.length_set]; omega, fun j hj => ?_⟩
   rw [List.length_set] at hj
   rw [List.getElem?_set]
   by_cases hij : ii = j
   ·subst hij
    rw [if_pos rfl, if_pos hii]
    exact ⟨fun _ => ⟨_, (am _).2 (.inl rfl), rfl⟩, fun _ => rfl⟩
   ·rw [if_neg hij, ht.iff j hj]
    constructor
    ·rintro ⟨y, hy, e⟩
     exact ⟨y, (am y).2 (.inr ⟨hy, by omega⟩), e⟩
    ·rintro ⟨y, hy, e⟩
     rcases (am y).1 hy with h5 | h5
     ·subst h5; dsimp only at e; omega
     ·exact ⟨y, h5.1, e⟩
  refine (JjJ ht2 (b := r4.2) k ⟨hlt, by omega⟩).mono ?_
  rintro _ rfl
  exact .inl ⟨_, rfl, ⟨by dsimp only; omega, by dsimp only; omega, h4, ht2⟩, by dsimp only; omega⟩
 obtain ⟨r, e, rfl⟩ := key
 exact e
end Go.Am
end
section
namespace Go.Am
section
variable (P : Program)
def J8A : Nat → TypeId → Bool
 | 0, _ => false
 | n + 1, t => match P.underlying t with
  | some .bool => true
  | some (.int _) => true
  | some .string => true
  | some (.slice e) => J8A n e && decide (t < P.types.size ∧ 0 < P.cellsOf e)
  | some (.struct fs) => fs.toList.all (fun f => J8A n f.type) && decide (t < P.types.size)
  | some (.array _ e) => J8A n e && decide (t < P.types.size)
  | _ => false
def J8s : Nat → TypeId → List PV → Prop
 | 0, _, _ => False
 | n + 1, t, pvs => match P.underlying t with
  | some .bool => ∃ b, pvs = [.b b]
  | some (.int k) => ∃ z, pvs = [.i k z] ∧ (Lit.int k z).wf = true
  | some .string => ∃ l, pvs = [.s l] ∧ l.length ≤ maxLen
  | some (.slice e) => ∃ rows, pvs = [.sl (P.cellsOf e) rows] ∧ rows.length ≤ maxLen ∧ ∀ row ∈ rows, row.length = P.cellsOf e ∧ J8s n e row
  | some (.struct fs) => pvs.length = P.cellsOf t ∧ ∀ f ∈ fs.toList, J8s n f.type ((pvs.drop f.offset).take (P.cellsOf f.type))
  | some (.array m e) => pvs.length = P.cellsOf t ∧ ∀ i, i < m → J8s n e ((pvs.drop (i * P.cellsOf e)).take (P.cellsOf e))
  | _ => False
end
section
variable {H : Type} {enc : TypeId × Value → H} {P : Program} {w : World} {base : Nat} {sp : Nat → Bool} {held : Bool}
def Jn4 (w : World) (pvs : List PV) (cs : List Value) : Prop :=
 pvs.length = cs.length ∧ ∀ (i : Nat) p v, pvs[i]? = some p → cs[i]? = some v → JL w (fun r _ => r < w.heap.size) p v
theorem Jdl {a : Addr} {v : Value} (h : w.cell? a = some v) : a.spot = none ∧ J02 w a.block a.off = some v ∧ a.block < w.heap.size := by
 unfold World.cell? at h
 unfold J02
 split at h
 ·rename_i c t fz hb
  split at h
  ·cases h
  ·rename_i hs
   refine ⟨by simpa using hs, by rw [hb]; exact h, ?_⟩
   have := Array.getElem?_eq_some_iff.1 hb
   exact this.1
 ·cases h
theorem Jq6 {a : Addr} {n : Nat} {cs : List Value} (h : w.cells? base a n = some cs) : cs.length = n ∧ ∀ i v, cs[i]? = some v → w.cell? (a.add i) = some v := by
 unfold World.cells? at h
 split at h
 ·have hl := mapM_some_length h
  refine ⟨by simpa using hl, fun i v hv => ?_⟩
  have hi : i < n := by
   have := (List.getElem?_eq_some_iff.1 hv).1
   simp at hl; omega
  have := mapM_some_get h i i (by simp [hi])
  rw [this, hv]
 ·cases h
theorem Jg2 {α : Type} (Q : Nat → α → Prop) : ∀ (m : Nat), (∀ i, i < m → ∃ x, Q i x) → ∃ xs : List α, xs.length = m ∧ ∀ i x, xs[i]? = some x → Q i x
 | 0, _ => ⟨[], rfl, fun i x h => by simp at h⟩
 | m + 1, h => by
  obtain ⟨xs, hl, hx⟩ := Jg2 Q m (fun i hi => h i (by omega))
  obtain ⟨y, hy⟩ := h m (by omega)
  refine ⟨xs ++ [y], by simp [hl], fun i x hi => ?_⟩
  rcases Nat.lt_or_ge i xs.length with hlt | hge
  ·rw [List.getElem?_append_left hlt] at hi; exact hx i x hi
  ·rw [List.getElem?_append_right hge] at hi
   have : i - xs.length = 0 := by
    have := (List.getElem?_eq_some_iff.1 hi).1
    simp at this; omega
   rw [this] at hi
   simp at hi; subst hi
   obtain rfl : i = m := by omega
   exact hy
theorem Jdn {α : Type} : ∀ (xs : List (List α)) (j : Nat) (y : List α), xs[j]? = some y → (xs.flatten.drop ((xs.take j).map List.length).sum).take y.length = y
 | [], j, y, h => by simp at h
 | x :: xs, 0, y, h => by simp at h; subst h; simp
 | x :: xs, j + 1, y, h => by
  simp at h
  have := Jdn xs j y h
  simp only [List.take_succ_cons, List.map_cons, List.sum_cons, List.flatten_cons, List.drop_length_add_append]
  exact this
theorem JqQ (hl : laidOutB P = true) (hm : mapsRowed P = true) : ∀ (n : Nat) (t : TypeId) (cs : List Value) (x : DataW H × List MemPlace) (fuel : Nat), J8A P n t = true → DataW.trod enc P w base sp held fuel t cs = some x →
  ∃ pvs, J8s P n t pvs ∧ Jn4 w pvs cs := by
 have K := kids_rows hl hm
 intro n
 induction n with
 | zero => intro t cs x fuel hp; simp [J8A] at hp
 | succ n ih =>
  intro t cs x fuel hp h
  unfold J8A at hp
  unfold J8s
  split at hp
  ·rename_i ht
   obtain ⟨b, rfl, _⟩ := DataW.trod_bool ht h
   refine ⟨[.b b], by simp, rfl, fun i p v h1 h2 => ?_⟩
   match i with
   | 0 => simp at h1 h2; subst h1 h2; exact .b _
   | i + 1 => simp at h1
  ·rename_i k ht
   obtain ⟨z, rfl, _, hwf⟩ := DataW.trod_int ht h
   refine ⟨[.i k z], by simpa using hwf, rfl, fun i p v h1 h2 => ?_⟩
   match i with
   | 0 => simp at h1 h2; subst h1 h2; exact .i _ _
   | i + 1 => simp at h1
  ·rename_i ht
   obtain ⟨s, rfl, _, hsz⟩ := DataW.trod_string ht h
   refine ⟨[.s s.data.toList], ⟨_, rfl, by rw [Array.length_toList]; exact hsz⟩, rfl, fun i p v h1 h2 => ?_⟩
   match i with
   | 0 => simp at h1 h2; subst h1 h2; exact .s _
   | i + 1 => simp at h1
  ·rename_i e ht
   simp only [Bool.and_eq_true, decide_eq_true_eq] at hp
   rcases DataW.trod_slice ht h with ⟨rfl, _⟩ | ⟨a, len, cap, elems, rest, n0, _, rfl, _, _, hlc, hcm, hel, hat, _⟩
   ·refine ⟨[.sl (P.cellsOf e) []], ⟨[], rfl, Nat.zero_le _, by simp⟩, rfl, fun i p v h1 h2 => ?_⟩
    match i with
    | 0 => simp at h1 h2; subst h1 h2; exact .sl0 _ _ _
    | i + 1 => simp at h1
   ·
    have hrow : ∀ i, i < len → ∃ row : List PV, (row.length = P.cellsOf e ∧ J8s P n e row) ∧ ∀ j p, row[j]? = some p → ∃ v, w.cell? (a.add (i * P.cellsOf e) |>.add j) = some v ∧ JL w (fun r _ => r < w.heap.size) p v := by
     intro i hi
     have h1 := hat i hi
     have h2 : ∃ y, elems[i]? = some y := ⟨_, List.getElem?_eq_getElem (by omega)⟩
     obtain ⟨y, hy⟩ := h2
     rw [hy, Option.bind_eq_some_iff] at h1
     obtain ⟨cs', hc, ht'⟩ := h1
     obtain ⟨row, q1, q2, q3⟩ := ih e cs' y n0 hp.1 ht'
     obtain ⟨c1, c2⟩ := Jq6 hc
     refine ⟨row, ⟨by omega, q1⟩, fun j p hj => ?_⟩
     have hlt : j < cs'.length := by have := (List.getElem?_eq_some_iff.1 hj).1; omega
     have hv := List.getElem?_eq_getElem hlt
     exact ⟨_, c2 j _ hv, q3 j p _ hj hv⟩
    obtain ⟨rows, hrl, hrows⟩ := Jg2 _ len hrow
    refine ⟨[.sl (P.cellsOf e) rows], ⟨rows, rfl, by omega, fun row hr => ?_⟩, rfl, fun i p v h1 h2 => ?_⟩
    ·obtain ⟨i, hi⟩ := List.getElem?_of_mem hr
     exact (hrows i row hi).1
    match i with
    | i + 1 => simp at h1
    | 0 =>
     simp at h1 h2; subst h1 h2
     by_cases h0 : ∃ (i j : Nat) (row : List PV) (p : PV), rows[i]? = some row ∧ row[j]? = some p
     ·obtain ⟨i0, j0, row0, p0, hr0, hp0⟩ := h0
      have spot : a.spot = none ∨ P.cellsOf e = 0 := by
       rcases Nat.eq_zero_or_pos (P.cellsOf e) with hz | hpos
       ·exact .inr hz
       ·have hlen : 0 < len := by have := (List.getElem?_eq_some_iff.1 hr0).1; omega
        have hr00 := List.getElem?_eq_getElem (l := rows) (i := 0) (by omega)
        have q := hrows 0 _ hr00
        have hj0 := List.getElem?_eq_getElem (l := rows[0]'(by omega)) (i := 0) (by omega)
        obtain ⟨v, hv, _⟩ := q.2 0 _ hj0
        rw [Nat.zero_mul] at hv
        exact .inl (by simpa [Addr.add] using (Jdl hv).1)
      rcases spot with spot | hz
      ·have cell : ∀ (i j : Nat) (row : List PV) (p : PV), rows[i]? = some row → row[j]? = some p → ∃ v, (a.block < w.heap.size ∧ J02 w a.block (a.off + i * P.cellsOf e + j) = some v) ∧ JL w (fun r _ => r < w.heap.size) p v := by
        intro i j row p hi hj
        obtain ⟨v, hv, hr⟩ := (hrows i row hi).2 j p hj
        obtain ⟨s1, s2, s3⟩ := Jdl hv
        refine ⟨v, ?_, hr⟩
        have e1 : ((a.add (i * P.cellsOf e)).add j).block = a.block := by unfold Addr.add; split <;> split <;> rfl
        have e2 : ((a.add (i * P.cellsOf e)).add j).off = a.off + i * P.cellsOf e + j := by
         unfold Addr.add
         split <;> split <;> simp_all
        rw [e1] at s3
        rw [e1, e2] at s2
        exact ⟨s3, s2⟩
       have ea : a = ⟨a.block, a.off, none⟩ := by cases a; simp_all
       rw [ea, ← hrl]
       refine .sl _ rows a.block a.off cap (fun i j => ((J02 w a.block (a.off + i * P.cellsOf e + j)).getD default)) (by omega) (fun row hr => ?_) (fun i j row p hi hj => ?_) (fun i j row p hi hj => ?_)
       ·obtain ⟨i, hi⟩ := List.getElem?_of_mem hr
        exact (hrows i row hi).1.1
       ·obtain ⟨v, ⟨h3, h4⟩, _⟩ := cell i j row p hi hj
        exact ⟨h3, by rw [h4]; rfl⟩
       ·obtain ⟨v, ⟨h3, h4⟩, h5⟩ := cell i j row p hi hj
        rw [h4]; exact h5
      ·have := (hrows i0 row0 hr0).1.1
       have := (List.getElem?_eq_some_iff.1 hp0).1
       omega
     ·
      rcases Nat.eq_zero_or_pos len with hz | hpos
      ·have : rows = [] := by cases rows <;> simp_all
       subst this
       subst hz
       exact .sl0 _ _ _
      ·exfalso
       have hr00 := List.getElem?_eq_getElem (l := rows) (i := 0) (by omega)
       have q := (hrows 0 _ hr00).1.1
       exact h0 ⟨0, 0, _, _, hr00, List.getElem?_eq_getElem (by omega)⟩
  ·rename_i fs ht
   simp only [Bool.and_eq_true, decide_eq_true_eq, List.all_eq_true] at hp
   obtain ⟨xs, n0, _, _, hcl, hxl, hat⟩ := DataW.trod_struct ht h
   obtain ⟨_, ksum, koff⟩ := K.struct hp.2 ht
   have hf : ∀ i, i < fs.toList.length → ∃ ys : List PV, ∀ f, fs.toList[i]? = some f → J8s P n f.type ys ∧ Jn4 w ys ((cs.drop f.offset).take (P.cellsOf f.type)) := by
    intro i hi
    have hfi := List.getElem?_eq_getElem hi
    have hmem := List.mem_of_getElem? hfi
    have hfa : fs[i]? = some (fs.toList[i]) := by rw [← Array.getElem?_toList]; exact hfi
    have h1 := hat i _ hfa
    have h2 : ∃ y, xs[i]? = some y := ⟨_, List.getElem?_eq_getElem (by simpa [hxl] using hi)⟩
    obtain ⟨y, hy⟩ := h2
    rw [hy] at h1
    obtain ⟨ys, q1, q2⟩ := ih _ _ _ _ (hp.1 _ hmem) h1
    refine ⟨ys, fun f hff => ?_⟩
    rw [hfi] at hff; injection hff with hff; subst hff
    exact ⟨q1, q2⟩
   obtain ⟨yss, hyl, hys⟩ := Jg2 _ _ hf
   have hlen : ∀ (j : Nat) (f : Field), fs.toList[j]? = some f → ∀ ys : List PV, yss[j]? = some ys → ys.length = P.cellsOf f.type := by
    intro j f hj ys hy
    have q := (hys j ys hy f hj).2.1
    have o := koff j f hj
    rw [q, List.length_take, List.length_drop, hcl, ksum, o]
    have : ((fs.toList.take j).map fun f => P.cellsOf f.type).sum + P.cellsOf f.type ≤ (fs.toList.map fun f => P.cellsOf f.type).sum := by
     have e1 : fs.toList = fs.toList.take j ++ (f :: fs.toList.drop (j + 1)) := by
      have hjl := (List.getElem?_eq_some_iff.1 hj)
      obtain ⟨hjl, he⟩ := hjl
      rw [← he, ← List.drop_eq_getElem_cons hjl, List.take_append_drop]
     conv => rhs; rw [e1]
     simp only [List.map_append, List.map_cons, List.sum_append, List.sum_cons]
     omega
    omega
   have hmapl : yss.map List.length = fs.toList.map fun f => P.cellsOf f.type := by
    apply List.ext_getElem?
    intro j
    rw [List.getElem?_map, List.getElem?_map]
    cases hy : yss[j]? with
    | none =>
     have : fs.toList[j]? = none := by rw [List.getElem?_eq_none_iff] at hy ⊢; omega
     rw [this]; rfl
    | some ys =>
     have hj : j < fs.toList.length := by have := (List.getElem?_eq_some_iff.1 hy).1; omega
     have hfj := List.getElem?_eq_getElem hj
     rw [hfj]
     simp only [Option.map_some]
     rw [hlen j _ hfj ys hy]
   have hoff : ∀ (j : Nat) (f : Field), fs.toList[j]? = some f → ((yss.take j).map List.length).sum = f.offset := by
    intro j f hj
    rw [koff j f hj, List.map_take, hmapl, ← List.map_take]
   refine ⟨yss.flatten, ⟨?_, fun f hf => ?_⟩, ?_, fun i p v h1 h2 => ?_⟩
   ·rw [List.length_flatten, hmapl, ksum]
   ·obtain ⟨j, hj⟩ := List.getElem?_of_mem hf
    have hjl : j < yss.length := by have := (List.getElem?_eq_some_iff.1 hj).1; omega
    have hyj := List.getElem?_eq_getElem hjl
    have := Jdn yss j _ hyj
    rw [hoff j f hj, hlen j f hj _ hyj] at this
    rw [this]
    exact (hys j _ hyj f hj).1
   ·rw [List.length_flatten, hmapl, hcl, ksum]
   ·
    have key : ∀ (l : List (List PV)) (i : Nat) p, l.flatten[i]? = some p → ∃ j ys k, l[j]? = some ys ∧ ys[k]? = some p ∧ i = ((l.take j).map List.length).sum + k := by
     intro l
     induction l with
     | nil => intro i p h; simp at h
     | cons y l ihl =>
      intro i p h
      rw [List.flatten_cons] at h
      rcases Nat.lt_or_ge i y.length with hlt | hge
      ·rw [List.getElem?_append_left hlt] at h
       exact ⟨0, y, i, rfl, h, by simp⟩
      ·rw [List.getElem?_append_right hge] at h
       obtain ⟨j, ys, k, a1, a2, a3⟩ := ihl _ _ h
       exact ⟨j + 1, ys, k, by simpa using a1, a2, by simp only [List.take_succ_cons, List.map_cons, List.sum_cons]; omega⟩
    obtain ⟨j, ys, k, a1, a2, a3⟩ := key _ _ _ h1
    have hj : j < fs.toList.length := by have := (List.getElem?_eq_some_iff.1 a1).1; omega
    have hfj := List.getElem?_eq_getElem hj
    have q := (hys j ys a1 _ hfj).2
    refine q.2 k p v a2 ?_
    have hk : k < P.cellsOf (fs.toList[j]).type := by have := (List.getElem?_eq_some_iff.1 a2).1; rw [hlen j _ hfj ys a1] at this; exact this
    rw [List.getElem?_take_of_lt hk, List.getElem?_drop, ← hoff j _ hfj, ← a3]
    exact h2
  ·rename_i m e ht
   simp only [Bool.and_eq_true, decide_eq_true_eq] at hp
   obtain ⟨xs, n0, _, _, hcl, hxl, hat⟩ := DataW.trod_array ht h
   obtain ⟨_, ksz⟩ := K.array hp.2 ht
   have hf : ∀ i, i < m → ∃ ys : List PV, J8s P n e ys ∧ Jn4 w ys ((cs.drop (i * P.cellsOf e)).take (P.cellsOf e)) := by
    intro i hi
    have h1 := hat i hi
    have h2 : ∃ y, xs[i]? = some y := ⟨_, List.getElem?_eq_getElem (by omega)⟩
    obtain ⟨y, hy⟩ := h2
    rw [hy] at h1
    exact ih _ _ _ _ hp.1 h1
   obtain ⟨yss, hyl, hys⟩ := Jg2 _ _ hf
   have hlen : ∀ (j : Nat) ys, yss[j]? = some ys → ys.length = P.cellsOf e := by
    intro j ys hy
    have q := (hys j ys hy).2.1
    have hj : j < m := by have := (List.getElem?_eq_some_iff.1 hy).1; omega
    rw [q, List.length_take, List.length_drop, hcl, ksz]
    have : j * P.cellsOf e + P.cellsOf e ≤ m * P.cellsOf e := by rw [← Nat.succ_mul]; exact Nat.mul_le_mul_right _ hj
    omega
   have hall : ∀ y ∈ yss, y.length = P.cellsOf e := fun y hy => by
    obtain ⟨j, hj⟩ := List.getElem?_of_mem hy
    exact hlen j y hj
   have hsum : ∀ l : List (List PV), (∀ y ∈ l, y.length = P.cellsOf e) → (l.map List.length).sum = l.length * P.cellsOf e := by
    intro l
    induction l with
    | nil => intro _; simp
    | cons y l ihl => intro hh; simp [hh y (by simp), ihl (fun z hz => hh z (by simp [hz])), Nat.succ_mul, Nat.add_comm]
   have hoff : ∀ j, j ≤ m → ((yss.take j).map List.length).sum = j * P.cellsOf e := by
    intro j hj
    rw [hsum _ (fun y hy => hall y (List.mem_of_mem_take hy)), List.length_take, hyl, Nat.min_eq_left hj]
   refine ⟨yss.flatten, ⟨?_, fun j hj => ?_⟩, ?_, fun i p v h1 h2 => ?_⟩
   ·rw [List.length_flatten, hsum _ hall, hyl, ksz]
   ·have hyj := List.getElem?_eq_getElem (l := yss) (i := j) (by omega)
    have := Jdn yss j _ hyj
    rw [hoff j (by omega), hlen j _ hyj] at this
    rw [this]
    exact (hys j _ hyj).1
   ·rw [List.length_flatten, hsum _ hall, hcl, hyl, ksz]
   ·have key : ∀ (l : List (List PV)) (i : Nat) p, l.flatten[i]? = some p → ∃ j ys k, l[j]? = some ys ∧ ys[k]? = some p ∧ i = ((l.take j).map List.length).sum + k := by
     intro l
     induction l with
     | nil => intro i p h; simp at h
     | cons y l ihl =>
      intro i p h
      rw [List.flatten_cons] at h
      rcases Nat.lt_or_ge i y.length with hlt | hge
      ·rw [List.getElem?_append_left hlt] at h
       exact ⟨0, y, i, rfl, h, by simp⟩
      ·rw [List.getElem?_append_right hge] at h
       obtain ⟨j, ys, k, a1, a2, a3⟩ := ihl _ _ h
       exact ⟨j + 1, ys, k, by simpa using a1, a2, by simp only [List.take_succ_cons, List.map_cons, List.sum_cons]; omega⟩
    obtain ⟨j, ys, k, a1, a2, a3⟩ := key _ _ _ h1
    have hj : j < m := by have := (List.getElem?_eq_some_iff.1 a1).1; omega
    have q := (hys j ys a1).2
    refine q.2 k p v a2 ?_
    have hk : k < P.cellsOf e := by have := (List.getElem?_eq_some_iff.1 a2).1; rw [hlen j ys a1] at this; exact this
    rw [List.getElem?_take_of_lt hk, List.getElem?_drop, ← hoff j (by omega), ← a3]
    exact h2
  ·cases hp
end
end Go.Am
end
section
namespace Go.Am
open Go.ChangeShapes Go.WideShapes Go.ChangeAt Go.RowKit
def gh0 (w : World) : Gh := ⟨fun _ => none, fun r _ => r < w.heap.size⟩
theorem JhF (g : Gh) (w : World) (b r o : Nat) : ¬ Wr1 ⟨[], g, w⟩ b r o := by
 unfold Wr1; simp
theorem JtP (w : World) : Inv ⟨[], gh0 w, w⟩ where
 box := fun b cs h => by simp at h
 arr := fun b wm esz rows h => by simp at h
 apart := fun b1 b2 r o h => absurd h (JhF _ _ _ _ _)
 const := fun r o h => ⟨h, fun b => JhF _ _ _ _ _⟩
def JaG (w w' : World) : Prop := J9y (fun _ _ => False) w w'
theorem JaG.kept {w w' : World} (h : JaG w w') (may : MemPlace → Prop) : w.keptBut w' may := by
 obtain ⟨h1, h2, h3, h4, h5⟩ := h
 refine ⟨h4, h5, fun i hi => ?_⟩
 have hg := Array.getElem?_eq_getElem hi
 cases hw : w.heap[i]? with
 | none => rw [hg] at hw; cases hw
 | some x =>
  cases x with
  | cells c e fz =>
   obtain ⟨c', q1, q2, q3⟩ := h2 i c e fz hw
   rw [q1]
   exact ⟨rfl, rfl, q2, fun j _ => q3 j (fun hf => hf)⟩
  | map es clock =>
   have := h3 i _ hw (fun c e fz he => by cases he)
   rw [this]
   exact .inr ⟨rfl, rfl⟩
  | _ =>
   have := h3 i _ hw (fun c e fz he => by cases he)
   rw [this]
theorem JaG.same {w w' : World} (h : JaG w w') {p : MemPlace} (hp : p.block < w.heap.size) : w.sameAt w' p := by
 obtain ⟨h1, h2, h3, h4, h5⟩ := h
 cases p with
 | cell b off =>
  have hb : b < w.heap.size := hp
  have hg := Array.getElem?_eq_getElem hb
  show w'.cell? ⟨b, off, none⟩ = w.cell? ⟨b, off, none⟩
  rw [J46, J46]
  unfold J02
  cases hw : w.heap[b]? with
  | none => rw [hg] at hw; cases hw
  | some x =>
   cases x with
   | cells c e fz =>
    obtain ⟨c', q1, q2, q3⟩ := h2 b c e fz hw
    rw [q1]
    exact q3 off (fun hf => hf)
   | _ =>
    have := h3 b _ hw (fun c e fz he => by cases he)
    rw [this]
 | map b =>
  have hb : b < w.heap.size := hp
  have hg := Array.getElem?_eq_getElem hb
  show w'.heap[b]? = w.heap[b]?
  cases hw : w.heap[b]? with
  | none => rw [hg] at hw; cases hw
  | some x =>
   cases x with
   | cells c e fz =>
    obtain ⟨c', q1, q2, q3⟩ := h2 b c e fz hw
    rw [q1]
    have : c' = c := by
     apply Array.ext_getElem?
     intro i
     exact q3 i (fun hf => hf)
    rw [this]
   | _ => exact h3 b _ hw (fun c e fz he => by cases he)
theorem JaG.frozen {w w' : World} (h : JaG w w') {a : Addr} (hp : a.block < w.heap.size) : w'.frozen? a = w.frozen? a := by
 obtain ⟨h1, h2, h3, h4, h5⟩ := h
 have hg := Array.getElem?_eq_getElem hp
 unfold World.frozen?
 cases hw : w.heap[a.block]? with
 | none => rw [hg] at hw; cases hw
 | some x =>
  cases x with
  | cells c e fz =>
   obtain ⟨c', q1, q2, q3⟩ := h2 a.block c e fz hw
   rw [q1]
  | _ =>
   have := h3 a.block _ hw (fun c e fz he => by cases he)
   rw [this]
theorem JnT {P : Program} {F : Orc} (hF : J4u P F) {f : FuncId} {args : List AV} {vals : Array Value} {w : World} (hl : args.length = vals.size)
  (hr : ∀ (i : Nat) x v, args[i]? = some x → vals[i]? = some v → Jn ⟨[], gh0 w, w⟩ x v) (h : F f args [] = some (.p (.b true), [])) :
  Calls P f vals w fun e w' => e = .returned (.bool true) ∧ JaG w w' := by
 refine ((hF _ _ _ _ h).2 (gh0 w) w vals (JtP w) hl hr).mono fun e w' ⟨v, g', he, _, ht, hrel⟩ => ?_
 cases hrel with
 | p _ _ hrel =>
  cases hrel with
  | b =>
   refine ⟨he, ?_⟩
   obtain ⟨k1, k2, k3, k4⟩ := ht.keep
   refine ⟨k1, fun r c e fz hr => ?_, k3, k4⟩
   obtain ⟨c', q1, q2, q3⟩ := k2 r c e fz hr
   exact ⟨c', q1, q2, fun o _ => q3 o (fun ⟨b, hb⟩ => JhF _ _ _ _ _ hb)⟩
section
variable {H : Type} {enc : TypeId × Value → H} {P : Program}
theorem JcU (hl : laidOutB P = true) (hm : mapsRowed P = true) (hsz : ∀ {t e : TypeId}, t < P.types.size → P.underlying t = some (.slice e) → 0 < P.cellsOf e) {W W' : World} {sp : Nat → Bool} :
  ∀ {ts : List TypeId} {vs : List Value} {ds : List (DataW H)} {ps : List MemPlace}, (∀ t ∈ ts, t < P.types.size) → DataW.TrodAll enc P W 0 (fun _ => true) true ts vs ds ps →
   (∀ p ∈ ps, W.sameAt W' p) → (∀ p ∈ ps, sp p.block = true) → DataW.TrodAll enc P W' 0 sp true ts vs ds ps
 | [], [], [], _, _, h, _, _ => h
 | [], _ :: _, _, _, _, h, _, _ => h.elim
 | [], [], _ :: _, _, _, h, _, _ => h.elim
 | _ :: _, [], _, _, _, h, _, _ => h.elim
 | _ :: _, _ :: _, [], _, _, h, _, _ => h.elim
 | t :: ts, v :: vs, d :: ds, _, hT, ⟨p, q, ⟨n, h1⟩, h2, rfl⟩, hs, hp => by
  refine ⟨p, q, ⟨n, DataW.trod_stays (kids_rows hl hm) hsz (fun h => by cases h) (hT t (by simp)) h1 (fun x hx => hs x (by simp [hx])) (fun x hx => hp x (by simp [hx]))⟩, ?_, rfl⟩
  exact JcU hl hm hsz (fun x hx => hT x (by simp [hx])) h2 (fun x hx => hs x (by simp [hx])) (fun x hx => hp x (by simp [hx]))
def J96 (P : Program) : Bool := (List.range P.types.size).all fun t => match P.underlying t with
 | some (.slice e) => decide (0 < P.cellsOf e)
 | _ => true
theorem Jk7 (h : J96 P = true) {t e : TypeId} (ht : t < P.types.size) (he : P.underlying t = some (.slice e)) : 0 < P.cellsOf e := by
 unfold J96 at h
 rw [List.all_eq_true] at h
 have := h t (by simpa using ht)
 rw [he] at this
 simpa using this
theorem Jpo {fn : Func} {s : ChangeSpec} {tb : TypeId} (hl : laidOutB P = true) (hm : mapsRowed P = true) (hsz : J96 P = true) (hpar : ∀ t ∈ fn.params.toList, t < P.types.size)
  (hres : fn.resultTypes = #[tb]) (htb : P.underlying tb = some .bool) (hvars : s.vars = []) {apart fresh handsOn again : Bool} {W W' : World} {args : Array Value} {ds gs : List (DataW H)} {before : List MemPlace}
  (hfn : gs = [] → s.fn H (ds ++ gs) = { results := [.lit (.bool true)], args := ds })
  (hW : DataW.Whole enc P fn.params.toList s.vars apart W args.toList ds gs before) (hst : JaG W W') : s.post enc P fn apart fresh handsOn again W args (.bool true) W' := by
 have hW0 := hW
 have hlt := hW.lt
 obtain ⟨p, q, h1, h2, rfl, hz, hn⟩ := hW
 rw [hvars] at h2
 obtain ⟨rfl, rfl⟩ := trodVars_none h2
 rw [List.append_nil] at hW0 hlt hz hn
 have hf := hfn rfl
 have hargs : ∀ sp : Nat → Bool, (∀ x ∈ p, sp x.block = true) → DataW.TrodAll enc P W' 0 sp true fn.params.toList args.toList ds p := fun sp hp =>
  JcU hl hm (fun ht he => Jk7 hsz ht he) hpar h1 (fun x hx => hst.same (hlt x hx)) hp
 have hr : ∀ (b : Nat) (sp : Nat → Bool) (hd : Bool), DataW.TrodAll enc P W' b sp hd fn.resultTypes.toList ((Value.bool true).resultList fn.resultTypes.size) [.lit (.bool true)] [] := by
  intro b sp hd
  rw [hres]
  exact trodAll_cons_mk (shut_bool htb _) trodAll_mk0
 refine ⟨ds, [], p, [], p, [], hW0, ?_, ?_, ?_, hst.kept _, fun _ => ⟨?_, ?_⟩⟩
 ·rw [hf]; exact hr _ _ _
 ·rw [hf]; exact hargs _ (fun x hx => by simpa using hlt x hx)
 ·rw [hf, hvars]; rfl
 ·exact ok_one hres rfl (okWide_bool_mk htb _)
 ·refine ⟨_, [], [] ++ p, ⟨[] ++ p, [], trodAll_append (hargs _ (fun _ _ => rfl)) (hr _ _ _), by rw [hvars]; rfl, by simp, fun b off hp => ?_, fun ha => by simpa using hn ha⟩, fun x hx _ => by simpa using hx⟩
  have hp' : MemPlace.cell b off ∈ p := by simpa using hp
  rw [hst.frozen (a := ⟨b, off, none⟩) (hlt _ hp')]
  exact hz b off hp'
def Jh9 (P : Program) (t : TypeId) (pvs : List PV) : AV := match P.underlying t with
 | some (.struct _) => .data pvs
 | some (.array _ _) => .data pvs
 | _ => match pvs with
  | [c] => .p c
  | _ => .unk
theorem JlS (hl : laidOutB P = true) (hm : mapsRowed P = true) {n : Nat} {t : TypeId} {w : World} {r : Reach} {base : Nat} {sp : Nat → Bool} {v : Value} {d : DataW H} {ps : List MemPlace} (hp : J8A P n t = true)
  (hv : Value.okWide P w r base t v) (h : DataW.Trod enc P w 0 sp true t v d ps) : ∃ pvs, J8s P n t pvs ∧ Jn ⟨[], gh0 w, w⟩ (Jh9 P t pvs) v := by
 obtain ⟨fuel, h⟩ := h
 obtain ⟨pvs, q1, q2, q3⟩ := JqQ hl hm n t _ _ fuel hp h
 refine ⟨pvs, q1, ?_⟩
 cases n with
 | zero => simp [J8A] at hp
 | succ n =>
  unfold J8A at hp
  unfold Value.okWide at hv
  unfold Jh9
  have one : ∀ {c : PV}, pvs = [c] → (∀ cs, v ≠ .agg cs) → Jn ⟨[], gh0 w, w⟩ (.p c) v := by
   intro c hc hne
   subst hc
   refine .p _ _ (q3 0 c v rfl ?_)
   cases v <;> first | rfl | exact absurd rfl (hne _)
  unfold J8s at q1
  split at hp
  ·rename_i ht
   rw [ht] at q1 hv ⊢
   obtain ⟨b, rfl⟩ := q1
   exact one rfl (fun cs he => by subst he; simp [Cell.okWide, Cell.ok, ht] at hv)
  ·rename_i k ht
   rw [ht] at q1 hv ⊢
   obtain ⟨z, rfl, _⟩ := q1
   exact one rfl (fun cs he => by subst he; simp [Cell.okWide, Cell.ok, ht] at hv)
  ·rename_i ht
   rw [ht] at q1 hv ⊢
   obtain ⟨z, rfl, _⟩ := q1
   exact one rfl (fun cs he => by subst he; simp [Cell.okWide, Cell.ok, ht] at hv)
  ·rename_i e ht
   rw [ht] at q1 hv ⊢
   obtain ⟨rows, rfl, _⟩ := q1
   exact one rfl (fun cs he => by subst he; simp [Cell.okWide, Cell.ok, ht] at hv)
  ·rename_i fs ht
   rw [ht] at hv ⊢
   obtain ⟨cs, rfl, _⟩ := hv
   exact .data _ _ (by simpa [Value.cells] using q2) (fun i x v h1 h2 => q3 i x v h1 (by simpa [Value.cells] using h2))
  ·rename_i m e ht
   rw [ht] at hv ⊢
   obtain ⟨cs, rfl, _⟩ := hv
   exact .data _ _ (by simpa [Value.cells] using q2) (fun i x v h1 h2 => q3 i x v h1 (by simpa [Value.cells] using h2))
  ·cases hp
end
end Go.Am
end
