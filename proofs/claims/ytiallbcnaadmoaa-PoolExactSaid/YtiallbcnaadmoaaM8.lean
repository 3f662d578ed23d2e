/-
  Parts of a proof.
-/
import Derived.Shelf.GgSortFunc.InsertionK
import Derived.Test.YtiallbcnaadmoaaM7
set_option linter.unusedSimpArgs false
set_option linter.unusedVariables false
section
set_option linter.unusedSimpArgs false
set_option linter.unusedVariables false
namespace Go.Am
open Go.RowKit Go.Sort Go.Proofs
def J7X : List Int → Bool
  | [] => true
  | x :: l => !l.contains x && J7X l
def keyLe {α : Type} (key : α → Int) (x y : α) : Bool := decide (key x ≤ key y)
def J9F {α : Type} (key : α → Int) (l : List α) : Option (List α) :=
  if l.length < 1099511627776 ∧ J7X (l.map key) = true then some (l.mergeSort (keyLe key)) else none
def JeO {α : Type} (esz : Nat) (g : FuncId) (dec : List PV → Option α) (r : α → List PV) (key : α → Int) : List AV → List Blk → Option Res
  | [.slr 0 0 n, .fn g' [] []], [.arr true e rows] =>
    if e = esz ∧ n = rows.length ∧ g' = g then (rows.mapM dec).bind fun l => (J9F key l).map fun o => (.tup [], [.arr true esz (o.map r)]) else none
  | _, _ => none
theorem Jn4 {α : Type} {dec : List PV → Option α} {r : α → List PV} (hd : ∀ x, dec (r x) = some x) : ∀ l : List α, (l.map r).mapM dec = some l
  | [] => rfl
  | x :: l => by simp [hd, Jn4 hd l]
theorem JmU {α : Type} {dec : List PV → Option α} {r : α → List PV} (hd : ∀ row x, dec row = some x → row = r x) : ∀ {rows : List (List PV)} {l : List α}, rows.mapM dec = some l → rows = l.map r
  | [], l, h => by simp at h; subst h; rfl
  | row :: rows, l, h => by
    simp only [List.mapM_cons, Option.pure_def, Option.bind_eq_bind] at h
    obtain ⟨x, hx, h⟩ := Option.bind_eq_some_iff.1 h
    obtain ⟨l', hl, h⟩ := Option.bind_eq_some_iff.1 h
    simp only [Option.some.injEq] at h
    subst h
    rw [hd _ _ hx, JmU hd hl]
    rfl
theorem Jt5 {α : Type} {esz : Nat} {g : FuncId} {dec : List PV → Option α} {r : α → List PV} {key : α → Int} (hd : ∀ x, dec (r x) = some x) {l o : List α} (h : J9F key l = some o) :
    JeO esz g dec r key [.slr 0 0 l.length, .fn g [] []] [.arr true esz (l.map r)] = some (.tup [], [.arr true esz (o.map r)]) := by
  simp [JeO, Jn4 hd, h]
theorem JmF {l : List Int} (h : J7X l = true) : l.Pairwise (· ≠ ·) := by
  induction l with
  | nil => exact .nil
  | cons x l ih =>
    simp only [J7X, Bool.and_eq_true, Bool.not_eq_true', List.contains_eq_mem, decide_eq_false_iff_not] at h
    exact .cons (fun y hy e => h.1 (e ▸ hy)) (ih h.2)
theorem JbM {α : Type} {key : α → Int} : ∀ {a b : List α}, a.Pairwise (fun x y => key x < key y) → b.Pairwise (fun x y => key x < key y) → (∀ x, x ∈ a ↔ x ∈ b) → a = b
  | [], [], _, _, _ => rfl
  | [], y :: b, _, _, h => absurd ((h y).2 (by simp)) (by simp)
  | x :: a, [], _, _, h => absurd ((h x).1 (by simp)) (by simp)
  | x :: a, y :: b, ha, hb, h => by
    obtain ⟨ha1, ha2⟩ := List.pairwise_cons.1 ha
    obtain ⟨hb1, hb2⟩ := List.pairwise_cons.1 hb
    have exy : x = y := by
      rcases List.mem_cons.1 ((h x).1 (by simp)) with e | e
      · exact e
      · rcases List.mem_cons.1 ((h y).2 (by simp)) with e' | e'
        · exact e'.symm
        · have := hb1 x e
          have := ha1 y e'
          omega
    subst exy
    congr 1
    refine JbM ha2 hb2 fun z => ⟨fun hz => ?_, fun hz => ?_⟩
    · rcases List.mem_cons.1 ((h z).1 (by simp [hz])) with e | e
      · subst e; have := ha1 z hz; omega
      · exact e
    · rcases List.mem_cons.1 ((h z).2 (by simp [hz])) with e | e
      · subst e; have := hb1 z hz; omega
      · exact e
theorem Jg5 {α : Type} {key : α → Int} {l a : List α} (hp : a.Perm l) (hd : J7X (l.map key) = true) (hs : a.Pairwise fun x y => key x ≤ key y) : a.Pairwise fun x y => key x < key y := by
  have h1 : (l.map key).Pairwise (· ≠ ·) := JmF hd
  have h2 : (a.map key).Pairwise (· ≠ ·) := ((hp.map key).pairwise_iff (fun h e => h e.symm)).2 h1
  rw [List.pairwise_map] at h2
  exact (hs.and h2).imp fun ⟨a, b⟩ => by omega
theorem JrS {α : Type} [Inhabited α] {key : α → Int} {l o : List α} {d' : Array α} (h : J9F key l = some o) (hp : PermIn 0 l.toArray.size l.toArray d') (hs : SortedIn (fun x y => decide (key x < key y)) 0 l.toArray.size d') : d'.toList = o := by
  unfold J9F at h
  split at h
  case isFalse => cases h
  rename_i hc
  injection h with h
  subst h
  obtain ⟨hsz, _, hp⟩ := hp
  have e1 : d'.extract 0 l.toArray.size = d' := by rw [← hsz]; simp
  have e2 : l.toArray.extract 0 l.toArray.size = l.toArray := by simp
  rw [e1, e2] at hp
  have hp' : d'.toList.Perm l := by simpa using hp
  have hm := List.mergeSort_perm l (keyLe key)
  have s1 : d'.toList.Pairwise fun x y => key x ≤ key y := by
    rw [List.pairwise_iff_getElem]
    intro i j hi hj hij
    have hj' : j < d'.size := by simpa using hj
    have := hs i j (Nat.zero_le _) hij (by omega)
    rw [getElem!_pos d' j hj', getElem!_pos d' i (by omega)] at this
    simp only [decide_eq_false_iff_not] at this
    simp only [Array.getElem_toList]
    omega
  have s2 : (l.mergeSort (keyLe key)).Pairwise fun x y => key x ≤ key y := by
    have := List.pairwise_mergeSort (le := keyLe key) (fun a b c h1 h2 => by simp only [keyLe, decide_eq_true_eq] at *; omega) (fun a b => by simp only [keyLe, Bool.or_eq_true, decide_eq_true_eq]; omega) l
    exact this.imp fun h => by simpa [keyLe] using h
  exact JbM (Jg5 hp' hc.2 s1) (Jg5 hm hc.2 s2) fun x => (hp'.trans hm.symm).mem_iff
theorem JqZ {α : Type} {key : α → Int} {l o : List α} (h : J9F key l = some o) : o.length = l.length := by
  unfold J9F at h
  split at h
  · injection h with h; rw [← h, List.length_mergeSort]
  · cases h
theorem JuI {α : Type} [Inhabited α] (l : List α) (i : Nat) (h : i < l.length) : (l.toArray)[i]! = l[i] := by
  rw [getElem!_pos _ _ (by simpa using h)]
  simp
theorem JeY : ∀ {row : List PV} {vs : List Value}, row.mapM JbN = some vs → row.length = vs.length ∧ ∀ (j : Nat) x, row[j]? = some x → ∃ v, vs[j]? = some v ∧ JbN x = some v
  | [], vs, h => by simp at h; subst h; exact ⟨rfl, fun j x h => by simp at h⟩
  | y :: row, vs, h => by
    simp only [List.mapM_cons, Option.pure_def, Option.bind_eq_bind] at h
    obtain ⟨v, hv, h⟩ := Option.bind_eq_some_iff.1 h
    obtain ⟨vr, hvr, h⟩ := Option.bind_eq_some_iff.1 h
    simp only [Option.some.injEq] at h
    subst h
    obtain ⟨a, b⟩ := JeY hvr
    refine ⟨by simp [a], fun j x h => ?_⟩
    cases j with
    | zero => simp at h; subst h; exact ⟨v, rfl, hv⟩
    | succ j => exact b j x (by simpa using h)
theorem Juw {P : Program} {α : Type} [Inhabited α] {f g : FuncId} {esz : Nat} {r : α → List PV} {dec : List PV → Option α} {enc : α → List Value} {key : α → Int}
    (hfn : ∃ fn, P.funcs[f]? = some fn ∧ fn.body.isSome = true ∧ (fn.name == "runtime.NumGoroutine") = false) (hpos : 0 < esz)
    (hdec : ∀ row x, dec row = some x → row = r x) (hr : ∀ x, (r x).mapM JbN = some (enc x)) (hlen : ∀ x, (enc x).length = esz)
    (hc0 : ∀ (a : Option Addr) (cap : Nat) (w : World), Calls P f #[.slice a 0 cap, .func (.func g) #[] #[]] w fun e w' => e = .returned (.tuple #[]) ∧ w' = w)
    (hc1 : ∀ (blk cap : Nat) (d : Array α) (w : World), HoldsK enc esz w blk 0 d → blk < w.heap.size → d.size < 4611686018427387904 →
      Calls P f #[.slice (some ⟨blk, 0, none⟩) d.size cap, .func (.func g) #[] #[]] w fun e w' => e = .returned (.tuple #[]) ∧ ∃ d' n os, PermIn 0 d.size d d' ∧ SortedIn (fun x y => decide (key x < key y)) 0 d.size d' ∧ w' = sortWorldK enc esz w blk 0 n d' os) :
    ∀ (args : List AV) (blks : List Blk) (res : Res), JeO esz g dec r key args blks = some res → J6W P f args blks res := by
  intro args blks res h
  unfold JeO at h
  split at h
  case h_2 => cases h
  rename_i n g' e rows
  split at h
  case isFalse => cases h
  rename_i hc
  obtain ⟨rfl, rfl, rfl⟩ := hc
  obtain ⟨l, hl, h⟩ := Option.bind_eq_some_iff.1 h
  obtain ⟨o, ho, rfl⟩ := Option.map_eq_some_iff.1 h
  clear h
  have hrows := JmU hdec hl
  subst hrows
  clear hl
  refine ⟨hfn, fun gh w vals hi hl ha => ?_⟩
  obtain ⟨v0, v1, rfl⟩ : ∃ v0 v1, vals = #[v0, v1] := by
    obtain ⟨l⟩ := vals
    match l, hl with
    | [a, b], _ => exact ⟨a, b, rfl⟩
  have r0 := ha 0 _ v0 rfl rfl
  have r1 := ha 1 _ v1 rfl rfl
  have hv1 : v1 = .func (.func g') #[] #[] := by
    cases r1 with
    | fn _ _ _ fs cs h1 h2 h3 h4 =>
      have e1 : fs = #[] := Array.eq_empty_of_size_eq_zero h1.symm
      have e2 : cs = #[] := Array.eq_empty_of_size_eq_zero h2.symm
      rw [e1, e2]
  subst hv1
  by_cases hne : l = []
  · subst hne
    have ho' : o = [] := by
      unfold J9F at ho
      split at ho
      · injection ho with ho; rw [← ho]; exact List.mergeSort_nil
      · cases ho
    subst ho'
    obtain ⟨a, cap, hv⟩ : ∃ a cap, v0 = .slice a 0 cap := by
      cases r0 with
      | slr _ _ _ _ wm esz' rows' h0 h1 h2 h3 =>
        obtain ⟨a, cap, hv, _⟩ := h0
        exact ⟨a, cap, hv⟩
    subst hv
    refine (hc0 a cap w).mono ?_
    rintro e' w' ⟨rfl, rfl⟩
    exact ⟨_, gh, rfl, hi, JY.refl _, .tup [] #[] rfl (fun i x v h => by simp at h)⟩
  · have hne' : l.map r ≠ [] := by simpa using hne
    obtain ⟨b, cap, c, et, fz, hv, hcap, hsz, hh, hfz, hrow, hx, fin⟩ := JnL hi r0 hne'
    subst hv
    have hb : b < w.heap.size := J1O hh
    have hrl : ∀ x, (r x).length = e := fun x => by rw [(JeY (hr x)).1, hlen]
    have hall : l.length * e ≤ c.size := by
      have := Nat.le_trans (Nat.mul_le_mul_right e hcap) hsz
      simpa using this
    have hcell : ∀ t, t < l.length * e → c[t]? = some ((flatK enc e l.toArray)[t]!) := by
      intro t ht
      have hd : t / e < l.length := (Nat.div_lt_iff_lt_mul hpos).2 ht
      have hm : t % e < e := Nat.mod_lt _ hpos
      have ex : (l.map r)[t / e]? = some (r l[t / e]) := by simp [hd]
      have hm' : t % e < (r l[t / e]).length := by rw [hrl]; exact hm
      obtain ⟨u, hu, hru⟩ := hx _ _ _ _ ex (List.getElem?_eq_getElem hm')
      rw [show t / e * e + t % e = t by rw [Nat.mul_comm]; exact Nat.div_add_mod t e] at hu
      obtain ⟨v, hv, hp⟩ := (JeY (hr l[t / e])).2 _ _ (List.getElem?_eq_getElem hm')
      rw [hu, get_flatK _ _ _ _ (by simpa using ht), JuI l _ hd, JpA hru hp]
      have hme : t % e < (enc l[t / e]).length := by rw [hlen]; exact hm
      rw [getElem!_pos (enc l[t / e]) (t % e) hme]
      rw [List.getElem?_eq_getElem hme] at hv
      injection hv with hv
      rw [hv]
    have hH : HoldsK enc e w b 0 l.toArray := by
      intro t ht
      have ht' : t < l.length * e := by simpa using ht
      refine ⟨?_, ?_⟩
      · rw [J6N, J1X hh, Nat.zero_add, hcell t ht']
        rfl
      · have := hfz.1 (0 + t) (Nat.zero_le _) (by omega)
        simp only [World.frozen?, hh]
        simpa using this
    have hlt : l.length < 1099511627776 := by
      unfold J9F at ho
      split at ho
      · rename_i hc; exact hc.1
      · cases ho
    have hcall := hc1 b cap l.toArray w hH hb (by simp; omega)
    have hn : (l.map r).length = l.toArray.size := by simp
    rw [hn]
    refine hcall.mono ?_
    rintro e' w' ⟨rfl, d', k, os, hp, hs, rfl⟩
    have hd' := JrS ho hp hs
    have hds : d'.size = l.length := by simpa using hp.1
    obtain ⟨W1, hW1⟩ : ∃ W1, W1 = putRowK enc e (Go.Sort.ahead w k) b 0 d' := ⟨_, rfl⟩
    have hW1h : W1.heap[b]? = some (.cells (putCells id 0 (flatK enc e d') c) et fz) := by
      rw [hW1]
      show (w.heap.modify b (onCells (putCells id 0 (flatK enc e d'))))[b]? = _
      rw [Array.getElem?_modify, if_pos rfl, hh]
      rfl
    have tt : J8t b c (putCells id 0 (flatK enc e d') c) w W1 := by
      refine ⟨by rw [hW1]; rfl, by rw [hW1]; rfl, ?_, ⟨et, fz, hh, hW1h⟩, by simp [putCells], fun q hq => ?_⟩
      · rw [hW1]
        show (w.heap.modify b (onCells (putCells id 0 (flatK enc e d')))).size = _
        simp
      · rw [hW1]
        show (w.heap.modify b (onCells (putCells id 0 (flatK enc e d'))))[q]? = _
        rw [Array.getElem?_modify, if_neg (Ne.symm hq)]
    have hol : o.length = l.length := by rw [← hd', Array.length_toList, hds]
    obtain ⟨i1, tr1, q1⟩ := fin W1 _ (o.map r) tt (by simp [hol]) (fun row hrw => by
      obtain ⟨x, _, rfl⟩ := List.mem_map.1 hrw
      exact hrl x) (fun i j row x h1 h2 => by
      rw [List.getElem?_map] at h1
      obtain ⟨y, hy, rfl⟩ := Option.map_eq_some_iff.1 h1
      obtain ⟨v, hv, hpv⟩ := (JeY (hr y)).2 _ _ h2
      refine ⟨v, ?_, Jet hpv w gh.C⟩
      have hi' := Jj hy
      have hj' := Jj h2
      rw [hrl] at hj'
      have hij : i * e + j < l.length * e := J4U (by omega) hj'
      have hcs : i * e + j < c.size := by omega
      have hfl : i * e + j < d'.size * e := by rw [hds]; exact hij
      have hyd : d'[i]! = y := by
        have : d'.toList[i]? = some y := by rw [hd']; exact hy
        rw [Array.getElem?_toList] at this
        obtain ⟨hlt, hg⟩ := Array.getElem?_eq_some_iff.1 this
        rw [getElem!_pos d' i hlt, hg]
      show (c.mapIdx _)[i * e + j]? = some v
      rw [Array.getElem?_mapIdx, Array.getElem?_eq_getElem hcs, Option.map_some, if_pos ⟨Nat.zero_le _, by simpa using hfl⟩, Nat.sub_zero, get_flatK _ _ _ _ hfl]
      have ediv : (i * e + j) / e = i := by
        rw [Nat.mul_comm, Nat.mul_add_div hpos, Nat.div_eq_of_lt hj', Nat.add_zero]
      have emod : (i * e + j) % e = j := by
        rw [Nat.mul_comm, Nat.mul_add_mod, Nat.mod_eq_of_lt hj']
      rw [ediv, emod, hyd]
      have hje : j < (enc y).length := by rw [hlen]; exact hj'
      rw [List.getElem?_eq_getElem hje] at hv
      injection hv with hv
      rw [getElem!_pos (enc y) j hje, hv]
      rfl)
    have hB : Below W1.heap.size W1 (grow W1 os) := by
      refine ⟨rfl, rfl, rfl, by simp [grow], fun q hq => ?_⟩
      show (W1.heap ++ os)[q]? = _
      rw [Array.getElem?_append_left hq]
    obtain ⟨i2, tr2⟩ := Jnz i1 hB
    have e2 : sortWorldK enc e w b 0 k d' os = grow W1 os := by rw [hW1]; rfl
    rw [e2]
    exact ⟨_, gh, rfl, i2, tr1.trans tr2, .tup [] #[] rfl (fun i x v h => by simp at h)⟩
end Go.Am
end
