/-
  Parts of a proof: YteiakclfpfmigaaPool4, AmIn, AmLaw.
-/
import Derived.ChangeArms
import Derived.OpenShut
import Derived.ChangeBears
import Derived.ChangeStays
import Derived.Handed
import Derived.RowKit3
import Derived.WalkKit
import Derived.ProofKit
import Derived.Test.YteiakclfpfmigaaM4
import Derived.Test.YteiakclfpfmigaaM8
set_option linter.unusedSimpArgs false
set_option linter.unusedVariables false
section
namespace Go.Am
set_option maxRecDepth 16000
set_option maxHeartbeats 2000000
abbrev Jg1 : T_api_Pool := ⟨0, [], 0⟩
theorem JeM {p : T_api_Pool} {x : T_api_Frame} (hp : J2p p) (hl : ((p.Frames.length : Nat) : Int) < p.Size) (hx : J7k x) (hf : J0w p.Frames x.Page.ID = none) : J2p ⟨p.Size, p.Frames ++ [x], p.Hand⟩ := by
  have h1 := hp.h1
  have hlen : (p.Frames ++ [x]).length = p.Frames.length + 1 := by simp
  refine ⟨hp.s1, hp.s2, by show (((p.Frames ++ [x]).length : Nat) : Int) ≤ p.Size; omega, hp.h0, ?_, fun k hk => ?_, fun i j hi hj he => ?_⟩
  · show p.Hand < J6e 1 (((p.Frames ++ [x]).length : Nat) : Int)
    unfold J6e at h1 ⊢
    split at h1 <;> split <;> omega
  · show J7k (p.Frames ++ [x])[k]
    rw [List.getElem_append]
    split
    · exact hp.fr k _
    · simpa using hx
  · have hi : i < (p.Frames ++ [x]).length := hi
    have hj : j < (p.Frames ++ [x]).length := hj
    have he : (p.Frames ++ [x])[i].Page.ID = (p.Frames ++ [x])[j].Page.ID := he
    rw [List.getElem_append, List.getElem_append] at he
    split at he
    · split at he
      · exact hp.uq i j _ _ he
      · rename_i h1 h2
        exact absurd (by simpa using he) (J6s hf h1)
    · split at he
      · rename_i h1 h2
        exact absurd (by simpa using he.symm) (J6s hf h2)
      · omega
theorem Jjv {p : T_api_Pool} {x : J8} (hp : J2p p) (hx : J4D x) (hf : J0w p.Frames x.ID = none) (hl : ((p.Frames.length : Nat) : Int) < p.Size) :
    J0m p x = some (⟨p.Size, p.Frames ++ [⟨x, false, 0, true⟩], p.Hand⟩, 0) := by
  have h64 := hp.len
  have d0 : ((0 : Int) != 0) = false := rfl
  have d1 : ¬ ((-1 : Int) ≥ 0) := by omega
  have d2 : (((p.Frames.length : Nat) : Int) == p.Size) = false := by
    have : ((p.Frames.length : Nat) : Int) ≠ p.Size := by omega
    simpa using this
  simp only [J0m, J2f hp, J70 hx, J1N (show p.Frames.length < 1000000 by omega), hf, J5Y, d0, d1, d2, decide_false, Option.bind_some, if_true, Bool.false_eq_true, if_false, JS, Jch (show p.Frames.length ≤ 1000 by omega)]
theorem Jgb {p : T_api_Pool} {x : J8} (hp : J2p p) (hx : J4D x) {k : Nat} (hf : J0w p.Frames x.ID = some k) : J0m p x = some (Jg1, 25) := by
  have h64 := hp.len
  have d0 : ((0 : Int) != 0) = false := rfl
  have d1 : ((k : Int) ≥ 0) := by omega
  simp only [J0m, J2f hp, J70 hx, J1N (show p.Frames.length < 1000000 by omega), hf, J5Y, d0, d1, decide_true, Option.bind_some, if_true, Bool.false_eq_true, if_false]
theorem Jhe {p : T_api_Pool} {x : J8} (hp : J2p p) (hx : J4D x) (hf : J0w p.Frames x.ID = none) (hl : ((p.Frames.length : Nat) : Int) = p.Size) : J0m p x = some (Jg1, 21) := by
  have h64 := hp.len
  have d0 : ((0 : Int) != 0) = false := rfl
  have d1 : ¬ ((-1 : Int) ≥ 0) := by omega
  have d2 : (((p.Frames.length : Nat) : Int) == p.Size) = true := by simpa using hl
  simp only [J0m, J2f hp, J70 hx, J1N (show p.Frames.length < 1000000 by omega), hf, J5Y, d0, d1, d2, decide_false, Option.bind_some, if_true, Bool.false_eq_true, if_false]
theorem Jgr {l : List T_api_Frame} {k : Nat} (h : k < l.length) (hl : l.length ≤ 1000) : J0E l (k : Int) (IntKind.wrap .i64 ((k : Int) + 1)) = some (l.eraseIdx k) := by
  rw [J2V (by omega)]
  have e : (0 : Int) ≤ (k : Int) ∧ (k : Int) ≤ ((k + 1 : Nat) : Int) ∧ ((k + 1 : Nat) : Int) ≤ ((l.length : Nat) : Int) := by omega
  unfold J0E Ja0
  rw [if_pos e, List.eraseIdx_eq_take_drop_succ, Int.toNat_natCast, Int.toNat_natCast]
def J5Z (h : Int) (k n : Nat) : Int :=
  let h1 := if (k : Int) < h then h - 1 else h
  if h1 ≥ (n : Int) then 0 else h1
theorem Jhi {p : T_api_Pool} (hp : J2p p) {id : Int} {k : Nat} (hf : J0w p.Frames id = some k) (hd : ∀ h : k < p.Frames.length, p.Frames[k].Dirty = false) :
    J1H p id = some (⟨p.Size, p.Frames.eraseIdx k, J5Z p.Hand k (p.Frames.eraseIdx k).length⟩, 0) := by
  have h64 := hp.len
  obtain ⟨hk, _⟩ := J6q hf
  have c1 : ¬ ((k : Int) < 0) := by omega
  have hh := hp.h0
  have hh1 := hp.h1
  have w : IntKind.wrap .i64 (p.Hand - 1) = p.Hand - 1 := J5C (by omega) (by unfold J6e at hh1; split at hh1 <;> omega)
  simp only [J1H, J2f hp, J1N (show p.Frames.length < 1000000 by omega), hf, J5Y, c1, decide_false, Option.bind_some, if_true, Bool.false_eq_true, if_false, J7t hk, hd hk, J95 (show p.Frames.length ≤ 1000 by omega), Jgr hk (show p.Frames.length ≤ 1000 by omega), w]
  unfold J5Z
  by_cases c2 : (k : Int) < p.Hand
  · simp only [c2, decide_true, if_true, J3e, J33]
    by_cases c3 : p.Hand - 1 ≥ (((p.Frames.eraseIdx k).length : Nat) : Int)
    · simp only [c3, decide_true, if_true]
    · simp only [c3, decide_false, Bool.false_eq_true, if_false]
  · simp only [c2, decide_false, Bool.false_eq_true, if_false, J3e, J33]
    by_cases c3 : p.Hand ≥ (((p.Frames.eraseIdx k).length : Nat) : Int)
    · simp only [c3, decide_true, if_true]
    · simp only [c3, decide_false, Bool.false_eq_true, if_false]
theorem Jgq {p : T_api_Pool} (hp : J2p p) {id : Int} (hf : J0w p.Frames id = none) : J1H p id = some (Jg1, 18) := by
  have h64 := hp.len
  have c1 : ((-1 : Int) < 0) := by omega
  simp only [J1H, J2f hp, J1N (show p.Frames.length < 1000000 by omega), hf, J5Y, c1, decide_true, Option.bind_some, if_true]
theorem J62 {α : Type} {l : List α} {k i : Nat} (h : i < (l.eraseIdx k).length) : ∃ (j : Nat) (hj : j < l.length), (l.eraseIdx k)[i] = l[j] ∧ j = if i < k then i else i + 1 := by
  have hl := List.length_eraseIdx (l := l) (i := k)
  by_cases hk : k < l.length
  · rw [if_pos hk] at hl
    by_cases hi : i < k
    · refine ⟨i, by omega, ?_, by rw [if_pos hi]⟩
      rw [List.getElem_eraseIdx, dif_pos hi]
    · refine ⟨i + 1, by omega, ?_, by rw [if_neg hi]⟩
      rw [List.getElem_eraseIdx, dif_neg hi]
  · rw [if_neg hk] at hl
    refine ⟨i, by omega, ?_, by rw [if_pos (by omega)]⟩
    rw [List.getElem_eraseIdx, dif_pos (by omega)]
theorem Jeo {p : T_api_Pool} (hp : J2p p) {k : Nat} (hk : k < p.Frames.length) : J2p ⟨p.Size, p.Frames.eraseIdx k, J5Z p.Hand k (p.Frames.eraseIdx k).length⟩ := by
  have hl := List.length_eraseIdx (l := p.Frames) (i := k)
  rw [if_pos hk] at hl
  have n := hp.n
  have h0 := hp.h0
  refine ⟨hp.s1, hp.s2, by show (((p.Frames.eraseIdx k).length : Nat) : Int) ≤ p.Size; omega, ?_, ?_, fun i hi => ?_, fun i j hi hj he => ?_⟩
  · show 0 ≤ J5Z p.Hand k (p.Frames.eraseIdx k).length
    unfold J5Z
    simp only
    split <;> split <;> omega
  · show J5Z p.Hand k (p.Frames.eraseIdx k).length < J6e 1 (((p.Frames.eraseIdx k).length : Nat) : Int)
    unfold J5Z J6e
    simp only
    (repeat' split) <;> omega
  · obtain ⟨j, hj, e, _⟩ := J62 hi
    show J7k (p.Frames.eraseIdx k)[i]
    rw [e]
    exact hp.fr j hj
  · obtain ⟨a, ha, e1, q1⟩ := J62 hi
    obtain ⟨b, hb, e2, q2⟩ := J62 hj
    have he : (p.Frames.eraseIdx k)[i].Page.ID = (p.Frames.eraseIdx k)[j].Page.ID := he
    rw [e1, e2] at he
    have := hp.uq a b ha hb he
    split at q1 <;> split at q2 <;> omega
theorem JeL {p : T_api_Pool} (hp : J2p p) {k : Nat} (hk : k < p.Frames.length) : J0w (p.Frames.eraseIdx k) p.Frames[k].Page.ID = none := by
  cases h : J0w (p.Frames.eraseIdx k) p.Frames[k].Page.ID with
  | none => rfl
  | some i =>
    obtain ⟨hi, e⟩ := J6q h
    obtain ⟨a, ha, e1, q1⟩ := J62 hi
    rw [e1] at e
    have := hp.uq a k ha hk e
    split at q1 <;> omega
theorem J9B {p : T_api_Pool} {k : Nat} {id : Int} (h : J0w p.Frames id = none) : J0w (p.Frames.eraseIdx k) id = none := by
  cases h2 : J0w (p.Frames.eraseIdx k) id with
  | none => rfl
  | some i =>
    obtain ⟨hi, e⟩ := J6q h2
    obtain ⟨a, ha, e1, _⟩ := J62 hi
    rw [e1] at e
    exact absurd e (J6s h ha)
theorem JgD {l : List T_api_Frame} {f : T_api_Frame} (h : J0w l f.Page.ID = none) : J0w (l ++ [f]) f.Page.ID = some l.length := by
  unfold J0w at h ⊢
  rw [List.findIdx?_append, h]
  simp
theorem JgR {b n h : Nat} {l : List Bool} {k : Nat} (hk : k < l.length) : J0w (plz b n l h).Frames ((b + k : Nat) : Int) = some k := by
  have e := J37 b l
  have h3 := Jaq (l := frs b l) (fun i j hi hj he => by
      rw [J2v (by omega), J2v (by omega)] at he
      have he : ((b + i : Nat) : Int) = ((b + j : Nat) : Int) := he
      omega) (k := k) (by omega)
  rw [J2v hk] at h3
  exact h3
theorem JgT {b n h : Nat} {l : List Bool} {k : Nat} (hk : l.length ≤ k) : J0w (plz b n l h).Frames ((b + k : Nat) : Int) = none := by
  have e := J37 b l
  show J0w (frs b l) ((b + k : Nat) : Int) = none
  unfold J0w
  rw [List.findIdx?_eq_none_iff]
  intro x hx
  obtain ⟨i, hi, rfl⟩ := List.getElem_of_mem hx
  rw [J2v (by omega)]
  have : ((b + i : Nat) : Int) ≠ ((b + k : Nat) : Int) := by omega
  simpa [fr0] using this
theorem JhT {p : T_api_Pool} (hp : J2p p) {id : Int} (hf : J0w p.Frames id = none) : J3U p id = some (⟨0, 0, J1E⟩, false) := by
  have h64 := hp.len
  have c1 : ¬ ((-1 : Int) ≥ 0) := by omega
  simp only [J3U, J2e, J2f hp, J1N (show p.Frames.length < 1000000 by omega), hf, J5Y, c1, decide_false, Option.bind_some, if_true, Bool.false_eq_true, if_false]
theorem JjT {n k : Nat} (h1 : 1 ≤ n) (h2 : n ≤ 10) {y : Nat} (hy : y < 256) (hk : k = y % n) : J1K (y : Int) (n : Int) 0 (plz 0 n (List.replicate n true) 0) = some true := by
  have hkn : k < n := by rw [hk]; exact Nat.mod_lt _ (by omega)
  have hl : (List.replicate n true).length = n := List.length_replicate
  have ok := Je7 (b := 0) (n := n) (l := List.replicate n true) (h := 0) h1 (by omega) (by omega) (by omega)
  have e := J37 0 (List.replicate n true)
  have hfr : (plz 0 n (List.replicate n true) 0).Frames.length = n := by show (frs 0 (List.replicate n true)).length = n; omega
  have w : IntKind.wrap .i64 (y : Int) = (y : Int) := J5C (by omega) (by omega)
  have r : J7e (y : Int) (n : Int) = some ((k : Nat) : Int) := by
    unfold J7e
    rw [if_neg (by omega), hk]
    rfl
  have fk : J0w (plz 0 n (List.replicate n true) 0).Frames (k : Int) = some k := by
    have := JgR (b := 0) (n := n) (h := 0) (l := List.replicate n true) (k := k) (by omega)
    rwa [Nat.zero_add] at this
  have fn : J0w (plz 0 n (List.replicate n true) 0).Frames (n : Int) = none := by
    have := JgT (b := 0) (n := n) (h := 0) (l := List.replicate n true) (k := n) (by omega)
    rwa [Nat.zero_add] at this
  have pn : J4D ⟨(n : Int), 0, J1E⟩ := J7U (by omega) (by omega) (by omega) (by omega)
  have pk : J4D ⟨(k : Int), 0, J1E⟩ := J7U (by omega) (by omega) (by omega) (by omega)
  have a3 := Jhe ok pn fn (by rw [hfr]; rfl)
  have a6 := Jgb ok pk fk
  have gk : (plz 0 n (List.replicate n true) 0).Frames[k]'(by omega) = fr0 0 k true := by
    have := J2v (b := 0) (l := List.replicate n true) (k := k) (by omega)
    rw [List.getElem_replicate] at this
    exact this
  have a9 := Jhi ok fk fun h => by rw [gk]; rfl
  have ok2 := Jeo ok (k := k) (by omega)
  have idk : ((plz 0 n (List.replicate n true) 0).Frames[k]'(by omega)).Page.ID = (k : Int) := by rw [gk]; show ((0 + k : Nat) : Int) = _; rw [Nat.zero_add]
  have f2k := JeL ok (k := k) (by omega)
  rw [idk] at f2k
  have f2n := J9B (k := k) fn
  have hl2 := List.length_eraseIdx (l := (plz 0 n (List.replicate n true) 0).Frames) (i := k)
  rw [if_pos (by omega), hfr] at hl2
  have hs : (plz 0 n (List.replicate n true) 0).Size = (n : Int) := rfl
  rw [hs] at a9 ok2
  generalize (plz 0 n (List.replicate n true) 0).Frames.eraseIdx k = F at a9 ok2 f2k f2n hl2
  generalize J5Z (plz 0 n (List.replicate n true) 0).Hand k F.length = H at a9 ok2
  have a12 := JhT ok2 f2k
  have a15 := Jjv ok2 pn f2n (by show ((F.length : Nat) : Int) < (n : Int); omega)
  have a18 := Jgq ok2 f2k
  have ok3 := JeM (x := ⟨⟨(n : Int), 0, J1E⟩, false, 0, true⟩) ok2 (by show ((F.length : Nat) : Int) < (n : Int); omega) ⟨pn, (fun h => by cases h), fun _ => rfl⟩ f2n
  have fz := JgD (l := F) (f := ⟨⟨(n : Int), 0, J1E⟩, false, 0, true⟩) f2n
  have hF : (F ++ [(⟨⟨(n : Int), 0, J1E⟩, false, 0, true⟩ : T_api_Frame)]).length = n := by simp; omega
  have a28 : J2e ⟨(n : Int), F ++ [⟨⟨(n : Int), 0, J1E⟩, false, 0, true⟩], H⟩ (n : Int) = some (((n - 1 : Nat) : Int)) := by
    have fz : J0w (F ++ [(⟨⟨(n : Int), 0, J1E⟩, false, 0, true⟩ : T_api_Frame)]) (n : Int) = some F.length := fz
    simp only [J2e, J2f ok3, Option.bind_some, if_true, J1N (p := ⟨(n : Int), F ++ [⟨⟨(n : Int), 0, J1E⟩, false, 0, true⟩], H⟩) (by show (F ++ [(⟨⟨(n : Int), 0, J1E⟩, false, 0, true⟩ : T_api_Frame)]).length < 1000000; omega), fz, J5Y]
    congr 1
    omega
  have w2 : IntKind.wrap .i64 ((n : Int) - 1) = ((n - 1 : Nat) : Int) := by rw [J5C (by omega) (by omega)]; omega
  have d0 : ((0 : Int) == 0) = true := rfl
  have d21 : ((21 : Int) == 21) = true := rfl
  have d25 : ((25 : Int) == 25) = true := rfl
  have d18 : ((18 : Int) == 18) = true := rfl
  have dl : ((((F ++ [(⟨⟨(n : Int), 0, J1E⟩, false, 0, true⟩ : T_api_Frame)]).length : Nat) : Int) == (n : Int)) = true := by rw [hF]; simp
  unfold J1K
  simp only [w, r, Option.bind_some, a3, a6, a9, a12, a15, a18, d0, d21, d25, d18, dl, a28, w2, beq_self_eq_true, if_true, Bool.false_eq_true, if_false, J2f ok3]
theorem J8x {x y : Int} (h : 0 ≤ x ∧ x ≤ 255) (h' : 0 ≤ y ∧ y ≤ 255) : J2j x y = some true := by
  unfold J2j
  simp only [Jfn, Option.bind_some, if_true]
  obtain ⟨x, rfl⟩ : ∃ z : Nat, x = (z : Int) := ⟨x.toNat, by omega⟩
  obtain ⟨y, rfl⟩ : ∃ z : Nat, y = (z : Int) := ⟨y.toNat, by omega⟩
  have w : IntKind.wrap .i64 (x : Int) = (x : Int) := J5C (by omega) (by omega)
  have r : J7e (x : Int) 10 = some ((x % 10 : Nat) : Int) := rfl
  have w2 : IntKind.wrap .i64 (1 + ((x % 10 : Nat) : Int)) = ((1 + x % 10 : Nat) : Int) := by rw [J5C (by omega) (by omega)]; omega
  have hm : x % 10 < 10 := Nat.mod_lt _ (by omega)
  obtain ⟨n, hn⟩ : ∃ n, n = 1 + x % 10 := ⟨_, rfl⟩
  simp only [w, r, w2, Option.bind_some, ← hn, JdJ (n := n) (by omega) (by omega)]
  obtain ⟨o, ho, rfl⟩ := J2N (f := fun s : Int × T_api_Pool => J0S (y : Int) (n : Int) 0 s.1 s.2) (fun s => ∃ j : Nat, s.1 = j ∧ j ≤ n ∧ s.2 = plz 0 n (List.replicate j true) 0) (fun s => (n - s.1).toNat) (fun o => o = true) (fun s ⟨j, hj, h4, hs⟩ => by
    obtain ⟨i, p⟩ := s
    simp only at hj hs
    subst hj hs
    by_cases hlt : j < n
    · left
      have e1 : ((j : Nat) : Int) < (n : Int) := by omega
      have a := JbV (b := 0) (n := n) (l := List.replicate j true) (by omega) (by omega) (by simpa using hlt)
      rw [List.length_replicate, Nat.zero_add, ← List.replicate_succ'] at a
      have d0 : ((0 : Int) != 0) = false := rfl
      refine ⟨(((j + 1 : Nat) : Int), plz 0 n (List.replicate (j + 1) true) 0), ?_, ⟨j + 1, rfl, by omega, rfl⟩, by simp; omega⟩
      simp only [J0S, e1, decide_true, if_true, a, Option.bind_some, d0, Bool.false_eq_true, if_false, J2V (show j < 1000000 by omega)]
    · right
      obtain rfl : j = n := by omega
      have e1 : ¬ ((j : Nat) : Int) < (j : Int) := by omega
      refine ⟨true, ?_, rfl⟩
      simp only [J0S, e1, decide_false, Bool.false_eq_true, if_false, JjT (n := j) (k := y % j) (by omega) (by omega) (y := y) (by omega) rfl, Option.map_some]) (0, plz 0 n [] 0) ⟨0, rfl, by omega, rfl⟩
  exact ho
end Go.Am
end
section
namespace Go.Am
section
variable (P : Program)
def J5u : Nat → TypeId → Bool
  | 0, _ => false
  | n + 1, t => match P.underlying t with
    | some .bool => true
    | some (.int _) => true
    | some .string => true
    | some (.slice e) => J5u n e && decide (t < P.types.size ∧ 0 < P.cellsOf e)
    | some (.struct fs) => fs.toList.all (fun f => J5u n f.type) && decide (t < P.types.size)
    | some (.array _ e) => J5u n e && decide (t < P.types.size)
    | _ => false
def J6a : Nat → TypeId → List PV → Prop
  | 0, _, _ => False
  | n + 1, t, pvs => match P.underlying t with
    | some .bool => ∃ b, pvs = [.b b]
    | some (.int k) => ∃ z, pvs = [.i k z] ∧ (Lit.int k z).wf = true
    | some .string => ∃ l, pvs = [.s l] ∧ l.length ≤ maxLen
    | some (.slice e) => ∃ rows, pvs = [.sl (P.cellsOf e) rows] ∧ rows.length ≤ maxLen ∧ ∀ row ∈ rows, row.length = P.cellsOf e ∧ J6a n e row
    | some (.struct fs) => pvs.length = P.cellsOf t ∧ ∀ f ∈ fs.toList, J6a n f.type ((pvs.drop f.offset).take (P.cellsOf f.type))
    | some (.array m e) => pvs.length = P.cellsOf t ∧ ∀ i, i < m → J6a n e ((pvs.drop (i * P.cellsOf e)).take (P.cellsOf e))
    | _ => False
end
section
variable {H : Type} {enc : TypeId × Value → H} {P : Program} {w : World} {base : Nat} {sp : Nat → Bool} {held : Bool}
def Jfk (w : World) (pvs : List PV) (cs : List Value) : Prop :=
  pvs.length = cs.length ∧ ∀ (i : Nat) p v, pvs[i]? = some p → cs[i]? = some v → JC w (fun r _ => r < w.heap.size) p v
theorem Jcp {a : Addr} {v : Value} (h : w.cell? a = some v) : a.spot = none ∧ JV w a.block a.off = some v ∧ a.block < w.heap.size := by
  unfold World.cell? at h
  unfold JV
  split at h
  · rename_i c t fz hb
    split at h
    · cases h
    · rename_i hs
      refine ⟨by simpa using hs, by rw [hb]; exact h, ?_⟩
      have := Array.getElem?_eq_some_iff.1 hb
      exact this.1
  · cases h
theorem Ji2 {a : Addr} {n : Nat} {cs : List Value} (h : w.cells? base a n = some cs) : cs.length = n ∧ ∀ i v, cs[i]? = some v → w.cell? (a.add i) = some v := by
  unfold World.cells? at h
  split at h
  · have hl := mapM_some_length h
    refine ⟨by simpa using hl, fun i v hv => ?_⟩
    have hi : i < n := by
      have := (List.getElem?_eq_some_iff.1 hv).1
      simp at hl; omega
    have := mapM_some_get h i i (by simp [hi])
    rw [this, hv]
  · cases h
theorem Jba {α : Type} (Q : Nat → α → Prop) : ∀ (m : Nat), (∀ i, i < m → ∃ x, Q i x) → ∃ xs : List α, xs.length = m ∧ ∀ i x, xs[i]? = some x → Q i x
  | 0, _ => ⟨[], rfl, fun i x h => by simp at h⟩
  | m + 1, h => by
    obtain ⟨xs, hl, hx⟩ := Jba Q m (fun i hi => h i (by omega))
    obtain ⟨y, hy⟩ := h m (by omega)
    refine ⟨xs ++ [y], by simp [hl], fun i x hi => ?_⟩
    rcases Nat.lt_or_ge i xs.length with hlt | hge
    · rw [List.getElem?_append_left hlt] at hi; exact hx i x hi
    · rw [List.getElem?_append_right hge] at hi
      have : i - xs.length = 0 := by
        have := (List.getElem?_eq_some_iff.1 hi).1
        simp at this; omega
      rw [this] at hi
      simp at hi; subst hi
      obtain rfl : i = m := by omega
      exact hy
theorem J8w {α : Type} : ∀ (xs : List (List α)) (j : Nat) (y : List α), xs[j]? = some y → (xs.flatten.drop ((xs.take j).map List.length).sum).take y.length = y
  | [], j, y, h => by simp at h
  | x :: xs, 0, y, h => by simp at h; subst h; simp
  | x :: xs, j + 1, y, h => by
    simp at h
    have := J8w xs j y h
    simp only [List.take_succ_cons, List.map_cons, List.sum_cons, List.flatten_cons, List.drop_length_add_append]
    exact this
theorem Jjn (hl : laidOutB P = true) (hm : mapsRowed P = true) : ∀ (n : Nat) (t : TypeId) (cs : List Value) (x : DataW H × List MemPlace) (fuel : Nat), J5u P n t = true → DataW.trod enc P w base sp held fuel t cs = some x →
    ∃ pvs, J6a P n t pvs ∧ Jfk w pvs cs := by
  have K := kids_rows hl hm
  intro n
  induction n with
  | zero => intro t cs x fuel hp; simp [J5u] at hp
  | succ n ih =>
    intro t cs x fuel hp h
    unfold J5u at hp
    unfold J6a
    split at hp
    · rename_i ht
      obtain ⟨b, rfl, _⟩ := DataW.trod_bool ht h
      refine ⟨[.b b], by simp, rfl, fun i p v h1 h2 => ?_⟩
      match i with
      | 0 => simp at h1 h2; subst h1 h2; exact .b _
      | i + 1 => simp at h1
    · rename_i k ht
      obtain ⟨z, rfl, _, hwf⟩ := DataW.trod_int ht h
      refine ⟨[.i k z], by simpa using hwf, rfl, fun i p v h1 h2 => ?_⟩
      match i with
      | 0 => simp at h1 h2; subst h1 h2; exact .i _ _
      | i + 1 => simp at h1
    · rename_i ht
      obtain ⟨s, rfl, _, hsz⟩ := DataW.trod_string ht h
      refine ⟨[.s s.data.toList], ⟨_, rfl, by rw [Array.length_toList]; exact hsz⟩, rfl, fun i p v h1 h2 => ?_⟩
      match i with
      | 0 => simp at h1 h2; subst h1 h2; exact .s _
      | i + 1 => simp at h1
    · rename_i e ht
      simp only [Bool.and_eq_true, decide_eq_true_eq] at hp
      rcases DataW.trod_slice ht h with ⟨rfl, _⟩ | ⟨a, len, cap, elems, rest, n0, _, rfl, _, _, hlc, hcm, hel, hat, _⟩
      · refine ⟨[.sl (P.cellsOf e) []], ⟨[], rfl, Nat.zero_le _, by simp⟩, rfl, fun i p v h1 h2 => ?_⟩
        match i with
        | 0 => simp at h1 h2; subst h1 h2; exact .sl0 _ _ _
        | i + 1 => simp at h1
      ·
        have hrow : ∀ i, i < len → ∃ row : List PV, (row.length = P.cellsOf e ∧ J6a P n e row) ∧ ∀ j p, row[j]? = some p → ∃ v, w.cell? (a.add (i * P.cellsOf e) |>.add j) = some v ∧ JC w (fun r _ => r < w.heap.size) p v := by
          intro i hi
          have h1 := hat i hi
          have h2 : ∃ y, elems[i]? = some y := ⟨_, List.getElem?_eq_getElem (by omega)⟩
          obtain ⟨y, hy⟩ := h2
          rw [hy, Option.bind_eq_some_iff] at h1
          obtain ⟨cs', hc, ht'⟩ := h1
          obtain ⟨row, q1, q2, q3⟩ := ih e cs' y n0 hp.1 ht'
          obtain ⟨c1, c2⟩ := Ji2 hc
          refine ⟨row, ⟨by omega, q1⟩, fun j p hj => ?_⟩
          have hlt : j < cs'.length := by have := (List.getElem?_eq_some_iff.1 hj).1; omega
          have hv := List.getElem?_eq_getElem hlt
          exact ⟨_, c2 j _ hv, q3 j p _ hj hv⟩
        obtain ⟨rows, hrl, hrows⟩ := Jba _ len hrow
        refine ⟨[.sl (P.cellsOf e) rows], ⟨rows, rfl, by omega, fun row hr => ?_⟩, rfl, fun i p v h1 h2 => ?_⟩
        · obtain ⟨i, hi⟩ := List.getElem?_of_mem hr
          exact (hrows i row hi).1
        match i with
        | i + 1 => simp at h1
        | 0 =>
          simp at h1 h2; subst h1 h2
          by_cases h0 : ∃ (i j : Nat) (row : List PV) (p : PV), rows[i]? = some row ∧ row[j]? = some p
          · obtain ⟨i0, j0, row0, p0, hr0, hp0⟩ := h0
            have spot : a.spot = none ∨ P.cellsOf e = 0 := by
              rcases Nat.eq_zero_or_pos (P.cellsOf e) with hz | hpos
              · exact .inr hz
              · have hlen : 0 < len := by have := (List.getElem?_eq_some_iff.1 hr0).1; omega
                have hr00 := List.getElem?_eq_getElem (l := rows) (i := 0) (by omega)
                have q := hrows 0 _ hr00
                have hj0 := List.getElem?_eq_getElem (l := rows[0]'(by omega)) (i := 0) (by omega)
                obtain ⟨v, hv, _⟩ := q.2 0 _ hj0
                rw [Nat.zero_mul] at hv
                exact .inl (by simpa [Addr.add] using (Jcp hv).1)
            rcases spot with spot | hz
            · have cell : ∀ (i j : Nat) (row : List PV) (p : PV), rows[i]? = some row → row[j]? = some p → ∃ v, (a.block < w.heap.size ∧ JV w a.block (a.off + i * P.cellsOf e + j) = some v) ∧ JC w (fun r _ => r < w.heap.size) p v := by
                intro i j row p hi hj
                obtain ⟨v, hv, hr⟩ := (hrows i row hi).2 j p hj
                obtain ⟨s1, s2, s3⟩ := Jcp hv
                refine ⟨v, ?_, hr⟩
                have e1 : ((a.add (i * P.cellsOf e)).add j).block = a.block := by unfold Addr.add; split <;> split <;> rfl
                have e2 : ((a.add (i * P.cellsOf e)).add j).off = a.off + i * P.cellsOf e + j := by
                  unfold Addr.add
                  split <;> split <;> simp_all
                rw [e1] at s3
                rw [e1, e2] at s2
                exact ⟨s3, s2⟩
              have ea : a = ⟨a.block, a.off, none⟩ := by cases a; simp_all
              rw [ea, ← hrl]
              refine .sl _ rows a.block a.off cap (fun i j => ((JV w a.block (a.off + i * P.cellsOf e + j)).getD default)) (by omega) (fun row hr => ?_) (fun i j row p hi hj => ?_) (fun i j row p hi hj => ?_)
              · obtain ⟨i, hi⟩ := List.getElem?_of_mem hr
                exact (hrows i row hi).1.1
              · obtain ⟨v, ⟨h3, h4⟩, _⟩ := cell i j row p hi hj
                exact ⟨h3, by rw [h4]; rfl⟩
              · obtain ⟨v, ⟨h3, h4⟩, h5⟩ := cell i j row p hi hj
                rw [h4]; exact h5
            · have := (hrows i0 row0 hr0).1.1
              have := (List.getElem?_eq_some_iff.1 hp0).1
              omega
          ·
            rcases Nat.eq_zero_or_pos len with hz | hpos
            · have : rows = [] := by cases rows <;> simp_all
              subst this
              subst hz
              exact .sl0 _ _ _
            · exfalso
              have hr00 := List.getElem?_eq_getElem (l := rows) (i := 0) (by omega)
              have q := (hrows 0 _ hr00).1.1
              exact h0 ⟨0, 0, _, _, hr00, List.getElem?_eq_getElem (by omega)⟩
    · rename_i fs ht
      simp only [Bool.and_eq_true, decide_eq_true_eq, List.all_eq_true] at hp
      obtain ⟨xs, n0, _, _, hcl, hxl, hat⟩ := DataW.trod_struct ht h
      obtain ⟨_, ksum, koff⟩ := K.struct hp.2 ht
      have hf : ∀ i, i < fs.toList.length → ∃ ys : List PV, ∀ f, fs.toList[i]? = some f → J6a P n f.type ys ∧ Jfk w ys ((cs.drop f.offset).take (P.cellsOf f.type)) := by
        intro i hi
        have hfi := List.getElem?_eq_getElem hi
        have hmem := List.mem_of_getElem? hfi
        have hfa : fs[i]? = some (fs.toList[i]) := by rw [← Array.getElem?_toList]; exact hfi
        have h1 := hat i _ hfa
        have h2 : ∃ y, xs[i]? = some y := ⟨_, List.getElem?_eq_getElem (by simpa [hxl] using hi)⟩
        obtain ⟨y, hy⟩ := h2
        rw [hy] at h1
        obtain ⟨ys, q1, q2⟩ := ih _ _ _ _ (hp.1 _ hmem) h1
        refine ⟨ys, fun f hff => ?_⟩
        rw [hfi] at hff; injection hff with hff; subst hff
        exact ⟨q1, q2⟩
      obtain ⟨yss, hyl, hys⟩ := Jba _ _ hf
      have hlen : ∀ (j : Nat) (f : Field), fs.toList[j]? = some f → ∀ ys : List PV, yss[j]? = some ys → ys.length = P.cellsOf f.type := by
        intro j f hj ys hy
        have q := (hys j ys hy f hj).2.1
        have o := koff j f hj
        rw [q, List.length_take, List.length_drop, hcl, ksum, o]
        have : ((fs.toList.take j).map fun f => P.cellsOf f.type).sum + P.cellsOf f.type ≤ (fs.toList.map fun f => P.cellsOf f.type).sum := by
          have e1 : fs.toList = fs.toList.take j ++ (f :: fs.toList.drop (j + 1)) := by
            have hjl := (List.getElem?_eq_some_iff.1 hj)
            obtain ⟨hjl, he⟩ := hjl
            rw [← he, ← List.drop_eq_getElem_cons hjl, List.take_append_drop]
          conv => rhs; rw [e1]
          simp only [List.map_append, List.map_cons, List.sum_append, List.sum_cons]
          omega
        omega
      have hmapl : yss.map List.length = fs.toList.map fun f => P.cellsOf f.type := by
        apply List.ext_getElem?
        intro j
        rw [List.getElem?_map, List.getElem?_map]
        cases hy : yss[j]? with
        | none =>
          have : fs.toList[j]? = none := by rw [List.getElem?_eq_none_iff] at hy ⊢; omega
          rw [this]; rfl
        | some ys =>
          have hj : j < fs.toList.length := by have := (List.getElem?_eq_some_iff.1 hy).1; omega
          have hfj := List.getElem?_eq_getElem hj
          rw [hfj]
          simp only [Option.map_some]
          rw [hlen j _ hfj ys hy]
      have hoff : ∀ (j : Nat) (f : Field), fs.toList[j]? = some f → ((yss.take j).map List.length).sum = f.offset := by
        intro j f hj
        rw [koff j f hj, List.map_take, hmapl, ← List.map_take]
      refine ⟨yss.flatten, ⟨?_, fun f hf => ?_⟩, ?_, fun i p v h1 h2 => ?_⟩
      · rw [List.length_flatten, hmapl, ksum]
      · obtain ⟨j, hj⟩ := List.getElem?_of_mem hf
        have hjl : j < yss.length := by have := (List.getElem?_eq_some_iff.1 hj).1; omega
        have hyj := List.getElem?_eq_getElem hjl
        have := J8w yss j _ hyj
        rw [hoff j f hj, hlen j f hj _ hyj] at this
        rw [this]
        exact (hys j _ hyj f hj).1
      · rw [List.length_flatten, hmapl, hcl, ksum]
      ·
        have key : ∀ (l : List (List PV)) (i : Nat) p, l.flatten[i]? = some p → ∃ j ys k, l[j]? = some ys ∧ ys[k]? = some p ∧ i = ((l.take j).map List.length).sum + k := by
          intro l
          induction l with
          | nil => intro i p h; simp at h
          | cons y l ihl =>
            intro i p h
            rw [List.flatten_cons] at h
            rcases Nat.lt_or_ge i y.length with hlt | hge
            · rw [List.getElem?_append_left hlt] at h
              exact ⟨0, y, i, rfl, h, by simp⟩
            · rw [List.getElem?_append_right hge] at h
              obtain ⟨j, ys, k, a1, a2, a3⟩ := ihl _ _ h
              exact ⟨j + 1, ys, k, by simpa using a1, a2, by simp only [List.take_succ_cons, List.map_cons, List.sum_cons]; omega⟩
        obtain ⟨j, ys, k, a1, a2, a3⟩ := key _ _ _ h1
        have hj : j < fs.toList.length := by have := (List.getElem?_eq_some_iff.1 a1).1; omega
        have hfj := List.getElem?_eq_getElem hj
        have q := (hys j ys a1 _ hfj).2
        refine q.2 k p v a2 ?_
        have hk : k < P.cellsOf (fs.toList[j]).type := by have := (List.getElem?_eq_some_iff.1 a2).1; rw [hlen j _ hfj ys a1] at this; exact this
        rw [List.getElem?_take_of_lt hk, List.getElem?_drop, ← hoff j _ hfj, ← a3]
        exact h2
    · rename_i m e ht
      simp only [Bool.and_eq_true, decide_eq_true_eq] at hp
      obtain ⟨xs, n0, _, _, hcl, hxl, hat⟩ := DataW.trod_array ht h
      obtain ⟨_, ksz⟩ := K.array hp.2 ht
      have hf : ∀ i, i < m → ∃ ys : List PV, J6a P n e ys ∧ Jfk w ys ((cs.drop (i * P.cellsOf e)).take (P.cellsOf e)) := by
        intro i hi
        have h1 := hat i hi
        have h2 : ∃ y, xs[i]? = some y := ⟨_, List.getElem?_eq_getElem (by omega)⟩
        obtain ⟨y, hy⟩ := h2
        rw [hy] at h1
        exact ih _ _ _ _ hp.1 h1
      obtain ⟨yss, hyl, hys⟩ := Jba _ _ hf
      have hlen : ∀ (j : Nat) ys, yss[j]? = some ys → ys.length = P.cellsOf e := by
        intro j ys hy
        have q := (hys j ys hy).2.1
        have hj : j < m := by have := (List.getElem?_eq_some_iff.1 hy).1; omega
        rw [q, List.length_take, List.length_drop, hcl, ksz]
        have : j * P.cellsOf e + P.cellsOf e ≤ m * P.cellsOf e := by rw [← Nat.succ_mul]; exact Nat.mul_le_mul_right _ hj
        omega
      have hall : ∀ y ∈ yss, y.length = P.cellsOf e := fun y hy => by
        obtain ⟨j, hj⟩ := List.getElem?_of_mem hy
        exact hlen j y hj
      have hsum : ∀ l : List (List PV), (∀ y ∈ l, y.length = P.cellsOf e) → (l.map List.length).sum = l.length * P.cellsOf e := by
        intro l
        induction l with
        | nil => intro _; simp
        | cons y l ihl => intro hh; simp [hh y (by simp), ihl (fun z hz => hh z (by simp [hz])), Nat.succ_mul, Nat.add_comm]
      have hoff : ∀ j, j ≤ m → ((yss.take j).map List.length).sum = j * P.cellsOf e := by
        intro j hj
        rw [hsum _ (fun y hy => hall y (List.mem_of_mem_take hy)), List.length_take, hyl, Nat.min_eq_left hj]
      refine ⟨yss.flatten, ⟨?_, fun j hj => ?_⟩, ?_, fun i p v h1 h2 => ?_⟩
      · rw [List.length_flatten, hsum _ hall, hyl, ksz]
      · have hyj := List.getElem?_eq_getElem (l := yss) (i := j) (by omega)
        have := J8w yss j _ hyj
        rw [hoff j (by omega), hlen j _ hyj] at this
        rw [this]
        exact (hys j _ hyj).1
      · rw [List.length_flatten, hsum _ hall, hcl, hyl, ksz]
      · have key : ∀ (l : List (List PV)) (i : Nat) p, l.flatten[i]? = some p → ∃ j ys k, l[j]? = some ys ∧ ys[k]? = some p ∧ i = ((l.take j).map List.length).sum + k := by
          intro l
          induction l with
          | nil => intro i p h; simp at h
          | cons y l ihl =>
            intro i p h
            rw [List.flatten_cons] at h
            rcases Nat.lt_or_ge i y.length with hlt | hge
            · rw [List.getElem?_append_left hlt] at h
              exact ⟨0, y, i, rfl, h, by simp⟩
            · rw [List.getElem?_append_right hge] at h
              obtain ⟨j, ys, k, a1, a2, a3⟩ := ihl _ _ h
              exact ⟨j + 1, ys, k, by simpa using a1, a2, by simp only [List.take_succ_cons, List.map_cons, List.sum_cons]; omega⟩
        obtain ⟨j, ys, k, a1, a2, a3⟩ := key _ _ _ h1
        have hj : j < m := by have := (List.getElem?_eq_some_iff.1 a1).1; omega
        have q := (hys j ys a1).2
        refine q.2 k p v a2 ?_
        have hk : k < P.cellsOf e := by have := (List.getElem?_eq_some_iff.1 a2).1; rw [hlen j ys a1] at this; exact this
        rw [List.getElem?_take_of_lt hk, List.getElem?_drop, ← hoff j (by omega), ← a3]
        exact h2
    · cases hp
end
end Go.Am
end
section
namespace Go.Am
open Go.ChangeShapes Go.WideShapes Go.ChangeAt Go.RowKit
def gh0 (w : World) : Gh := ⟨fun _ => none, fun r _ => r < w.heap.size⟩
theorem JbN (g : Gh) (w : World) (b r o : Nat) : ¬ Wr1 ⟨[], g, w⟩ b r o := by
  unfold Wr1; simp
theorem Jmm (w : World) : Inv ⟨[], gh0 w, w⟩ where
  box := fun b cs h => by simp at h
  arr := fun b wm esz rows h => by simp at h
  apart := fun b1 b2 r o h => absurd h (JbN _ _ _ _ _)
  const := fun r o h => ⟨h, fun b => JbN _ _ _ _ _⟩
def J6X (w w' : World) : Prop := J6g (fun _ _ => False) w w'
theorem J6X.kept {w w' : World} (h : J6X w w') (may : MemPlace → Prop) : w.keptBut w' may := by
  obtain ⟨h1, h2, h3, h4, h5⟩ := h
  refine ⟨h4, h5, fun i hi => ?_⟩
  have hg := Array.getElem?_eq_getElem hi
  cases hw : w.heap[i]? with
  | none => rw [hg] at hw; cases hw
  | some x =>
    cases x with
    | cells c e fz =>
      obtain ⟨c', q1, q2, q3⟩ := h2 i c e fz hw
      rw [q1]
      exact ⟨rfl, rfl, q2, fun j _ => q3 j (fun hf => hf)⟩
    | map es clock =>
      have := h3 i _ hw (fun c e fz he => by cases he)
      rw [this]
      exact .inr ⟨rfl, rfl⟩
    | _ =>
      have := h3 i _ hw (fun c e fz he => by cases he)
      rw [this]
theorem J6X.same {w w' : World} (h : J6X w w') {p : MemPlace} (hp : p.block < w.heap.size) : w.sameAt w' p := by
  obtain ⟨h1, h2, h3, h4, h5⟩ := h
  cases p with
  | cell b off =>
    have hb : b < w.heap.size := hp
    have hg := Array.getElem?_eq_getElem hb
    show w'.cell? ⟨b, off, none⟩ = w.cell? ⟨b, off, none⟩
    rw [J3S, J3S]
    unfold JV
    cases hw : w.heap[b]? with
    | none => rw [hg] at hw; cases hw
    | some x =>
      cases x with
      | cells c e fz =>
        obtain ⟨c', q1, q2, q3⟩ := h2 b c e fz hw
        rw [q1]
        exact q3 off (fun hf => hf)
      | _ =>
        have := h3 b _ hw (fun c e fz he => by cases he)
        rw [this]
  | map b =>
    have hb : b < w.heap.size := hp
    have hg := Array.getElem?_eq_getElem hb
    show w'.heap[b]? = w.heap[b]?
    cases hw : w.heap[b]? with
    | none => rw [hg] at hw; cases hw
    | some x =>
      cases x with
      | cells c e fz =>
        obtain ⟨c', q1, q2, q3⟩ := h2 b c e fz hw
        rw [q1]
        have : c' = c := by
          apply Array.ext_getElem?
          intro i
          exact q3 i (fun hf => hf)
        rw [this]
      | _ => exact h3 b _ hw (fun c e fz he => by cases he)
theorem J6X.frozen {w w' : World} (h : J6X w w') {a : Addr} (hp : a.block < w.heap.size) : w'.frozen? a = w.frozen? a := by
  obtain ⟨h1, h2, h3, h4, h5⟩ := h
  have hg := Array.getElem?_eq_getElem hp
  unfold World.frozen?
  cases hw : w.heap[a.block]? with
  | none => rw [hg] at hw; cases hw
  | some x =>
    cases x with
    | cells c e fz =>
      obtain ⟨c', q1, q2, q3⟩ := h2 a.block c e fz hw
      rw [q1]
    | _ =>
      have := h3 a.block _ hw (fun c e fz he => by cases he)
      rw [this]
theorem Jgf {P : Program} {F : Orc} (hF : J2Y P F) {f : FuncId} {args : List AV} {vals : Array Value} {w : World} (hl : args.length = vals.size)
    (hr : ∀ (i : Nat) x v, args[i]? = some x → vals[i]? = some v → Ji ⟨[], gh0 w, w⟩ x v) (h : F f args [] = some (.p (.b true), [])) :
    Calls P f vals w fun e w' => e = .returned (.bool true) ∧ J6X w w' := by
  refine ((hF _ _ _ _ h).2 (gh0 w) w vals (Jmm w) hl hr).mono fun e w' ⟨v, g', he, _, ht, hrel⟩ => ?_
  cases hrel with
  | p _ _ hrel =>
    cases hrel with
    | b =>
      refine ⟨he, ?_⟩
      obtain ⟨k1, k2, k3, k4⟩ := ht.keep
      refine ⟨k1, fun r c e fz hr => ?_, k3, k4⟩
      obtain ⟨c', q1, q2, q3⟩ := k2 r c e fz hr
      exact ⟨c', q1, q2, fun o _ => q3 o (fun ⟨b, hb⟩ => JbN _ _ _ _ _ hb)⟩
section
variable {H : Type} {enc : TypeId × Value → H} {P : Program}
theorem J8d (hl : laidOutB P = true) (hm : mapsRowed P = true) (hsz : ∀ {t e : TypeId}, t < P.types.size → P.underlying t = some (.slice e) → 0 < P.cellsOf e) {W W' : World} {sp : Nat → Bool} :
    ∀ {ts : List TypeId} {vs : List Value} {ds : List (DataW H)} {ps : List MemPlace}, (∀ t ∈ ts, t < P.types.size) → DataW.TrodAll enc P W 0 (fun _ => true) true ts vs ds ps →
      (∀ p ∈ ps, W.sameAt W' p) → (∀ p ∈ ps, sp p.block = true) → DataW.TrodAll enc P W' 0 sp true ts vs ds ps
  | [], [], [], _, _, h, _, _ => h
  | [], _ :: _, _, _, _, h, _, _ => h.elim
  | [], [], _ :: _, _, _, h, _, _ => h.elim
  | _ :: _, [], _, _, _, h, _, _ => h.elim
  | _ :: _, _ :: _, [], _, _, h, _, _ => h.elim
  | t :: ts, v :: vs, d :: ds, _, hT, ⟨p, q, ⟨n, h1⟩, h2, rfl⟩, hs, hp => by
    refine ⟨p, q, ⟨n, DataW.trod_stays (kids_rows hl hm) hsz (fun h => by cases h) (hT t (by simp)) h1 (fun x hx => hs x (by simp [hx])) (fun x hx => hp x (by simp [hx]))⟩, ?_, rfl⟩
    exact J8d hl hm hsz (fun x hx => hT x (by simp [hx])) h2 (fun x hx => hs x (by simp [hx])) (fun x hx => hp x (by simp [hx]))
def J5W (P : Program) : Bool := (List.range P.types.size).all fun t => match P.underlying t with
  | some (.slice e) => decide (0 < P.cellsOf e)
  | _ => true
theorem Jdt (h : J5W P = true) {t e : TypeId} (ht : t < P.types.size) (he : P.underlying t = some (.slice e)) : 0 < P.cellsOf e := by
  unfold J5W at h
  rw [List.all_eq_true] at h
  have := h t (by simpa using ht)
  rw [he] at this
  simpa using this
theorem Jhr {fn : Func} {s : ChangeSpec} {tb : TypeId} (hl : laidOutB P = true) (hm : mapsRowed P = true) (hsz : J5W P = true) (hpar : ∀ t ∈ fn.params.toList, t < P.types.size)
    (hres : fn.resultTypes = #[tb]) (htb : P.underlying tb = some .bool) (hvars : s.vars = []) {apart fresh handsOn again : Bool} {W W' : World} {args : Array Value} {ds gs : List (DataW H)} {before : List MemPlace}
    (hfn : gs = [] → s.fn H (ds ++ gs) = { results := [.lit (.bool true)], args := ds })
    (hW : DataW.Whole enc P fn.params.toList s.vars apart W args.toList ds gs before) (hst : J6X W W') : s.post enc P fn apart fresh handsOn again W args (.bool true) W' := by
  have hW0 := hW
  have hlt := hW.lt
  obtain ⟨p, q, h1, h2, rfl, hz, hn⟩ := hW
  rw [hvars] at h2
  obtain ⟨rfl, rfl⟩ := trodVars_none h2
  rw [List.append_nil] at hW0 hlt hz hn
  have hf := hfn rfl
  have hargs : ∀ sp : Nat → Bool, (∀ x ∈ p, sp x.block = true) → DataW.TrodAll enc P W' 0 sp true fn.params.toList args.toList ds p := fun sp hp =>
    J8d hl hm (fun ht he => Jdt hsz ht he) hpar h1 (fun x hx => hst.same (hlt x hx)) hp
  have hr : ∀ (b : Nat) (sp : Nat → Bool) (hd : Bool), DataW.TrodAll enc P W' b sp hd fn.resultTypes.toList ((Value.bool true).resultList fn.resultTypes.size) [.lit (.bool true)] [] := by
    intro b sp hd
    rw [hres]
    exact trodAll_cons_mk (shut_bool htb _) trodAll_mk0
  refine ⟨ds, [], p, [], p, [], hW0, ?_, ?_, ?_, hst.kept _, fun _ => ⟨?_, ?_⟩⟩
  · rw [hf]; exact hr _ _ _
  · rw [hf]; exact hargs _ (fun x hx => by simpa using hlt x hx)
  · rw [hf, hvars]; rfl
  · exact ok_one hres rfl (okWide_bool_mk htb _)
  · refine ⟨_, [], [] ++ p, ⟨[] ++ p, [], trodAll_append (hargs _ (fun _ _ => rfl)) (hr _ _ _), by rw [hvars]; rfl, by simp, fun b off hp => ?_, fun ha => by simpa using hn ha⟩, fun x hx _ => by simpa using hx⟩
    have hp' : MemPlace.cell b off ∈ p := by simpa using hp
    rw [hst.frozen (a := ⟨b, off, none⟩) (hlt _ hp')]
    exact hz b off hp'
def Jg6 (P : Program) (t : TypeId) (pvs : List PV) : AV := match P.underlying t with
  | some (.struct _) => .data pvs
  | some (.array _ _) => .data pvs
  | _ => match pvs with
    | [c] => .p c
    | _ => .unk
theorem Jf0 (hl : laidOutB P = true) (hm : mapsRowed P = true) {n : Nat} {t : TypeId} {w : World} {r : Reach} {base : Nat} {sp : Nat → Bool} {v : Value} {d : DataW H} {ps : List MemPlace} (hp : J5u P n t = true)
    (hv : Value.okWide P w r base t v) (h : DataW.Trod enc P w 0 sp true t v d ps) : ∃ pvs, J6a P n t pvs ∧ Ji ⟨[], gh0 w, w⟩ (Jg6 P t pvs) v := by
  obtain ⟨fuel, h⟩ := h
  obtain ⟨pvs, q1, q2, q3⟩ := Jjn hl hm n t _ _ fuel hp h
  refine ⟨pvs, q1, ?_⟩
  cases n with
  | zero => simp [J5u] at hp
  | succ n =>
    unfold J5u at hp
    unfold Value.okWide at hv
    unfold Jg6
    have one : ∀ {c : PV}, pvs = [c] → (∀ cs, v ≠ .agg cs) → Ji ⟨[], gh0 w, w⟩ (.p c) v := by
      intro c hc hne
      subst hc
      refine .p _ _ (q3 0 c v rfl ?_)
      cases v <;> first | rfl | exact absurd rfl (hne _)
    unfold J6a at q1
    split at hp
    · rename_i ht
      rw [ht] at q1 hv ⊢
      obtain ⟨b, rfl⟩ := q1
      exact one rfl (fun cs he => by subst he; simp [Cell.okWide, Cell.ok, ht] at hv)
    · rename_i k ht
      rw [ht] at q1 hv ⊢
      obtain ⟨z, rfl, _⟩ := q1
      exact one rfl (fun cs he => by subst he; simp [Cell.okWide, Cell.ok, ht] at hv)
    · rename_i ht
      rw [ht] at q1 hv ⊢
      obtain ⟨z, rfl, _⟩ := q1
      exact one rfl (fun cs he => by subst he; simp [Cell.okWide, Cell.ok, ht] at hv)
    · rename_i e ht
      rw [ht] at q1 hv ⊢
      obtain ⟨rows, rfl, _⟩ := q1
      exact one rfl (fun cs he => by subst he; simp [Cell.okWide, Cell.ok, ht] at hv)
    · rename_i fs ht
      rw [ht] at hv ⊢
      obtain ⟨cs, rfl, _⟩ := hv
      exact .data _ _ (by simpa [Value.cells] using q2) (fun i x v h1 h2 => q3 i x v h1 (by simpa [Value.cells] using h2))
    · rename_i m e ht
      rw [ht] at hv ⊢
      obtain ⟨cs, rfl, _⟩ := hv
      exact .data _ _ (by simpa [Value.cells] using q2) (fun i x v h1 h2 => q3 i x v h1 (by simpa [Value.cells] using h2))
    · cases hp
end
end Go.Am
end
