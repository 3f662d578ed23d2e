/-
  The abstract machine: a region.
-/
import Derived.Test.YteiakclfpfmigaaAmSnd1
import Derived.Test.YteiakclfpfmigaaAmStat2
set_option linter.unusedSimpArgs false
set_option linter.unusedVariables false
namespace Go.Am

def chkAll (P : Program) (N : Nat) (ops : Array Oper) : List AIns → List Oper → Bool
  | [], [] => true
  | i :: r, o :: q => chkIns P N ops i o && chkAll P N ops r q
  | _, _ => false

def slotsApart (x y : AIns) : Bool :=
  (match x.dst with
  | none => true
  | some m => y.dst != some m && !(slotsIns y).contains m) && (match y.dst with
  | none => true
  | some m => !(slotsIns x).contains m)

def memApart (x y : AIns) : Bool := (!memW x.op || !memT y.op) && (!memW y.op || !memT x.op)

def befOne (acc : List (List Nat)) (o : Oper) : List Nat := (o.after.toList.filter fun e => Region.binds .any e).flatMap fun e => e.on :: (acc[e.on]?).getD []

def befGo (acc : List (List Nat)) : List Oper → List (List Nat)
  | [] => acc
  | o :: r => befGo (acc ++ [befOne acc o]) r

/-- x stands at i, y at j, i < j. -/
def chkPair (bef : List (List Nat)) (pairs : List (Nat × Nat)) (i j : Nat) (x y : AIns) : Bool :=
  ((bef[j]?).getD []).contains i || (slotsApart x y && (memApart x y || pairs.contains (i, j)))

def chkPairs (bef : List (List Nat)) (pairs : List (Nat × Nat)) (j : Nat) (y : AIns) : Nat → List AIns → Bool
  | _, [] => true
  | i, x :: r => (decide (j ≤ i) || chkPair bef pairs i j x y) && chkPairs bef pairs j y (i + 1) r

def chkDraw (bef : List (List Nat)) (pairs : List (Nat × Nat)) (all : List AIns) : Nat → List AIns → Bool
  | _, [] => true
  | j, y :: r => chkPairs bef pairs j y 0 all && chkDraw bef pairs all (j + 1) r

def chkEdges : Nat → List Oper → Bool
  | _, [] => true
  | j, o :: r => (o.after.all fun e => !Region.binds .any e || decide (e.on < j)) && chkEdges (j + 1) r

def chkReg (P : Program) (N : Nat) (draw : Bool) (pairs : List (Nat × Nat)) (ins : List AIns) (ops : Array Oper) : Bool :=
  chkAll P N ops ins ops.toList && (!draw || (chkEdges 0 ops.toList && chkDraw (befGo [] ops.toList) pairs ins 0 ins))

section
variable {P : Program} {F : Orc} {N : Nat} {E : Sn} {st st' : St} {a : Act} {w : World} {ops : Array Oper} {Q : Exit → Act → World → Prop}

theorem chkAll_at : ∀ {ins : List AIns} {os : List Oper}, chkAll P N ops ins os = true → ins.length = os.length ∧ ∀ (k : Nat) i, ins[k]? = some i → ∃ o, os[k]? = some o ∧ chkIns P N ops i o = true
  | [], [], _ => ⟨rfl, fun k i h => by simp at h⟩
  | i :: r, o :: q, h => by
    simp only [chkAll, Bool.and_eq_true] at h
    obtain ⟨h1, h2⟩ := chkAll_at h.2
    refine ⟨by simp [h1], fun k x hx => ?_⟩
    cases k with
    | zero => simp at hx; subst hx; exact ⟨o, rfl, h.1⟩
    | succ k => exact h2 k x (by simpa using hx)
  | [], _ :: _, h => by simp [chkAll] at h
  | _ :: _, [], h => by simp [chkAll] at h

theorem runIns_ok (hF : SoundF P F) : ∀ {r : List AIns} {k new : Nat} {st : St} {a : Act} {w : World}, (∀ (j : Nat) i, r[j]? = some i → ∃ o, ops[k + j]? = some o ∧ chkIns P N ops i o = true) →
    runIns F r new st = some st' → Sim N E st a w → (∀ a' w', Sim N E st' a' w' → Q .normal a' w') → wpOps P ops Q (List.range' k r.length) a w
  | [], k, new, st, a, w, _, h, hs, next => by
    simp only [runIns] at h; injection h with h; subst h
    exact next a w hs
  | i :: r, k, new, st, a, w, hc, h, hs, next => by
    simp only [runIns] at h
    split at h
    · rename_i e he
      obtain ⟨o, ho, hco⟩ := hc 0 i rfl
      rw [List.length_cons, List.range'_succ, wpOps_cons]
      refine ins_ok hF hs ho hco he fun a' w' hs' => ?_
      refine runIns_ok hF (fun j i hj => ?_) h hs' next
      obtain ⟨o, ho, hco⟩ := hc (j + 1) i (by simpa using hj)
      exact ⟨o, by rw [← ho]; congr 1; omega, hco⟩
    · cases h

/-! ### Any order -/

theorem run_ex : ∀ {ins : List AIns} {new0 : Nat} {st : St}, runIns F ins new0 st = some st' →
    ∃ (new : Nat → Nat) (S : Nat → St) (eff : Nat → Eff), Run F ins new S eff ∧ S 0 = st ∧ S ins.length = st'
  | [], new0, st, h => by
    simp only [runIns] at h; injection h with h; subst h
    exact ⟨fun _ => 0, fun _ => st, fun _ => ⟨undefV, []⟩, ⟨fun k i h => by simp at h⟩, rfl, rfl⟩
  | i :: r, new0, st, h => by
    simp only [runIns] at h
    split at h
    · rename_i e he
      obtain ⟨new, S, eff, hr, h0, hl⟩ := run_ex h
      refine ⟨fun | 0 => new0 | k + 1 => new k, fun | 0 => st | k + 1 => S k, fun | 0 => e | k + 1 => eff k, ⟨fun k x hx => ?_⟩, rfl, hl⟩
      cases k with
      | zero => simp at hx; subst hx; exact ⟨he, h0⟩
      | succ k => exact hr.step k x (by simpa using hx)
    · cases h

theorem log_ex : ∀ {ins : List AIns} {new0 : Nat} {st : St} {l l' : Log}, runLog F ins new0 st l = some (st', l') →
    ∃ (new : Nat → Nat) (S : Nat → St) (eff : Nat → Eff), Run F ins new S eff ∧ S 0 = st ∧ S ins.length = st' ∧
      (∀ k, k < l.length → l'[k]? = l[k]?) ∧ ∀ (k : Nat) i, ins[k]? = some i → l'[l.length + k]? = some (blksOf ((insR F i (new k)).reads (S k)), (eff k).ws.map (·.1))
  | [], new0, st, l, l', h => by
    simp only [runLog] at h; injection h with h; injection h with h1 h2; subst h1 h2
    exact ⟨fun _ => 0, fun _ => st, fun _ => ⟨undefV, []⟩, ⟨fun k i h => by simp at h⟩, rfl, rfl, fun _ _ => rfl, fun k i h => by simp at h⟩
  | i :: r, new0, st, l, l', h => by
    simp only [runLog] at h
    split at h
    · rename_i e he
      obtain ⟨new, S, eff, hr, h0, hl, q1, q2⟩ := log_ex h
      refine ⟨fun | 0 => new0 | k + 1 => new k, fun | 0 => st | k + 1 => S k, fun | 0 => e | k + 1 => eff k, ⟨fun k x hx => ?_⟩, rfl, hl, fun k hk => ?_, fun k x hx => ?_⟩
      · cases k with
        | zero => simp at hx; subst hx; exact ⟨he, h0⟩
        | succ k => exact hr.step k x (by simpa using hx)
      · rw [q1 k (by simp; omega), List.getElem?_append_left hk]
      · cases k with
        | zero =>
          simp at hx; subst hx
          rw [Nat.add_zero, q1 l.length (by simp), List.getElem?_append_right (Nat.le_refl _)]
          simp
        | succ k =>
          have := q2 k x (by simpa using hx)
          rw [← this]; congr 1; simp; omega
    · cases h

theorem mem_blksOf {b : Nat} : ∀ {l : List Loc}, Loc.blk b ∈ l → b ∈ blksOf l
  | .blk c :: r, h => by
    simp only [blksOf, List.mem_cons] at *
    rcases h with h | h
    · left; injection h
    · exact .inr (mem_blksOf h)
  | .slot n :: r, h => by
    simp only [blksOf]
    refine mem_blksOf ?_
    simpa using h
  | [], h => by simp at h

theorem disj_iff {a b : List Nat} (h : disj a b = true) {x : Nat} (hx : x ∈ a) : x ∉ b := by
  simp only [disj, List.all_eq_true, Bool.not_eq_true'] at h
  have := h x hx
  simpa using this

theorem pairsOk_at {l : Log} : ∀ {ps : List (Nat × Nat)} {i j : Nat}, pairsOk l ps = true → (i, j) ∈ ps →
    ∃ x y, l[i]? = some x ∧ l[j]? = some y ∧ disj x.2 y.1 = true ∧ disj x.2 y.2 = true ∧ disj x.1 y.2 = true
  | [], i, j, _, h => by simp at h
  | (p, q) :: r, i, j, h, hm => by
    simp only [pairsOk, Bool.and_eq_true] at h
    obtain ⟨h1, h2⟩ := h
    rcases List.mem_cons.1 hm with e | e
    · injection e with e1 e2; subst e1 e2
      split at h1
      · rename_i x y hx hy
        simp only [Bool.and_eq_true] at h1
        exact ⟨x, y, hx, hy, h1.1.1, h1.1.2, h1.2⟩
      · cases h1
    · exact pairsOk_at h2 e

def EdgesIn (ops : Array Oper) (D : Nat → Bool) (k : Nat) : Prop := ∀ o, ops[k]? = some o → ∀ e ∈ o.after, Region.binds .any e = true → D e.on = true

def Closed (ops : Array Oper) (D : Nat → Bool) : Prop := ∀ k, D k = true → EdgesIn ops D k

def Must (ops : Array Oper) (k i : Nat) : Prop := ∀ D, Closed ops D → EdgesIn ops D k → D i = true

theorem bef_ok : ∀ {os : List Oper} {acc : List (List Nat)}, (∀ (j : Nat) o, os[j]? = some o → ops[acc.length + j]? = some o) → (∀ (k : Nat) l i, acc[k]? = some l → i ∈ l → Must ops k i) →
    ∀ (k : Nat) l i, (befGo acc os)[k]? = some l → i ∈ l → Must ops k i
  | [], acc, _, ha => ha
  | o :: r, acc, ho, ha => by
    refine bef_ok (os := r) (acc := acc ++ [befOne acc o]) (fun j x hx => ?_) fun k l i hk hi => ?_
    · have := ho (j + 1) x (by simpa using hx)
      rw [← this]; congr 1; simp; omega
    · rcases get_app hk with hk | ⟨hge, hk⟩
      · exact ha k l i hk hi
      · have hk0 : k = acc.length := by
          have := lt_of_get hk; simp at this; omega
        subst hk0
        simp at hk; subst hk
        intro D hD hE
        simp only [befOne, List.mem_flatMap, List.mem_filter] at hi
        obtain ⟨e, ⟨he1, he2⟩, hi⟩ := hi
        have hon := hE o (by simpa using ho 0 o rfl) e (by simpa using he1) he2
        rcases List.mem_cons.1 hi with rfl | hi
        · exact hon
        · cases hac : acc[e.on]? with
          | none => rw [hac] at hi; simp at hi
          | some l =>
            rw [hac] at hi
            exact ha _ l i hac hi D hD (hD _ hon)

theorem chkPairs_at {bef : List (List Nat)} {pairs : List (Nat × Nat)} {j : Nat} {y : AIns} : ∀ {r : List AIns} {i0 : Nat}, chkPairs bef pairs j y i0 r = true → ∀ (k : Nat) x, r[k]? = some x → i0 + k < j → chkPair bef pairs (i0 + k) j x y = true
  | [], i0, _, k, x, hx, _ => by simp at hx
  | z :: r, i0, h, k, x, hx, hlt => by
    simp only [chkPairs, Bool.and_eq_true, Bool.or_eq_true, decide_eq_true_eq] at h
    cases k with
    | zero => simp at hx; subst hx; exact h.1.resolve_left (by omega)
    | succ k =>
      have := chkPairs_at h.2 k x (by simpa using hx) (by omega)
      rw [show i0 + (k + 1) = i0 + 1 + k by omega]; exact this

theorem chkDraw_at {bef : List (List Nat)} {pairs : List (Nat × Nat)} {all : List AIns} : ∀ {r : List AIns} {j0 : Nat}, chkDraw bef pairs all j0 r = true → ∀ (k : Nat) y, r[k]? = some y → chkPairs bef pairs (j0 + k) y 0 all = true
  | [], j0, _, k, y, hy => by simp at hy
  | z :: r, j0, h, k, y, hy => by
    simp only [chkDraw, Bool.and_eq_true] at h
    cases k with
    | zero => simp at hy; subst hy; exact h.1
    | succ k =>
      have := chkDraw_at h.2 k y (by simpa using hy)
      rw [show j0 + (k + 1) = j0 + 1 + k by omega]; exact this

theorem chkEdges_at : ∀ {r : List Oper} {j0 : Nat}, chkEdges j0 r = true → ∀ (k : Nat) o, r[k]? = some o → ∀ e ∈ o.after, Region.binds .any e = true → e.on < j0 + k
  | [], j0, _, k, o, ho => by simp at ho
  | z :: r, j0, h, k, o, ho => by
    simp only [chkEdges, Bool.and_eq_true] at h
    cases k with
    | zero =>
      simp at ho; subst ho
      intro e he hb
      have := Array.all_eq_true_iff_forall_mem.1 h.1 e he
      simpa [hb] using this
    | succ k =>
      intro e he hb
      have := chkEdges_at h.2 k o (by simpa using ho) e he hb
      omega

theorem slots_ap {x y : AIns} (h : slotsApart x y = true) : (∀ m, x.dst = some m → y.dst ≠ some m ∧ m ∉ slotsIns y) ∧ (∀ m, y.dst = some m → m ∉ slotsIns x) := by
  simp only [slotsApart, Bool.and_eq_true] at h
  obtain ⟨h1, h2⟩ := h
  constructor
  · intro m hm
    rw [hm] at h1
    simpa using h1
  · intro m hm
    rw [hm] at h2
    simpa using h2

variable {ins : List AIns} {new : Nat → Nat} {S : Nat → St} {eff : Nat → Eff}

/-- Two operations, one of which need not come first. -/
theorem apart_of (hr : Run F ins new S eff) {i j : Nat} (hi : i < ins.length) (hj : j < ins.length) (h1 : slotsApart ins[i] ins[j] = true)
    (h2 : memApart ins[i] ins[j] = true ∨ (disj ((eff i).ws.map (·.1)) (blksOf ((insR F ins[j] (new j)).reads (S j))) = true ∧
      disj ((eff i).ws.map (·.1)) ((eff j).ws.map (·.1)) = true ∧ disj (blksOf ((insR F ins[i] (new i)).reads (S i))) ((eff j).ws.map (·.1)) = true)) : Apart F ins new S eff i j := by
  obtain ⟨s1, s2⟩ := slots_ap h1
  have gi : ins[i]? = some ins[i] := List.getElem?_eq_getElem hi
  have gj : ins[j]? = some ins[j] := List.getElem?_eq_getElem hj
  obtain ⟨ri, _⟩ := hr.step i _ gi
  obtain ⟨rj, _⟩ := hr.step j _ gj
  refine ⟨fun x y m hx hy hm => ?_, fun x y m hx hy hm hl => ?_, fun y b hy hb => ?_, fun x b hx hb hl => ?_⟩
  · rw [gi] at hx; injection hx with hx; subst hx
    rw [gj] at hy; injection hy with hy; subst hy
    exact ⟨(s1 m hm).1, fun hl => (s1 m hm).2 (sl_insR F _ _ _ _ hl)⟩
  · rw [gi] at hx; injection hx with hx; subst hx
    rw [gj] at hy; injection hy with hy; subst hy
    exact s2 m hm (sl_insR F _ _ _ _ hl)
  · rw [gj] at hy; injection hy with hy; subst hy
    rcases h2 with h2 | ⟨k1, k2, k3⟩
    · simp only [memApart, Bool.and_eq_true, Bool.or_eq_true, Bool.not_eq_true'] at h2
      rcases h2.1 with h | h
      · rw [w0_insR F _ _ h _ _ ri] at hb; simp at hb
      · refine ⟨?_, b0_insR F _ _ h _ _ rj b⟩
        rw [w0_insR F _ _ (memT_W h) _ _ rj]; simp
    · exact ⟨disj_iff k2 hb, fun hl => disj_iff k1 hb (mem_blksOf hl)⟩
  · rw [gi] at hx; injection hx with hx; subst hx
    rcases h2 with h2 | ⟨k1, k2, k3⟩
    · simp only [memApart, Bool.and_eq_true, Bool.or_eq_true, Bool.not_eq_true'] at h2
      rcases h2.2 with h | h
      · rw [w0_insR F _ _ h _ _ rj] at hb; simp at hb
      · exact b0_insR F _ _ h _ _ ri b hl
    · exact disj_iff k3 (mem_blksOf hl) hb

def Dl (listed : Array Bool) : Nat → Bool := fun j => listed.getD j false

theorem Dl_set {listed : Array Bool} {i : Nat} (hi : i < listed.size) : Dl (listed.setIfInBounds i true) = fun j => if j = i then true else Dl listed j := by
  funext j
  unfold Dl
  by_cases h : j = i
  · subst h; simp [hi]
  · rw [if_neg h, getD_set_ne false (Ne.symm h)]

theorem count_step {l : Array Bool} {i : Nat} (hi : i < l.size) (h : l.getD i false = false) : (l.setIfInBounds i true).count false + 1 = l.count false := by
  have he : l[i] = false := by simpa [hi] using h
  have hpos : 0 < l.count false := Array.count_pos_iff.2 (by rw [← he]; exact Array.getElem_mem hi)
  rw [Array.setIfInBounds, dif_pos hi, Array.count_set hi, he]
  simp; omega

theorem count_zero {l : Array Bool} (h : l.count false = 0) {i : Nat} (hi : i < l.size) : l.getD i false = true := by
  cases hv : l.getD i false with
  | true => rfl
  | false =>
    have := count_step hi hv
    omega

theorem least {l : Array Bool} : ∀ m, m ≤ l.size → (∀ j, j < m → Dl l j = true) ∨ ∃ k, k < m ∧ Dl l k = false ∧ ∀ j, j < k → Dl l j = true
  | 0, _ => .inl fun j hj => by omega
  | m + 1, h => by
    rcases least (l := l) m (by omega) with h1 | ⟨k, a, b, c⟩
    · cases hm : Dl l m with
      | true => left; intro j hj; by_cases e : j = m; (subst e; exact hm); exact h1 j (by omega)
      | false => exact .inr ⟨m, by omega, hm, h1⟩
    · exact .inr ⟨k, by omega, b, c⟩

theorem getD_both {l : Array Bool} {j : Nat} (hj : j < l.size) : l.getD j true = l.getD j false := by simp [hj]

theorem any_ok (hF : SoundF P F) (hr : Run F ins new S eff) (hlen : ins.length = ops.size) (hc : ∀ (k : Nat) i, ins[k]? = some i → ∃ o, ops[k]? = some o ∧ chkIns P N ops i o = true)
    (hedge : ∀ (k : Nat) o, ops[k]? = some o → ∀ e ∈ o.after, Region.binds .any e = true → e.on < k)
    (hap : ∀ i j, i < j → j < ins.length → Must ops j i ∨ Apart F ins new S eff i j)
    (next : ∀ a' w', Sim N E (S ins.length) a' w' → Q .normal a' w') :
    ∀ (fuel : Nat) (listed : Array Bool) (st : St) (a : Act) (w : World), listed.size = ops.size → Agree ins eff (S 0) (Dl listed) st → Sim N E st a w → Closed ops (Dl listed) → listed.count false = fuel →
      wpAny P .any ops Q fuel listed a w := by
  intro fuel
  induction fuel with
  | zero =>
    intro listed st a w hsz hag hs hcl hcnt
    refine ⟨?_, ?_⟩
    · cases hre : Region.ready .any ops listed with
      | nil => rfl
      | cons j l =>
        exfalso
        have hm : j ∈ Region.ready .any ops listed := by rw [hre]; simp
        obtain ⟨h1, o, ho, _⟩ := mem_ready.1 hm
        have hj : j < ops.size := (Array.getElem?_eq_some_iff.1 ho).1
        rw [getD_both (by omega), count_zero hcnt (by omega)] at h1; cases h1
    · obtain ⟨e1, e2⟩ := agree_end hr hag fun j hj => count_zero hcnt (by omega)
      exact next a w (hs.congr (fun m => (e1 m).symm) e2.symm)
  | succ fuel ih =>
    intro listed st a w hsz hag hs hcl hcnt
    refine ⟨fun hnil => ?_, fun k hk => ?_⟩
    · exfalso
      rcases least (l := listed) ops.size (by omega) with hall | ⟨k, hk, hkf, hlow⟩
      · have : listed.count false = 0 := by
          rw [Array.count_eq_zero]
          intro hm
          obtain ⟨i, hi, he⟩ := Array.getElem_of_mem hm
          have := hall i (by omega)
          unfold Dl at this
          simp [hi, he] at this
        omega
      · have hm : k ∈ Region.ready .any ops listed := by
          rw [mem_ready]
          refine ⟨by rw [getD_both (by omega)]; exact hkf, ops[k], by simp [hk], fun e he hb => ?_⟩
          exact hlow _ (hedge k ops[k] (by simp [hk]) e he hb)
        rw [hnil] at hm; cases hm
    · obtain ⟨h1, o, ho, hall⟩ := mem_ready.1 hk
      have hklt : k < ops.size := (Array.getElem?_eq_some_iff.1 ho).1
      have hkf : Dl listed k = false := by unfold Dl; rw [← getD_both (by omega)]; exact h1
      have gk : ins[k]? = some (ins[k]'(by omega)) := List.getElem?_eq_getElem _
      obtain ⟨o', ho', hco⟩ := hc k _ gk
      have hedges : EdgesIn ops (Dl listed) k := by
        intro o2 ho2 e he hb
        rw [ho] at ho2; injection ho2 with ho2; subst ho2
        exact hall e he hb
      obtain ⟨r1, r2⟩ := any_step hr hag gk hkf (fun j hj hDj => by
          rcases hap j k hj (by omega) with hm | hm
          · have := hm _ hcl hedges
            rw [hDj] at this; cases this
          · exact hm) (fun j hj hjl hDj => by
          rcases hap k j hj hjl with hm | hm
          · have := hm _ hcl (hcl j hDj)
            rw [hkf] at this; cases this
          · exact hm)
      refine ins_ok hF hs ho' hco r1 fun a' w' hs' => ?_
      refine ih _ _ a' w' (by simp [hsz]) ?_ hs' ?_ ?_
      · rw [Dl_set (by omega)]; exact r2
      · rw [Dl_set (by omega)]
        intro j hj o2 ho2 e he hb
        dsimp only at hj ⊢
        have hm : Dl listed e.on = true → (if e.on = k then true else Dl listed e.on) = true := by intro h; split <;> simp [h]
        by_cases hjk : j = k
        · subst hjk; exact hm (hedges o2 ho2 e he hb)
        · rw [if_neg hjk] at hj; exact hm (hcl j hj o2 ho2 e he hb)
      · have := count_step (l := listed) (i := k) (by omega) hkf
        omega

theorem reg_ok (hF : SoundF P F) (hmix : P.follows .mixedOrders = true) {id : Nat} {draw : Bool} {pairs : List (Nat × Nat)} {ins : List AIns} (h : region F pairs ins st = some st')
    (hc : chkReg P N draw pairs ins ops = true) (hs : Sim N E st a w) (next : ∀ a' w', Sim N E st' a' w' → Q .normal a' w') : (Code.region id ops draw).wp P Q a w := by
  simp only [chkReg, Bool.and_eq_true, Bool.or_eq_true, Bool.not_eq_true'] at hc
  obtain ⟨hall, hdraw⟩ := hc
  obtain ⟨hlen, hat⟩ := chkAll_at hall
  have hlen : ins.length = ops.size := by simpa using hlen
  have hat : ∀ (k : Nat) i, ins[k]? = some i → ∃ o, ops[k]? = some o ∧ chkIns P N ops i o = true := fun k i hi => by simpa using hat k i hi
  have hs0 := hs.room (news ins)
  have hrun : ∃ (new : Nat → Nat) (S : Nat → St) (eff : Nat → Eff), Run F ins new S eff ∧ S 0 = ⟨st.env, room (news ins) st.sto⟩ ∧ S ins.length = st' ∧
      ∀ i j, (i, j) ∈ pairs → ∃ x y, ins[i]? = some x ∧ ins[j]? = some y ∧ disj ((eff i).ws.map (·.1)) (blksOf ((insR F y (new j)).reads (S j))) = true ∧
      disj ((eff i).ws.map (·.1)) ((eff j).ws.map (·.1)) = true ∧ disj (blksOf ((insR F x (new i)).reads (S i))) ((eff j).ws.map (·.1)) = true := by
    unfold region at h
    split at h
    · obtain ⟨new, S, eff, hr, h0, hl⟩ := run_ex h
      exact ⟨new, S, eff, hr, h0, hl, fun i j hm => by simp at hm⟩
    · split at h
      · rename_i s' l hlog
        split at h
        · rename_i hp
          injection h with h; subst h
          obtain ⟨new, S, eff, hr, h0, hl, _, q⟩ := log_ex hlog
          refine ⟨new, S, eff, hr, h0, hl, fun i j hm => ?_⟩
          obtain ⟨x, y, hx, hy, d1, d2, d3⟩ := pairsOk_at hp hm
          have il : ∀ (k : Nat) z, l[k]? = some z → k < ins.length := by
            intro k z hk
            have := lt_of_get hk
            have hll : l.length = ins.length := by
              clear q hr h0 hl hp hx hy
              have : ∀ {r : List AIns} {new0 : Nat} {s0 : St} {l0 l1 : Log} {s1 : St}, runLog F r new0 s0 l0 = some (s1, l1) → l1.length = l0.length + r.length := by
                intro r
                induction r with
                | nil => intro new0 s0 l0 l1 s1 h; simp only [runLog] at h; injection h with h; injection h with h1 h2; subst h2; simp
                | cons i r ih =>
                  intro new0 s0 l0 l1 s1 h
                  simp only [runLog] at h
                  split at h
                  · rw [ih h]; simp; omega
                  · cases h
              simpa using this hlog
            omega
          have hi := il i x hx
          have hj := il j y hy
          have gi : ins[i]? = some ins[i] := List.getElem?_eq_getElem hi
          have gj : ins[j]? = some ins[j] := List.getElem?_eq_getElem hj
          have qi := q i _ gi
          have qj := q j _ gj
          simp only [List.length_nil, Nat.zero_add] at qi qj
          rw [hx] at qi; injection qi with qi; subst qi
          rw [hy] at qj; injection qj with qj; subst qj
          exact ⟨_, _, gi, gj, d1, d2, d3⟩
        · cases h
      · cases h
  obtain ⟨new, S, eff, hr, h0, hl, hp⟩ := hrun
  cases draw with
  | false =>
    refine wp_region ?_
    rw [List.range_eq_range', ← hlen]
    have hr' : ∃ new0, runIns F ins new0 ⟨st.env, room (news ins) st.sto⟩ = some st' := by
      unfold region at h
      split at h
      · exact ⟨_, h⟩
      · split at h
        · rename_i s' l hlog
          split at h
          · injection h with h; subst h
            have : ∀ {r : List AIns} {new0 : Nat} {s0 : St} {l0 l1 : Log} {s1 : St}, runLog F r new0 s0 l0 = some (s1, l1) → runIns F r new0 s0 = some s1 := by
              intro r
              induction r with
              | nil => intro new0 s0 l0 l1 s1 h; simp only [runLog] at h; injection h with h; injection h with h1 h2; subst h1; rfl
              | cons i r ih =>
                intro new0 s0 l0 l1 s1 h
                simp only [runLog] at h
                simp only [runIns]
                split at h
                · rename_i e he
                  exact ih h
                · cases h
            exact ⟨_, this hlog⟩
          · cases h
        · cases h
    obtain ⟨new0, hr'⟩ := hr'
    exact runIns_ok hF (fun j i hj => by simpa using hat j i hj) hr' hs0 next
  | true =>
    obtain ⟨he, hd⟩ := hdraw.resolve_left (by simp)
    refine wp_region_any hmix ?_
    have hs1 : Sim N E (S 0) a { w with drawn := w.drawn + 1 } := by rw [h0]; exact hs0.heap rfl rfl rfl
    refine any_ok hF hr hlen hat (fun k o ho => ?_) (fun i j hij hj => ?_) (by rw [hl]; exact next) ops.size _ (S 0) a _ (by simp) ?_ hs1 ?_ ?_
    · have := chkEdges_at he k o (by simpa using ho)
      simpa using this
    · have gi : ins[i]? = some (ins[i]'(by omega)) := List.getElem?_eq_getElem _
      have gj : ins[j]? = some ins[j] := List.getElem?_eq_getElem hj
      have h1 := chkDraw_at hd j _ gj
      rw [Nat.zero_add] at h1
      have h2 := chkPairs_at h1 i _ gi (by omega)
      rw [Nat.zero_add] at h2
      simp only [chkPair, Bool.or_eq_true, Bool.and_eq_true] at h2
      rcases h2 with h2 | ⟨h2, h3⟩
      · left
        cases hb : (befGo [] ops.toList)[j]? with
        | none => rw [hb] at h2; simp at h2
        | some l =>
          rw [hb] at h2
          exact bef_ok (ops := ops) (os := ops.toList) (acc := []) (fun j o ho => by simpa using ho) (fun k l i hk => by simp at hk) j l i hb (by simpa using h2)
      · right
        refine apart_of hr (by omega) hj h2 ?_
        rcases h3 with h3 | h3
        · exact .inl h3
        · obtain ⟨x, y, hx, hy, d⟩ := hp i j (by simpa using h3)
          rw [gi] at hx; injection hx with hx; subst hx
          rw [gj] at hy; injection hy with hy; subst hy
          exact .inr d
    · have : Dl (Array.replicate ops.size false) = fun _ => false := by
        funext j; unfold Dl; simp [Array.getElem?_replicate]; split <;> rfl
      rw [this]; exact agree_start
    · intro j hj
      unfold Dl at hj
      simp [Array.getElem?_replicate] at hj
      split at hj <;> simp at hj
    · simp

end
end Go.Am
