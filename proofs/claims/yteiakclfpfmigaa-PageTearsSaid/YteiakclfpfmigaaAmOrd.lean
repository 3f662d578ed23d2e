/-
  The abstract machine: a region whose order is drawn ends as its text does.
-/
import Derived.Test.YteiakclfpfmigaaAmFix
set_option linter.unusedSimpArgs false
set_option linter.unusedVariables false
namespace Go.Am

def get (s : St) : Loc → Option (AV ⊕ Blk)
  | .slot n => (lk n s.env).map .inl
  | .blk b => (s.sto[b]?).map .inr

theorem run_congr {α : Type} (m : RM α) (s s' : St) (h : ∀ l ∈ m.reads s, get s' l = get s l) : m.run s' = m.run s := by
  induction m with
  | ret a => rfl
  | slot n k ih =>
    have h0 := h (.slot n) (by simp [RM.reads])
    have h0 : lk n s'.env = lk n s.env := by
      simp only [get] at h0
      cases h1 : lk n s'.env <;> cases h2 : lk n s.env <;> simp_all
    simp only [RM.run, h0]
    split
    · rename_i v hv
      exact ih v fun l hl => h l (by simp [RM.reads, hv, hl])
    · rfl
  | blk b k ih =>
    have h0 := h (.blk b) (by simp [RM.reads])
    have h0 : s'.sto[b]? = s.sto[b]? := by
      simp only [get] at h0
      cases h1 : s'.sto[b]? <;> cases h2 : s.sto[b]? <;> simp_all
    simp only [RM.run, h0]
    split
    · rename_i v hv
      exact ih v fun l hl => h l (by simp [RM.reads, hv, hl])
    · rfl
  | fail => rfl

theorem lastW_none {b : Nat} : ∀ {ws : List (Nat × Blk)}, b ∉ ws.map (·.1) → lastW b ws = none
  | [], _ => rfl
  | (c, x) :: r, h => by
    simp at h
    simp only [lastW]
    rw [lastW_none (by simpa using h.2)]
    simp; exact fun e => h.1 e.symm

theorem lastW_some {b : Nat} : ∀ {ws : List (Nat × Blk)}, b ∈ ws.map (·.1) → ∃ y, lastW b ws = some y
  | [], h => by simp at h
  | (c, x) :: r, h => by
    simp only [lastW]
    by_cases hr : b ∈ r.map (·.1)
    · obtain ⟨y, hy⟩ := lastW_some hr; exact ⟨y, by rw [hy]⟩
    · rw [lastW_none hr]
      simp only [List.map_cons, List.mem_cons] at h
      rcases h with h | h
      · exact ⟨x, by simp [h]⟩
      · exact absurd h hr

theorem upd_len : ∀ (ws : List (Nat × Blk)) (σ : List Blk), (upd ws σ).length = σ.length
  | [], _ => rfl
  | y :: ws, σ => by show (upd ws (σ.set y.1 y.2)).length = _; rw [upd_len ws]; simp

theorem upd_get : ∀ (ws : List (Nat × Blk)) (σ : List Blk) (b : Nat), b < σ.length → (upd ws σ)[b]? = match lastW b ws with
    | some y => some y
    | none => σ[b]?
  | [], σ, b, _ => rfl
  | (c, x) :: ws, σ, b, h => by
    show (upd ws (σ.set c x))[b]? = _
    rw [upd_get ws (σ.set c x) b (by simpa using h)]
    simp only [lastW]
    cases hl : lastW b ws with
    | some y => rfl
    | none =>
      by_cases hc : c = b
      · subst hc; simp [h]
      · simp [hc]

structure Run (F : Orc) (ins : List AIns) (new : Nat → Nat) (S : Nat → St) (eff : Nat → Eff) : Prop where
  step : ∀ k i, ins[k]? = some i → (insR F i (new k)).run (S k) = some (eff k) ∧ S (k + 1) = put i.dst (eff k) (S k)

/-- Two operations that do not meet. -/
structure Apart (F : Orc) (ins : List AIns) (new : Nat → Nat) (S : Nat → St) (eff : Nat → Eff) (i j : Nat) : Prop where
  slotW : ∀ x y m, ins[i]? = some x → ins[j]? = some y → x.dst = some m → y.dst ≠ some m ∧ Loc.slot m ∉ (insR F y (new j)).reads (S j)
  slotR : ∀ x y m, ins[i]? = some x → ins[j]? = some y → y.dst = some m → Loc.slot m ∉ (insR F x (new i)).reads (S i)
  blkW : ∀ y b, ins[j]? = some y → b ∈ (eff i).ws.map (·.1) → b ∉ (eff j).ws.map (·.1) ∧ Loc.blk b ∉ (insR F y (new j)).reads (S j)
  blkR : ∀ x b, ins[i]? = some x → b ∈ (eff j).ws.map (·.1) → Loc.blk b ∉ (insR F x (new i)).reads (S i)

section
variable {F : Orc} {ins : List AIns} {new : Nat → Nat} {S : Nat → St} {eff : Nat → Eff}

def dstAt (ins : List AIns) (k : Nat) : Option Nat := (ins[k]?).bind (·.dst)

/-- What a location holds when the first k operations of D have run. -/
def slotD (ins : List AIns) (eff : Nat → Eff) (s0 : St) (D : Nat → Bool) : Nat → Nat → Option AV
  | 0, m => lk m s0.env
  | k + 1, m => if D k = true ∧ dstAt ins k = some m then some (eff k).val else slotD ins eff s0 D k m

def blkD (eff : Nat → Eff) (s0 : St) (D : Nat → Bool) : Nat → Nat → Option Blk
  | 0, b => s0.sto[b]?
  | k + 1, b => if D k = true then (match lastW b (eff k).ws with
      | some y => some y
      | none => blkD eff s0 D k b) else blkD eff s0 D k b

structure Agree (ins : List AIns) (eff : Nat → Eff) (s0 : St) (D : Nat → Bool) (s : St) : Prop where
  slot : ∀ m, lk m s.env = slotD ins eff s0 D ins.length m
  len : s.sto.length = s0.sto.length
  blk : ∀ b, b < s0.sto.length → s.sto[b]? = blkD eff s0 D ins.length b

theorem run_len (hr : Run F ins new S eff) : ∀ k, k ≤ ins.length → (S k).sto.length = (S 0).sto.length
  | 0, _ => rfl
  | k + 1, h => by
    have hk : ins[k]? = some ins[k] := List.getElem?_eq_getElem (by omega)
    obtain ⟨_, h2⟩ := hr.step k _ hk
    rw [h2, ← run_len hr k (by omega)]
    unfold put
    split <;> simp [upd_len]

theorem slotD_all (hr : Run F ins new S eff) (D : Nat → Bool) : ∀ k, k ≤ ins.length → (∀ j, j < k → D j = true) → ∀ m, slotD ins eff (S 0) D k m = lk m (S k).env
  | 0, _, _, m => rfl
  | k + 1, h, hD, m => by
    have hk : ins[k]? = some ins[k] := List.getElem?_eq_getElem (by omega)
    obtain ⟨_, h2⟩ := hr.step k _ hk
    simp only [slotD]
    rw [slotD_all hr D k (by omega) (fun j hj => hD j (by omega)) m, h2]
    have hd : dstAt ins k = ins[k].dst := by simp [dstAt, hk]
    rw [hd]
    unfold put
    cases hdk : ins[k].dst with
    | none => simp
    | some d =>
      simp only [lk]
      by_cases hm : m = d
      · subst hm; simp [hD k (by omega)]
      · simp [hm, Ne.symm hm]

theorem blkD_all (hr : Run F ins new S eff) (D : Nat → Bool) : ∀ k, k ≤ ins.length → (∀ j, j < k → D j = true) → ∀ b, b < (S 0).sto.length → blkD eff (S 0) D k b = (S k).sto[b]?
  | 0, _, _, b, _ => rfl
  | k + 1, h, hD, b, hb => by
    have hk : ins[k]? = some ins[k] := List.getElem?_eq_getElem (by omega)
    obtain ⟨_, h2⟩ := hr.step k _ hk
    simp only [blkD]
    rw [blkD_all hr D k (by omega) (fun j hj => hD j (by omega)) b hb, h2, if_pos (hD k (by omega))]
    have : (put ins[k].dst (eff k) (S k)).sto = upd (eff k).ws (S k).sto := by unfold put; split <;> rfl
    rw [this, upd_get _ _ _ (by rw [run_len hr k (by omega)]; exact hb)]

/-- Locations that operation k reads hold what they hold in the text's order. -/
theorem slotD_same {s0 : St} {D D' : Nat → Bool} {m : Nat} : ∀ n, (∀ j, j < n → dstAt ins j = some m → D j = D' j) → slotD ins eff s0 D n m = slotD ins eff s0 D' n m
  | 0, _ => rfl
  | n + 1, h => by
    simp only [slotD]
    rw [slotD_same n fun j hj => h j (by omega)]
    by_cases hd : dstAt ins n = some m
    · rw [h n (by omega) hd]
    · simp [hd]

theorem blkD_same {s0 : St} {D D' : Nat → Bool} {b : Nat} : ∀ n, (∀ j, j < n → b ∈ (eff j).ws.map (·.1) → D j = D' j) → blkD eff s0 D n b = blkD eff s0 D' n b
  | 0, _ => rfl
  | n + 1, h => by
    simp only [blkD]
    rw [blkD_same n fun j hj => h j (by omega)]
    by_cases hd : b ∈ (eff n).ws.map (·.1)
    · rw [h n (by omega) hd]
    · rw [lastW_none hd]; simp

theorem slotD_cut {s0 : St} {D : Nat → Bool} {m k : Nat} : ∀ n, k ≤ n → (∀ j, k ≤ j → j < n → dstAt ins j = some m → D j = false) → slotD ins eff s0 D n m = slotD ins eff s0 D k m
  | 0, h, _ => by have : k = 0 := by omega
                  subst this; rfl
  | n + 1, h, hD => by
    by_cases hk : k = n + 1
    · subst hk; rfl
    · simp only [slotD]
      rw [slotD_cut n (by omega) fun j h1 h2 => hD j h1 (by omega)]
      by_cases hd : dstAt ins n = some m
      · rw [hD n (by omega) (by omega) hd]; simp
      · simp [hd]

theorem blkD_cut {s0 : St} {D : Nat → Bool} {b k : Nat} : ∀ n, k ≤ n → (∀ j, k ≤ j → j < n → b ∈ (eff j).ws.map (·.1) → D j = false) → blkD eff s0 D n b = blkD eff s0 D k b
  | 0, h, _ => by have : k = 0 := by omega
                  subst this; rfl
  | n + 1, h, hD => by
    by_cases hk : k = n + 1
    · subst hk; rfl
    · simp only [blkD]
      rw [blkD_cut n (by omega) fun j h1 h2 => hD j h1 (by omega)]
      by_cases hd : b ∈ (eff n).ws.map (·.1)
      · rw [hD n (by omega) (by omega) hd]; simp
      · rw [lastW_none hd]; simp

/-- One more operation, in whatever order. -/
theorem any_step (hr : Run F ins new S eff) {D : Nat → Bool} {s : St} (ha : Agree ins eff (S 0) D s) {k : Nat} {i : AIns} (hk : ins[k]? = some i) (hkD : D k = false)
    (hlow : ∀ j, j < k → D j = false → Apart F ins new S eff j k) (hhigh : ∀ j, k < j → j < ins.length → D j = true → Apart F ins new S eff k j) :
    (insR F i (new k)).run s = some (eff k) ∧ Agree ins eff (S 0) (fun j => if j = k then true else D j) (put i.dst (eff k) s) := by
  have hklt : k < ins.length := by
    rcases Nat.lt_or_ge k ins.length with h | h
    · exact h
    · simp [List.getElem?_eq_none h] at hk
  have get_at : ∀ j, j < ins.length → ins[j]? = some ins[j]! := fun j hj => by simp [hj]
  have dst_at : ∀ j, j < ins.length → dstAt ins j = ins[j]!.dst := fun j hj => by simp [dstAt, hj]
  obtain ⟨h1, h2⟩ := hr.step k i hk
  have hdk : dstAt ins k = i.dst := by simp [dstAt, hk]
  let T : Nat → Bool := fun _ => true
  have reads : ∀ l ∈ (insR F i (new k)).reads (S k), get s l = get (S k) l := by
    intro l hl
    cases l with
    | slot m =>
      simp only [get]
      rw [ha.slot m]
      congr 1
      rw [slotD_cut ins.length (k := k) (by omega) fun j hj1 hj2 hd => ?_]
      · rw [slotD_same (D' := T) k fun j hj hd => ?_, slotD_all hr T k (by omega) (fun _ _ => rfl) m]
        cases hDj : D j with
        | true => rfl
        | false =>
          have := (hlow j hj hDj).slotW _ i m (get_at j (by omega)) hk (by rw [← dst_at j (by omega)]; exact hd)
          exact absurd hl this.2
      · by_cases hjk : j = k
        · subst hjk; exact hkD
        · cases hDj : D j with
          | false => rfl
          | true =>
            have := (hhigh j (by omega) hj2 hDj).slotR i _ m hk (get_at j hj2) (by rw [← dst_at j hj2]; exact hd)
            exact absurd hl this
    | blk b =>
      simp only [get]
      by_cases hb : b < (S 0).sto.length
      · rw [ha.blk b hb]
        congr 1
        rw [blkD_cut ins.length (k := k) (by omega) fun j hj1 hj2 hd => ?_]
        · rw [blkD_same (D' := T) k fun j hj hd => ?_, blkD_all hr T k (by omega) (fun _ _ => rfl) b hb]
          cases hDj : D j with
          | true => rfl
          | false => exact absurd hl ((hlow j hj hDj).blkW i b hk hd).2
        · by_cases hjk : j = k
          · subst hjk; exact hkD
          · cases hDj : D j with
            | false => rfl
            | true => exact absurd hl ((hhigh j (by omega) hj2 hDj).blkR i b hk hd)
      · rw [List.getElem?_eq_none (by have := ha.len; omega), List.getElem?_eq_none (by have := run_len hr k (by omega); omega)]
  refine ⟨by rw [run_congr _ (S k) s reads, h1], ?_, ?_, ?_⟩
  · intro m
    have hput : lk m (put i.dst (eff k) s).env = if i.dst = some m then some (eff k).val else lk m s.env := by
      unfold put
      cases i.dst with
      | none => simp
      | some d => simp only [lk]; by_cases hm : m = d <;> simp [hm, Ne.symm] <;> exact fun e => absurd e.symm hm
    rw [hput, ha.slot m]
    by_cases hm : i.dst = some m
    · rw [if_pos hm]
      rw [slotD_cut ins.length (k := k + 1) (by omega) fun j hj1 hj2 hd => ?_]
      · simp only [slotD]; simp [hdk, hm]
      · have hjk : j ≠ k := by omega
        simp only [if_neg hjk]
        cases hDj : D j with
        | false => rfl
        | true =>
          have := (hhigh j (by omega) hj2 hDj).slotW i _ m hk (get_at j hj2) hm
          exact absurd (by rw [← dst_at j hj2]; exact hd) this.1
    · rw [if_neg hm]
      refine slotD_same _ fun j hj hd => ?_
      have hjk : j ≠ k := by rintro rfl; rw [hdk] at hd; exact hm hd
      simp [hjk]
  · have : (put i.dst (eff k) s).sto = upd (eff k).ws s.sto := by unfold put; split <;> rfl
    rw [this, upd_len, ha.len]
  · intro b hb
    have : (put i.dst (eff k) s).sto = upd (eff k).ws s.sto := by unfold put; split <;> rfl
    rw [this, upd_get _ _ _ (by rw [ha.len]; exact hb), ha.blk b hb]
    by_cases hw : b ∈ (eff k).ws.map (·.1)
    · obtain ⟨y, hy⟩ := lastW_some hw
      simp only [hy]
      rw [blkD_cut (D := fun j => if j = k then true else D j) ins.length (k := k + 1) (by omega) fun j hj1 hj2 hd => ?_]
      · simp only [blkD]; simp [hy]
      · have hjk : j ≠ k := by omega
        simp only [if_neg hjk]
        cases hDj : D j with
        | false => rfl
        | true => exact absurd hd ((hhigh j (by omega) hj2 hDj).blkW _ b (get_at j hj2) hw).1
    · rw [lastW_none hw]
      refine blkD_same _ fun j hj hd => ?_
      have hjk : j ≠ k := by rintro rfl; exact hw hd
      simp [hjk]

theorem agree_start : Agree ins eff (S 0) (fun _ => false) (S 0) := by
  refine ⟨fun m => ?_, rfl, fun b _ => ?_⟩
  · rw [slotD_cut ins.length (k := 0) (Nat.zero_le _) fun _ _ _ _ => rfl]; rfl
  · rw [blkD_cut ins.length (k := 0) (Nat.zero_le _) fun _ _ _ _ => rfl]; rfl

theorem agree_end (hr : Run F ins new S eff) {D : Nat → Bool} {s : St} (ha : Agree ins eff (S 0) D s) (hD : ∀ j, j < ins.length → D j = true) :
    (∀ m, lk m s.env = lk m (S ins.length).env) ∧ s.sto = (S ins.length).sto := by
  refine ⟨fun m => by rw [ha.slot m, slotD_all hr D _ (Nat.le_refl _) hD m], List.ext_getElem? fun b => ?_⟩
  by_cases hb : b < (S 0).sto.length
  · rw [ha.blk b hb, blkD_all hr D _ (Nat.le_refl _) hD b hb]
  · rw [List.getElem?_eq_none (by have := ha.len; omega), List.getElem?_eq_none (by have := run_len hr _ (Nat.le_refl _); omega)]

end
end Go.Am
