/-
  The abstract machine: its operations are the model's (== of structs).
-/
import Derived.Test.YteiakclfpfmigaaAmOpsA
import Derived.DeepKeys
set_option linter.unusedSimpArgs false
set_option linter.unusedVariables false
namespace Go.Am

theorem cmpL_app : ∀ {k1 k2 : List KD} {xs ys : List PV} {r : Bool}, cmpL (k1 ++ k2) xs ys = some r →
    ∃ r1 r2, cmpL k1 (xs.take k1.length) (ys.take k1.length) = some r1 ∧ cmpL k2 (xs.drop k1.length) (ys.drop k1.length) = some r2 ∧ r = (r1 && r2)
  | [], k2, xs, ys, r, h => ⟨true, r, by simp [cmpL], by simpa using h, by simp⟩
  | k :: k1, k2, xs, ys, r, h => by
    cases xs with
    | nil => simp [cmpL] at h
    | cons x xs =>
      cases ys with
      | nil => simp [cmpL] at h
      | cons y ys =>
        simp only [List.cons_append, cmpL] at h
        split at h
        · rename_i a c ha hc
          injection h with h; subst h
          obtain ⟨r1, r2, h1, h2, h3⟩ := cmpL_app hc
          exact ⟨a && r1, r2, by simp [cmpL, ha, h1], by simpa using h2, by rw [h3, Bool.and_assoc]⟩
        · cases h

theorem cmpL_len : ∀ {ks : List KD} {xs ys : List PV} {r : Bool}, cmpL ks xs ys = some r → xs.length = ks.length ∧ ys.length = ks.length
  | [], xs, ys, r, h => by cases xs <;> cases ys <;> simp [cmpL] at h ⊢
  | k :: ks, xs, ys, r, h => by
    cases xs with
    | nil => simp [cmpL] at h
    | cons x xs =>
      cases ys with
      | nil => simp [cmpL] at h
      | cons y ys =>
        simp only [cmpL] at h
        split at h
        · rename_i a c ha hc
          obtain ⟨h1, h2⟩ := cmpL_len hc
          simp [h1, h2]
        · cases h

section
variable {P : Program} {F : Orc} {s : Sn} {a : Act} {env : List (Nat × AV)} {o : Oper} {new : Nat} {e : Eff}

def Form (P : Program) (t : TypeId) (vs : List Value) (X : Value) : Prop :=
  (agT P t = some true ∧ X = .agg vs.toArray) ∨ (agT P t = some false ∧ ∃ v, vs = [v] ∧ X = v)

theorem part_form {t : TypeId} {n off : Nat} {cs : Array Value} (hs : szT P t = some n) (hle : off + n ≤ cs.size) (hag : (agT P t = some true) ∨ (agT P t = some false ∧ n = 1)) (w : World) :
    ∃ X, (part t cs off).run P w = .ok X w ∧ Form P t ((cs.toList.drop off).take n) X := by
  rcases hag with h | ⟨h, rfl⟩
  · refine ⟨.agg (cs.extract off (off + n)), by simp [part, run_agg h, run_size hs], .inl ⟨h, ?_⟩⟩
    congr 1
    apply Array.ext'
    rw [Array.toList_extract]
    simp [List.extract]
  · have hlt : off < cs.size := by omega
    have hg : cs[off]? = some cs[off] := by simp [hlt]
    refine ⟨cs[off], by simp [part, run_agg h, hg], .inr ⟨h, cs[off], ?_, rfl⟩⟩
    have : cs.toList.drop off = cs[off] :: cs.toList.drop (off + 1) := by rw [List.drop_eq_getElem_cons (by simpa using hlt)]; simp
    rw [this]; rfl

def RelL (s : Sn) (xs : List PV) (vs : List Value) : Prop := xs.length = vs.length ∧ ∀ (i : Nat) x v, xs[i]? = some x → vs[i]? = some v → RelP s.w s.g.C x v

theorem RelL.take {xs vs} (h : RelL s xs vs) (n : Nat) : RelL s (xs.take n) (vs.take n) :=
  ⟨by simp [h.1], fun i x v hx hv => by
    rw [List.getElem?_take] at hx hv
    split at hx
    · rename_i hi; rw [if_pos hi] at hv; exact h.2 i x v hx hv
    · cases hx⟩

theorem RelL.drop {xs vs} (h : RelL s xs vs) (n : Nat) : RelL s (xs.drop n) (vs.drop n) :=
  ⟨by simp [h.1], fun i x v hx hv => by
    rw [List.getElem?_drop] at hx hv
    exact h.2 _ x v hx hv⟩

def EqK (P : Program) (s : Sn) (d : Nat) (t : TypeId) (ks : List KD) : Prop :=
  ∀ (e : Nat) (w : World) (xs ys : List PV) (vs us : List Value) (r : Bool) (X Y : Value), cmpL ks xs ys = some r → RelL s xs vs → RelL s ys us → Form P t vs X → Form P t us Y →
    (Op.equalIn (d + e) t X Y).run P w = .ok r w

theorem ag_of_kinds {d : Nat} {t : TypeId} {ks : List KD} (h : kinds P d t = some ks) : agT P t = some true ∨ (agT P t = some false ∧ ks.length = 1) := by
  cases d with
  | zero => simp [kinds] at h
  | succ d =>
    unfold kinds at h
    split at h <;> rename_i hu
    · injection h with h; subst h; exact .inr ⟨by simp [agT, hu, aggD], rfl⟩
    · injection h with h; subst h; exact .inr ⟨by simp [agT, hu, aggD], rfl⟩
    · injection h with h; subst h; exact .inr ⟨by simp [agT, hu, aggD], rfl⟩
    · exact .inl (by simp [agT, hu, aggD])
    · exact .inl (by simp [agT, hu, aggD])
    · cases h

theorem eqFieldsK (d e : Nat) (IH : ∀ t ks, kinds P d t = some ks → EqK P s d t ks) (w : World) {xs ys : List PV} {vs us : List Value} (hx : RelL s xs vs) (hy : RelL s ys us) :
    ∀ {fs : List Field} {off : Nat} {ks : List KD} {r : Bool}, fieldsK P (kinds P d) off fs = some ks → cmpL ks (xs.drop off) (ys.drop off) = some r →
      (Op.eqFields (d + e) vs.toArray us.toArray fs).run P w = .ok r w
  | [], off, ks, r, h, hc => by
    simp [fieldsK] at h; subst h
    cases hxd : xs.drop off <;> cases hyd : ys.drop off <;> simp [hxd, hyd, cmpL] at hc
    subst hc
    simp [Op.eqFields]
  | f :: fs, off, ks, r, h, hc => by
    unfold fieldsK at h
    split at h
    · cases h
    · rename_i hn
      have hname : f.name ≠ "_" := fun e => hn (.inl e)
      have hoff : f.offset = off := by
        by_cases h : f.offset = off
        · exact h
        · exact (hn (.inr h)).elim
      split at h
      · cases h
      · rename_i k1 hk1
        split at h
        · rename_i hsz
          obtain ⟨hsz, hpos⟩ := hsz
          split at h
          · rename_i k2 hk2
            injection h with h; subst h
            obtain ⟨r1, r2, c1, c2, rfl⟩ := cmpL_app hc
            obtain ⟨l1, l2⟩ := cmpL_len c1
            rw [List.length_take, List.length_drop] at l1 l2
            rw [List.drop_drop, List.drop_drop] at c2
            have hag := ag_of_kinds hk1
            obtain ⟨X, pX, fX⟩ := part_form (P := P) (cs := vs.toArray) (off := off) hsz (by have := hx.1; simp; omega) hag w
            obtain ⟨Y, pY, fY⟩ := part_form (P := P) (cs := us.toArray) (off := off) hsz (by have := hy.1; simp; omega) hag w
            have he := IH f.type k1 hk1 e w _ _ _ _ r1 X Y c1 ((hx.drop off).take _) ((hy.drop off).take _) (by simpa using fX) (by simpa using fY)
            have ih := eqFieldsK d e IH w hx hy hk2 c2
            simp only [Op.eqFields]
            rw [if_pos hname]
            simp only [Sem.run_bind, hoff, pX, pY, he, Result.andThen_ok, Sem.run_ite]
            cases r1
            · simp
            · simp [ih]
          · cases h
        · cases h

theorem eqItemsK (d e : Nat) {t : TypeId} {ks : List KD} (IH : EqK P s d t ks) (hk : kinds P d t = some ks) (hsz : szT P t = some ks.length) (hpos : 0 < ks.length) (w : World) {xs ys : List PV} {vs us : List Value} (hx : RelL s xs vs) (hy : RelL s ys us) :
    ∀ {m i : Nat} {r : Bool}, cmpL (List.replicate m ks).flatten (xs.drop (i * ks.length)) (ys.drop (i * ks.length)) = some r →
      (Op.eqItems (d + e) t ks.length vs.toArray us.toArray (List.range' i m)).run P w = .ok r w
  | 0, i, r, hc => by
    simp only [List.replicate_zero, List.flatten_nil] at hc
    cases hxd : xs.drop (i * ks.length) <;> cases hyd : ys.drop (i * ks.length) <;> simp [hxd, hyd, cmpL] at hc
    subst hc
    simp [Op.eqItems]
  | m + 1, i, r, hc => by
    rw [List.replicate_succ, List.flatten_cons] at hc
    obtain ⟨r1, r2, c1, c2, rfl⟩ := cmpL_app hc
    obtain ⟨l1, l2⟩ := cmpL_len c1
    rw [List.length_take, List.length_drop] at l1 l2
    rw [List.drop_drop, List.drop_drop] at c2
    have hag := ag_of_kinds hk
    obtain ⟨X, pX, fX⟩ := part_form (P := P) (cs := vs.toArray) (off := i * ks.length) hsz (by have := hx.1; simp; omega) hag w
    obtain ⟨Y, pY, fY⟩ := part_form (P := P) (cs := us.toArray) (off := i * ks.length) hsz (by have := hy.1; simp; omega) hag w
    have he := IH e w _ _ _ _ r1 X Y c1 ((hx.drop _).take _) ((hy.drop _).take _) (by simpa using fX) (by simpa using fY)
    have ih := eqItemsK d e IH hk hsz hpos w hx hy (m := m) (i := i + 1) (r := r2) (by
      have : (i + 1) * ks.length = i * ks.length + ks.length := by rw [Nat.add_mul, Nat.one_mul]
      rw [this]; exact c2)
    rw [List.range'_succ]
    simp only [Op.eqItems, Sem.run_bind, pX, pY, he, Result.andThen_ok, Sem.run_ite]
    cases r1
    · simp
    · simp [ih]

theorem eqK : ∀ (d : Nat) (t : TypeId) (ks : List KD), kinds P d t = some ks → EqK P s d t ks
  | 0, t, ks, h => by simp [kinds] at h
  | d + 1, t, ks, h => by
    intro e w xs ys vs us r X Y hc hx hy fX fY
    have hde : d + 1 + e = (d + e) + 1 := by omega
    rw [hde]
    have hl := cmpL_len hc
    unfold kinds at h
    have single : ∀ {k : KD}, agT P t = some false → ks = [k] → ∃ x y, xs = [x] ∧ ys = [y] ∧ cmpP k x y = some r ∧ RelP s.w s.g.C x X ∧ RelP s.w s.g.C y Y := by
      rintro k hag rfl
      obtain ⟨x, rfl⟩ := List.length_eq_one_iff.1 hl.1
      obtain ⟨y, rfl⟩ := List.length_eq_one_iff.1 hl.2
      rcases fX with ⟨hag', _⟩ | ⟨_, v, rfl, rfl⟩
      · rw [hag] at hag'; cases hag'
      · rcases fY with ⟨hag', _⟩ | ⟨_, u, rfl, rfl⟩
        · rw [hag] at hag'; cases hag'
        · refine ⟨x, y, rfl, rfl, ?_, hx.2 0 x _ rfl rfl, hy.2 0 y _ rfl rfl⟩
          simp only [cmpL] at hc
          cases hcp : cmpP k x y with
          | none => simp [hcp] at hc
          | some b => simp [hcp] at hc; rw [hc]
    split at h <;> rename_i hu
    · injection h with h; subst h
      obtain ⟨x, y, rfl, rfl, hcp, rx, ry⟩ := single (by simp [agT, hu, aggD]) rfl
      cases rx <;> cases ry <;> simp only [cmpP] at hcp <;> try (cases hcp; done)
      injection hcp with hcp; subst hcp
      rw [run_equalIn_bool w (d + e) t _ _ hu]
    · injection h with h; subst h
      obtain ⟨x, y, rfl, rfl, hcp, rx, ry⟩ := single (by simp [agT, hu, aggD]) rfl
      cases rx <;> cases ry <;> simp only [cmpP] at hcp <;> try (cases hcp; done)
      split at hcp
      · rename_i hk
        obtain ⟨rfl, rfl⟩ := hk
        injection hcp with hcp; subst hcp
        rw [run_equalIn_int w (d + e) t _ _ _ _ hu]
      · cases hcp
    · injection h with h; subst h
      obtain ⟨x, y, rfl, rfl, hcp, rx, ry⟩ := single (by simp [agT, hu, aggD]) rfl
      cases rx <;> cases ry <;> simp only [cmpP] at hcp <;> try (cases hcp; done)
      injection hcp with hcp; subst hcp
      rw [run_equalIn_string w (d + e) t _ _ hu, bs_toList, bs_toList]
    · rename_i fs
      split at h
      · cases h
      · rename_i hst
        have hag : agT P t = some true := by simp [agT, hu, aggD]
        rcases fX with ⟨_, rfl⟩ | ⟨hag', _⟩
        · rcases fY with ⟨_, rfl⟩ | ⟨hag', _⟩
          · have hfs : P.fieldsOf t = fs := by simp [Program.fieldsOf, hu]
            rw [run_equalIn_struct w (d + e) t _ _ (by rw [hfs]; exact hu) (by simpa using hst), hfs]
            exact eqFieldsK d e (fun t ks hk => eqK d t ks hk) w hx hy h (by simpa using hc)
          · rw [hag] at hag'; cases hag'
        · rw [hag] at hag'; cases hag'
    · rename_i n el
      split at h
      · rename_i k1 hk1
        split at h
        · rename_i hsz
          injection h with h; subst h
          have hag : agT P t = some true := by simp [agT, hu, aggD]
          rcases fX with ⟨_, rfl⟩ | ⟨hag', _⟩
          · rcases fY with ⟨_, rfl⟩ | ⟨hag', _⟩
            · obtain ⟨i, hi, hisz⟩ := info_of hsz.1
              have hcell : P.cellsOf el = k1.length := by simp [Program.cellsOf, hi, hisz]
              rw [run_equalIn_array w (d + e) _ _ hu hi, hcell, List.range_eq_range']
              exact eqItemsK d e (eqK d el k1 hk1) hk1 hsz.1 hsz.2 w hx hy (i := 0) (by simpa using hc)
            · rw [hag] at hag'; cases hag'
          · rw [hag] at hag'; cases hag'
        · cases h
      · cases h
    · cases h

theorem ok_bin_flat (hi : Inv s) (he : EnvRel s a.tmps env) {op ks x y} (h : (opR F (.bin op (.flat ks) x y) new).run ⟨env, s.σ⟩ = some e) (hc : chkOp P (.bin op (.flat ks) x y) o.op = true) : OpOk P o a s e := by
  simp only [opR] at h
  obtain ⟨u, h1, h'⟩ := bind_some h
  obtain ⟨v, h2, h''⟩ := bind_some h'
  obtain ⟨r, h3, rfl⟩ := val_some h''
  clear h h' h''
  unfold chkOp at hc
  simp only at hc
  split at hc
  · rename_i op' t x' y' ty hop
    simp only [Bool.and_eq_true, beq_iff_eq] at hc
    obtain ⟨⟨rfl, hx⟩, ⟨⟨hy, hk⟩, hag⟩, hg⟩ := hc
    have rx := ev_rel he h1 hx
    have ry := ev_rel he h2 hy
    generalize hzx : a.eval x' = zx at rx
    generalize hzy : a.eval y' = zy at ry
    simp only [binP] at h3
    split at h3
    · rename_i p q
      cases rx with
      | data _ vs p1 p2 =>
        cases ry with
        | data _ us q1 q2 =>
          have hb : ∃ b, cmpL ks p q = some b := by
            cases hcm : cmpL ks p q with
            | none => rw [hcm] at h3; cases op <;> simp [negB] at h3
            | some b => exact ⟨b, rfl⟩
          obtain ⟨b, hb⟩ := hb
          rw [hb] at h3
          obtain ⟨ho, rfl⟩ := negB_some h3
          have hguard : (eqGuard op t x' y' (.agg vs) (.agg us)).run P s.w = .ok () s.w := run_eqGuard_agg s.w op t x' y' vs us (by simpa using hg)
          have heq := eqK (P := P) (s := s) 100 t ks hk 9900 s.w p q vs.toList us.toList b (.agg vs) (.agg us) hb ⟨by simpa using p1, fun i x v hx hv => p2 i x v hx (by simpa using hv)⟩ ⟨by simpa using q1, fun i x v hx hv => q2 i x v hx (by simpa using hv)⟩ (.inl ⟨hag, by simp⟩) (.inl ⟨hag, by simp⟩)
          have hrun : (binOp op t (.agg vs) (.agg us)).run P s.w = .ok (.bool (if op = .eql then b else !b)) s.w := by
            rcases ho with rfl | rfl
            · rw [run_eql_struct]
              rw [show (10000 : Nat) = 100 + 9900 from rfl, heq]; rfl
            · rw [run_neq_struct]
              rw [show (10000 : Nat) = 100 + 9900 from rfl, heq]; rfl
          exact opOk_pure hi (by simp only [execOp, hop, hzx, hzy]; simp only [Sem.run_bind, hguard, Result.andThen_ok, hrun, Sem.run_pure]) (relA_b' _)
    · cases h3
  · cases hc

end
end Go.Am
