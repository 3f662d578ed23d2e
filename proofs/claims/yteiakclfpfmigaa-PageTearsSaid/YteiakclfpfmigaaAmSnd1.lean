/-
  The abstract machine: one operation of a region.
-/
import Derived.Test.YteiakclfpfmigaaAmCall3
import Derived.Orders
import Derived.LoopN
set_option linter.unusedSimpArgs false
set_option linter.unusedVariables false
namespace Go.Am

theorem dead_of {new : Nat} {env : List (Nat × AV)} {σ : List Blk} : ∀ {k new : Nat} {u : Unit}, (deadR new k).run ⟨env, σ⟩ = some u → ∀ j, j < k → σ[new + j]? = some .dead
  | 0, _, _, _, j, hj => by omega
  | k + 1, new, u, h, j, hj => by
    simp only [deadR, RM.run] at h
    split at h
    · rename_i x hx
      cases x with
      | dead =>
        dsimp only at h
        cases j with
        | zero => exact hx
        | succ j => have := dead_of (new := 0) h j (by omega); rw [show new + (j + 1) = new + 1 + j by omega]; exact this
      | box => cases h
      | arr => cases h
    · cases h

section
variable {P : Program} {F : Orc} {s : Sn} {a : Act} {env : List (Nat × AV)} {o : Oper} {new : Nat} {e : Eff}

theorem op_ok (hF : SoundF P F) (hi : Inv s) (he : EnvRel s a.tmps env) {ao : AOp} (h : (opD F ao new).run ⟨env, s.σ⟩ = some e) (hc : chkOp P ao o.op = true) : OpOk P o a s e := by
  unfold opD at h
  obtain ⟨u, hd, h⟩ := bind_some h
  have hdead := dead_of (new := 0) hd
  clear hd
  have d1 : newOf ao = 1 → s.σ[new]? = some .dead := fun h1 => hdead 0 (by omega)
  cases ao with
  | mv x => exact ok_mv hi he h hc
  | mkarr esz x => exact ok_mkarr hi (d1 rfl) h hc
  | pick => exact ok_pick hi he h hc
  | newbox => exact ok_newbox hi (d1 rfl) h hc
  | box => exact ok_box hi he (d1 rfl) h hc
  | build => exact ok_build hi he h hc
  | lits => exact ok_lits hi he (fun e => d1 (by simp [newOf, e])) h hc
  | load => exact ok_load hi he h hc
  | store => exact ok_store hi he h hc
  | nilchk => exact ok_nilchk hi he h hc
  | bin op t x y =>
    cases t with
    | plain => exact ok_bin_plain hi he h hc
    | bool => exact ok_bin_bool hi he h hc
    | flat => exact ok_bin_flat hi he h hc
    | nils => exact ok_bin_nils hi he h hc
    | nilp => exact ok_bin_nilp hi he h hc
    | nilf => exact ok_bin_nilf hi he h hc
  | un => exact ok_un hi he h hc
  | conv k x =>
    cases k with
    | toBytes own => exact ok_toBytes hi he (fun e => d1 (by simp [newOf, e])) h hc
    | _ => exact ok_conv hi he (by simp) h hc
  | mkslice => exact ok_mkslice hi he (fun e => d1 (by simp [newOf, e])) h hc
  | slice => exact ok_slice hi he h hc
  | faddr => exact ok_faddr hi he h hc
  | field => exact ok_field hi he h hc
  | iaddr => exact ok_iaddr hi he h hc
  | aaddr => exact ok_aaddr hi he h hc
  | sidx => exact ok_sidx hi he h hc
  | aidx => exact ok_aidx hi he h hc
  | extr => exact ok_extr hi he h hc
  | call => exact ok_call hF hi he hdead h hc
  | callv => exact ok_callv hF hi he hdead h hc
  | len => exact ok_len hi he h hc
  | alen => exact ok_alen hi h hc
  | app => exact ok_app hi he h hc
  | appn => exact ok_appn hi he (d1 rfl) h hc
  | mm => exact ok_mm hi he h hc
  | mkfn => exact ok_mkfn hi he h hc

end

/-- The operation's text. -/
def chkIns (P : Program) (N : Nat) (ops : Array Oper) (i : AIns) (o : Oper) : Bool :=
  chkOp P i.op o.op && i.dst == o.dst && (match i.dst with
    | some d => decide (d < N)
    | none => true) && (match i.g, o.guard with
    | none, none => true
    | some (g, w), some (j, w') => w == w' && (ops[j]?).bind (·.dst) == some g
    | _, _ => false)

/-- The abstract state of a running function that began at E. -/
def Sim (N : Nat) (E : Sn) (st : St) (a : Act) (w : World) : Prop :=
  a.tmps.size = N ∧ a.defers = [] ∧ ∃ g, Inv ⟨st.sto, g, w⟩ ∧ EnvRel ⟨st.sto, g, w⟩ a.tmps st.env ∧ Trans E ⟨st.sto, g, w⟩

theorem EnvRel.put {s : Sn} {tmps : Array Value} {env : List (Nat × AV)} (he : EnvRel s tmps env) {d : Nat} (hd : d < tmps.size) {x : AV} {v : Value} (hv : RelA s x v) :
    EnvRel s (tmps.setIfInBounds d v) ((d, x) :: env) := by
  intro n y hy
  simp only [lk] at hy
  split at hy
  · rename_i hn
    injection hy with hy; subst hy hn
    exact ⟨v, by simp [hd], hv⟩
  · rename_i hn
    obtain ⟨u, h1, h2⟩ := he n y hy
    exact ⟨u, by rw [Array.getElem?_setIfInBounds_ne (Ne.symm hn)]; exact h1, h2⟩

theorem Sim.putd {N : Nat} {E : Sn} {st : St} {a : Act} {w w' : World} {g g' : Gh} {e : Eff} {v : Value} {d : Option Nat}
    (h1 : a.tmps.size = N) (h2 : a.defers = []) (hi : Inv ⟨st.sto, g, w⟩) (he : EnvRel ⟨st.sto, g, w⟩ a.tmps st.env) (ht : Trans E ⟨st.sto, g, w⟩) (hd : ∀ x, d = some x → x < N)
    (hi' : Inv ⟨upd e.ws st.sto, g', w'⟩) (ht' : Trans ⟨st.sto, g, w⟩ ⟨upd e.ws st.sto, g', w'⟩) (hv : RelA ⟨upd e.ws st.sto, g', w'⟩ e.val v) :
    Sim N E (Am.put d e st) (a.put d v) w' := by
  have he' := he.mono hi ht'
  cases d with
  | none => exact ⟨h1, h2, g', hi', he', ht.trans ht'⟩
  | some d => exact ⟨by simp [Act.put, h1], h2, g', hi', he'.put (by rw [h1]; exact hd d rfl) hv, ht.trans ht'⟩

section
variable {P : Program} {F : Orc} {N : Nat} {E : Sn} {st : St} {a : Act} {w : World} {ops : Array Oper} {i : AIns} {o : Oper} {e : Eff} {new k : Nat} {Q : Exit → Act → World → Prop} {K : Act → World → Prop}

theorem tup0_undef {s : Sn} : RelA s undefV undef := .tup _ _ rfl fun i x v h => by simp at h

theorem ins_ok (hF : SoundF P F) (hs : Sim N E st a w) (ho : ops[k]? = some o) (hc : chkIns P N ops i o = true) (h : (insR F i new).run st = some e)
    (next : ∀ a' w', Sim N E (Am.put i.dst e st) a' w' → K a' w') : wpOp P ops Q k K a w := by
  obtain ⟨h1, h2, g, hi, he, ht⟩ := hs
  simp only [chkIns, Bool.and_eq_true, beq_iff_eq] at hc
  obtain ⟨⟨⟨hc, hd⟩, hdn⟩, hg⟩ := hc
  have hd' : ∀ x, i.dst = some x → x < N := by
    intro x hx; rw [hx] at hdn; simpa using hdn
  have run : ∀ {e : Eff}, (opD F i.op new).run st = some e → (∀ a' w', Sim N E (Am.put i.dst e st) a' w' → K a' w') → o.wp P a w K Q := by
    intro e h next
    refine op_ok (s := ⟨st.sto, g, w⟩) (env := st.env) hF hi he h hc K Q fun v w' g' hi' ht' hv => next _ _ ?_
    rw [← hd]
    exact Sim.putd h1 h2 hi he ht hd' hi' ht' hv
  have skip : (∀ a' w', Sim N E (Am.put i.dst ⟨undefV, []⟩ st) a' w' → K a' w') → K (a.put o.dst undef) w := by
    intro next
    refine next _ _ ?_
    rw [← hd]
    exact Sim.putd (e := ⟨undefV, []⟩) h1 h2 hi he ht hd' hi (.refl _) tup0_undef
  unfold wpOp
  rw [ho]
  dsimp only
  unfold insR at h
  cases hig : i.g with
  | none =>
    rw [hig] at h hg
    cases hog : o.guard with
    | some x => rw [hog] at hg; cases hg
    | none =>
      have hw : Region.wanted o (yielded ops a.tmps) = true := by simp [Region.wanted, hog]
      rw [if_pos hw]
      exact .inl (run h next)
  | some gw =>
    obtain ⟨gs, want⟩ := gw
    rw [hig] at h hg
    cases hog : o.guard with
    | none => rw [hog] at hg; cases hg
    | some x =>
      obtain ⟨j, want'⟩ := x
      rw [hog] at hg
      simp only [Bool.and_eq_true, beq_iff_eq] at hg
      obtain ⟨rfl, hj⟩ := hg
      simp only [RM.run] at h
      split at h
      · rename_i v hv
        obtain ⟨u, hu, hr⟩ := he _ _ hv
        split at h
        · rename_i b
          cases hr with
          | p _ _ hr =>
            cases hr with
            | b x =>
              have hy : yielded ops a.tmps j = some b := by simp [yielded, hj, hu]
              by_cases hb : b = want
              · have hw : Region.wanted o (yielded ops a.tmps) = true := by simp [Region.wanted, hog, hy, hb]
                rw [if_pos hw]
                rw [if_pos hb] at h
                exact .inl (run h next)
              · have hw : Region.wanted o (yielded ops a.tmps) = false := by simp [Region.wanted, hog, hy, hb]
                rw [if_neg (by rw [hw]; simp)]
                rw [if_neg hb] at h
                simp only [RM.run] at h; injection h with h; subst h
                exact skip next
        · cases hr with
          | tup _ vs hl _ =>
            have hvs : vs = #[] := by
              have : vs.size = 0 := by simpa using hl.symm
              simpa using this
            subst hvs
            have hy : yielded ops a.tmps j = none := by simp [yielded, hj, hu]
            have hw : Region.wanted o (yielded ops a.tmps) = false := by simp [Region.wanted, hog, hy]
            rw [if_neg (by rw [hw]; simp)]
            simp only [RM.run] at h; injection h with h; subst h
            exact skip next
        · cases h
      · cases h

end

/-! ### Room -/

theorem room_get {σ : List Blk} {n b : Nat} {x : Blk} (h : (σ ++ List.replicate n Blk.dead)[b]? = some x) (hx : x ≠ .dead) : σ[b]? = some x := by
  rcases Nat.lt_or_ge b σ.length with hlt | hge
  · rwa [List.getElem?_append_left hlt] at h
  · rw [List.getElem?_append_right hge, List.getElem?_replicate] at h
    split at h
    · injection h with h; exact absurd h.symm hx
    · cases h

theorem room_get' {σ : List Blk} {n b : Nat} {x : Blk} (h : σ[b]? = some x) : (σ ++ List.replicate n Blk.dead)[b]? = some x := by
  rw [List.getElem?_append_left (lt_of_get h)]; exact h

theorem room_wr {σ : List Blk} {g : Gh} {w : World} {n b r o : Nat} : Wr1 ⟨σ ++ List.replicate n .dead, g, w⟩ b r o ↔ Wr1 ⟨σ, g, w⟩ b r o := by
  unfold Wr1
  constructor
  · intro h
    dsimp only at h ⊢
    cases hb : (σ ++ List.replicate n Blk.dead)[b]? with
    | none => rw [hb] at h; exact h.elim
    | some x =>
      cases x with
      | dead => rw [hb] at h; exact h.elim
      | box cs => rw [room_get hb (by simp)]; rw [hb] at h; exact h
      | arr wm esz rows => rw [room_get hb (by simp)]; rw [hb] at h; exact h
  · intro h
    dsimp only at h ⊢
    cases hb : σ[b]? with
    | none => rw [hb] at h; exact h.elim
    | some x => rw [room_get' hb]; rw [hb] at h; exact h

theorem room_trans {σ : List Blk} {g : Gh} {w : World} {n : Nat} : Trans ⟨σ, g, w⟩ ⟨σ ++ List.replicate n .dead, g, w⟩ where
  keep := .refl _ _
  cmono _ _ h := h
  cnew _ _ h := .inl h
  wnew _ _ h := let ⟨b, hb⟩ := h; .inl ⟨b, room_wr.1 hb⟩
  len := by simp
  box b cs h := ⟨⟨cs, room_get' h, rfl⟩, rfl⟩
  arr b wm esz rows h := ⟨wm, rows, room_get' h, id, Nat.le_refl _, fun _ => rfl⟩

theorem room_inv {σ : List Blk} {g : Gh} {w : World} {n : Nat} (hi : Inv ⟨σ, g, w⟩) : Inv ⟨σ ++ List.replicate n .dead, g, w⟩ := by
  have t := room_trans (σ := σ) (g := g) (w := w) (n := n)
  refine ⟨fun b cs h => ?_, fun b wm esz rows h => ?_, fun b1 b2 r o h1 h2 => hi.apart b1 b2 r o (room_wr.1 h1) (room_wr.1 h2), fun r o hc => ⟨(hi.const r o hc).1, fun b hb => (hi.const r o hc).2 b (room_wr.1 hb)⟩⟩
  · obtain ⟨r, o, c, e, fz, q1, q2, q3, q4, q5⟩ := hi.box b cs (room_get h (by simp))
    exact ⟨r, o, c, e, fz, q1, q2, q3, fun i x hx => let ⟨v, k1, k2, k3⟩ := q4 i x hx; ⟨v, k1, k2.mono hi t, k3⟩, q5⟩
  · exact hi.arr b wm esz rows (room_get h (by simp))

theorem Sim.room {N : Nat} {E : Sn} {st : St} {a : Act} {w : World} (h : Sim N E st a w) (n : Nat) : Sim N E ⟨st.env, room n st.sto⟩ a w := by
  unfold Am.room
  split
  · exact h
  · obtain ⟨h1, h2, g, hi, he, ht⟩ := h
    exact ⟨h1, h2, g, room_inv hi, he.mono hi room_trans, ht.trans room_trans⟩

theorem Sim.heap {N : Nat} {E : Sn} {st : St} {a : Act} {w w' : World} (h : Sim N E st a w) (hh : w'.heap = w.heap) (ho : w'.os = w.os) (hp : w'.output = w.output) : Sim N E st a w' := by
  obtain ⟨h1, h2, g, hi, he, ht⟩ := h
  obtain ⟨i', t'⟩ := same_heap hi hh ho hp
  exact ⟨h1, h2, g, i', he.mono hi t', ht.trans t'⟩

theorem Sim.congr {N : Nat} {E : Sn} {st st' : St} {a : Act} {w : World} (h : Sim N E st a w) (he : ∀ m, lk m st'.env = lk m st.env) (hs : st'.sto = st.sto) : Sim N E st' a w := by
  obtain ⟨h1, h2, g, hi, hr, ht⟩ := h
  refine ⟨h1, h2, g, ?_⟩
  rw [hs]
  exact ⟨hi, fun n x hx => hr n x (by rw [← he]; exact hx), ht⟩

end Go.Am
