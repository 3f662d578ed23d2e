/-
  The abstract machine: code, functions, and the whole table.
-/
import Derived.Test.YteiakclfpfmigaaAmSnd2
import Derived.Scope
set_option linter.unusedSimpArgs false
set_option linter.unusedVariables false
namespace Go.Am

def chkCode (P : Program) (N : Nat) : ACode → Code → Bool
  | .skip, c => match c with
    | .skip => true
    | _ => false
  | .reg draw pairs ins, c => match c with
    | .region _ ops d => draw == d && chkReg P N draw pairs ins ops
    | _ => false
  | .seq a b, c => match c with
    | .seq x y => chkCode P N a x && chkCode P N b y
    | _ => false
  | .cond o a b, c => match c with
    | .cond p x y => chkO o p && chkCode P N a x && chkCode P N b y
    | _ => false
  | .block id a, c => match c with
    | .block id' x => id == id' && chkCode P N a x
    | _ => false
  | .loop _ a, c => match c with
    | .loop x => chkCode P N a x
    | _ => false
  | .lp _ _ _, _ => false
  | .scope a, c => match c with
    | .scope x => chkCode P N a x
    | _ => false
  | .exit id, c => match c with
    | .exit id' => id == id'
    | _ => false
  | .ret, c => match c with
    | .ret => true
    | _ => false
  | .keep _ a, c => chkCode P N a c
  | .tidy _ a, c => chkCode P N a c
  | .br _ pre o a b rest, c => match c with
    | .seq (.seq p (.cond q x y)) z => chkCode P N pre p && chkO o q && chkCode P N a x && chkCode P N b y && chkCode P N rest z
    | _ => false

def exitOf : AX → Exit
  | .normal => .normal
  | .exit id => .exit id
  | .ret => .ret

/-- What a run of abstract code tells. -/
def CodeSim (P : Program) (c : ACode) (st : St) (r : Out) : Prop :=
  match c with
  | .lp n _ b => ∃ k, ∀ (N : Nat) (code : Code) (E : Sn) (a : Act) (w : World) (Q : Exit → Act → World → Prop), chkCode P N b code = true → E.σ.length ≤ n → n ≤ st.sto.length → Sim N E st a w →
      (∀ a' w', Sim N E r.2 a' w' → Q (exitOf r.1) a' w') → Code.rounds P code Q k a w
  | c => ∀ (N : Nat) (code : Code) (E : Sn) (a : Act) (w : World) (Q : Exit → Act → World → Prop), chkCode P N c code = true → Sim N E st a w →
      (∀ a' w', Sim N E r.2 a' w' → Q (exitOf r.1) a' w') → code.wp P Q a w

theorem CodeSim.get {P : Program} {c : ACode} {st : St} {r : Out} (h : CodeSim P c st r) {N : Nat} {code : Code} {E : Sn} {a : Act} {w : World} {Q : Exit → Act → World → Prop} (hc : chkCode P N c code = true) (hs : Sim N E st a w)
    (next : ∀ a' w', Sim N E r.2 a' w' → Q (exitOf r.1) a' w') : code.wp P Q a w := by
  cases c <;> first | exact h N code E a w Q hc hs next | (simp [chkCode] at hc; done)

/-! ### What is kept -/

theorem restr_lk {env : List (Nat × AV)} {n : Nat} {x : AV} : ∀ {live : List Nat}, lk n (restr live env) = some x → lk n env = some x
  | [], h => by simp [restr, lk] at h
  | k :: r, h => by
    simp only [restr] at h
    split at h
    · rename_i v hv
      simp only [lk] at h
      split at h
      · rename_i e; subst e; rw [hv]; exact h
      · exact restr_lk h
    · exact restr_lk h

theorem finE_lk {m : Nat} {sto : List Blk} {n : Nat} {y : AV} : ∀ {env env' : List (Nat × AV)}, finE m sto env = some env' → lk n env' = some y → ∃ x, lk n env = some x ∧ fin m [] sto x = some y
  | [], env', h, hy => by simp [finE] at h; subst h; simp [lk] at hy
  | (k, x) :: r, env', h, hy => by
    simp only [finE] at h
    split at h
    · rename_i z l hz hl
      injection h with h; subst h
      simp only [lk] at hy ⊢
      split at hy
      · rename_i e; injection hy with hy; subst hy; exact ⟨x, by simp [e], hz⟩
      · rename_i e; obtain ⟨x', h1, h2⟩ := finE_lk hl hy; exact ⟨x', by simp [e, h1], h2⟩
    · cases h

section
variable {P : Program} {N : Nat} {E : Sn} {st st' : St} {a : Act} {w : World}

theorem Sim.restr (h : Sim N E st a w) (live : List Nat) : Sim N E ⟨restr live st.env, st.sto⟩ a w := by
  obtain ⟨h1, h2, g, hi, hr, ht⟩ := h
  exact ⟨h1, h2, g, hi, fun n x hx => hr n x (restr_lk hx), ht⟩

theorem clean_ok {n : Nat} {live : List Nat} (h : Sim N E st a w) (hc : clean n live st = some st') (hE : E.σ.length ≤ n) (hn : n ≤ st.sto.length) : Sim N E st' a w ∧ st'.sto.length = n := by
  unfold clean at hc
  split at hc
  · rename_i e
    injection hc with hc; subst hc
    exact ⟨h.restr live, e⟩
  · split at hc
    · rename_i ev l hev hl
      injection hc with hc; subst hc
      obtain ⟨h1, h2, g, hi, hr, ht⟩ := h
      obtain ⟨k1, k2⟩ := finBs_some hl
      have hlen : l.length = n := by rw [← k1]; simp; omega
      have co : CutOk ⟨st.sto, g, w⟩ n [] l := by
        refine ⟨hi, hn, List.nodup_nil, fun b hb => by simp at hb, by simp [hlen], fun k x hk => ?_⟩
        have hlt := lt_of_get hk
        have hx : (st.sto.take n)[k]? = some (st.sto[k]'(by omega)) := by rw [List.getElem?_take_of_lt (by omega)]; exact List.getElem?_eq_getElem _
        refine ⟨_, ?_, k2 k _ x hx hk⟩
        rw [idOf_lt (by omega)]; exact List.getElem?_eq_getElem _
      refine ⟨⟨h1, h2, (cutSn ⟨st.sto, g, w⟩ n [] l).g, cut_inv co, fun k y hy => ?_, cut_trans co ht hE⟩, hlen⟩
      obtain ⟨x, hx, hf⟩ := finE_lk hev hy
      obtain ⟨v, hv, hrel⟩ := hr k x (restr_lk hx)
      exact ⟨v, hv, cut_rel co hrel hf⟩
    · cases hc

/-! ### Results -/

def chkRes (P : Program) : List ARes → List ResultVar → Bool
  | [], [] => true
  | .tmp t :: r, .tmp t' :: q => t == t' && chkRes P r q
  | .cell t agg size :: r, .cell t' ty :: q => t == t' && agT P ty == some agg && szT P ty == some size && chkRes P r q
  | _, _ => false

def resF (tmps : Array Value) : ResultVar → Sem Value
  | .tmp t => pure (tmps.getD t undef)
  | .cell a t => do loadVar t (← asAddr (tmps.getD a undef))

theorem resR_ok {s : Sn} {env : List (Nat × AV)} {tmps : Array Value} (hi : Inv s) (he : EnvRel s tmps env) : ∀ {rs : List ARes} {qs : List ResultVar} {vs : List AV}, chkRes P rs qs = true → (resR rs).run ⟨env, s.σ⟩ = some vs →
    ∃ us : List Value, (qs.mapM (resF tmps)).run P s.w = .ok us s.w ∧ vs.length = us.length ∧ ∀ (i : Nat) x v, vs[i]? = some x → us[i]? = some v → RelA s x v
  | [], [], vs, _, h => by
    simp only [resR, RM.run] at h; injection h with h; subst h
    exact ⟨[], by simp, rfl, fun i x v h => by simp at h⟩
  | .tmp t :: r, .tmp t' :: q, vs, hc, h => by
    simp only [chkRes, Bool.and_eq_true, beq_iff_eq] at hc
    obtain ⟨rfl, hc⟩ := hc
    simp only [resR] at h
    obtain ⟨x, h1, h⟩ := bind_some h
    obtain ⟨l, h2, h⟩ := bind_some h
    simp only [RM.run] at h; injection h with h; subst h
    simp only [RM.run] at h1
    split at h1
    · rename_i y hy
      injection h1 with h1; subst h1
      obtain ⟨v, hv, hr⟩ := he _ _ hy
      obtain ⟨us, k1, k2, k3⟩ := resR_ok hi he hc h2
      refine ⟨v :: us, ?_, by simp [k2], fun i x u hx hu => ?_⟩
      · rw [List.mapM_cons]
        simp only [resF, Sem.run_bind, Sem.run_pure, Result.andThen_ok, k1, Array.getD_eq_getD_getElem?, hv, Option.getD_some]
      · cases i with
        | zero => simp at hx hu; subst hx hu; exact hr
        | succ i => exact k3 i x u (by simpa using hx) (by simpa using hu)
    · cases h1
  | .cell t agg size :: r, .cell t' ty :: q, vs, hc, h => by
    simp only [chkRes, Bool.and_eq_true, beq_iff_eq] at hc
    obtain ⟨⟨⟨rfl, ha⟩, hz⟩, hc⟩ := hc
    simp only [resR] at h
    obtain ⟨x, h1, h⟩ := bind_some h
    obtain ⟨e, h3, h⟩ := bind_some h
    obtain ⟨l, h2, h⟩ := bind_some h
    simp only [RM.run] at h; injection h with h; subst h
    simp only [RM.run] at h1
    split at h1
    · rename_i y hy
      injection h1 with h1; subst h1
      obtain ⟨v, hv, hr⟩ := he _ _ hy
      obtain ⟨us, k1, k2, k3⟩ := resR_ok hi he hc h2
      obtain ⟨rr, o, ws, q1, q2, q3, _, q4⟩ := loadR_rel hi h3 hr
      obtain ⟨l1, l2⟩ := run_loadVar (P := P) ha hz q2 q3
      have hload : ∃ u, (loadVar ty ⟨rr, o, none⟩).run P s.w = .ok u s.w ∧ RelA s e.val u := by
        rcases q4 with ⟨rfl, hq⟩ | ⟨rfl, u, hu, hq⟩
        · exact ⟨_, l1 rfl, hq⟩
        · exact ⟨u, l2 rfl u hu, hq⟩
      obtain ⟨u, hu, hrel⟩ := hload
      refine ⟨u :: us, ?_, by simp [k2], fun i x z hx hz => ?_⟩
      · rw [List.mapM_cons]
        subst q1
        simp only [resF, Sem.run_bind, Array.getD_eq_getD_getElem?, hv, Option.getD_some]
        simp [asAddr, hu, k1]
      · cases i with
        | zero => simp at hx hz; subst hx hz; exact hrel
        | succ i => exact k3 i x z (by simpa using hx) (by simpa using hz)
    · cases h1
  | [], _ :: _, _, hc, _ => by simp [chkRes] at hc
  | .tmp _ :: _, [], _, hc, _ => by simp [chkRes] at hc
  | .cell _ _ _ :: _, [], _, hc, _ => by simp [chkRes] at hc
  | .tmp _ :: _, .cell _ _ :: _, _, hc, _ => by simp [chkRes] at hc
  | .cell _ _ _ :: _, .tmp _ :: _, _, hc, _ => by simp [chkRes] at hc

theorem outIds_ge {m : Nat} {fresh : Bool} {sto : List Blk} : ∀ {es : List Ent}, ∀ b ∈ outIds m fresh sto es, m ≤ b
  | [], b, h => by simp [outIds] at h
  | .elem _ _ _ :: r, b, h => outIds_ge (es := r) b (by simpa [outIds] using h)
  | .whole c :: r, b, h => by
    simp only [outIds] at h
    split at h
    · exact outIds_ge (es := r) b h
    · rename_i hc
      have two : b ∈ c :: outIds m fresh sto r → m ≤ b := by
        intro h
        rcases List.mem_cons.1 h with rfl | h
        · omega
        · exact outIds_ge (es := r) b h
      split at h
      · exact two h
      · split at h
        · exact two h
        · exact outIds_ge (es := r) b h
      · exact outIds_ge (es := r) b h

theorem one_rel {s : Sn} {vs : List AV} {us : List Value} (hl : vs.length = us.length) (hr : ∀ (i : Nat) x v, vs[i]? = some x → us[i]? = some v → RelA s x v) :
    RelA s (one vs) (if h : us.toArray.size = 1 then us.toArray[0] else .tuple us.toArray) := by
  by_cases h : us.toArray.size = 1
  · rw [dif_pos h]
    cases us with
    | nil => simp at h
    | cons u q =>
      cases vs with
      | nil => simp at hl
      | cons x p =>
        have hq : q = [] := by simpa using h
        subst hq
        have hp : p = [] := by simpa using hl
        subst hp
        exact hr 0 x u rfl rfl
  · rw [dif_neg h]
    have : one vs = .tup vs := by
      match vs, hl with
      | [], _ => rfl
      | [x], hl => simp at h; simp at hl; omega
      | _ :: _ :: _, _ => rfl
    rw [this]
    exact .tup _ _ (by simpa using hl) fun i x v hx hv => hr i x v hx (by simpa using hv)

theorem finish_ok {af : AFn} {fn : Func} {m : Nat} {r : Res} (hs : Sim N E st a w) (hm : E.σ.length = m) (h : finish af m st = some r) (hc : chkRes P af.res fn.results.toList = true) :
    a.defers = [] ∧ ∃ v, (results fn a.tmps).run P w = .ok v w ∧ ∃ g', Inv ⟨r.2, g', w⟩ ∧ Trans E ⟨r.2, g', w⟩ ∧ RelA ⟨r.2, g', w⟩ r.1 v := by
  obtain ⟨h1, h2, g, hi, hr, ht⟩ := hs
  refine ⟨h2, ?_⟩
  unfold finish at h
  cases hvs : (resR af.res).run st with
  | none => rw [hvs] at h; cases h
  | some vs =>
    rw [hvs] at h
    dsimp only at h
    obtain ⟨us, k1, k2, k3⟩ := resR_ok (P := P) (s := ⟨st.sto, g, w⟩) (env := st.env) hi hr hc hvs
    have hrun : (results fn a.tmps).run P w = .ok (if h : us.toArray.size = 1 then us.toArray[0] else .tuple us.toArray) w := by
      have : results fn a.tmps = (do
        let vs ← fn.results.mapM (resF a.tmps)
        pure (if h : vs.size = 1 then vs[0] else .tuple vs)) := rfl
      rw [this, Array.mapM_eq_mapM_toList]
      have k1' : (fn.results.toList.mapM (resF a.tmps)).run P w = .ok us w := k1
      simp [k1']
    refine ⟨_, hrun, ?_⟩
    split at h
    · injection h with h; subst h
      exact ⟨g, hi, ht, one_rel k2 k3⟩
    · split at h
      · rename_i hnd
        have hge0 := outIds_ge (m := m) (fresh := af.fresh) (sto := st.sto) (es := entsB st.sto (entsOf.entsOfL vs []) (entsOf.entsOfL vs []))
        generalize outIds m af.fresh st.sto (entsB st.sto (entsOf.entsOfL vs []) (entsOf.entsOfL vs [])) = ids at *
        split at h
        · rename_i ws l q hws hl hq
          split at h
          · rename_i q' hq'
            injection h with h; subst h
            obtain ⟨a1, a2⟩ := finL_some hws
            obtain ⟨b1, b2⟩ := finBs_some hl
            obtain ⟨c1, c2⟩ := pickB_some hq
            obtain ⟨d1, d2⟩ := finBs_some hq'
            have hle : m ≤ st.sto.length := by rw [← hm]; exact ht.len
            have hlen : l.length = m := by rw [← b1]; simp; omega
            have co : CutOk ⟨st.sto, g, w⟩ m ids (l ++ q') := by
              refine ⟨hi, hle, nodupB_iff hnd, hge0, by simp; omega, fun k x hk => ?_⟩
              rcases get_app hk with hk | ⟨hge, hk⟩
              · have hlt := lt_of_get hk
                have hx : (st.sto.take m)[k]? = some (st.sto[k]'(by omega)) := by rw [List.getElem?_take_of_lt (by omega)]; exact List.getElem?_eq_getElem _
                refine ⟨_, ?_, b2 k _ x hx hk⟩
                rw [idOf_lt (by omega)]; exact List.getElem?_eq_getElem _
              · have hlt := lt_of_get hk
                have hx : q[k - l.length]? = some (q[k - l.length]'(by omega)) := List.getElem?_eq_getElem _
                refine ⟨_, ?_, d2 _ _ x hx hk⟩
                have hid : ids[k - l.length]? = some (ids[k - l.length]'(by omega)) := List.getElem?_eq_getElem _
                have hg := c2 _ _ _ hid hx
                have hio : idOf m ids k = ids[k - l.length]'(by omega) := by
                  unfold idOf
                  rw [if_neg (by omega), ← hlen, hid]; rfl
                rw [hio]; exact hg
            refine ⟨_, cut_inv co, cut_trans co ht (by omega), one_rel (by omega) fun i x v hx hv => ?_⟩
            have hlt := lt_of_get hx
            have hx0 : vs[i]? = some (vs[i]'(by omega)) := List.getElem?_eq_getElem _
            exact cut_rel co (k3 i _ v hx0 hv) (a2 i _ x hx0 hx)
          · cases h
        · cases h
      · cases h

/-! ### Functions -/

def chkFn (P : Program) (f : FuncId) (af : AFn) : Bool :=
  match P.funcs[f]? with
  | none => false
  | some fn => match fn.body with
    | none => false
    | some code => fn.name != "runtime.NumGoroutine" && af.nt == af.np + (fn.ntmps - af.np) && chkRes P af.res fn.results.toList && chkCode P af.nt af.body code

theorem enum_lk : ∀ {args : List AV} {k n : Nat} {x : AV}, lk n (enum k args) = some x → k ≤ n ∧ args[n - k]? = some x
  | [], k, n, x, h => by simp [enum, lk] at h
  | y :: r, k, n, x, h => by
    simp only [enum, lk] at h
    split at h
    · rename_i e; subst e; exact ⟨Nat.le_refl _, by simpa using h⟩
    · rename_i e
      obtain ⟨h1, h2⟩ := enum_lk h
      refine ⟨by omega, ?_⟩
      rw [show n - k = (n - (k + 1)) + 1 by omega]
      simpa using h2

end

section
variable {P : Program} {T : Tabl}

/-- What a function's beginning and end owe, in one. -/
theorem fn_frame {f : FuncId} {af : AFn} {args : List AV} {blks : List Blk} {r : Res} (hc : chkFn P f af = true) (hnp : args.length = af.np)
    (h : ∀ (code : Code) (g : Gh) (w : World) (a : Act) (Q : Exit → Act → World → Prop), chkCode P af.nt af.body code = true → Sim af.nt ⟨blks, g, w⟩ ⟨enum 0 args, blks⟩ a w →
      (∀ e s a' w', (e = .normal ∨ e = .ret) → finish af blks.length s = some r → Sim af.nt ⟨blks, g, w⟩ s a' w' → Q (exitOf e) a' w') → code.wp P Q a w) : CallOk P f args blks r := by
  unfold chkFn at hc
  split at hc
  · cases hc
  · rename_i fn hfn
    split at hc
    · cases hc
    · rename_i code hb
      simp only [Bool.and_eq_true, beq_iff_eq, bne_iff_ne, ne_eq] at hc
      obtain ⟨⟨⟨hname, hnt⟩, hres⟩, hcode⟩ := hc
      refine ⟨⟨fn, hfn, by simp [hb], by simpa using hname⟩, fun g w vals hinv hlen hrel => ?_⟩
      refine calls_of_wp hfn hb ?_
      have hs0 : Sim af.nt ⟨blks, g, w⟩ ⟨enum 0 args, blks⟩ { tmps := vals ++ Array.replicate (fn.ntmps - vals.size) undef, defers := [] } w := by
        refine ⟨by simp; omega, rfl, g, hinv, fun n x hx => ?_, .refl _⟩
        obtain ⟨_, hx⟩ := enum_lk hx
        rw [Nat.sub_zero] at hx
        have hlt := lt_of_get hx
        refine ⟨vals[n]'(by omega), ?_, hrel n x _ hx (Array.getElem?_eq_getElem _)⟩
        rw [Array.getElem?_append_left (by omega)]; exact Array.getElem?_eq_getElem _
      have fin : ∀ {s}, finish af blks.length s = some r → ∀ a' w', Sim af.nt ⟨blks, g, w⟩ s a' w' → a'.defers = [] ∧ ∃ v, (results fn a'.tmps).run P w' = .ok v w' ∧ ∃ v' g', Ending.returned v = .returned v' ∧
          Inv ⟨r.2, g', w'⟩ ∧ Trans ⟨blks, g, w⟩ ⟨r.2, g', w'⟩ ∧ RelA ⟨r.2, g', w'⟩ r.1 v' := by
        intro s hfin a' w' hs
        obtain ⟨q1, v, q2, g', q3, q4, q5⟩ := finish_ok hs rfl hfin hres
        exact ⟨q1, v, q2, v, g', rfl, q3, q4, q5⟩
      refine h code g w _ _ hcode hs0 fun e s a' w' he hfin hs => ?_
      rcases he with rfl | rfl
      · exact fin hfin a' w' hs
      · exact fin hfin a' w' hs

theorem callK_ok {R : ACode → St → Option Out} (ih : ∀ c s r, R c s = some r → CodeSim P c s r) {f : FuncId} {k : FkFn} {args : List AV} {blks : List Blk} {r : Res} (hc : chkFn P f k.af = true) (hnp : args.length = k.np)
    (h : callK R k args blks = some r) : CallOk P f args blks r := by
  refine fn_frame hc hnp fun code g w a Q hcode hs0 fin => ?_
  simp only [FkFn.af] at hcode fin hs0
  cases code <;> simp only [chkCode, Bool.false_eq_true] at hcode
  rename_i code0 codeb
  simp only [Bool.and_eq_true] at hcode
  obtain ⟨hc0, hcb⟩ := hcode
  unfold callK at h
  split at h
  · rename_i s0 hp0
    split at h
    · rename_i s1 hpre
      refine wp_seq ((ih _ _ _ hp0).get hc0 hs0 fun a0 w0 hs1 => ?_)
      split at hcb
      · rename_i cp cq cx cy cz
        simp only [Bool.and_eq_true] at hcb
        obtain ⟨⟨⟨⟨hp, ho⟩, hx⟩, hy⟩, hz⟩ := hcb
        simp only [exitOf, Exit.then]
        refine wp_seq (wp_seq ((ih _ _ _ hpre).get hp hs1 fun a1 w1 hs1 => ?_))
        have way : ∀ {c : ACode} {code : Code}, chkCode P k.nt c code = true → fend k.af blks.length (thn (R c s1) fun s => R k.rest s) = some r →
            code.wp P (Exit.then (cz.wp P Q) Q) a1 w1 := by
          intro c code hc ht
          cases hR : R c s1 with
          | none => rw [hR] at ht; cases ht
          | some o =>
            obtain ⟨e, s2⟩ := o
            rw [hR] at ht
            refine (ih _ _ _ hR).get hc hs1 fun a' w' hs' => ?_
            cases e with
            | normal =>
              simp only [thn] at ht
              cases hR2 : R k.rest s2 with
              | none => rw [hR2] at ht; cases ht
              | some o2 =>
                obtain ⟨e2, s3⟩ := o2
                rw [hR2] at ht
                simp only [exitOf, Exit.then]
                refine (ih _ _ _ hR2).get hz hs' fun a' w' hs' => ?_
                cases e2 with
                | normal => exact fin .normal s3 a' w' (.inl rfl) ht hs'
                | ret => exact fin .ret s3 a' w' (.inr rfl) ht hs'
                | exit id => cases ht
            | exit id => cases ht
            | ret => exact fin .ret s2 a' w' (.inr rfl) ht hs'
        have hs1' := hs1
        obtain ⟨_, _, g, hi, hr, _⟩ := hs1'
        simp only [exitOf, Exit.then]
        split at h
        · rename_i b hb
          have hrel := ev_rel (s := ⟨s1.sto, g, w1⟩) (env := s1.env) hr hb ho
          generalize hv : a1.eval cq = v at hrel
          cases hrel with
          | p _ _ hrel =>
            cases hrel with
            | b =>
              refine wp_cond hv ?_
              cases b with
              | true => exact way hx (by simpa using h)
              | false => exact way hy (by simpa using h)
        · rename_i hb
          have hrel := ev_rel (s := ⟨s1.sto, g, w1⟩) (env := s1.env) hr hb ho
          generalize hv : a1.eval cq = v at hrel
          cases hrel with
          | unk t =>
            refine wp_cond hv ?_
            unfold sameR at h
            split at h
            · rename_i r1 r2 e1 e2
              split at h
              · rename_i he
                injection h with h; subst h
                cases t with
                | true => exact way hx e1
                | false => rw [← he] at e2; exact way hy e2
              · cases h
            · cases h
        · cases h
      · cases hcb
    · cases h
  · cases h

theorem callT_ok {R : ACode → St → Option Out} (ih : ∀ c s r, R c s = some r → CodeSim P c s r) (hT : ∀ f af, T f = some (.fn af) → chkFn P f af = true)
    (hP : ∀ f g, T f = some (.prim g) → ∀ args blks r, g args blks = some r → CallOk P f args blks r) (hK : ∀ f k, T f = some (.fork k) → chkFn P f k.af = true) : SoundF P (callT T R) := by
  intro f args blks r h
  unfold callT at h
  cases hTf : T f with
  | none => rw [hTf] at h; cases h
  | some en =>
    rw [hTf] at h
    cases en with
    | prim g => exact hP f g hTf args blks r h
    | fork k =>
      dsimp only at h
      split at h
      · rename_i hnp; exact callK_ok ih (hK f k hTf) hnp h
      · cases h
    | fn af =>
      dsimp only at h
      split at h
      · rename_i hnp
        have hc := hT f af hTf
        unfold chkFn at hc
        split at hc
        · cases hc
        · rename_i fn hfn
          split at hc
          · cases hc
          · rename_i code hb
            simp only [Bool.and_eq_true, beq_iff_eq, bne_iff_ne, ne_eq] at hc
            obtain ⟨⟨⟨hname, hnt⟩, hres⟩, hcode⟩ := hc
            refine ⟨⟨fn, hfn, by simp [hb], by simpa using hname⟩, fun g w vals hinv hlen hrel => ?_⟩
            refine calls_of_wp hfn hb ?_
            have hs0 : Sim af.nt ⟨blks, g, w⟩ ⟨enum 0 args, blks⟩ { tmps := vals ++ Array.replicate (fn.ntmps - vals.size) undef, defers := [] } w := by
              refine ⟨by simp; omega, rfl, g, hinv, fun n x hx => ?_, .refl _⟩
              obtain ⟨_, hx⟩ := enum_lk hx
              rw [Nat.sub_zero] at hx
              have hlt := lt_of_get hx
              refine ⟨vals[n]'(by omega), ?_, hrel n x _ hx (Array.getElem?_eq_getElem _)⟩
              rw [Array.getElem?_append_left (by omega)]; exact Array.getElem?_eq_getElem _
            have fin : ∀ {s}, finish af blks.length s = some r → ∀ a' w', Sim af.nt ⟨blks, g, w⟩ s a' w' → a'.defers = [] ∧ ∃ v, (results fn a'.tmps).run P w' = .ok v w' ∧ ∃ v' g', Ending.returned v = .returned v' ∧
                Inv ⟨r.2, g', w'⟩ ∧ Trans ⟨blks, g, w⟩ ⟨r.2, g', w'⟩ ∧ RelA ⟨r.2, g', w'⟩ r.1 v' := by
              intro s hfin a' w' hs
              obtain ⟨q1, v, q2, g', q3, q4, q5⟩ := finish_ok hs rfl hfin hres
              exact ⟨q1, v, q2, v, g', rfl, q3, q4, q5⟩
            split at h
            · rename_i s hR
              exact (ih _ _ _ hR).get hcode hs0 fun a' w' hs => fin h a' w' hs
            · rename_i s hR
              exact (ih _ _ _ hR).get hcode hs0 fun a' w' hs => fin h a' w' hs
            · cases h
      · cases h

theorem code_ok (hmix : P.follows .mixedOrders = true) (hT : ∀ f af, T f = some (.fn af) → chkFn P f af = true)
    (hP : ∀ f g, T f = some (.prim g) → ∀ args blks r, g args blks = some r → CallOk P f args blks r) (hK : ∀ f k, T f = some (.fork k) → chkFn P f k.af = true) : ∀ c s r, X T c s = some r → CodeSim P c s r := by
  refine X_pc T _ ?_
  intro R ih c s r h
  have hF : SoundF P (callT T R) := callT_ok ih hT hP hK
  cases c with
  | skip =>
    simp only [step] at h; injection h with h; subst h
    intro N code E a w Q hc hs next
    cases code <;> simp [chkCode] at hc
    exact wp_skip (next a w hs)
  | reg d pairs ins =>
    simp only [step] at h
    split at h
    · rename_i s' hreg
      injection h with h; subst h
      intro N code E a w Q hc hs next
      cases code <;> simp only [chkCode, Bool.false_eq_true] at hc
      simp only [Bool.and_eq_true, beq_iff_eq] at hc
      obtain ⟨rfl, hc⟩ := hc
      exact reg_ok hF hmix hreg hc hs next
    · cases h
  | seq x y =>
    simp only [step] at h
    intro N code E a w Q hc hs next
    cases code <;> simp only [chkCode, Bool.false_eq_true] at hc
    simp only [Bool.and_eq_true] at hc
    refine wp_seq ?_
    split at h
    · rename_i s' hx
      refine (ih _ _ _ hx).get hc.1 hs fun a' w' hs' => ?_
      exact (ih _ _ _ h).get hc.2 hs' next
    · rename_i hne
      refine (ih _ _ _ h).get hc.1 hs fun a' w' hs' => ?_
      obtain ⟨e, s'⟩ := r
      cases e with
      | normal => exact absurd h (by simpa using hne s')
      | exit id => exact next a' w' hs'
      | ret => exact next a' w' hs'
  | cond c x y =>
    simp only [step] at h
    intro N code E a w Q hc hs next
    cases code <;> simp only [chkCode, Bool.false_eq_true] at hc
    simp only [Bool.and_eq_true] at hc
    obtain ⟨⟨hco, hx⟩, hy⟩ := hc
    have hs' := hs
    obtain ⟨_, _, g, hi, hr, _⟩ := hs'
    split at h
    · rename_i b hb
      have hrel := ev_rel (s := ⟨s.sto, g, w⟩) (env := s.env) hr hb hco
      generalize hv : a.eval _ = v at hrel
      cases hrel with
      | p _ _ hrel =>
        cases hrel with
        | b =>
          refine wp_cond hv ?_
          cases b with
          | true => exact (ih _ _ _ (by simpa using h)).get hx hs next
          | false => exact (ih _ _ _ (by simpa using h)).get hy hs next
    · rename_i hb
      have hrel := ev_rel (s := ⟨s.sto, g, w⟩) (env := s.env) hr hb hco
      generalize hv : a.eval _ = v at hrel
      cases hrel with
      | unk t =>
        refine wp_cond hv ?_
        unfold same at h
        split at h
        · rename_i r1 r2 e1 e2
          split at h
          · rename_i he
            injection h with h; subst h
            cases t with
            | true => exact (ih _ _ _ e1).get hx hs next
            | false => rw [he] at next; exact (ih _ _ _ e2).get hy hs next
          · cases h
        · cases h
    · cases h
  | block id x =>
    simp only [step] at h
    intro N code E a w Q hc hs next
    cases code <;> simp only [chkCode, Bool.false_eq_true] at hc
    simp only [Bool.and_eq_true, beq_iff_eq] at hc
    obtain ⟨rfl, hc⟩ := hc
    refine wp_block ?_
    split at h
    · rename_i k s' hx
      refine (ih _ _ _ hx).get hc hs fun a' w' hs' => ?_
      simp only [exitOf, Exit.inBlock]
      split at h
      · rename_i e
        injection h with h; subst h
        rw [if_pos e]; exact next a' w' hs'
      · rename_i e
        injection h with h; subst h
        rw [if_neg e]; exact next a' w' hs'
    · rename_i hne
      refine (ih _ _ _ h).get hc hs fun a' w' hs' => ?_
      obtain ⟨e, s'⟩ := r
      cases e with
      | normal => exact next a' w' hs'
      | exit id => exact absurd h (by simpa using hne id s')
      | ret => exact next a' w' hs'
  | loop live x =>
    simp only [step] at h
    intro N code E a w Q hc hs next
    cases code <;> simp only [chkCode, Bool.false_eq_true] at hc
    split at h
    · rename_i s' hcl
      obtain ⟨k, hk⟩ := ih _ _ _ h
      have hE : E.σ.length ≤ s.sto.length := by obtain ⟨_, _, g, _, _, ht⟩ := hs; exact ht.len
      obtain ⟨hs', hl⟩ := clean_ok hs hcl hE (Nat.le_refl _)
      exact wp_loop_rounds k (hk N _ E a w Q hc hE (by omega) hs' next)
    · cases h
  | lp n live x =>
    simp only [step] at h
    split at h
    · rename_i s' hx
      split at h
      · rename_i s'' hcl
        obtain ⟨k, hk⟩ := ih _ _ _ h
        refine ⟨k + 1, fun N code E a w Q hc hE hn hs next => ?_⟩
        rw [rounds_succ]
        obtain ⟨h1, h2, g, hi, hr, ht⟩ := hs
        have hs0 : Sim N ⟨s.sto, g, w⟩ s a w := ⟨h1, h2, g, hi, hr, .refl _⟩
        refine (ih _ _ _ hx).get hc hs0 fun a' w' hs' => ?_
        obtain ⟨q1, q2, g', qi, qr, qt⟩ := hs'
        have hlen : s.sto.length ≤ s'.sto.length := qt.len
        have hsE : Sim N E s' a' w' := ⟨q1, q2, g', qi, qr, ht.trans qt⟩
        obtain ⟨hs2, hl⟩ := clean_ok hsE hcl hE (by omega)
        exact hk N code E a' w' Q hc hE (by omega) hs2 next
      · cases h
    · rename_i hne
      refine ⟨1, fun N code E a w Q hc hE hn hs next => ?_⟩
      rw [rounds_succ]
      refine (ih _ _ _ h).get hc hs fun a' w' hs' => ?_
      obtain ⟨e, s'⟩ := r
      cases e with
      | normal => exact absurd h (by simpa using hne s')
      | exit id => exact next a' w' hs'
      | ret => exact next a' w' hs'
  | scope x =>
    simp only [step] at h
    intro N code E a w Q hc hs next
    cases code <;> simp only [chkCode, Bool.false_eq_true] at hc
    refine wp_scope_straight ((ih _ _ _ h).get hc hs fun a' w' hs' => ?_)
    have := next a' w' hs'
    obtain ⟨e, s'⟩ := r
    cases e <;> exact this
  | exit id =>
    simp only [step] at h; injection h with h; subst h
    intro N code E a w Q hc hs next
    cases code <;> simp only [chkCode, Bool.false_eq_true] at hc
    simp only [beq_iff_eq] at hc; subst hc
    exact wp_exit (next a w hs)
  | ret =>
    simp only [step] at h; injection h with h; subst h
    intro N code E a w Q hc hs next
    cases code <;> simp only [chkCode, Bool.false_eq_true] at hc
    exact wp_ret (next a w hs)
  | keep live x =>
    simp only [step] at h
    intro N code E a w Q hc hs next
    exact (ih _ _ _ h).get (by simpa only [chkCode] using hc) (hs.restr live) next
  | tidy live x =>
    simp only [step, cleanO] at h
    intro N code E a w Q hc hs next
    split at h
    · rename_i e s2 he
      split at h
      · rename_i s3 hcl
        injection h with h; subst h
        obtain ⟨h1, h2, g, hi, hr, ht⟩ := hs
        have hs0 : Sim N ⟨s.sto, g, w⟩ s a w := ⟨h1, h2, g, hi, hr, .refl _⟩
        refine (ih _ _ _ he).get (by simpa only [chkCode] using hc) hs0 fun a' w' hs' => next a' w' ?_
        obtain ⟨q1, q2, g', qi, qr, qt⟩ := hs'
        exact (clean_ok (st := s2) (st' := s3) ⟨q1, q2, g', qi, qr, ht.trans qt⟩ hcl ht.len qt.len).1
      · cases h
    · cases h
  | br live pre o x y rest =>
    simp only [step] at h
    intro N code E a w Q hc hs next
    unfold chkCode at hc
    split at hc
    · rename_i cp cq cx cy cz
      simp only [Bool.and_eq_true] at hc
      obtain ⟨⟨⟨⟨hp, ho⟩, hx⟩, hy⟩, hz⟩ := hc
      split at h
      · rename_i s1 hpre
        refine wp_seq (wp_seq ((ih _ _ _ hpre).get hp hs fun a1 w1 hs1 => ?_))
        -- one of the two ways
        have way : ∀ {c : ACode} {code : Code} {r' : Out}, chkCode P N c code = true → thn (R c s1) (fun s => R rest s) = some r' →
            ∀ {E : Sn} {a : Act} {w : World} {Q : Exit → Act → World → Prop}, Sim N E s1 a w → (∀ a' w', Sim N E r'.2 a' w' → Q (exitOf r'.1) a' w') → code.wp P (Exit.then (cz.wp P Q) Q) a w := by
          intro c code r' hc ht E a w Q hs next
          cases hR : R c s1 with
          | none => rw [hR] at ht; cases ht
          | some o =>
            obtain ⟨e, s2⟩ := o
            rw [hR] at ht
            refine (ih _ _ _ hR).get hc hs fun a' w' hs' => ?_
            cases e with
            | normal => exact (ih _ _ _ ht).get hz hs' next
            | exit id => injection ht with ht; subst ht; exact next a' w' hs'
            | ret => injection ht with ht; subst ht; exact next a' w' hs'
        have cway : ∀ {c : ACode} {code : Code}, chkCode P N c code = true → cleanO s1.sto.length live (thn (R c s1) fun s => R rest s) = some r → code.wp P (Exit.then (cz.wp P Q) Q) a1 w1 := by
          intro c code hc ht
          unfold cleanO at ht
          split at ht
          · rename_i e s2 he
            split at ht
            · rename_i s3 hcl
              injection ht with ht; subst ht
              obtain ⟨h1, h2, g, hi, hr, ht⟩ := hs1
              have hs0 : Sim N ⟨s1.sto, g, w1⟩ s1 a1 w1 := ⟨h1, h2, g, hi, hr, .refl _⟩
              refine way hc he hs0 fun a' w' hs' => next a' w' ?_
              obtain ⟨q1, q2, g', qi, qr, qt⟩ := hs'
              exact (clean_ok (st := s2) (st' := s3) ⟨q1, q2, g', qi, qr, ht.trans qt⟩ hcl ht.len qt.len).1
            · cases ht
          · cases ht
        have hs1' := hs1
        obtain ⟨_, _, g, hi, hr, _⟩ := hs1'
        simp only [exitOf, Exit.then]
        split at h
        · rename_i b hb
          have hrel := ev_rel (s := ⟨s1.sto, g, w1⟩) (env := s1.env) hr hb ho
          generalize hv : a1.eval cq = v at hrel
          cases hrel with
          | p _ _ hrel =>
            cases hrel with
            | b =>
              refine wp_cond hv ?_
              cases b with
              | true => exact way hx (by simpa using h) hs1 next
              | false => exact way hy (by simpa using h) hs1 next
        · rename_i hb
          have hrel := ev_rel (s := ⟨s1.sto, g, w1⟩) (env := s1.env) hr hb ho
          generalize hv : a1.eval cq = v at hrel
          cases hrel with
          | unk t =>
            refine wp_cond hv ?_
            unfold same at h
            split at h
            · rename_i r1 r2 e1 e2
              split at h
              · rename_i he
                injection h with h; subst h
                cases t with
                | true => exact cway hx e1
                | false => rw [← he] at e2; exact cway hy e2
              · cases h
            · cases h
        · cases h
      · cases h
    · cases hc

/-- The abstract machine's answers are the program's. -/
theorem sound (hmix : P.follows .mixedOrders = true) (hT : ∀ f af, T f = some (.fn af) → chkFn P f af = true)
    (hP : ∀ f g, T f = some (.prim g) → ∀ args blks r, g args blks = some r → CallOk P f args blks r) (hK : ∀ f k, T f = some (.fork k) → chkFn P f k.af = true) : SoundF P (AF T) :=
  callT_ok (code_ok hmix hT hP hK) hT hP hK

end
end Go.Am
