/-
  Parts of a proof.
-/
import Derived.Test.YtkopficpneehnaaM3
set_option linter.unusedSimpArgs false
set_option linter.unusedVariables false
section
namespace Go.Am
def J7P (m : Nat) (ids : List Nat) (s : TSt) : TC → Option TC
  | .ptr b p => if b < m then some (.ptr b p) else match J1Y b ids m with
    | some k => some (.ptr k p)
    | none => none
  | .slr b => if b < m then some (.slr b) else match J1Y b ids m with
    | some k => some (.slr k)
    | none => match s.sto[b]? with
      | some (.arr _ t rows) => some (.d (.l t) rows)
      | _ => none
  | .slo b n => if b < m then some (.slo b n) else match J1Y b ids m with
    | some k => some (.slo k n)
    | none => none
  | .ep b i p => if b < m then some (.ep b i p) else match J1Y b ids m with
    | some k => some (.ep k i p)
    | none => none
  | .epo b e i p => if b < m then some (.epo b e i p) else match J1Y b ids m with
    | some k => some (.epo k e i p)
    | none => none
  | x => some x
def J9g (m : Nat) (ids : List Nat) (s : TSt) : List TC → Option (List TC)
  | [] => some []
  | x :: r => match J7P m ids s x, J9g m ids s r with
    | some y, some l => some (y :: l)
    | _, _ => none
def JaF (m : Nat) (ids : List Nat) (s : TSt) : TA → Option TA
  | .c x => match J7P m ids s x with
    | some y => some (.c y)
    | none => none
  | .dt t x => some (.dt t x)
  | .m t cs => match J9g m ids s cs with
    | some l => match asm t l with
      | some x => some (.dt t x)
      | none => if l.any Jk4 = true then some (.m t l) else none
    | none => none
  | .fn f a c => match J9g m ids s a, J9g m ids s c with
    | some a, some c => some (.fn f a c)
    | _, _ => none
def Ja8 (m : Nat) (ids : List Nat) (s : TSt) : List TA → Option (List TA)
  | [] => some []
  | x :: r => match JaF m ids s x, Ja8 m ids s r with
    | some y, some l => some (y :: l)
    | _, _ => none
def JfZ (m : Nat) (ids : List Nat) (s : TSt) : TV → Option TV
  | .a x => match JaF m ids s x with
    | some y => some (.a y)
    | none => none
  | .tup vs => match Ja8 m ids s vs with
    | some l => some (.tup l)
    | none => none
def JcL (m : Nat) (ids : List Nat) (s : TSt) : TB → Option TB
  | .mbox t cs => match J9g m ids s cs with
    | some l => some (mkb t l)
    | none => none
  | x => some x
def J6a (m : Nat) (ids : List Nat) (s : TSt) : List TB → Option (List TB)
  | [] => some []
  | x :: r => match JcL m ids s x, J6a m ids s r with
    | some y, some l => some (y :: l)
    | _, _ => none
def JfO (m : Nat) (s : TSt) : List (Nat × TV) → Option (List (Nat × TV))
  | [] => some []
  | (k, x) :: r => match JfZ m [] s x, JfO m s r with
    | some y, some l => some ((k, y) :: l)
    | _, _ => none
def J3x : List Nat → List (Nat × TV) → List (Nat × TV)
  | [], _ => []
  | k :: r, env => match tlk k env with
    | some v => (k, v) :: J3x r env
    | none => J3x r env
theorem J6d (L : Nat → Nat) (env : List (Nat × TV)) : ∀ live : List Nat, restr live (J1W L env) = J1W L (J3x live env)
  | [] => rfl
  | k :: r => by
    simp only [restr, J3x, J7s]
    cases tlk k env with
    | none => exact J6d L env r
    | some v =>
      have ih := J6d L env r
      unfold J1W at ih ⊢
      simp only [Option.map_some, List.map_cons]
      rw [ih]
section
variable {m : Nat} {ids : List Nat} {s : TSt} {L' : Nat → Nat} (h1 : ∀ b, b < m → L' b = lns s.sto b) (h2 : ∀ b k, J1Y b ids m = some k → L' k = lns s.sto b)
include h1 h2
theorem Jhb {x y : TC} (h : J7P m ids s x = some y) : fin m ids (J9 s).sto (Jm (lns s.sto) x) = some (Jm L' y) := by
  cases x with
  | ptr b p =>
    simp only [J7P] at h
    simp only [Jm, fin]
    split at h
    · rename_i hb; injection h with h; subst h; rw [if_pos hb]; try rfl
    · rename_i hb
      rw [if_neg hb]
      split at h
      · rename_i k hk; injection h with h; subst h; simp only [hk, Option.map_some, Jm]
      · cases h
  | slr b =>
    simp only [J7P] at h
    simp only [Jm, fin]
    split at h
    · rename_i hb; injection h with h; subst h; rw [if_pos hb]; simp only [Jm, h1 b hb]
    · rename_i hb
      rw [if_neg hb]
      split at h
      · rename_i k hk; injection h with h; subst h; rw [hk]; simp only [Jm, h2 b k hk]
      · rename_i hk
        rw [hk]
        split at h
        · rename_i w t rows hbk
          injection h with h; subst h
          simp only [J0p, hbk, Option.map_some, JgX, J2v hbk, List.length_map, Nat.zero_add, if_true, List.drop_zero, Jm, cel, hdP]
        · cases h
  | slo b n =>
    simp only [J7P] at h
    simp only [Jm, fin]
    split at h
    · rename_i hb; injection h with h; subst h; rw [if_pos hb]; try rfl
    · rename_i hb
      rw [if_neg hb]
      split at h
      · rename_i k hk; injection h with h; subst h; simp only [hk, Option.map_some, Jm]
      · cases h
  | ep b i p =>
    simp only [J7P] at h
    simp only [Jm, fin]
    split at h
    · rename_i hb; injection h with h; subst h; rw [if_pos hb]; simp only [Jm, h1 b hb]
    · rename_i hb
      rw [if_neg hb]
      split at h
      · rename_i k hk; injection h with h; subst h; rw [hk]; simp only [Jm, h2 b k hk, Option.map_some]
      · cases h
  | epo b e i p =>
    simp only [J7P] at h
    simp only [Jm, fin]
    split at h
    · rename_i hb; injection h with h; subst h; rw [if_pos hb]; try rfl
    · rename_i hb
      rw [if_neg hb]
      split at h
      · rename_i k hk; injection h with h; subst h; simp only [hk, Option.map_some, Jm]
      · cases h
  | _ => injection h with h; subst h; rfl
theorem J7e : ∀ {xs ys : List TC}, J9g m ids s xs = some ys → fin.finL m ids (J9 s).sto (xs.map (Jm (lns s.sto))) = some (ys.map (Jm L'))
  | [], ys, h => by injection h with h; subst h; rfl
  | x :: r, ys, h => by
    simp only [J9g] at h
    split at h
    · rename_i y l hy hl
      injection h with h; subst h
      simp only [List.map_cons, fin.finL, Jhb h1 h2 hy, J7e hl]
    · cases h
theorem Jhg {x y : TA} (h : JaF m ids s x = some y) : fin m ids (J9 s).sto (J01 (lns s.sto) x) = some (J01 L' y) := by
  cases x with
  | c x =>
    simp only [JaF] at h
    split at h
    · rename_i y hy; injection h with h; subst h; exact Jhb h1 h2 hy
    · cases h
  | dt t x => injection h with h; subst h; rfl
  | m t cs =>
    simp only [JaF] at h
    split at h
    · rename_i l hl
      have e := J7e h1 h2 hl
      simp only [J01, fin, e]
      split at h
      · rename_i x hx
        injection h with h; subst h
        rw [Ja7 L' hx, J76]
      · split at h
        · rename_i hr
          injection h with h; subst h
          rw [JdZ L' hr]
        · cases h
    · cases h
  | fn f a c =>
    simp only [JaF] at h
    split at h
    · rename_i a' c' ha hc
      injection h with h; subst h
      simp only [J01, fin, J7e h1 h2 ha, J7e h1 h2 hc]
    · cases h
theorem J9N : ∀ {xs ys : List TA}, Ja8 m ids s xs = some ys → fin.finL m ids (J9 s).sto (xs.map (J01 (lns s.sto))) = some (ys.map (J01 L'))
  | [], ys, h => by injection h with h; subst h; rfl
  | x :: r, ys, h => by
    simp only [Ja8] at h
    split at h
    · rename_i y l hy hl
      injection h with h; subst h
      simp only [List.map_cons, fin.finL, Jhg h1 h2 hy, J9N hl]
    · cases h
theorem Jnb {x y : TV} (h : JfZ m ids s x = some y) : fin m ids (J9 s).sto (Jl (lns s.sto) x) = some (Jl L' y) := by
  cases x with
  | a x =>
    simp only [JfZ] at h
    split at h
    · rename_i y hy; injection h with h; subst h; exact Jhg h1 h2 hy
    · cases h
  | tup vs =>
    simp only [JfZ] at h
    split at h
    · rename_i l hl
      injection h with h; subst h
      simp only [Jl, fin, J9N h1 h2 hl]
    · cases h
theorem JmJ {x y : TB} (h : JcL m ids s x = some y) : J2g m ids (J9 s).sto (JC (lns s.sto) x) = some (JC L' y) := by
  cases x with
  | mbox t cs =>
    simp only [JcL] at h
    split at h
    · rename_i l hl
      injection h with h; subst h
      simp only [J8j, J2g, J7e h1 h2 hl, JaJ]
    · cases h
  | box t x =>
    injection h with h; subst h
    simp only [J8e, J2g, JeW]
  | _ => injection h with h; subst h; rfl
theorem J7B : ∀ {xs ys : List TB}, J6a m ids s xs = some ys → J65 m ids (J9 s).sto (xs.map (JC (lns s.sto))) = some (ys.map (JC L'))
  | [], ys, h => by injection h with h; subst h; rfl
  | x :: r, ys, h => by
    simp only [J6a] at h
    split at h
    · rename_i y l hy hl
      injection h with h; subst h
      simp only [List.map_cons, J65, JmJ h1 h2 hy, J7B hl]
    · cases h
end
theorem JlB {m : Nat} {ids : List Nat} {s : TSt} {x y : TB} (h : JcL m ids s x = some y) : lnB y = lnB x := by
  cases x with
  | mbox t cs =>
    simp only [JcL] at h
    split at h
    · injection h with h; subst h; exact JaN _ _
    · cases h
  | _ => injection h with h; subst h; rfl
theorem J6P {m : Nat} {ids : List Nat} {s : TSt} : ∀ {xs ys : List TB}, J6a m ids s xs = some ys → ys.length = xs.length ∧ ∀ (k : Nat), lns ys k = lns xs k
  | [], ys, h => by injection h with h; subst h; exact ⟨rfl, fun _ => rfl⟩
  | x :: r, ys, h => by
    simp only [J6a] at h
    split at h
    · rename_i y l hy hl
      injection h with h; subst h
      obtain ⟨q1, q2⟩ := J6P hl
      refine ⟨by simp [q1], fun k => ?_⟩
      cases k with
      | zero => exact JlB hy
      | succ k => exact q2 k
    · cases h
theorem Jhm {m : Nat} {s : TSt} {L' : Nat → Nat} (h1 : ∀ b, b < m → L' b = lns s.sto b) : ∀ {env env' : List (Nat × TV)}, JfO m s env = some env' → Ja4 m (J9 s).sto (J1W (lns s.sto) env) = some (J1W L' env')
  | [], env', h => by injection h with h; subst h; rfl
  | (k, x) :: r, env', h => by
    simp only [JfO] at h
    split at h
    · rename_i y l hy hl
      injection h with h; subst h
      simp only [J1W, List.map_cons, Ja4]
      rw [Jnb (ids := []) h1 (fun b k hk => by cases hk) hy]
      have ih := Jhm h1 hl
      unfold J1W at ih
      rw [ih]
    · cases h
def J4D (n : Nat) (live : List Nat) (s : TSt) : Option TSt :=
  if s.sto.length = n then some ⟨J3x live s.env, s.sto⟩
  else match JfO n s (J3x live s.env), J6a n [] s (s.sto.take n) with
    | some e, some l => some ⟨e, l⟩
    | _, _ => none
theorem J57 {n : Nat} {live : List Nat} {s s' : TSt} (h : J4D n live s = some s') : clean n live (J9 s) = some (J9 s') := by
  unfold J4D at h
  have hlen : (J9 s).sto.length = s.sto.length := by simp [J9]
  split at h
  · rename_i hn
    injection h with h; subst h
    unfold clean
    rw [hlen, if_pos hn]
    congr 1
    unfold J9
    simp only [J6d]
  · rename_i hn
    split at h
    · rename_i e l he hl
      injection h with h; subst h
      obtain ⟨q1, q2⟩ := J6P hl
      have hL : ∀ b, b < n → lns l b = lns s.sto b := fun b hb => by
        rw [q2]
        unfold lns
        rw [List.getElem?_take_of_lt hb]
      unfold clean
      rw [hlen, if_neg hn]
      have e1 := Jhm hL he
      have e2 := J7B (ids := []) hL (fun b k hk => by cases hk) hl
      have e3 : restr live (J9 s).env = J1W (lns s.sto) (J3x live s.env) := J6d _ _ _
      have e4 : (J9 s).sto.take n = (s.sto.take n).map (JC (lns s.sto)) := by unfold J9; rw [List.map_take]
      rw [e3, e1, e4, e2]
      rfl
    · cases h
inductive Jej where
  | tmp (t : Nat)
  | cell (t : Nat) (agg : Bool) (ty : Ty)
def erR : Jej → Ja3
  | .tmp t => .tmp t
  | .cell t agg ty => .cell t agg ty.sz
def JjA (agg : Bool) (ty : Ty) (v : TV) (s : TSt) : Option TA :=
  if agg = true ∨ ty.sz = 1 then
    match v with
    | .a (.c (.ptr b [])) => match s.sto[b]? with
      | some (.box t0 x) => if h : t0 = ty then (if agg = true then some (.dt ty (h ▸ x)) else some (.c (.d ty (h ▸ x)))) else none
      | some (.mbox _ cs) => if cs.length = ty.sz then
          match mka agg ty cs with
          | some (.a x) => some x
          | _ => none
        else none
      | _ => none
    | _ => none
  else none
theorem JmD {agg : Bool} {ty : Ty} {v : TV} {s : TSt} {x : TA} (h : JjA agg ty v s = some x) : ∃ e, (J1U agg ty.sz (Jl (lns s.sto) v)).run (J9 s) = some e ∧ e.val = J01 (lns s.sto) x := by
  unfold JjA at h
  split at h
  · rename_i ha
    split at h
    · rename_i b
      split at h
      · rename_i t0 y hb
        split at h
        · rename_i h0
          subst h0
          refine ⟨⟨J01 (lns s.sto) x, []⟩, ?_, rfl⟩
          have hc : J1E agg ((cel t0 y).map .p) = J1V agg (cel t0 y) := by
            unfold J1E J1V
            split
            · rw [J76]
            · cases hcel : cel t0 y with
              | nil => rfl
              | cons a l => cases l <;> rfl
          have he : sub (cel t0 y) 0 t0.sz = some (cel t0 y) := Je7 (J05 _ _)
          have hm := J8i (lns s.sto) ha y
          simp only [J3p, spo, J1U, J0g, J0p, hb, Option.map_some, Option.bind_some, J8e, J5O, he, hc, hm, val, Je]
          unfold mkv
          split at h
          · rename_i h1; injection h with h; subst h; rw [if_pos h1]; rfl
          · rename_i h1; injection h with h; subst h; rw [if_neg h1]; rfl
        · cases h
      · rename_i cs hb
        split at h
        · rename_i hn
          split at h
          · rename_i y hy
            injection h with h; subst h
            have he : sub cs 0 ty.sz = some cs := Je7 hn
            refine ⟨⟨J01 (lns s.sto) y, []⟩, ?_, rfl⟩
            simp only [J3p, spo, J1U, J0g, J0p, hb, Option.map_some, Option.bind_some, J8j, J5O, he, J8w (lns s.sto) hy, val, Je]
            rfl
          · cases h
        · cases h
      · cases h
    · cases h
  · cases h
def JdV : List Jej → TSt → Option (List TA)
  | [], _ => some []
  | .tmp t :: r, s => match tlk t s.env, JdV r s with
    | some (.a x), some l => some (x :: l)
    | _, _ => none
  | .cell t agg ty :: r, s => match tlk t s.env with
    | some v => match JjA agg ty v s, JdV r s with
      | some x, some l => some (x :: l)
      | _, _ => none
    | none => none
theorem JiD (s : TSt) (t : Nat) : (RM.slot t RM.ret).run (J9 s) = (tlk t s.env).map (Jl (lns s.sto)) := by
  rw [J3U]
  show (lk t (J1W _ s.env)).bind _ = _
  rw [J7s]
  cases tlk t s.env <;> rfl
theorem Je6 {s : TSt} : ∀ {rs : List Jej} {l : List TA}, JdV rs s = some l → (J6p (rs.map erR)).run (J9 s) = some (l.map (J01 (lns s.sto)))
  | [], l, h => by injection h with h; subst h; rfl
  | .tmp t :: r, l, h => by
    simp only [JdV] at h
    split at h
    · rename_i x l' hx hl
      injection h with h; subst h
      simp only [List.map_cons, erR, J6p, run_bind, JiD, hx, Option.map_some, Option.bind_some, Je6 hl, Je]
      rfl
    · cases h
  | .cell t agg ty :: r, l, h => by
    simp only [JdV] at h
    split at h
    · rename_i v hv
      split at h
      · rename_i x l' hx hl
        injection h with h; subst h
        obtain ⟨e, q1, q2⟩ := JmD hx
        simp only [List.map_cons, erR, J6p, run_bind, JiD, hv, Option.map_some, Option.bind_some, q1, Je6 hl, Je, q2]
      · cases h
    · cases h
def Jdl (s : TSt) : List Nat → List Nat → Option (List Nat)
  | [], acc => some acc
  | b :: r, acc => match s.sto[b]? with
    | some (.mbox _ cs) => match J7y cs acc with
      | some acc => Jdl s r acc
      | none => none
    | some _ => Jdl s r acc
    | none => none
theorem J98 {s : TSt} : ∀ {r acc l : List Nat}, Jdl s r acc = some l → J66 (J9 s).sto (r.map .whole) (acc.map .whole) = l.map .whole
  | [], acc, l, h => by injection h with h; subst h; rfl
  | b :: r, acc, l, h => by
    simp only [Jdl] at h
    split at h
    · rename_i cs hb
      split at h
      · rename_i acc' ha
        simp only [List.map_cons, J66, J0p, hb, Option.map_some, J8j, J5Y (lns s.sto) ha]
        exact J98 h
      · cases h
    · rename_i x hn hb
      simp only [List.map_cons, J66, J0p, hb, Option.map_some]
      cases x with
      | mbox t cs => exact absurd rfl (hn t cs)
      | box t x =>
        simp only [J8e]
        rw [JeU]
        exact J98 h
      | _ => exact J98 h
    · cases h
def J1S (m : Nat) (fresh : Bool) (s : TSt) : List Nat → List Nat
  | [] => []
  | b :: r => if b < m then J1S m fresh s r else
    match s.sto[b]? with
    | some (.box _ _) => b :: J1S m fresh s r
    | some (.mbox _ _) => b :: J1S m fresh s r
    | some (.arr _ _ _) => if fresh = true then b :: J1S m fresh s r else J1S m fresh s r
    | _ => J1S m fresh s r
theorem Jcx {m : Nat} {fresh : Bool} {s : TSt} : ∀ r : List Nat, J22 m fresh (J9 s).sto (r.map .whole) = J1S m fresh s r
  | [] => rfl
  | b :: r => by
    simp only [List.map_cons, J22, J1S, J0p]
    rw [Jcx r]
    split
    · rfl
    · cases s.sto[b]? with
      | none => rfl
      | some x => cases x <;> rfl
def JfR (s : TSt) : List Nat → Option (List TB)
  | [] => some []
  | b :: r => match s.sto[b]?, JfR s r with
    | some x, some l => some (x :: l)
    | _, _ => none
theorem Jhr {s : TSt} : ∀ {ids : List Nat} {l : List TB}, JfR s ids = some l → J7G (J9 s).sto ids = some (l.map (JC (lns s.sto))) ∧ l.length = ids.length ∧ ∀ (j b : Nat), ids[j]? = some b → lns l j = lns s.sto b
  | [], l, h => by injection h with h; subst h; exact ⟨rfl, rfl, fun j b h => by simp at h⟩
  | b :: r, l, h => by
    simp only [JfR] at h
    split at h
    · rename_i x l' hx hl
      injection h with h; subst h
      obtain ⟨q1, q2, q3⟩ := Jhr hl
      refine ⟨by simp only [J7G, J0p, hx, Option.map_some, q1, List.map_cons], by simp [q2], fun j c hj => ?_⟩
      cases j with
      | zero =>
        simp at hj; subst hj
        unfold lns
        rw [hx]; rfl
      | succ j => exact q3 j c (by simpa using hj)
    · cases h
def Jgz : List TA → TV
  | [x] => .a x
  | l => .tup l
theorem JiA (L : Nat → Nat) (l : List TA) : one (l.map (J01 L)) = Jl L (Jgz l) := by
  match l with
  | [] => rfl
  | [x] => rfl
  | x :: y :: r => rfl
section
variable {R : Type}
def J8l (res : List Jej) (fresh : Bool) (m : Nat) (s : TSt) (E : TV → List TB → Option R) : Option R :=
  match JdV res s with
  | none => none
  | some vs =>
    if s.sto.length = m then E (Jgz vs) s.sto
    else match J8s vs [] with
      | none => none
      | some i0 => match Jdl s i0 i0 with
        | none => none
        | some i1 => if J23 (J1S m fresh s i1) = true ∧ m ≤ s.sto.length then
            match Ja8 m (J1S m fresh s i1) s vs, J6a m (J1S m fresh s i1) s (s.sto.take m), JfR s (J1S m fresh s i1) with
            | some ws, some l, some q => match J6a m (J1S m fresh s i1) s q with
              | some q' => E (Jgz ws) (l ++ q')
              | none => none
            | _, _, _ => none
          else none
theorem Jkp {f : AFn} {res : List Jej} {fresh : Bool} {m : Nat} {s : TSt} {E : TV → List TB → Option R} {r : R} (hres : f.res = res.map erR) (hfr : f.fresh = fresh) (h : J8l res fresh m s E = some r) :
    ∃ v out, J1u f m (J9 s) = some (Jl (lns out) v, out.map (JC (lns out))) ∧ E v out = some r := by
  unfold J8l at h
  have hlen : (J9 s).sto.length = s.sto.length := by simp [J9]
  split at h
  · cases h
  · rename_i vs hvs
    have e0 := Je6 hvs
    split at h
    · rename_i hn
      refine ⟨Jgz vs, s.sto, ?_, h⟩
      unfold J1u
      rw [hres, e0]
      dsimp only
      rw [hlen, if_pos hn, JiA]
      rfl
    · rename_i hn
      split at h
      · cases h
      · rename_i i0 hi0
        split at h
        · cases h
        · rename_i i1 hi1
          split at h
          · rename_i hnd0
            obtain ⟨hnd, hm⟩ := hnd0
            generalize hids : J1S m fresh s i1 = ids at *
            split at h
            · rename_i ws l q hws hl hq
              split at h
              · rename_i q' hq'
                refine ⟨Jgz ws, l ++ q', ?_, h⟩
                obtain ⟨l1, l2⟩ := J6P hl
                obtain ⟨p1, p2, p3⟩ := Jhr hq
                obtain ⟨r1, r2⟩ := J6P hq'
                have hll : l.length = m := by rw [l1, List.length_take]; omega
                have h1 : ∀ b, b < m → lns (l ++ q') b = lns s.sto b := fun b hb => by
                  have := l2 b
                  unfold lns at this ⊢
                  rw [List.getElem?_append_left (by omega), this, List.getElem?_take_of_lt hb]
                have h2 : ∀ b k, J1Y b ids m = some k → lns (l ++ q') k = lns s.sto b := fun b k hk => by
                  obtain ⟨hk1, hk2⟩ := J7S hk
                  have := r2 (k - m)
                  rw [p3 (k - m) b hk2] at this
                  rw [← this]
                  unfold lns
                  rw [List.getElem?_append_right (by omega), hll]
                have e1 := J9N h1 h2 hws
                have e2 := J7B h1 h2 hl
                have e3 := J7B h1 h2 hq'
                have e4 : JM.entsOfL (vs.map (J01 (lns s.sto))) [] = i0.map .whole := J7Q (lns s.sto) (l := []) hi0
                have e5 := J98 hi1
                have e6 := Jcx (m := m) (fresh := fresh) (s := s) i1
                rw [hids] at e6
                have e7 : (J9 s).sto.take m = (s.sto.take m).map (JC (lns s.sto)) := by unfold J9; rw [List.map_take]
                unfold J1u
                rw [hres, e0]
                dsimp only
                rw [hlen, if_neg hn, e4, e5, hfr, e6]
                simp only [hnd, if_true, e1, e7, e2, p1, e3, List.map_append, JiA]
              · cases h
            · cases h
          · cases h
end
end Go.Am
end
section
namespace Go.Am
inductive ShC where
  | d (t : Ty)
  | sc (t : Ty)
  | np
  | nf
  | un
  | ptr (b : Nat) (p : List Sp)
  | cp (t : Ty) (p : List Sp)
  | slr (b : Nat)
  | fn (f : FuncId)
  deriving DecidableEq
inductive ShA where
  | c (x : ShC)
  | dt (t : Ty)
  | m (t : Ty) (cs : List ShC)
  | fn (f : FuncId) (a c : List ShC)
  deriving DecidableEq
inductive ShV where
  | a (x : ShA)
  | tup (vs : List ShA)
  deriving DecidableEq
inductive ShB where
  | dead
  | box (t : Ty)
  | mbox (t : Ty) (cs : List ShC)
  | arr (w : Bool) (t : Ty)
  deriving DecidableEq
structure ShS where
  env : List (Nat × ShV)
  sto : List ShB
  deriving DecidableEq
abbrev Lf := (t : Ty) × t.D
def shC : TC → Option (ShC × List Lf)
  | .d t x => some (.d t, [⟨t, x⟩])
  | .sc t rows => some (.sc t, [⟨.l t, rows⟩])
  | .np => some (.np, [])
  | .nf => some (.nf, [])
  | .un => some (.un, [])
  | .ptr b p => if (J8R p).isSome = true then some (.ptr b p, []) else none
  | .cp t x p => if (J8R p).isSome = true then some (.cp t p, [⟨t, x⟩]) else none
  | .slr b => some (.slr b, [])
  | .fn f => some (.fn f, [])
  | _ => none
def lf1 (t : Ty) (l : List Lf) : Option (t.D × List Lf) :=
  match l with
  | ⟨t', x⟩ :: r => if h : t' = t then some (h ▸ x, r) else none
  | [] => none
def mkC : ShC → List Lf → Option (TC × List Lf)
  | .d t, l => match lf1 t l with
    | some (x, r) => some (.d t x, r)
    | none => none
  | .sc t, l => match lf1 (.l t) l with
    | some (x, r) => some (.sc t x, r)
    | none => none
  | .np, l => some (.np, l)
  | .nf, l => some (.nf, l)
  | .un, l => some (.un, l)
  | .ptr b p, l => some (.ptr b p, l)
  | .cp t p, l => match lf1 t l with
    | some (x, r) => some (.cp t x p, r)
    | none => none
  | .slr b, l => some (.slr b, l)
  | .fn f, l => some (.fn f, l)
theorem Jam (t : Ty) (x : t.D) (r : List Lf) : lf1 t (⟨t, x⟩ :: r) = some (x, r) := by simp [lf1]
theorem Jaw {x : TC} {sh : ShC} {ls : List Lf} (h : shC x = some (sh, ls)) (rest : List Lf) : mkC sh (ls ++ rest) = some (x, rest) := by
  cases x <;> simp only [shC] at h <;> first
    | (split at h
       · simp only [Option.some.injEq, Prod.mk.injEq] at h
         obtain ⟨rfl, rfl⟩ := h
         simp only [List.cons_append, List.nil_append, mkC, Jam]
       · cases h)
    | (simp only [Option.some.injEq, Prod.mk.injEq] at h
       obtain ⟨rfl, rfl⟩ := h
       simp only [List.cons_append, List.nil_append, mkC, Jam])
    | cases h
def shL {α σ : Type} (f : α → Option (σ × List Lf)) : List α → Option (List σ × List Lf)
  | [] => some ([], [])
  | x :: r => match f x, shL f r with
    | some (s, l), some (q, k) => some (s :: q, l ++ k)
    | _, _ => none
def mkL {α σ : Type} (g : σ → List Lf → Option (α × List Lf)) : List σ → List Lf → Option (List α × List Lf)
  | [], l => some ([], l)
  | s :: r, l => match g s l with
    | some (x, l) => match mkL g r l with
      | some (q, l) => some (x :: q, l)
      | none => none
    | none => none
theorem J45 {α σ : Type} {f : α → Option (σ × List Lf)} {g : σ → List Lf → Option (α × List Lf)} (hfg : ∀ {x : α} {s : σ} {ls : List Lf}, f x = some (s, ls) → ∀ rest, g s (ls ++ rest) = some (x, rest)) :
    ∀ {xs : List α} {ss : List σ} {ls : List Lf}, shL f xs = some (ss, ls) → ∀ rest, mkL g ss (ls ++ rest) = some (xs, rest)
  | [], ss, ls, h, rest => by injection h with h; injection h with h1 h2; subst h1 h2; rfl
  | x :: r, ss, ls, h, rest => by
    simp only [shL] at h
    split at h
    · rename_i s l q k h1 h2
      injection h with h; injection h with h3 h4; subst h3 h4
      simp only [mkL, List.append_assoc, hfg h1, J45 hfg h2]
    · cases h
def shA : TA → Option (ShA × List Lf)
  | .c x => match shC x with
    | some (s, l) => some (.c s, l)
    | none => none
  | .dt t x => some (.dt t, [⟨t, x⟩])
  | .m t cs => match shL shC cs with
    | some (s, l) => some (.m t s, l)
    | none => none
  | .fn f a c => match shL shC a, shL shC c with
    | some (s, l), some (q, k) => some (.fn f s q, l ++ k)
    | _, _ => none
def mkA : ShA → List Lf → Option (TA × List Lf)
  | .c s, l => match mkC s l with
    | some (x, l) => some (.c x, l)
    | none => none
  | .dt t, l => match lf1 t l with
    | some (x, l) => some (.dt t x, l)
    | none => none
  | .m t s, l => match mkL mkC s l with
    | some (x, l) => some (.m t x, l)
    | none => none
  | .fn f a c, l => match mkL mkC a l with
    | some (x, l) => match mkL mkC c l with
      | some (y, l) => some (.fn f x y, l)
      | none => none
    | none => none
theorem JhT {x : TA} {sh : ShA} {ls : List Lf} (h : shA x = some (sh, ls)) (rest : List Lf) : mkA sh (ls ++ rest) = some (x, rest) := by
  cases x with
  | c x =>
    simp only [shA] at h
    split at h
    · rename_i s l h1
      injection h with h; injection h with h2 h3; subst h2 h3
      simp only [mkA, Jaw h1]
    · cases h
  | dt t x =>
    injection h with h; injection h with h2 h3; subst h2 h3
    simp only [mkA, List.cons_append, List.nil_append, Jam]
  | m t cs =>
    simp only [shA] at h
    split at h
    · rename_i s l h1
      injection h with h; injection h with h2 h3; subst h2 h3
      simp only [mkA, J45 Jaw h1]
    · cases h
  | fn f a c =>
    simp only [shA] at h
    split at h
    · rename_i s l q k h1 h2
      injection h with h; injection h with h3 h4; subst h3 h4
      simp only [mkA, List.append_assoc, J45 Jaw h1, J45 Jaw h2]
    · cases h
def shV : TV → Option (ShV × List Lf)
  | .a x => match shA x with
    | some (s, l) => some (.a s, l)
    | none => none
  | .tup vs => match shL shA vs with
    | some (s, l) => some (.tup s, l)
    | none => none
def mkV : ShV → List Lf → Option (TV × List Lf)
  | .a s, l => match mkA s l with
    | some (x, l) => some (.a x, l)
    | none => none
  | .tup s, l => match mkL mkA s l with
    | some (x, l) => some (.tup x, l)
    | none => none
theorem Jlm {x : TV} {sh : ShV} {ls : List Lf} (h : shV x = some (sh, ls)) (rest : List Lf) : mkV sh (ls ++ rest) = some (x, rest) := by
  cases x with
  | a x =>
    simp only [shV] at h
    split at h
    · rename_i s l h1
      injection h with h; injection h with h2 h3; subst h2 h3
      simp only [mkV, JhT h1]
    · cases h
  | tup vs =>
    simp only [shV] at h
    split at h
    · rename_i s l h1
      injection h with h; injection h with h2 h3; subst h2 h3
      simp only [mkV, J45 JhT h1]
    · cases h
def shB : TB → Option (ShB × List Lf)
  | .dead => some (.dead, [])
  | .box t x => some (.box t, [⟨t, x⟩])
  | .mbox t cs => match shL shC cs with
    | some (s, l) => some (.mbox t s, l)
    | none => none
  | .arr w t rows => some (.arr w t, [⟨.l t, rows⟩])
def mkB : ShB → List Lf → Option (TB × List Lf)
  | .dead, l => some (.dead, l)
  | .box t, l => match lf1 t l with
    | some (x, l) => some (.box t x, l)
    | none => none
  | .mbox t s, l => match mkL mkC s l with
    | some (x, l) => some (.mbox t x, l)
    | none => none
  | .arr w t, l => match lf1 (.l t) l with
    | some (x, l) => some (.arr w t x, l)
    | none => none
theorem JgH {x : TB} {sh : ShB} {ls : List Lf} (h : shB x = some (sh, ls)) (rest : List Lf) : mkB sh (ls ++ rest) = some (x, rest) := by
  cases x with
  | dead => injection h with h; injection h with h2 h3; subst h2 h3; rfl
  | box t x => injection h with h; injection h with h2 h3; subst h2 h3; simp only [mkB, List.cons_append, List.nil_append, Jam]
  | mbox t cs =>
    simp only [shB] at h
    split at h
    · rename_i s l h1
      injection h with h; injection h with h2 h3; subst h2 h3
      simp only [mkB, J45 Jaw h1]
    · cases h
  | arr w t rows => injection h with h; injection h with h2 h3; subst h2 h3; simp only [mkB, List.cons_append, List.nil_append, Jam]
def shE (x : Nat × TV) : Option ((Nat × ShV) × List Lf) := match shV x.2 with
  | some (s, l) => some ((x.1, s), l)
  | none => none
def mkE (x : Nat × ShV) (l : List Lf) : Option ((Nat × TV) × List Lf) := match mkV x.2 l with
  | some (v, l) => some ((x.1, v), l)
  | none => none
theorem JpY {x : Nat × TV} {sh : Nat × ShV} {ls : List Lf} (h : shE x = some (sh, ls)) (rest : List Lf) : mkE sh (ls ++ rest) = some (x, rest) := by
  unfold shE at h
  split at h
  · rename_i s l h1
    injection h with h; injection h with h2 h3; subst h2 h3
    simp only [mkE, Jlm h1]
  · cases h
def shS (s : TSt) : Option (ShS × List Lf) := match shL shE s.env, shL shB s.sto with
  | some (a, l), some (c, k) => some (⟨a, c⟩, l ++ k)
  | _, _ => none
def Jae (s : ShS) (l : List Lf) : Option TSt := match mkL mkE s.env l with
  | some (a, l) => match mkL mkB s.sto l with
    | some (c, []) => some ⟨a, c⟩
    | _ => none
  | none => none
theorem JiN {x : TSt} {sh : ShS} {ls : List Lf} (h : shS x = some (sh, ls)) : Jae sh ls = some x := by
  unfold shS at h
  split at h
  · rename_i a l c k h1 h2
    injection h with h; injection h with h3 h4; subst h3 h4
    have e := J45 JgH h2 []
    rw [List.append_nil] at e
    simp only [Jae, J45 JpY h1, e]
  · cases h
def tyL : List Ty → Ty
  | [] => .u
  | [t] => t
  | t :: t' :: r => .pr t (tyL (t' :: r))
def Jc8 : (ls : List Lf) → (tyL (ls.map (·.1))).D
  | [] => ()
  | [x] => x.2
  | x :: y :: r => (x.2, Jc8 (y :: r))
def J4E : (ts : List Ty) → (tyL ts).D → List Lf
  | [], _ => []
  | [t], x => [⟨t, x⟩]
  | t :: t' :: r, x => ⟨t, x.1⟩ :: J4E (t' :: r) x.2
theorem J9G : ∀ ls : List Lf, J4E (ls.map (·.1)) (Jc8 ls) = ls
  | [] => rfl
  | [x] => rfl
  | x :: y :: r => by
    have := J9G (y :: r)
    show ⟨x.1, x.2⟩ :: J4E ((y :: r).map (·.1)) (Jc8 (y :: r)) = _
    rw [this]
def asL (ts : List Ty) (ls : List Lf) : Option (tyL ts).D := if h : ls.map (·.1) = ts then some (h ▸ Jc8 ls) else none
theorem JgR {ts : List Ty} {ls : List Lf} {x : (tyL ts).D} (h : asL ts ls = some x) : J4E ts x = ls := by
  unfold asL at h
  split at h
  · rename_i h0; subst h0
    injection h with h; subst h
    exact J9G ls
  · cases h
def Jeq (sh : ShS) (ts : List Ty) (s : TSt) : Option (tyL ts).D := match shS s with
  | some (sh', ls) => if sh' = sh then asL ts ls else none
  | none => none
theorem Jjg {sh : ShS} {ts : List Ty} {s : TSt} {x : (tyL ts).D} (h : Jeq sh ts s = some x) : Jae sh (J4E ts x) = some s := by
  unfold Jeq at h
  split at h
  · rename_i sh' ls hs
    split at h
    · rename_i e; subst e
      rw [JgR h]; exact JiN hs
    · cases h
  · cases h
inductive TCo where
  | skip
  | bad
  | reg (draw : Bool) (pairs : List (Nat × Nat)) (ins : List J4Y)
  | seq (a b : TCo)
  | cond (c : TO) (a b : TCo)
  | block (id : Nat) (c : TCo)
  | loop (live : List Nat) (c : TCo)
  | scope (c : TCo)
  | exit (id : Nat)
  | ret
  | keep (live : List Nat) (c : TCo)
  | tidy (live : List Nat) (c : TCo)
  | jn (sh : ShS) (ts : List Ty) (a b : TCo)
def erc : TCo → JT
  | .skip => .skip
  | .bad => .bad
  | .reg d p ins => .reg d p (ins.map eri)
  | .seq a b => .seq (erc a) (erc b)
  | .cond c a b => .cond (erO c) (erc a) (erc b)
  | .block id c => .block id (erc c)
  | .loop live c => .loop live (erc c)
  | .scope c => .scope (erc c)
  | .exit id => .exit id
  | .ret => .ret
  | .keep live c => .keep live (erc c)
  | .tidy live c => .tidy live (erc c)
  | .jn sh _ a b => .seq (erc a) (.keep (sh.env.map (·.1)) (erc b))
structure TK (R : Type) where
  n : TSt → Option R
  x : Nat → TSt → Option R
  r : TSt → Option R
def TK.at' {R : Type} (K : TK R) : AX → TSt → Option R
  | .normal => K.n
  | .exit i => K.x i
  | .ret => K.r
def rbO (c : TO) (v : Bool) (s : TSt) : TSt := match c with
  | .t n => rb n (vb v) s
  | .c _ => s
def jnO {σ R : Type} (m : Option (σ ⊕ R)) (f : σ → Option R) : Option R := match m with
  | some (.inl x) => f x
  | some (.inr r) => some r
  | none => none
def inl? {σ R : Type} (m : Option σ) : Option (σ ⊕ R) := match m with
  | some x => some (.inl x)
  | none => none
def onO {α R : Type} (m : Option α) (k : α → Option R) : Option R := match m with
  | some x => k x
  | none => none
theorem J2V {α R : Type} {m : Option α} {k : α → Option R} {r : R} (h : onO m k = some r) : ∃ x, m = some x ∧ k x = some r := by
  cases m with
  | none => cases h
  | some x => exact ⟨x, rfl, h⟩
def JjP {R : Type} (clean : TSt → Option TSt) (body : (TSt → Option R) → TSt → Option R) : Nat → TSt → Option R
  | 0, _ => none
  | k + 1, s => body (fun s' => onO (clean s') (JjP clean body k)) s
def orO {σ R : Type} (m : Option σ) (f : Unit → Option R) : Option (σ ⊕ R) := match m with
  | some x => some (.inl x)
  | none => (f ()).map .inr
noncomputable def trc (G : TG) : TCo → (R : Type) → TK R → TSt → Option R
  | .skip, _, K, s => K.n s
  | .bad, _, _, _ => none
  | .reg _ p ins, _, K, s => Jme G p ins s K.n
  | .seq a b, R, K, s => trc G a R ⟨fun s => trc G b R K s, K.x, K.r⟩ s
  | .cond c a b, R, K, s => match tev c s with
    | some (.a (.c (.d .b x))) => if x = true then trc G a R K (rbO c true s) else trc G b R K (rbO c false s)
    | _ => none
  | .block id c, R, K, s => trc G c R ⟨K.n, fun i s => if i = id then K.n s else K.x i s, K.r⟩ s
  | .loop live c, R, K, s => onO (shS ⟨J3x live s.env, s.sto⟩) fun (sh, ls) =>
      J0W (fun x : (tyL (ls.map (·.1))).D => onO (Jae sh (J4E (ls.map (·.1)) x)) fun s1 =>
        trc G c ((tyL (ls.map (·.1))).D ⊕ R) ⟨fun s' => onO (J4D s.sto.length live s') fun s' => orO (Jeq sh (ls.map (·.1)) s') fun _ => JjP (J4D s.sto.length live) (fun again s => trc G c R ⟨again, K.x, K.r⟩ s) 3 s', fun i s' => (K.x i s').map .inr, fun s' => (K.r s').map .inr⟩ s1) (Jc8 ls)
  | .scope c, R, K, s => trc G c R K s
  | .exit id, _, K, s => K.x id s
  | .ret, _, K, s => K.r s
  | .keep live c, R, K, s => trc G c R K ⟨J3x live s.env, s.sto⟩
  | .tidy live c, R, K, s => trc G c R ⟨fun s' => onO (J4D s.sto.length live s') K.n, fun i s' => onO (J4D s.sto.length live s') (K.x i), fun s' => onO (J4D s.sto.length live s') K.r⟩ s
  | .jn sh ts a b, R, K, s => jnO (trc G a ((tyL ts).D ⊕ R) ⟨fun s' => inl? (Jeq sh ts ⟨J3x (sh.env.map (·.1)) s'.env, s'.sto⟩), fun i s' => (K.x i s').map .inr, fun s' => (K.r s').map .inr⟩ s)
      fun x => onO (Jae sh (J4E ts x)) fun s1 => trc G b R K s1
theorem JbL (live : List Nat) (s : TSt) : J9 ⟨J3x live s.env, s.sto⟩ = ⟨restr live (J9 s).env, (J9 s).sto⟩ := by
  unfold J9
  simp only [J6d]
theorem JlG {c : TO} {x : Bool} {s : TSt} (h : tev c s = some (vb x)) : rbO c x s = s := by
  cases c with
  | t n => exact JhR h
  | c v => rfl
theorem Jmt {σ R : Type} {m : Option σ} {o : σ ⊕ R} (h : inl? m = some o) : ∃ x, m = some x ∧ o = .inl x := by
  cases m with
  | none => cases h
  | some x => injection h with h; exact ⟨x, rfl, h.symm⟩
theorem J2E {T : J1y} {G : TG} (hG : GOk (AF T) G) : ∀ {c : TCo} {R : Type} {K : TK R} {s : TSt} {r : R}, trc G c R K s = some r → ∃ o s', X T (erc c) (J9 s) = some (o, J9 s') ∧ K.at' o s' = some r
  | .skip, R, K, s, r, h => ⟨.normal, s, by rw [erc, JqH], h⟩
  | .bad, R, K, s, r, h => by cases h
  | .reg d p ins, R, K, s, r, h => by
    obtain ⟨s', h1, h2⟩ := Joq hG h
    exact ⟨.normal, s', by rw [erc, JnZ, h1]; rfl, h2⟩
  | .seq a b, R, K, s, r, h => by
    obtain ⟨o, s1, h1, h2⟩ := J2E hG (c := a) h
    rw [erc, Jo3, h1]
    cases o with
    | normal =>
      obtain ⟨o, s2, h3, h4⟩ := J2E hG (c := b) h2
      exact ⟨o, s2, h3, h4⟩
    | exit i => exact ⟨.exit i, s1, rfl, h2⟩
    | ret => exact ⟨.ret, s1, rfl, h2⟩
  | .cond c a b, R, K, s, r, h => by
    unfold trc at h
    split at h
    · rename_i x hx
      have e : evv (erO c) (J9 s).env = some (.p (.b x)) := by
        rw [← Jdb (erO c) (J9 s), Jq hx]; rfl
      rw [erc, JpI, e, Jo4]
      split at h
      · rename_i hx1
        subst hx1
        rw [JlG hx] at h
        simp only [if_true]
        exact J2E hG (c := a) h
      · rename_i hx1
        have : x = false := by simpa using hx1
        subst this
        rw [JlG hx] at h
        simp only [Bool.false_eq_true, if_false]
        exact J2E hG (c := b) h
    · cases h
  | .block id c, R, K, s, r, h => by
    obtain ⟨o, s1, h1, h2⟩ := J2E hG (c := c) h
    rw [erc, JoE, h1]
    cases o with
    | normal => exact ⟨.normal, s1, rfl, h2⟩
    | exit i =>
      simp only [Jhy]
      simp only [TK.at'] at h2
      split at h2
      · rename_i hi; rw [if_pos hi]; exact ⟨.normal, s1, rfl, h2⟩
      · rename_i hi; rw [if_neg hi]; exact ⟨.exit i, s1, rfl, h2⟩
    | ret => exact ⟨.ret, s1, rfl, h2⟩
  | .loop live c, R, K, s, r, h => by
    unfold trc at h
    obtain ⟨⟨sh, ls⟩, hs, h⟩ := J2V h
    dsimp only at h
    have hpeel : ∀ (k : Nat) {s2 : TSt} {r : R}, JjP (J4D s.sto.length live) (fun again s => trc G c R ⟨again, K.x, K.r⟩ s) k s2 = some r →
        ∃ o s', X T (.lp s.sto.length live (erc c)) (J9 s2) = some (o, J9 s') ∧ K.at' o s' = some r := by
      intro k
      induction k with
      | zero => intro s2 r h; cases h
      | succ k ih =>
        intro s2 r h
        obtain ⟨o, s3, h1, h2⟩ := J2E hG (c := c) h
        rw [Jm7, h1]
        cases o with
        | normal =>
          obtain ⟨s4, hc, h2⟩ := J2V h2
          simp only [J5y, J57 hc]
          exact ih h2
        | exit i => exact ⟨.exit i, s3, rfl, h2⟩
        | ret => exact ⟨.ret, s3, rfl, h2⟩
    have key : ∀ {x : (tyL (ls.map (·.1))).D} {r : R}, J0W (fun x : (tyL (ls.map (·.1))).D => onO (Jae sh (J4E (ls.map (·.1)) x)) fun s1 =>
        trc G c ((tyL (ls.map (·.1))).D ⊕ R) ⟨fun s' => onO (J4D s.sto.length live s') fun s' => orO (Jeq sh (ls.map (·.1)) s') fun _ => JjP (J4D s.sto.length live) (fun again s => trc G c R ⟨again, K.x, K.r⟩ s) 3 s', fun i s' => (K.x i s').map .inr, fun s' => (K.r s').map .inr⟩ s1) x = some r →
        ∃ st, Jae sh (J4E (ls.map (·.1)) x) = some st ∧ ∃ o s', X T (.lp s.sto.length live (erc c)) (J9 st) = some (o, J9 s') ∧ K.at' o s' = some r := by
      intro x r hw
      refine JkP (P := fun (x : (tyL (ls.map (·.1))).D) (r : R) => ∃ st, Jae sh (J4E (ls.map (·.1)) x) = some st ∧ ∃ o s', X T (.lp s.sto.length live (erc c)) (J9 st) = some (o, J9 s') ∧ K.at' o s' = some r) ?_ ?_ hw
      · intro x r hx
        obtain ⟨st, hst, hx⟩ := J2V hx
        obtain ⟨o, s1, h1, h2⟩ := J2E hG (c := c) hx
        refine ⟨st, hst, ?_⟩
        rw [Jm7, h1]
        cases o with
        | normal =>
          obtain ⟨s2, hc, h2⟩ := J2V h2
          unfold orO at h2
          split at h2
          · cases h2
          · obtain ⟨r', h3, h4⟩ := Option.map_eq_some_iff.1 h2
            injection h4 with h4; subst h4
            simp only [J5y, J57 hc]
            exact hpeel 3 h3
        | exit i =>
          obtain ⟨r', h3, h4⟩ := Option.map_eq_some_iff.1 h2
          injection h4 with h4; subst h4
          exact ⟨.exit i, s1, rfl, h3⟩
        | ret =>
          obtain ⟨r', h3, h4⟩ := Option.map_eq_some_iff.1 h2
          injection h4 with h4; subst h4
          exact ⟨.ret, s1, rfl, h3⟩
      · rintro x y r hx ⟨st', hst', o, s3, h5, h6⟩
        obtain ⟨st, hst, hx⟩ := J2V hx
        obtain ⟨o1, s1, h1, h2⟩ := J2E hG (c := c) hx
        refine ⟨st, hst, ?_⟩
        rw [Jm7, h1]
        cases o1 with
        | normal =>
          obtain ⟨s2, hc, h2⟩ := J2V h2
          unfold orO at h2
          split at h2
          · rename_i z hz
            injection h2 with h2; injection h2 with h2; subst h2
            have e := Jjg hz
            rw [hst'] at e
            injection e with e; subst e
            simp only [J5y, J57 hc]
            exact ⟨o, s3, h5, h6⟩
          · obtain ⟨r', _, h4⟩ := Option.map_eq_some_iff.1 h2
            cases h4
        | exit i =>
          obtain ⟨r', _, h4⟩ := Option.map_eq_some_iff.1 h2
          cases h4
        | ret =>
          obtain ⟨r', _, h4⟩ := Option.map_eq_some_iff.1 h2
          cases h4
    obtain ⟨st, hst, o, s', h1, h2⟩ := key h
    rw [J9G, JiN hs] at hst
    injection hst with hst; subst hst
    refine ⟨o, s', ?_, h2⟩
    have e : X T (.loop live (erc c)) (J9 s) = X T (.lp (J9 s).sto.length live (erc c)) ⟨restr live (J9 s).env, (J9 s).sto⟩ := Jq1 T live (erc c) _ _
    rw [erc, e, ← JbL, show (J9 s).sto.length = s.sto.length by simp [J9]]
    exact h1
  | .scope c, R, K, s, r, h => by
    obtain ⟨o, s1, h1, h2⟩ := J2E hG (c := c) h
    exact ⟨o, s1, by rw [erc, Jpv]; exact h1, h2⟩
  | .exit id, R, K, s, r, h => ⟨.exit id, s, by rw [erc, Jq0], h⟩
  | .ret, R, K, s, r, h => ⟨.ret, s, by rw [erc, Jr3], h⟩
  | .keep live c, R, K, s, r, h => by
    obtain ⟨o, s1, h1, h2⟩ := J2E hG (c := c) h
    exact ⟨o, s1, by rw [erc, Jls, ← JbL]; exact h1, h2⟩
  | .tidy live c, R, K, s, r, h => by
    obtain ⟨o, s1, h1, h2⟩ := J2E hG (c := c) h
    rw [erc, JpL, h1, Jia, show (J9 s).sto.length = s.sto.length by simp [J9]]
    cases o with
    | normal => obtain ⟨s2, h3, h4⟩ := J2V h2; rw [J57 h3]; exact ⟨.normal, s2, rfl, h4⟩
    | exit i => obtain ⟨s2, h3, h4⟩ := J2V h2; rw [J57 h3]; exact ⟨.exit i, s2, rfl, h4⟩
    | ret => obtain ⟨s2, h3, h4⟩ := J2V h2; rw [J57 h3]; exact ⟨.ret, s2, rfl, h4⟩
  | .jn sh ts a b, R, K, s, r, h => by
    unfold trc at h
    rw [erc, Jo3]
    cases ho : trc G a ((tyL ts).D ⊕ R) ⟨fun s' => inl? (Jeq sh ts ⟨J3x (sh.env.map (·.1)) s'.env, s'.sto⟩), fun i s' => (K.x i s').map .inr, fun s' => (K.r s').map .inr⟩ s with
    | none => rw [ho] at h; cases h
    | some res =>
      rw [ho] at h
      obtain ⟨o, s1, h1, h2⟩ := J2E hG (c := a) ho
      rw [h1]
      cases o with
      | normal =>
        obtain ⟨x, hx, rfl⟩ := Jmt h2
        obtain ⟨s2, h3, h4⟩ := J2V h
        rw [Jjg hx] at h3
        injection h3 with h3; subst h3
        obtain ⟨o, s3, h5, h6⟩ := J2E hG (c := b) h4
        refine ⟨o, s3, ?_, h6⟩
        simp only [J5y]
        rw [Jls, ← JbL]; exact h5
      | exit i =>
        obtain ⟨r', h3, h4⟩ := Option.map_eq_some_iff.1 h2
        subst h4
        injection h with h; subst h
        exact ⟨.exit i, s1, rfl, h3⟩
      | ret =>
        obtain ⟨r', h3, h4⟩ := Option.map_eq_some_iff.1 h2
        subst h4
        injection h with h; subst h
        exact ⟨.ret, s1, rfl, h3⟩
end Go.Am
end
section
namespace Go.Am
structure TFn where
  np : Nat
  nt : Nat
  body : TCo
  res : List Jej
  fresh : Bool
def erF (f : TFn) : AFn := ⟨f.np, f.nt, erc f.body, f.res.map erR, f.fresh⟩
def JcY : Nat → List TA → List (Nat × TV)
  | _, [] => []
  | k, x :: r => (k, .a x) :: JcY (k + 1) r
theorem Jgc (L : Nat → Nat) : ∀ (k : Nat) (xs : List TA), J4v k (xs.map (J01 L)) = J1W L (JcY k xs)
  | _, [] => rfl
  | k, x :: r => by
    have := Jgc L (k + 1) r
    simp only [List.map_cons, J4v, JcY, J1W, this]
    rfl
noncomputable def J1I (G : TG) (f : TFn) {R : Type} (xs : List TA) (bl : List TB) (E : TV → List TB → Option R) : Option R :=
  if xs.length = f.np then
    trc G f.body R ⟨fun s => J8l f.res f.fresh bl.length s E, fun _ _ => none, fun s => J8l f.res f.fresh bl.length s E⟩ ⟨JcY 0 xs, bl⟩
  else none
theorem Jpk {T : J1y} {G : TG} (hG : GOk (AF T) G) {g : FuncId} {f : TFn} (hf : T g = some (.fn (erF f))) {R : Type} {xs : List TA} {bl : List TB} {E : TV → List TB → Option R} {r : R} (h : J1I G f xs bl E = some r) :
    ∃ v out, AF T g (xs.map (J01 (lns bl))) (bl.map (JC (lns bl))) = some (Jl (lns out) v, out.map (JC (lns out))) ∧ E v out = some r := by
  unfold J1I at h
  split at h
  · rename_i hn
    obtain ⟨o, s', h1, h2⟩ := J2E hG h
    have e0 : J9 ⟨JcY 0 xs, bl⟩ = ⟨J4v 0 (xs.map (J01 (lns bl))), bl.map (JC (lns bl))⟩ := by
      unfold J9; rw [Jgc]
    rw [e0] at h1
    have fin : J8l f.res f.fresh bl.length s' E = some r → ∃ v out, J1u (erF f) bl.length (J9 s') = some (Jl (lns out) v, out.map (JC (lns out))) ∧ E v out = some r :=
      fun h => Jkp rfl rfl h
    have e1 : ∀ q, J1u (erF f) bl.length (J9 s') = some q → (o = .normal ∨ o = .ret) → AF T g (xs.map (J01 (lns bl))) (bl.map (JC (lns bl))) = some q := by
      intro q hq ho
      rw [JqU T hf, if_pos (by rw [List.length_map]; exact hn), show (erF f).body = erc f.body from rfl, h1, List.length_map]
      rcases ho with rfl | rfl <;> exact hq
    cases o with
    | normal =>
      obtain ⟨v, out, h3, h4⟩ := fin h2
      exact ⟨v, out, e1 _ h3 (.inl rfl), h4⟩
    | exit i => cases h2
    | ret =>
      obtain ⟨v, out, h3, h4⟩ := fin h2
      exact ⟨v, out, e1 _ h3 (.inr rfl), h4⟩
  · cases h
structure TE where
  f : FuncId
  go : ∀ {R : Type}, List TA → List TB → (TV → List (Bool × TB) → Option R) → Option R
  fit : List TA → List TB → Bool
structure EOk (F : Orc) (e : TE) : Prop where
  ok : ∀ {R : Type} {xs : List TA} {bl : List TB} {kk : TV → List (Bool × TB) → Option R} {r : R}, e.go xs bl kk = some r →
    ∃ v out, F e.f (xs.map (J01 (lns bl))) (bl.map (JC (lns bl))) = some (Jl (J86 out) v, out.map fun x => JC (J86 out) x.2) ∧
      (∀ (k : Nat) x, out[k]? = some (true, x) → k < bl.length → lnB x = lns bl k) ∧ kk v out = some r
def goE {R : Type} (f : FuncId) (xs : List TA) (bl : List TB) (kk : TV → List (Bool × TB) → Option R) : List TE → Option R
  | [] => none
  | e :: r => if f = e.f ∧ e.fit xs bl = true then e.go xs bl kk else goE f xs bl kk r
def TG.of (l : List TE) : TG := ⟨fun f xs bl kk => goE f xs bl kk l⟩
def JgC (F : Orc) : List TE → Prop
  | [] => True
  | e :: r => EOk F e ∧ JgC F r
theorem JkM {F : Orc} {R : Type} {f : FuncId} {xs : List TA} {bl : List TB} {kk : TV → List (Bool × TB) → Option R} {r : R} : ∀ {l : List TE}, JgC F l → goE f xs bl kk l = some r →
    ∃ v out, F f (xs.map (J01 (lns bl))) (bl.map (JC (lns bl))) = some (Jl (J86 out) v, out.map fun x => JC (J86 out) x.2) ∧
      (∀ (k : Nat) x, out[k]? = some (true, x) → k < bl.length → lnB x = lns bl k) ∧ kk v out = some r
  | [], _, h => by cases h
  | e :: l, ha, h => by
    simp only [goE] at h
    split at h
    · rename_i he
      obtain ⟨rfl, _⟩ := he
      exact ha.1.ok h
    · exact JkM ha.2 h
theorem Jqm {F : Orc} {l : List TE} (h : JgC F l) : GOk F (TG.of l) := ⟨fun hg => JkM h hg⟩
structure Sig where
  args : List ShA
  blks : List ShB
  ti : List Ty
  res : ShV
  out : List ShB
  same : List Bool
  to : List Ty
def J11 (g : Sig) (x : (tyL g.ti).D) : Option (List TA × List TB) := match mkL mkA g.args (J4E g.ti x) with
  | some (xs, l) => match mkL mkB g.blks l with
    | some (bl, []) => some (xs, bl)
    | _ => none
  | none => none
def JbN (g : Sig) (xs : List TA) (bl : List TB) : Option (tyL g.ti).D := match shL shA xs, shL shB bl with
  | some (a, l), some (c, k) => if a = g.args ∧ c = g.blks then asL g.ti (l ++ k) else none
  | _, _ => none
theorem Jp4 {g : Sig} {xs : List TA} {bl : List TB} {x : (tyL g.ti).D} (h : JbN g xs bl = some x) : J11 g x = some (xs, bl) := by
  unfold JbN at h
  split at h
  · rename_i a l c k h1 h2
    split at h
    · rename_i h0
      obtain ⟨rfl, rfl⟩ := h0
      have e := J45 JgH h2 []
      rw [List.append_nil] at e
      unfold J11
      rw [JgR h, J45 JhT h1 k]
      simp only [e]
    · cases h
  · cases h
def JcQ (g : Sig) (y : (tyL g.to).D) : Option (TV × List TB) := match mkV g.res (J4E g.to y) with
  | some (v, l) => match mkL mkB g.out l with
    | some (out, []) => some (v, out)
    | _ => none
  | none => none
def J0I (g : Sig) (v : TV) (out : List TB) : Option (tyL g.to).D := match shV v, shL shB out with
  | some (a, l), some (c, k) => if a = g.res ∧ c = g.out then asL g.to (l ++ k) else none
  | _, _ => none
theorem Jm8 {g : Sig} {v : TV} {out : List TB} {y : (tyL g.to).D} (h : J0I g v out = some y) : JcQ g y = some (v, out) := by
  unfold J0I at h
  split at h
  · rename_i a l c k h1 h2
    split at h
    · rename_i h0
      obtain ⟨rfl, rfl⟩ := h0
      have e := J45 JgH h2 []
      rw [List.append_nil] at e
      unfold JcQ
      rw [JgR h, Jlm h1 k]
      simp only [e]
    · cases h
  · cases h
def flg (same : List Bool) (out : List TB) : List (Bool × TB) := match same, out with
  | b :: r, x :: l => (b, x) :: flg r l
  | [], x :: l => (false, x) :: flg [] l
  | _, [] => []
theorem J8f : ∀ (same : List Bool) (out : List TB), (flg same out).map (·.2) = out
  | [], [] => rfl
  | [], x :: l => by simp only [flg, List.map_cons, J8f [] l]
  | b :: r, [] => rfl
  | b :: r, x :: l => by simp only [flg, List.map_cons, J8f r l]
def sigE (f : FuncId) (g : Sig) (S : (tyL g.ti).D → Option (tyL g.to).D) : TE :=
  ⟨f, fun xs bl kk => match JbN g xs bl with
    | some x => (S x).bind fun y => match JcQ g y with
      | some (v, out) => kk v (flg g.same out)
      | none => none
    | none => none, fun xs bl => (JbN g xs bl).isSome⟩
def Jnq : ShB → Bool
  | .arr _ _ => false
  | _ => true
def Jdp (g : Sig) : Bool := (List.range g.same.length).all fun k => match g.same[k]?, g.blks[k]?, g.out[k]? with
  | some true, some a, some c => Jnq a && Jnq c
  | some true, some _, none => false
  | _, _, _ => true
theorem Jgi {x : TB} {s : ShB} {ls : List Lf} (h : shB x = some (s, ls)) (hb : Jnq s = true) : lnB x = 0 := by
  cases x with
  | arr w t rows => injection h with h; injection h with h1; subst h1; cases hb
  | _ => rfl
theorem Jhc {α σ : Type} {f : α → Option (σ × List Lf)} : ∀ {xs : List α} {ss : List σ} {ls : List Lf}, shL f xs = some (ss, ls) → ∀ (k : Nat) x, xs[k]? = some x → ∃ s l, ss[k]? = some s ∧ f x = some (s, l)
  | [], _, _, _, k, x, hk => by simp at hk
  | y :: r, ss, ls, h, k, x, hk => by
    simp only [shL] at h
    split at h
    · rename_i s l q k' h1 h2
      injection h with h; injection h with h3 h4; subst h3 h4
      cases k with
      | zero => simp at hk; subst hk; exact ⟨s, l, rfl, h1⟩
      | succ k => exact Jhc h2 k x (by simpa using hk)
    · cases h
theorem Jgk : ∀ {same : List Bool} {out : List TB} {k : Nat} {x : TB}, (flg same out)[k]? = some (true, x) → same[k]? = some true ∧ out[k]? = some x
  | [], [], k, x, h => by simp [flg] at h
  | [], y :: l, k, x, h => by
    cases k with
    | zero => simp [flg] at h
    | succ k =>
      simp only [flg, List.getElem?_cons_succ] at h
      have := Jgk (same := []) h
      simp at this
  | b :: r, [], k, x, h => by simp [flg] at h
  | b :: r, y :: l, k, x, h => by
    cases k with
    | zero => simp [flg] at h; obtain ⟨rfl, rfl⟩ := h; exact ⟨rfl, rfl⟩
    | succ k =>
      simp only [flg, List.getElem?_cons_succ] at h
      simpa using Jgk h
theorem J8u {T : J1y} {f : FuncId} {g : Sig} {S : (tyL g.ti).D → Option (tyL g.to).D} (hs : Jdp g = true)
    (h : ∀ x xs bl y, J11 g x = some (xs, bl) → S x = some y → ∃ v out, AF T f (xs.map (J01 (lns bl))) (bl.map (JC (lns bl))) = some (Jl (lns out) v, out.map (JC (lns out))) ∧ J0I g v out = some y) : EOk (AF T) (sigE f g S) := by
  refine ⟨fun {R xs bl kk r} hg => ?_⟩
  simp only [sigE] at hg
  split at hg
  · rename_i x hx
    obtain ⟨y, hy, hg⟩ := Option.bind_eq_some_iff.1 hg
    split at hg
    · rename_i v out hv
      obtain ⟨v', out', h1, h2⟩ := h x xs bl y (Jp4 hx) hy
      rw [Jm8 h2] at hv
      injection hv with hv; injection hv with hv1 hv2; subst hv1 hv2
      refine ⟨v', flg g.same out', ?_, fun k z hz hk => ?_, hg⟩
      · unfold J86
        rw [J8f]
        have : (flg g.same out').map (fun x => JC (lns out') x.2) = out'.map (JC (lns out')) := by
          conv => rhs; rw [← J8f g.same out', List.map_map]
          rw [J8f]
          rfl
        rw [this]
        exact h1
      · obtain ⟨hz1, hz2⟩ := Jgk hz
        unfold Jdp at hs
        rw [List.all_eq_true] at hs
        have hs := hs k (by simpa using J5 hz1)
        unfold JbN at hx
        split at hx
        · rename_i a l c k' e1 e2
          split at hx
          · rename_i e0
            obtain ⟨sb, lb, q1, q2⟩ := Jhc e2 k _ (List.getElem?_eq_getElem hk)
            unfold J0I at h2
            split at h2
            · rename_i a2 l2 c2 k2 e3 e4
              split at h2
              · rename_i e5
                obtain ⟨sc, lc, p1, p2⟩ := Jhc e4 k z hz2
                rw [hz1, ← e0.2, q1, ← e5.2, p1] at hs
                simp only [Bool.and_eq_true] at hs
                rw [Jgi p2 hs.2]
                unfold lns
                rw [List.getElem?_eq_getElem hk]
                exact (Jgi q2 hs.1).symm
              · cases h2
            · cases h2
          · cases hx
        · cases hx
    · cases hg
  · cases hg
theorem J1s {T : J1y} {f : FuncId} {g : Sig} {fn : TFn} {S : (tyL g.ti).D → Option (tyL g.to).D} {l : List TE} (hf : T f = some (.fn (erF fn))) (hl : JgC (AF T) l) (hs : Jdp g = true)
    (h : ∀ x, onO (J11 g x) (fun y => J1I (TG.of l) fn y.1 y.2 (J0I g)) = S x) : EOk (AF T) (sigE f g S) := by
  refine J8u hs fun x xs bl y hx hy => ?_
  have h0 := h x
  rw [hx, hy] at h0
  exact Jpk (Jqm hl) hf h0
def J8V {α β : Type} (S : (α → Option β) → α → Option β) : Nat → α → Option β
  | 0 => fun _ => none
  | n + 1 => S (J8V S n)
theorem JlD {T : J1y} {f : FuncId} {g : Sig} {fn : TFn} {S : ((tyL g.ti).D → Option (tyL g.to).D) → (tyL g.ti).D → Option (tyL g.to).D} {l : List TE} (hf : T f = some (.fn (erF fn))) (hl : JgC (AF T) l) (hs : Jdp g = true)
    (h : ∀ r x, onO (J11 g x) (fun y => J1I (TG.of (sigE f g r :: l)) fn y.1 y.2 (J0I g)) = S r x) : ∀ n, EOk (AF T) (sigE f g (J8V S n))
  | 0 => J8u hs fun x xs bl y hx hy => by cases hy
  | n + 1 => J1s hf (l := sigE f g (J8V S n) :: l) (And.intro (JlD hf hl hs h n) hl) hs (h (J8V S n))
end Go.Am
end
section
namespace Go.Am
end Go.Am
end
section
namespace Go.Am
def J7q (t : Ty) : Sig := ⟨[.c (.d (.l t))], [], [.l t], .a (.c (.slr 0)), [.arr true t], [], [.l t]⟩
def Jhl (e : Nat) : Opd := .c (.p (.sl e []))
def J7g (t : Ty) (bytes : Nat) : J4P := ⟨1, 8,
  .reg false [] [⟨.mkarr t.sz (Jhl t.sz), some 2, none⟩], [],
  .reg false [] [⟨.mv (.t 0), some 3, none⟩, ⟨.bin .eql .nils (.t 3) (Jhl t.sz), some 4, none⟩], .t 4,
  .seq (.reg false [] [⟨.mkarr t.sz (Jhl t.sz), some 2, none⟩]) .ret, .skip,
  .seq (.reg false [] [⟨.lits true t.sz 0 (zer t) [], some 5, none⟩, ⟨.mv (.t 0), some 6, none⟩, ⟨.app t.sz bytes (zer t) (.t 5) (.t 6), some 7, none⟩, ⟨.mv (.t 7), some 2, none⟩]) .ret, [.tmp 2], true⟩
theorem JmV {T : J1y} {f : FuncId} {t : Ty} {bytes : Nat} (hf : T f = some (.fork (J7g t bytes))) {x y : List t.D} (h : cloS bytes x = some y) :
    AF T f [.p (.sl t.sz (x.map (cel t)))] [] = some (.slr 0 0 y.length, [.arr true t.sz (y.map (cel t))]) := by
  unfold cloS at h
  split at h
  · rename_i h2
    injection h with h; subst h
    rw [Jp3 _ hf]
    cases x with
    | nil =>
      have h3 : 512 * bytes ≤ 281474976710656 := by simpa [J3l] using h2
      simp [J7g, Jhl, J6N, J95, J4P.af, h3]
    | cons a r =>
      simp at h2
      simp [J7g, Jhl, J6N, J95, J4P.af, h2]
  · cases h
theorem Jhw (t : Ty) (x : t.D) (r : List Lf) : lf1 t (⟨t, x⟩ :: r) = some (x, r) := by simp [lf1]
theorem Jnf (t : Ty) (x : List t.D) : J11 (J7q t) x = some ([.c (.d (.l t) x)], []) := by
  have h : lf1 (.l t) [⟨.l t, x⟩] = some (x, []) := Jhw (.l t) x []
  show (match mkL mkA [.c (.d (.l t))] [(⟨.l t, x⟩ : Lf)] with
    | some (xs, l) => match mkL mkB (J7q t).blks l with
      | some (bl, []) => some (xs, bl)
      | _ => none
    | none => none) = _
  simp only [mkL, mkA, mkC, h]
  rfl
theorem JlJ (t : Ty) (y : List t.D) : J0I (J7q t) (.a (.c (.slr 0))) [.arr true t y] = some y := by
  show (if (ShV.a (.c (.slr 0)) = (J7q t).res ∧ [ShB.arr true t] = (J7q t).out) then asL [.l t] [⟨.l t, y⟩] else none) = some y
  rw [if_pos ⟨rfl, rfl⟩]
  simp [asL, Jc8]
  rfl
theorem Jn2 {T : J1y} {f : FuncId} {t : Ty} {bytes : Nat} (hf : T f = some (.fork (J7g t bytes))) : EOk (AF T) (sigE f (J7q t) (cloS bytes)) := by
  refine J8u rfl fun x xs bl y hx hy => ?_
  rw [Jnf t x] at hx
  injection hx with hx; injection hx with h1 h2; subst h1 h2
  exact ⟨.a (.c (.slr 0)), [.arr true t y], JmV hf hy, JlJ t y⟩
end Go.Am
end
section
namespace Go.Am
abbrev Prm := List AV → List Blk → Option Res
def JmO : Sig := ⟨[.c (.d .s), .c (.d (.i .i64))], [], [.s, (.i .i64)], .a (.c (.d .s)), [], [], [.s]⟩
def JpU (x : List UInt8 × Int) : Option (List UInt8) := Jha x.1 x.2
theorem Jq4 (x : List UInt8 × Int) : J11 JmO x = some ([.c (.d .s x.1), .c (.d (.i .i64) x.2)], []) := rfl
theorem Jos {g : Sig} (hr : g.res = .a (.c (.d .s))) (ho : g.out = []) (ht : g.to = [.s]) (y : List UInt8) : J0I g (.a (.c (.d .s y))) [] = some (ht ▸ y) := by
  obtain ⟨a, b, c, d, e, f, t⟩ := g
  dsimp only at hr ho ht
  subst hr ho ht
  rfl
theorem Jpc {T : J1y} {f : FuncId} (hf : T f = some (.prim JgW)) : EOk (AF T) (sigE f JmO JpU) := by
  refine J8u rfl fun x xs bl y hx hy => ?_
  rw [Jq4 x] at hx
  injection hx with hx; injection hx with h1 h2; subst h1 h2
  refine ⟨.a (.c (.d .s y)), [], ?_, Jos (g := JmO) rfl rfl rfl y⟩
  rw [JeA hf]
  show Option.map (fun r => (AV.p (.s r), [])) (Jha x.1 x.2) = _
  rw [show Jha x.1 x.2 = some y from hy]
  rfl
end Go.Am
end
section
namespace Go.Am
abbrev FT := Int × Int × Int × Int × Int × Int
abbrev DT := List (List UInt8) × Int × List Int × Bool × List FT
def J5l (x : DT) (p : Nat) (s : List UInt8) : DT := (x.1.set p s, x.2.1, x.2.2.1.filter (fun n => !(n == (p : Int))), x.2.2.2.1, x.2.2.2.2)
def JgU (l : List UInt8) (b : Nat) (m : Int) : List UInt8 := ((l.map fun x => (x.toNat : Int)).set b (bits BinOp.xor IntKind.u8 (l.getD b 0).toNat m)).map fun n => UInt8.ofNat n.toNat
def J0F (x : DT) (f : FT) : DT :=
  if f.1 = 4 then (x.1.set f.2.2.1.toNat (JgU (x.1.getD f.2.2.1.toNat []) f.2.2.2.2.1.toNat f.2.2.2.2.2), x.2)
  else if f.1 = 5 then
    if x.2.2.1.contains f.2.2.1 then x else (x.1, x.2.1, x.2.2.1.take (x.2.2.1.countP (· < f.2.2.1)) ++ f.2.2.1 :: x.2.2.1.drop (x.2.2.1.countP (· < f.2.2.1)), x.2.2.2)
  else if f.1 = 6 then (x.1, x.2.1, x.2.2.1, true, x.2.2.2.2)
  else x
structure HOk (x : DT) (f : FT) : Prop where
  len : x.1.length ≤ 1000000
  ulen : x.2.2.1.length ≤ 1000000
  sorted : f.1 = 5 → x.2.2.1.Pairwise (· ≤ ·)
  page : f.1 = 4 → 0 ≤ f.2.2.1 ∧ f.2.2.1.toNat < x.1.length
  byte : f.1 = 4 → 0 ≤ f.2.2.2.2.1 ∧ f.2.2.2.2.1.toNat < (x.1.getD f.2.2.1.toNat []).length
  mask : f.1 = 4 → 0 ≤ f.2.2.2.2.2 ∧ f.2.2.2.2.2 ≤ 255
def J3H : List FT → Int × Int
  | [] => (0, 0)
  | f :: l => if f.1 = 1 then (1, 0) else if f.1 = 2 then (2, f.2.2.2.1) else if f.1 = 3 then (3, f.2.2.2.2.1) else J3H l
def J7k (x : DT) (t : Int) (s : List UInt8) : Option DT := if 0 ≤ t ∧ t.toNat < x.1.length ∧ x.1.length ≤ 1000000 ∧ x.2.2.1.length ≤ 1000000 then some (J5l x t.toNat s) else none
theorem J7J {x y : DT} {t : Int} {s : List UInt8} (h : J7k x t s = some y) : (0 ≤ t ∧ t.toNat < x.1.length ∧ x.1.length ≤ 1000000 ∧ x.2.2.1.length ≤ 1000000) ∧ y = J5l x t.toNat s := by
  unfold J7k at h
  split at h
  · rename_i hk; injection h with h; exact ⟨hk, h.symm⟩
  · cases h
def Jg4 (x : DT) (p b : Int) (s : List UInt8) : Option DT :=
  if 0 ≤ b ∧ b.toNat ≤ s.length ∧ 0 ≤ p ∧ p.toNat < x.1.length ∧ b.toNat ≤ (x.1.getD p.toNat []).length ∧ (x.1.getD p.toNat []).length = 256 then J7k x p (s.take b.toNat ++ (x.1.getD p.toNat []).drop b.toNat) else none
def JmK (e : Int × Int) (x : DT) (p : Int) (s : List UInt8) : Option DT :=
  if e.1 = 1 then some x else if e.1 = 2 then J7k x e.2 s else if e.1 = 3 then Jg4 x p e.2 s else J7k x p s
noncomputable def J0O (x : DT) (f : FT) : Option DT := open Classical in if HOk x f then some (J0F x f) else none
theorem J6Q {x y : DT} {f : FT} (h : J0O x f = some y) : HOk x f ∧ y = J0F x f := by
  unfold J0O at h
  split at h
  · rename_i hk; injection h with h; exact ⟨hk, h.symm⟩
  · cases h
def J60 (x : DT) : List FT := x.2.2.2.2.filter fun f => f.2.1 == x.2.1 + 1
def J4H (x : DT) : DT := (x.1, x.2.1 + 1, x.2.2.1, x.2.2.2.1, x.2.2.2.2.filter fun f => !(f.2.1 == x.2.1 + 1))
noncomputable def J9L (x : DT) (p : Int) (s : List UInt8) : Option DT := (JmK (J3H (J60 x)) (J4H x) p s).bind fun y => (J60 x).foldlM J0O y
def JpN (x : DT × Int × List UInt8) : Option DT := J7k x.1 x.2.1 x.2.2
noncomputable def Jdn (u : Option Int) (x : DT × Int × List UInt8) : Option (DT × Int) := u.bind fun e =>
  if e ≠ 0 then some (([], 0, [], false, []), e)
  else if x.2.2.length ≠ 256 then some (([], 0, [], false, []), 2)
  else if x.1.2.1 = 1099511627776 then some (([], 0, [], false, []), 21)
  else if 0 ≤ x.1.2.1 ∧ x.1.2.1 < 1099511627776 ∧ x.1.2.2.2.2.length ≤ 1000000 then (J9L x.1 x.2.1 x.2.2).map fun y => (y, 0)
  else none
def Jeb (x : List (List UInt8) × Int) : Option (List (List UInt8)) := match x.1 with
  | [l] => if 1 ≤ x.2 ∧ x.2 ≤ 1000 then some (List.replicate x.2.toNat l) else none
  | _ => none
end Go.Am
end
section
namespace Go.Am
set_option maxRecDepth 20000
abbrev J5E : FuncId := 3
abbrev J2r : FuncId := 4
abbrev J6i : FuncId := 5
abbrev J5H : FuncId := 6
abbrev J6h : FuncId := 8
abbrev J0L : FuncId := 9
abbrev J1x : FuncId := 10
abbrev J0r : FuncId := 11
abbrev J62 : FuncId := 12
abbrev J0R : FuncId := 13
abbrev i_draw_Codes_Next : FuncId := 14
abbrev J2G : FuncId := 15
abbrev J0i : FuncId := 16
abbrev J4c : FuncId := 17
abbrev Jz : FuncId := 18
abbrev JJ : FuncId := 19
abbrev J4J : FuncId := 20
abbrev J07 : FuncId := 21
abbrev J7b : FuncId := 22
abbrev J3t : FuncId := 23
abbrev J2A : FuncId := 24
abbrev J9m : FuncId := 25
abbrev J5G : FuncId := 26
abbrev J9J : FuncId := 27
abbrev J6u : FuncId := 29
abbrev J0B : FuncId := 30
abbrev Jap : FuncId := 31
abbrev J4Z : FuncId := 32
abbrev J7O : FuncId := 33
abbrev J1m : FuncId := 34
abbrev J4m : FuncId := 35
abbrev J1K : FuncId := 36
abbrev J0m : FuncId := 37
abbrev Jy : FuncId := 38
abbrev J4L : FuncId := 39
abbrev J3W : FuncId := 40
abbrev J1b : FuncId := 41
abbrev J9Y : FuncId := 45
abbrev J3e : FuncId := 47
abbrev J2w : FuncId := 48
abbrev J7f : FuncId := 49
abbrev J0d : FuncId := 50
abbrev J7W : FuncId := 51
abbrev J04 : FuncId := 52
abbrev JI : FuncId := 53
abbrev J0z : FuncId := 54
abbrev Jx : FuncId := 55
abbrev J0x : FuncId := 56
abbrev J0b : FuncId := 57
abbrev J1J : FuncId := 58
abbrev J1t : FuncId := 59
abbrev JB : FuncId := 60
abbrev J5f : FuncId := 67
abbrev J0s : FuncId := 68
abbrev JL : FuncId := 69
def J4 : Ty := .pr (.i .i64) (.pr (.i .i64) (.pr (.i .i64) (.pr (.i .i64) (.pr (.i .i64) ((.i .u8))))))
abbrev J0Y := Int × Int × Int × Int × Int × Int
def J3 : Ty := .pr (.l .s) (.pr (.i .i64) (.pr (.l (.i .i64)) (.pr .b ((.l J4)))))
abbrev Jt := (List (List UInt8)) × Int × (List Int) × Bool × (List J0Y)
def Js : Ty := .pr (.l (.i .u8)) ((.i .i64))
abbrev J7 := (List Int) × Int
def J21 : Sig := ⟨[.c (.d .s)], [], [.s], .a (.c (.d .b)), [], [], [.b]⟩
def J2Q : Sig := ⟨[.dt J4], [], [J4], .tup [.dt J4, .c (.d .b)], [], [], [J4, .b]⟩
def J14 : Sig := ⟨[.dt J3, .c (.d (.i .i64))], [], [J3, (.i .i64)], .a (.c (.d .b)), [], [], [.b]⟩
def J19 : Sig := ⟨[.dt J3, .dt J4], [], [J3, J4], .a (.c (.d .b)), [], [], [.b]⟩
def J03 : Sig := ⟨[.c (.d (.l .s)), .fn J0z [] []], [], [(.l .s)], .a (.c (.d (.i .i64))), [], [], [(.i .i64)]⟩
def JU : Sig := ⟨[.c (.d (.l .s)), .fn J0z [] []], [], [(.l .s)], .a (.c (.d .b)), [], [], [.b]⟩
def J28 : Sig := ⟨[.dt J4, .c (.ptr 0 [])], [.box J3], [J4, J3], .a (.c (.d .b)), [.box J3], [true], [.b, J3]⟩
def JP : Sig := ⟨[.c (.d (.l J4)), .fn J0x [] [.ptr 0 []]], [.box J3], [(.l J4), J3], .a (.c (.d (.i .i64))), [.box J3], [true], [(.i .i64), J3]⟩
def JK : Sig := ⟨[.c (.d (.l J4)), .fn J0x [] [.ptr 0 []]], [.box J3], [(.l J4), J3], .a (.c (.d .b)), [.box J3], [true], [.b, J3]⟩
def J1N : Sig := ⟨[.dt J3], [], [J3], .a (.c (.d .b)), [], [], [.b]⟩
def J18 : Sig := J7q J4
def J2O : Sig := ⟨[.dt J3, .dt J4], [], [J3, J4], .tup [.dt J3, .c (.d (.i .i64))], [], [], [J3, (.i .i64)]⟩
def J1F : Sig := ⟨[.c (.d (.l .s)), .c (.d (.i .i64))], [], [(.l .s), (.i .i64)], .a (.c (.d (.l .s))), [], [], [(.l .s)]⟩
def J4N : Sig := ⟨[.c (.d .s), .c (.d (.i .i64))], [], [.s, (.i .i64)], .a (.c (.d .s)), [], [], [.s]⟩
def J3d : Sig := ⟨[.c (.d (.i .i64))], [], [(.i .i64)], .a (.c (.d (.l .s))), [], [], [(.l .s)]⟩
def J2k : Sig := ⟨[.c (.d (.i .i64))], [], [(.i .i64)], .tup [.dt J3, .c (.d (.i .i64))], [], [], [J3, (.i .i64)]⟩
def J2P : Sig := ⟨[.dt J3, .c (.d (.i .i64))], [], [J3, (.i .i64)], .a (.c (.d (.i .i64))), [], [], [(.i .i64)]⟩
def J1c : Sig := ⟨[.c (.d (.l (.i .i64))), .c (.d (.i .i64))], [], [(.l (.i .i64)), (.i .i64)], .a (.c (.d (.i .i64))), [], [], [(.i .i64)]⟩
def J0S : Sig := ⟨[.c (.d (.l (.i .i64))), .c (.d (.i .i64))], [], [(.l (.i .i64)), (.i .i64)], .a (.c (.d .b)), [], [], [.b]⟩
def J1Z : Sig := ⟨[.dt J3, .c (.d (.i .i64))], [], [J3, (.i .i64)], .tup [.c (.d .s), .c (.d (.i .i64))], [], [], [.s, (.i .i64)]⟩
def J37 : Sig := ⟨[.dt J3, .c (.d (.i .i64)), .c (.d .s)], [], [J3, (.i .i64), .s], .tup [.dt J3, .c (.d (.i .i64))], [], [], [J3, (.i .i64)]⟩
def g_draw_Codes_Next : Sig := ⟨[.c (.ptr 0 []), .c (.d (.i .i64))], [.box Js], [(.i .i64), Js], .a (.c (.d (.i .i64))), [.box Js], [true], [(.i .i64), Js]⟩
def J1Q : Sig := ⟨[.c (.ptr 0 [])], [.box Js], [Js], .a (.c (.d .s)), [.box Js], [true], [.s, Js]⟩
def J24 : Sig := ⟨[.c (.ptr 0 [])], [.box Js], [Js], .a (.c (.d (.i .i64))), [.box Js], [true], [(.i .i64), Js]⟩
def J5s : Sig := ⟨[.c (.d (.l (.i .u8))), .c (.d (.i .i64))], [], [(.l (.i .u8)), (.i .i64)], .a (.c (.ptr 0 [])), [.box Js], [], [Js]⟩
def J3u : Sig := ⟨[], [], [], .a (.c (.d .b)), [], [], [.b]⟩
def J3I : Sig := ⟨[.c (.d (.l (.i .u8)))], [], [(.l (.i .u8))], .a (.c (.d .b)), [], [], [.b]⟩
def Jbh : TCo := .seq (.reg false [] [
  ⟨.mv (.c (vb false)), some 2, none⟩])
  (.keep [0] (.seq (.reg false [] [
  ⟨.mv (.t 0), some 3, none⟩,
  ⟨.len true (.t 3), some 4, none⟩,
  ⟨.bin .neq .plain (.t 4) (.c (vi .i64 256)), some 5, none⟩,
  ⟨.mv (.t 5), some 2, none⟩])
  (.ret)))
def J31 : TFn := ⟨1, 6, Jbh, [.tmp 2], false⟩
def JcV : TCo := .seq (.reg false [] [
  ⟨.box J4 (.t 0), some 1, none⟩,
  ⟨.newbox J4, some 2, none⟩,
  ⟨.mv (.c (vb false)), some 3, none⟩])
  (.keep [1, 2] (.seq (.reg false [] [
  ⟨.faddr 0 (.t 1), some 5, none⟩,
  ⟨.load false (.i .i64) (.t 5), some 6, none⟩,
  ⟨.faddr 1 (.t 1), some 7, none⟩,
  ⟨.load false (.i .i64) (.t 7), some 8, none⟩,
  ⟨.build J4 [(0, (.i .i64), (.t 6)), (1, (.i .i64), (.t 8))], some 9, none⟩,
  ⟨.newbox J4, some 4, none⟩,
  ⟨.store J4 (.t 4) (.t 9), none, none⟩])
  (.keep [1, 2, 4] (.seq (.seq (.reg false [] [
  ⟨.faddr 0 (.t 1), some 10, none⟩,
  ⟨.load false (.i .i64) (.t 10), some 11, none⟩])
  (.keep [1, 2, 4, 11] (.block 0 (.seq (.seq (.reg false [] [
  ⟨.bin .eql .plain (.t 11) (.c (vi .i64 1)), some 14, none⟩,
  ⟨.mv (.t 14), some 13, none⟩])
  (.keep [1, 2, 4, 11, 13] (.cond (.t 13)
  (.skip)
  (.reg false [] [
  ⟨.bin .eql .plain (.t 11) (.c (vi .i64 6)), some 15, none⟩,
  ⟨.mv (.t 15), some 13, none⟩]))))
  (.keep [1, 2, 4, 11, 13] (.cond (.t 13)
  (.skip)
  (.seq (.reg false [] [
  ⟨.bin .eql .plain (.t 11) (.c (vi .i64 2)), some 17, none⟩,
  ⟨.mv (.t 17), some 16, none⟩])
  (.keep [1, 2, 4, 11, 16] (.cond (.t 16)
  (.reg false [] [
  ⟨.faddr 3 (.t 1), some 18, none⟩,
  ⟨.load false (.i .i64) (.t 18), some 19, none⟩,
  ⟨.faddr 3 (.t 4), some 20, none⟩,
  ⟨.store (.i .i64) (.t 20) (.t 19), none, none⟩])
  (.seq (.reg false [] [
  ⟨.bin .eql .plain (.t 11) (.c (vi .i64 3)), some 22, none⟩,
  ⟨.mv (.t 22), some 21, none⟩])
  (.keep [1, 2, 4, 11, 21] (.cond (.t 21)
  (.reg false [] [
  ⟨.faddr 4 (.t 1), some 23, none⟩,
  ⟨.load false (.i .i64) (.t 23), some 24, none⟩,
  ⟨.faddr 4 (.t 4), some 25, none⟩,
  ⟨.store (.i .i64) (.t 25) (.t 24), none, none⟩])
  (.seq (.reg false [] [
  ⟨.bin .eql .plain (.t 11) (.c (vi .i64 4)), some 27, none⟩,
  ⟨.mv (.t 27), some 26, none⟩])
  (.keep [1, 2, 4, 11, 26] (.cond (.t 26)
  (.reg true [(3, 7), (5, 7), (5, 9)] [
  ⟨.faddr 2 (.t 1), some 28, none⟩,
  ⟨.load false (.i .i64) (.t 28), some 29, none⟩,
  ⟨.faddr 4 (.t 1), some 30, none⟩,
  ⟨.load false (.i .i64) (.t 30), some 31, none⟩,
  ⟨.faddr 5 (.t 1), some 32, none⟩,
  ⟨.load false (.i .u8) (.t 32), some 33, none⟩,
  ⟨.faddr 2 (.t 4), some 34, none⟩,
  ⟨.store (.i .i64) (.t 34) (.t 29), none, none⟩,
  ⟨.faddr 4 (.t 4), some 35, none⟩,
  ⟨.store (.i .i64) (.t 35) (.t 31), none, none⟩,
  ⟨.faddr 5 (.t 4), some 36, none⟩,
  ⟨.store (.i .u8) (.t 36) (.t 33), none, none⟩])
  (.seq (.reg false [] [
  ⟨.bin .eql .plain (.t 11) (.c (vi .i64 5)), some 38, none⟩,
  ⟨.mv (.t 38), some 37, none⟩])
  (.keep [1, 2, 4, 37] (.cond (.t 37)
  (.reg false [] [
  ⟨.faddr 2 (.t 1), some 39, none⟩,
  ⟨.load false (.i .i64) (.t 39), some 40, none⟩,
  ⟨.faddr 2 (.t 4), some 41, none⟩,
  ⟨.store (.i .i64) (.t 41) (.t 40), none, none⟩])
  (.seq (.reg false [] [
  ⟨.load true J4 (.t 4), some 12, none⟩,
  ⟨.store J4 (.t 2) (.t 12), none, none⟩,
  ⟨.mv (.c (vb false)), some 3, none⟩])
  (.ret))))))))))))))))))))
  (.keep [2, 4] (.seq (.reg false [] [
  ⟨.load true J4 (.t 4), some 42, none⟩,
  ⟨.store J4 (.t 2) (.t 42), none, none⟩,
  ⟨.mv (.c (vb true)), some 3, none⟩])
  (.ret)))))))
def J3N : TFn := ⟨1, 43, JcV, [.cell 2 true J4, .tmp 3], false⟩
def JeB : TCo := .seq (.reg false [] [
  ⟨.box J3 (.t 0), some 2, none⟩,
  ⟨.mv (.c (vb false)), some 4, none⟩])
  (.keep [1, 2] (.seq (.reg false [] [
  ⟨.mv (.t 1), some 5, none⟩,
  ⟨.bin .geq .plain (.t 5) (.c (vi .i64 0)), some 6, none⟩,
  ⟨.mv (.t 6), some 7, none⟩,
  ⟨.mv (.t 1), some 8, some (7, true)⟩,
  ⟨.faddr 0 (.t 2), some 9, some (7, true)⟩,
  ⟨.load false (.l .s) (.t 9), some 10, some (7, true)⟩,
  ⟨.len false (.t 10), some 11, some (7, true)⟩,
  ⟨.bin .lss .plain (.t 8) (.t 11), some 12, some (7, true)⟩,
  ⟨.pick (.t 7) (.t 12) (.c (vb false)), some 13, none⟩,
  ⟨.mv (.t 13), some 4, none⟩])
  (.ret)))
def J49 : TFn := ⟨2, 14, JeB, [.tmp 4], false⟩
def Jb4 : TCo := .seq (.reg false [] [
  ⟨.box J3 (.t 0), some 2, none⟩,
  ⟨.box J4 (.t 1), some 3, none⟩,
  ⟨.mv (.c (vb false)), some 4, none⟩])
  (.keep [2, 3] (.seq (.reg false [] [
  ⟨.load true J4 (.t 3), some 8, none⟩,
  ⟨.call J1t [(.t 8)] 0, some 9, none⟩,
  ⟨.mv (.t 9), some 7, none⟩,
  ⟨.extr (.t 7) 0, some 10, none⟩,
  ⟨.extr (.t 7) 1, some 11, none⟩,
  ⟨.newbox J4, some 5, none⟩,
  ⟨.store J4 (.t 5) (.t 10), none, none⟩,
  ⟨.mv (.t 11), some 6, none⟩])
  (.keep [2, 3, 5, 6] (.seq (.reg false [] [
  ⟨.mv (.t 6), some 12, none⟩,
  ⟨.mv (.t 12), some 13, none⟩,
  ⟨.load true J4 (.t 5), some 14, some (13, true)⟩,
  ⟨.load true J4 (.t 3), some 15, some (13, true)⟩,
  ⟨.bin .eql (.flat J4) (.t 14) (.t 15), some 16, some (13, true)⟩,
  ⟨.pick (.t 13) (.t 16) (.c (vb false)), some 17, none⟩,
  ⟨.mv (.t 17), some 18, none⟩,
  ⟨.faddr 1 (.t 3), some 19, some (18, true)⟩,
  ⟨.load false (.i .i64) (.t 19), some 20, some (18, true)⟩,
  ⟨.faddr 1 (.t 2), some 21, some (18, true)⟩,
  ⟨.load false (.i .i64) (.t 21), some 22, some (18, true)⟩,
  ⟨.bin .gtr .plain (.t 20) (.t 22), some 23, some (18, true)⟩,
  ⟨.pick (.t 18) (.t 23) (.c (vb false)), some 24, none⟩,
  ⟨.mv (.t 24), some 25, none⟩,
  ⟨.faddr 1 (.t 3), some 26, some (25, true)⟩,
  ⟨.load false (.i .i64) (.t 26), some 27, some (25, true)⟩,
  ⟨.bin .leq .plain (.t 27) (.c (vi .i64 1099511627776)), some 28, some (25, true)⟩,
  ⟨.pick (.t 25) (.t 28) (.c (vb false)), some 29, none⟩,
  ⟨.mv (.t 29), some 30, none⟩,
  ⟨.load true J3 (.t 2), some 31, some (30, true)⟩,
  ⟨.faddr 2 (.t 3), some 32, some (30, true)⟩,
  ⟨.load false (.i .i64) (.t 32), some 33, some (30, true)⟩,
  ⟨.call J04 [(.t 31), (.t 33)] 0, some 34, some (30, true)⟩,
  ⟨.pick (.t 30) (.t 34) (.c (vb false)), some 35, none⟩,
  ⟨.mv (.t 35), some 36, none⟩,
  ⟨.load true J3 (.t 2), some 37, some (36, true)⟩,
  ⟨.faddr 3 (.t 3), some 38, some (36, true)⟩,
  ⟨.load false (.i .i64) (.t 38), some 39, some (36, true)⟩,
  ⟨.call J04 [(.t 37), (.t 39)] 0, some 40, some (36, true)⟩,
  ⟨.pick (.t 36) (.t 40) (.c (vb false)), some 41, none⟩,
  ⟨.mv (.t 41), some 42, none⟩,
  ⟨.faddr 4 (.t 3), some 43, some (42, true)⟩,
  ⟨.load false (.i .i64) (.t 43), some 44, some (42, true)⟩,
  ⟨.bin .geq .plain (.t 44) (.c (vi .i64 0)), some 45, some (42, true)⟩,
  ⟨.pick (.t 42) (.t 45) (.c (vb false)), some 46, none⟩,
  ⟨.mv (.t 46), some 47, none⟩,
  ⟨.faddr 4 (.t 3), some 48, some (47, true)⟩,
  ⟨.load false (.i .i64) (.t 48), some 49, some (47, true)⟩,
  ⟨.bin .lss .plain (.t 49) (.c (vi .i64 256)), some 50, some (47, true)⟩,
  ⟨.pick (.t 47) (.t 50) (.c (vb false)), some 51, none⟩,
  ⟨.mv (.t 51), some 52, none⟩,
  ⟨.faddr 0 (.t 3), some 53, some (52, true)⟩,
  ⟨.load false (.i .i64) (.t 53), some 54, some (52, true)⟩,
  ⟨.bin .neq .plain (.t 54) (.c (vi .i64 4)), some 55, some (52, true)⟩,
  ⟨.mv (.t 55), some 56, some (52, true)⟩,
  ⟨.faddr 5 (.t 3), some 57, some (56, false)⟩,
  ⟨.load false (.i .u8) (.t 57), some 58, some (56, false)⟩,
  ⟨.bin .neq .plain (.t 58) (.c (vi .u8 0)), some 59, some (56, false)⟩,
  ⟨.pick (.t 56) (.c (vb true)) (.t 59), some 60, some (52, true)⟩,
  ⟨.pick (.t 52) (.t 60) (.c (vb false)), some 61, none⟩,
  ⟨.mv (.t 61), some 4, none⟩])
  (.ret)))))
def J30 : TFn := ⟨2, 62, Jb4, [.tmp 4], false⟩
def Jbm : TCo := .seq (.reg false [] [
  ⟨.box J4 (.t 0), some 2, none⟩,
  ⟨.mv (.c (vb false)), some 3, none⟩])
  (.keep [1, 2] (.seq (.reg false [] [
  ⟨.load true J3 (.t 1), some 4, none⟩,
  ⟨.load true J4 (.t 2), some 5, none⟩,
  ⟨.call J0m [(.t 4), (.t 5)] 0, some 6, none⟩,
  ⟨.un .not (.t 6), some 7, none⟩,
  ⟨.mv (.t 7), some 3, none⟩])
  (.ret)))
def J35 : TFn := ⟨2, 8, Jbm, [.tmp 3], false⟩
def J3F : TCo := .seq (.reg false [] [
  ⟨.mv (.c (vi .i64 0)), some 4, none⟩])
  (.keep [0, 1] (.seq (.seq (.reg false [] [
  ⟨.mv (.t 0), some 6, none⟩,
  ⟨.len false (.t 6), some 7, none⟩,
  ⟨.mv (.c (vi .i64 0)), some 8, none⟩])
  (.keep [0, 1, 7, 8] (.block 0 (.loop [0, 1, 7, 8] (.seq (.reg false [] [
  ⟨.bin .lss .plain (.t 8) (.t 7), some 9, none⟩])
  (.keep [0, 1, 7, 8, 9] (.seq (.cond (.t 9)
  (.skip)
  (.exit 0))
  (.keep [0, 1, 7, 8] (.seq (.block 1 (.seq (.reg false [] [
  ⟨.mv (.t 8), some 10, none⟩,
  ⟨.mv (.t 10), some 5, none⟩])
  (.keep [0, 1, 5, 7, 8] (.seq (.reg false [] [
  ⟨.mv (.t 1), some 11, none⟩,
  ⟨.mv (.t 0), some 12, none⟩,
  ⟨.mv (.t 5), some 13, none⟩,
  ⟨.iaddr J4 (.t 12) (.t 13), some 14, none⟩,
  ⟨.load true J4 (.t 14), some 15, none⟩,
  ⟨.callv (.t 11) [(.t 15)] 0, some 16, none⟩])
  (.keep [0, 1, 5, 7, 8, 16] (.cond (.t 16)
  (.seq (.reg false [] [
  ⟨.mv (.t 5), some 17, none⟩,
  ⟨.mv (.t 17), some 4, none⟩])
  (.ret))
  (.skip)))))))
  (.keep [0, 1, 7, 8] (.reg false [] [
  ⟨.bin .add .plain (.t 8) (.c (vi .i64 1)), some 18, none⟩,
  ⟨.mv (.t 18), some 8, none⟩])))))))))))
  (.keep [] (.seq (.reg false [] [
  ⟨.mv (.c (vi .i64 (-1))), some 4, none⟩])
  (.ret)))))
def J0j : TFn := ⟨2, 19, J3F, [.tmp 4], false⟩
def J3h : TCo := .seq (.reg false [] [
  ⟨.mv (.c (vb false)), some 4, none⟩])
  (.keep [0, 1] (.seq (.reg false [] [
  ⟨.mv (.t 0), some 5, none⟩,
  ⟨.mv (.t 1), some 6, none⟩,
  ⟨.call JB [(.t 5), (.t 6)] 0, some 7, none⟩,
  ⟨.bin .geq .plain (.t 7) (.c (vi .i64 0)), some 8, none⟩,
  ⟨.mv (.t 8), some 4, none⟩])
  (.ret)))
def J08 : TFn := ⟨2, 9, J3h, [.tmp 4], false⟩
def J4S : TCo := .seq (.reg false [] [
  ⟨.mv (.c (vi .i64 0)), some 4, none⟩])
  (.keep [0, 1] (.seq (.seq (.reg false [] [
  ⟨.mv (.t 0), some 6, none⟩,
  ⟨.len false (.t 6), some 7, none⟩,
  ⟨.mv (.c (vi .i64 0)), some 8, none⟩])
  (.keep [0, 1, 7, 8] (.block 0 (.loop [0, 1, 7, 8] (.seq (.reg false [] [
  ⟨.bin .lss .plain (.t 8) (.t 7), some 9, none⟩])
  (.keep [0, 1, 7, 8, 9] (.seq (.cond (.t 9)
  (.skip)
  (.exit 0))
  (.keep [0, 1, 7, 8] (.seq (.block 1 (.seq (.reg false [] [
  ⟨.mv (.t 8), some 10, none⟩,
  ⟨.mv (.t 10), some 5, none⟩])
  (.keep [0, 1, 5, 7, 8] (.seq (.reg false [] [
  ⟨.mv (.t 1), some 11, none⟩,
  ⟨.mv (.t 0), some 12, none⟩,
  ⟨.mv (.t 5), some 13, none⟩,
  ⟨.iaddr .s (.t 12) (.t 13), some 14, none⟩,
  ⟨.load false .s (.t 14), some 15, none⟩,
  ⟨.callv (.t 11) [(.t 15)] 0, some 16, none⟩])
  (.keep [0, 1, 5, 7, 8, 16] (.cond (.t 16)
  (.seq (.reg false [] [
  ⟨.mv (.t 5), some 17, none⟩,
  ⟨.mv (.t 17), some 4, none⟩])
  (.ret))
  (.skip)))))))
  (.keep [0, 1, 7, 8] (.reg false [] [
  ⟨.bin .add .plain (.t 8) (.c (vi .i64 1)), some 18, none⟩,
  ⟨.mv (.t 18), some 8, none⟩])))))))))))
  (.keep [] (.seq (.reg false [] [
  ⟨.mv (.c (vi .i64 (-1))), some 4, none⟩])
  (.ret)))))
def J0J : TFn := ⟨2, 19, J4S, [.tmp 4], false⟩
def J4o : TCo := .seq (.reg false [] [
  ⟨.mv (.c (vb false)), some 4, none⟩])
  (.keep [0, 1] (.seq (.reg false [] [
  ⟨.mv (.t 0), some 5, none⟩,
  ⟨.mv (.t 1), some 6, none⟩,
  ⟨.call JL [(.t 5), (.t 6)] 0, some 7, none⟩,
  ⟨.bin .geq .plain (.t 7) (.c (vi .i64 0)), some 8, none⟩,
  ⟨.mv (.t 8), some 4, none⟩])
  (.ret)))
def J0t : TFn := ⟨2, 9, J4o, [.tmp 4], false⟩
def JdN : TCo := .seq (.reg false [] [
  ⟨.box J3 (.t 0), some 1, none⟩,
  ⟨.mv (.c (vb false)), some 2, none⟩])
  (.keep [1] (.seq (.seq (.reg false [] [
  ⟨.faddr 0 (.t 1), some 5, none⟩,
  ⟨.load false (.l .s) (.t 5), some 6, none⟩,
  ⟨.len false (.t 6), some 7, none⟩,
  ⟨.bin .lss .plain (.t 7) (.c (vi .i64 1)), some 8, none⟩,
  ⟨.mv (.t 8), some 9, none⟩,
  ⟨.faddr 0 (.t 1), some 10, some (9, false)⟩,
  ⟨.load false (.l .s) (.t 10), some 11, some (9, false)⟩,
  ⟨.len false (.t 11), some 12, some (9, false)⟩,
  ⟨.bin .gtr .plain (.t 12) (.c (vi .i64 64)), some 13, some (9, false)⟩,
  ⟨.pick (.t 9) (.c (vb true)) (.t 13), some 14, none⟩,
  ⟨.mv (.t 14), some 15, none⟩,
  ⟨.faddr 1 (.t 1), some 16, some (15, false)⟩,
  ⟨.load false (.i .i64) (.t 16), some 17, some (15, false)⟩,
  ⟨.bin .lss .plain (.t 17) (.c (vi .i64 0)), some 18, some (15, false)⟩,
  ⟨.pick (.t 15) (.c (vb true)) (.t 18), some 19, none⟩,
  ⟨.mv (.t 19), some 20, none⟩,
  ⟨.faddr 1 (.t 1), some 21, some (20, false)⟩,
  ⟨.load false (.i .i64) (.t 21), some 22, some (20, false)⟩,
  ⟨.bin .gtr .plain (.t 22) (.c (vi .i64 1099511627776)), some 23, some (20, false)⟩,
  ⟨.pick (.t 20) (.c (vb true)) (.t 23), some 24, none⟩,
  ⟨.mv (.t 24), some 25, none⟩,
  ⟨.faddr 4 (.t 1), some 26, some (25, false)⟩,
  ⟨.load false (.l J4) (.t 26), some 27, some (25, false)⟩,
  ⟨.len false (.t 27), some 28, some (25, false)⟩,
  ⟨.bin .gtr .plain (.t 28) (.c (vi .i64 64)), some 29, some (25, false)⟩,
  ⟨.pick (.t 25) (.c (vb true)) (.t 29), some 30, none⟩])
  (.keep [1, 30] (.cond (.t 30)
  (.seq (.reg false [] [
  ⟨.mv (.c (vb false)), some 2, none⟩])
  (.ret))
  (.skip))))
  (.keep [1] (.seq (.seq (.reg false [] [
  ⟨.faddr 2 (.t 1), some 31, none⟩,
  ⟨.load false (.l (.i .i64)) (.t 31), some 32, none⟩,
  ⟨.len false (.t 32), some 33, none⟩,
  ⟨.mv (.c (vi .i64 0)), some 34, none⟩])
  (.keep [1, 32, 33, 34] (.block 0 (.loop [1, 32, 33, 34] (.seq (.reg false [] [
  ⟨.bin .lss .plain (.t 34) (.t 33), some 35, none⟩])
  (.keep [1, 32, 33, 34, 35] (.seq (.cond (.t 35)
  (.skip)
  (.exit 0))
  (.keep [1, 32, 33, 34] (.seq (.block 1 (.seq (.reg false [] [
  ⟨.mv (.t 34), some 36, none⟩,
  ⟨.iaddr (.i .i64) (.t 32) (.t 34), some 37, none⟩,
  ⟨.load false (.i .i64) (.t 37), some 38, none⟩,
  ⟨.mv (.t 36), some 3, none⟩,
  ⟨.mv (.t 38), some 4, none⟩])
  (.keep [1, 3, 4, 32, 33, 34] (.seq (.reg false [] [
  ⟨.load true J3 (.t 1), some 39, none⟩,
  ⟨.mv (.t 4), some 40, none⟩,
  ⟨.call J04 [(.t 39), (.t 40)] 0, some 41, none⟩,
  ⟨.un .not (.t 41), some 42, none⟩,
  ⟨.mv (.t 42), some 43, none⟩,
  ⟨.mv (.t 3), some 44, some (43, false)⟩,
  ⟨.bin .gtr .plain (.t 44) (.c (vi .i64 0)), some 45, some (43, false)⟩,
  ⟨.mv (.t 45), some 46, some (43, false)⟩,
  ⟨.faddr 2 (.t 1), some 47, some (46, true)⟩,
  ⟨.load false (.l (.i .i64)) (.t 47), some 48, some (46, true)⟩,
  ⟨.mv (.t 3), some 49, some (46, true)⟩,
  ⟨.bin .sub .plain (.t 49) (.c (vi .i64 1)), some 50, some (46, true)⟩,
  ⟨.iaddr (.i .i64) (.t 48) (.t 50), some 51, some (46, true)⟩,
  ⟨.load false (.i .i64) (.t 51), some 52, some (46, true)⟩,
  ⟨.mv (.t 4), some 53, some (46, true)⟩,
  ⟨.bin .geq .plain (.t 52) (.t 53), some 54, some (46, true)⟩,
  ⟨.pick (.t 46) (.t 54) (.c (vb false)), some 55, some (43, false)⟩,
  ⟨.pick (.t 43) (.c (vb true)) (.t 55), some 56, none⟩])
  (.keep [1, 32, 33, 34, 56] (.cond (.t 56)
  (.seq (.reg false [] [
  ⟨.mv (.c (vb false)), some 2, none⟩])
  (.ret))
  (.skip)))))))
  (.keep [1, 32, 33, 34] (.reg false [] [
  ⟨.bin .add .plain (.t 34) (.c (vi .i64 1)), some 57, none⟩,
  ⟨.mv (.t 57), some 34, none⟩])))))))))))
  (.keep [1] (.seq (.reg false [] [
  ⟨.faddr 0 (.t 1), some 58, none⟩,
  ⟨.load false (.l .s) (.t 58), some 59, none⟩,
  ⟨.call JI [(.t 59), (.c (.a (.fn J0z [] [])))] 0, some 60, none⟩,
  ⟨.un .not (.t 60), some 61, none⟩,
  ⟨.mv (.t 61), some 62, none⟩,
  ⟨.faddr 4 (.t 1), some 63, some (62, true)⟩,
  ⟨.load false (.l J4) (.t 63), some 64, some (62, true)⟩,
  ⟨.mkfn J0x [] [(.t 1)], some 65, some (62, true)⟩,
  ⟨.call Jx [(.t 64), (.t 65)] 0, some 66, some (62, true)⟩,
  ⟨.un .not (.t 66), some 67, some (62, true)⟩,
  ⟨.pick (.t 62) (.t 67) (.c (vb false)), some 68, none⟩,
  ⟨.mv (.t 68), some 2, none⟩])
  (.ret)))))))
def J4h : TFn := ⟨1, 69, JdN, [.tmp 2], false⟩
def JcX : TCo := .seq (.reg false [] [
  ⟨.box J3 (.t 0), some 2, none⟩,
  ⟨.box J4 (.t 1), some 3, none⟩,
  ⟨.newbox J3, some 4, none⟩,
  ⟨.mv (.c (vi .i64 0)), some 5, none⟩])
  (.keep [2, 3, 4] (.seq (.block 0 (.seq (.reg false [] [
  ⟨.load true J3 (.t 2), some 7, none⟩,
  ⟨.call J0B [(.t 7)] 0, some 8, none⟩,
  ⟨.un .not (.t 8), some 9, none⟩,
  ⟨.mv (.t 9), some 6, none⟩])
  (.keep [2, 3, 4, 6] (.cond (.t 6)
  (.seq (.reg false [] [
  ⟨.build J3 [], some 10, none⟩,
  ⟨.store J3 (.t 4) (.t 10), none, none⟩,
  ⟨.mv (.c (vi .i64 15)), some 5, none⟩])
  (.ret))
  (.seq (.reg false [] [
  ⟨.load true J3 (.t 2), some 12, none⟩,
  ⟨.load true J4 (.t 3), some 13, none⟩,
  ⟨.call J0m [(.t 12), (.t 13)] 0, some 14, none⟩,
  ⟨.un .not (.t 14), some 15, none⟩,
  ⟨.mv (.t 15), some 11, none⟩])
  (.keep [2, 3, 4, 11] (.cond (.t 11)
  (.seq (.reg false [] [
  ⟨.build J3 [], some 16, none⟩,
  ⟨.store J3 (.t 4) (.t 16), none, none⟩,
  ⟨.mv (.c (vi .i64 1)), some 5, none⟩])
  (.ret))
  (.seq (.reg false [] [
  ⟨.faddr 4 (.t 2), some 18, none⟩,
  ⟨.load false (.l J4) (.t 18), some 19, none⟩,
  ⟨.len false (.t 19), some 20, none⟩,
  ⟨.bin .eql .plain (.t 20) (.c (vi .i64 64)), some 21, none⟩,
  ⟨.mv (.t 21), some 17, none⟩])
  (.keep [2, 3, 4, 17] (.cond (.t 17)
  (.seq (.reg false [] [
  ⟨.build J3 [], some 22, none⟩,
  ⟨.store J3 (.t 4) (.t 22), none, none⟩,
  ⟨.mv (.c (vi .i64 21)), some 5, none⟩])
  (.ret))
  (.skip)))))))))))
  (.keep [2, 3, 4] (.seq (.reg true [(2, 3), (1, 4), (2, 4)] [
  ⟨.faddr 4 (.t 2), some 23, none⟩,
  ⟨.load false (.l J4) (.t 23), some 24, none⟩,
  ⟨.call Jy [(.t 24)] 1, some 25, none⟩,
  ⟨.load true J4 (.t 3), some 26, none⟩,
  ⟨.lits false J4 1 [(0, (.t 26))], some 27, none⟩,
  ⟨.app J4 48 (.t 25) (.t 27), some 28, none⟩,
  ⟨.faddr 4 (.t 2), some 29, none⟩,
  ⟨.store (.l J4) (.t 29) (.t 28), none, none⟩])
  (.keep [2, 4] (.seq (.reg false [] [
  ⟨.load true J3 (.t 2), some 30, none⟩,
  ⟨.store J3 (.t 4) (.t 30), none, none⟩,
  ⟨.mv (.c (vi .i64 0)), some 5, none⟩])
  (.ret)))))))
def J3L : TFn := ⟨2, 31, JcX, [.cell 4 true J3, .tmp 5], false⟩
def Jen : TCo := .seq (.reg false [] [
  ⟨.mv (.c (vl .s [])), some 2, none⟩])
  (.keep [0] (.seq (.reg false [] [
  ⟨.call J1J [(.c (vs [0])), (.c (vi .i64 256))] 0, some 3, none⟩,
  ⟨.lits false .s 1 [(0, (.t 3))], some 4, none⟩,
  ⟨.mv (.t 0), some 5, none⟩,
  ⟨.call J0b [(.t 4), (.t 5)] 0, some 6, none⟩,
  ⟨.mv (.t 6), some 2, none⟩])
  (.ret)))
def J4k : TFn := ⟨1, 7, Jen, [.tmp 2], false⟩
def Jh7 : TCo := .seq (.reg false [] [
  ⟨.newbox J3, some 2, none⟩,
  ⟨.mv (.c (vi .i64 0)), some 3, none⟩])
  (.keep [0, 2] (.seq (.seq (.reg false [] [
  ⟨.mv (.t 0), some 4, none⟩,
  ⟨.bin .lss .plain (.t 4) (.c (vi .i64 1)), some 5, none⟩,
  ⟨.mv (.t 5), some 6, none⟩,
  ⟨.mv (.t 0), some 7, some (6, false)⟩,
  ⟨.bin .gtr .plain (.t 7) (.c (vi .i64 64)), some 8, some (6, false)⟩,
  ⟨.pick (.t 6) (.c (vb true)) (.t 8), some 9, none⟩])
  (.keep [0, 2, 9] (.cond (.t 9)
  (.seq (.reg false [] [
  ⟨.build J3 [], some 10, none⟩,
  ⟨.store J3 (.t 2) (.t 10), none, none⟩,
  ⟨.mv (.c (vi .i64 1)), some 3, none⟩])
  (.ret))
  (.skip))))
  (.keep [0, 2] (.seq (.reg false [] [
  ⟨.mv (.t 0), some 11, none⟩,
  ⟨.call J1m [(.t 11)] 0, some 12, none⟩,
  ⟨.build J3 [(0, (.l .s), (.t 12))], some 13, none⟩,
  ⟨.store J3 (.t 2) (.t 13), none, none⟩,
  ⟨.mv (.c (vi .i64 0)), some 3, none⟩])
  (.ret)))))
def J5z : TFn := ⟨1, 14, Jh7, [.cell 2 true J3, .tmp 3], false⟩
def JdD : TCo := .seq (.reg false [] [
  ⟨.box J3 (.t 0), some 2, none⟩,
  ⟨.mv (.c (vi .i64 0)), some 4, none⟩])
  (.keep [1, 2] (.seq (.block 0 (.seq (.reg false [] [
  ⟨.load true J3 (.t 2), some 6, none⟩,
  ⟨.call J0B [(.t 6)] 0, some 7, none⟩,
  ⟨.un .not (.t 7), some 8, none⟩,
  ⟨.mv (.t 8), some 5, none⟩])
  (.keep [1, 2, 5] (.cond (.t 5)
  (.seq (.reg false [] [
  ⟨.mv (.c (vi .i64 15)), some 4, none⟩])
  (.ret))
  (.seq (.reg false [] [
  ⟨.faddr 3 (.t 2), some 10, none⟩,
  ⟨.load false .b (.t 10), some 11, none⟩,
  ⟨.mv (.t 11), some 9, none⟩])
  (.keep [1, 2, 9] (.cond (.t 9)
  (.seq (.reg false [] [
  ⟨.mv (.c (vi .i64 10)), some 4, none⟩])
  (.ret))
  (.seq (.reg false [] [
  ⟨.load true J3 (.t 2), some 13, none⟩,
  ⟨.mv (.t 1), some 14, none⟩,
  ⟨.call J04 [(.t 13), (.t 14)] 0, some 15, none⟩,
  ⟨.un .not (.t 15), some 16, none⟩,
  ⟨.mv (.t 16), some 12, none⟩])
  (.keep [12] (.cond (.t 12)
  (.seq (.reg false [] [
  ⟨.mv (.c (vi .i64 1)), some 4, none⟩])
  (.ret))
  (.skip)))))))))))
  (.keep [] (.seq (.reg false [] [
  ⟨.mv (.c (vi .i64 0)), some 4, none⟩])
  (.ret)))))
def J3M : TFn := ⟨2, 17, JdD, [.tmp 4], false⟩
def J82 : TCo := .seq (.reg false [] [
  ⟨.mv (.c (vi .i64 0)), some 4, none⟩])
  (.keep [0, 1] (.seq (.seq (.reg false [] [
  ⟨.mv (.t 0), some 6, none⟩,
  ⟨.len false (.t 6), some 7, none⟩,
  ⟨.mv (.c (vi .i64 0)), some 8, none⟩])
  (.keep [0, 1, 7, 8] (.block 0 (.loop [0, 1, 7, 8] (.seq (.reg false [] [
  ⟨.bin .lss .plain (.t 8) (.t 7), some 9, none⟩])
  (.keep [0, 1, 7, 8, 9] (.seq (.cond (.t 9)
  (.skip)
  (.exit 0))
  (.keep [0, 1, 7, 8] (.seq (.block 1 (.seq (.reg false [] [
  ⟨.mv (.t 8), some 10, none⟩,
  ⟨.mv (.t 10), some 5, none⟩])
  (.keep [0, 1, 5, 7, 8] (.seq (.reg false [] [
  ⟨.mv (.t 1), some 11, none⟩,
  ⟨.mv (.t 0), some 12, none⟩,
  ⟨.mv (.t 5), some 13, none⟩,
  ⟨.iaddr (.i .i64) (.t 12) (.t 13), some 14, none⟩,
  ⟨.load false (.i .i64) (.t 14), some 15, none⟩,
  ⟨.bin .eql .plain (.t 11) (.t 15), some 16, none⟩])
  (.keep [0, 1, 5, 7, 8, 16] (.cond (.t 16)
  (.seq (.reg false [] [
  ⟨.mv (.t 5), some 17, none⟩,
  ⟨.mv (.t 17), some 4, none⟩])
  (.ret))
  (.skip)))))))
  (.keep [0, 1, 7, 8] (.reg false [] [
  ⟨.bin .add .plain (.t 8) (.c (vi .i64 1)), some 18, none⟩,
  ⟨.mv (.t 18), some 8, none⟩])))))))))))
  (.keep [] (.seq (.reg false [] [
  ⟨.mv (.c (vi .i64 (-1))), some 4, none⟩])
  (.ret)))))
def J1P : TFn := ⟨2, 19, J82, [.tmp 4], false⟩
def J6T : TCo := .seq (.reg false [] [
  ⟨.mv (.c (vb false)), some 4, none⟩])
  (.keep [0, 1] (.seq (.reg false [] [
  ⟨.mv (.t 0), some 5, none⟩,
  ⟨.mv (.t 1), some 6, none⟩,
  ⟨.call J0s [(.t 5), (.t 6)] 0, some 7, none⟩,
  ⟨.bin .geq .plain (.t 7) (.c (vi .i64 0)), some 8, none⟩,
  ⟨.mv (.t 8), some 4, none⟩])
  (.ret)))
def J1o : TFn := ⟨2, 9, J6T, [.tmp 4], false⟩
def Jfm : TCo := .seq (.reg false [] [
  ⟨.box J3 (.t 0), some 2, none⟩,
  ⟨.mv (.c (vs [])), some 4, none⟩,
  ⟨.mv (.c (vi .i64 0)), some 5, none⟩])
  (.keep [1, 2] (.seq (.seq (.reg false [] [
  ⟨.load true J3 (.t 2), some 7, none⟩,
  ⟨.mv (.t 1), some 8, none⟩,
  ⟨.call J1b [(.t 7), (.t 8)] 0, some 9, none⟩,
  ⟨.mv (.t 9), some 6, none⟩])
  (.keep [1, 2, 6] (.seq (.reg false [] [
  ⟨.mv (.t 6), some 10, none⟩,
  ⟨.bin .neq .plain (.t 10) (.c (vi .i64 0)), some 11, none⟩])
  (.keep [1, 2, 6, 11] (.cond (.t 11)
  (.seq (.reg false [] [
  ⟨.mv (.t 6), some 12, none⟩,
  ⟨.mv (.c (vs [])), some 4, none⟩,
  ⟨.mv (.t 12), some 5, none⟩])
  (.ret))
  (.skip))))))
  (.keep [1, 2] (.seq (.seq (.reg false [] [
  ⟨.faddr 2 (.t 2), some 13, none⟩,
  ⟨.load false (.l (.i .i64)) (.t 13), some 14, none⟩,
  ⟨.mv (.t 1), some 15, none⟩,
  ⟨.call J0d [(.t 14), (.t 15)] 0, some 16, none⟩])
  (.keep [1, 2, 16] (.cond (.t 16)
  (.seq (.reg false [] [
  ⟨.mv (.c (vs [])), some 4, none⟩,
  ⟨.mv (.c (vi .i64 11)), some 5, none⟩])
  (.ret))
  (.skip))))
  (.keep [1, 2] (.seq (.reg false [] [
  ⟨.faddr 0 (.t 2), some 17, none⟩,
  ⟨.load false (.l .s) (.t 17), some 18, none⟩,
  ⟨.mv (.t 1), some 19, none⟩,
  ⟨.iaddr .s (.t 18) (.t 19), some 20, none⟩,
  ⟨.load false .s (.t 20), some 21, none⟩,
  ⟨.mv (.t 21), some 4, none⟩,
  ⟨.mv (.c (vi .i64 0)), some 5, none⟩])
  (.ret)))))))
def J4M : TFn := ⟨2, 22, Jfm, [.tmp 4, .tmp 5], false⟩
def Jbo : TCo := .seq (.reg false [] [
  ⟨.mv (.c (vi .i64 0)), some 4, none⟩])
  (.keep [0, 1] (.seq (.seq (.reg true [] [
  ⟨.mv (.t 0), some 6, none⟩,
  ⟨.nilchk (.t 6), some 7, none⟩,
  ⟨.faddr 1 (.t 7), some 8, none⟩,
  ⟨.load false (.i .i64) (.t 8), some 9, none⟩,
  ⟨.mv (.t 0), some 10, none⟩,
  ⟨.nilchk (.t 10), some 11, none⟩,
  ⟨.faddr 0 (.t 11), some 12, none⟩,
  ⟨.load false (.l (.i .u8)) (.t 12), some 13, none⟩,
  ⟨.len false (.t 13), some 14, none⟩,
  ⟨.bin .geq .plain (.t 9) (.t 14), some 15, none⟩,
  ⟨.mv (.t 15), some 16, none⟩,
  ⟨.mv (.t 1), some 17, some (16, false)⟩,
  ⟨.bin .lss .plain (.t 17) (.c (vi .i64 1)), some 18, some (16, false)⟩,
  ⟨.pick (.t 16) (.c (vb true)) (.t 18), some 19, none⟩])
  (.keep [0, 1, 19] (.cond (.t 19)
  (.seq (.reg false [] [
  ⟨.mv (.c (vi .i64 0)), some 4, none⟩])
  (.ret))
  (.skip))))
  (.keep [0, 1] (.seq (.reg true [] [
  ⟨.mv (.t 0), some 20, none⟩,
  ⟨.nilchk (.t 20), some 21, none⟩,
  ⟨.faddr 0 (.t 21), some 22, none⟩,
  ⟨.load false (.l (.i .u8)) (.t 22), some 23, none⟩,
  ⟨.mv (.t 0), some 24, none⟩,
  ⟨.nilchk (.t 24), some 25, none⟩,
  ⟨.faddr 1 (.t 25), some 26, none⟩,
  ⟨.load false (.i .i64) (.t 26), some 27, none⟩,
  ⟨.iaddr (.i .u8) (.t 23) (.t 27), some 28, none⟩,
  ⟨.load false (.i .u8) (.t 28), some 29, none⟩,
  ⟨.conv (.int .i64) (.t 29), some 30, none⟩,
  ⟨.mv (.t 30), some 5, none⟩])
  (.keep [0, 1, 5] (.seq (.reg false [] [
  ⟨.mv (.t 0), some 31, none⟩,
  ⟨.nilchk (.t 31), some 32, none⟩,
  ⟨.faddr 1 (.t 32), some 33, none⟩,
  ⟨.load false (.i .i64) (.t 33), some 34, none⟩,
  ⟨.bin .add .plain (.t 34) (.c (vi .i64 1)), some 35, none⟩,
  ⟨.nilchk (.t 31), some 36, none⟩,
  ⟨.faddr 1 (.t 36), some 37, none⟩,
  ⟨.store (.i .i64) (.t 37) (.t 35), none, none⟩])
  (.keep [0, 1, 5] (.seq (.seq (.reg false [] [
  ⟨.mv (.t 1), some 38, none⟩,
  ⟨.bin .gtr .plain (.t 38) (.c (vi .i64 256)), some 39, none⟩])
  (.keep [0, 1, 5, 39] (.cond (.t 39)
  (.seq (.reg false [] [
  ⟨.mv (.t 5), some 40, none⟩,
  ⟨.bin .mul .plain (.c (vi .i64 256)) (.t 40), some 41, none⟩,
  ⟨.mv (.t 0), some 42, none⟩,
  ⟨.call i_draw_Codes_Next [(.t 42), (.c (vi .i64 256))] 0, some 43, none⟩,
  ⟨.bin .add .plain (.t 41) (.t 43), some 44, none⟩,
  ⟨.mv (.t 1), some 45, none⟩,
  ⟨.bin .rem .plain (.t 44) (.t 45), some 46, none⟩,
  ⟨.mv (.t 46), some 4, none⟩])
  (.ret))
  (.skip))))
  (.keep [1, 5] (.seq (.reg false [] [
  ⟨.mv (.t 5), some 47, none⟩,
  ⟨.mv (.t 1), some 48, none⟩,
  ⟨.bin .rem .plain (.t 47) (.t 48), some 49, none⟩,
  ⟨.mv (.t 49), some 4, none⟩])
  (.ret)))))))))))
def J36 : TFn := ⟨2, 50, Jbo, [.tmp 4], false⟩
def JaE : TCo := .seq (.reg false [] [
  ⟨.mv (.c (vs [])), some 2, none⟩])
  (.keep [0] (.seq (.reg false [] [
  ⟨.mkslice true (.i .u8) 1 (.c (vi .i64 256)) (.c (vi .i64 256)), some 6, none⟩,
  ⟨.mv (.t 6), some 3, none⟩])
  (.keep [0, 3] (.seq (.reg false [] [
  ⟨.mv (.t 0), some 7, none⟩,
  ⟨.call i_draw_Codes_Next [(.t 7), (.c (vi .i64 256))] 0, some 8, none⟩,
  ⟨.conv (.int .u8) (.t 8), some 9, none⟩,
  ⟨.mv (.t 9), some 4, none⟩])
  (.keep [0, 3, 4] (.seq (.seq (.reg false [] [
  ⟨.mv (.c (vi .i64 0)), some 5, none⟩])
  (.keep [0, 3, 4, 5] (.block 0 (.loop [0, 3, 4, 5] (.seq (.seq (.reg false [] [
  ⟨.mv (.t 5), some 10, none⟩,
  ⟨.mv (.t 3), some 11, none⟩,
  ⟨.len false (.t 11), some 12, none⟩,
  ⟨.bin .lss .plain (.t 10) (.t 12), some 13, none⟩])
  (.keep [0, 3, 4, 5, 13] (.cond (.t 13)
  (.skip)
  (.exit 0))))
  (.keep [0, 3, 4, 5] (.seq (.block 1 (.reg false [] [
  ⟨.mv (.t 3), some 16, none⟩,
  ⟨.mv (.t 5), some 17, none⟩,
  ⟨.mv (.t 4), some 18, none⟩,
  ⟨.iaddr (.i .u8) (.t 16) (.t 17), some 19, none⟩,
  ⟨.store (.i .u8) (.t 19) (.t 18), none, none⟩]))
  (.keep [0, 3, 4, 5] (.reg false [] [
  ⟨.mv (.t 5), some 14, none⟩,
  ⟨.bin .add .plain (.t 14) (.c (vi .i64 1)), some 15, none⟩,
  ⟨.mv (.t 15), some 5, none⟩])))))))))
  (.keep [0, 3] (.seq (.reg false [] [
  ⟨.mv (.t 3), some 20, none⟩,
  ⟨.mv (.t 0), some 21, none⟩,
  ⟨.call i_draw_Codes_Next [(.t 21), (.c (vi .i64 256))] 0, some 22, none⟩,
  ⟨.mv (.t 0), some 23, none⟩,
  ⟨.call i_draw_Codes_Next [(.t 23), (.c (vi .i64 256))] 0, some 24, none⟩,
  ⟨.conv (.int .u8) (.t 24), some 25, none⟩,
  ⟨.iaddr (.i .u8) (.t 20) (.t 22), some 26, none⟩,
  ⟨.store (.i .u8) (.t 26) (.t 25), none, none⟩])
  (.keep [3] (.seq (.reg false [] [
  ⟨.mv (.t 3), some 27, none⟩,
  ⟨.conv .toStr (.t 27), some 28, none⟩,
  ⟨.mv (.t 28), some 2, none⟩])
  (.ret)))))))))))
def J2C : TFn := ⟨1, 29, JaE, [.tmp 2], false⟩
def JbQ : TCo := .seq (.reg false [] [
  ⟨.mv (.c (vi .i64 0)), some 2, none⟩])
  (.keep [0] (.seq (.seq (.reg false [] [
  ⟨.mv (.t 0), some 3, none⟩,
  ⟨.call i_draw_Codes_Next [(.t 3), (.c (vi .i64 10))] 0, some 4, none⟩])
  (.keep [0, 4] (.block 0 (.seq (.reg false [] [
  ⟨.bin .eql .plain (.t 4) (.c (vi .i64 0)), some 6, none⟩,
  ⟨.mv (.t 6), some 5, none⟩])
  (.keep [0, 4, 5] (.cond (.t 5)
  (.seq (.reg false [] [
  ⟨.mv (.t 0), some 7, none⟩,
  ⟨.call i_draw_Codes_Next [(.t 7), (.c (vi .i64 3))] 0, some 8, none⟩,
  ⟨.bin .sub .plain (.c (vi .i64 (-1))) (.t 8), some 9, none⟩,
  ⟨.mv (.t 9), some 2, none⟩])
  (.ret))
  (.seq (.reg false [] [
  ⟨.bin .eql .plain (.t 4) (.c (vi .i64 1)), some 11, none⟩,
  ⟨.mv (.t 11), some 10, none⟩])
  (.keep [0, 10] (.cond (.t 10)
  (.seq (.reg false [] [
  ⟨.lits false (.i .i64) 16 [(0, (.c (vi .i64 9223372036854775807))), (1, (.c (vi .i64 (-9223372036854775808)))), (2, (.c (vi .i64 1099511627776))), (3, (.c (vi .i64 1099511627777))), (4, (.c (vi .i64 1073741824))), (5, (.c (vi .i64 1073741825))), (6, (.c (vi .i64 64))), (7, (.c (vi .i64 63))), (8, (.c (vi .i64 16))), (9, (.c (vi .i64 15))), (10, (.c (vi .i64 256))), (11, (.c (vi .i64 255))), (12, (.c (vi .i64 4294967296))), (13, (.c (vi .i64 65536))), (14, (.c (vi .i64 256))), (15, (.c (vi .i64 255)))], some 12, none⟩,
  ⟨.mv (.t 0), some 13, none⟩,
  ⟨.call i_draw_Codes_Next [(.t 13), (.c (vi .i64 16))] 0, some 14, none⟩,
  ⟨.iaddr (.i .i64) (.t 12) (.t 14), some 15, none⟩,
  ⟨.load false (.i .i64) (.t 15), some 16, none⟩,
  ⟨.mv (.t 16), some 2, none⟩])
  (.ret))
  (.skip))))))))))
  (.keep [0] (.seq (.reg false [] [
  ⟨.mv (.t 0), some 17, none⟩,
  ⟨.call i_draw_Codes_Next [(.t 17), (.c (vi .i64 20))] 0, some 18, none⟩,
  ⟨.mv (.t 18), some 2, none⟩])
  (.ret)))))
def J7h : TFn := ⟨1, 19, JbQ, [.tmp 2], false⟩
def Jay : TCo := .seq (.reg false [] [
  ⟨.newbox J4, some 6, none⟩])
  (.keep [0, 1, 2, 6] (.seq (.reg false [] [
  ⟨.mv (.t 0), some 8, none⟩,
  ⟨.call i_draw_Codes_Next [(.t 8), (.c (vi .i64 6))] 0, some 9, none⟩,
  ⟨.bin .add .plain (.c (vi .i64 1)) (.t 9), some 10, none⟩,
  ⟨.mv (.t 2), some 11, none⟩,
  ⟨.bin .add .plain (.t 11) (.c (vi .i64 1)), some 12, none⟩,
  ⟨.mv (.t 0), some 13, none⟩,
  ⟨.call i_draw_Codes_Next [(.t 13), (.c (vi .i64 6))] 0, some 14, none⟩,
  ⟨.bin .add .plain (.t 12) (.t 14), some 15, none⟩,
  ⟨.build J4 [(0, (.i .i64), (.t 10)), (1, (.i .i64), (.t 15))], some 16, none⟩,
  ⟨.newbox J4, some 7, none⟩,
  ⟨.store J4 (.t 7) (.t 16), none, none⟩])
  (.keep [0, 1, 6, 7] (.seq (.seq (.reg false [] [
  ⟨.faddr 0 (.t 7), some 17, none⟩,
  ⟨.load false (.i .i64) (.t 17), some 18, none⟩])
  (.keep [0, 1, 6, 7, 18] (.block 0 (.seq (.reg false [] [
  ⟨.bin .eql .plain (.t 18) (.c (vi .i64 2)), some 20, none⟩,
  ⟨.mv (.t 20), some 19, none⟩])
  (.keep [0, 1, 6, 7, 18, 19] (.cond (.t 19)
  (.reg false [] [
  ⟨.mv (.t 0), some 21, none⟩,
  ⟨.mv (.t 1), some 22, none⟩,
  ⟨.call i_draw_Codes_Next [(.t 21), (.t 22)] 0, some 23, none⟩,
  ⟨.faddr 3 (.t 7), some 24, none⟩,
  ⟨.store (.i .i64) (.t 24) (.t 23), none, none⟩])
  (.seq (.reg false [] [
  ⟨.bin .eql .plain (.t 18) (.c (vi .i64 3)), some 26, none⟩,
  ⟨.mv (.t 26), some 25, none⟩])
  (.keep [0, 1, 6, 7, 18, 25] (.cond (.t 25)
  (.reg false [] [
  ⟨.mv (.t 0), some 27, none⟩,
  ⟨.call i_draw_Codes_Next [(.t 27), (.c (vi .i64 256))] 0, some 28, none⟩,
  ⟨.faddr 4 (.t 7), some 29, none⟩,
  ⟨.store (.i .i64) (.t 29) (.t 28), none, none⟩])
  (.seq (.reg false [] [
  ⟨.bin .eql .plain (.t 18) (.c (vi .i64 4)), some 31, none⟩,
  ⟨.mv (.t 31), some 30, none⟩])
  (.keep [0, 1, 6, 7, 18, 30] (.cond (.t 30)
  (.reg false [] [
  ⟨.mv (.t 0), some 32, none⟩,
  ⟨.mv (.t 1), some 33, none⟩,
  ⟨.call i_draw_Codes_Next [(.t 32), (.t 33)] 0, some 34, none⟩,
  ⟨.mv (.t 0), some 35, none⟩,
  ⟨.call i_draw_Codes_Next [(.t 35), (.c (vi .i64 256))] 0, some 36, none⟩,
  ⟨.mv (.t 0), some 37, none⟩,
  ⟨.call i_draw_Codes_Next [(.t 37), (.c (vi .i64 255))] 0, some 38, none⟩,
  ⟨.bin .add .plain (.c (vi .i64 1)) (.t 38), some 39, none⟩,
  ⟨.conv (.int .u8) (.t 39), some 40, none⟩,
  ⟨.faddr 2 (.t 7), some 41, none⟩,
  ⟨.store (.i .i64) (.t 41) (.t 34), none, none⟩,
  ⟨.faddr 4 (.t 7), some 42, none⟩,
  ⟨.store (.i .i64) (.t 42) (.t 36), none, none⟩,
  ⟨.faddr 5 (.t 7), some 43, none⟩,
  ⟨.store (.i .u8) (.t 43) (.t 40), none, none⟩])
  (.seq (.reg false [] [
  ⟨.bin .eql .plain (.t 18) (.c (vi .i64 5)), some 45, none⟩,
  ⟨.mv (.t 45), some 44, none⟩])
  (.keep [0, 1, 6, 7, 44] (.cond (.t 44)
  (.reg false [] [
  ⟨.mv (.t 0), some 46, none⟩,
  ⟨.mv (.t 1), some 47, none⟩,
  ⟨.call i_draw_Codes_Next [(.t 46), (.t 47)] 0, some 48, none⟩,
  ⟨.faddr 2 (.t 7), some 49, none⟩,
  ⟨.store (.i .i64) (.t 49) (.t 48), none, none⟩])
  (.skip))))))))))))))))
  (.keep [0, 6, 7] (.seq (.seq (.reg false [] [
  ⟨.mv (.t 0), some 50, none⟩,
  ⟨.call i_draw_Codes_Next [(.t 50), (.c (vi .i64 16))] 0, some 51, none⟩])
  (.keep [0, 6, 7, 51] (.block 1 (.seq (.reg false [] [
  ⟨.bin .eql .plain (.t 51) (.c (vi .i64 12)), some 53, none⟩,
  ⟨.mv (.t 53), some 52, none⟩])
  (.keep [0, 6, 7, 51, 52] (.cond (.t 52)
  (.reg false [] [
  ⟨.mv (.t 0), some 54, none⟩,
  ⟨.call J1K [(.t 54)] 0, some 55, none⟩,
  ⟨.faddr 1 (.t 7), some 56, none⟩,
  ⟨.store (.i .i64) (.t 56) (.t 55), none, none⟩])
  (.seq (.reg false [] [
  ⟨.bin .eql .plain (.t 51) (.c (vi .i64 13)), some 58, none⟩,
  ⟨.mv (.t 58), some 57, none⟩])
  (.keep [0, 6, 7, 51, 57] (.cond (.t 57)
  (.reg false [] [
  ⟨.mv (.t 0), some 59, none⟩,
  ⟨.call J1K [(.t 59)] 0, some 60, none⟩,
  ⟨.faddr 2 (.t 7), some 61, none⟩,
  ⟨.store (.i .i64) (.t 61) (.t 60), none, none⟩,
  ⟨.faddr 5 (.t 7), some 62, none⟩,
  ⟨.store (.i .u8) (.t 62) (.c (vi .u8 0)), none, none⟩])
  (.seq (.reg false [] [
  ⟨.bin .eql .plain (.t 51) (.c (vi .i64 14)), some 64, none⟩,
  ⟨.mv (.t 64), some 63, none⟩])
  (.keep [0, 6, 7, 51, 63] (.cond (.t 63)
  (.reg false [] [
  ⟨.mv (.t 0), some 65, none⟩,
  ⟨.call J1K [(.t 65)] 0, some 66, none⟩,
  ⟨.mv (.t 0), some 67, none⟩,
  ⟨.call J1K [(.t 67)] 0, some 68, none⟩,
  ⟨.faddr 3 (.t 7), some 69, none⟩,
  ⟨.store (.i .i64) (.t 69) (.t 66), none, none⟩,
  ⟨.faddr 4 (.t 7), some 70, none⟩,
  ⟨.store (.i .i64) (.t 70) (.t 68), none, none⟩])
  (.seq (.reg false [] [
  ⟨.bin .eql .plain (.t 51) (.c (vi .i64 15)), some 72, none⟩,
  ⟨.mv (.t 72), some 71, none⟩])
  (.keep [0, 6, 7, 71] (.cond (.t 71)
  (.reg false [] [
  ⟨.mv (.t 0), some 73, none⟩,
  ⟨.call i_draw_Codes_Next [(.t 73), (.c (vi .i64 9))] 0, some 74, none⟩,
  ⟨.bin .sub .plain (.t 74) (.c (vi .i64 1)), some 75, none⟩,
  ⟨.faddr 0 (.t 7), some 76, none⟩,
  ⟨.store (.i .i64) (.t 76) (.t 75), none, none⟩])
  (.skip))))))))))))))))
  (.keep [6, 7] (.seq (.reg false [] [
  ⟨.load true J4 (.t 7), some 77, none⟩,
  ⟨.store J4 (.t 6) (.t 77), none, none⟩])
  (.ret)))))))))
def J6f : TFn := ⟨3, 78, Jay, [.cell 6 true J4], false⟩
def Jbn : TCo := .seq (.reg false [] [
  ⟨.mv (.c (vi .i64 0)), some 2, none⟩])
  (.keep [0] (.seq (.reg true [] [
  ⟨.mv (.t 0), some 3, none⟩,
  ⟨.nilchk (.t 3), some 4, none⟩,
  ⟨.faddr 0 (.t 4), some 5, none⟩,
  ⟨.load false (.l (.i .u8)) (.t 5), some 6, none⟩,
  ⟨.len false (.t 6), some 7, none⟩,
  ⟨.mv (.t 0), some 8, none⟩,
  ⟨.nilchk (.t 8), some 9, none⟩,
  ⟨.faddr 1 (.t 9), some 10, none⟩,
  ⟨.load false (.i .i64) (.t 10), some 11, none⟩,
  ⟨.bin .sub .plain (.t 7) (.t 11), some 12, none⟩,
  ⟨.mv (.t 12), some 2, none⟩])
  (.ret)))
def J33 : TFn := ⟨1, 13, Jbn, [.tmp 2], false⟩
def Jkr : TCo := .seq (.reg false [] [
  ⟨.mv (.c (.a (.c .np))), some 4, none⟩])
  (.keep [0, 1] (.seq (.seq (.reg false [] [
  ⟨.mv (.t 0), some 5, none⟩,
  ⟨.len false (.t 5), some 6, none⟩,
  ⟨.mv (.t 1), some 7, none⟩,
  ⟨.bin .gtr .plain (.t 6) (.t 7), some 8, none⟩])
  (.keep [0, 1, 8] (.cond (.t 8)
  (.reg false [] [
  ⟨.mv (.t 0), some 9, none⟩,
  ⟨.mv (.t 1), some 10, none⟩,
  ⟨.slice (.sl (.i .u8)) (.t 9) none (some (.t 10)) none, some 11, none⟩,
  ⟨.mv (.t 11), some 0, none⟩])
  (.skip))))
  (.keep [0] (.seq (.reg false [] [
  ⟨.mv (.t 0), some 12, none⟩,
  ⟨.build Js [(0, (.l (.i .u8)), (.t 12))], some 13, none⟩,
  ⟨.box Js (.t 13), some 14, none⟩,
  ⟨.mv (.t 14), some 4, none⟩])
  (.ret)))))
def J6C : TFn := ⟨2, 15, Jkr, [.tmp 4], false⟩
def JfD : TCo := .seq (.reg false [] [
  ⟨.mv (.c (vb false)), some 0, none⟩])
  (.keep [] (.seq (.reg false [] [
  ⟨.call J0r [(.c (vi .i64 1))] 0, some 11, none⟩,
  ⟨.mv (.t 11), some 10, none⟩,
  ⟨.extr (.t 10) 0, some 12, none⟩,
  ⟨.extr (.t 10) 1, some 13, none⟩,
  ⟨.newbox J3, some 1, none⟩,
  ⟨.store J3 (.t 1) (.t 12), none, none⟩,
  ⟨.mv (.t 13), some 2, none⟩])
  (.keep [1, 2] (.seq (.reg false [] [
  ⟨.load true J3 (.t 1), some 15, none⟩,
  ⟨.build J4 [(0, (.i .i64), (.c (vi .i64 1))), (1, (.i .i64), (.c (vi .i64 2)))], some 16, none⟩,
  ⟨.call J0i [(.t 15), (.t 16)] 0, some 17, none⟩,
  ⟨.mv (.t 17), some 14, none⟩,
  ⟨.extr (.t 14) 0, some 18, none⟩,
  ⟨.extr (.t 14) 1, some 19, none⟩,
  ⟨.store J3 (.t 1) (.t 18), none, none⟩,
  ⟨.mv (.t 19), some 3, none⟩])
  (.keep [1, 2, 3] (.seq (.reg true [(0, 3), (1, 3), (0, 4)] [
  ⟨.mkslice false (.i .u8) 1 (.c (vi .i64 255)) (.c (vi .i64 255)), some 20, none⟩,
  ⟨.conv .toStr (.t 20), some 21, none⟩,
  ⟨.bin .add .plain (.t 21) (.c (vs [97])), some 22, none⟩,
  ⟨.mkslice false (.i .u8) 1 (.c (vi .i64 255)) (.c (vi .i64 255)), some 23, none⟩,
  ⟨.conv .toStr (.t 23), some 24, none⟩,
  ⟨.bin .add .plain (.t 24) (.c (vs [98])), some 25, none⟩,
  ⟨.mv (.t 22), some 4, none⟩,
  ⟨.mv (.t 25), some 5, none⟩])
  (.keep [1, 2, 3, 4, 5] (.seq (.reg false [] [
  ⟨.load true J3 (.t 1), some 27, none⟩,
  ⟨.mv (.t 4), some 28, none⟩,
  ⟨.call JJ [(.t 27), (.c (vi .i64 0)), (.t 28)] 0, some 29, none⟩,
  ⟨.mv (.t 29), some 26, none⟩,
  ⟨.extr (.t 26) 0, some 30, none⟩,
  ⟨.extr (.t 26) 1, some 31, none⟩,
  ⟨.store J3 (.t 1) (.t 30), none, none⟩,
  ⟨.mv (.t 31), some 6, none⟩])
  (.keep [1, 2, 3, 4, 5, 6] (.seq (.reg false [] [
  ⟨.load true J3 (.t 1), some 33, none⟩,
  ⟨.mv (.t 5), some 34, none⟩,
  ⟨.call JJ [(.t 33), (.c (vi .i64 0)), (.t 34)] 0, some 35, none⟩,
  ⟨.mv (.t 35), some 32, none⟩,
  ⟨.extr (.t 32) 0, some 36, none⟩,
  ⟨.extr (.t 32) 1, some 37, none⟩,
  ⟨.store J3 (.t 1) (.t 36), none, none⟩,
  ⟨.mv (.t 37), some 7, none⟩])
  (.keep [1, 2, 3, 4, 6, 7] (.seq (.reg false [] [
  ⟨.load true J3 (.t 1), some 39, none⟩,
  ⟨.call J07 [(.t 39), (.c (vi .i64 0))] 0, some 40, none⟩,
  ⟨.mv (.t 40), some 38, none⟩,
  ⟨.extr (.t 38) 0, some 41, none⟩,
  ⟨.extr (.t 38) 1, some 42, none⟩,
  ⟨.mv (.t 41), some 8, none⟩,
  ⟨.mv (.t 42), some 9, none⟩])
  (.keep [2, 3, 4, 6, 7, 8, 9] (.seq (.reg false [] [
  ⟨.mv (.t 2), some 43, none⟩,
  ⟨.bin .eql .plain (.t 43) (.c (vi .i64 0)), some 44, none⟩,
  ⟨.mv (.t 44), some 45, none⟩,
  ⟨.mv (.t 3), some 46, some (45, true)⟩,
  ⟨.bin .eql .plain (.t 46) (.c (vi .i64 0)), some 47, some (45, true)⟩,
  ⟨.pick (.t 45) (.t 47) (.c (vb false)), some 48, none⟩,
  ⟨.mv (.t 48), some 49, none⟩,
  ⟨.mv (.t 6), some 50, some (49, true)⟩,
  ⟨.bin .eql .plain (.t 50) (.c (vi .i64 0)), some 51, some (49, true)⟩,
  ⟨.pick (.t 49) (.t 51) (.c (vb false)), some 52, none⟩,
  ⟨.mv (.t 52), some 53, none⟩,
  ⟨.mv (.t 7), some 54, some (53, true)⟩,
  ⟨.bin .eql .plain (.t 54) (.c (vi .i64 0)), some 55, some (53, true)⟩,
  ⟨.pick (.t 53) (.t 55) (.c (vb false)), some 56, none⟩,
  ⟨.mv (.t 56), some 57, none⟩,
  ⟨.mv (.t 9), some 58, some (57, true)⟩,
  ⟨.bin .eql .plain (.t 58) (.c (vi .i64 0)), some 59, some (57, true)⟩,
  ⟨.pick (.t 57) (.t 59) (.c (vb false)), some 60, none⟩,
  ⟨.mv (.t 60), some 61, none⟩,
  ⟨.mv (.t 8), some 62, some (61, true)⟩,
  ⟨.mv (.t 4), some 63, some (61, true)⟩,
  ⟨.bin .eql .plain (.t 62) (.t 63), some 64, some (61, true)⟩,
  ⟨.pick (.t 61) (.t 64) (.c (vb false)), some 65, none⟩,
  ⟨.mv (.t 65), some 0, none⟩])
  (.ret)))))))))))))))
def J4F : TFn := ⟨0, 66, JfD, [.tmp 0], false⟩
def Jhi : TCo := .seq (.reg false [] [
  ⟨.box J3 (.t 0), some 1, none⟩,
  ⟨.newbox J3, some 2, none⟩])
  (.keep [1, 2] (.seq (.reg false [] [
  ⟨.faddr 0 (.t 1), some 3, none⟩,
  ⟨.load false (.l .s) (.t 3), some 4, none⟩,
  ⟨.appn .s 16 (.t 4), some 5, none⟩,
  ⟨.faddr 0 (.t 1), some 6, none⟩,
  ⟨.store (.l .s) (.t 6) (.t 5), none, none⟩])
  (.keep [1, 2] (.seq (.tidy [1, 2] (.reg false [] [
  ⟨.faddr 2 (.t 1), some 7, none⟩,
  ⟨.load false (.l (.i .i64)) (.t 7), some 8, none⟩,
  ⟨.appn (.i .i64) 8 (.t 8), some 9, none⟩,
  ⟨.faddr 2 (.t 1), some 10, none⟩,
  ⟨.store (.l (.i .i64)) (.t 10) (.t 9), none, none⟩]))
  (.keep [1, 2] (.seq (.reg false [] [
  ⟨.faddr 4 (.t 1), some 11, none⟩,
  ⟨.load false (.l J4) (.t 11), some 12, none⟩,
  ⟨.appn J4 48 (.t 12), some 13, none⟩,
  ⟨.faddr 4 (.t 1), some 14, none⟩,
  ⟨.store (.l J4) (.t 14) (.t 13), none, none⟩])
  (.keep [1, 2] (.seq (.reg false [] [
  ⟨.load true J3 (.t 1), some 15, none⟩,
  ⟨.store J3 (.t 2) (.t 15), none, none⟩])
  (.ret)))))))))
def JaC : TFn := ⟨1, 16, Jhi, [.cell 2 true J3], true⟩
def Jfo : TCo := .seq (.reg false [] [
  ⟨.box J3 (.t 0), some 2, none⟩,
  ⟨.box J4 (.t 1), some 3, none⟩,
  ⟨.mv (.c (vb false)), some 4, none⟩])
  (.keep [2, 3] (.seq (.seq (.reg false [] [
  ⟨.faddr 1 (.t 3), some 6, none⟩,
  ⟨.load false (.i .i64) (.t 6), some 7, none⟩,
  ⟨.faddr 1 (.t 2), some 8, none⟩,
  ⟨.load false (.i .i64) (.t 8), some 9, none⟩,
  ⟨.bin .leq .plain (.t 7) (.t 9), some 10, none⟩,
  ⟨.mv (.t 10), some 11, none⟩,
  ⟨.faddr 1 (.t 3), some 12, some (11, false)⟩,
  ⟨.load false (.i .i64) (.t 12), some 13, some (11, false)⟩,
  ⟨.bin .gtr .plain (.t 13) (.c (vi .i64 1099511627776)), some 14, some (11, false)⟩,
  ⟨.pick (.t 11) (.c (vb true)) (.t 14), some 15, none⟩,
  ⟨.mv (.t 15), some 16, none⟩,
  ⟨.faddr 2 (.t 3), some 17, some (16, false)⟩,
  ⟨.load false (.i .i64) (.t 17), some 18, some (16, false)⟩,
  ⟨.bin .lss .plain (.t 18) (.c (vi .i64 0)), some 19, some (16, false)⟩,
  ⟨.pick (.t 16) (.c (vb true)) (.t 19), some 20, none⟩,
  ⟨.mv (.t 20), some 21, none⟩,
  ⟨.faddr 2 (.t 3), some 22, some (21, false)⟩,
  ⟨.load false (.i .i64) (.t 22), some 23, some (21, false)⟩,
  ⟨.faddr 0 (.t 2), some 24, some (21, false)⟩,
  ⟨.load false (.l .s) (.t 24), some 25, some (21, false)⟩,
  ⟨.len false (.t 25), some 26, some (21, false)⟩,
  ⟨.bin .geq .plain (.t 23) (.t 26), some 27, some (21, false)⟩,
  ⟨.pick (.t 21) (.c (vb true)) (.t 27), some 28, none⟩,
  ⟨.mv (.t 28), some 29, none⟩,
  ⟨.faddr 3 (.t 3), some 30, some (29, false)⟩,
  ⟨.load false (.i .i64) (.t 30), some 31, some (29, false)⟩,
  ⟨.bin .lss .plain (.t 31) (.c (vi .i64 0)), some 32, some (29, false)⟩,
  ⟨.pick (.t 29) (.c (vb true)) (.t 32), some 33, none⟩,
  ⟨.mv (.t 33), some 34, none⟩,
  ⟨.faddr 3 (.t 3), some 35, some (34, false)⟩,
  ⟨.load false (.i .i64) (.t 35), some 36, some (34, false)⟩,
  ⟨.faddr 0 (.t 2), some 37, some (34, false)⟩,
  ⟨.load false (.l .s) (.t 37), some 38, some (34, false)⟩,
  ⟨.len false (.t 38), some 39, some (34, false)⟩,
  ⟨.bin .geq .plain (.t 36) (.t 39), some 40, some (34, false)⟩,
  ⟨.pick (.t 34) (.c (vb true)) (.t 40), some 41, none⟩,
  ⟨.mv (.t 41), some 42, none⟩,
  ⟨.faddr 4 (.t 3), some 43, some (42, false)⟩,
  ⟨.load false (.i .i64) (.t 43), some 44, some (42, false)⟩,
  ⟨.bin .lss .plain (.t 44) (.c (vi .i64 0)), some 45, some (42, false)⟩,
  ⟨.pick (.t 42) (.c (vb true)) (.t 45), some 46, none⟩,
  ⟨.mv (.t 46), some 47, none⟩,
  ⟨.faddr 4 (.t 3), some 48, some (47, false)⟩,
  ⟨.load false (.i .i64) (.t 48), some 49, some (47, false)⟩,
  ⟨.bin .geq .plain (.t 49) (.c (vi .i64 256)), some 50, some (47, false)⟩,
  ⟨.pick (.t 47) (.c (vb true)) (.t 50), some 51, none⟩])
  (.keep [3, 51] (.cond (.t 51)
  (.seq (.reg false [] [
  ⟨.mv (.c (vb false)), some 4, none⟩])
  (.ret))
  (.skip))))
  (.keep [3] (.seq (.reg false [] [
  ⟨.faddr 0 (.t 3), some 52, none⟩,
  ⟨.load false (.i .i64) (.t 52), some 53, none⟩,
  ⟨.faddr 1 (.t 3), some 54, none⟩,
  ⟨.load false (.i .i64) (.t 54), some 55, none⟩,
  ⟨.build J4 [(0, (.i .i64), (.t 53)), (1, (.i .i64), (.t 55))], some 56, none⟩,
  ⟨.newbox J4, some 5, none⟩,
  ⟨.store J4 (.t 5) (.t 56), none, none⟩])
  (.keep [3, 5] (.seq (.seq (.reg false [] [
  ⟨.faddr 0 (.t 3), some 57, none⟩,
  ⟨.load false (.i .i64) (.t 57), some 58, none⟩])
  (.keep [3, 5, 58] (.block 0 (.seq (.seq (.reg false [] [
  ⟨.bin .eql .plain (.t 58) (.c (vi .i64 1)), some 60, none⟩,
  ⟨.mv (.t 60), some 59, none⟩])
  (.keep [3, 5, 58, 59] (.cond (.t 59)
  (.skip)
  (.reg false [] [
  ⟨.bin .eql .plain (.t 58) (.c (vi .i64 6)), some 61, none⟩,
  ⟨.mv (.t 61), some 59, none⟩]))))
  (.keep [3, 5, 58, 59] (.cond (.t 59)
  (.skip)
  (.seq (.reg false [] [
  ⟨.bin .eql .plain (.t 58) (.c (vi .i64 2)), some 63, none⟩,
  ⟨.mv (.t 63), some 62, none⟩])
  (.keep [3, 5, 58, 62] (.cond (.t 62)
  (.reg false [] [
  ⟨.faddr 3 (.t 3), some 64, none⟩,
  ⟨.load false (.i .i64) (.t 64), some 65, none⟩,
  ⟨.faddr 3 (.t 5), some 66, none⟩,
  ⟨.store (.i .i64) (.t 66) (.t 65), none, none⟩])
  (.seq (.reg false [] [
  ⟨.bin .eql .plain (.t 58) (.c (vi .i64 3)), some 68, none⟩,
  ⟨.mv (.t 68), some 67, none⟩])
  (.keep [3, 5, 58, 67] (.cond (.t 67)
  (.reg false [] [
  ⟨.faddr 4 (.t 3), some 69, none⟩,
  ⟨.load false (.i .i64) (.t 69), some 70, none⟩,
  ⟨.faddr 4 (.t 5), some 71, none⟩,
  ⟨.store (.i .i64) (.t 71) (.t 70), none, none⟩])
  (.seq (.reg false [] [
  ⟨.bin .eql .plain (.t 58) (.c (vi .i64 4)), some 73, none⟩,
  ⟨.mv (.t 73), some 72, none⟩])
  (.keep [3, 5, 58, 72] (.cond (.t 72)
  (.seq (.reg true [(3, 7), (5, 7), (5, 9)] [
  ⟨.faddr 2 (.t 3), some 74, none⟩,
  ⟨.load false (.i .i64) (.t 74), some 75, none⟩,
  ⟨.faddr 4 (.t 3), some 76, none⟩,
  ⟨.load false (.i .i64) (.t 76), some 77, none⟩,
  ⟨.faddr 5 (.t 3), some 78, none⟩,
  ⟨.load false (.i .u8) (.t 78), some 79, none⟩,
  ⟨.faddr 2 (.t 5), some 80, none⟩,
  ⟨.store (.i .i64) (.t 80) (.t 75), none, none⟩,
  ⟨.faddr 4 (.t 5), some 81, none⟩,
  ⟨.store (.i .i64) (.t 81) (.t 77), none, none⟩,
  ⟨.faddr 5 (.t 5), some 82, none⟩,
  ⟨.store (.i .u8) (.t 82) (.t 79), none, none⟩])
  (.keep [3, 5] (.seq (.reg false [] [
  ⟨.faddr 5 (.t 3), some 83, none⟩,
  ⟨.load false (.i .u8) (.t 83), some 84, none⟩,
  ⟨.bin .eql .plain (.t 84) (.c (vi .u8 0)), some 85, none⟩])
  (.keep [3, 5, 85] (.cond (.t 85)
  (.seq (.reg false [] [
  ⟨.mv (.c (vb false)), some 4, none⟩])
  (.ret))
  (.skip))))))
  (.seq (.reg false [] [
  ⟨.bin .eql .plain (.t 58) (.c (vi .i64 5)), some 87, none⟩,
  ⟨.mv (.t 87), some 86, none⟩])
  (.keep [3, 5, 86] (.cond (.t 86)
  (.reg false [] [
  ⟨.faddr 2 (.t 3), some 88, none⟩,
  ⟨.load false (.i .i64) (.t 88), some 89, none⟩,
  ⟨.faddr 2 (.t 5), some 90, none⟩,
  ⟨.store (.i .i64) (.t 90) (.t 89), none, none⟩])
  (.seq (.reg false [] [
  ⟨.mv (.c (vb false)), some 4, none⟩])
  (.ret))))))))))))))))))))
  (.keep [3, 5] (.seq (.reg false [] [
  ⟨.load true J4 (.t 3), some 91, none⟩,
  ⟨.load true J4 (.t 5), some 92, none⟩,
  ⟨.bin .eql (.flat J4) (.t 91) (.t 92), some 93, none⟩,
  ⟨.mv (.t 93), some 4, none⟩])
  (.ret)))))))))
def J9s : TFn := ⟨2, 94, Jfo, [.tmp 4], false⟩
def JfG : TCo := .seq (.reg false [] [
  ⟨.box J3 (.t 0), some 1, none⟩,
  ⟨.mv (.c (vb false)), some 2, none⟩])
  (.keep [1] (.seq (.reg false [] [
  ⟨.faddr 0 (.t 1), some 7, none⟩,
  ⟨.load false (.l .s) (.t 7), some 8, none⟩,
  ⟨.len false (.t 8), some 9, none⟩,
  ⟨.mv (.t 9), some 3, none⟩])
  (.keep [1, 3] (.seq (.seq (.reg false [] [
  ⟨.mv (.t 3), some 10, none⟩,
  ⟨.bin .lss .plain (.t 10) (.c (vi .i64 1)), some 11, none⟩,
  ⟨.mv (.t 11), some 12, none⟩,
  ⟨.mv (.t 3), some 13, some (12, false)⟩,
  ⟨.bin .gtr .plain (.t 13) (.c (vi .i64 64)), some 14, some (12, false)⟩,
  ⟨.pick (.t 12) (.c (vb true)) (.t 14), some 15, none⟩,
  ⟨.mv (.t 15), some 16, none⟩,
  ⟨.faddr 1 (.t 1), some 17, some (16, false)⟩,
  ⟨.load false (.i .i64) (.t 17), some 18, some (16, false)⟩,
  ⟨.bin .lss .plain (.t 18) (.c (vi .i64 0)), some 19, some (16, false)⟩,
  ⟨.pick (.t 16) (.c (vb true)) (.t 19), some 20, none⟩,
  ⟨.mv (.t 20), some 21, none⟩,
  ⟨.faddr 1 (.t 1), some 22, some (21, false)⟩,
  ⟨.load false (.i .i64) (.t 22), some 23, some (21, false)⟩,
  ⟨.bin .gtr .plain (.t 23) (.c (vi .i64 1099511627776)), some 24, some (21, false)⟩,
  ⟨.pick (.t 21) (.c (vb true)) (.t 24), some 25, none⟩,
  ⟨.mv (.t 25), some 26, none⟩,
  ⟨.faddr 4 (.t 1), some 27, some (26, false)⟩,
  ⟨.load false (.l J4) (.t 27), some 28, some (26, false)⟩,
  ⟨.len false (.t 28), some 29, some (26, false)⟩,
  ⟨.bin .gtr .plain (.t 29) (.c (vi .i64 64)), some 30, some (26, false)⟩,
  ⟨.pick (.t 26) (.c (vb true)) (.t 30), some 31, none⟩])
  (.keep [1, 3, 31] (.cond (.t 31)
  (.seq (.reg false [] [
  ⟨.mv (.c (vb false)), some 2, none⟩])
  (.ret))
  (.skip))))
  (.keep [1, 3] (.seq (.seq (.reg false [] [
  ⟨.mv (.c (vi .i64 0)), some 4, none⟩])
  (.keep [1, 3, 4] (.block 0 (.loop [1, 3, 4] (.seq (.seq (.reg false [] [
  ⟨.mv (.t 4), some 32, none⟩,
  ⟨.mv (.t 3), some 33, none⟩,
  ⟨.bin .lss .plain (.t 32) (.t 33), some 34, none⟩])
  (.keep [1, 3, 4, 34] (.cond (.t 34)
  (.skip)
  (.exit 0))))
  (.keep [1, 3, 4] (.seq (.block 1 (.seq (.reg false [] [
  ⟨.faddr 0 (.t 1), some 37, none⟩,
  ⟨.load false (.l .s) (.t 37), some 38, none⟩,
  ⟨.mv (.t 4), some 39, none⟩,
  ⟨.iaddr .s (.t 38) (.t 39), some 40, none⟩,
  ⟨.load false .s (.t 40), some 41, none⟩,
  ⟨.len true (.t 41), some 42, none⟩,
  ⟨.bin .neq .plain (.t 42) (.c (vi .i64 256)), some 43, none⟩])
  (.keep [1, 3, 4, 43] (.cond (.t 43)
  (.seq (.reg false [] [
  ⟨.mv (.c (vb false)), some 2, none⟩])
  (.ret))
  (.skip)))))
  (.keep [1, 3, 4] (.reg false [] [
  ⟨.mv (.t 4), some 35, none⟩,
  ⟨.bin .add .plain (.t 35) (.c (vi .i64 1)), some 36, none⟩,
  ⟨.mv (.t 36), some 4, none⟩])))))))))
  (.keep [1, 3] (.seq (.seq (.reg false [] [
  ⟨.mv (.c (vi .i64 0)), some 5, none⟩])
  (.keep [1, 3, 5] (.block 2 (.loop [1, 3, 5] (.seq (.seq (.reg false [] [
  ⟨.mv (.t 5), some 44, none⟩,
  ⟨.faddr 2 (.t 1), some 45, none⟩,
  ⟨.load false (.l (.i .i64)) (.t 45), some 46, none⟩,
  ⟨.len false (.t 46), some 47, none⟩,
  ⟨.bin .lss .plain (.t 44) (.t 47), some 48, none⟩])
  (.keep [1, 3, 5, 48] (.cond (.t 48)
  (.skip)
  (.exit 2))))
  (.keep [1, 3, 5] (.seq (.block 3 (.seq (.reg true [] [
  ⟨.faddr 2 (.t 1), some 51, none⟩,
  ⟨.load false (.l (.i .i64)) (.t 51), some 52, none⟩,
  ⟨.mv (.t 5), some 53, none⟩,
  ⟨.iaddr (.i .i64) (.t 52) (.t 53), some 54, none⟩,
  ⟨.load false (.i .i64) (.t 54), some 55, none⟩,
  ⟨.bin .lss .plain (.t 55) (.c (vi .i64 0)), some 56, none⟩,
  ⟨.mv (.t 56), some 57, none⟩,
  ⟨.faddr 2 (.t 1), some 58, some (57, false)⟩,
  ⟨.load false (.l (.i .i64)) (.t 58), some 59, some (57, false)⟩,
  ⟨.mv (.t 5), some 60, some (57, false)⟩,
  ⟨.iaddr (.i .i64) (.t 59) (.t 60), some 61, some (57, false)⟩,
  ⟨.load false (.i .i64) (.t 61), some 62, some (57, false)⟩,
  ⟨.mv (.t 3), some 63, some (57, false)⟩,
  ⟨.bin .geq .plain (.t 62) (.t 63), some 64, some (57, false)⟩,
  ⟨.pick (.t 57) (.c (vb true)) (.t 64), some 65, none⟩,
  ⟨.mv (.t 65), some 66, none⟩,
  ⟨.mv (.t 5), some 67, some (66, false)⟩,
  ⟨.bin .gtr .plain (.t 67) (.c (vi .i64 0)), some 68, some (66, false)⟩,
  ⟨.mv (.t 68), some 69, some (66, false)⟩,
  ⟨.faddr 2 (.t 1), some 70, some (69, true)⟩,
  ⟨.load false (.l (.i .i64)) (.t 70), some 71, some (69, true)⟩,
  ⟨.mv (.t 5), some 72, some (69, true)⟩,
  ⟨.bin .sub .plain (.t 72) (.c (vi .i64 1)), some 73, some (69, true)⟩,
  ⟨.iaddr (.i .i64) (.t 71) (.t 73), some 74, some (69, true)⟩,
  ⟨.load false (.i .i64) (.t 74), some 75, some (69, true)⟩,
  ⟨.faddr 2 (.t 1), some 76, some (69, true)⟩,
  ⟨.load false (.l (.i .i64)) (.t 76), some 77, some (69, true)⟩,
  ⟨.mv (.t 5), some 78, some (69, true)⟩,
  ⟨.iaddr (.i .i64) (.t 77) (.t 78), some 79, some (69, true)⟩,
  ⟨.load false (.i .i64) (.t 79), some 80, some (69, true)⟩,
  ⟨.bin .geq .plain (.t 75) (.t 80), some 81, some (69, true)⟩,
  ⟨.pick (.t 69) (.t 81) (.c (vb false)), some 82, some (66, false)⟩,
  ⟨.pick (.t 66) (.c (vb true)) (.t 82), some 83, none⟩])
  (.keep [1, 3, 5, 83] (.cond (.t 83)
  (.seq (.reg false [] [
  ⟨.mv (.c (vb false)), some 2, none⟩])
  (.ret))
  (.skip)))))
  (.keep [1, 3, 5] (.reg false [] [
  ⟨.mv (.t 5), some 49, none⟩,
  ⟨.bin .add .plain (.t 49) (.c (vi .i64 1)), some 50, none⟩,
  ⟨.mv (.t 50), some 5, none⟩])))))))))
  (.keep [1] (.seq (.seq (.reg false [] [
  ⟨.mv (.c (vi .i64 0)), some 6, none⟩])
  (.keep [1, 6] (.block 4 (.loop [1, 6] (.seq (.seq (.reg false [] [
  ⟨.mv (.t 6), some 84, none⟩,
  ⟨.faddr 4 (.t 1), some 85, none⟩,
  ⟨.load false (.l J4) (.t 85), some 86, none⟩,
  ⟨.len false (.t 86), some 87, none⟩,
  ⟨.bin .lss .plain (.t 84) (.t 87), some 88, none⟩])
  (.keep [1, 6, 88] (.cond (.t 88)
  (.skip)
  (.exit 4))))
  (.keep [1, 6] (.seq (.block 5 (.seq (.reg true [] [
  ⟨.load true J3 (.t 1), some 91, none⟩,
  ⟨.faddr 4 (.t 1), some 92, none⟩,
  ⟨.load false (.l J4) (.t 92), some 93, none⟩,
  ⟨.mv (.t 6), some 94, none⟩,
  ⟨.iaddr J4 (.t 93) (.t 94), some 95, none⟩,
  ⟨.load true J4 (.t 95), some 96, none⟩,
  ⟨.call J4L [(.t 91), (.t 96)] 0, some 97, none⟩,
  ⟨.un .not (.t 97), some 98, none⟩])
  (.keep [1, 6, 98] (.cond (.t 98)
  (.seq (.reg false [] [
  ⟨.mv (.c (vb false)), some 2, none⟩])
  (.ret))
  (.skip)))))
  (.keep [1, 6] (.reg false [] [
  ⟨.mv (.t 6), some 89, none⟩,
  ⟨.bin .add .plain (.t 89) (.c (vi .i64 1)), some 90, none⟩,
  ⟨.mv (.t 90), some 6, none⟩])))))))))
  (.keep [] (.seq (.reg false [] [
  ⟨.mv (.c (vb true)), some 2, none⟩])
  (.ret)))))))))))))
def J9n : TFn := ⟨1, 99, JfG, [.tmp 2], false⟩
def Jec : TCo := .seq (.reg false [] [
  ⟨.box J3 (.t 0), some 2, none⟩,
  ⟨.box J4 (.t 1), some 3, none⟩,
  ⟨.newboxo J3 [(4, J4)], some 4, none⟩,
  ⟨.mv (.c (vi .i64 0)), some 5, none⟩])
  (.keep [2, 3, 4] (.seq (.block 0 (.seq (.reg false [] [
  ⟨.load true J3 (.t 2), some 8, none⟩,
  ⟨.call J2A [(.t 8)] 0, some 9, none⟩,
  ⟨.un .not (.t 9), some 10, none⟩,
  ⟨.mv (.t 10), some 7, none⟩])
  (.keep [2, 3, 4, 7] (.cond (.t 7)
  (.seq (.reg false [] [
  ⟨.buildo J3 [] [(4, J4)], some 11, none⟩,
  ⟨.store J3 (.t 4) (.t 11), none, none⟩,
  ⟨.mv (.c (vi .i64 15)), some 5, none⟩])
  (.ret))
  (.seq (.reg false [] [
  ⟨.load true J3 (.t 2), some 13, none⟩,
  ⟨.load true J4 (.t 3), some 14, none⟩,
  ⟨.call J4L [(.t 13), (.t 14)] 0, some 15, none⟩,
  ⟨.un .not (.t 15), some 16, none⟩,
  ⟨.mv (.t 16), some 12, none⟩])
  (.keep [2, 3, 4, 12] (.cond (.t 12)
  (.seq (.reg false [] [
  ⟨.buildo J3 [] [(4, J4)], some 17, none⟩,
  ⟨.store J3 (.t 4) (.t 17), none, none⟩,
  ⟨.mv (.c (vi .i64 1)), some 5, none⟩])
  (.ret))
  (.seq (.reg false [] [
  ⟨.faddr 4 (.t 2), some 19, none⟩,
  ⟨.load false (.l J4) (.t 19), some 20, none⟩,
  ⟨.len false (.t 20), some 21, none⟩,
  ⟨.bin .eql .plain (.t 21) (.c (vi .i64 64)), some 22, none⟩,
  ⟨.mv (.t 22), some 18, none⟩])
  (.keep [2, 3, 4, 18] (.cond (.t 18)
  (.seq (.reg false [] [
  ⟨.buildo J3 [] [(4, J4)], some 23, none⟩,
  ⟨.store J3 (.t 4) (.t 23), none, none⟩,
  ⟨.mv (.c (vi .i64 21)), some 5, none⟩])
  (.ret))
  (.skip)))))))))))
  (.keep [2, 3, 4] (.seq (.reg false [] [
  ⟨.load true J3 (.t 2), some 24, none⟩,
  ⟨.callo J3W [((.t 24), false)] 2, some 25, none⟩,
  ⟨.newboxo J3 [(4, J4)], some 6, none⟩,
  ⟨.store J3 (.t 6) (.t 25), none, none⟩])
  (.keep [3, 4, 6] (.seq (.reg false [] [
  ⟨.faddr 4 (.t 6), some 26, none⟩,
  ⟨.load false (.l J4) (.t 26), some 27, none⟩,
  ⟨.load true J4 (.t 3), some 28, none⟩,
  ⟨.lits false J4 1 [(0, (.t 28))], some 29, none⟩,
  ⟨.app J4 48 (.t 27) (.t 29), some 30, none⟩,
  ⟨.faddr 4 (.t 6), some 31, none⟩,
  ⟨.store (.l J4) (.t 31) (.t 30), none, none⟩])
  (.keep [4, 6] (.seq (.reg false [] [
  ⟨.load true J3 (.t 6), some 32, none⟩,
  ⟨.store J3 (.t 4) (.t 32), none, none⟩,
  ⟨.mv (.c (vi .i64 0)), some 5, none⟩])
  (.ret)))))))))
def J8G : TFn := ⟨2, 33, Jec, [.cell 4 true J3, .tmp 5], false⟩
def JdS : TCo := .seq (.reg false [] [
  ⟨.mv (.c (vl .s [])), some 2, none⟩])
  (.keep [0] (.seq (.reg false [] [
  ⟨.mkarr .s (.c (vl .s [])), some 3, none⟩])
  (.keep [0, 3] (.seq (.seq (.reg false [] [
  ⟨.mv (.c (vi .i64 0)), some 4, none⟩])
  (.keep [0, 3, 4] (.block 0 (.loop [0, 3, 4] (.seq (.seq (.reg false [] [
  ⟨.mv (.t 4), some 5, none⟩,
  ⟨.mv (.t 0), some 6, none⟩,
  ⟨.bin .lss .plain (.t 5) (.t 6), some 7, none⟩])
  (.keep [0, 3, 4, 7] (.cond (.t 7)
  (.skip)
  (.exit 0))))
  (.keep [0, 3, 4] (.seq (.block 1 (.reg false [] [
  ⟨.mv (.t 3), some 10, none⟩,
  ⟨.mkslice false (.i .u8) 1 (.c (vi .i64 256)) (.c (vi .i64 256)), some 11, none⟩,
  ⟨.conv .toStr (.t 11), some 12, none⟩,
  ⟨.lits false .s 1 [(0, (.t 12))], some 13, none⟩,
  ⟨.app .s 16 (.t 10) (.t 13), some 14, none⟩,
  ⟨.mv (.t 14), some 3, none⟩]))
  (.keep [0, 3, 4] (.reg false [] [
  ⟨.mv (.t 4), some 8, none⟩,
  ⟨.bin .add .plain (.t 8) (.c (vi .i64 1)), some 9, none⟩,
  ⟨.mv (.t 9), some 4, none⟩])))))))))
  (.keep [3] (.seq (.reg false [] [
  ⟨.mv (.t 3), some 15, none⟩,
  ⟨.mv (.t 15), some 2, none⟩])
  (.ret)))))))
def J8m : TFn := ⟨1, 16, JdS, [.tmp 2], false⟩
def Ji1 : TCo := .seq (.reg false [] [
  ⟨.newbox J3, some 2, none⟩,
  ⟨.mv (.c (vi .i64 0)), some 3, none⟩])
  (.keep [0, 2] (.seq (.seq (.reg false [] [
  ⟨.mv (.t 0), some 4, none⟩,
  ⟨.bin .lss .plain (.t 4) (.c (vi .i64 1)), some 5, none⟩,
  ⟨.mv (.t 5), some 6, none⟩,
  ⟨.mv (.t 0), some 7, some (6, false)⟩,
  ⟨.bin .gtr .plain (.t 7) (.c (vi .i64 64)), some 8, some (6, false)⟩,
  ⟨.pick (.t 6) (.c (vb true)) (.t 8), some 9, none⟩])
  (.keep [0, 2, 9] (.cond (.t 9)
  (.seq (.reg false [] [
  ⟨.build J3 [], some 10, none⟩,
  ⟨.store J3 (.t 2) (.t 10), none, none⟩,
  ⟨.mv (.c (vi .i64 1)), some 3, none⟩])
  (.ret))
  (.skip))))
  (.keep [0, 2] (.seq (.reg false [] [
  ⟨.mv (.t 0), some 11, none⟩,
  ⟨.call J4m [(.t 11)] 0, some 12, none⟩,
  ⟨.build J3 [(0, (.l .s), (.t 12))], some 13, none⟩,
  ⟨.store J3 (.t 2) (.t 13), none, none⟩,
  ⟨.mv (.c (vi .i64 0)), some 3, none⟩])
  (.ret)))))
def JbE : TFn := ⟨1, 14, Ji1, [.cell 2 true J3, .tmp 3], false⟩
def Jif : TCo := .seq (.reg false [] [
  ⟨.mv (.c (vb false)), some 4, none⟩])
  (.keep [0, 1] (.seq (.seq (.reg false [] [
  ⟨.mv (.c (vi .i64 0)), some 5, none⟩])
  (.keep [0, 1, 5] (.block 0 (.loop [0, 1, 5] (.seq (.seq (.reg false [] [
  ⟨.mv (.t 5), some 6, none⟩,
  ⟨.mv (.t 0), some 7, none⟩,
  ⟨.len false (.t 7), some 8, none⟩,
  ⟨.bin .lss .plain (.t 6) (.t 8), some 9, none⟩])
  (.keep [0, 1, 5, 9] (.cond (.t 9)
  (.skip)
  (.exit 0))))
  (.keep [0, 1, 5] (.seq (.block 1 (.seq (.reg false [] [
  ⟨.mv (.t 0), some 12, none⟩,
  ⟨.mv (.t 5), some 13, none⟩,
  ⟨.iaddr (.i .i64) (.t 12) (.t 13), some 14, none⟩,
  ⟨.load false (.i .i64) (.t 14), some 15, none⟩,
  ⟨.mv (.t 1), some 16, none⟩,
  ⟨.bin .eql .plain (.t 15) (.t 16), some 17, none⟩])
  (.keep [0, 1, 5, 17] (.cond (.t 17)
  (.seq (.reg false [] [
  ⟨.mv (.c (vb true)), some 4, none⟩])
  (.ret))
  (.skip)))))
  (.keep [0, 1, 5] (.reg false [] [
  ⟨.mv (.t 5), some 10, none⟩,
  ⟨.bin .add .plain (.t 10) (.c (vi .i64 1)), some 11, none⟩,
  ⟨.mv (.t 11), some 5, none⟩])))))))))
  (.keep [] (.seq (.reg false [] [
  ⟨.mv (.c (vb false)), some 4, none⟩])
  (.ret)))))
def JbA : TFn := ⟨2, 18, Jif, [.tmp 4], false⟩
def Jeg : TCo := .seq (.reg false [] [
  ⟨.box J3 (.t 0), some 2, none⟩,
  ⟨.mv (.c (vi .i64 0)), some 4, none⟩])
  (.keep [1, 2] (.seq (.block 0 (.seq (.reg false [] [
  ⟨.load true J3 (.t 2), some 6, none⟩,
  ⟨.call J2A [(.t 6)] 0, some 7, none⟩,
  ⟨.un .not (.t 7), some 8, none⟩,
  ⟨.mv (.t 8), some 5, none⟩])
  (.keep [1, 2, 5] (.cond (.t 5)
  (.seq (.reg false [] [
  ⟨.mv (.c (vi .i64 15)), some 4, none⟩])
  (.ret))
  (.seq (.reg false [] [
  ⟨.faddr 3 (.t 2), some 10, none⟩,
  ⟨.load false .b (.t 10), some 11, none⟩,
  ⟨.mv (.t 11), some 9, none⟩])
  (.keep [1, 2, 9] (.cond (.t 9)
  (.seq (.reg false [] [
  ⟨.mv (.c (vi .i64 10)), some 4, none⟩])
  (.ret))
  (.seq (.reg false [] [
  ⟨.mv (.t 1), some 13, none⟩,
  ⟨.bin .lss .plain (.t 13) (.c (vi .i64 0)), some 14, none⟩,
  ⟨.mv (.t 14), some 15, none⟩,
  ⟨.mv (.t 1), some 16, some (15, false)⟩,
  ⟨.faddr 0 (.t 2), some 17, some (15, false)⟩,
  ⟨.load false (.l .s) (.t 17), some 18, some (15, false)⟩,
  ⟨.len false (.t 18), some 19, some (15, false)⟩,
  ⟨.bin .geq .plain (.t 16) (.t 19), some 20, some (15, false)⟩,
  ⟨.pick (.t 15) (.c (vb true)) (.t 20), some 21, none⟩,
  ⟨.mv (.t 21), some 12, none⟩])
  (.keep [12] (.cond (.t 12)
  (.seq (.reg false [] [
  ⟨.mv (.c (vi .i64 1)), some 4, none⟩])
  (.ret))
  (.skip)))))))))))
  (.keep [] (.seq (.reg false [] [
  ⟨.mv (.c (vi .i64 0)), some 4, none⟩])
  (.ret)))))
def J8o : TFn := ⟨2, 22, Jeg, [.tmp 4], false⟩
def Jhf : TCo := .seq (.reg false [] [
  ⟨.box J3 (.t 0), some 2, none⟩,
  ⟨.mv (.c (vs [])), some 4, none⟩,
  ⟨.mv (.c (vi .i64 0)), some 5, none⟩])
  (.keep [1, 2] (.seq (.seq (.reg false [] [
  ⟨.load true J3 (.t 2), some 7, none⟩,
  ⟨.mv (.t 1), some 8, none⟩,
  ⟨.call J3e [(.t 7), (.t 8)] 0, some 9, none⟩,
  ⟨.mv (.t 9), some 6, none⟩])
  (.keep [1, 2, 6] (.seq (.reg false [] [
  ⟨.mv (.t 6), some 10, none⟩,
  ⟨.bin .neq .plain (.t 10) (.c (vi .i64 0)), some 11, none⟩])
  (.keep [1, 2, 6, 11] (.cond (.t 11)
  (.seq (.reg false [] [
  ⟨.mv (.t 6), some 12, none⟩,
  ⟨.mv (.c (vs [])), some 4, none⟩,
  ⟨.mv (.t 12), some 5, none⟩])
  (.ret))
  (.skip))))))
  (.keep [1, 2] (.seq (.seq (.reg false [] [
  ⟨.faddr 2 (.t 2), some 13, none⟩,
  ⟨.load false (.l (.i .i64)) (.t 13), some 14, none⟩,
  ⟨.mv (.t 1), some 15, none⟩,
  ⟨.call J7W [(.t 14), (.t 15)] 0, some 16, none⟩])
  (.keep [1, 2, 16] (.cond (.t 16)
  (.seq (.reg false [] [
  ⟨.mv (.c (vs [])), some 4, none⟩,
  ⟨.mv (.c (vi .i64 11)), some 5, none⟩])
  (.ret))
  (.skip))))
  (.keep [1, 2] (.seq (.reg false [] [
  ⟨.faddr 0 (.t 2), some 17, none⟩,
  ⟨.load false (.l .s) (.t 17), some 18, none⟩,
  ⟨.mv (.t 1), some 19, none⟩,
  ⟨.iaddr .s (.t 18) (.t 19), some 20, none⟩,
  ⟨.load false .s (.t 20), some 21, none⟩,
  ⟨.mv (.t 21), some 4, none⟩,
  ⟨.mv (.c (vi .i64 0)), some 5, none⟩])
  (.ret)))))))
def Jal : TFn := ⟨2, 22, Jhf, [.tmp 4, .tmp 5], false⟩
def Jcz : TCo := .seq (.reg false [] [
  ⟨.mv (.c (vl (.i .i64) [])), some 4, none⟩])
  (.keep [0, 1] (.seq (.reg false [] [
  ⟨.mkarr (.i .i64) (.c (vl (.i .i64) [])), some 5, none⟩])
  (.keep [0, 1, 5] (.seq (.seq (.reg false [] [
  ⟨.mv (.c (vi .i64 0)), some 6, none⟩])
  (.keep [0, 1, 5, 6] (.block 0 (.loop [0, 1, 5, 6] (.seq (.seq (.reg false [] [
  ⟨.mv (.t 6), some 7, none⟩,
  ⟨.mv (.t 0), some 8, none⟩,
  ⟨.len false (.t 8), some 9, none⟩,
  ⟨.bin .lss .plain (.t 7) (.t 9), some 10, none⟩])
  (.keep [0, 1, 5, 6, 10] (.cond (.t 10)
  (.skip)
  (.exit 0))))
  (.keep [0, 1, 5, 6] (.seq (.block 1 (.seq (.reg false [] [
  ⟨.mv (.t 0), some 13, none⟩,
  ⟨.mv (.t 6), some 14, none⟩,
  ⟨.iaddr (.i .i64) (.t 13) (.t 14), some 15, none⟩,
  ⟨.load false (.i .i64) (.t 15), some 16, none⟩,
  ⟨.mv (.t 1), some 17, none⟩,
  ⟨.bin .neq .plain (.t 16) (.t 17), some 18, none⟩])
  (.keep [0, 1, 5, 6, 18] (.cond (.t 18)
  (.reg false [] [
  ⟨.mv (.t 5), some 19, none⟩,
  ⟨.mv (.t 0), some 20, none⟩,
  ⟨.mv (.t 6), some 21, none⟩,
  ⟨.iaddr (.i .i64) (.t 20) (.t 21), some 22, none⟩,
  ⟨.load false (.i .i64) (.t 22), some 23, none⟩,
  ⟨.lits false (.i .i64) 1 [(0, (.t 23))], some 24, none⟩,
  ⟨.app (.i .i64) 8 (.t 19) (.t 24), some 25, none⟩,
  ⟨.mv (.t 25), some 5, none⟩])
  (.skip)))))
  (.keep [0, 1, 5, 6] (.reg false [] [
  ⟨.mv (.t 6), some 11, none⟩,
  ⟨.bin .add .plain (.t 11) (.c (vi .i64 1)), some 12, none⟩,
  ⟨.mv (.t 12), some 6, none⟩])))))))))
  (.keep [5] (.seq (.reg false [] [
  ⟨.mv (.t 5), some 26, none⟩,
  ⟨.mv (.t 26), some 4, none⟩])
  (.ret)))))))
def J7w : TFn := ⟨2, 27, Jcz, [.tmp 4], false⟩
def Jfz : TCo := .seq (.reg false [] [
  ⟨.box J3 (.t 0), some 4, none⟩,
  ⟨.newbox J3, some 8, none⟩])
  (.keep [1, 2, 3, 4, 8] (.seq (.reg true [] [
  ⟨.faddr 0 (.t 4), some 9, none⟩,
  ⟨.load false (.l .s) (.t 9), some 10, none⟩,
  ⟨.mv (.t 1), some 11, none⟩,
  ⟨.mv (.t 2), some 12, none⟩,
  ⟨.mv (.t 3), some 13, none⟩,
  ⟨.slice .str (.t 12) none (some (.t 13)) none, some 14, none⟩,
  ⟨.faddr 0 (.t 4), some 15, none⟩,
  ⟨.load false (.l .s) (.t 15), some 16, none⟩,
  ⟨.mv (.t 1), some 17, none⟩,
  ⟨.iaddr .s (.t 16) (.t 17), some 18, none⟩,
  ⟨.load false .s (.t 18), some 19, none⟩,
  ⟨.mv (.t 3), some 20, none⟩,
  ⟨.slice .str (.t 19) (some (.t 20)) none none, some 21, none⟩,
  ⟨.bin .add .plain (.t 14) (.t 21), some 22, none⟩,
  ⟨.iaddr .s (.t 10) (.t 11), some 23, none⟩,
  ⟨.store .s (.t 23) (.t 22), none, none⟩])
  (.keep [1, 4, 8] (.seq (.reg false [] [
  ⟨.faddr 2 (.t 4), some 24, none⟩,
  ⟨.load false (.l (.i .i64)) (.t 24), some 25, none⟩,
  ⟨.mv (.t 1), some 26, none⟩,
  ⟨.call J5f [(.t 25), (.t 26)] 0, some 27, none⟩,
  ⟨.faddr 2 (.t 4), some 28, none⟩,
  ⟨.store (.l (.i .i64)) (.t 28) (.t 27), none, none⟩])
  (.keep [4, 8] (.seq (.reg false [] [
  ⟨.load true J3 (.t 4), some 29, none⟩,
  ⟨.store J3 (.t 8) (.t 29), none, none⟩])
  (.ret)))))))
def J9q : TFn := ⟨4, 30, Jfz, [.cell 8 true J3], true⟩
def Jg5 : TCo := .seq (.reg false [] [
  ⟨.mv (.c (vl (.i .i64) [])), some 4, none⟩])
  (.keep [0, 1] (.seq (.reg false [] [
  ⟨.mkarr (.i .i64) (.c (vl (.i .i64) [])), some 5, none⟩])
  (.keep [0, 1, 5] (.seq (.reg false [] [
  ⟨.mv (.c (vb false)), some 6, none⟩])
  (.keep [0, 1, 5, 6] (.seq (.seq (.reg false [] [
  ⟨.mv (.c (vi .i64 0)), some 7, none⟩])
  (.keep [0, 1, 5, 6, 7] (.block 0 (.loop [0, 1, 5, 6, 7] (.seq (.seq (.reg false [] [
  ⟨.mv (.t 7), some 8, none⟩,
  ⟨.mv (.t 0), some 9, none⟩,
  ⟨.len false (.t 9), some 10, none⟩,
  ⟨.bin .lss .plain (.t 8) (.t 10), some 11, none⟩])
  (.keep [0, 1, 5, 6, 7, 11] (.cond (.t 11)
  (.skip)
  (.exit 0))))
  (.keep [0, 1, 5, 6, 7] (.seq (.block 1 (.seq (.seq (.reg false [] [
  ⟨.mv (.t 6), some 14, none⟩,
  ⟨.un .not (.t 14), some 15, none⟩,
  ⟨.mv (.t 15), some 16, none⟩,
  ⟨.mv (.t 0), some 17, some (16, true)⟩,
  ⟨.mv (.t 7), some 18, some (16, true)⟩,
  ⟨.iaddr (.i .i64) (.t 17) (.t 18), some 19, some (16, true)⟩,
  ⟨.load false (.i .i64) (.t 19), some 20, some (16, true)⟩,
  ⟨.mv (.t 1), some 21, some (16, true)⟩,
  ⟨.bin .geq .plain (.t 20) (.t 21), some 22, some (16, true)⟩,
  ⟨.pick (.t 16) (.t 22) (.c (vb false)), some 23, none⟩])
  (.keep [0, 1, 5, 6, 7, 23] (.cond (.t 23)
  (.seq (.reg false [] [
  ⟨.mv (.t 5), some 24, none⟩,
  ⟨.mv (.t 1), some 25, none⟩,
  ⟨.lits false (.i .i64) 1 [(0, (.t 25))], some 26, none⟩,
  ⟨.app (.i .i64) 8 (.t 24) (.t 26), some 27, none⟩,
  ⟨.mv (.t 27), some 5, none⟩])
  (.keep [0, 1, 5, 7] (.reg false [] [
  ⟨.mv (.c (vb true)), some 6, none⟩])))
  (.skip))))
  (.keep [0, 1, 5, 6, 7] (.seq (.reg false [] [
  ⟨.mv (.t 0), some 28, none⟩,
  ⟨.mv (.t 7), some 29, none⟩,
  ⟨.iaddr (.i .i64) (.t 28) (.t 29), some 30, none⟩,
  ⟨.load false (.i .i64) (.t 30), some 31, none⟩,
  ⟨.mv (.t 1), some 32, none⟩,
  ⟨.bin .neq .plain (.t 31) (.t 32), some 33, none⟩])
  (.keep [0, 1, 5, 6, 7, 33] (.cond (.t 33)
  (.reg false [] [
  ⟨.mv (.t 5), some 34, none⟩,
  ⟨.mv (.t 0), some 35, none⟩,
  ⟨.mv (.t 7), some 36, none⟩,
  ⟨.iaddr (.i .i64) (.t 35) (.t 36), some 37, none⟩,
  ⟨.load false (.i .i64) (.t 37), some 38, none⟩,
  ⟨.lits false (.i .i64) 1 [(0, (.t 38))], some 39, none⟩,
  ⟨.app (.i .i64) 8 (.t 34) (.t 39), some 40, none⟩,
  ⟨.mv (.t 40), some 5, none⟩])
  (.skip)))))))
  (.keep [0, 1, 5, 6, 7] (.reg false [] [
  ⟨.mv (.t 7), some 12, none⟩,
  ⟨.bin .add .plain (.t 12) (.c (vi .i64 1)), some 13, none⟩,
  ⟨.mv (.t 13), some 7, none⟩])))))))))
  (.keep [1, 5, 6] (.seq (.seq (.reg false [] [
  ⟨.mv (.t 6), some 41, none⟩,
  ⟨.un .not (.t 41), some 42, none⟩])
  (.keep [1, 5, 42] (.cond (.t 42)
  (.reg false [] [
  ⟨.mv (.t 5), some 43, none⟩,
  ⟨.mv (.t 1), some 44, none⟩,
  ⟨.lits false (.i .i64) 1 [(0, (.t 44))], some 45, none⟩,
  ⟨.app (.i .i64) 8 (.t 43) (.t 45), some 46, none⟩,
  ⟨.mv (.t 46), some 5, none⟩])
  (.skip))))
  (.keep [5] (.seq (.reg false [] [
  ⟨.mv (.t 5), some 47, none⟩,
  ⟨.mv (.t 47), some 4, none⟩])
  (.ret)))))))))))
def J9Z : TFn := ⟨2, 48, Jg5, [.tmp 4], false⟩
def Jfx : TCo := .seq (.reg false [] [
  ⟨.box J3 (.t 0), some 3, none⟩,
  ⟨.newboxo J3 [(4, J4)], some 6, none⟩,
  ⟨.mv (.c (vi .i64 0)), some 7, none⟩])
  (.keep [1, 2, 3, 6] (.seq (.seq (.reg false [] [
  ⟨.load true J3 (.t 3), some 17, none⟩,
  ⟨.mv (.t 1), some 18, none⟩,
  ⟨.call J3e [(.t 17), (.t 18)] 0, some 19, none⟩,
  ⟨.mv (.t 19), some 8, none⟩])
  (.keep [1, 2, 3, 6, 8] (.seq (.reg false [] [
  ⟨.mv (.t 8), some 20, none⟩,
  ⟨.bin .neq .plain (.t 20) (.c (vi .i64 0)), some 21, none⟩])
  (.keep [1, 2, 3, 6, 8, 21] (.cond (.t 21)
  (.seq (.reg false [] [
  ⟨.buildo J3 [] [(4, J4)], some 22, none⟩,
  ⟨.mv (.t 8), some 23, none⟩,
  ⟨.store J3 (.t 6) (.t 22), none, none⟩,
  ⟨.mv (.t 23), some 7, none⟩])
  (.ret))
  (.skip))))))
  (.keep [1, 2, 3, 6] (.seq (.seq (.reg false [] [
  ⟨.mv (.t 2), some 24, none⟩,
  ⟨.len true (.t 24), some 25, none⟩,
  ⟨.bin .neq .plain (.t 25) (.c (vi .i64 256)), some 26, none⟩])
  (.keep [1, 2, 3, 6, 26] (.cond (.t 26)
  (.seq (.reg false [] [
  ⟨.buildo J3 [] [(4, J4)], some 27, none⟩,
  ⟨.store J3 (.t 6) (.t 27), none, none⟩,
  ⟨.mv (.c (vi .i64 2)), some 7, none⟩])
  (.ret))
  (.skip))))
  (.keep [1, 2, 3, 6] (.seq (.seq (.reg false [] [
  ⟨.faddr 1 (.t 3), some 28, none⟩,
  ⟨.load false (.i .i64) (.t 28), some 29, none⟩,
  ⟨.bin .eql .plain (.t 29) (.c (vi .i64 1099511627776)), some 30, none⟩])
  (.keep [1, 2, 3, 6, 30] (.cond (.t 30)
  (.seq (.reg false [] [
  ⟨.buildo J3 [] [(4, J4)], some 31, none⟩,
  ⟨.store J3 (.t 6) (.t 31), none, none⟩,
  ⟨.mv (.c (vi .i64 21)), some 7, none⟩])
  (.ret))
  (.skip))))
  (.keep [1, 2, 3, 6] (.seq (.reg false [] [
  ⟨.load true J3 (.t 3), some 32, none⟩,
  ⟨.callo J3W [((.t 32), false)] 2, some 33, none⟩,
  ⟨.newboxo J3 [(4, J4)], some 9, none⟩,
  ⟨.store J3 (.t 9) (.t 33), none, none⟩])
  (.keep [1, 2, 3, 6, 9] (.seq (.reg false [] [
  ⟨.faddr 1 (.t 9), some 34, none⟩,
  ⟨.load false (.i .i64) (.t 34), some 35, none⟩,
  ⟨.bin .add .plain (.t 35) (.c (vi .i64 1)), some 36, none⟩,
  ⟨.faddr 1 (.t 9), some 37, none⟩,
  ⟨.store (.i .i64) (.t 37) (.t 36), none, none⟩])
  (.keep [1, 2, 3, 6, 9] (.seq (.reg false [] [
  ⟨.mkarr J4 (.c (vl J4 [])), some 10, none⟩])
  (.keep [1, 2, 3, 6, 9, 10] (.seq (.reg false [] [
  ⟨.faddr 4 (.t 9), some 38, none⟩,
  ⟨.storen J4 (.t 38), none, none⟩])
  (.keep [1, 2, 3, 6, 9, 10] (.seq (.seq (.reg false [] [
  ⟨.mv (.c (vi .i64 0)), some 11, none⟩])
  (.keep [1, 2, 3, 6, 9, 10, 11] (.block 0 (.loop [1, 2, 3, 6, 9, 10, 11] (.seq (.seq (.reg false [] [
  ⟨.mv (.t 11), some 39, none⟩,
  ⟨.faddr 4 (.t 3), some 40, none⟩,
  ⟨.load false (.l J4) (.t 40), some 41, none⟩,
  ⟨.len false (.t 41), some 42, none⟩,
  ⟨.bin .lss .plain (.t 39) (.t 42), some 43, none⟩])
  (.keep [1, 2, 3, 6, 9, 10, 11, 43] (.cond (.t 43)
  (.skip)
  (.exit 0))))
  (.keep [1, 2, 3, 6, 9, 10, 11] (.seq (.block 1 (.seq (.reg true [] [
  ⟨.faddr 4 (.t 3), some 46, none⟩,
  ⟨.load false (.l J4) (.t 46), some 47, none⟩,
  ⟨.mv (.t 11), some 48, none⟩,
  ⟨.iaddr J4 (.t 47) (.t 48), some 49, none⟩,
  ⟨.faddr 1 (.t 49), some 50, none⟩,
  ⟨.load false (.i .i64) (.t 50), some 51, none⟩,
  ⟨.faddr 1 (.t 9), some 52, none⟩,
  ⟨.load false (.i .i64) (.t 52), some 53, none⟩,
  ⟨.bin .eql .plain (.t 51) (.t 53), some 54, none⟩])
  (.keep [1, 2, 3, 6, 9, 10, 11, 54] (.cond (.t 54)
  (.reg false [] [
  ⟨.mv (.t 10), some 55, none⟩,
  ⟨.faddr 4 (.t 3), some 56, none⟩,
  ⟨.load false (.l J4) (.t 56), some 57, none⟩,
  ⟨.mv (.t 11), some 58, none⟩,
  ⟨.iaddr J4 (.t 57) (.t 58), some 59, none⟩,
  ⟨.load true J4 (.t 59), some 60, none⟩,
  ⟨.lits false J4 1 [(0, (.t 60))], some 61, none⟩,
  ⟨.app J4 48 (.t 55) (.t 61), some 62, none⟩,
  ⟨.mv (.t 62), some 10, none⟩])
  (.reg true [(1, 7)] [
  ⟨.faddr 4 (.t 9), some 63, none⟩,
  ⟨.load false (.l J4) (.t 63), some 64, none⟩,
  ⟨.faddr 4 (.t 3), some 65, none⟩,
  ⟨.load false (.l J4) (.t 65), some 66, none⟩,
  ⟨.mv (.t 11), some 67, none⟩,
  ⟨.iaddr J4 (.t 66) (.t 67), some 68, none⟩,
  ⟨.load true J4 (.t 68), some 69, none⟩,
  ⟨.lits false J4 1 [(0, (.t 69))], some 70, none⟩,
  ⟨.app J4 48 (.t 64) (.t 70), some 71, none⟩,
  ⟨.faddr 4 (.t 9), some 72, none⟩,
  ⟨.store (.l J4) (.t 72) (.t 71), none, none⟩])))))
  (.keep [1, 2, 3, 6, 9, 10, 11] (.reg false [] [
  ⟨.mv (.t 11), some 44, none⟩,
  ⟨.bin .add .plain (.t 44) (.c (vi .i64 1)), some 45, none⟩,
  ⟨.mv (.t 45), some 11, none⟩])))))))))
  (.keep [1, 2, 6, 9, 10] (.seq (.reg false [] [
  ⟨.mv (.c (vb false)), some 12, none⟩])
  (.keep [1, 2, 6, 9, 10, 12] (.seq (.seq (.reg false [] [
  ⟨.mv (.c (vi .i64 0)), some 13, none⟩])
  (.keep [1, 2, 6, 9, 10, 12, 13] (.block 2 (.loop [1, 2, 6, 9, 10, 12, 13] (.seq (.seq (.reg false [] [
  ⟨.mv (.t 13), some 73, none⟩,
  ⟨.mv (.t 10), some 74, none⟩,
  ⟨.len false (.t 74), some 75, none⟩,
  ⟨.bin .lss .plain (.t 73) (.t 75), some 76, none⟩,
  ⟨.mv (.t 76), some 77, none⟩,
  ⟨.mv (.t 12), some 78, some (77, true)⟩,
  ⟨.un .not (.t 78), some 79, some (77, true)⟩,
  ⟨.pick (.t 77) (.t 79) (.c (vb false)), some 80, none⟩])
  (.keep [1, 2, 6, 9, 10, 12, 13, 80] (.cond (.t 80)
  (.skip)
  (.exit 2))))
  (.keep [1, 2, 6, 9, 10, 12, 13] (.seq (.block 3 (.seq (.reg false [] [
  ⟨.mv (.t 10), some 83, none⟩,
  ⟨.mv (.t 13), some 84, none⟩,
  ⟨.iaddr J4 (.t 83) (.t 84), some 85, none⟩,
  ⟨.faddr 0 (.t 85), some 86, none⟩,
  ⟨.load false (.i .i64) (.t 86), some 87, none⟩])
  (.keep [1, 2, 6, 9, 10, 12, 13, 87] (.block 4 (.seq (.reg false [] [
  ⟨.bin .eql .plain (.t 87) (.c (vi .i64 1)), some 89, none⟩,
  ⟨.mv (.t 89), some 88, none⟩])
  (.keep [1, 2, 6, 9, 10, 12, 13, 87, 88] (.cond (.t 88)
  (.reg false [] [
  ⟨.mv (.c (vb true)), some 12, none⟩])
  (.seq (.reg false [] [
  ⟨.bin .eql .plain (.t 87) (.c (vi .i64 2)), some 91, none⟩,
  ⟨.mv (.t 91), some 90, none⟩])
  (.keep [1, 2, 6, 9, 10, 12, 13, 87, 90] (.cond (.t 90)
  (.seq (.reg true [] [
  ⟨.load true J3 (.t 9), some 92, none⟩,
  ⟨.mv (.t 10), some 93, none⟩,
  ⟨.mv (.t 13), some 94, none⟩,
  ⟨.iaddr J4 (.t 93) (.t 94), some 95, none⟩,
  ⟨.faddr 3 (.t 95), some 96, none⟩,
  ⟨.load false (.i .i64) (.t 96), some 97, none⟩,
  ⟨.mv (.t 2), some 98, none⟩,
  ⟨.callo J2w [((.t 92), true), ((.t 97), false), ((.t 98), false), ((.c (vi .i64 256)), false)] 0, some 99, none⟩,
  ⟨.store J3 (.t 9) (.t 99), none, none⟩])
  (.keep [1, 2, 6, 9, 10, 13] (.reg false [] [
  ⟨.mv (.c (vb true)), some 12, none⟩])))
  (.seq (.reg false [] [
  ⟨.bin .eql .plain (.t 87) (.c (vi .i64 3)), some 101, none⟩,
  ⟨.mv (.t 101), some 100, none⟩])
  (.keep [1, 2, 6, 9, 10, 12, 13, 100] (.cond (.t 100)
  (.seq (.reg true [] [
  ⟨.load true J3 (.t 9), some 102, none⟩,
  ⟨.mv (.t 1), some 103, none⟩,
  ⟨.mv (.t 2), some 104, none⟩,
  ⟨.mv (.t 10), some 105, none⟩,
  ⟨.mv (.t 13), some 106, none⟩,
  ⟨.iaddr J4 (.t 105) (.t 106), some 107, none⟩,
  ⟨.faddr 4 (.t 107), some 108, none⟩,
  ⟨.load false (.i .i64) (.t 108), some 109, none⟩,
  ⟨.callo J2w [((.t 102), true), ((.t 103), false), ((.t 104), false), ((.t 109), false)] 0, some 110, none⟩,
  ⟨.store J3 (.t 9) (.t 110), none, none⟩])
  (.keep [1, 2, 6, 9, 10, 13] (.reg false [] [
  ⟨.mv (.c (vb true)), some 12, none⟩])))
  (.skip))))))))))))))
  (.keep [1, 2, 6, 9, 10, 12, 13] (.reg false [] [
  ⟨.mv (.t 13), some 81, none⟩,
  ⟨.bin .add .plain (.t 81) (.c (vi .i64 1)), some 82, none⟩,
  ⟨.mv (.t 82), some 13, none⟩])))))))))
  (.keep [1, 2, 6, 9, 10, 12] (.seq (.seq (.reg false [] [
  ⟨.mv (.t 12), some 111, none⟩,
  ⟨.un .not (.t 111), some 112, none⟩])
  (.keep [1, 2, 6, 9, 10, 112] (.cond (.t 112)
  (.reg false [] [
  ⟨.load true J3 (.t 9), some 113, none⟩,
  ⟨.mv (.t 1), some 114, none⟩,
  ⟨.mv (.t 2), some 115, none⟩,
  ⟨.callo J2w [((.t 113), true), ((.t 114), false), ((.t 115), false), ((.c (vi .i64 256)), false)] 0, some 116, none⟩,
  ⟨.store J3 (.t 9) (.t 116), none, none⟩])
  (.skip))))
  (.keep [6, 9, 10] (.seq (.tidy [6, 7, 9] (.seq (.reg false [] [
  ⟨.mv (.c (vi .i64 0)), some 14, none⟩])
  (.keep [6, 9, 10, 14] (.block 5 (.loop [6, 9, 10, 14] (.seq (.seq (.reg false [] [
  ⟨.mv (.t 14), some 117, none⟩,
  ⟨.mv (.t 10), some 118, none⟩,
  ⟨.len false (.t 118), some 119, none⟩,
  ⟨.bin .lss .plain (.t 117) (.t 119), some 120, none⟩])
  (.keep [6, 9, 10, 14, 120] (.cond (.t 120)
  (.skip)
  (.exit 5))))
  (.keep [6, 9, 10, 14] (.seq (.tidy [6, 7, 9, 10, 14] (.block 6 (.seq (.reg false [] [
  ⟨.mv (.t 10), some 123, none⟩,
  ⟨.mv (.t 14), some 124, none⟩,
  ⟨.iaddr J4 (.t 123) (.t 124), some 125, none⟩,
  ⟨.load true J4 (.t 125), some 126, none⟩,
  ⟨.newbox J4, some 15, none⟩,
  ⟨.store J4 (.t 15) (.t 126), none, none⟩])
  (.keep [6, 9, 10, 14, 15] (.seq (.reg false [] [
  ⟨.faddr 0 (.t 15), some 127, none⟩,
  ⟨.load false (.i .i64) (.t 127), some 128, none⟩])
  (.keep [6, 9, 10, 14, 15, 128] (.block 7 (.seq (.reg false [] [
  ⟨.bin .eql .plain (.t 128) (.c (vi .i64 4)), some 130, none⟩,
  ⟨.mv (.t 130), some 129, none⟩])
  (.keep [6, 9, 10, 14, 15, 128, 129] (.cond (.t 129)
  (.seq (.reg false [] [
  ⟨.faddr 0 (.t 9), some 131, none⟩,
  ⟨.load false (.l .s) (.t 131), some 132, none⟩,
  ⟨.faddr 2 (.t 15), some 133, none⟩,
  ⟨.load false (.i .i64) (.t 133), some 134, none⟩,
  ⟨.iaddr .s (.t 132) (.t 134), some 135, none⟩,
  ⟨.load false .s (.t 135), some 136, none⟩,
  ⟨.conv (.toBytes true) (.t 136), some 137, none⟩,
  ⟨.mv (.t 137), some 16, none⟩])
  (.keep [6, 9, 10, 14, 15, 16] (.seq (.reg true [] [
  ⟨.mv (.t 16), some 138, none⟩,
  ⟨.faddr 4 (.t 15), some 139, none⟩,
  ⟨.load false (.i .i64) (.t 139), some 140, none⟩,
  ⟨.iaddr (.i .u8) (.t 138) (.t 140), some 141, none⟩,
  ⟨.load false (.i .u8) (.t 141), some 142, none⟩,
  ⟨.faddr 5 (.t 15), some 143, none⟩,
  ⟨.load false (.i .u8) (.t 143), some 144, none⟩,
  ⟨.bin .xor .plain (.t 142) (.t 144), some 145, none⟩,
  ⟨.iaddr (.i .u8) (.t 138) (.t 140), some 146, none⟩,
  ⟨.store (.i .u8) (.t 146) (.t 145), none, none⟩])
  (.keep [6, 9, 10, 14, 15, 16] (.reg false [] [
  ⟨.faddr 0 (.t 9), some 147, none⟩,
  ⟨.load false (.l .s) (.t 147), some 148, none⟩,
  ⟨.faddr 2 (.t 15), some 149, none⟩,
  ⟨.load false (.i .i64) (.t 149), some 150, none⟩,
  ⟨.mv (.t 16), some 151, none⟩,
  ⟨.conv .toStr (.t 151), some 152, none⟩,
  ⟨.iaddr .s (.t 148) (.t 150), some 153, none⟩,
  ⟨.store .s (.t 153) (.t 152), none, none⟩])))))
  (.seq (.reg false [] [
  ⟨.bin .eql .plain (.t 128) (.c (vi .i64 5)), some 155, none⟩,
  ⟨.mv (.t 155), some 154, none⟩])
  (.keep [6, 9, 10, 14, 15, 128, 154] (.cond (.t 154)
  (.reg false [] [
  ⟨.faddr 2 (.t 9), some 156, none⟩,
  ⟨.load false (.l (.i .i64)) (.t 156), some 157, none⟩,
  ⟨.faddr 2 (.t 15), some 158, none⟩,
  ⟨.load false (.i .i64) (.t 158), some 159, none⟩,
  ⟨.call J7f [(.t 157), (.t 159)] 0, some 160, none⟩,
  ⟨.faddr 2 (.t 9), some 161, none⟩,
  ⟨.store (.l (.i .i64)) (.t 161) (.t 160), none, none⟩])
  (.seq (.reg false [] [
  ⟨.bin .eql .plain (.t 128) (.c (vi .i64 6)), some 163, none⟩,
  ⟨.mv (.t 163), some 162, none⟩])
  (.keep [6, 9, 10, 14, 162] (.cond (.t 162)
  (.reg false [] [
  ⟨.faddr 3 (.t 9), some 164, none⟩,
  ⟨.store .b (.t 164) (.c (vb true)), none, none⟩])
  (.skip)))))))))))))))))
  (.keep [6, 9, 10, 14] (.reg false [] [
  ⟨.mv (.t 14), some 121, none⟩,
  ⟨.bin .add .plain (.t 121) (.c (vi .i64 1)), some 122, none⟩,
  ⟨.mv (.t 122), some 14, none⟩]))))))))))
  (.keep [6, 9] (.seq (.reg false [] [
  ⟨.load true J3 (.t 9), some 165, none⟩,
  ⟨.store J3 (.t 6) (.t 165), none, none⟩,
  ⟨.mv (.c (vi .i64 0)), some 7, none⟩])
  (.ret)))))))))))))))))))))))))))
def J9j : TFn := ⟨3, 166, Jfx, [.cell 6 true J3, .tmp 7], false⟩
def J9u : TCo := .seq (.reg false [] [
  ⟨.mv (.c (vb false)), some 2, none⟩])
  (.keep [0] (.seq (.seq (.reg false [] [
  ⟨.call J0L [] 0, some 24, none⟩,
  ⟨.un .not (.t 24), some 25, none⟩])
  (.keep [0, 25] (.cond (.t 25)
  (.seq (.reg false [] [
  ⟨.mv (.c (vb false)), some 2, none⟩])
  (.ret))
  (.skip))))
  (.keep [0] (.seq (.reg false [] [
  ⟨.mv (.t 0), some 26, none⟩,
  ⟨.call J1x [(.t 26), (.c (vi .i64 400))] 1, some 27, none⟩,
  ⟨.mv (.t 27), some 3, none⟩])
  (.keep [3] (.seq (.reg false [] [
  ⟨.call J0r [(.c (vi .i64 3))] 0, some 29, none⟩,
  ⟨.mv (.t 29), some 28, none⟩,
  ⟨.extr (.t 28) 0, some 30, none⟩,
  ⟨.extr (.t 28) 1, some 31, none⟩,
  ⟨.newbox J3, some 4, none⟩,
  ⟨.store J3 (.t 4) (.t 30), none, none⟩,
  ⟨.mv (.t 31), some 5, none⟩])
  (.keep [3, 4] (.seq (.reg false [] [
  ⟨.call J62 [(.c (vi .i64 3))] 0, some 33, none⟩,
  ⟨.mv (.t 33), some 32, none⟩,
  ⟨.extr (.t 32) 0, some 34, none⟩,
  ⟨.extr (.t 32) 1, some 35, none⟩,
  ⟨.newbox J3, some 6, none⟩,
  ⟨.store J3 (.t 6) (.t 34), none, none⟩,
  ⟨.mv (.t 35), some 7, none⟩])
  (.keep [3, 4, 6] (.seq (.tidy [2] (.block 0 (.loop [3, 4, 6] (.seq (.seq (.reg false [] [
  ⟨.mv (.t 3), some 36, none⟩,
  ⟨.call J0R [(.t 36)] 0, some 37, none⟩,
  ⟨.bin .gtr .plain (.t 37) (.c (vi .i64 0)), some 38, none⟩])
  (.keep [3, 4, 6, 38] (.cond (.t 38)
  (.skip)
  (.exit 0))))
  (.keep [3, 4, 6] (.block 1 (.seq (.tidy [2, 3, 4, 6] (.seq (.reg false [] [
  ⟨.mv (.t 3), some 39, none⟩,
  ⟨.call i_draw_Codes_Next [(.t 39), (.c (vi .i64 3))] 0, some 40, none⟩,
  ⟨.bin .eql .plain (.t 40) (.c (vi .i64 0)), some 41, none⟩])
  (.keep [3, 4, 6, 41] (.cond (.t 41)
  (.seq (.reg false [] [
  ⟨.mv (.t 3), some 42, none⟩,
  ⟨.faddr 1 (.t 6), some 43, none⟩,
  ⟨.load false (.i .i64) (.t 43), some 44, none⟩,
  ⟨.call J2G [(.t 42), (.c (vi .i64 3)), (.t 44)] 0, some 45, none⟩,
  ⟨.newbox J4, some 8, none⟩,
  ⟨.store J4 (.t 8) (.t 45), none, none⟩])
  (.keep [3, 4, 6, 8] (.seq (.reg false [] [
  ⟨.load true J3 (.t 4), some 47, none⟩,
  ⟨.load true J4 (.t 8), some 48, none⟩,
  ⟨.call J0i [(.t 47), (.t 48)] 0, some 49, none⟩,
  ⟨.mv (.t 49), some 46, none⟩,
  ⟨.extr (.t 46) 0, some 50, none⟩,
  ⟨.extr (.t 46) 1, some 51, none⟩,
  ⟨.newbox J3, some 9, none⟩,
  ⟨.store J3 (.t 9) (.t 50), none, none⟩,
  ⟨.mv (.t 51), some 10, none⟩])
  (.keep [3, 4, 6, 8, 9, 10] (.seq (.reg false [] [
  ⟨.load true J3 (.t 6), some 53, none⟩,
  ⟨.load true J4 (.t 8), some 54, none⟩,
  ⟨.call J4c [(.t 53), (.t 54)] 0, some 55, none⟩,
  ⟨.mv (.t 55), some 52, none⟩,
  ⟨.extr (.t 52) 0, some 56, none⟩,
  ⟨.extr (.t 52) 1, some 57, none⟩,
  ⟨.newbox J3, some 11, none⟩,
  ⟨.store J3 (.t 11) (.t 56), none, none⟩,
  ⟨.mv (.t 57), some 12, none⟩])
  (.keep [3, 4, 6, 9, 10, 11, 12] (.seq (.seq (.reg false [] [
  ⟨.mv (.t 10), some 58, none⟩,
  ⟨.mv (.t 12), some 59, none⟩,
  ⟨.bin .neq .plain (.t 58) (.t 59), some 60, none⟩])
  (.keep [3, 4, 6, 9, 10, 11, 60] (.cond (.t 60)
  (.seq (.reg false [] [
  ⟨.mv (.c (vb false)), some 2, none⟩])
  (.ret))
  (.skip))))
  (.keep [3, 4, 6, 9, 10, 11] (.seq (.reg false [] [
  ⟨.mv (.t 10), some 61, none⟩,
  ⟨.bin .eql .plain (.t 61) (.c (vi .i64 0)), some 62, none⟩])
  (.keep [3, 4, 6, 9, 11, 62] (.cond (.t 62)
  (.reg true [(1, 2)] [
  ⟨.load true J3 (.t 9), some 63, none⟩,
  ⟨.load true J3 (.t 11), some 64, none⟩,
  ⟨.store J3 (.t 4) (.t 63), none, none⟩,
  ⟨.store J3 (.t 6) (.t 64), none, none⟩])
  (.skip))))))))))))
  (.skip)))))
  (.keep [3, 4, 6] (.seq (.reg false [] [
  ⟨.mv (.t 3), some 65, none⟩,
  ⟨.call i_draw_Codes_Next [(.t 65), (.c (vi .i64 3))] 0, some 66, none⟩,
  ⟨.mv (.t 3), some 67, none⟩,
  ⟨.call Jz [(.t 67)] 0, some 68, none⟩,
  ⟨.mv (.t 66), some 13, none⟩,
  ⟨.mv (.t 68), some 14, none⟩])
  (.keep [3, 4, 6, 13, 14] (.seq (.reg false [] [
  ⟨.load true J3 (.t 4), some 70, none⟩,
  ⟨.mv (.t 13), some 71, none⟩,
  ⟨.mv (.t 14), some 72, none⟩,
  ⟨.call JJ [(.t 70), (.t 71), (.t 72)] 0, some 73, none⟩,
  ⟨.mv (.t 73), some 69, none⟩,
  ⟨.extr (.t 69) 0, some 74, none⟩,
  ⟨.extr (.t 69) 1, some 75, none⟩,
  ⟨.newbox J3, some 15, none⟩,
  ⟨.store J3 (.t 15) (.t 74), none, none⟩,
  ⟨.mv (.t 75), some 16, none⟩])
  (.keep [3, 4, 6, 13, 14, 15, 16] (.seq (.reg false [] [
  ⟨.load true J3 (.t 6), some 77, none⟩,
  ⟨.mv (.t 13), some 78, none⟩,
  ⟨.mv (.t 14), some 79, none⟩,
  ⟨.call J4J [(.t 77), (.t 78), (.t 79)] 0, some 80, none⟩,
  ⟨.mv (.t 80), some 76, none⟩,
  ⟨.extr (.t 76) 0, some 81, none⟩,
  ⟨.extr (.t 76) 1, some 82, none⟩,
  ⟨.newbox J3, some 17, none⟩,
  ⟨.store J3 (.t 17) (.t 81), none, none⟩,
  ⟨.mv (.t 82), some 18, none⟩])
  (.keep [3, 4, 6, 15, 16, 17, 18] (.seq (.seq (.reg false [] [
  ⟨.mv (.t 16), some 83, none⟩,
  ⟨.mv (.t 18), some 84, none⟩,
  ⟨.bin .neq .plain (.t 83) (.t 84), some 85, none⟩])
  (.keep [3, 4, 6, 15, 16, 17, 85] (.cond (.t 85)
  (.seq (.reg false [] [
  ⟨.mv (.c (vb false)), some 2, none⟩])
  (.ret))
  (.skip))))
  (.keep [3, 4, 6, 15, 16, 17] (.seq (.seq (.reg false [] [
  ⟨.mv (.t 16), some 86, none⟩,
  ⟨.bin .eql .plain (.t 86) (.c (vi .i64 0)), some 87, none⟩])
  (.keep [3, 4, 6, 15, 17, 87] (.cond (.t 87)
  (.reg true [(1, 2)] [
  ⟨.load true J3 (.t 15), some 88, none⟩,
  ⟨.load true J3 (.t 17), some 89, none⟩,
  ⟨.store J3 (.t 4) (.t 88), none, none⟩,
  ⟨.store J3 (.t 6) (.t 89), none, none⟩])
  (.skip))))
  (.keep [3, 4, 6] (.seq (.reg false [] [
  ⟨.mv (.c (vi .i64 0)), some 19, none⟩])
  (.keep [3, 4, 6, 19] (.block 2 (.loop [3, 4, 6, 19] (.seq (.seq (.reg false [] [
  ⟨.mv (.t 19), some 90, none⟩,
  ⟨.bin .lss .plain (.t 90) (.c (vi .i64 3)), some 91, none⟩])
  (.keep [3, 4, 6, 19, 91] (.cond (.t 91)
  (.skip)
  (.exit 2))))
  (.keep [3, 4, 6, 19] (.seq (.block 3 (.seq (.reg false [] [
  ⟨.load true J3 (.t 4), some 95, none⟩,
  ⟨.mv (.t 19), some 96, none⟩,
  ⟨.call J07 [(.t 95), (.t 96)] 0, some 97, none⟩,
  ⟨.mv (.t 97), some 94, none⟩,
  ⟨.extr (.t 94) 0, some 98, none⟩,
  ⟨.extr (.t 94) 1, some 99, none⟩,
  ⟨.mv (.t 98), some 20, none⟩,
  ⟨.mv (.t 99), some 21, none⟩])
  (.keep [3, 4, 6, 19, 20, 21] (.seq (.reg false [] [
  ⟨.load true J3 (.t 6), some 101, none⟩,
  ⟨.mv (.t 19), some 102, none⟩,
  ⟨.call J7b [(.t 101), (.t 102)] 0, some 103, none⟩,
  ⟨.mv (.t 103), some 100, none⟩,
  ⟨.extr (.t 100) 0, some 104, none⟩,
  ⟨.extr (.t 100) 1, some 105, none⟩,
  ⟨.mv (.t 104), some 22, none⟩,
  ⟨.mv (.t 105), some 23, none⟩])
  (.keep [3, 4, 6, 19, 20, 21, 22, 23] (.seq (.reg false [] [
  ⟨.mv (.t 20), some 106, none⟩,
  ⟨.mv (.t 22), some 107, none⟩,
  ⟨.bin .neq .plain (.t 106) (.t 107), some 108, none⟩,
  ⟨.mv (.t 108), some 109, none⟩,
  ⟨.mv (.t 21), some 110, some (109, false)⟩,
  ⟨.mv (.t 23), some 111, some (109, false)⟩,
  ⟨.bin .neq .plain (.t 110) (.t 111), some 112, some (109, false)⟩,
  ⟨.pick (.t 109) (.c (vb true)) (.t 112), some 113, none⟩])
  (.keep [3, 4, 6, 19, 113] (.cond (.t 113)
  (.seq (.reg false [] [
  ⟨.mv (.c (vb false)), some 2, none⟩])
  (.ret))
  (.skip)))))))))
  (.keep [3, 4, 6, 19] (.reg false [] [
  ⟨.mv (.t 19), some 92, none⟩,
  ⟨.bin .add .plain (.t 92) (.c (vi .i64 1)), some 93, none⟩,
  ⟨.mv (.t 93), some 19, none⟩])))))))))))))))))))))))))))
  (.keep [] (.seq (.reg false [] [
  ⟨.mv (.c (vb true)), some 2, none⟩])
  (.ret)))))))))))))
def J5D : TFn := ⟨1, 114, J9u, [.tmp 2], false⟩
def J9z : TCo := .seq (.reg false [] [
  ⟨.mv (.c (vb false)), some 2, none⟩])
  (.keep [0] (.seq (.seq (.reg false [] [
  ⟨.call J0L [] 0, some 14, none⟩,
  ⟨.un .not (.t 14), some 15, none⟩])
  (.keep [0, 15] (.cond (.t 15)
  (.seq (.reg false [] [
  ⟨.mv (.c (vb false)), some 2, none⟩])
  (.ret))
  (.skip))))
  (.keep [0] (.seq (.reg false [] [
  ⟨.mv (.t 0), some 16, none⟩,
  ⟨.call J1x [(.t 16), (.c (vi .i64 200))] 1, some 17, none⟩,
  ⟨.mv (.t 17), some 3, none⟩])
  (.keep [3] (.seq (.reg false [] [
  ⟨.call J0r [(.c (vi .i64 4))] 0, some 19, none⟩,
  ⟨.mv (.t 19), some 18, none⟩,
  ⟨.extr (.t 18) 0, some 20, none⟩,
  ⟨.extr (.t 18) 1, some 21, none⟩,
  ⟨.newbox J3, some 4, none⟩,
  ⟨.store J3 (.t 4) (.t 20), none, none⟩,
  ⟨.mv (.t 21), some 5, none⟩])
  (.keep [3, 4, 5] (.seq (.seq (.reg false [] [
  ⟨.mv (.t 5), some 22, none⟩,
  ⟨.bin .neq .plain (.t 22) (.c (vi .i64 0)), some 23, none⟩])
  (.keep [3, 4, 23] (.cond (.t 23)
  (.seq (.reg false [] [
  ⟨.mv (.c (vb false)), some 2, none⟩])
  (.ret))
  (.skip))))
  (.keep [3, 4] (.seq (.reg false [] [
  ⟨.newbox (.ar 4 .s), some 6, none⟩])
  (.keep [3, 4, 6] (.seq (.seq (.reg false [] [
  ⟨.mv (.c (vi .i64 0)), some 7, none⟩])
  (.keep [3, 4, 6, 7] (.block 0 (.loop [3, 4, 6, 7] (.seq (.seq (.reg false [] [
  ⟨.mv (.t 7), some 24, none⟩,
  ⟨.bin .lss .plain (.t 24) (.c (vi .i64 4)), some 25, none⟩])
  (.keep [3, 4, 6, 7, 25] (.cond (.t 25)
  (.skip)
  (.exit 0))))
  (.keep [3, 4, 6, 7] (.seq (.block 1 (.reg false [] [
  ⟨.mv (.t 7), some 28, none⟩,
  ⟨.mkslice false (.i .u8) 1 (.c (vi .i64 256)) (.c (vi .i64 256)), some 29, none⟩,
  ⟨.conv .toStr (.t 29), some 30, none⟩,
  ⟨.aaddr 4 1 (.t 6) (.t 28), some 31, none⟩,
  ⟨.store .s (.t 31) (.t 30), none, none⟩]))
  (.keep [3, 4, 6, 7] (.reg false [] [
  ⟨.mv (.t 7), some 26, none⟩,
  ⟨.bin .add .plain (.t 26) (.c (vi .i64 1)), some 27, none⟩,
  ⟨.mv (.t 27), some 7, none⟩])))))))))
  (.keep [3, 4, 6] (.seq (.reg false [] [
  ⟨.mv (.c (vi .i64 0)), some 8, none⟩])
  (.keep [3, 4, 6, 8] (.seq (.block 2 (.loop [3, 4, 6, 8] (.seq (.seq (.reg false [] [
  ⟨.mv (.t 3), some 32, none⟩,
  ⟨.call J0R [(.t 32)] 0, some 33, none⟩,
  ⟨.bin .gtr .plain (.t 33) (.c (vi .i64 0)), some 34, none⟩])
  (.keep [3, 4, 6, 8, 34] (.cond (.t 34)
  (.skip)
  (.exit 2))))
  (.keep [3, 4, 6, 8] (.block 3 (.seq (.reg false [] [
  ⟨.mv (.t 3), some 35, none⟩,
  ⟨.call i_draw_Codes_Next [(.t 35), (.c (vi .i64 4))] 0, some 36, none⟩,
  ⟨.mv (.t 3), some 37, none⟩,
  ⟨.call Jz [(.t 37)] 0, some 38, none⟩,
  ⟨.mv (.t 36), some 9, none⟩,
  ⟨.mv (.t 38), some 10, none⟩])
  (.keep [3, 4, 6, 8, 9, 10] (.seq (.reg false [] [
  ⟨.load true J3 (.t 4), some 40, none⟩,
  ⟨.mv (.t 9), some 41, none⟩,
  ⟨.mv (.t 10), some 42, none⟩,
  ⟨.call JJ [(.t 40), (.t 41), (.t 42)] 0, some 43, none⟩,
  ⟨.mv (.t 43), some 39, none⟩,
  ⟨.extr (.t 39) 0, some 44, none⟩,
  ⟨.extr (.t 39) 1, some 45, none⟩,
  ⟨.store J3 (.t 4) (.t 44), none, none⟩,
  ⟨.mv (.t 45), some 5, none⟩])
  (.keep [3, 4, 5, 6, 8, 9, 10] (.seq (.seq (.reg false [] [
  ⟨.mv (.t 5), some 46, none⟩,
  ⟨.bin .neq .plain (.t 46) (.c (vi .i64 0)), some 47, none⟩])
  (.keep [3, 4, 6, 8, 9, 10, 47] (.cond (.t 47)
  (.seq (.reg false [] [
  ⟨.mv (.c (vb false)), some 2, none⟩])
  (.ret))
  (.skip))))
  (.keep [3, 4, 6, 8, 9, 10] (.seq (.reg false [] [
  ⟨.mv (.t 9), some 48, none⟩,
  ⟨.mv (.t 10), some 49, none⟩,
  ⟨.aaddr 4 1 (.t 6) (.t 48), some 50, none⟩,
  ⟨.store .s (.t 50) (.t 49), none, none⟩])
  (.keep [3, 4, 6, 8] (.reg false [] [
  ⟨.mv (.t 8), some 51, none⟩,
  ⟨.bin .add .plain (.t 51) (.c (vi .i64 1)), some 52, none⟩,
  ⟨.mv (.t 52), some 8, none⟩]))))))))))))))
  (.keep [4, 6, 8] (.seq (.seq (.reg false [] [
  ⟨.mv (.c (vi .i64 0)), some 11, none⟩])
  (.keep [4, 6, 8, 11] (.block 4 (.loop [4, 6, 8, 11] (.seq (.seq (.reg false [] [
  ⟨.mv (.t 11), some 53, none⟩,
  ⟨.bin .lss .plain (.t 53) (.c (vi .i64 4)), some 54, none⟩])
  (.keep [4, 6, 8, 11, 54] (.cond (.t 54)
  (.skip)
  (.exit 4))))
  (.keep [4, 6, 8, 11] (.seq (.block 5 (.seq (.reg false [] [
  ⟨.load true J3 (.t 4), some 58, none⟩,
  ⟨.mv (.t 11), some 59, none⟩,
  ⟨.call J07 [(.t 58), (.t 59)] 0, some 60, none⟩,
  ⟨.mv (.t 60), some 57, none⟩,
  ⟨.extr (.t 57) 0, some 61, none⟩,
  ⟨.extr (.t 57) 1, some 62, none⟩,
  ⟨.mv (.t 61), some 12, none⟩,
  ⟨.mv (.t 62), some 13, none⟩])
  (.keep [4, 6, 8, 11, 12, 13] (.seq (.reg false [] [
  ⟨.mv (.t 13), some 63, none⟩,
  ⟨.bin .neq .plain (.t 63) (.c (vi .i64 0)), some 64, none⟩,
  ⟨.mv (.t 64), some 65, none⟩,
  ⟨.mv (.t 12), some 66, some (65, false)⟩,
  ⟨.mv (.t 11), some 67, some (65, false)⟩,
  ⟨.aaddr 4 1 (.t 6) (.t 67), some 68, some (65, false)⟩,
  ⟨.load false .s (.t 68), some 69, some (65, false)⟩,
  ⟨.bin .neq .plain (.t 66) (.t 69), some 70, some (65, false)⟩,
  ⟨.pick (.t 65) (.c (vb true)) (.t 70), some 71, none⟩])
  (.keep [4, 6, 8, 11, 71] (.cond (.t 71)
  (.seq (.reg false [] [
  ⟨.mv (.c (vb false)), some 2, none⟩])
  (.ret))
  (.skip)))))))
  (.keep [4, 6, 8, 11] (.reg false [] [
  ⟨.mv (.t 11), some 55, none⟩,
  ⟨.bin .add .plain (.t 55) (.c (vi .i64 1)), some 56, none⟩,
  ⟨.mv (.t 56), some 11, none⟩])))))))))
  (.keep [4, 8] (.seq (.reg false [] [
  ⟨.faddr 1 (.t 4), some 72, none⟩,
  ⟨.load false (.i .i64) (.t 72), some 73, none⟩,
  ⟨.mv (.t 8), some 74, none⟩,
  ⟨.bin .eql .plain (.t 73) (.t 74), some 75, none⟩,
  ⟨.mv (.t 75), some 2, none⟩])
  (.ret)))))))))))))))))))))
def J2o : TFn := ⟨1, 76, J9z, [.tmp 2], false⟩
def Jab : TCo := .seq (.reg false [] [
  ⟨.mv (.c (vb false)), some 6, none⟩])
  (.keep [0, 1, 2] (.seq (.seq (.reg false [] [
  ⟨.call J0L [] 0, some 23, none⟩,
  ⟨.un .not (.t 23), some 24, none⟩])
  (.keep [0, 1, 2, 24] (.cond (.t 24)
  (.seq (.reg false [] [
  ⟨.mv (.c (vb false)), some 6, none⟩])
  (.ret))
  (.skip))))
  (.keep [0, 1, 2] (.seq (.reg false [] [
  ⟨.mv (.t 0), some 25, none⟩,
  ⟨.call J1x [(.t 25), (.c (vi .i64 100))] 1, some 26, none⟩,
  ⟨.mv (.t 26), some 7, none⟩])
  (.keep [1, 2, 7] (.seq (.reg false [] [
  ⟨.mv (.t 2), some 27, none⟩,
  ⟨.conv (.int .i64) (.t 27), some 28, none⟩,
  ⟨.bin .rem .plain (.t 28) (.c (vi .i64 5)), some 29, none⟩,
  ⟨.bin .add .plain (.c (vi .i64 1)) (.t 29), some 30, none⟩,
  ⟨.mv (.t 30), some 8, none⟩])
  (.keep [1, 7, 8] (.seq (.reg false [] [
  ⟨.mv (.t 1), some 31, none⟩,
  ⟨.conv (.int .i64) (.t 31), some 32, none⟩,
  ⟨.bin .rem .plain (.t 32) (.c (vi .i64 5)), some 33, none⟩,
  ⟨.bin .add .plain (.c (vi .i64 1)) (.t 33), some 34, none⟩,
  ⟨.mv (.t 8), some 35, none⟩,
  ⟨.build J4 [(0, (.i .i64), (.t 34)), (1, (.i .i64), (.t 35))], some 36, none⟩,
  ⟨.newbox J4, some 9, none⟩,
  ⟨.store J4 (.t 9) (.t 36), none, none⟩])
  (.keep [7, 8, 9] (.seq (.seq (.reg false [] [
  ⟨.faddr 0 (.t 9), some 37, none⟩,
  ⟨.load false (.i .i64) (.t 37), some 38, none⟩])
  (.keep [7, 8, 9, 38] (.block 0 (.seq (.reg false [] [
  ⟨.bin .eql .plain (.t 38) (.c (vi .i64 2)), some 40, none⟩,
  ⟨.mv (.t 40), some 39, none⟩])
  (.keep [7, 8, 9, 38, 39] (.cond (.t 39)
  (.reg false [] [
  ⟨.mv (.t 7), some 41, none⟩,
  ⟨.call i_draw_Codes_Next [(.t 41), (.c (vi .i64 3))] 0, some 42, none⟩,
  ⟨.faddr 3 (.t 9), some 43, none⟩,
  ⟨.store (.i .i64) (.t 43) (.t 42), none, none⟩])
  (.seq (.reg false [] [
  ⟨.bin .eql .plain (.t 38) (.c (vi .i64 3)), some 45, none⟩,
  ⟨.mv (.t 45), some 44, none⟩])
  (.keep [7, 8, 9, 38, 44] (.cond (.t 44)
  (.reg false [] [
  ⟨.mv (.t 7), some 46, none⟩,
  ⟨.call i_draw_Codes_Next [(.t 46), (.c (vi .i64 256))] 0, some 47, none⟩,
  ⟨.faddr 4 (.t 9), some 48, none⟩,
  ⟨.store (.i .i64) (.t 48) (.t 47), none, none⟩])
  (.seq (.reg false [] [
  ⟨.bin .eql .plain (.t 38) (.c (vi .i64 4)), some 50, none⟩,
  ⟨.mv (.t 50), some 49, none⟩])
  (.keep [7, 8, 9, 38, 49] (.cond (.t 49)
  (.reg false [] [
  ⟨.mv (.t 7), some 51, none⟩,
  ⟨.call i_draw_Codes_Next [(.t 51), (.c (vi .i64 3))] 0, some 52, none⟩,
  ⟨.mv (.t 7), some 53, none⟩,
  ⟨.call i_draw_Codes_Next [(.t 53), (.c (vi .i64 256))] 0, some 54, none⟩,
  ⟨.faddr 2 (.t 9), some 55, none⟩,
  ⟨.store (.i .i64) (.t 55) (.t 52), none, none⟩,
  ⟨.faddr 4 (.t 9), some 56, none⟩,
  ⟨.store (.i .i64) (.t 56) (.t 54), none, none⟩,
  ⟨.faddr 5 (.t 9), some 57, none⟩,
  ⟨.store (.i .u8) (.t 57) (.c (vi .u8 1)), none, none⟩])
  (.seq (.reg false [] [
  ⟨.bin .eql .plain (.t 38) (.c (vi .i64 5)), some 59, none⟩,
  ⟨.mv (.t 59), some 58, none⟩])
  (.keep [7, 8, 9, 58] (.cond (.t 58)
  (.reg false [] [
  ⟨.mv (.t 7), some 60, none⟩,
  ⟨.call i_draw_Codes_Next [(.t 60), (.c (vi .i64 3))] 0, some 61, none⟩,
  ⟨.faddr 2 (.t 9), some 62, none⟩,
  ⟨.store (.i .i64) (.t 62) (.t 61), none, none⟩])
  (.skip))))))))))))))))
  (.keep [7, 8, 9] (.seq (.reg false [] [
  ⟨.call J0r [(.c (vi .i64 3))] 0, some 64, none⟩,
  ⟨.mv (.t 64), some 63, none⟩,
  ⟨.extr (.t 63) 0, some 65, none⟩,
  ⟨.extr (.t 63) 1, some 66, none⟩,
  ⟨.newbox J3, some 10, none⟩,
  ⟨.store J3 (.t 10) (.t 65), none, none⟩,
  ⟨.mv (.t 66), some 11, none⟩])
  (.keep [7, 8, 9, 10, 11] (.seq (.reg false [] [
  ⟨.load true J3 (.t 10), some 68, none⟩,
  ⟨.load true J4 (.t 9), some 69, none⟩,
  ⟨.call J0i [(.t 68), (.t 69)] 0, some 70, none⟩,
  ⟨.mv (.t 70), some 67, none⟩,
  ⟨.extr (.t 67) 0, some 71, none⟩,
  ⟨.extr (.t 67) 1, some 72, none⟩,
  ⟨.newbox J3, some 12, none⟩,
  ⟨.store J3 (.t 12) (.t 71), none, none⟩,
  ⟨.mv (.t 72), some 13, none⟩])
  (.keep [7, 8, 9, 10, 11, 12, 13] (.seq (.seq (.reg false [] [
  ⟨.mv (.t 11), some 73, none⟩,
  ⟨.bin .neq .plain (.t 73) (.c (vi .i64 0)), some 74, none⟩,
  ⟨.mv (.t 74), some 75, none⟩,
  ⟨.mv (.t 13), some 76, some (75, false)⟩,
  ⟨.bin .neq .plain (.t 76) (.c (vi .i64 0)), some 77, some (75, false)⟩,
  ⟨.pick (.t 75) (.c (vb true)) (.t 77), some 78, none⟩])
  (.keep [7, 8, 9, 10, 12, 78] (.cond (.t 78)
  (.seq (.reg false [] [
  ⟨.mv (.c (vb false)), some 6, none⟩])
  (.ret))
  (.skip))))
  (.keep [7, 8, 9, 10, 12] (.seq (.reg false [] [
  ⟨.build (.ar 3 .b) [], some 79, none⟩,
  ⟨.newbox (.ar 3 .b), some 14, none⟩,
  ⟨.store (.ar 3 .b) (.t 14) (.t 79), none, none⟩])
  (.keep [7, 8, 9, 10, 12, 14] (.seq (.seq (.reg false [] [
  ⟨.mv (.c (vi .i64 1)), some 15, none⟩])
  (.keep [7, 8, 9, 10, 12, 14, 15] (.block 1 (.loop [7, 8, 9, 10, 12, 14, 15] (.seq (.seq (.reg false [] [
  ⟨.mv (.t 15), some 80, none⟩,
  ⟨.bin .leq .plain (.t 80) (.c (vi .i64 6)), some 81, none⟩])
  (.keep [7, 8, 9, 10, 12, 14, 15, 81] (.cond (.t 81)
  (.skip)
  (.exit 1))))
  (.keep [7, 8, 9, 10, 12, 14, 15] (.seq (.block 2 (.seq (.reg false [] [
  ⟨.mv (.t 7), some 84, none⟩,
  ⟨.call i_draw_Codes_Next [(.t 84), (.c (vi .i64 3))] 0, some 85, none⟩,
  ⟨.mv (.t 7), some 86, none⟩,
  ⟨.call Jz [(.t 86)] 0, some 87, none⟩,
  ⟨.mv (.t 85), some 16, none⟩,
  ⟨.mv (.t 87), some 17, none⟩])
  (.keep [7, 8, 9, 10, 12, 14, 15, 16, 17] (.seq (.reg false [] [
  ⟨.load true J3 (.t 10), some 89, none⟩,
  ⟨.mv (.t 16), some 90, none⟩,
  ⟨.mv (.t 17), some 91, none⟩,
  ⟨.call JJ [(.t 89), (.t 90), (.t 91)] 0, some 92, none⟩,
  ⟨.mv (.t 92), some 88, none⟩,
  ⟨.extr (.t 88) 0, some 93, none⟩,
  ⟨.extr (.t 88) 1, some 94, none⟩,
  ⟨.store J3 (.t 10) (.t 93), none, none⟩,
  ⟨.mv (.t 94), some 11, none⟩])
  (.keep [7, 8, 9, 10, 11, 12, 14, 15, 16, 17] (.seq (.reg false [] [
  ⟨.load true J3 (.t 12), some 96, none⟩,
  ⟨.mv (.t 16), some 97, none⟩,
  ⟨.mv (.t 17), some 98, none⟩,
  ⟨.call JJ [(.t 96), (.t 97), (.t 98)] 0, some 99, none⟩,
  ⟨.mv (.t 99), some 95, none⟩,
  ⟨.extr (.t 95) 0, some 100, none⟩,
  ⟨.extr (.t 95) 1, some 101, none⟩,
  ⟨.store J3 (.t 12) (.t 100), none, none⟩,
  ⟨.mv (.t 101), some 13, none⟩])
  (.keep [7, 8, 9, 10, 11, 12, 13, 14, 15, 16] (.seq (.seq (.reg false [] [
  ⟨.mv (.t 11), some 102, none⟩,
  ⟨.bin .neq .plain (.t 102) (.c (vi .i64 0)), some 103, none⟩,
  ⟨.mv (.t 103), some 104, none⟩,
  ⟨.mv (.t 13), some 105, some (104, false)⟩,
  ⟨.bin .neq .plain (.t 105) (.c (vi .i64 0)), some 106, some (104, false)⟩,
  ⟨.pick (.t 104) (.c (vb true)) (.t 106), some 107, none⟩])
  (.keep [7, 8, 9, 10, 12, 14, 15, 16, 107] (.cond (.t 107)
  (.seq (.reg false [] [
  ⟨.mv (.c (vb false)), some 6, none⟩])
  (.ret))
  (.skip))))
  (.keep [7, 8, 9, 10, 12, 14, 15, 16] (.seq (.seq (.reg false [] [
  ⟨.mv (.t 15), some 108, none⟩,
  ⟨.mv (.t 8), some 109, none⟩,
  ⟨.bin .eql .plain (.t 108) (.t 109), some 110, none⟩])
  (.keep [7, 8, 9, 10, 12, 14, 15, 16, 110] (.cond (.t 110)
  (.reg true [(2, 6), (4, 6), (4, 8)] [
  ⟨.mv (.t 16), some 111, none⟩,
  ⟨.faddr 3 (.t 9), some 112, none⟩,
  ⟨.load false (.i .i64) (.t 112), some 113, none⟩,
  ⟨.faddr 2 (.t 9), some 114, none⟩,
  ⟨.load false (.i .i64) (.t 114), some 115, none⟩,
  ⟨.aaddr 3 1 (.t 14) (.t 111), some 116, none⟩,
  ⟨.store .b (.t 116) (.c (vb true)), none, none⟩,
  ⟨.aaddr 3 1 (.t 14) (.t 113), some 117, none⟩,
  ⟨.store .b (.t 117) (.c (vb true)), none, none⟩,
  ⟨.aaddr 3 1 (.t 14) (.t 115), some 118, none⟩,
  ⟨.store .b (.t 118) (.c (vb true)), none, none⟩])
  (.seq (.reg false [] [
  ⟨.mv (.t 15), some 119, none⟩,
  ⟨.mv (.t 8), some 120, none⟩,
  ⟨.bin .gtr .plain (.t 119) (.t 120), some 121, none⟩])
  (.keep [7, 8, 9, 10, 12, 14, 15, 16, 121] (.cond (.t 121)
  (.reg false [] [
  ⟨.mv (.t 16), some 122, none⟩,
  ⟨.aaddr 3 1 (.t 14) (.t 122), some 123, none⟩,
  ⟨.store .b (.t 123) (.c (vb false)), none, none⟩])
  (.skip)))))))
  (.keep [7, 8, 9, 10, 12, 14, 15] (.seq (.reg false [] [
  ⟨.mv (.c (vi .i64 0)), some 18, none⟩])
  (.keep [7, 8, 9, 10, 12, 14, 15, 18] (.block 3 (.loop [7, 8, 9, 10, 12, 14, 15, 18] (.seq (.seq (.reg false [] [
  ⟨.mv (.t 18), some 124, none⟩,
  ⟨.bin .lss .plain (.t 124) (.c (vi .i64 3)), some 125, none⟩])
  (.keep [7, 8, 9, 10, 12, 14, 15, 18, 125] (.cond (.t 125)
  (.skip)
  (.exit 3))))
  (.keep [7, 8, 9, 10, 12, 14, 15, 18] (.seq (.block 4 (.seq (.reg false [] [
  ⟨.load true J3 (.t 10), some 129, none⟩,
  ⟨.mv (.t 18), some 130, none⟩,
  ⟨.call J07 [(.t 129), (.t 130)] 0, some 131, none⟩,
  ⟨.mv (.t 131), some 128, none⟩,
  ⟨.extr (.t 128) 0, some 132, none⟩,
  ⟨.extr (.t 128) 1, some 133, none⟩,
  ⟨.mv (.t 132), some 19, none⟩,
  ⟨.mv (.t 133), some 20, none⟩])
  (.keep [7, 8, 9, 10, 12, 14, 15, 18, 19, 20] (.seq (.reg false [] [
  ⟨.load true J3 (.t 12), some 135, none⟩,
  ⟨.mv (.t 18), some 136, none⟩,
  ⟨.call J07 [(.t 135), (.t 136)] 0, some 137, none⟩,
  ⟨.mv (.t 137), some 134, none⟩,
  ⟨.extr (.t 134) 0, some 138, none⟩,
  ⟨.extr (.t 134) 1, some 139, none⟩,
  ⟨.mv (.t 138), some 21, none⟩,
  ⟨.mv (.t 139), some 22, none⟩])
  (.keep [7, 8, 9, 10, 12, 14, 15, 18, 19, 20, 21, 22] (.seq (.reg false [] [
  ⟨.mv (.t 20), some 140, none⟩,
  ⟨.bin .neq .plain (.t 140) (.c (vi .i64 0)), some 141, none⟩,
  ⟨.mv (.t 141), some 142, none⟩,
  ⟨.mv (.t 18), some 143, some (142, false)⟩,
  ⟨.aaddr 3 1 (.t 14) (.t 143), some 144, some (142, false)⟩,
  ⟨.load false .b (.t 144), some 145, some (142, false)⟩,
  ⟨.un .not (.t 145), some 146, some (142, false)⟩,
  ⟨.mv (.t 146), some 147, some (142, false)⟩,
  ⟨.mv (.t 22), some 148, some (147, true)⟩,
  ⟨.bin .neq .plain (.t 148) (.c (vi .i64 0)), some 149, some (147, true)⟩,
  ⟨.mv (.t 149), some 150, some (147, true)⟩,
  ⟨.mv (.t 19), some 151, some (150, false)⟩,
  ⟨.mv (.t 21), some 152, some (150, false)⟩,
  ⟨.bin .neq .plain (.t 151) (.t 152), some 153, some (150, false)⟩,
  ⟨.pick (.t 150) (.c (vb true)) (.t 153), some 154, some (147, true)⟩,
  ⟨.pick (.t 147) (.t 154) (.c (vb false)), some 155, some (142, false)⟩,
  ⟨.pick (.t 142) (.c (vb true)) (.t 155), some 156, none⟩])
  (.keep [7, 8, 9, 10, 12, 14, 15, 18, 156] (.cond (.t 156)
  (.seq (.reg false [] [
  ⟨.mv (.c (vb false)), some 6, none⟩])
  (.ret))
  (.skip)))))))))
  (.keep [7, 8, 9, 10, 12, 14, 15, 18] (.reg false [] [
  ⟨.mv (.t 18), some 126, none⟩,
  ⟨.bin .add .plain (.t 126) (.c (vi .i64 1)), some 127, none⟩,
  ⟨.mv (.t 127), some 18, none⟩]))))))))))))))))))))
  (.keep [7, 8, 9, 10, 12, 14, 15] (.reg false [] [
  ⟨.mv (.t 15), some 82, none⟩,
  ⟨.bin .add .plain (.t 82) (.c (vi .i64 1)), some 83, none⟩,
  ⟨.mv (.t 83), some 15, none⟩])))))))))
  (.keep [12] (.seq (.reg false [] [
  ⟨.faddr 4 (.t 12), some 157, none⟩,
  ⟨.load false (.l J4) (.t 157), some 158, none⟩,
  ⟨.len false (.t 158), some 159, none⟩,
  ⟨.bin .eql .plain (.t 159) (.c (vi .i64 0)), some 160, none⟩,
  ⟨.mv (.t 160), some 6, none⟩])
  (.ret)))))))))))))))))))))))
def J6c : TFn := ⟨3, 161, Jab, [.tmp 6], false⟩
def Jfw : TCo := .seq (.reg false [] [
  ⟨.box J3 (.t 0), some 4, none⟩,
  ⟨.newbox J3, some 8, none⟩,
  ⟨.mv (.c (vi .i64 0)), some 9, none⟩])
  (.keep [1, 2, 3, 4, 8] (.seq (.reg false [] [
  ⟨.load true J3 (.t 4), some 11, none⟩,
  ⟨.mv (.t 1), some 12, none⟩,
  ⟨.call J1b [(.t 11), (.t 12)] 0, some 13, none⟩,
  ⟨.mv (.t 13), some 10, none⟩])
  (.keep [1, 2, 3, 4, 8, 10] (.seq (.block 0 (.seq (.reg false [] [
  ⟨.mv (.t 10), some 15, none⟩,
  ⟨.bin .neq .plain (.t 15) (.c (vi .i64 0)), some 16, none⟩,
  ⟨.mv (.t 16), some 14, none⟩])
  (.keep [1, 2, 3, 4, 8, 10, 14] (.cond (.t 14)
  (.seq (.reg false [] [
  ⟨.build J3 [], some 17, none⟩,
  ⟨.mv (.t 10), some 18, none⟩,
  ⟨.store J3 (.t 8) (.t 17), none, none⟩,
  ⟨.mv (.t 18), some 9, none⟩])
  (.ret))
  (.seq (.reg false [] [
  ⟨.mv (.t 3), some 20, none⟩,
  ⟨.bin .lss .plain (.t 20) (.c (vi .i64 0)), some 21, none⟩,
  ⟨.mv (.t 21), some 22, none⟩,
  ⟨.mv (.t 3), some 23, some (22, false)⟩,
  ⟨.bin .gtr .plain (.t 23) (.c (vi .i64 256)), some 24, some (22, false)⟩,
  ⟨.pick (.t 22) (.c (vb true)) (.t 24), some 25, none⟩,
  ⟨.mv (.t 25), some 19, none⟩])
  (.keep [1, 2, 3, 4, 8, 19] (.cond (.t 19)
  (.seq (.reg false [] [
  ⟨.build J3 [], some 26, none⟩,
  ⟨.store J3 (.t 8) (.t 26), none, none⟩,
  ⟨.mv (.c (vi .i64 1)), some 9, none⟩])
  (.ret))
  (.seq (.reg false [] [
  ⟨.mv (.t 2), some 28, none⟩,
  ⟨.len true (.t 28), some 29, none⟩,
  ⟨.bin .neq .plain (.t 29) (.c (vi .i64 256)), some 30, none⟩,
  ⟨.mv (.t 30), some 27, none⟩])
  (.keep [1, 2, 3, 4, 8, 27] (.cond (.t 27)
  (.seq (.reg false [] [
  ⟨.build J3 [], some 31, none⟩,
  ⟨.store J3 (.t 8) (.t 31), none, none⟩,
  ⟨.mv (.c (vi .i64 2)), some 9, none⟩])
  (.ret))
  (.skip)))))))))))
  (.keep [1, 2, 3, 4, 8] (.seq (.reg true [] [
  ⟨.load true J3 (.t 4), some 32, none⟩,
  ⟨.mv (.t 1), some 33, none⟩,
  ⟨.mv (.t 2), some 34, none⟩,
  ⟨.mv (.t 3), some 35, none⟩,
  ⟨.slice .str (.t 34) none (some (.t 35)) none, some 36, none⟩,
  ⟨.faddr 0 (.t 4), some 37, none⟩,
  ⟨.load false (.l .s) (.t 37), some 38, none⟩,
  ⟨.mv (.t 1), some 39, none⟩,
  ⟨.iaddr .s (.t 38) (.t 39), some 40, none⟩,
  ⟨.load false .s (.t 40), some 41, none⟩,
  ⟨.mv (.t 3), some 42, none⟩,
  ⟨.slice .str (.t 41) (some (.t 42)) none none, some 43, none⟩,
  ⟨.bin .add .plain (.t 36) (.t 43), some 44, none⟩,
  ⟨.call J9Y [(.t 32), (.t 33), (.t 44)] 0, some 45, none⟩,
  ⟨.store J3 (.t 8) (.t 45), none, none⟩,
  ⟨.mv (.c (vi .i64 0)), some 9, none⟩])
  (.ret)))))))
def J9l : TFn := ⟨4, 46, Jfw, [.cell 8 true J3, .tmp 9], false⟩
def J9v : TCo := .seq (.reg false [] [
  ⟨.mv (.c (vb false)), some 6, none⟩])
  (.keep [0, 1, 2] (.seq (.seq (.reg false [] [
  ⟨.call J0L [] 0, some 22, none⟩,
  ⟨.un .not (.t 22), some 23, none⟩])
  (.keep [0, 1, 2, 23] (.cond (.t 23)
  (.seq (.reg false [] [
  ⟨.mv (.c (vb false)), some 6, none⟩])
  (.ret))
  (.skip))))
  (.keep [0, 1, 2] (.seq (.reg false [] [
  ⟨.mv (.t 0), some 24, none⟩,
  ⟨.call J1x [(.t 24), (.c (vi .i64 100))] 1, some 25, none⟩,
  ⟨.mv (.t 25), some 7, none⟩])
  (.keep [1, 2, 7] (.seq (.reg false [] [
  ⟨.call J0r [(.c (vi .i64 2))] 0, some 27, none⟩,
  ⟨.mv (.t 27), some 26, none⟩,
  ⟨.extr (.t 26) 0, some 28, none⟩,
  ⟨.extr (.t 26) 1, some 29, none⟩,
  ⟨.newbox J3, some 8, none⟩,
  ⟨.store J3 (.t 8) (.t 28), none, none⟩,
  ⟨.mv (.t 29), some 9, none⟩])
  (.keep [1, 2, 7, 8, 9] (.seq (.reg true [(0, 2)] [
  ⟨.load true J3 (.t 8), some 31, none⟩,
  ⟨.mv (.t 7), some 32, none⟩,
  ⟨.call Jz [(.t 32)] 0, some 33, none⟩,
  ⟨.call JJ [(.t 31), (.c (vi .i64 1)), (.t 33)] 0, some 34, none⟩,
  ⟨.mv (.t 34), some 30, none⟩,
  ⟨.extr (.t 30) 0, some 35, none⟩,
  ⟨.extr (.t 30) 1, some 36, none⟩,
  ⟨.store J3 (.t 8) (.t 35), none, none⟩,
  ⟨.mv (.t 36), some 10, none⟩])
  (.keep [1, 2, 7, 8, 9, 10] (.seq (.seq (.reg false [] [
  ⟨.mv (.t 9), some 37, none⟩,
  ⟨.bin .neq .plain (.t 37) (.c (vi .i64 0)), some 38, none⟩,
  ⟨.mv (.t 38), some 39, none⟩,
  ⟨.mv (.t 10), some 40, some (39, false)⟩,
  ⟨.bin .neq .plain (.t 40) (.c (vi .i64 0)), some 41, some (39, false)⟩,
  ⟨.pick (.t 39) (.c (vb true)) (.t 41), some 42, none⟩,
  ⟨.mv (.t 42), some 43, none⟩,
  ⟨.faddr 0 (.t 8), some 44, some (43, false)⟩,
  ⟨.load false (.l .s) (.t 44), some 45, some (43, false)⟩,
  ⟨.len false (.t 45), some 46, some (43, false)⟩,
  ⟨.bin .neq .plain (.t 46) (.c (vi .i64 2)), some 47, some (43, false)⟩,
  ⟨.pick (.t 43) (.c (vb true)) (.t 47), some 48, none⟩])
  (.keep [1, 2, 7, 8, 48] (.cond (.t 48)
  (.seq (.reg false [] [
  ⟨.mv (.c (vb false)), some 6, none⟩])
  (.ret))
  (.skip))))
  (.keep [1, 2, 7, 8] (.seq (.reg true [(1, 5), (2, 5), (3, 5)] [
  ⟨.faddr 0 (.t 8), some 49, none⟩,
  ⟨.load false (.l .s) (.t 49), some 50, none⟩,
  ⟨.iaddr .s (.t 50) (.c (vi .i64 1)), some 51, none⟩,
  ⟨.load false .s (.t 51), some 52, none⟩,
  ⟨.mv (.t 7), some 53, none⟩,
  ⟨.call Jz [(.t 53)] 0, some 54, none⟩,
  ⟨.mv (.t 52), some 11, none⟩,
  ⟨.mv (.t 54), some 12, none⟩])
  (.keep [1, 2, 8, 11, 12] (.seq (.reg false [] [
  ⟨.mv (.t 1), some 55, none⟩,
  ⟨.conv (.int .i64) (.t 55), some 56, none⟩,
  ⟨.bin .rem .plain (.t 56) (.c (vi .i64 257)), some 57, none⟩,
  ⟨.mv (.t 2), some 58, none⟩,
  ⟨.conv (.int .i64) (.t 58), some 59, none⟩,
  ⟨.bin .rem .plain (.t 59) (.c (vi .i64 257)), some 60, none⟩,
  ⟨.mv (.t 57), some 13, none⟩,
  ⟨.mv (.t 60), some 14, none⟩])
  (.keep [8, 11, 12, 13, 14] (.seq (.reg false [] [
  ⟨.load true J3 (.t 8), some 62, none⟩,
  ⟨.mv (.t 12), some 63, none⟩,
  ⟨.mv (.t 13), some 64, none⟩,
  ⟨.call J3t [(.t 62), (.c (vi .i64 1)), (.t 63), (.t 64)] 0, some 65, none⟩,
  ⟨.mv (.t 65), some 61, none⟩,
  ⟨.extr (.t 61) 0, some 66, none⟩,
  ⟨.extr (.t 61) 1, some 67, none⟩,
  ⟨.newbox J3, some 15, none⟩,
  ⟨.store J3 (.t 15) (.t 66), none, none⟩,
  ⟨.mv (.t 67), some 16, none⟩])
  (.keep [8, 11, 12, 13, 14, 15, 16] (.seq (.reg false [] [
  ⟨.load true J3 (.t 15), some 69, none⟩,
  ⟨.mv (.t 12), some 70, none⟩,
  ⟨.mv (.t 14), some 71, none⟩,
  ⟨.call J3t [(.t 69), (.c (vi .i64 1)), (.t 70), (.t 71)] 0, some 72, none⟩,
  ⟨.mv (.t 72), some 68, none⟩,
  ⟨.extr (.t 68) 0, some 73, none⟩,
  ⟨.extr (.t 68) 1, some 74, none⟩,
  ⟨.store J3 (.t 15) (.t 73), none, none⟩,
  ⟨.mv (.t 74), some 17, none⟩])
  (.keep [8, 11, 12, 13, 14, 15, 16, 17] (.seq (.seq (.reg false [] [
  ⟨.mv (.t 16), some 75, none⟩,
  ⟨.bin .neq .plain (.t 75) (.c (vi .i64 0)), some 76, none⟩,
  ⟨.mv (.t 76), some 77, none⟩,
  ⟨.mv (.t 17), some 78, some (77, false)⟩,
  ⟨.bin .neq .plain (.t 78) (.c (vi .i64 0)), some 79, some (77, false)⟩,
  ⟨.pick (.t 77) (.c (vb true)) (.t 79), some 80, none⟩,
  ⟨.mv (.t 80), some 81, none⟩,
  ⟨.faddr 0 (.t 15), some 82, some (81, false)⟩,
  ⟨.load false (.l .s) (.t 82), some 83, some (81, false)⟩,
  ⟨.len false (.t 83), some 84, some (81, false)⟩,
  ⟨.bin .neq .plain (.t 84) (.c (vi .i64 2)), some 85, some (81, false)⟩,
  ⟨.pick (.t 81) (.c (vb true)) (.t 85), some 86, none⟩,
  ⟨.mv (.t 86), some 87, none⟩,
  ⟨.mv (.t 12), some 88, some (87, false)⟩,
  ⟨.len true (.t 88), some 89, some (87, false)⟩,
  ⟨.bin .neq .plain (.t 89) (.c (vi .i64 256)), some 90, some (87, false)⟩,
  ⟨.pick (.t 87) (.c (vb true)) (.t 90), some 91, none⟩,
  ⟨.mv (.t 91), some 92, none⟩,
  ⟨.mv (.t 11), some 93, some (92, false)⟩,
  ⟨.len true (.t 93), some 94, some (92, false)⟩,
  ⟨.bin .neq .plain (.t 94) (.c (vi .i64 256)), some 95, some (92, false)⟩,
  ⟨.pick (.t 92) (.c (vb true)) (.t 95), some 96, none⟩])
  (.keep [8, 11, 12, 13, 14, 15, 96] (.cond (.t 96)
  (.seq (.reg false [] [
  ⟨.mv (.c (vb false)), some 6, none⟩])
  (.ret))
  (.skip))))
  (.keep [8, 11, 12, 13, 14, 15] (.seq (.reg false [] [
  ⟨.mv (.t 13), some 97, none⟩,
  ⟨.mv (.t 14), some 98, none⟩,
  ⟨.mm true (.t 97) (.t 98), some 99, none⟩,
  ⟨.mv (.t 99), some 18, none⟩])
  (.keep [8, 11, 12, 15, 18] (.seq (.seq (.reg true [] [
  ⟨.faddr 0 (.t 15), some 100, none⟩,
  ⟨.load false (.l .s) (.t 100), some 101, none⟩,
  ⟨.iaddr .s (.t 101) (.c (vi .i64 1)), some 102, none⟩,
  ⟨.load false .s (.t 102), some 103, none⟩,
  ⟨.mv (.t 12), some 104, none⟩,
  ⟨.mv (.t 18), some 105, none⟩,
  ⟨.slice .str (.t 104) none (some (.t 105)) none, some 106, none⟩,
  ⟨.mv (.t 11), some 107, none⟩,
  ⟨.mv (.t 18), some 108, none⟩,
  ⟨.slice .str (.t 107) (some (.t 108)) none none, some 109, none⟩,
  ⟨.bin .add .plain (.t 106) (.t 109), some 110, none⟩,
  ⟨.bin .neq .plain (.t 103) (.t 110), some 111, none⟩,
  ⟨.mv (.t 111), some 112, none⟩,
  ⟨.faddr 1 (.t 15), some 113, some (112, false)⟩,
  ⟨.load false (.i .i64) (.t 113), some 114, some (112, false)⟩,
  ⟨.faddr 1 (.t 8), some 115, some (112, false)⟩,
  ⟨.load false (.i .i64) (.t 115), some 116, some (112, false)⟩,
  ⟨.bin .neq .plain (.t 114) (.t 116), some 117, some (112, false)⟩,
  ⟨.pick (.t 112) (.c (vb true)) (.t 117), some 118, none⟩])
  (.keep [8, 12, 15, 18, 118] (.cond (.t 118)
  (.seq (.reg false [] [
  ⟨.mv (.c (vb false)), some 6, none⟩])
  (.ret))
  (.skip))))
  (.keep [8, 12, 15, 18] (.seq (.seq (.reg false [] [
  ⟨.mv (.t 18), some 119, none⟩,
  ⟨.bin .eql .plain (.t 119) (.c (vi .i64 256)), some 120, none⟩])
  (.keep [8, 12, 15, 18, 120] (.cond (.t 120)
  (.seq (.reg false [] [
  ⟨.mv (.c (vb true)), some 6, none⟩])
  (.ret))
  (.skip))))
  (.keep [8, 12, 15, 18] (.seq (.reg false [] [
  ⟨.load true J3 (.t 8), some 122, none⟩,
  ⟨.mv (.t 18), some 123, none⟩,
  ⟨.build J4 [(0, (.i .i64), (.c (vi .i64 3))), (1, (.i .i64), (.c (vi .i64 2))), (4, (.i .i64), (.t 123))], some 124, none⟩,
  ⟨.call J0i [(.t 122), (.t 124)] 0, some 125, none⟩,
  ⟨.mv (.t 125), some 121, none⟩,
  ⟨.extr (.t 121) 0, some 126, none⟩,
  ⟨.extr (.t 121) 1, some 127, none⟩,
  ⟨.newbox J3, some 19, none⟩,
  ⟨.store J3 (.t 19) (.t 126), none, none⟩,
  ⟨.mv (.t 127), some 20, none⟩])
  (.keep [12, 15, 19, 20] (.seq (.reg false [] [
  ⟨.load true J3 (.t 19), some 129, none⟩,
  ⟨.mv (.t 12), some 130, none⟩,
  ⟨.call JJ [(.t 129), (.c (vi .i64 1)), (.t 130)] 0, some 131, none⟩,
  ⟨.mv (.t 131), some 128, none⟩,
  ⟨.extr (.t 128) 0, some 132, none⟩,
  ⟨.extr (.t 128) 1, some 133, none⟩,
  ⟨.store J3 (.t 19) (.t 132), none, none⟩,
  ⟨.mv (.t 133), some 21, none⟩])
  (.keep [15, 19, 20, 21] (.seq (.reg true [] [
  ⟨.mv (.t 20), some 134, none⟩,
  ⟨.bin .eql .plain (.t 134) (.c (vi .i64 0)), some 135, none⟩,
  ⟨.mv (.t 135), some 136, none⟩,
  ⟨.mv (.t 21), some 137, some (136, true)⟩,
  ⟨.bin .eql .plain (.t 137) (.c (vi .i64 0)), some 138, some (136, true)⟩,
  ⟨.pick (.t 136) (.t 138) (.c (vb false)), some 139, none⟩,
  ⟨.mv (.t 139), some 140, none⟩,
  ⟨.faddr 1 (.t 19), some 141, some (140, true)⟩,
  ⟨.load false (.i .i64) (.t 141), some 142, some (140, true)⟩,
  ⟨.bin .eql .plain (.t 142) (.c (vi .i64 2)), some 143, some (140, true)⟩,
  ⟨.pick (.t 140) (.t 143) (.c (vb false)), some 144, none⟩,
  ⟨.mv (.t 144), some 145, none⟩,
  ⟨.faddr 0 (.t 19), some 146, some (145, true)⟩,
  ⟨.load false (.l .s) (.t 146), some 147, some (145, true)⟩,
  ⟨.len false (.t 147), some 148, some (145, true)⟩,
  ⟨.bin .eql .plain (.t 148) (.c (vi .i64 2)), some 149, some (145, true)⟩,
  ⟨.pick (.t 145) (.t 149) (.c (vb false)), some 150, none⟩,
  ⟨.mv (.t 150), some 151, none⟩,
  ⟨.faddr 0 (.t 19), some 152, some (151, true)⟩,
  ⟨.load false (.l .s) (.t 152), some 153, some (151, true)⟩,
  ⟨.iaddr .s (.t 153) (.c (vi .i64 1)), some 154, some (151, true)⟩,
  ⟨.load false .s (.t 154), some 155, some (151, true)⟩,
  ⟨.faddr 0 (.t 15), some 156, some (151, true)⟩,
  ⟨.load false (.l .s) (.t 156), some 157, some (151, true)⟩,
  ⟨.iaddr .s (.t 157) (.c (vi .i64 1)), some 158, some (151, true)⟩,
  ⟨.load false .s (.t 158), some 159, some (151, true)⟩,
  ⟨.bin .eql .plain (.t 155) (.t 159), some 160, some (151, true)⟩,
  ⟨.pick (.t 151) (.t 160) (.c (vb false)), some 161, none⟩,
  ⟨.mv (.t 161), some 162, none⟩,
  ⟨.load true J3 (.t 19), some 163, some (162, true)⟩,
  ⟨.call J2A [(.t 163)] 0, some 164, some (162, true)⟩,
  ⟨.pick (.t 162) (.t 164) (.c (vb false)), some 165, none⟩,
  ⟨.mv (.t 165), some 6, none⟩])
  (.ret)))))))))))))))))))))))))))))))))
def J5F : TFn := ⟨3, 166, J9v, [.tmp 6], false⟩
def Jcm : TCo := .seq (.reg false [] [
  ⟨.box J3 (.t 0), some 1, none⟩,
  ⟨.newbox J3, some 2, none⟩,
  ⟨.mv (.c (vi .i64 0)), some 3, none⟩])
  (.keep [1, 2] (.seq (.seq (.reg false [] [
  ⟨.load true J3 (.t 1), some 4, none⟩,
  ⟨.call J0B [(.t 4)] 0, some 5, none⟩,
  ⟨.un .not (.t 5), some 6, none⟩])
  (.keep [1, 2, 6] (.cond (.t 6)
  (.seq (.reg false [] [
  ⟨.build J3 [], some 7, none⟩,
  ⟨.store J3 (.t 2) (.t 7), none, none⟩,
  ⟨.mv (.c (vi .i64 15)), some 3, none⟩])
  (.ret))
  (.skip))))
  (.keep [1, 2] (.seq (.reg true [(3, 5), (3, 7), (5, 8)] [
  ⟨.faddr 0 (.t 1), some 8, none⟩,
  ⟨.load false (.l .s) (.t 8), some 9, none⟩,
  ⟨.len false (.t 9), some 10, none⟩,
  ⟨.call J1m [(.t 10)] 0, some 11, none⟩,
  ⟨.faddr 1 (.t 1), some 12, none⟩,
  ⟨.load false (.i .i64) (.t 12), some 13, none⟩,
  ⟨.faddr 4 (.t 1), some 14, none⟩,
  ⟨.load false (.l J4) (.t 14), some 15, none⟩,
  ⟨.call Jy [(.t 15)] 1, some 16, none⟩,
  ⟨.build J3 [(0, (.l .s), (.t 11)), (1, (.i .i64), (.t 13)), (4, (.l J4), (.t 16))], some 17, none⟩,
  ⟨.store J3 (.t 2) (.t 17), none, none⟩,
  ⟨.mv (.c (vi .i64 0)), some 3, none⟩])
  (.ret)))))
def J74 : TFn := ⟨1, 18, Jcm, [.cell 2 true J3, .tmp 3], false⟩
def Jbq : TCo := .seq (.reg false [] [
  ⟨.mv (.c (vs [])), some 2, none⟩])
  (.keep [0] (.seq (.reg false [] [
  ⟨.mv (.t 0), some 6, none⟩,
  ⟨.call i_draw_Codes_Next [(.t 6), (.c (vi .i64 5))] 0, some 7, none⟩,
  ⟨.mv (.t 7), some 3, none⟩])
  (.keep [0, 3] (.seq (.seq (.reg false [] [
  ⟨.mv (.t 0), some 8, none⟩,
  ⟨.call i_draw_Codes_Next [(.t 8), (.c (vi .i64 6))] 0, some 9, none⟩,
  ⟨.bin .eql .plain (.t 9) (.c (vi .i64 0)), some 10, none⟩])
  (.keep [0, 3, 10] (.cond (.t 10)
  (.reg false [] [
  ⟨.mv (.t 0), some 11, none⟩,
  ⟨.call i_draw_Codes_Next [(.t 11), (.c (vi .i64 14))] 0, some 12, none⟩,
  ⟨.mv (.t 12), some 3, none⟩])
  (.skip))))
  (.keep [0, 3] (.seq (.reg false [] [
  ⟨.mv (.t 3), some 13, none⟩,
  ⟨.mkslice true (.i .u8) 1 (.c (vi .i64 0)) (.t 13), some 14, none⟩,
  ⟨.mv (.t 14), some 4, none⟩])
  (.keep [0, 3, 4] (.seq (.seq (.reg false [] [
  ⟨.mv (.c (vi .i64 0)), some 5, none⟩])
  (.keep [0, 3, 4, 5] (.block 0 (.loop [0, 3, 4, 5] (.seq (.seq (.reg false [] [
  ⟨.mv (.t 5), some 15, none⟩,
  ⟨.mv (.t 3), some 16, none⟩,
  ⟨.bin .lss .plain (.t 15) (.t 16), some 17, none⟩])
  (.keep [0, 3, 4, 5, 17] (.cond (.t 17)
  (.skip)
  (.exit 0))))
  (.keep [0, 3, 4, 5] (.seq (.block 1 (.reg false [] [
  ⟨.mv (.t 4), some 20, none⟩,
  ⟨.mv (.t 0), some 21, none⟩,
  ⟨.call i_draw_Codes_Next [(.t 21), (.c (vi .i64 3))] 0, some 22, none⟩,
  ⟨.bin .add .plain (.c (vi .i64 97)) (.t 22), some 23, none⟩,
  ⟨.conv (.int .u8) (.t 23), some 24, none⟩,
  ⟨.lits false (.i .u8) 1 [(0, (.t 24))], some 25, none⟩,
  ⟨.app (.i .u8) 1 (.t 20) (.t 25), some 26, none⟩,
  ⟨.mv (.t 26), some 4, none⟩]))
  (.keep [0, 3, 4, 5] (.reg false [] [
  ⟨.mv (.t 5), some 18, none⟩,
  ⟨.bin .add .plain (.t 18) (.c (vi .i64 1)), some 19, none⟩,
  ⟨.mv (.t 19), some 5, none⟩])))))))))
  (.keep [4] (.seq (.reg false [] [
  ⟨.mv (.t 4), some 27, none⟩,
  ⟨.conv .toStr (.t 27), some 28, none⟩,
  ⟨.mv (.t 28), some 2, none⟩])
  (.ret)))))))))))
def J6w : TFn := ⟨1, 29, Jbq, [.tmp 2], false⟩
def J9t : TCo := .seq (.reg false [] [
  ⟨.newbox J3, some 2, none⟩])
  (.keep [0, 2] (.seq (.reg false [] [
  ⟨.mv (.t 0), some 11, none⟩,
  ⟨.call i_draw_Codes_Next [(.t 11), (.c (vi .i64 4))] 0, some 12, none⟩,
  ⟨.bin .add .plain (.c (vi .i64 1)) (.t 12), some 13, none⟩,
  ⟨.call J62 [(.t 13)] 0, some 14, none⟩,
  ⟨.mv (.t 14), some 10, none⟩,
  ⟨.extr (.t 10) 0, some 15, none⟩,
  ⟨.extr (.t 10) 1, some 16, none⟩,
  ⟨.newbox J3, some 3, none⟩,
  ⟨.store J3 (.t 3) (.t 15), none, none⟩,
  ⟨.mv (.t 16), some 4, none⟩])
  (.keep [0, 2, 3] (.seq (.tidy [2, 3] (.seq (.reg false [] [
  ⟨.mv (.t 0), some 17, none⟩,
  ⟨.call i_draw_Codes_Next [(.t 17), (.c (vi .i64 6))] 0, some 18, none⟩,
  ⟨.mv (.t 18), some 5, none⟩])
  (.keep [0, 2, 3, 5] (.block 0 (.loop [0, 2, 3, 5] (.seq (.seq (.reg false [] [
  ⟨.mv (.t 5), some 19, none⟩,
  ⟨.bin .gtr .plain (.t 19) (.c (vi .i64 0)), some 20, none⟩])
  (.keep [0, 2, 3, 5, 20] (.cond (.t 20)
  (.skip)
  (.exit 0))))
  (.keep [0, 2, 3, 5] (.seq (.tidy [0, 2, 3, 5] (.block 1 (.seq (.tidy [0, 2, 3, 5] (.seq (.reg true [(0, 7), (0, 12), (3, 12), (6, 12), (7, 12), (8, 12)] [
  ⟨.load true J3 (.t 3), some 24, none⟩,
  ⟨.mv (.t 0), some 25, none⟩,
  ⟨.faddr 0 (.t 3), some 26, none⟩,
  ⟨.load false (.l .s) (.t 26), some 27, none⟩,
  ⟨.len false (.t 27), some 28, none⟩,
  ⟨.faddr 1 (.t 3), some 29, none⟩,
  ⟨.load false (.i .i64) (.t 29), some 30, none⟩,
  ⟨.call J2G [(.t 25), (.t 28), (.t 30)] 0, some 31, none⟩,
  ⟨.call J4c [(.t 24), (.t 31)] 0, some 32, none⟩,
  ⟨.mv (.t 32), some 23, none⟩,
  ⟨.extr (.t 23) 0, some 33, none⟩,
  ⟨.extr (.t 23) 1, some 34, none⟩,
  ⟨.newbox J3, some 6, none⟩,
  ⟨.store J3 (.t 6) (.t 33), none, none⟩,
  ⟨.mv (.t 34), some 7, none⟩])
  (.keep [0, 2, 3, 5, 6, 7] (.seq (.reg false [] [
  ⟨.mv (.t 7), some 35, none⟩,
  ⟨.bin .eql .plain (.t 35) (.c (vi .i64 0)), some 36, none⟩,
  ⟨.mv (.t 36), some 37, none⟩,
  ⟨.mv (.t 0), some 38, some (37, true)⟩,
  ⟨.call i_draw_Codes_Next [(.t 38), (.c (vi .i64 2))] 0, some 39, some (37, true)⟩,
  ⟨.bin .eql .plain (.t 39) (.c (vi .i64 0)), some 40, some (37, true)⟩,
  ⟨.pick (.t 37) (.t 40) (.c (vb false)), some 41, none⟩])
  (.keep [0, 2, 3, 5, 6, 41] (.cond (.t 41)
  (.reg false [] [
  ⟨.load true J3 (.t 6), some 42, none⟩,
  ⟨.store J3 (.t 3) (.t 42), none, none⟩])
  (.skip)))))))
  (.keep [0, 2, 3, 5] (.seq (.reg true [(0, 5), (0, 7), (0, 12), (3, 12), (5, 12), (7, 12), (8, 12)] [
  ⟨.load true J3 (.t 3), some 44, none⟩,
  ⟨.mv (.t 0), some 45, none⟩,
  ⟨.faddr 0 (.t 3), some 46, none⟩,
  ⟨.load false (.l .s) (.t 46), some 47, none⟩,
  ⟨.len false (.t 47), some 48, none⟩,
  ⟨.call i_draw_Codes_Next [(.t 45), (.t 48)] 0, some 49, none⟩,
  ⟨.mv (.t 0), some 50, none⟩,
  ⟨.call Jz [(.t 50)] 0, some 51, none⟩,
  ⟨.call J4J [(.t 44), (.t 49), (.t 51)] 0, some 52, none⟩,
  ⟨.mv (.t 52), some 43, none⟩,
  ⟨.extr (.t 43) 0, some 53, none⟩,
  ⟨.extr (.t 43) 1, some 54, none⟩,
  ⟨.newbox J3, some 8, none⟩,
  ⟨.store J3 (.t 8) (.t 53), none, none⟩,
  ⟨.mv (.t 54), some 9, none⟩])
  (.keep [0, 2, 3, 5, 8, 9] (.seq (.reg false [] [
  ⟨.mv (.t 9), some 55, none⟩,
  ⟨.bin .eql .plain (.t 55) (.c (vi .i64 0)), some 56, none⟩])
  (.keep [0, 2, 3, 5, 8, 56] (.cond (.t 56)
  (.reg false [] [
  ⟨.load true J3 (.t 8), some 57, none⟩,
  ⟨.store J3 (.t 3) (.t 57), none, none⟩])
  (.skip))))))))))
  (.keep [0, 2, 3, 5] (.reg false [] [
  ⟨.mv (.t 5), some 21, none⟩,
  ⟨.bin .sub .plain (.t 21) (.c (vi .i64 1)), some 22, none⟩,
  ⟨.mv (.t 22), some 5, none⟩]))))))))))
  (.keep [2, 3] (.seq (.reg false [] [
  ⟨.load true J3 (.t 3), some 58, none⟩,
  ⟨.store J3 (.t 2) (.t 58), none, none⟩])
  (.ret)))))))
def J5C : TFn := ⟨1, 59, J9t, [.cell 2 true J3], false⟩
def Jfs : TCo := .seq (.reg false [] [
  ⟨.box J3 (.t 0), some 1, none⟩,
  ⟨.mv (.c (vb false)), some 2, none⟩])
  (.keep [1] (.seq (.reg false [] [
  ⟨.faddr 0 (.t 1), some 3, none⟩,
  ⟨.load false (.l .s) (.t 3), some 4, none⟩,
  ⟨.len false (.t 4), some 5, none⟩,
  ⟨.bin .leq .plain (.t 5) (.c (vi .i64 70)), some 6, none⟩,
  ⟨.mv (.t 6), some 7, none⟩,
  ⟨.faddr 2 (.t 1), some 8, some (7, true)⟩,
  ⟨.load false (.l (.i .i64)) (.t 8), some 9, some (7, true)⟩,
  ⟨.len false (.t 9), some 10, some (7, true)⟩,
  ⟨.bin .leq .plain (.t 10) (.c (vi .i64 70)), some 11, some (7, true)⟩,
  ⟨.pick (.t 7) (.t 11) (.c (vb false)), some 12, none⟩,
  ⟨.mv (.t 12), some 13, none⟩,
  ⟨.faddr 4 (.t 1), some 14, some (13, true)⟩,
  ⟨.load false (.l J4) (.t 14), some 15, some (13, true)⟩,
  ⟨.len false (.t 15), some 16, some (13, true)⟩,
  ⟨.bin .leq .plain (.t 16) (.c (vi .i64 70)), some 17, some (13, true)⟩,
  ⟨.pick (.t 13) (.t 17) (.c (vb false)), some 18, none⟩,
  ⟨.mv (.t 18), some 2, none⟩])
  (.ret)))
def J9o : TFn := ⟨1, 19, Jfs, [.tmp 2], false⟩
def Jdd : TCo := .seq (.reg false [] [
  ⟨.box J3 (.t 0), some 1, none⟩,
  ⟨.newbox J3, some 2, none⟩,
  ⟨.mv (.c (vi .i64 0)), some 3, none⟩])
  (.keep [1, 2] (.seq (.seq (.reg false [] [
  ⟨.load true J3 (.t 1), some 4, none⟩,
  ⟨.call J2A [(.t 4)] 0, some 5, none⟩,
  ⟨.un .not (.t 5), some 6, none⟩])
  (.keep [1, 2, 6] (.cond (.t 6)
  (.seq (.reg false [] [
  ⟨.build J3 [], some 7, none⟩,
  ⟨.store J3 (.t 2) (.t 7), none, none⟩,
  ⟨.mv (.c (vi .i64 15)), some 3, none⟩])
  (.ret))
  (.skip))))
  (.keep [1, 2] (.seq (.reg true [(3, 5), (3, 7), (5, 8)] [
  ⟨.faddr 0 (.t 1), some 8, none⟩,
  ⟨.load false (.l .s) (.t 8), some 9, none⟩,
  ⟨.len false (.t 9), some 10, none⟩,
  ⟨.call J4m [(.t 10)] 0, some 11, none⟩,
  ⟨.faddr 1 (.t 1), some 12, none⟩,
  ⟨.load false (.i .i64) (.t 12), some 13, none⟩,
  ⟨.faddr 4 (.t 1), some 14, none⟩,
  ⟨.load false (.l J4) (.t 14), some 15, none⟩,
  ⟨.appn J4 48 (.t 15), some 16, none⟩,
  ⟨.build J3 [(0, (.l .s), (.t 11)), (1, (.i .i64), (.t 13)), (4, (.l J4), (.t 16))], some 17, none⟩,
  ⟨.store J3 (.t 2) (.t 17), none, none⟩,
  ⟨.mv (.c (vi .i64 0)), some 3, none⟩])
  (.ret)))))
def J7L : TFn := ⟨1, 18, Jdd, [.cell 2 true J3, .tmp 3], false⟩
def JgS : TCo := .seq (.reg false [] [
  ⟨.box J3 (.t 0), some 2, none⟩,
  ⟨.box J3 (.t 1), some 3, none⟩,
  ⟨.mv (.c (vb false)), some 4, none⟩])
  (.keep [2, 3] (.seq (.seq (.reg false [] [
  ⟨.faddr 0 (.t 2), some 8, none⟩,
  ⟨.load false (.l .s) (.t 8), some 9, none⟩,
  ⟨.len false (.t 9), some 10, none⟩,
  ⟨.faddr 0 (.t 3), some 11, none⟩,
  ⟨.load false (.l .s) (.t 11), some 12, none⟩,
  ⟨.len false (.t 12), some 13, none⟩,
  ⟨.bin .neq .plain (.t 10) (.t 13), some 14, none⟩,
  ⟨.mv (.t 14), some 15, none⟩,
  ⟨.faddr 1 (.t 2), some 16, some (15, false)⟩,
  ⟨.load false (.i .i64) (.t 16), some 17, some (15, false)⟩,
  ⟨.faddr 1 (.t 3), some 18, some (15, false)⟩,
  ⟨.load false (.i .i64) (.t 18), some 19, some (15, false)⟩,
  ⟨.bin .neq .plain (.t 17) (.t 19), some 20, some (15, false)⟩,
  ⟨.pick (.t 15) (.c (vb true)) (.t 20), some 21, none⟩,
  ⟨.mv (.t 21), some 22, none⟩,
  ⟨.faddr 3 (.t 2), some 23, some (22, false)⟩,
  ⟨.load false .b (.t 23), some 24, some (22, false)⟩,
  ⟨.faddr 3 (.t 3), some 25, some (22, false)⟩,
  ⟨.load false .b (.t 25), some 26, some (22, false)⟩,
  ⟨.bin .neq .bool (.t 24) (.t 26), some 27, some (22, false)⟩,
  ⟨.pick (.t 22) (.c (vb true)) (.t 27), some 28, none⟩,
  ⟨.mv (.t 28), some 29, none⟩,
  ⟨.faddr 2 (.t 2), some 30, some (29, false)⟩,
  ⟨.load false (.l (.i .i64)) (.t 30), some 31, some (29, false)⟩,
  ⟨.len false (.t 31), some 32, some (29, false)⟩,
  ⟨.faddr 2 (.t 3), some 33, some (29, false)⟩,
  ⟨.load false (.l (.i .i64)) (.t 33), some 34, some (29, false)⟩,
  ⟨.len false (.t 34), some 35, some (29, false)⟩,
  ⟨.bin .neq .plain (.t 32) (.t 35), some 36, some (29, false)⟩,
  ⟨.pick (.t 29) (.c (vb true)) (.t 36), some 37, none⟩,
  ⟨.mv (.t 37), some 38, none⟩,
  ⟨.faddr 4 (.t 2), some 39, some (38, false)⟩,
  ⟨.load false (.l J4) (.t 39), some 40, some (38, false)⟩,
  ⟨.len false (.t 40), some 41, some (38, false)⟩,
  ⟨.faddr 4 (.t 3), some 42, some (38, false)⟩,
  ⟨.load false (.l J4) (.t 42), some 43, some (38, false)⟩,
  ⟨.len false (.t 43), some 44, some (38, false)⟩,
  ⟨.bin .neq .plain (.t 41) (.t 44), some 45, some (38, false)⟩,
  ⟨.pick (.t 38) (.c (vb true)) (.t 45), some 46, none⟩])
  (.keep [2, 3, 46] (.cond (.t 46)
  (.seq (.reg false [] [
  ⟨.mv (.c (vb false)), some 4, none⟩])
  (.ret))
  (.skip))))
  (.keep [2, 3] (.seq (.seq (.reg false [] [
  ⟨.mv (.c (vi .i64 0)), some 5, none⟩])
  (.keep [2, 3, 5] (.block 0 (.loop [2, 3, 5] (.seq (.seq (.reg false [] [
  ⟨.mv (.t 5), some 47, none⟩,
  ⟨.faddr 0 (.t 2), some 48, none⟩,
  ⟨.load false (.l .s) (.t 48), some 49, none⟩,
  ⟨.len false (.t 49), some 50, none⟩,
  ⟨.bin .lss .plain (.t 47) (.t 50), some 51, none⟩])
  (.keep [2, 3, 5, 51] (.cond (.t 51)
  (.skip)
  (.exit 0))))
  (.keep [2, 3, 5] (.seq (.block 1 (.seq (.reg true [] [
  ⟨.faddr 0 (.t 2), some 54, none⟩,
  ⟨.load false (.l .s) (.t 54), some 55, none⟩,
  ⟨.mv (.t 5), some 56, none⟩,
  ⟨.iaddr .s (.t 55) (.t 56), some 57, none⟩,
  ⟨.load false .s (.t 57), some 58, none⟩,
  ⟨.faddr 0 (.t 3), some 59, none⟩,
  ⟨.load false (.l .s) (.t 59), some 60, none⟩,
  ⟨.mv (.t 5), some 61, none⟩,
  ⟨.iaddr .s (.t 60) (.t 61), some 62, none⟩,
  ⟨.load false .s (.t 62), some 63, none⟩,
  ⟨.bin .neq .plain (.t 58) (.t 63), some 64, none⟩])
  (.keep [2, 3, 5, 64] (.cond (.t 64)
  (.seq (.reg false [] [
  ⟨.mv (.c (vb false)), some 4, none⟩])
  (.ret))
  (.skip)))))
  (.keep [2, 3, 5] (.reg false [] [
  ⟨.mv (.t 5), some 52, none⟩,
  ⟨.bin .add .plain (.t 52) (.c (vi .i64 1)), some 53, none⟩,
  ⟨.mv (.t 53), some 5, none⟩])))))))))
  (.keep [2, 3] (.seq (.seq (.reg false [] [
  ⟨.mv (.c (vi .i64 0)), some 6, none⟩])
  (.keep [2, 3, 6] (.block 2 (.loop [2, 3, 6] (.seq (.seq (.reg false [] [
  ⟨.mv (.t 6), some 65, none⟩,
  ⟨.faddr 2 (.t 2), some 66, none⟩,
  ⟨.load false (.l (.i .i64)) (.t 66), some 67, none⟩,
  ⟨.len false (.t 67), some 68, none⟩,
  ⟨.bin .lss .plain (.t 65) (.t 68), some 69, none⟩])
  (.keep [2, 3, 6, 69] (.cond (.t 69)
  (.skip)
  (.exit 2))))
  (.keep [2, 3, 6] (.seq (.block 3 (.seq (.reg true [] [
  ⟨.faddr 2 (.t 2), some 72, none⟩,
  ⟨.load false (.l (.i .i64)) (.t 72), some 73, none⟩,
  ⟨.mv (.t 6), some 74, none⟩,
  ⟨.iaddr (.i .i64) (.t 73) (.t 74), some 75, none⟩,
  ⟨.load false (.i .i64) (.t 75), some 76, none⟩,
  ⟨.faddr 2 (.t 3), some 77, none⟩,
  ⟨.load false (.l (.i .i64)) (.t 77), some 78, none⟩,
  ⟨.mv (.t 6), some 79, none⟩,
  ⟨.iaddr (.i .i64) (.t 78) (.t 79), some 80, none⟩,
  ⟨.load false (.i .i64) (.t 80), some 81, none⟩,
  ⟨.bin .neq .plain (.t 76) (.t 81), some 82, none⟩])
  (.keep [2, 3, 6, 82] (.cond (.t 82)
  (.seq (.reg false [] [
  ⟨.mv (.c (vb false)), some 4, none⟩])
  (.ret))
  (.skip)))))
  (.keep [2, 3, 6] (.reg false [] [
  ⟨.mv (.t 6), some 70, none⟩,
  ⟨.bin .add .plain (.t 70) (.c (vi .i64 1)), some 71, none⟩,
  ⟨.mv (.t 71), some 6, none⟩])))))))))
  (.keep [2, 3] (.seq (.seq (.reg false [] [
  ⟨.mv (.c (vi .i64 0)), some 7, none⟩])
  (.keep [2, 3, 7] (.block 4 (.loop [2, 3, 7] (.seq (.seq (.reg false [] [
  ⟨.mv (.t 7), some 83, none⟩,
  ⟨.faddr 4 (.t 2), some 84, none⟩,
  ⟨.load false (.l J4) (.t 84), some 85, none⟩,
  ⟨.len false (.t 85), some 86, none⟩,
  ⟨.bin .lss .plain (.t 83) (.t 86), some 87, none⟩])
  (.keep [2, 3, 7, 87] (.cond (.t 87)
  (.skip)
  (.exit 4))))
  (.keep [2, 3, 7] (.seq (.block 5 (.seq (.reg true [] [
  ⟨.faddr 4 (.t 2), some 90, none⟩,
  ⟨.load false (.l J4) (.t 90), some 91, none⟩,
  ⟨.mv (.t 7), some 92, none⟩,
  ⟨.iaddr J4 (.t 91) (.t 92), some 93, none⟩,
  ⟨.load true J4 (.t 93), some 94, none⟩,
  ⟨.faddr 4 (.t 3), some 95, none⟩,
  ⟨.load false (.l J4) (.t 95), some 96, none⟩,
  ⟨.mv (.t 7), some 97, none⟩,
  ⟨.iaddr J4 (.t 96) (.t 97), some 98, none⟩,
  ⟨.load true J4 (.t 98), some 99, none⟩,
  ⟨.bin .neq (.flat J4) (.t 94) (.t 99), some 100, none⟩])
  (.keep [2, 3, 7, 100] (.cond (.t 100)
  (.seq (.reg false [] [
  ⟨.mv (.c (vb false)), some 4, none⟩])
  (.ret))
  (.skip)))))
  (.keep [2, 3, 7] (.reg false [] [
  ⟨.mv (.t 7), some 88, none⟩,
  ⟨.bin .add .plain (.t 88) (.c (vi .i64 1)), some 89, none⟩,
  ⟨.mv (.t 89), some 7, none⟩])))))))))
  (.keep [] (.seq (.reg false [] [
  ⟨.mv (.c (vb true)), some 4, none⟩])
  (.ret)))))))))))
def Jas : TFn := ⟨2, 101, JgS, [.tmp 4], false⟩
def Jhx : TCo := .seq (.reg false [] [
  ⟨.box J3 (.t 0), some 4, none⟩,
  ⟨.newbox J3, some 8, none⟩,
  ⟨.mv (.c (vi .i64 0)), some 9, none⟩])
  (.keep [1, 2, 3, 4, 8] (.seq (.seq (.reg false [] [
  ⟨.load true J3 (.t 4), some 11, none⟩,
  ⟨.mv (.t 1), some 12, none⟩,
  ⟨.call J3e [(.t 11), (.t 12)] 0, some 13, none⟩,
  ⟨.mv (.t 13), some 10, none⟩])
  (.keep [1, 2, 3, 4, 8, 10] (.seq (.reg false [] [
  ⟨.mv (.t 10), some 14, none⟩,
  ⟨.bin .neq .plain (.t 14) (.c (vi .i64 0)), some 15, none⟩])
  (.keep [1, 2, 3, 4, 8, 10, 15] (.cond (.t 15)
  (.seq (.reg false [] [
  ⟨.build J3 [], some 16, none⟩,
  ⟨.mv (.t 10), some 17, none⟩,
  ⟨.store J3 (.t 8) (.t 16), none, none⟩,
  ⟨.mv (.t 17), some 9, none⟩])
  (.ret))
  (.skip))))))
  (.keep [1, 2, 3, 4, 8] (.seq (.seq (.reg false [] [
  ⟨.mv (.t 3), some 18, none⟩,
  ⟨.bin .lss .plain (.t 18) (.c (vi .i64 0)), some 19, none⟩,
  ⟨.mv (.t 19), some 20, none⟩,
  ⟨.mv (.t 3), some 21, some (20, false)⟩,
  ⟨.bin .gtr .plain (.t 21) (.c (vi .i64 256)), some 22, some (20, false)⟩,
  ⟨.pick (.t 20) (.c (vb true)) (.t 22), some 23, none⟩])
  (.keep [1, 2, 3, 4, 8, 23] (.cond (.t 23)
  (.seq (.reg false [] [
  ⟨.build J3 [], some 24, none⟩,
  ⟨.store J3 (.t 8) (.t 24), none, none⟩,
  ⟨.mv (.c (vi .i64 1)), some 9, none⟩])
  (.ret))
  (.skip))))
  (.keep [1, 2, 3, 4, 8] (.seq (.seq (.reg false [] [
  ⟨.mv (.t 2), some 25, none⟩,
  ⟨.len true (.t 25), some 26, none⟩,
  ⟨.bin .neq .plain (.t 26) (.c (vi .i64 256)), some 27, none⟩])
  (.keep [1, 2, 3, 4, 8, 27] (.cond (.t 27)
  (.seq (.reg false [] [
  ⟨.build J3 [], some 28, none⟩,
  ⟨.store J3 (.t 8) (.t 28), none, none⟩,
  ⟨.mv (.c (vi .i64 2)), some 9, none⟩])
  (.ret))
  (.skip))))
  (.keep [1, 2, 3, 4, 8] (.seq (.reg false [] [
  ⟨.load true J3 (.t 4), some 29, none⟩,
  ⟨.callo J3W [((.t 29), false)] 2, some 30, none⟩,
  ⟨.mv (.t 1), some 31, none⟩,
  ⟨.mv (.t 2), some 32, none⟩,
  ⟨.mv (.t 3), some 33, none⟩,
  ⟨.callo J2w [((.t 30), true), ((.t 31), false), ((.t 32), false), ((.t 33), false)] 0, some 34, none⟩,
  ⟨.store J3 (.t 8) (.t 34), none, none⟩,
  ⟨.mv (.c (vi .i64 0)), some 9, none⟩])
  (.ret)))))))))
def J9V : TFn := ⟨4, 35, Jhx, [.cell 8 true J3, .tmp 9], false⟩
def Jai : TCo := .seq (.reg false [] [
  ⟨.mv (.c (vb false)), some 4, none⟩])
  (.keep [0, 1] (.seq (.seq (.reg false [] [
  ⟨.call J0L [] 0, some 26, none⟩,
  ⟨.un .not (.t 26), some 27, none⟩])
  (.keep [0, 1, 27] (.cond (.t 27)
  (.seq (.reg false [] [
  ⟨.mv (.c (vb false)), some 4, none⟩])
  (.ret))
  (.skip))))
  (.keep [0, 1] (.seq (.reg false [] [
  ⟨.mv (.t 0), some 28, none⟩,
  ⟨.call J1x [(.t 28), (.c (vi .i64 100))] 1, some 29, none⟩,
  ⟨.mv (.t 29), some 5, none⟩])
  (.keep [1, 5] (.seq (.reg false [] [
  ⟨.call J0r [(.c (vi .i64 2))] 0, some 31, none⟩,
  ⟨.mv (.t 31), some 30, none⟩,
  ⟨.extr (.t 30) 0, some 32, none⟩,
  ⟨.extr (.t 30) 1, some 33, none⟩,
  ⟨.newbox J3, some 6, none⟩,
  ⟨.store J3 (.t 6) (.t 32), none, none⟩,
  ⟨.mv (.t 33), some 7, none⟩])
  (.keep [1, 5, 6, 7] (.seq (.reg false [] [
  ⟨.mv (.t 1), some 34, none⟩,
  ⟨.conv (.int .i64) (.t 34), some 35, none⟩,
  ⟨.bin .rem .plain (.t 35) (.c (vi .i64 6)), some 36, none⟩,
  ⟨.bin .add .plain (.c (vi .i64 1)) (.t 36), some 37, none⟩,
  ⟨.mv (.t 37), some 8, none⟩])
  (.keep [5, 6, 7, 8] (.seq (.reg false [] [
  ⟨.load true J3 (.t 6), some 39, none⟩,
  ⟨.mv (.t 8), some 40, none⟩,
  ⟨.build J4 [(0, (.i .i64), (.c (vi .i64 6))), (1, (.i .i64), (.t 40))], some 41, none⟩,
  ⟨.call J0i [(.t 39), (.t 41)] 0, some 42, none⟩,
  ⟨.mv (.t 42), some 38, none⟩,
  ⟨.extr (.t 38) 0, some 43, none⟩,
  ⟨.extr (.t 38) 1, some 44, none⟩,
  ⟨.store J3 (.t 6) (.t 43), none, none⟩,
  ⟨.mv (.t 44), some 9, none⟩])
  (.keep [5, 6, 7, 8, 9] (.seq (.reg false [] [
  ⟨.load true J3 (.t 6), some 46, none⟩,
  ⟨.mv (.t 8), some 47, none⟩,
  ⟨.bin .add .plain (.t 47) (.c (vi .i64 1)), some 48, none⟩,
  ⟨.build J4 [(0, (.i .i64), (.c (vi .i64 1))), (1, (.i .i64), (.t 48))], some 49, none⟩,
  ⟨.call J0i [(.t 46), (.t 49)] 0, some 50, none⟩,
  ⟨.mv (.t 50), some 45, none⟩,
  ⟨.extr (.t 45) 0, some 51, none⟩,
  ⟨.extr (.t 45) 1, some 52, none⟩,
  ⟨.store J3 (.t 6) (.t 51), none, none⟩,
  ⟨.mv (.t 52), some 10, none⟩])
  (.keep [5, 6, 7, 8, 9, 10] (.seq (.seq (.reg false [] [
  ⟨.mv (.t 7), some 53, none⟩,
  ⟨.bin .neq .plain (.t 53) (.c (vi .i64 0)), some 54, none⟩,
  ⟨.mv (.t 54), some 55, none⟩,
  ⟨.mv (.t 9), some 56, some (55, false)⟩,
  ⟨.bin .neq .plain (.t 56) (.c (vi .i64 0)), some 57, some (55, false)⟩,
  ⟨.pick (.t 55) (.c (vb true)) (.t 57), some 58, none⟩,
  ⟨.mv (.t 58), some 59, none⟩,
  ⟨.mv (.t 10), some 60, some (59, false)⟩,
  ⟨.bin .neq .plain (.t 60) (.c (vi .i64 0)), some 61, some (59, false)⟩,
  ⟨.pick (.t 59) (.c (vb true)) (.t 61), some 62, none⟩])
  (.keep [5, 6, 8, 62] (.cond (.t 62)
  (.seq (.reg false [] [
  ⟨.mv (.c (vb false)), some 4, none⟩])
  (.ret))
  (.skip))))
  (.keep [5, 6, 8] (.seq (.tidy [4, 5, 6, 8] (.seq (.reg false [] [
  ⟨.mv (.c (vi .i64 0)), some 11, none⟩])
  (.keep [5, 6, 8, 11] (.block 0 (.loop [5, 6, 8, 11] (.seq (.seq (.reg false [] [
  ⟨.mv (.t 11), some 63, none⟩,
  ⟨.mv (.t 8), some 64, none⟩,
  ⟨.bin .lss .plain (.t 63) (.t 64), some 65, none⟩])
  (.keep [5, 6, 8, 11, 65] (.cond (.t 65)
  (.skip)
  (.exit 0))))
  (.keep [5, 6, 8, 11] (.seq (.block 1 (.seq (.reg true [(0, 2), (0, 4), (0, 9), (2, 9), (4, 9), (5, 9)] [
  ⟨.load true J3 (.t 6), some 69, none⟩,
  ⟨.mv (.t 5), some 70, none⟩,
  ⟨.call i_draw_Codes_Next [(.t 70), (.c (vi .i64 2))] 0, some 71, none⟩,
  ⟨.mv (.t 5), some 72, none⟩,
  ⟨.call Jz [(.t 72)] 0, some 73, none⟩,
  ⟨.call JJ [(.t 69), (.t 71), (.t 73)] 0, some 74, none⟩,
  ⟨.mv (.t 74), some 68, none⟩,
  ⟨.extr (.t 68) 0, some 75, none⟩,
  ⟨.extr (.t 68) 1, some 76, none⟩,
  ⟨.newbox J3, some 12, none⟩,
  ⟨.store J3 (.t 12) (.t 75), none, none⟩,
  ⟨.mv (.t 76), some 13, none⟩])
  (.keep [5, 6, 8, 11, 12, 13] (.seq (.seq (.reg false [] [
  ⟨.mv (.t 13), some 77, none⟩,
  ⟨.bin .neq .plain (.t 77) (.c (vi .i64 0)), some 78, none⟩,
  ⟨.mv (.t 78), some 79, none⟩,
  ⟨.faddr 3 (.t 12), some 80, some (79, false)⟩,
  ⟨.load false .b (.t 80), some 81, some (79, false)⟩,
  ⟨.mv (.t 11), some 82, some (79, false)⟩,
  ⟨.mv (.t 8), some 83, some (79, false)⟩,
  ⟨.bin .sub .plain (.t 83) (.c (vi .i64 1)), some 84, some (79, false)⟩,
  ⟨.bin .eql .plain (.t 82) (.t 84), some 85, some (79, false)⟩,
  ⟨.bin .neq .bool (.t 81) (.t 85), some 86, some (79, false)⟩,
  ⟨.pick (.t 79) (.c (vb true)) (.t 86), some 87, none⟩])
  (.keep [5, 6, 8, 11, 12, 87] (.cond (.t 87)
  (.seq (.reg false [] [
  ⟨.mv (.c (vb false)), some 4, none⟩])
  (.ret))
  (.skip))))
  (.keep [5, 6, 8, 11, 12] (.reg false [] [
  ⟨.load true J3 (.t 12), some 88, none⟩,
  ⟨.store J3 (.t 6) (.t 88), none, none⟩]))))))
  (.keep [5, 6, 8, 11] (.reg false [] [
  ⟨.mv (.t 11), some 66, none⟩,
  ⟨.bin .add .plain (.t 66) (.c (vi .i64 1)), some 67, none⟩,
  ⟨.mv (.t 67), some 11, none⟩]))))))))))
  (.keep [5, 6, 8] (.seq (.reg false [] [
  ⟨.load true J3 (.t 6), some 90, none⟩,
  ⟨.call J07 [(.t 90), (.c (vi .i64 0))] 0, some 91, none⟩,
  ⟨.mv (.t 91), some 89, none⟩,
  ⟨.extr (.t 89) 0, some 92, none⟩,
  ⟨.extr (.t 89) 1, some 93, none⟩,
  ⟨.mv (.t 92), some 14, none⟩,
  ⟨.mv (.t 93), some 15, none⟩])
  (.keep [5, 6, 8, 15] (.seq (.reg true [(0, 2), (0, 7), (2, 7), (3, 7)] [
  ⟨.load true J3 (.t 6), some 95, none⟩,
  ⟨.mv (.t 5), some 96, none⟩,
  ⟨.call Jz [(.t 96)] 0, some 97, none⟩,
  ⟨.call JJ [(.t 95), (.c (vi .i64 0)), (.t 97)] 0, some 98, none⟩,
  ⟨.mv (.t 98), some 94, none⟩,
  ⟨.extr (.t 94) 0, some 99, none⟩,
  ⟨.extr (.t 94) 1, some 100, none⟩,
  ⟨.newbox J3, some 16, none⟩,
  ⟨.store J3 (.t 16) (.t 99), none, none⟩,
  ⟨.mv (.t 100), some 17, none⟩])
  (.keep [5, 6, 8, 15, 17] (.seq (.reg true [(0, 2), (0, 7), (2, 7), (3, 7)] [
  ⟨.load true J3 (.t 6), some 102, none⟩,
  ⟨.mv (.t 5), some 103, none⟩,
  ⟨.call Jz [(.t 103)] 0, some 104, none⟩,
  ⟨.call J3t [(.t 102), (.c (vi .i64 0)), (.t 104), (.c (vi .i64 5))] 0, some 105, none⟩,
  ⟨.mv (.t 105), some 101, none⟩,
  ⟨.extr (.t 101) 0, some 106, none⟩,
  ⟨.extr (.t 101) 1, some 107, none⟩,
  ⟨.newbox J3, some 18, none⟩,
  ⟨.store J3 (.t 18) (.t 106), none, none⟩,
  ⟨.mv (.t 107), some 19, none⟩])
  (.keep [5, 6, 8, 15, 17, 19] (.seq (.reg false [] [
  ⟨.load true J3 (.t 6), some 109, none⟩,
  ⟨.call J4Z [(.t 109)] 0, some 110, none⟩,
  ⟨.mv (.t 110), some 108, none⟩,
  ⟨.extr (.t 108) 0, some 111, none⟩,
  ⟨.extr (.t 108) 1, some 112, none⟩,
  ⟨.newbox J3, some 20, none⟩,
  ⟨.store J3 (.t 20) (.t 111), none, none⟩,
  ⟨.mv (.t 112), some 21, none⟩])
  (.keep [5, 8, 15, 17, 19, 20, 21] (.seq (.reg true [(0, 2), (0, 7), (2, 7), (3, 7)] [
  ⟨.load true J3 (.t 20), some 114, none⟩,
  ⟨.mv (.t 5), some 115, none⟩,
  ⟨.call Jz [(.t 115)] 0, some 116, none⟩,
  ⟨.call JJ [(.t 114), (.c (vi .i64 1)), (.t 116)] 0, some 117, none⟩,
  ⟨.mv (.t 117), some 113, none⟩,
  ⟨.extr (.t 113) 0, some 118, none⟩,
  ⟨.extr (.t 113) 1, some 119, none⟩,
  ⟨.newbox J3, some 22, none⟩,
  ⟨.store J3 (.t 22) (.t 118), none, none⟩,
  ⟨.mv (.t 119), some 23, none⟩])
  (.keep [8, 15, 17, 19, 20, 21, 22, 23] (.seq (.reg false [] [
  ⟨.load true J3 (.t 22), some 121, none⟩,
  ⟨.call J07 [(.t 121), (.c (vi .i64 1))] 0, some 122, none⟩,
  ⟨.mv (.t 122), some 120, none⟩,
  ⟨.extr (.t 120) 0, some 123, none⟩,
  ⟨.extr (.t 120) 1, some 124, none⟩,
  ⟨.mv (.t 123), some 24, none⟩,
  ⟨.mv (.t 124), some 25, none⟩])
  (.keep [8, 15, 17, 19, 20, 21, 23, 24, 25] (.seq (.reg false [] [
  ⟨.mv (.t 15), some 125, none⟩,
  ⟨.bin .eql .plain (.t 125) (.c (vi .i64 10)), some 126, none⟩,
  ⟨.mv (.t 126), some 127, none⟩,
  ⟨.mv (.t 17), some 128, some (127, true)⟩,
  ⟨.bin .eql .plain (.t 128) (.c (vi .i64 10)), some 129, some (127, true)⟩,
  ⟨.pick (.t 127) (.t 129) (.c (vb false)), some 130, none⟩,
  ⟨.mv (.t 130), some 131, none⟩,
  ⟨.mv (.t 19), some 132, some (131, true)⟩,
  ⟨.bin .eql .plain (.t 132) (.c (vi .i64 10)), some 133, some (131, true)⟩,
  ⟨.pick (.t 131) (.t 133) (.c (vb false)), some 134, none⟩,
  ⟨.mv (.t 134), some 135, none⟩,
  ⟨.mv (.t 21), some 136, some (135, true)⟩,
  ⟨.bin .eql .plain (.t 136) (.c (vi .i64 0)), some 137, some (135, true)⟩,
  ⟨.pick (.t 135) (.t 137) (.c (vb false)), some 138, none⟩,
  ⟨.mv (.t 138), some 139, none⟩,
  ⟨.faddr 1 (.t 20), some 140, some (139, true)⟩,
  ⟨.load false (.i .i64) (.t 140), some 141, some (139, true)⟩,
  ⟨.mv (.t 8), some 142, some (139, true)⟩,
  ⟨.bin .eql .plain (.t 141) (.t 142), some 143, some (139, true)⟩,
  ⟨.pick (.t 139) (.t 143) (.c (vb false)), some 144, none⟩,
  ⟨.mv (.t 144), some 145, none⟩,
  ⟨.faddr 4 (.t 20), some 146, some (145, true)⟩,
  ⟨.load false (.l J4) (.t 146), some 147, some (145, true)⟩,
  ⟨.len false (.t 147), some 148, some (145, true)⟩,
  ⟨.bin .eql .plain (.t 148) (.c (vi .i64 1)), some 149, some (145, true)⟩,
  ⟨.pick (.t 145) (.t 149) (.c (vb false)), some 150, none⟩,
  ⟨.mv (.t 150), some 151, none⟩,
  ⟨.mv (.t 23), some 152, some (151, true)⟩,
  ⟨.bin .eql .plain (.t 152) (.c (vi .i64 0)), some 153, some (151, true)⟩,
  ⟨.pick (.t 151) (.t 153) (.c (vb false)), some 154, none⟩,
  ⟨.mv (.t 154), some 155, none⟩,
  ⟨.mv (.t 25), some 156, some (155, true)⟩,
  ⟨.bin .eql .plain (.t 156) (.c (vi .i64 0)), some 157, some (155, true)⟩,
  ⟨.pick (.t 155) (.t 157) (.c (vb false)), some 158, none⟩,
  ⟨.mv (.t 158), some 159, none⟩,
  ⟨.mv (.t 24), some 160, some (159, true)⟩,
  ⟨.mkslice false (.i .u8) 1 (.c (vi .i64 256)) (.c (vi .i64 256)), some 161, some (159, true)⟩,
  ⟨.conv .toStr (.t 161), some 162, some (159, true)⟩,
  ⟨.bin .eql .plain (.t 160) (.t 162), some 163, some (159, true)⟩,
  ⟨.pick (.t 159) (.t 163) (.c (vb false)), some 164, none⟩,
  ⟨.mv (.t 164), some 4, none⟩])
  (.ret)))))))))))))))))))))))))))))))
def J6g : TFn := ⟨2, 165, Jai, [.tmp 4], false⟩
end Go.Am
end
