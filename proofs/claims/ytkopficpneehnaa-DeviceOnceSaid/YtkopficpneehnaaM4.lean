/-
  Parts of a proof.
-/
import Derived.Test.YtkopficpneehnaaM3
set_option linter.unusedSimpArgs false
set_option linter.unusedVariables false
section
namespace Go.Am
def J8R (m : Nat) (ids : List Nat) (s : TSt) : TC → Option TC
  | .ptr b p => if b < m then some (.ptr b p) else match J2r b ids m with
    | some k => some (.ptr k p)
    | none => none
  | .slr b => if b < m then some (.slr b) else match J2r b ids m with
    | some k => some (.slr k)
    | none => match s.sto[b]? with
      | some (.arr _ t rows) => some (.d (.l t) rows)
      | _ => none
  | .slo b n => if b < m then some (.slo b n) else match J2r b ids m with
    | some k => some (.slo k n)
    | none => none
  | .ep b i p => if b < m then some (.ep b i p) else match J2r b ids m with
    | some k => some (.ep k i p)
    | none => none
  | .epo b e i p => if b < m then some (.epo b e i p) else match J2r b ids m with
    | some k => some (.epo k e i p)
    | none => none
  | x => some x
def JaJ (m : Nat) (ids : List Nat) (s : TSt) : List TC → Option (List TC)
  | [] => some []
  | x :: r => match J8R m ids s x, JaJ m ids s r with
    | some y, some l => some (y :: l)
    | _, _ => none
def Jcy (m : Nat) (ids : List Nat) (s : TSt) : TA → Option TA
  | .c x => match J8R m ids s x with
    | some y => some (.c y)
    | none => none
  | .dt t x => some (.dt t x)
  | .m t cs => match JaJ m ids s cs with
    | some l => match asm t l with
      | some x => some (.dt t x)
      | none => if l.any JlR = true then some (.m t l) else none
    | none => none
  | .fn f a c => match JaJ m ids s a, JaJ m ids s c with
    | some a, some c => some (.fn f a c)
    | _, _ => none
def Jcf (m : Nat) (ids : List Nat) (s : TSt) : List TA → Option (List TA)
  | [] => some []
  | x :: r => match Jcy m ids s x, Jcf m ids s r with
    | some y, some l => some (y :: l)
    | _, _ => none
def JhN (m : Nat) (ids : List Nat) (s : TSt) : TV → Option TV
  | .a x => match Jcy m ids s x with
    | some y => some (.a y)
    | none => none
  | .tup vs => match Jcf m ids s vs with
    | some l => some (.tup l)
    | none => none
def JeZ (m : Nat) (ids : List Nat) (s : TSt) : TB → Option TB
  | .mbox t cs => match JaJ m ids s cs with
    | some l => some (mkb t l)
    | none => none
  | x => some x
def J7o (m : Nat) (ids : List Nat) (s : TSt) : List TB → Option (List TB)
  | [] => some []
  | x :: r => match JeZ m ids s x, J7o m ids s r with
    | some y, some l => some (y :: l)
    | _, _ => none
def JhP (m : Nat) (s : TSt) : List (Nat × TV) → Option (List (Nat × TV))
  | [] => some []
  | (k, x) :: r => match JhN m [] s x, JhP m s r with
    | some y, some l => some ((k, y) :: l)
    | _, _ => none
def J4j : List Nat → List (Nat × TV) → List (Nat × TV)
  | [], _ => []
  | k :: r, env => match tlk k env with
    | some v => (k, v) :: J4j r env
    | none => J4j r env
theorem J7p (L : Nat → Nat) (env : List (Nat × TV)) : ∀ live : List Nat, restr live (J2n L env) = J2n L (J4j live env)
  | [] => rfl
  | k :: r => by
    simp only [restr, J4j, J8r]
    cases tlk k env with
    | none => exact J7p L env r
    | some v =>
      have ih := J7p L env r
      unfold J2n at ih ⊢
      simp only [Option.map_some, List.map_cons]
      rw [ih]
section
variable {m : Nat} {ids : List Nat} {s : TSt} {L' : Nat → Nat} (h1 : ∀ b, b < m → L' b = lns s.sto b) (h2 : ∀ b k, J2r b ids m = some k → L' k = lns s.sto b)
include h1 h2
theorem Jiq {x y : TC} (h : J8R m ids s x = some y) : fin m ids (Jb s).sto (Jw (lns s.sto) x) = some (Jw L' y) := by
  cases x with
  | ptr b p =>
    simp only [J8R] at h
    simp only [Jw, fin]
    split at h
    · rename_i hb; injection h with h; subst h; rw [if_pos hb]; try rfl
    · rename_i hb
      rw [if_neg hb]
      split at h
      · rename_i k hk; injection h with h; subst h; simp only [hk, Option.map_some, Jw]
      · cases h
  | slr b =>
    simp only [J8R] at h
    simp only [Jw, fin]
    split at h
    · rename_i hb; injection h with h; subst h; rw [if_pos hb]; simp only [Jw, h1 b hb]
    · rename_i hb
      rw [if_neg hb]
      split at h
      · rename_i k hk; injection h with h; subst h; rw [hk]; simp only [Jw, h2 b k hk]
      · rename_i hk
        rw [hk]
        split at h
        · rename_i w t rows hbk
          injection h with h; subst h
          simp only [J0K, hbk, Option.map_some, Jjd, J35 hbk, List.length_map, Nat.zero_add, if_true, List.drop_zero, Jw, cel, hdP]
        · cases h
  | slo b n =>
    simp only [J8R] at h
    simp only [Jw, fin]
    split at h
    · rename_i hb; injection h with h; subst h; rw [if_pos hb]; try rfl
    · rename_i hb
      rw [if_neg hb]
      split at h
      · rename_i k hk; injection h with h; subst h; simp only [hk, Option.map_some, Jw]
      · cases h
  | ep b i p =>
    simp only [J8R] at h
    simp only [Jw, fin]
    split at h
    · rename_i hb; injection h with h; subst h; rw [if_pos hb]; simp only [Jw, h1 b hb]
    · rename_i hb
      rw [if_neg hb]
      split at h
      · rename_i k hk; injection h with h; subst h; rw [hk]; simp only [Jw, h2 b k hk, Option.map_some]
      · cases h
  | epo b e i p =>
    simp only [J8R] at h
    simp only [Jw, fin]
    split at h
    · rename_i hb; injection h with h; subst h; rw [if_pos hb]; try rfl
    · rename_i hb
      rw [if_neg hb]
      split at h
      · rename_i k hk; injection h with h; subst h; simp only [hk, Option.map_some, Jw]
      · cases h
  | _ => injection h with h; subst h; rfl
theorem J8y : ∀ {xs ys : List TC}, JaJ m ids s xs = some ys → fin.finL m ids (Jb s).sto (xs.map (Jw (lns s.sto))) = some (ys.map (Jw L'))
  | [], ys, h => by injection h with h; subst h; rfl
  | x :: r, ys, h => by
    simp only [JaJ] at h
    split at h
    · rename_i y l hy hl
      injection h with h; subst h
      simp only [List.map_cons, fin.finL, Jiq h1 h2 hy, J8y hl]
    · cases h
theorem Jic {x y : TA} (h : Jcy m ids s x = some y) : fin m ids (Jb s).sto (J0k (lns s.sto) x) = some (J0k L' y) := by
  cases x with
  | c x =>
    simp only [Jcy] at h
    split at h
    · rename_i y hy; injection h with h; subst h; exact Jiq h1 h2 hy
    · cases h
  | dt t x => injection h with h; subst h; rfl
  | m t cs =>
    simp only [Jcy] at h
    split at h
    · rename_i l hl
      have e := J8y h1 h2 hl
      simp only [J0k, fin, e]
      split at h
      · rename_i x hx
        injection h with h; subst h
        rw [JbJ L' hx, J8e]
      · split at h
        · rename_i hr
          injection h with h; subst h
          rw [JfQ L' hr]
        · cases h
    · cases h
  | fn f a c =>
    simp only [Jcy] at h
    split at h
    · rename_i a' c' ha hc
      injection h with h; subst h
      simp only [J0k, fin, J8y h1 h2 ha, J8y h1 h2 hc]
    · cases h
theorem Jc9 : ∀ {xs ys : List TA}, Jcf m ids s xs = some ys → fin.finL m ids (Jb s).sto (xs.map (J0k (lns s.sto))) = some (ys.map (J0k L'))
  | [], ys, h => by injection h with h; subst h; rfl
  | x :: r, ys, h => by
    simp only [Jcf] at h
    split at h
    · rename_i y l hy hl
      injection h with h; subst h
      simp only [List.map_cons, fin.finL, Jic h1 h2 hy, Jc9 hl]
    · cases h
theorem Jpj {x y : TV} (h : JhN m ids s x = some y) : fin m ids (Jb s).sto (Jt (lns s.sto) x) = some (Jt L' y) := by
  cases x with
  | a x =>
    simp only [JhN] at h
    split at h
    · rename_i y hy; injection h with h; subst h; exact Jic h1 h2 hy
    · cases h
  | tup vs =>
    simp only [JhN] at h
    split at h
    · rename_i l hl
      injection h with h; subst h
      simp only [Jt, fin, Jc9 h1 h2 hl]
    · cases h
theorem Jpr {x y : TB} (h : JeZ m ids s x = some y) : J2N m ids (Jb s).sto (JO (lns s.sto) x) = some (JO L' y) := by
  cases x with
  | mbox t cs =>
    simp only [JeZ] at h
    split at h
    · rename_i l hl
      injection h with h; subst h
      simp only [Ja0, J2N, J8y h1 h2 hl, Jco]
    · cases h
  | box t x =>
    injection h with h; subst h
    simp only [J9Y, J2N, JgG]
  | _ => injection h with h; subst h; rfl
theorem J8X : ∀ {xs ys : List TB}, J7o m ids s xs = some ys → J7i m ids (Jb s).sto (xs.map (JO (lns s.sto))) = some (ys.map (JO L'))
  | [], ys, h => by injection h with h; subst h; rfl
  | x :: r, ys, h => by
    simp only [J7o] at h
    split at h
    · rename_i y l hy hl
      injection h with h; subst h
      simp only [List.map_cons, J7i, Jpr h1 h2 hy, J8X hl]
    · cases h
end
theorem JnC {m : Nat} {ids : List Nat} {s : TSt} {x y : TB} (h : JeZ m ids s x = some y) : lnB y = lnB x := by
  cases x with
  | mbox t cs =>
    simp only [JeZ] at h
    split at h
    · injection h with h; subst h; exact Jct _ _
    · cases h
  | _ => injection h with h; subst h; rfl
theorem J7H {m : Nat} {ids : List Nat} {s : TSt} : ∀ {xs ys : List TB}, J7o m ids s xs = some ys → ys.length = xs.length ∧ ∀ (k : Nat), lns ys k = lns xs k
  | [], ys, h => by injection h with h; subst h; exact ⟨rfl, fun _ => rfl⟩
  | x :: r, ys, h => by
    simp only [J7o] at h
    split at h
    · rename_i y l hy hl
      injection h with h; subst h
      obtain ⟨q1, q2⟩ := J7H hl
      refine ⟨by simp [q1], fun k => ?_⟩
      cases k with
      | zero => exact JnC hy
      | succ k => exact q2 k
    · cases h
theorem Jjr {m : Nat} {s : TSt} {L' : Nat → Nat} (h1 : ∀ b, b < m → L' b = lns s.sto b) : ∀ {env env' : List (Nat × TV)}, JhP m s env = some env' → Jc0 m (Jb s).sto (J2n (lns s.sto) env) = some (J2n L' env')
  | [], env', h => by injection h with h; subst h; rfl
  | (k, x) :: r, env', h => by
    simp only [JhP] at h
    split at h
    · rename_i y l hy hl
      injection h with h; subst h
      simp only [J2n, List.map_cons, Jc0]
      rw [Jpj (ids := []) h1 (fun b k hk => by cases hk) hy]
      have ih := Jjr h1 hl
      unfold J2n at ih
      rw [ih]
    · cases h
def J5u (n : Nat) (live : List Nat) (s : TSt) : Option TSt :=
  if s.sto.length = n then some ⟨J4j live s.env, s.sto⟩
  else match JhP n s (J4j live s.env), J7o n [] s (s.sto.take n) with
    | some e, some l => some ⟨e, l⟩
    | _, _ => none
theorem J66 {n : Nat} {live : List Nat} {s s' : TSt} (h : J5u n live s = some s') : clean n live (Jb s) = some (Jb s') := by
  unfold J5u at h
  have hlen : (Jb s).sto.length = s.sto.length := by simp [Jb]
  split at h
  · rename_i hn
    injection h with h; subst h
    unfold clean
    rw [hlen, if_pos hn]
    congr 1
    unfold Jb
    simp only [J7p]
  · rename_i hn
    split at h
    · rename_i e l he hl
      injection h with h; subst h
      obtain ⟨q1, q2⟩ := J7H hl
      have hL : ∀ b, b < n → lns l b = lns s.sto b := fun b hb => by
        rw [q2]
        unfold lns
        rw [List.getElem?_take_of_lt hb]
      unfold clean
      rw [hlen, if_neg hn]
      have e1 := Jjr hL he
      have e2 := J8X (ids := []) hL (fun b k hk => by cases hk) hl
      have e3 : restr live (Jb s).env = J2n (lns s.sto) (J4j live s.env) := J7p _ _ _
      have e4 : (Jb s).sto.take n = (s.sto.take n).map (JO (lns s.sto)) := by unfold Jb; rw [List.map_take]
      rw [e3, e1, e4, e2]
      rfl
    · cases h
inductive Jgb where
  | tmp (t : Nat)
  | cell (t : Nat) (agg : Bool) (ty : Ty)
def erR : Jgb → Jc5
  | .tmp t => .tmp t
  | .cell t agg ty => .cell t agg ty.sz
def JlS (agg : Bool) (ty : Ty) (v : TV) (s : TSt) : Option TA :=
  if agg = true ∨ ty.sz = 1 then
    match v with
    | .a (.c (.ptr b [])) => match s.sto[b]? with
      | some (.box t0 x) => if h : t0 = ty then (if agg = true then some (.dt ty (h ▸ x)) else some (.c (.d ty (h ▸ x)))) else none
      | some (.mbox _ cs) => if cs.length = ty.sz then
          match mka agg ty cs with
          | some (.a x) => some x
          | _ => none
        else none
      | _ => none
    | _ => none
  else none
theorem JpG {agg : Bool} {ty : Ty} {v : TV} {s : TSt} {x : TA} (h : JlS agg ty v s = some x) : ∃ e, (J2k agg ty.sz (Jt (lns s.sto) v)).run (Jb s) = some e ∧ e.val = J0k (lns s.sto) x := by
  unfold JlS at h
  split at h
  · rename_i ha
    split at h
    · rename_i b
      split at h
      · rename_i t0 y hb
        split at h
        · rename_i h0
          subst h0
          refine ⟨⟨J0k (lns s.sto) x, []⟩, ?_, rfl⟩
          have hc : J21 agg ((cel t0 y).map .p) = J2s agg (cel t0 y) := by
            unfold J21 J2s
            split
            · rw [J8e]
            · cases hcel : cel t0 y with
              | nil => rfl
              | cons a l => cases l <;> rfl
          have he : sub (cel t0 y) 0 t0.sz = some (cel t0 y) := JfO (J0l _ _)
          have hm := J9r (lns s.sto) ha y
          simp only [J49, spo, J2k, J0y, J0K, hb, Option.map_some, Option.bind_some, J9Y, J6O, he, hc, hm, val, Jh]
          unfold mkv
          split at h
          · rename_i h1; injection h with h; subst h; rw [if_pos h1]; rfl
          · rename_i h1; injection h with h; subst h; rw [if_neg h1]; rfl
        · cases h
      · rename_i cs hb
        split at h
        · rename_i hn
          split at h
          · rename_i y hy
            injection h with h; subst h
            have he : sub cs 0 ty.sz = some cs := JfO hn
            refine ⟨⟨J0k (lns s.sto) y, []⟩, ?_, rfl⟩
            simp only [J49, spo, J2k, J0y, J0K, hb, Option.map_some, Option.bind_some, Ja0, J6O, he, J9H (lns s.sto) hy, val, Jh]
            rfl
          · cases h
        · cases h
      · cases h
    · cases h
  · cases h
def Jgf : List Jgb → TSt → Option (List TA)
  | [], _ => some []
  | .tmp t :: r, s => match tlk t s.env, Jgf r s with
    | some (.a x), some l => some (x :: l)
    | _, _ => none
  | .cell t agg ty :: r, s => match tlk t s.env with
    | some v => match JlS agg ty v s, Jgf r s with
      | some x, some l => some (x :: l)
      | _, _ => none
    | none => none
theorem Jle (s : TSt) (t : Nat) : (RM.slot t RM.ret).run (Jb s) = (tlk t s.env).map (Jt (lns s.sto)) := by
  rw [J4K]
  show (lk t (J2n _ s.env)).bind _ = _
  rw [J8r]
  cases tlk t s.env <;> rfl
theorem JfP {s : TSt} : ∀ {rs : List Jgb} {l : List TA}, Jgf rs s = some l → (J7w (rs.map erR)).run (Jb s) = some (l.map (J0k (lns s.sto)))
  | [], l, h => by injection h with h; subst h; rfl
  | .tmp t :: r, l, h => by
    simp only [Jgf] at h
    split at h
    · rename_i x l' hx hl
      injection h with h; subst h
      simp only [List.map_cons, erR, J7w, run_bind, Jle, hx, Option.map_some, Option.bind_some, JfP hl, Jh]
      rfl
    · cases h
  | .cell t agg ty :: r, l, h => by
    simp only [Jgf] at h
    split at h
    · rename_i v hv
      split at h
      · rename_i x l' hx hl
        injection h with h; subst h
        obtain ⟨e, q1, q2⟩ := JpG hx
        simp only [List.map_cons, erR, J7w, run_bind, Jle, hv, Option.map_some, Option.bind_some, q1, JfP hl, Jh, q2]
      · cases h
    · cases h
def Jfk (s : TSt) : List Nat → List Nat → Option (List Nat)
  | [], acc => some acc
  | b :: r, acc => match s.sto[b]? with
    | some (.mbox _ cs) => match J8N cs acc with
      | some acc => Jfk s r acc
      | none => none
    | some _ => Jfk s r acc
    | none => none
theorem JaN {s : TSt} : ∀ {r acc l : List Nat}, Jfk s r acc = some l → J7e (Jb s).sto (r.map .whole) (acc.map .whole) = l.map .whole
  | [], acc, l, h => by injection h with h; subst h; rfl
  | b :: r, acc, l, h => by
    simp only [Jfk] at h
    split at h
    · rename_i cs hb
      split at h
      · rename_i acc' ha
        simp only [List.map_cons, J7e, J0K, hb, Option.map_some, Ja0, J6X (lns s.sto) ha]
        exact JaN h
      · cases h
    · rename_i x hn hb
      simp only [List.map_cons, J7e, J0K, hb, Option.map_some]
      cases x with
      | mbox t cs => exact absurd rfl (hn t cs)
      | box t x =>
        simp only [J9Y]
        rw [Jh1]
        exact JaN h
      | _ => exact JaN h
    · cases h
def J2j (m : Nat) (fresh : Bool) (s : TSt) : List Nat → List Nat
  | [] => []
  | b :: r => if b < m then J2j m fresh s r else
    match s.sto[b]? with
    | some (.box _ _) => b :: J2j m fresh s r
    | some (.mbox _ _) => b :: J2j m fresh s r
    | some (.arr _ _ _) => if fresh = true then b :: J2j m fresh s r else J2j m fresh s r
    | _ => J2j m fresh s r
theorem Jfl {m : Nat} {fresh : Bool} {s : TSt} : ∀ r : List Nat, J2w m fresh (Jb s).sto (r.map .whole) = J2j m fresh s r
  | [] => rfl
  | b :: r => by
    simp only [List.map_cons, J2w, J2j, J0K]
    rw [Jfl r]
    split
    · rfl
    · cases s.sto[b]? with
      | none => rfl
      | some x => cases x <;> rfl
def JhT (s : TSt) : List Nat → Option (List TB)
  | [] => some []
  | b :: r => match s.sto[b]?, JhT s r with
    | some x, some l => some (x :: l)
    | _, _ => none
theorem Jjj {s : TSt} : ∀ {ids : List Nat} {l : List TB}, JhT s ids = some l → J8K (Jb s).sto ids = some (l.map (JO (lns s.sto))) ∧ l.length = ids.length ∧ ∀ (j b : Nat), ids[j]? = some b → lns l j = lns s.sto b
  | [], l, h => by injection h with h; subst h; exact ⟨rfl, rfl, fun j b h => by simp at h⟩
  | b :: r, l, h => by
    simp only [JhT] at h
    split at h
    · rename_i x l' hx hl
      injection h with h; subst h
      obtain ⟨q1, q2, q3⟩ := Jjj hl
      refine ⟨by simp only [J8K, J0K, hx, Option.map_some, q1, List.map_cons], by simp [q2], fun j c hj => ?_⟩
      cases j with
      | zero =>
        simp at hj; subst hj
        unfold lns
        rw [hx]; rfl
      | succ j => exact q3 j c (by simpa using hj)
    · cases h
def JiN : List TA → TV
  | [x] => .a x
  | l => .tup l
theorem Jlk (L : Nat → Nat) (l : List TA) : one (l.map (J0k L)) = Jt L (JiN l) := by
  match l with
  | [] => rfl
  | [x] => rfl
  | x :: y :: r => rfl
section
variable {R : Type}
def J9O (res : List Jgb) (fresh : Bool) (m : Nat) (s : TSt) (E : TV → List TB → Option R) : Option R :=
  match Jgf res s with
  | none => none
  | some vs =>
    if s.sto.length = m then E (JiN vs) s.sto
    else match J9p vs [] with
      | none => none
      | some i0 => match Jfk s i0 i0 with
        | none => none
        | some i1 => if J2C (J2j m fresh s i1) = true ∧ m ≤ s.sto.length then
            match Jcf m (J2j m fresh s i1) s vs, J7o m (J2j m fresh s i1) s (s.sto.take m), JhT s (J2j m fresh s i1) with
            | some ws, some l, some q => match J7o m (J2j m fresh s i1) s q with
              | some q' => E (JiN ws) (l ++ q')
              | none => none
            | _, _, _ => none
          else none
theorem Jm8 {f : AFn} {res : List Jgb} {fresh : Bool} {m : Nat} {s : TSt} {E : TV → List TB → Option R} {r : R} (hres : f.res = res.map erR) (hfr : f.fresh = fresh) (h : J9O res fresh m s E = some r) :
    ∃ v out, J1Q f m (Jb s) = some (Jt (lns out) v, out.map (JO (lns out))) ∧ E v out = some r := by
  unfold J9O at h
  have hlen : (Jb s).sto.length = s.sto.length := by simp [Jb]
  split at h
  · cases h
  · rename_i vs hvs
    have e0 := JfP hvs
    split at h
    · rename_i hn
      refine ⟨JiN vs, s.sto, ?_, h⟩
      unfold J1Q
      rw [hres, e0]
      dsimp only
      rw [hlen, if_pos hn, Jlk]
      rfl
    · rename_i hn
      split at h
      · cases h
      · rename_i i0 hi0
        split at h
        · cases h
        · rename_i i1 hi1
          split at h
          · rename_i hnd0
            obtain ⟨hnd, hm⟩ := hnd0
            generalize hids : J2j m fresh s i1 = ids at *
            split at h
            · rename_i ws l q hws hl hq
              split at h
              · rename_i q' hq'
                refine ⟨JiN ws, l ++ q', ?_, h⟩
                obtain ⟨l1, l2⟩ := J7H hl
                obtain ⟨p1, p2, p3⟩ := Jjj hq
                obtain ⟨r1, r2⟩ := J7H hq'
                have hll : l.length = m := by rw [l1, List.length_take]; omega
                have h1 : ∀ b, b < m → lns (l ++ q') b = lns s.sto b := fun b hb => by
                  have := l2 b
                  unfold lns at this ⊢
                  rw [List.getElem?_append_left (by omega), this, List.getElem?_take_of_lt hb]
                have h2 : ∀ b k, J2r b ids m = some k → lns (l ++ q') k = lns s.sto b := fun b k hk => by
                  obtain ⟨hk1, hk2⟩ := J90 hk
                  have := r2 (k - m)
                  rw [p3 (k - m) b hk2] at this
                  rw [← this]
                  unfold lns
                  rw [List.getElem?_append_right (by omega), hll]
                have e1 := Jc9 h1 h2 hws
                have e2 := J8X h1 h2 hl
                have e3 := J8X h1 h2 hq'
                have e4 : J03.entsOfL (vs.map (J0k (lns s.sto))) [] = i0.map .whole := J8T (lns s.sto) (l := []) hi0
                have e5 := JaN hi1
                have e6 := Jfl (m := m) (fresh := fresh) (s := s) i1
                rw [hids] at e6
                have e7 : (Jb s).sto.take m = (s.sto.take m).map (JO (lns s.sto)) := by unfold Jb; rw [List.map_take]
                unfold J1Q
                rw [hres, e0]
                dsimp only
                rw [hlen, if_neg hn, e4, e5, hfr, e6]
                simp only [hnd, if_true, e1, e7, e2, p1, e3, List.map_append, Jlk]
              · cases h
            · cases h
          · cases h
end
end Go.Am
end
section
namespace Go.Am
inductive ShC where
  | d (t : Ty)
  | sc (t : Ty)
  | np
  | nf
  | un
  | ptr (b : Nat) (p : List Sp)
  | cp (t : Ty) (p : List Sp)
  | slr (b : Nat)
  | fn (f : FuncId)
  deriving DecidableEq
inductive ShA where
  | c (x : ShC)
  | dt (t : Ty)
  | m (t : Ty) (cs : List ShC)
  | fn (f : FuncId) (a c : List ShC)
  deriving DecidableEq
inductive ShV where
  | a (x : ShA)
  | tup (vs : List ShA)
  deriving DecidableEq
inductive ShB where
  | dead
  | box (t : Ty)
  | mbox (t : Ty) (cs : List ShC)
  | arr (w : Bool) (t : Ty)
  deriving DecidableEq
structure ShS where
  env : List (Nat × ShV)
  sto : List ShB
  deriving DecidableEq
abbrev Lf := (t : Ty) × t.D
def shC : TC → Option (ShC × List Lf)
  | .d t x => some (.d t, [⟨t, x⟩])
  | .sc t rows => some (.sc t, [⟨.l t, rows⟩])
  | .np => some (.np, [])
  | .nf => some (.nf, [])
  | .un => some (.un, [])
  | .ptr b p => if (Jab p).isSome = true then some (.ptr b p, []) else none
  | .cp t x p => if (Jab p).isSome = true then some (.cp t p, [⟨t, x⟩]) else none
  | .slr b => some (.slr b, [])
  | .fn f => some (.fn f, [])
  | _ => none
def lf1 (t : Ty) (l : List Lf) : Option (t.D × List Lf) :=
  match l with
  | ⟨t', x⟩ :: r => if h : t' = t then some (h ▸ x, r) else none
  | [] => none
def mkC : ShC → List Lf → Option (TC × List Lf)
  | .d t, l => match lf1 t l with
    | some (x, r) => some (.d t x, r)
    | none => none
  | .sc t, l => match lf1 (.l t) l with
    | some (x, r) => some (.sc t x, r)
    | none => none
  | .np, l => some (.np, l)
  | .nf, l => some (.nf, l)
  | .un, l => some (.un, l)
  | .ptr b p, l => some (.ptr b p, l)
  | .cp t p, l => match lf1 t l with
    | some (x, r) => some (.cp t x p, r)
    | none => none
  | .slr b, l => some (.slr b, l)
  | .fn f, l => some (.fn f, l)
theorem Jcg (t : Ty) (x : t.D) (r : List Lf) : lf1 t (⟨t, x⟩ :: r) = some (x, r) := by simp [lf1]
theorem Jbu {x : TC} {sh : ShC} {ls : List Lf} (h : shC x = some (sh, ls)) (rest : List Lf) : mkC sh (ls ++ rest) = some (x, rest) := by
  cases x <;> simp only [shC] at h <;> first
    | (split at h
       · simp only [Option.some.injEq, Prod.mk.injEq] at h
         obtain ⟨rfl, rfl⟩ := h
         simp only [List.cons_append, List.nil_append, mkC, Jcg]
       · cases h)
    | (simp only [Option.some.injEq, Prod.mk.injEq] at h
       obtain ⟨rfl, rfl⟩ := h
       simp only [List.cons_append, List.nil_append, mkC, Jcg])
    | cases h
def shL {α σ : Type} (f : α → Option (σ × List Lf)) : List α → Option (List σ × List Lf)
  | [] => some ([], [])
  | x :: r => match f x, shL f r with
    | some (s, l), some (q, k) => some (s :: q, l ++ k)
    | _, _ => none
def mkL {α σ : Type} (g : σ → List Lf → Option (α × List Lf)) : List σ → List Lf → Option (List α × List Lf)
  | [], l => some ([], l)
  | s :: r, l => match g s l with
    | some (x, l) => match mkL g r l with
      | some (q, l) => some (x :: q, l)
      | none => none
    | none => none
theorem J4H {α σ : Type} {f : α → Option (σ × List Lf)} {g : σ → List Lf → Option (α × List Lf)} (hfg : ∀ {x : α} {s : σ} {ls : List Lf}, f x = some (s, ls) → ∀ rest, g s (ls ++ rest) = some (x, rest)) :
    ∀ {xs : List α} {ss : List σ} {ls : List Lf}, shL f xs = some (ss, ls) → ∀ rest, mkL g ss (ls ++ rest) = some (xs, rest)
  | [], ss, ls, h, rest => by injection h with h; injection h with h1 h2; subst h1 h2; rfl
  | x :: r, ss, ls, h, rest => by
    simp only [shL] at h
    split at h
    · rename_i s l q k h1 h2
      injection h with h; injection h with h3 h4; subst h3 h4
      simp only [mkL, List.append_assoc, hfg h1, J4H hfg h2]
    · cases h
def shA : TA → Option (ShA × List Lf)
  | .c x => match shC x with
    | some (s, l) => some (.c s, l)
    | none => none
  | .dt t x => some (.dt t, [⟨t, x⟩])
  | .m t cs => match shL shC cs with
    | some (s, l) => some (.m t s, l)
    | none => none
  | .fn f a c => match shL shC a, shL shC c with
    | some (s, l), some (q, k) => some (.fn f s q, l ++ k)
    | _, _ => none
def mkA : ShA → List Lf → Option (TA × List Lf)
  | .c s, l => match mkC s l with
    | some (x, l) => some (.c x, l)
    | none => none
  | .dt t, l => match lf1 t l with
    | some (x, l) => some (.dt t x, l)
    | none => none
  | .m t s, l => match mkL mkC s l with
    | some (x, l) => some (.m t x, l)
    | none => none
  | .fn f a c, l => match mkL mkC a l with
    | some (x, l) => match mkL mkC c l with
      | some (y, l) => some (.fn f x y, l)
      | none => none
    | none => none
theorem JiT {x : TA} {sh : ShA} {ls : List Lf} (h : shA x = some (sh, ls)) (rest : List Lf) : mkA sh (ls ++ rest) = some (x, rest) := by
  cases x with
  | c x =>
    simp only [shA] at h
    split at h
    · rename_i s l h1
      injection h with h; injection h with h2 h3; subst h2 h3
      simp only [mkA, Jbu h1]
    · cases h
  | dt t x =>
    injection h with h; injection h with h2 h3; subst h2 h3
    simp only [mkA, List.cons_append, List.nil_append, Jcg]
  | m t cs =>
    simp only [shA] at h
    split at h
    · rename_i s l h1
      injection h with h; injection h with h2 h3; subst h2 h3
      simp only [mkA, J4H Jbu h1]
    · cases h
  | fn f a c =>
    simp only [shA] at h
    split at h
    · rename_i s l q k h1 h2
      injection h with h; injection h with h3 h4; subst h3 h4
      simp only [mkA, List.append_assoc, J4H Jbu h1, J4H Jbu h2]
    · cases h
def shV : TV → Option (ShV × List Lf)
  | .a x => match shA x with
    | some (s, l) => some (.a s, l)
    | none => none
  | .tup vs => match shL shA vs with
    | some (s, l) => some (.tup s, l)
    | none => none
def mkV : ShV → List Lf → Option (TV × List Lf)
  | .a s, l => match mkA s l with
    | some (x, l) => some (.a x, l)
    | none => none
  | .tup s, l => match mkL mkA s l with
    | some (x, l) => some (.tup x, l)
    | none => none
theorem Jn7 {x : TV} {sh : ShV} {ls : List Lf} (h : shV x = some (sh, ls)) (rest : List Lf) : mkV sh (ls ++ rest) = some (x, rest) := by
  cases x with
  | a x =>
    simp only [shV] at h
    split at h
    · rename_i s l h1
      injection h with h; injection h with h2 h3; subst h2 h3
      simp only [mkV, JiT h1]
    · cases h
  | tup vs =>
    simp only [shV] at h
    split at h
    · rename_i s l h1
      injection h with h; injection h with h2 h3; subst h2 h3
      simp only [mkV, J4H JiT h1]
    · cases h
def shB : TB → Option (ShB × List Lf)
  | .dead => some (.dead, [])
  | .box t x => some (.box t, [⟨t, x⟩])
  | .mbox t cs => match shL shC cs with
    | some (s, l) => some (.mbox t s, l)
    | none => none
  | .arr w t rows => some (.arr w t, [⟨.l t, rows⟩])
def mkB : ShB → List Lf → Option (TB × List Lf)
  | .dead, l => some (.dead, l)
  | .box t, l => match lf1 t l with
    | some (x, l) => some (.box t x, l)
    | none => none
  | .mbox t s, l => match mkL mkC s l with
    | some (x, l) => some (.mbox t x, l)
    | none => none
  | .arr w t, l => match lf1 (.l t) l with
    | some (x, l) => some (.arr w t x, l)
    | none => none
theorem JjK {x : TB} {sh : ShB} {ls : List Lf} (h : shB x = some (sh, ls)) (rest : List Lf) : mkB sh (ls ++ rest) = some (x, rest) := by
  cases x with
  | dead => injection h with h; injection h with h2 h3; subst h2 h3; rfl
  | box t x => injection h with h; injection h with h2 h3; subst h2 h3; simp only [mkB, List.cons_append, List.nil_append, Jcg]
  | mbox t cs =>
    simp only [shB] at h
    split at h
    · rename_i s l h1
      injection h with h; injection h with h2 h3; subst h2 h3
      simp only [mkB, J4H Jbu h1]
    · cases h
  | arr w t rows => injection h with h; injection h with h2 h3; subst h2 h3; simp only [mkB, List.cons_append, List.nil_append, Jcg]
def shE (x : Nat × TV) : Option ((Nat × ShV) × List Lf) := match shV x.2 with
  | some (s, l) => some ((x.1, s), l)
  | none => none
def mkE (x : Nat × ShV) (l : List Lf) : Option ((Nat × TV) × List Lf) := match mkV x.2 l with
  | some (v, l) => some ((x.1, v), l)
  | none => none
theorem Js1 {x : Nat × TV} {sh : Nat × ShV} {ls : List Lf} (h : shE x = some (sh, ls)) (rest : List Lf) : mkE sh (ls ++ rest) = some (x, rest) := by
  unfold shE at h
  split at h
  · rename_i s l h1
    injection h with h; injection h with h2 h3; subst h2 h3
    simp only [mkE, Jn7 h1]
  · cases h
def shS (s : TSt) : Option (ShS × List Lf) := match shL shE s.env, shL shB s.sto with
  | some (a, l), some (c, k) => some (⟨a, c⟩, l ++ k)
  | _, _ => none
def JbN (s : ShS) (l : List Lf) : Option TSt := match mkL mkE s.env l with
  | some (a, l) => match mkL mkB s.sto l with
    | some (c, []) => some ⟨a, c⟩
    | _ => none
  | none => none
theorem JkQ {x : TSt} {sh : ShS} {ls : List Lf} (h : shS x = some (sh, ls)) : JbN sh ls = some x := by
  unfold shS at h
  split at h
  · rename_i a l c k h1 h2
    injection h with h; injection h with h3 h4; subst h3 h4
    have e := J4H JjK h2 []
    rw [List.append_nil] at e
    simp only [JbN, J4H Js1 h1, e]
  · cases h
def tyL : List Ty → Ty
  | [] => .u
  | [t] => t
  | t :: t' :: r => .pr t (tyL (t' :: r))
def JbD : (ls : List Lf) → (tyL (ls.map (·.1))).D
  | [] => ()
  | [x] => x.2
  | x :: y :: r => (x.2, JbD (y :: r))
def J5I : (ts : List Ty) → (tyL ts).D → List Lf
  | [], _ => []
  | [t], x => [⟨t, x⟩]
  | t :: t' :: r, x => ⟨t, x.1⟩ :: J5I (t' :: r) x.2
theorem Jbd : ∀ ls : List Lf, J5I (ls.map (·.1)) (JbD ls) = ls
  | [] => rfl
  | [x] => rfl
  | x :: y :: r => by
    have := Jbd (y :: r)
    show ⟨x.1, x.2⟩ :: J5I ((y :: r).map (·.1)) (JbD (y :: r)) = _
    rw [this]
def asL (ts : List Ty) (ls : List Lf) : Option (tyL ts).D := if h : ls.map (·.1) = ts then some (h ▸ JbD ls) else none
theorem Jiw {ts : List Ty} {ls : List Lf} {x : (tyL ts).D} (h : asL ts ls = some x) : J5I ts x = ls := by
  unfold asL at h
  split at h
  · rename_i h0; subst h0
    injection h with h; subst h
    exact Jbd ls
  · cases h
def JfX (sh : ShS) (ts : List Ty) (s : TSt) : Option (tyL ts).D := match shS s with
  | some (sh', ls) => if sh' = sh then asL ts ls else none
  | none => none
theorem Jlj {sh : ShS} {ts : List Ty} {s : TSt} {x : (tyL ts).D} (h : JfX sh ts s = some x) : JbN sh (J5I ts x) = some s := by
  unfold JfX at h
  split at h
  · rename_i sh' ls hs
    split at h
    · rename_i e; subst e
      rw [Jiw h]; exact JkQ hs
    · cases h
  · cases h
inductive TCo where
  | skip
  | bad
  | reg (draw : Bool) (pairs : List (Nat × Nat)) (ins : List J5V)
  | seq (a b : TCo)
  | cond (c : TO) (a b : TCo)
  | block (id : Nat) (c : TCo)
  | loop (live : List Nat) (c : TCo)
  | scope (c : TCo)
  | exit (id : Nat)
  | ret
  | keep (live : List Nat) (c : TCo)
  | tidy (live : List Nat) (c : TCo)
  | jn (sh : ShS) (ts : List Ty) (a b : TCo)
def erc : TCo → J09
  | .skip => .skip
  | .bad => .bad
  | .reg d p ins => .reg d p (ins.map eri)
  | .seq a b => .seq (erc a) (erc b)
  | .cond c a b => .cond (erO c) (erc a) (erc b)
  | .block id c => .block id (erc c)
  | .loop live c => .loop live (erc c)
  | .scope c => .scope (erc c)
  | .exit id => .exit id
  | .ret => .ret
  | .keep live c => .keep live (erc c)
  | .tidy live c => .tidy live (erc c)
  | .jn sh _ a b => .seq (erc a) (.keep (sh.env.map (·.1)) (erc b))
structure TK (R : Type) where
  n : TSt → Option R
  x : Nat → TSt → Option R
  r : TSt → Option R
def TK.at' {R : Type} (K : TK R) : AX → TSt → Option R
  | .normal => K.n
  | .exit i => K.x i
  | .ret => K.r
def rbO (c : TO) (v : Bool) (s : TSt) : TSt := match c with
  | .t n => rb n (vb v) s
  | .c _ => s
def jnO {σ R : Type} (m : Option (σ ⊕ R)) (f : σ → Option R) : Option R := match m with
  | some (.inl x) => f x
  | some (.inr r) => some r
  | none => none
def inl? {σ R : Type} (m : Option σ) : Option (σ ⊕ R) := match m with
  | some x => some (.inl x)
  | none => none
def onO {α R : Type} (m : Option α) (k : α → Option R) : Option R := match m with
  | some x => k x
  | none => none
theorem J3y {α R : Type} {m : Option α} {k : α → Option R} {r : R} (h : onO m k = some r) : ∃ x, m = some x ∧ k x = some r := by
  cases m with
  | none => cases h
  | some x => exact ⟨x, rfl, h⟩
def Jme {R : Type} (clean : TSt → Option TSt) (body : (TSt → Option R) → TSt → Option R) : Nat → TSt → Option R
  | 0, _ => none
  | k + 1, s => body (fun s' => onO (clean s') (Jme clean body k)) s
def orO {σ R : Type} (m : Option σ) (f : Unit → Option R) : Option (σ ⊕ R) := match m with
  | some x => some (.inl x)
  | none => (f ()).map .inr
noncomputable def trc (G : TG) : TCo → (R : Type) → TK R → TSt → Option R
  | .skip, _, K, s => K.n s
  | .bad, _, _, _ => none
  | .reg _ p ins, _, K, s => Jp5 G p ins s K.n
  | .seq a b, R, K, s => trc G a R ⟨fun s => trc G b R K s, K.x, K.r⟩ s
  | .cond c a b, R, K, s => match tev c s with
    | some (.a (.c (.d .b x))) => if x = true then trc G a R K (rbO c true s) else trc G b R K (rbO c false s)
    | _ => none
  | .block id c, R, K, s => trc G c R ⟨K.n, fun i s => if i = id then K.n s else K.x i s, K.r⟩ s
  | .loop live c, R, K, s => onO (shS ⟨J4j live s.env, s.sto⟩) fun (sh, ls) =>
      JL (fun x : (tyL (ls.map (·.1))).D => onO (JbN sh (J5I (ls.map (·.1)) x)) fun s1 =>
        trc G c ((tyL (ls.map (·.1))).D ⊕ R) ⟨fun s' => onO (J5u s.sto.length live s') fun s' => orO (JfX sh (ls.map (·.1)) s') fun _ => Jme (J5u s.sto.length live) (fun again s => trc G c R ⟨again, K.x, K.r⟩ s) 3 s', fun i s' => (K.x i s').map .inr, fun s' => (K.r s').map .inr⟩ s1) (JbD ls)
  | .scope c, R, K, s => trc G c R K s
  | .exit id, _, K, s => K.x id s
  | .ret, _, K, s => K.r s
  | .keep live c, R, K, s => trc G c R K ⟨J4j live s.env, s.sto⟩
  | .tidy live c, R, K, s => trc G c R ⟨fun s' => onO (J5u s.sto.length live s') K.n, fun i s' => onO (J5u s.sto.length live s') (K.x i), fun s' => onO (J5u s.sto.length live s') K.r⟩ s
  | .jn sh ts a b, R, K, s => jnO (trc G a ((tyL ts).D ⊕ R) ⟨fun s' => inl? (JfX sh ts ⟨J4j (sh.env.map (·.1)) s'.env, s'.sto⟩), fun i s' => (K.x i s').map .inr, fun s' => (K.r s').map .inr⟩ s)
      fun x => onO (JbN sh (J5I ts x)) fun s1 => trc G b R K s1
theorem Jec (live : List Nat) (s : TSt) : Jb ⟨J4j live s.env, s.sto⟩ = ⟨restr live (Jb s).env, (Jb s).sto⟩ := by
  unfold Jb
  simp only [J7p]
theorem JmV {c : TO} {x : Bool} {s : TSt} (h : tev c s = some (vb x)) : rbO c x s = s := by
  cases c with
  | t n => exact Jis h
  | c v => rfl
theorem Jpx {σ R : Type} {m : Option σ} {o : σ ⊕ R} (h : inl? m = some o) : ∃ x, m = some x ∧ o = .inl x := by
  cases m with
  | none => cases h
  | some x => injection h with h; exact ⟨x, rfl, h.symm⟩
theorem J3d {T : J1P} {G : TG} (hG : GOk (AF T) G) : ∀ {c : TCo} {R : Type} {K : TK R} {s : TSt} {r : R}, trc G c R K s = some r → ∃ o s', X T (erc c) (Jb s) = some (o, Jb s') ∧ K.at' o s' = some r
  | .skip, R, K, s, r, h => ⟨.normal, s, by rw [erc, JrB], h⟩
  | .bad, R, K, s, r, h => by cases h
  | .reg d p ins, R, K, s, r, h => by
    obtain ⟨s', h1, h2⟩ := Jqa hG h
    exact ⟨.normal, s', by rw [erc, Jq2, h1]; rfl, h2⟩
  | .seq a b, R, K, s, r, h => by
    obtain ⟨o, s1, h1, h2⟩ := J3d hG (c := a) h
    rw [erc, JpZ, h1]
    cases o with
    | normal =>
      obtain ⟨o, s2, h3, h4⟩ := J3d hG (c := b) h2
      exact ⟨o, s2, h3, h4⟩
    | exit i => exact ⟨.exit i, s1, rfl, h2⟩
    | ret => exact ⟨.ret, s1, rfl, h2⟩
  | .cond c a b, R, K, s, r, h => by
    unfold trc at h
    split at h
    · rename_i x hx
      have e : evv (erO c) (Jb s).env = some (.p (.b x)) := by
        rw [← Jfj (erO c) (Jb s), Jz hx]; rfl
      rw [erc, Js5, e, JpR]
      split at h
      · rename_i hx1
        subst hx1
        rw [JmV hx] at h
        simp only [if_true]
        exact J3d hG (c := a) h
      · rename_i hx1
        have : x = false := by simpa using hx1
        subst this
        rw [JmV hx] at h
        simp only [Bool.false_eq_true, if_false]
        exact J3d hG (c := b) h
    · cases h
  | .block id c, R, K, s, r, h => by
    obtain ⟨o, s1, h1, h2⟩ := J3d hG (c := c) h
    rw [erc, Jqp, h1]
    cases o with
    | normal => exact ⟨.normal, s1, rfl, h2⟩
    | exit i =>
      simp only [Jj1]
      simp only [TK.at'] at h2
      split at h2
      · rename_i hi; rw [if_pos hi]; exact ⟨.normal, s1, rfl, h2⟩
      · rename_i hi; rw [if_neg hi]; exact ⟨.exit i, s1, rfl, h2⟩
    | ret => exact ⟨.ret, s1, rfl, h2⟩
  | .loop live c, R, K, s, r, h => by
    unfold trc at h
    obtain ⟨⟨sh, ls⟩, hs, h⟩ := J3y h
    dsimp only at h
    have hpeel : ∀ (k : Nat) {s2 : TSt} {r : R}, Jme (J5u s.sto.length live) (fun again s => trc G c R ⟨again, K.x, K.r⟩ s) k s2 = some r →
        ∃ o s', X T (.lp s.sto.length live (erc c)) (Jb s2) = some (o, Jb s') ∧ K.at' o s' = some r := by
      intro k
      induction k with
      | zero => intro s2 r h; cases h
      | succ k ih =>
        intro s2 r h
        obtain ⟨o, s3, h1, h2⟩ := J3d hG (c := c) h
        rw [Jot, h1]
        cases o with
        | normal =>
          obtain ⟨s4, hc, h2⟩ := J3y h2
          simp only [J6u, J66 hc]
          exact ih h2
        | exit i => exact ⟨.exit i, s3, rfl, h2⟩
        | ret => exact ⟨.ret, s3, rfl, h2⟩
    have key : ∀ {x : (tyL (ls.map (·.1))).D} {r : R}, JL (fun x : (tyL (ls.map (·.1))).D => onO (JbN sh (J5I (ls.map (·.1)) x)) fun s1 =>
        trc G c ((tyL (ls.map (·.1))).D ⊕ R) ⟨fun s' => onO (J5u s.sto.length live s') fun s' => orO (JfX sh (ls.map (·.1)) s') fun _ => Jme (J5u s.sto.length live) (fun again s => trc G c R ⟨again, K.x, K.r⟩ s) 3 s', fun i s' => (K.x i s').map .inr, fun s' => (K.r s').map .inr⟩ s1) x = some r →
        ∃ st, JbN sh (J5I (ls.map (·.1)) x) = some st ∧ ∃ o s', X T (.lp s.sto.length live (erc c)) (Jb st) = some (o, Jb s') ∧ K.at' o s' = some r := by
      intro x r hw
      refine Jn0 (P := fun (x : (tyL (ls.map (·.1))).D) (r : R) => ∃ st, JbN sh (J5I (ls.map (·.1)) x) = some st ∧ ∃ o s', X T (.lp s.sto.length live (erc c)) (Jb st) = some (o, Jb s') ∧ K.at' o s' = some r) ?_ ?_ hw
      · intro x r hx
        obtain ⟨st, hst, hx⟩ := J3y hx
        obtain ⟨o, s1, h1, h2⟩ := J3d hG (c := c) hx
        refine ⟨st, hst, ?_⟩
        rw [Jot, h1]
        cases o with
        | normal =>
          obtain ⟨s2, hc, h2⟩ := J3y h2
          unfold orO at h2
          split at h2
          · cases h2
          · obtain ⟨r', h3, h4⟩ := Option.map_eq_some_iff.1 h2
            injection h4 with h4; subst h4
            simp only [J6u, J66 hc]
            exact hpeel 3 h3
        | exit i =>
          obtain ⟨r', h3, h4⟩ := Option.map_eq_some_iff.1 h2
          injection h4 with h4; subst h4
          exact ⟨.exit i, s1, rfl, h3⟩
        | ret =>
          obtain ⟨r', h3, h4⟩ := Option.map_eq_some_iff.1 h2
          injection h4 with h4; subst h4
          exact ⟨.ret, s1, rfl, h3⟩
      · rintro x y r hx ⟨st', hst', o, s3, h5, h6⟩
        obtain ⟨st, hst, hx⟩ := J3y hx
        obtain ⟨o1, s1, h1, h2⟩ := J3d hG (c := c) hx
        refine ⟨st, hst, ?_⟩
        rw [Jot, h1]
        cases o1 with
        | normal =>
          obtain ⟨s2, hc, h2⟩ := J3y h2
          unfold orO at h2
          split at h2
          · rename_i z hz
            injection h2 with h2; injection h2 with h2; subst h2
            have e := Jlj hz
            rw [hst'] at e
            injection e with e; subst e
            simp only [J6u, J66 hc]
            exact ⟨o, s3, h5, h6⟩
          · obtain ⟨r', _, h4⟩ := Option.map_eq_some_iff.1 h2
            cases h4
        | exit i =>
          obtain ⟨r', _, h4⟩ := Option.map_eq_some_iff.1 h2
          cases h4
        | ret =>
          obtain ⟨r', _, h4⟩ := Option.map_eq_some_iff.1 h2
          cases h4
    obtain ⟨st, hst, o, s', h1, h2⟩ := key h
    rw [Jbd, JkQ hs] at hst
    injection hst with hst; subst hst
    refine ⟨o, s', ?_, h2⟩
    have e : X T (.loop live (erc c)) (Jb s) = X T (.lp (Jb s).sto.length live (erc c)) ⟨restr live (Jb s).env, (Jb s).sto⟩ := Jsd T live (erc c) _ _
    rw [erc, e, ← Jec, show (Jb s).sto.length = s.sto.length by simp [Jb]]
    exact h1
  | .scope c, R, K, s, r, h => by
    obtain ⟨o, s1, h1, h2⟩ := J3d hG (c := c) h
    exact ⟨o, s1, by rw [erc, Jqr]; exact h1, h2⟩
  | .exit id, R, K, s, r, h => ⟨.exit id, s, by rw [erc, JrQ], h⟩
  | .ret, R, K, s, r, h => ⟨.ret, s, by rw [erc, JsC], h⟩
  | .keep live c, R, K, s, r, h => by
    obtain ⟨o, s1, h1, h2⟩ := J3d hG (c := c) h
    exact ⟨o, s1, by rw [erc, JmS, ← Jec]; exact h1, h2⟩
  | .tidy live c, R, K, s, r, h => by
    obtain ⟨o, s1, h1, h2⟩ := J3d hG (c := c) h
    rw [erc, Jsf, h1, JjY, show (Jb s).sto.length = s.sto.length by simp [Jb]]
    cases o with
    | normal => obtain ⟨s2, h3, h4⟩ := J3y h2; rw [J66 h3]; exact ⟨.normal, s2, rfl, h4⟩
    | exit i => obtain ⟨s2, h3, h4⟩ := J3y h2; rw [J66 h3]; exact ⟨.exit i, s2, rfl, h4⟩
    | ret => obtain ⟨s2, h3, h4⟩ := J3y h2; rw [J66 h3]; exact ⟨.ret, s2, rfl, h4⟩
  | .jn sh ts a b, R, K, s, r, h => by
    unfold trc at h
    rw [erc, JpZ]
    cases ho : trc G a ((tyL ts).D ⊕ R) ⟨fun s' => inl? (JfX sh ts ⟨J4j (sh.env.map (·.1)) s'.env, s'.sto⟩), fun i s' => (K.x i s').map .inr, fun s' => (K.r s').map .inr⟩ s with
    | none => rw [ho] at h; cases h
    | some res =>
      rw [ho] at h
      obtain ⟨o, s1, h1, h2⟩ := J3d hG (c := a) ho
      rw [h1]
      cases o with
      | normal =>
        obtain ⟨x, hx, rfl⟩ := Jpx h2
        obtain ⟨s2, h3, h4⟩ := J3y h
        rw [Jlj hx] at h3
        injection h3 with h3; subst h3
        obtain ⟨o, s3, h5, h6⟩ := J3d hG (c := b) h4
        refine ⟨o, s3, ?_, h6⟩
        simp only [J6u]
        rw [JmS, ← Jec]; exact h5
      | exit i =>
        obtain ⟨r', h3, h4⟩ := Option.map_eq_some_iff.1 h2
        subst h4
        injection h with h; subst h
        exact ⟨.exit i, s1, rfl, h3⟩
      | ret =>
        obtain ⟨r', h3, h4⟩ := Option.map_eq_some_iff.1 h2
        subst h4
        injection h with h; subst h
        exact ⟨.ret, s1, rfl, h3⟩
end Go.Am
end
section
namespace Go.Am
structure TFn where
  np : Nat
  nt : Nat
  body : TCo
  res : List Jgb
  fresh : Bool
def erF (f : TFn) : AFn := ⟨f.np, f.nt, erc f.body, f.res.map erR, f.fresh⟩
def JeF : Nat → List TA → List (Nat × TV)
  | _, [] => []
  | k, x :: r => (k, .a x) :: JeF (k + 1) r
theorem JiH (L : Nat → Nat) : ∀ (k : Nat) (xs : List TA), J5p k (xs.map (J0k L)) = J2n L (JeF k xs)
  | _, [] => rfl
  | k, x :: r => by
    have := JiH L (k + 1) r
    simp only [List.map_cons, J5p, JeF, J2n, this]
    rfl
noncomputable def J1w (G : TG) (f : TFn) {R : Type} (xs : List TA) (bl : List TB) (E : TV → List TB → Option R) : Option R :=
  if xs.length = f.np then
    trc G f.body R ⟨fun s => J9O f.res f.fresh bl.length s E, fun _ _ => none, fun s => J9O f.res f.fresh bl.length s E⟩ ⟨JeF 0 xs, bl⟩
  else none
theorem Jrk {T : J1P} {G : TG} (hG : GOk (AF T) G) {g : FuncId} {f : TFn} (hf : T g = some (.fn (erF f))) {R : Type} {xs : List TA} {bl : List TB} {E : TV → List TB → Option R} {r : R} (h : J1w G f xs bl E = some r) :
    ∃ v out, AF T g (xs.map (J0k (lns bl))) (bl.map (JO (lns bl))) = some (Jt (lns out) v, out.map (JO (lns out))) ∧ E v out = some r := by
  unfold J1w at h
  split at h
  · rename_i hn
    obtain ⟨o, s', h1, h2⟩ := J3d hG h
    have e0 : Jb ⟨JeF 0 xs, bl⟩ = ⟨J5p 0 (xs.map (J0k (lns bl))), bl.map (JO (lns bl))⟩ := by
      unfold Jb; rw [JiH]
    rw [e0] at h1
    have fin : J9O f.res f.fresh bl.length s' E = some r → ∃ v out, J1Q (erF f) bl.length (Jb s') = some (Jt (lns out) v, out.map (JO (lns out))) ∧ E v out = some r :=
      fun h => Jm8 rfl rfl h
    have e1 : ∀ q, J1Q (erF f) bl.length (Jb s') = some q → (o = .normal ∨ o = .ret) → AF T g (xs.map (J0k (lns bl))) (bl.map (JO (lns bl))) = some q := by
      intro q hq ho
      rw [JsK T hf, if_pos (by rw [List.length_map]; exact hn), show (erF f).body = erc f.body from rfl, h1, List.length_map]
      rcases ho with rfl | rfl <;> exact hq
    cases o with
    | normal =>
      obtain ⟨v, out, h3, h4⟩ := fin h2
      exact ⟨v, out, e1 _ h3 (.inl rfl), h4⟩
    | exit i => cases h2
    | ret =>
      obtain ⟨v, out, h3, h4⟩ := fin h2
      exact ⟨v, out, e1 _ h3 (.inr rfl), h4⟩
  · cases h
structure TE where
  f : FuncId
  go : ∀ {R : Type}, List TA → List TB → (TV → List (Bool × TB) → Option R) → Option R
  fit : List TA → List TB → Bool
structure EOk (F : Orc) (e : TE) : Prop where
  ok : ∀ {R : Type} {xs : List TA} {bl : List TB} {kk : TV → List (Bool × TB) → Option R} {r : R}, e.go xs bl kk = some r →
    ∃ v out, F e.f (xs.map (J0k (lns bl))) (bl.map (JO (lns bl))) = some (Jt (J9c out) v, out.map fun x => JO (J9c out) x.2) ∧
      (∀ (k : Nat) x, out[k]? = some (true, x) → k < bl.length → lnB x = lns bl k) ∧ kk v out = some r
def goE {R : Type} (f : FuncId) (xs : List TA) (bl : List TB) (kk : TV → List (Bool × TB) → Option R) : List TE → Option R
  | [] => none
  | e :: r => if f = e.f ∧ e.fit xs bl = true then e.go xs bl kk else goE f xs bl kk r
def TG.of (l : List TE) : TG := ⟨fun f xs bl kk => goE f xs bl kk l⟩
def Jjf (F : Orc) : List TE → Prop
  | [] => True
  | e :: r => EOk F e ∧ Jjf F r
theorem Jn6 {F : Orc} {R : Type} {f : FuncId} {xs : List TA} {bl : List TB} {kk : TV → List (Bool × TB) → Option R} {r : R} : ∀ {l : List TE}, Jjf F l → goE f xs bl kk l = some r →
    ∃ v out, F f (xs.map (J0k (lns bl))) (bl.map (JO (lns bl))) = some (Jt (J9c out) v, out.map fun x => JO (J9c out) x.2) ∧
      (∀ (k : Nat) x, out[k]? = some (true, x) → k < bl.length → lnB x = lns bl k) ∧ kk v out = some r
  | [], _, h => by cases h
  | e :: l, ha, h => by
    simp only [goE] at h
    split at h
    · rename_i he
      obtain ⟨rfl, _⟩ := he
      exact ha.1.ok h
    · exact Jn6 ha.2 h
theorem Jsn {F : Orc} {l : List TE} (h : Jjf F l) : GOk F (TG.of l) := ⟨fun hg => Jn6 h hg⟩
structure Sig where
  args : List ShA
  blks : List ShB
  ti : List Ty
  res : ShV
  out : List ShB
  same : List Bool
  to : List Ty
def J11 (g : Sig) (x : (tyL g.ti).D) : Option (List TA × List TB) := match mkL mkA g.args (J5I g.ti x) with
  | some (xs, l) => match mkL mkB g.blks l with
    | some (bl, []) => some (xs, bl)
    | _ => none
  | none => none
def Jel (g : Sig) (xs : List TA) (bl : List TB) : Option (tyL g.ti).D := match shL shA xs, shL shB bl with
  | some (a, l), some (c, k) => if a = g.args ∧ c = g.blks then asL g.ti (l ++ k) else none
  | _, _ => none
theorem JqW {g : Sig} {xs : List TA} {bl : List TB} {x : (tyL g.ti).D} (h : Jel g xs bl = some x) : J11 g x = some (xs, bl) := by
  unfold Jel at h
  split at h
  · rename_i a l c k h1 h2
    split at h
    · rename_i h0
      obtain ⟨rfl, rfl⟩ := h0
      have e := J4H JjK h2 []
      rw [List.append_nil] at e
      unfold J11
      rw [Jiw h, J4H JiT h1 k]
      simp only [e]
    · cases h
  · cases h
def Jfv (g : Sig) (y : (tyL g.to).D) : Option (TV × List TB) := match mkV g.res (J5I g.to y) with
  | some (v, l) => match mkL mkB g.out l with
    | some (out, []) => some (v, out)
    | _ => none
  | none => none
def J0D (g : Sig) (v : TV) (out : List TB) : Option (tyL g.to).D := match shV v, shL shB out with
  | some (a, l), some (c, k) => if a = g.res ∧ c = g.out then asL g.to (l ++ k) else none
  | _, _ => none
theorem Jof {g : Sig} {v : TV} {out : List TB} {y : (tyL g.to).D} (h : J0D g v out = some y) : Jfv g y = some (v, out) := by
  unfold J0D at h
  split at h
  · rename_i a l c k h1 h2
    split at h
    · rename_i h0
      obtain ⟨rfl, rfl⟩ := h0
      have e := J4H JjK h2 []
      rw [List.append_nil] at e
      unfold Jfv
      rw [Jiw h, Jn7 h1 k]
      simp only [e]
    · cases h
  · cases h
def flg (same : List Bool) (out : List TB) : List (Bool × TB) := match same, out with
  | b :: r, x :: l => (b, x) :: flg r l
  | [], x :: l => (false, x) :: flg [] l
  | _, [] => []
theorem J9P : ∀ (same : List Bool) (out : List TB), (flg same out).map (·.2) = out
  | [], [] => rfl
  | [], x :: l => by simp only [flg, List.map_cons, J9P [] l]
  | b :: r, [] => rfl
  | b :: r, x :: l => by simp only [flg, List.map_cons, J9P r l]
def sigE (f : FuncId) (g : Sig) (S : (tyL g.ti).D → Option (tyL g.to).D) : TE :=
  ⟨f, fun xs bl kk => match Jel g xs bl with
    | some x => (S x).bind fun y => match Jfv g y with
      | some (v, out) => kk v (flg g.same out)
      | none => none
    | none => none, fun xs bl => (Jel g xs bl).isSome⟩
def Jpo : ShB → Bool
  | .arr _ _ => false
  | _ => true
def Jen (g : Sig) : Bool := (List.range g.same.length).all fun k => match g.same[k]?, g.blks[k]?, g.out[k]? with
  | some true, some a, some c => Jpo a && Jpo c
  | some true, some _, none => false
  | _, _, _ => true
theorem Jig {x : TB} {s : ShB} {ls : List Lf} (h : shB x = some (s, ls)) (hb : Jpo s = true) : lnB x = 0 := by
  cases x with
  | arr w t rows => injection h with h; injection h with h1; subst h1; cases hb
  | _ => rfl
theorem Jj8 {α σ : Type} {f : α → Option (σ × List Lf)} : ∀ {xs : List α} {ss : List σ} {ls : List Lf}, shL f xs = some (ss, ls) → ∀ (k : Nat) x, xs[k]? = some x → ∃ s l, ss[k]? = some s ∧ f x = some (s, l)
  | [], _, _, _, k, x, hk => by simp at hk
  | y :: r, ss, ls, h, k, x, hk => by
    simp only [shL] at h
    split at h
    · rename_i s l q k' h1 h2
      injection h with h; injection h with h3 h4; subst h3 h4
      cases k with
      | zero => simp at hk; subst hk; exact ⟨s, l, rfl, h1⟩
      | succ k => exact Jj8 h2 k x (by simpa using hk)
    · cases h
theorem Ji3 : ∀ {same : List Bool} {out : List TB} {k : Nat} {x : TB}, (flg same out)[k]? = some (true, x) → same[k]? = some true ∧ out[k]? = some x
  | [], [], k, x, h => by simp [flg] at h
  | [], y :: l, k, x, h => by
    cases k with
    | zero => simp [flg] at h
    | succ k =>
      simp only [flg, List.getElem?_cons_succ] at h
      have := Ji3 (same := []) h
      simp at this
  | b :: r, [], k, x, h => by simp [flg] at h
  | b :: r, y :: l, k, x, h => by
    cases k with
    | zero => simp [flg] at h; obtain ⟨rfl, rfl⟩ := h; exact ⟨rfl, rfl⟩
    | succ k =>
      simp only [flg, List.getElem?_cons_succ] at h
      simpa using Ji3 h
theorem J8D {T : J1P} {f : FuncId} {g : Sig} {S : (tyL g.ti).D → Option (tyL g.to).D} (hs : Jen g = true)
    (h : ∀ x xs bl y, J11 g x = some (xs, bl) → S x = some y → ∃ v out, AF T f (xs.map (J0k (lns bl))) (bl.map (JO (lns bl))) = some (Jt (lns out) v, out.map (JO (lns out))) ∧ J0D g v out = some y) : EOk (AF T) (sigE f g S) := by
  refine ⟨fun {R xs bl kk r} hg => ?_⟩
  simp only [sigE] at hg
  split at hg
  · rename_i x hx
    obtain ⟨y, hy, hg⟩ := Option.bind_eq_some_iff.1 hg
    split at hg
    · rename_i v out hv
      obtain ⟨v', out', h1, h2⟩ := h x xs bl y (JqW hx) hy
      rw [Jof h2] at hv
      injection hv with hv; injection hv with hv1 hv2; subst hv1 hv2
      refine ⟨v', flg g.same out', ?_, fun k z hz hk => ?_, hg⟩
      · unfold J9c
        rw [J9P]
        have : (flg g.same out').map (fun x => JO (lns out') x.2) = out'.map (JO (lns out')) := by
          conv => rhs; rw [← J9P g.same out', List.map_map]
          rw [J9P]
          rfl
        rw [this]
        exact h1
      · obtain ⟨hz1, hz2⟩ := Ji3 hz
        unfold Jen at hs
        rw [List.all_eq_true] at hs
        have hs := hs k (by simpa using J7 hz1)
        unfold Jel at hx
        split at hx
        · rename_i a l c k' e1 e2
          split at hx
          · rename_i e0
            obtain ⟨sb, lb, q1, q2⟩ := Jj8 e2 k _ (List.getElem?_eq_getElem hk)
            unfold J0D at h2
            split at h2
            · rename_i a2 l2 c2 k2 e3 e4
              split at h2
              · rename_i e5
                obtain ⟨sc, lc, p1, p2⟩ := Jj8 e4 k z hz2
                rw [hz1, ← e0.2, q1, ← e5.2, p1] at hs
                simp only [Bool.and_eq_true] at hs
                rw [Jig p2 hs.2]
                unfold lns
                rw [List.getElem?_eq_getElem hk]
                exact (Jig q2 hs.1).symm
              · cases h2
            · cases h2
          · cases hx
        · cases hx
    · cases hg
  · cases hg
theorem J1f {T : J1P} {f : FuncId} {g : Sig} {fn : TFn} {S : (tyL g.ti).D → Option (tyL g.to).D} {l : List TE} (hf : T f = some (.fn (erF fn))) (hl : Jjf (AF T) l) (hs : Jen g = true)
    (h : ∀ x, onO (J11 g x) (fun y => J1w (TG.of l) fn y.1 y.2 (J0D g)) = S x) : EOk (AF T) (sigE f g S) := by
  refine J8D hs fun x xs bl y hx hy => ?_
  have h0 := h x
  rw [hx, hy] at h0
  exact Jrk (Jsn hl) hf h0
def JaC {α β : Type} (S : (α → Option β) → α → Option β) : Nat → α → Option β
  | 0 => fun _ => none
  | n + 1 => S (JaC S n)
theorem Jo5 {T : J1P} {f : FuncId} {g : Sig} {fn : TFn} {S : ((tyL g.ti).D → Option (tyL g.to).D) → (tyL g.ti).D → Option (tyL g.to).D} {l : List TE} (hf : T f = some (.fn (erF fn))) (hl : Jjf (AF T) l) (hs : Jen g = true)
    (h : ∀ r x, onO (J11 g x) (fun y => J1w (TG.of (sigE f g r :: l)) fn y.1 y.2 (J0D g)) = S r x) : ∀ n, EOk (AF T) (sigE f g (JaC S n))
  | 0 => J8D hs fun x xs bl y hx hy => by cases hy
  | n + 1 => J1f hf (l := sigE f g (JaC S n) :: l) (And.intro (Jo5 hf hl hs h n) hl) hs (h (JaC S n))
end Go.Am
end
section
namespace Go.Am
end Go.Am
end
section
namespace Go.Am
def J8u (t : Ty) : Sig := ⟨[.c (.d (.l t))], [], [.l t], .a (.c (.slr 0)), [.arr true t], [], [.l t]⟩
def JjE (e : Nat) : Opd := .c (.p (.sl e []))
def J8i (t : Ty) (bytes : Nat) : J5Q := ⟨1, 8,
  .reg false [] [⟨.mkarr t.sz (JjE t.sz), some 2, none⟩], [],
  .reg false [] [⟨.mv (.t 0), some 3, none⟩, ⟨.bin .eql .nils (.t 3) (JjE t.sz), some 4, none⟩], .t 4,
  .seq (.reg false [] [⟨.mkarr t.sz (JjE t.sz), some 2, none⟩]) .ret, .skip,
  .seq (.reg false [] [⟨.lits true t.sz 0 (zer t) [], some 5, none⟩, ⟨.mv (.t 0), some 6, none⟩, ⟨.app t.sz bytes (zer t) (.t 5) (.t 6), some 7, none⟩, ⟨.mv (.t 7), some 2, none⟩]) .ret, [.tmp 2], true⟩
theorem Jp6 {T : J1P} {f : FuncId} {t : Ty} {bytes : Nat} (hf : T f = some (.fork (J8i t bytes))) {x y : List t.D} (h : cloS bytes x = some y) :
    AF T f [.p (.sl t.sz (x.map (cel t)))] [] = some (.slr 0 0 y.length, [.arr true t.sz (y.map (cel t))]) := by
  unfold cloS at h
  split at h
  · rename_i h2
    injection h with h; subst h
    rw [Jqq _ hf]
    cases x with
    | nil =>
      have h3 : 512 * bytes ≤ 281474976710656 := by simpa [J4b] using h2
      simp [J8i, JjE, J7Y, Ja7, J5Q.af, h3]
    | cons a r =>
      simp at h2
      simp [J8i, JjE, J7Y, Ja7, J5Q.af, h2]
  · cases h
theorem JiK (t : Ty) (x : t.D) (r : List Lf) : lf1 t (⟨t, x⟩ :: r) = some (x, r) := by simp [lf1]
theorem Jp0 (t : Ty) (x : List t.D) : J11 (J8u t) x = some ([.c (.d (.l t) x)], []) := by
  have h : lf1 (.l t) [⟨.l t, x⟩] = some (x, []) := JiK (.l t) x []
  show (match mkL mkA [.c (.d (.l t))] [(⟨.l t, x⟩ : Lf)] with
    | some (xs, l) => match mkL mkB (J8u t).blks l with
      | some (bl, []) => some (xs, bl)
      | _ => none
    | none => none) = _
  simp only [mkL, mkA, mkC, h]
  rfl
theorem Jnd (t : Ty) (y : List t.D) : J0D (J8u t) (.a (.c (.slr 0))) [.arr true t y] = some y := by
  show (if (ShV.a (.c (.slr 0)) = (J8u t).res ∧ [ShB.arr true t] = (J8u t).out) then asL [.l t] [⟨.l t, y⟩] else none) = some y
  rw [if_pos ⟨rfl, rfl⟩]
  simp [asL, JbD]
  rfl
theorem Jox {T : J1P} {f : FuncId} {t : Ty} {bytes : Nat} (hf : T f = some (.fork (J8i t bytes))) : EOk (AF T) (sigE f (J8u t) (cloS bytes)) := by
  refine J8D rfl fun x xs bl y hx hy => ?_
  rw [Jp0 t x] at hx
  injection hx with hx; injection hx with h1 h2; subst h1 h2
  exact ⟨.a (.c (.slr 0)), [.arr true t y], Jp6 hf hy, Jnd t y⟩
end Go.Am
end
section
namespace Go.Am
abbrev Prm := List AV → List Blk → Option Res
def Jpu : Sig := ⟨[.c (.d .s), .c (.d (.i .i64))], [], [.s, (.i .i64)], .a (.c (.d .s)), [], [], [.s]⟩
def Jsp (x : List UInt8 × Int) : Option (List UInt8) := Ji2 x.1 x.2
theorem Jsc (x : List UInt8 × Int) : J11 Jpu x = some ([.c (.d .s x.1), .c (.d (.i .i64) x.2)], []) := rfl
theorem JqX {g : Sig} (hr : g.res = .a (.c (.d .s))) (ho : g.out = []) (ht : g.to = [.s]) (y : List UInt8) : J0D g (.a (.c (.d .s y))) [] = some (ht ▸ y) := by
  obtain ⟨a, b, c, d, e, f, t⟩ := g
  dsimp only at hr ho ht
  subst hr ho ht
  rfl
theorem Jro {T : J1P} {f : FuncId} (hf : T f = some (.prim Jji)) : EOk (AF T) (sigE f Jpu Jsp) := by
  refine J8D rfl fun x xs bl y hx hy => ?_
  rw [Jsc x] at hx
  injection hx with hx; injection hx with h1 h2; subst h1 h2
  refine ⟨.a (.c (.d .s y)), [], ?_, JqX (g := Jpu) rfl rfl rfl y⟩
  rw [JcA hf]
  show Option.map (fun r => (AV.p (.s r), [])) (Ji2 x.1 x.2) = _
  rw [show Ji2 x.1 x.2 = some y from hy]
  rfl
end Go.Am
end
section
namespace Go.Am
abbrev FT := Int × Int × Int × Int × Int × Int
abbrev DT := List (List UInt8) × Int × List Int × Bool × List FT
def J2q (x : DT) (p : Nat) (s : List UInt8) : DT := (x.1.set p s, x.2.1, x.2.2.1.filter (fun n => !(n == (p : Int))), x.2.2.2.1, x.2.2.2.2)
def Jih (l : List UInt8) (b : Nat) (m : Int) : List UInt8 := ((l.map fun x => (x.toNat : Int)).set b (bits BinOp.xor IntKind.u8 (l.getD b 0).toNat m)).map fun n => UInt8.ofNat n.toNat
def J14 (x : DT) (f : FT) : DT :=
  if f.1 = 4 then (x.1.set f.2.2.1.toNat (Jih (x.1.getD f.2.2.1.toNat []) f.2.2.2.2.1.toNat f.2.2.2.2.2), x.2)
  else if f.1 = 5 then
    if x.2.2.1.contains f.2.2.1 then x else (x.1, x.2.1, x.2.2.1.take (x.2.2.1.countP (· < f.2.2.1)) ++ f.2.2.1 :: x.2.2.1.drop (x.2.2.1.countP (· < f.2.2.1)), x.2.2.2)
  else if f.1 = 6 then (x.1, x.2.1, x.2.2.1, true, x.2.2.2.2)
  else x
structure HOk (x : DT) (f : FT) : Prop where
  len : x.1.length ≤ 1000000
  ulen : x.2.2.1.length ≤ 1000000
  sorted : f.1 = 5 → x.2.2.1.Pairwise (· ≤ ·)
  page : f.1 = 4 → 0 ≤ f.2.2.1 ∧ f.2.2.1.toNat < x.1.length
  byte : f.1 = 4 → 0 ≤ f.2.2.2.2.1 ∧ f.2.2.2.2.1.toNat < (x.1.getD f.2.2.1.toNat []).length
  mask : f.1 = 4 → 0 ≤ f.2.2.2.2.2 ∧ f.2.2.2.2.2 ≤ 255
def J2l : List FT → Int × Int
  | [] => (0, 0)
  | f :: l => if f.1 = 1 then (1, 0) else if f.1 = 2 then (2, f.2.2.2.1) else if f.1 = 3 then (3, f.2.2.2.2.1) else J2l l
def J7r (x : DT) (t : Int) (s : List UInt8) : Option DT := if 0 ≤ t ∧ t.toNat < x.1.length ∧ x.1.length ≤ 1000000 ∧ x.2.2.1.length ≤ 1000000 then some (J2q x t.toNat s) else none
theorem J8Z {x y : DT} {t : Int} {s : List UInt8} (h : J7r x t s = some y) : (0 ≤ t ∧ t.toNat < x.1.length ∧ x.1.length ≤ 1000000 ∧ x.2.2.1.length ≤ 1000000) ∧ y = J2q x t.toNat s := by
  unfold J7r at h
  split at h
  · rename_i hk; injection h with h; exact ⟨hk, h.symm⟩
  · cases h
def JhV (x : DT) (p b : Int) (s : List UInt8) : Option DT :=
  if 0 ≤ b ∧ b.toNat ≤ s.length ∧ 0 ≤ p ∧ p.toNat < x.1.length ∧ b.toNat ≤ (x.1.getD p.toNat []).length ∧ (x.1.getD p.toNat []).length = 256 then J7r x p (s.take b.toNat ++ (x.1.getD p.toNat []).drop b.toNat) else none
def Joq (e : Int × Int) (x : DT) (p : Int) (s : List UInt8) : Option DT :=
  if e.1 = 1 then some x else if e.1 = 2 then J7r x e.2 s else if e.1 = 3 then JhV x p e.2 s else J7r x p s
noncomputable def J1g (x : DT) (f : FT) : Option DT := open Classical in if HOk x f then some (J14 x f) else none
theorem J7K {x y : DT} {f : FT} (h : J1g x f = some y) : HOk x f ∧ y = J14 x f := by
  unfold J1g at h
  split at h
  · rename_i hk; injection h with h; exact ⟨hk, h.symm⟩
  · cases h
def J2f (x : DT) : List FT := x.2.2.2.2.filter fun f => f.2.1 == x.2.1 + 1
def J1X (x : DT) : DT := (x.1, x.2.1 + 1, x.2.2.1, x.2.2.2.1, x.2.2.2.2.filter fun f => !(f.2.1 == x.2.1 + 1))
noncomputable def Jbx (x : DT) (p : Int) (s : List UInt8) : Option DT := (Joq (J2l (J2f x)) (J1X x) p s).bind fun y => (J2f x).foldlM J1g y
def Jif (x : DT × Int × List UInt8) : Option DT := J7r x.1 x.2.1 x.2.2
noncomputable def Jer (u : Option Int) (x : DT × Int × List UInt8) : Option (DT × Int) := u.bind fun e =>
  if e ≠ 0 then some (([], 0, [], false, []), e)
  else if x.2.2.length ≠ 256 then some (([], 0, [], false, []), 2)
  else if x.1.2.1 = 1099511627776 then some (([], 0, [], false, []), 21)
  else if 0 ≤ x.1.2.1 ∧ x.1.2.1 < 1099511627776 ∧ x.1.2.2.2.2.length ≤ 1000000 then (Jbx x.1 x.2.1 x.2.2).map fun y => (y, 0)
  else none
def Jgh (x : List (List UInt8) × Int) : Option (List (List UInt8)) := match x.1 with
  | [l] => if 1 ≤ x.2 ∧ x.2 ≤ 1000 then some (List.replicate x.2.toNat l) else none
  | _ => none
end Go.Am
end
section
namespace Go.Am
set_option maxRecDepth 20000
abbrev J6M : FuncId := 3
abbrev J2X : FuncId := 4
abbrev J3k : FuncId := 5
abbrev J2W : FuncId := 6
abbrev J3n : FuncId := 8
abbrev J0a : FuncId := 9
abbrev J0N : FuncId := 10
abbrev J02 : FuncId := 11
abbrev J7h : FuncId := 12
abbrev J1k : FuncId := 13
abbrev i_draw_Codes_Next : FuncId := 14
abbrev J3g : FuncId := 15
abbrev JT : FuncId := 16
abbrev J5h : FuncId := 17
abbrev Jr : FuncId := 18
abbrev JC : FuncId := 19
abbrev J5A : FuncId := 20
abbrev JZ : FuncId := 21
abbrev J8x : FuncId := 22
abbrev J1c : FuncId := 23
abbrev J1p : FuncId := 24
abbrev JaV : FuncId := 25
abbrev J6L : FuncId := 26
abbrev Jbl : FuncId := 27
abbrev J7z : FuncId := 29
abbrev J0z : FuncId := 30
abbrev JbU : FuncId := 31
abbrev J1J : FuncId := 32
abbrev J95 : FuncId := 33
abbrev J1i : FuncId := 34
abbrev J51 : FuncId := 35
abbrev J29 : FuncId := 36
abbrev J0H : FuncId := 37
abbrev Ju : FuncId := 38
abbrev J23 : FuncId := 39
abbrev J4E : FuncId := 40
abbrev J15 : FuncId := 41
abbrev J3T : FuncId := 45
abbrev J3O : FuncId := 47
abbrev J38 : FuncId := 48
abbrev J8s : FuncId := 49
abbrev J0u : FuncId := 50
abbrev J9h : FuncId := 51
abbrev J0m : FuncId := 52
abbrev JW : FuncId := 53
abbrev J0V : FuncId := 54
abbrev JJ : FuncId := 55
abbrev J0X : FuncId := 56
abbrev J0t : FuncId := 57
abbrev J2a : FuncId := 58
abbrev J1T : FuncId := 59
abbrev JM : FuncId := 60
abbrev J6s : FuncId := 67
abbrev J0Q : FuncId := 68
abbrev J00 : FuncId := 69
def J6 : Ty := .pr (.i .i64) (.pr (.i .i64) (.pr (.i .i64) (.pr (.i .i64) (.pr (.i .i64) ((.i .u8))))))
abbrev J9 := Int × Int × Int × Int × Int × Int
def J3 : Ty := .pr (.l .s) (.pr (.i .i64) (.pr (.l (.i .i64)) (.pr .b ((.l J6)))))
abbrev J5 := (List (List UInt8)) × Int × (List Int) × Bool × (List J9)
def JE : Ty := .pr (.l (.i .u8)) ((.i .i64))
abbrev J4 := (List Int) × Int
def J2t : Sig := ⟨[.c (.d .s)], [], [.s], .a (.c (.d .b)), [], [], [.b]⟩
def J3r : Sig := ⟨[.dt J6], [], [J6], .tup [.dt J6, .c (.d .b)], [], [], [J6, .b]⟩
def J1x : Sig := ⟨[.dt J3, .c (.d (.i .i64))], [], [J3, (.i .i64)], .a (.c (.d .b)), [], [], [.b]⟩
def J1z : Sig := ⟨[.dt J3, .dt J6], [], [J3, J6], .a (.c (.d .b)), [], [], [.b]⟩
def J0o : Sig := ⟨[.c (.d (.l .s)), .fn J0V [] []], [], [(.l .s)], .a (.c (.d (.i .i64))), [], [], [(.i .i64)]⟩
def J0b : Sig := ⟨[.c (.d (.l .s)), .fn J0V [] []], [], [(.l .s)], .a (.c (.d .b)), [], [], [.b]⟩
def J2u : Sig := ⟨[.dt J6, .c (.ptr 0 [])], [.box J3], [J6, J3], .a (.c (.d .b)), [.box J3], [true], [.b, J3]⟩
def J05 : Sig := ⟨[.c (.d (.l J6)), .fn J0X [] [.ptr 0 []]], [.box J3], [(.l J6), J3], .a (.c (.d (.i .i64))), [.box J3], [true], [(.i .i64), J3]⟩
def JY : Sig := ⟨[.c (.d (.l J6)), .fn J0X [] [.ptr 0 []]], [.box J3], [(.l J6), J3], .a (.c (.d .b)), [.box J3], [true], [.b, J3]⟩
def J1t : Sig := ⟨[.dt J3], [], [J3], .a (.c (.d .b)), [], [], [.b]⟩
def J0r : Sig := J8u J6
def J0P : Sig := ⟨[.dt J3, .dt J6], [], [J3, J6], .tup [.dt J3, .c (.d (.i .i64))], [], [], [J3, (.i .i64)]⟩
def J24 : Sig := ⟨[.c (.d (.l .s)), .c (.d (.i .i64))], [], [(.l .s), (.i .i64)], .a (.c (.d (.l .s))), [], [], [(.l .s)]⟩
def J5X : Sig := ⟨[.c (.d .s), .c (.d (.i .i64))], [], [.s, (.i .i64)], .a (.c (.d .s)), [], [], [.s]⟩
def J2b : Sig := ⟨[.c (.d (.i .i64))], [], [(.i .i64)], .a (.c (.d (.l .s))), [], [], [(.l .s)]⟩
def J0Y : Sig := ⟨[.c (.d (.i .i64))], [], [(.i .i64)], .tup [.dt J3, .c (.d (.i .i64))], [], [], [J3, (.i .i64)]⟩
def J1S : Sig := ⟨[.dt J3, .c (.d (.i .i64))], [], [J3, (.i .i64)], .a (.c (.d (.i .i64))), [], [], [(.i .i64)]⟩
def J1B : Sig := ⟨[.c (.d (.l (.i .i64))), .c (.d (.i .i64))], [], [(.l (.i .i64)), (.i .i64)], .a (.c (.d (.i .i64))), [], [], [(.i .i64)]⟩
def J1l : Sig := ⟨[.c (.d (.l (.i .i64))), .c (.d (.i .i64))], [], [(.l (.i .i64)), (.i .i64)], .a (.c (.d .b)), [], [], [.b]⟩
def J1a : Sig := ⟨[.dt J3, .c (.d (.i .i64))], [], [J3, (.i .i64)], .tup [.c (.d .s), .c (.d (.i .i64))], [], [], [.s, (.i .i64)]⟩
def J10 : Sig := ⟨[.dt J3, .c (.d (.i .i64)), .c (.d .s)], [], [J3, (.i .i64), .s], .tup [.dt J3, .c (.d (.i .i64))], [], [], [J3, (.i .i64)]⟩
def g_draw_Codes_Next : Sig := ⟨[.c (.ptr 0 []), .c (.d (.i .i64))], [.box JE], [(.i .i64), JE], .a (.c (.d (.i .i64))), [.box JE], [true], [(.i .i64), JE]⟩
def J0j : Sig := ⟨[.c (.ptr 0 [])], [.box JE], [JE], .a (.c (.d .s)), [.box JE], [true], [.s, JE]⟩
def J2B : Sig := ⟨[.c (.ptr 0 [])], [.box JE], [JE], .a (.c (.d (.i .i64))), [.box JE], [true], [(.i .i64), JE]⟩
def J1U : Sig := ⟨[.c (.d (.l (.i .u8))), .c (.d (.i .i64))], [], [(.l (.i .u8)), (.i .i64)], .a (.c (.ptr 0 [])), [.box JE], [], [JE]⟩
def J1e : Sig := ⟨[], [], [], .a (.c (.d .b)), [], [], [.b]⟩
def J4h : Sig := ⟨[.dt J3, .dt J6], [], [J3, J6], .a (.c (.d .b)), [], [], [.b]⟩
def J4f : Sig := ⟨[.dt J3], [], [J3], .a (.c (.d .b)), [], [], [.b]⟩
def J4t : Sig := ⟨[.c (.d (.l (.i .u8)))], [], [(.l (.i .u8))], .a (.c (.d .b)), [], [], [.b]⟩
def J4W : Sig := ⟨[.c (.d (.l (.i .u8))), .c (.d (.i .u8)), .c (.d (.i .u8))], [], [(.l (.i .u8)), (.i .u8), (.i .u8)], .a (.c (.d .b)), [], [], [.b]⟩
def J8w : Sig := ⟨[.dt J3, .c (.d (.i .i64)), .c (.d .s)], [], [J3, (.i .i64), .s], .a (.dt J3), [], [], [J3]⟩
def J2p : Sig := ⟨[.dt J3, .c (.d (.i .i64)), .c (.d .s), .c (.d (.i .i64))], [], [J3, (.i .i64), .s, (.i .i64)], .tup [.dt J3, .c (.d (.i .i64))], [], [], [J3, (.i .i64)]⟩
def J4o : Sig := ⟨[.c (.d (.l (.i .u8))), .c (.d (.i .u16)), .c (.d (.i .u16))], [], [(.l (.i .u8)), (.i .u16), (.i .u16)], .a (.c (.d .b)), [], [], [.b]⟩
def J2O : Sig := ⟨[.dt J3], [], [J3], .tup [.dt J3, .c (.d (.i .i64))], [], [], [J3, (.i .i64)]⟩
def J4J : Sig := ⟨[.c (.d (.l (.i .u8))), .c (.d (.i .u8))], [], [(.l (.i .u8)), (.i .u8)], .a (.c (.d .b)), [], [], [.b]⟩
def Jd8 : TCo := .seq (.reg false [] [
  ⟨.mv (.c (vb false)), some 2, none⟩])
  (.keep [0] (.seq (.reg false [] [
  ⟨.mv (.t 0), some 3, none⟩,
  ⟨.len true (.t 3), some 4, none⟩,
  ⟨.bin .neq .plain (.t 4) (.c (vi .i64 256)), some 5, none⟩,
  ⟨.mv (.t 5), some 2, none⟩])
  (.ret)))
def J3L : TFn := ⟨1, 6, Jd8, [.tmp 2], false⟩
def JeW : TCo := .seq (.reg false [] [
  ⟨.box J6 (.t 0), some 1, none⟩,
  ⟨.newbox J6, some 2, none⟩,
  ⟨.mv (.c (vb false)), some 3, none⟩])
  (.keep [1, 2] (.seq (.reg false [] [
  ⟨.faddr 0 (.t 1), some 5, none⟩,
  ⟨.load false (.i .i64) (.t 5), some 6, none⟩,
  ⟨.faddr 1 (.t 1), some 7, none⟩,
  ⟨.load false (.i .i64) (.t 7), some 8, none⟩,
  ⟨.build J6 [(0, (.i .i64), (.t 6)), (1, (.i .i64), (.t 8))], some 9, none⟩,
  ⟨.newbox J6, some 4, none⟩,
  ⟨.store J6 (.t 4) (.t 9), none, none⟩])
  (.keep [1, 2, 4] (.seq (.seq (.reg false [] [
  ⟨.faddr 0 (.t 1), some 10, none⟩,
  ⟨.load false (.i .i64) (.t 10), some 11, none⟩])
  (.keep [1, 2, 4, 11] (.block 0 (.seq (.seq (.reg false [] [
  ⟨.bin .eql .plain (.t 11) (.c (vi .i64 1)), some 14, none⟩,
  ⟨.mv (.t 14), some 13, none⟩])
  (.keep [1, 2, 4, 11, 13] (.cond (.t 13)
  (.skip)
  (.reg false [] [
  ⟨.bin .eql .plain (.t 11) (.c (vi .i64 6)), some 15, none⟩,
  ⟨.mv (.t 15), some 13, none⟩]))))
  (.keep [1, 2, 4, 11, 13] (.cond (.t 13)
  (.skip)
  (.seq (.reg false [] [
  ⟨.bin .eql .plain (.t 11) (.c (vi .i64 2)), some 17, none⟩,
  ⟨.mv (.t 17), some 16, none⟩])
  (.keep [1, 2, 4, 11, 16] (.cond (.t 16)
  (.reg false [] [
  ⟨.faddr 3 (.t 1), some 18, none⟩,
  ⟨.load false (.i .i64) (.t 18), some 19, none⟩,
  ⟨.faddr 3 (.t 4), some 20, none⟩,
  ⟨.store (.i .i64) (.t 20) (.t 19), none, none⟩])
  (.seq (.reg false [] [
  ⟨.bin .eql .plain (.t 11) (.c (vi .i64 3)), some 22, none⟩,
  ⟨.mv (.t 22), some 21, none⟩])
  (.keep [1, 2, 4, 11, 21] (.cond (.t 21)
  (.reg false [] [
  ⟨.faddr 4 (.t 1), some 23, none⟩,
  ⟨.load false (.i .i64) (.t 23), some 24, none⟩,
  ⟨.faddr 4 (.t 4), some 25, none⟩,
  ⟨.store (.i .i64) (.t 25) (.t 24), none, none⟩])
  (.seq (.reg false [] [
  ⟨.bin .eql .plain (.t 11) (.c (vi .i64 4)), some 27, none⟩,
  ⟨.mv (.t 27), some 26, none⟩])
  (.keep [1, 2, 4, 11, 26] (.cond (.t 26)
  (.reg true [(3, 7), (5, 7), (5, 9)] [
  ⟨.faddr 2 (.t 1), some 28, none⟩,
  ⟨.load false (.i .i64) (.t 28), some 29, none⟩,
  ⟨.faddr 4 (.t 1), some 30, none⟩,
  ⟨.load false (.i .i64) (.t 30), some 31, none⟩,
  ⟨.faddr 5 (.t 1), some 32, none⟩,
  ⟨.load false (.i .u8) (.t 32), some 33, none⟩,
  ⟨.faddr 2 (.t 4), some 34, none⟩,
  ⟨.store (.i .i64) (.t 34) (.t 29), none, none⟩,
  ⟨.faddr 4 (.t 4), some 35, none⟩,
  ⟨.store (.i .i64) (.t 35) (.t 31), none, none⟩,
  ⟨.faddr 5 (.t 4), some 36, none⟩,
  ⟨.store (.i .u8) (.t 36) (.t 33), none, none⟩])
  (.seq (.reg false [] [
  ⟨.bin .eql .plain (.t 11) (.c (vi .i64 5)), some 38, none⟩,
  ⟨.mv (.t 38), some 37, none⟩])
  (.keep [1, 2, 4, 37] (.cond (.t 37)
  (.reg false [] [
  ⟨.faddr 2 (.t 1), some 39, none⟩,
  ⟨.load false (.i .i64) (.t 39), some 40, none⟩,
  ⟨.faddr 2 (.t 4), some 41, none⟩,
  ⟨.store (.i .i64) (.t 41) (.t 40), none, none⟩])
  (.seq (.reg false [] [
  ⟨.load true J6 (.t 4), some 12, none⟩,
  ⟨.store J6 (.t 2) (.t 12), none, none⟩,
  ⟨.mv (.c (vb false)), some 3, none⟩])
  (.ret))))))))))))))))))))
  (.keep [2, 4] (.seq (.reg false [] [
  ⟨.load true J6 (.t 4), some 42, none⟩,
  ⟨.store J6 (.t 2) (.t 42), none, none⟩,
  ⟨.mv (.c (vb true)), some 3, none⟩])
  (.ret)))))))
def J4y : TFn := ⟨1, 43, JeW, [.cell 2 true J6, .tmp 3], false⟩
def Jg6 : TCo := .seq (.reg false [] [
  ⟨.box J3 (.t 0), some 2, none⟩,
  ⟨.mv (.c (vb false)), some 4, none⟩])
  (.keep [1, 2] (.seq (.reg false [] [
  ⟨.mv (.t 1), some 5, none⟩,
  ⟨.bin .geq .plain (.t 5) (.c (vi .i64 0)), some 6, none⟩,
  ⟨.mv (.t 6), some 7, none⟩,
  ⟨.mv (.t 1), some 8, some (7, true)⟩,
  ⟨.faddr 0 (.t 2), some 9, some (7, true)⟩,
  ⟨.load false (.l .s) (.t 9), some 10, some (7, true)⟩,
  ⟨.len false (.t 10), some 11, some (7, true)⟩,
  ⟨.bin .lss .plain (.t 8) (.t 11), some 12, some (7, true)⟩,
  ⟨.pick (.t 7) (.t 12) (.c (vb false)), some 13, none⟩,
  ⟨.mv (.t 13), some 4, none⟩])
  (.ret)))
def J5c : TFn := ⟨2, 14, Jg6, [.tmp 4], false⟩
def JcQ : TCo := .seq (.reg false [] [
  ⟨.box J3 (.t 0), some 2, none⟩,
  ⟨.box J6 (.t 1), some 3, none⟩,
  ⟨.mv (.c (vb false)), some 4, none⟩])
  (.keep [2, 3] (.seq (.reg false [] [
  ⟨.load true J6 (.t 3), some 8, none⟩,
  ⟨.call J1T [(.t 8)] 0, some 9, none⟩,
  ⟨.mv (.t 9), some 7, none⟩,
  ⟨.extr (.t 7) 0, some 10, none⟩,
  ⟨.extr (.t 7) 1, some 11, none⟩,
  ⟨.newbox J6, some 5, none⟩,
  ⟨.store J6 (.t 5) (.t 10), none, none⟩,
  ⟨.mv (.t 11), some 6, none⟩])
  (.keep [2, 3, 5, 6] (.seq (.reg false [] [
  ⟨.mv (.t 6), some 12, none⟩,
  ⟨.mv (.t 12), some 13, none⟩,
  ⟨.load true J6 (.t 5), some 14, some (13, true)⟩,
  ⟨.load true J6 (.t 3), some 15, some (13, true)⟩,
  ⟨.bin .eql (.flat J6) (.t 14) (.t 15), some 16, some (13, true)⟩,
  ⟨.pick (.t 13) (.t 16) (.c (vb false)), some 17, none⟩,
  ⟨.mv (.t 17), some 18, none⟩,
  ⟨.faddr 1 (.t 3), some 19, some (18, true)⟩,
  ⟨.load false (.i .i64) (.t 19), some 20, some (18, true)⟩,
  ⟨.faddr 1 (.t 2), some 21, some (18, true)⟩,
  ⟨.load false (.i .i64) (.t 21), some 22, some (18, true)⟩,
  ⟨.bin .gtr .plain (.t 20) (.t 22), some 23, some (18, true)⟩,
  ⟨.pick (.t 18) (.t 23) (.c (vb false)), some 24, none⟩,
  ⟨.mv (.t 24), some 25, none⟩,
  ⟨.faddr 1 (.t 3), some 26, some (25, true)⟩,
  ⟨.load false (.i .i64) (.t 26), some 27, some (25, true)⟩,
  ⟨.bin .leq .plain (.t 27) (.c (vi .i64 1099511627776)), some 28, some (25, true)⟩,
  ⟨.pick (.t 25) (.t 28) (.c (vb false)), some 29, none⟩,
  ⟨.mv (.t 29), some 30, none⟩,
  ⟨.load true J3 (.t 2), some 31, some (30, true)⟩,
  ⟨.faddr 2 (.t 3), some 32, some (30, true)⟩,
  ⟨.load false (.i .i64) (.t 32), some 33, some (30, true)⟩,
  ⟨.call J0m [(.t 31), (.t 33)] 0, some 34, some (30, true)⟩,
  ⟨.pick (.t 30) (.t 34) (.c (vb false)), some 35, none⟩,
  ⟨.mv (.t 35), some 36, none⟩,
  ⟨.load true J3 (.t 2), some 37, some (36, true)⟩,
  ⟨.faddr 3 (.t 3), some 38, some (36, true)⟩,
  ⟨.load false (.i .i64) (.t 38), some 39, some (36, true)⟩,
  ⟨.call J0m [(.t 37), (.t 39)] 0, some 40, some (36, true)⟩,
  ⟨.pick (.t 36) (.t 40) (.c (vb false)), some 41, none⟩,
  ⟨.mv (.t 41), some 42, none⟩,
  ⟨.faddr 4 (.t 3), some 43, some (42, true)⟩,
  ⟨.load false (.i .i64) (.t 43), some 44, some (42, true)⟩,
  ⟨.bin .geq .plain (.t 44) (.c (vi .i64 0)), some 45, some (42, true)⟩,
  ⟨.pick (.t 42) (.t 45) (.c (vb false)), some 46, none⟩,
  ⟨.mv (.t 46), some 47, none⟩,
  ⟨.faddr 4 (.t 3), some 48, some (47, true)⟩,
  ⟨.load false (.i .i64) (.t 48), some 49, some (47, true)⟩,
  ⟨.bin .lss .plain (.t 49) (.c (vi .i64 256)), some 50, some (47, true)⟩,
  ⟨.pick (.t 47) (.t 50) (.c (vb false)), some 51, none⟩,
  ⟨.mv (.t 51), some 52, none⟩,
  ⟨.faddr 0 (.t 3), some 53, some (52, true)⟩,
  ⟨.load false (.i .i64) (.t 53), some 54, some (52, true)⟩,
  ⟨.bin .neq .plain (.t 54) (.c (vi .i64 4)), some 55, some (52, true)⟩,
  ⟨.mv (.t 55), some 56, some (52, true)⟩,
  ⟨.faddr 5 (.t 3), some 57, some (56, false)⟩,
  ⟨.load false (.i .u8) (.t 57), some 58, some (56, false)⟩,
  ⟨.bin .neq .plain (.t 58) (.c (vi .u8 0)), some 59, some (56, false)⟩,
  ⟨.pick (.t 56) (.c (vb true)) (.t 59), some 60, some (52, true)⟩,
  ⟨.pick (.t 52) (.t 60) (.c (vb false)), some 61, none⟩,
  ⟨.mv (.t 61), some 4, none⟩])
  (.ret)))))
def J3G : TFn := ⟨2, 62, JcQ, [.tmp 4], false⟩
def Jd9 : TCo := .seq (.reg false [] [
  ⟨.box J6 (.t 0), some 2, none⟩,
  ⟨.mv (.c (vb false)), some 3, none⟩])
  (.keep [1, 2] (.seq (.reg false [] [
  ⟨.load true J3 (.t 1), some 4, none⟩,
  ⟨.load true J6 (.t 2), some 5, none⟩,
  ⟨.call J0H [(.t 4), (.t 5)] 0, some 6, none⟩,
  ⟨.un .not (.t 6), some 7, none⟩,
  ⟨.mv (.t 7), some 3, none⟩])
  (.ret)))
def J3I : TFn := ⟨2, 8, Jd9, [.tmp 3], false⟩
def J4w : TCo := .seq (.reg false [] [
  ⟨.mv (.c (vi .i64 0)), some 4, none⟩])
  (.keep [0, 1] (.seq (.seq (.reg false [] [
  ⟨.mv (.t 0), some 6, none⟩,
  ⟨.len false (.t 6), some 7, none⟩,
  ⟨.mv (.c (vi .i64 0)), some 8, none⟩])
  (.keep [0, 1, 7, 8] (.block 0 (.loop [0, 1, 7, 8] (.seq (.reg false [] [
  ⟨.bin .lss .plain (.t 8) (.t 7), some 9, none⟩])
  (.keep [0, 1, 7, 8, 9] (.seq (.cond (.t 9)
  (.skip)
  (.exit 0))
  (.keep [0, 1, 7, 8] (.seq (.block 1 (.seq (.reg false [] [
  ⟨.mv (.t 8), some 10, none⟩,
  ⟨.mv (.t 10), some 5, none⟩])
  (.keep [0, 1, 5, 7, 8] (.seq (.reg false [] [
  ⟨.mv (.t 1), some 11, none⟩,
  ⟨.mv (.t 0), some 12, none⟩,
  ⟨.mv (.t 5), some 13, none⟩,
  ⟨.iaddr J6 (.t 12) (.t 13), some 14, none⟩,
  ⟨.load true J6 (.t 14), some 15, none⟩,
  ⟨.callv (.t 11) [(.t 15)] 0, some 16, none⟩])
  (.keep [0, 1, 5, 7, 8, 16] (.cond (.t 16)
  (.seq (.reg false [] [
  ⟨.mv (.t 5), some 17, none⟩,
  ⟨.mv (.t 17), some 4, none⟩])
  (.ret))
  (.skip)))))))
  (.keep [0, 1, 7, 8] (.reg false [] [
  ⟨.bin .add .plain (.t 8) (.c (vi .i64 1)), some 18, none⟩,
  ⟨.mv (.t 18), some 8, none⟩])))))))))))
  (.keep [] (.seq (.reg false [] [
  ⟨.mv (.c (vi .i64 (-1))), some 4, none⟩])
  (.ret)))))
def J0E : TFn := ⟨2, 19, J4w, [.tmp 4], false⟩
def J3Z : TCo := .seq (.reg false [] [
  ⟨.mv (.c (vb false)), some 4, none⟩])
  (.keep [0, 1] (.seq (.reg false [] [
  ⟨.mv (.t 0), some 5, none⟩,
  ⟨.mv (.t 1), some 6, none⟩,
  ⟨.call JM [(.t 5), (.t 6)] 0, some 7, none⟩,
  ⟨.bin .geq .plain (.t 7) (.c (vi .i64 0)), some 8, none⟩,
  ⟨.mv (.t 8), some 4, none⟩])
  (.ret)))
def J0q : TFn := ⟨2, 9, J3Z, [.tmp 4], false⟩
def J5W : TCo := .seq (.reg false [] [
  ⟨.mv (.c (vi .i64 0)), some 4, none⟩])
  (.keep [0, 1] (.seq (.seq (.reg false [] [
  ⟨.mv (.t 0), some 6, none⟩,
  ⟨.len false (.t 6), some 7, none⟩,
  ⟨.mv (.c (vi .i64 0)), some 8, none⟩])
  (.keep [0, 1, 7, 8] (.block 0 (.loop [0, 1, 7, 8] (.seq (.reg false [] [
  ⟨.bin .lss .plain (.t 8) (.t 7), some 9, none⟩])
  (.keep [0, 1, 7, 8, 9] (.seq (.cond (.t 9)
  (.skip)
  (.exit 0))
  (.keep [0, 1, 7, 8] (.seq (.block 1 (.seq (.reg false [] [
  ⟨.mv (.t 8), some 10, none⟩,
  ⟨.mv (.t 10), some 5, none⟩])
  (.keep [0, 1, 5, 7, 8] (.seq (.reg false [] [
  ⟨.mv (.t 1), some 11, none⟩,
  ⟨.mv (.t 0), some 12, none⟩,
  ⟨.mv (.t 5), some 13, none⟩,
  ⟨.iaddr .s (.t 12) (.t 13), some 14, none⟩,
  ⟨.load false .s (.t 14), some 15, none⟩,
  ⟨.callv (.t 11) [(.t 15)] 0, some 16, none⟩])
  (.keep [0, 1, 5, 7, 8, 16] (.cond (.t 16)
  (.seq (.reg false [] [
  ⟨.mv (.t 5), some 17, none⟩,
  ⟨.mv (.t 17), some 4, none⟩])
  (.ret))
  (.skip)))))))
  (.keep [0, 1, 7, 8] (.reg false [] [
  ⟨.bin .add .plain (.t 8) (.c (vi .i64 1)), some 18, none⟩,
  ⟨.mv (.t 18), some 8, none⟩])))))))))))
  (.keep [] (.seq (.reg false [] [
  ⟨.mv (.c (vi .i64 (-1))), some 4, none⟩])
  (.ret)))))
def J19 : TFn := ⟨2, 19, J5W, [.tmp 4], false⟩
def J4Z : TCo := .seq (.reg false [] [
  ⟨.mv (.c (vb false)), some 4, none⟩])
  (.keep [0, 1] (.seq (.reg false [] [
  ⟨.mv (.t 0), some 5, none⟩,
  ⟨.mv (.t 1), some 6, none⟩,
  ⟨.call J00 [(.t 5), (.t 6)] 0, some 7, none⟩,
  ⟨.bin .geq .plain (.t 7) (.c (vi .i64 0)), some 8, none⟩,
  ⟨.mv (.t 8), some 4, none⟩])
  (.ret)))
def J0R : TFn := ⟨2, 9, J4Z, [.tmp 4], false⟩
def Jgg : TCo := .seq (.reg false [] [
  ⟨.box J3 (.t 0), some 1, none⟩,
  ⟨.mv (.c (vb false)), some 2, none⟩])
  (.keep [1] (.seq (.seq (.reg false [] [
  ⟨.faddr 0 (.t 1), some 5, none⟩,
  ⟨.load false (.l .s) (.t 5), some 6, none⟩,
  ⟨.len false (.t 6), some 7, none⟩,
  ⟨.bin .lss .plain (.t 7) (.c (vi .i64 1)), some 8, none⟩,
  ⟨.mv (.t 8), some 9, none⟩,
  ⟨.faddr 0 (.t 1), some 10, some (9, false)⟩,
  ⟨.load false (.l .s) (.t 10), some 11, some (9, false)⟩,
  ⟨.len false (.t 11), some 12, some (9, false)⟩,
  ⟨.bin .gtr .plain (.t 12) (.c (vi .i64 64)), some 13, some (9, false)⟩,
  ⟨.pick (.t 9) (.c (vb true)) (.t 13), some 14, none⟩,
  ⟨.mv (.t 14), some 15, none⟩,
  ⟨.faddr 1 (.t 1), some 16, some (15, false)⟩,
  ⟨.load false (.i .i64) (.t 16), some 17, some (15, false)⟩,
  ⟨.bin .lss .plain (.t 17) (.c (vi .i64 0)), some 18, some (15, false)⟩,
  ⟨.pick (.t 15) (.c (vb true)) (.t 18), some 19, none⟩,
  ⟨.mv (.t 19), some 20, none⟩,
  ⟨.faddr 1 (.t 1), some 21, some (20, false)⟩,
  ⟨.load false (.i .i64) (.t 21), some 22, some (20, false)⟩,
  ⟨.bin .gtr .plain (.t 22) (.c (vi .i64 1099511627776)), some 23, some (20, false)⟩,
  ⟨.pick (.t 20) (.c (vb true)) (.t 23), some 24, none⟩,
  ⟨.mv (.t 24), some 25, none⟩,
  ⟨.faddr 4 (.t 1), some 26, some (25, false)⟩,
  ⟨.load false (.l J6) (.t 26), some 27, some (25, false)⟩,
  ⟨.len false (.t 27), some 28, some (25, false)⟩,
  ⟨.bin .gtr .plain (.t 28) (.c (vi .i64 64)), some 29, some (25, false)⟩,
  ⟨.pick (.t 25) (.c (vb true)) (.t 29), some 30, none⟩])
  (.keep [1, 30] (.cond (.t 30)
  (.seq (.reg false [] [
  ⟨.mv (.c (vb false)), some 2, none⟩])
  (.ret))
  (.skip))))
  (.keep [1] (.seq (.seq (.reg false [] [
  ⟨.faddr 2 (.t 1), some 31, none⟩,
  ⟨.load false (.l (.i .i64)) (.t 31), some 32, none⟩,
  ⟨.len false (.t 32), some 33, none⟩,
  ⟨.mv (.c (vi .i64 0)), some 34, none⟩])
  (.keep [1, 32, 33, 34] (.block 0 (.loop [1, 32, 33, 34] (.seq (.reg false [] [
  ⟨.bin .lss .plain (.t 34) (.t 33), some 35, none⟩])
  (.keep [1, 32, 33, 34, 35] (.seq (.cond (.t 35)
  (.skip)
  (.exit 0))
  (.keep [1, 32, 33, 34] (.seq (.block 1 (.seq (.reg false [] [
  ⟨.mv (.t 34), some 36, none⟩,
  ⟨.iaddr (.i .i64) (.t 32) (.t 34), some 37, none⟩,
  ⟨.load false (.i .i64) (.t 37), some 38, none⟩,
  ⟨.mv (.t 36), some 3, none⟩,
  ⟨.mv (.t 38), some 4, none⟩])
  (.keep [1, 3, 4, 32, 33, 34] (.seq (.reg false [] [
  ⟨.load true J3 (.t 1), some 39, none⟩,
  ⟨.mv (.t 4), some 40, none⟩,
  ⟨.call J0m [(.t 39), (.t 40)] 0, some 41, none⟩,
  ⟨.un .not (.t 41), some 42, none⟩,
  ⟨.mv (.t 42), some 43, none⟩,
  ⟨.mv (.t 3), some 44, some (43, false)⟩,
  ⟨.bin .gtr .plain (.t 44) (.c (vi .i64 0)), some 45, some (43, false)⟩,
  ⟨.mv (.t 45), some 46, some (43, false)⟩,
  ⟨.faddr 2 (.t 1), some 47, some (46, true)⟩,
  ⟨.load false (.l (.i .i64)) (.t 47), some 48, some (46, true)⟩,
  ⟨.mv (.t 3), some 49, some (46, true)⟩,
  ⟨.bin .sub .plain (.t 49) (.c (vi .i64 1)), some 50, some (46, true)⟩,
  ⟨.iaddr (.i .i64) (.t 48) (.t 50), some 51, some (46, true)⟩,
  ⟨.load false (.i .i64) (.t 51), some 52, some (46, true)⟩,
  ⟨.mv (.t 4), some 53, some (46, true)⟩,
  ⟨.bin .geq .plain (.t 52) (.t 53), some 54, some (46, true)⟩,
  ⟨.pick (.t 46) (.t 54) (.c (vb false)), some 55, some (43, false)⟩,
  ⟨.pick (.t 43) (.c (vb true)) (.t 55), some 56, none⟩])
  (.keep [1, 32, 33, 34, 56] (.cond (.t 56)
  (.seq (.reg false [] [
  ⟨.mv (.c (vb false)), some 2, none⟩])
  (.ret))
  (.skip)))))))
  (.keep [1, 32, 33, 34] (.reg false [] [
  ⟨.bin .add .plain (.t 34) (.c (vi .i64 1)), some 57, none⟩,
  ⟨.mv (.t 57), some 34, none⟩])))))))))))
  (.keep [1] (.seq (.reg false [] [
  ⟨.faddr 0 (.t 1), some 58, none⟩,
  ⟨.load false (.l .s) (.t 58), some 59, none⟩,
  ⟨.call JW [(.t 59), (.c (.a (.fn J0V [] [])))] 0, some 60, none⟩,
  ⟨.un .not (.t 60), some 61, none⟩,
  ⟨.mv (.t 61), some 62, none⟩,
  ⟨.faddr 4 (.t 1), some 63, some (62, true)⟩,
  ⟨.load false (.l J6) (.t 63), some 64, some (62, true)⟩,
  ⟨.mkfn J0X [] [(.t 1)], some 65, some (62, true)⟩,
  ⟨.call JJ [(.t 64), (.t 65)] 0, some 66, some (62, true)⟩,
  ⟨.un .not (.t 66), some 67, some (62, true)⟩,
  ⟨.pick (.t 62) (.t 67) (.c (vb false)), some 68, none⟩,
  ⟨.mv (.t 68), some 2, none⟩])
  (.ret)))))))
def J5f : TFn := ⟨1, 69, Jgg, [.tmp 2], false⟩
def Jf8 : TCo := .seq (.reg false [] [
  ⟨.box J3 (.t 0), some 2, none⟩,
  ⟨.box J6 (.t 1), some 3, none⟩,
  ⟨.newbox J3, some 4, none⟩,
  ⟨.mv (.c (vi .i64 0)), some 5, none⟩])
  (.keep [2, 3, 4] (.seq (.block 0 (.seq (.reg false [] [
  ⟨.load true J3 (.t 2), some 7, none⟩,
  ⟨.call J0z [(.t 7)] 0, some 8, none⟩,
  ⟨.un .not (.t 8), some 9, none⟩,
  ⟨.mv (.t 9), some 6, none⟩])
  (.keep [2, 3, 4, 6] (.cond (.t 6)
  (.seq (.reg false [] [
  ⟨.build J3 [], some 10, none⟩,
  ⟨.store J3 (.t 4) (.t 10), none, none⟩,
  ⟨.mv (.c (vi .i64 15)), some 5, none⟩])
  (.ret))
  (.seq (.reg false [] [
  ⟨.load true J3 (.t 2), some 12, none⟩,
  ⟨.load true J6 (.t 3), some 13, none⟩,
  ⟨.call J0H [(.t 12), (.t 13)] 0, some 14, none⟩,
  ⟨.un .not (.t 14), some 15, none⟩,
  ⟨.mv (.t 15), some 11, none⟩])
  (.keep [2, 3, 4, 11] (.cond (.t 11)
  (.seq (.reg false [] [
  ⟨.build J3 [], some 16, none⟩,
  ⟨.store J3 (.t 4) (.t 16), none, none⟩,
  ⟨.mv (.c (vi .i64 1)), some 5, none⟩])
  (.ret))
  (.seq (.reg false [] [
  ⟨.faddr 4 (.t 2), some 18, none⟩,
  ⟨.load false (.l J6) (.t 18), some 19, none⟩,
  ⟨.len false (.t 19), some 20, none⟩,
  ⟨.bin .eql .plain (.t 20) (.c (vi .i64 64)), some 21, none⟩,
  ⟨.mv (.t 21), some 17, none⟩])
  (.keep [2, 3, 4, 17] (.cond (.t 17)
  (.seq (.reg false [] [
  ⟨.build J3 [], some 22, none⟩,
  ⟨.store J3 (.t 4) (.t 22), none, none⟩,
  ⟨.mv (.c (vi .i64 21)), some 5, none⟩])
  (.ret))
  (.skip)))))))))))
  (.keep [2, 3, 4] (.seq (.reg true [(2, 3), (1, 4), (2, 4)] [
  ⟨.faddr 4 (.t 2), some 23, none⟩,
  ⟨.load false (.l J6) (.t 23), some 24, none⟩,
  ⟨.call Ju [(.t 24)] 1, some 25, none⟩,
  ⟨.load true J6 (.t 3), some 26, none⟩,
  ⟨.lits false J6 1 [(0, (.t 26))], some 27, none⟩,
  ⟨.app J6 48 (.t 25) (.t 27), some 28, none⟩,
  ⟨.faddr 4 (.t 2), some 29, none⟩,
  ⟨.store (.l J6) (.t 29) (.t 28), none, none⟩])
  (.keep [2, 4] (.seq (.reg false [] [
  ⟨.load true J3 (.t 2), some 30, none⟩,
  ⟨.store J3 (.t 4) (.t 30), none, none⟩,
  ⟨.mv (.c (vi .i64 0)), some 5, none⟩])
  (.ret)))))))
def J4x : TFn := ⟨2, 31, Jf8, [.cell 4 true J3, .tmp 5], false⟩
def Jg8 : TCo := .seq (.reg false [] [
  ⟨.mv (.c (vl .s [])), some 2, none⟩])
  (.keep [0] (.seq (.reg false [] [
  ⟨.call J2a [(.c (vs [0])), (.c (vi .i64 256))] 0, some 3, none⟩,
  ⟨.lits false .s 1 [(0, (.t 3))], some 4, none⟩,
  ⟨.mv (.t 0), some 5, none⟩,
  ⟨.call J0t [(.t 4), (.t 5)] 0, some 6, none⟩,
  ⟨.mv (.t 6), some 2, none⟩])
  (.ret)))
def J5b : TFn := ⟨1, 7, Jg8, [.tmp 2], false⟩
def Ji0 : TCo := .seq (.reg false [] [
  ⟨.newbox J3, some 2, none⟩,
  ⟨.mv (.c (vi .i64 0)), some 3, none⟩])
  (.keep [0, 2] (.seq (.seq (.reg false [] [
  ⟨.mv (.t 0), some 4, none⟩,
  ⟨.bin .lss .plain (.t 4) (.c (vi .i64 1)), some 5, none⟩,
  ⟨.mv (.t 5), some 6, none⟩,
  ⟨.mv (.t 0), some 7, some (6, false)⟩,
  ⟨.bin .gtr .plain (.t 7) (.c (vi .i64 64)), some 8, some (6, false)⟩,
  ⟨.pick (.t 6) (.c (vb true)) (.t 8), some 9, none⟩])
  (.keep [0, 2, 9] (.cond (.t 9)
  (.seq (.reg false [] [
  ⟨.build J3 [], some 10, none⟩,
  ⟨.store J3 (.t 2) (.t 10), none, none⟩,
  ⟨.mv (.c (vi .i64 1)), some 3, none⟩])
  (.ret))
  (.skip))))
  (.keep [0, 2] (.seq (.reg false [] [
  ⟨.mv (.t 0), some 11, none⟩,
  ⟨.call J1i [(.t 11)] 0, some 12, none⟩,
  ⟨.build J3 [(0, (.l .s), (.t 12))], some 13, none⟩,
  ⟨.store J3 (.t 2) (.t 13), none, none⟩,
  ⟨.mv (.c (vi .i64 0)), some 3, none⟩])
  (.ret)))))
def J6m : TFn := ⟨1, 14, Ji0, [.cell 2 true J3, .tmp 3], false⟩
def Jf0 : TCo := .seq (.reg false [] [
  ⟨.box J3 (.t 0), some 2, none⟩,
  ⟨.mv (.c (vi .i64 0)), some 4, none⟩])
  (.keep [1, 2] (.seq (.block 0 (.seq (.reg false [] [
  ⟨.load true J3 (.t 2), some 6, none⟩,
  ⟨.call J0z [(.t 6)] 0, some 7, none⟩,
  ⟨.un .not (.t 7), some 8, none⟩,
  ⟨.mv (.t 8), some 5, none⟩])
  (.keep [1, 2, 5] (.cond (.t 5)
  (.seq (.reg false [] [
  ⟨.mv (.c (vi .i64 15)), some 4, none⟩])
  (.ret))
  (.seq (.reg false [] [
  ⟨.faddr 3 (.t 2), some 10, none⟩,
  ⟨.load false .b (.t 10), some 11, none⟩,
  ⟨.mv (.t 11), some 9, none⟩])
  (.keep [1, 2, 9] (.cond (.t 9)
  (.seq (.reg false [] [
  ⟨.mv (.c (vi .i64 10)), some 4, none⟩])
  (.ret))
  (.seq (.reg false [] [
  ⟨.load true J3 (.t 2), some 13, none⟩,
  ⟨.mv (.t 1), some 14, none⟩,
  ⟨.call J0m [(.t 13), (.t 14)] 0, some 15, none⟩,
  ⟨.un .not (.t 15), some 16, none⟩,
  ⟨.mv (.t 16), some 12, none⟩])
  (.keep [12] (.cond (.t 12)
  (.seq (.reg false [] [
  ⟨.mv (.c (vi .i64 1)), some 4, none⟩])
  (.ret))
  (.skip)))))))))))
  (.keep [] (.seq (.reg false [] [
  ⟨.mv (.c (vi .i64 0)), some 4, none⟩])
  (.ret)))))
def J4A : TFn := ⟨2, 17, Jf0, [.tmp 4], false⟩
def J9j : TCo := .seq (.reg false [] [
  ⟨.mv (.c (vi .i64 0)), some 4, none⟩])
  (.keep [0, 1] (.seq (.seq (.reg false [] [
  ⟨.mv (.t 0), some 6, none⟩,
  ⟨.len false (.t 6), some 7, none⟩,
  ⟨.mv (.c (vi .i64 0)), some 8, none⟩])
  (.keep [0, 1, 7, 8] (.block 0 (.loop [0, 1, 7, 8] (.seq (.reg false [] [
  ⟨.bin .lss .plain (.t 8) (.t 7), some 9, none⟩])
  (.keep [0, 1, 7, 8, 9] (.seq (.cond (.t 9)
  (.skip)
  (.exit 0))
  (.keep [0, 1, 7, 8] (.seq (.block 1 (.seq (.reg false [] [
  ⟨.mv (.t 8), some 10, none⟩,
  ⟨.mv (.t 10), some 5, none⟩])
  (.keep [0, 1, 5, 7, 8] (.seq (.reg false [] [
  ⟨.mv (.t 1), some 11, none⟩,
  ⟨.mv (.t 0), some 12, none⟩,
  ⟨.mv (.t 5), some 13, none⟩,
  ⟨.iaddr (.i .i64) (.t 12) (.t 13), some 14, none⟩,
  ⟨.load false (.i .i64) (.t 14), some 15, none⟩,
  ⟨.bin .eql .plain (.t 11) (.t 15), some 16, none⟩])
  (.keep [0, 1, 5, 7, 8, 16] (.cond (.t 16)
  (.seq (.reg false [] [
  ⟨.mv (.t 5), some 17, none⟩,
  ⟨.mv (.t 17), some 4, none⟩])
  (.ret))
  (.skip)))))))
  (.keep [0, 1, 7, 8] (.reg false [] [
  ⟨.bin .add .plain (.t 8) (.c (vi .i64 1)), some 18, none⟩,
  ⟨.mv (.t 18), some 8, none⟩])))))))))))
  (.keep [] (.seq (.reg false [] [
  ⟨.mv (.c (vi .i64 (-1))), some 4, none⟩])
  (.ret)))))
def J2d : TFn := ⟨2, 19, J9j, [.tmp 4], false⟩
def J7G : TCo := .seq (.reg false [] [
  ⟨.mv (.c (vb false)), some 4, none⟩])
  (.keep [0, 1] (.seq (.reg false [] [
  ⟨.mv (.t 0), some 5, none⟩,
  ⟨.mv (.t 1), some 6, none⟩,
  ⟨.call J0Q [(.t 5), (.t 6)] 0, some 7, none⟩,
  ⟨.bin .geq .plain (.t 7) (.c (vi .i64 0)), some 8, none⟩,
  ⟨.mv (.t 8), some 4, none⟩])
  (.ret)))
def J1O : TFn := ⟨2, 9, J7G, [.tmp 4], false⟩
def Jhg : TCo := .seq (.reg false [] [
  ⟨.box J3 (.t 0), some 2, none⟩,
  ⟨.mv (.c (vs [])), some 4, none⟩,
  ⟨.mv (.c (vi .i64 0)), some 5, none⟩])
  (.keep [1, 2] (.seq (.seq (.reg false [] [
  ⟨.load true J3 (.t 2), some 7, none⟩,
  ⟨.mv (.t 1), some 8, none⟩,
  ⟨.call J15 [(.t 7), (.t 8)] 0, some 9, none⟩,
  ⟨.mv (.t 9), some 6, none⟩])
  (.keep [1, 2, 6] (.seq (.reg false [] [
  ⟨.mv (.t 6), some 10, none⟩,
  ⟨.bin .neq .plain (.t 10) (.c (vi .i64 0)), some 11, none⟩])
  (.keep [1, 2, 6, 11] (.cond (.t 11)
  (.seq (.reg false [] [
  ⟨.mv (.t 6), some 12, none⟩,
  ⟨.mv (.c (vs [])), some 4, none⟩,
  ⟨.mv (.t 12), some 5, none⟩])
  (.ret))
  (.skip))))))
  (.keep [1, 2] (.seq (.seq (.reg false [] [
  ⟨.faddr 2 (.t 2), some 13, none⟩,
  ⟨.load false (.l (.i .i64)) (.t 13), some 14, none⟩,
  ⟨.mv (.t 1), some 15, none⟩,
  ⟨.call J0u [(.t 14), (.t 15)] 0, some 16, none⟩])
  (.keep [1, 2, 16] (.cond (.t 16)
  (.seq (.reg false [] [
  ⟨.mv (.c (vs [])), some 4, none⟩,
  ⟨.mv (.c (vi .i64 11)), some 5, none⟩])
  (.ret))
  (.skip))))
  (.keep [1, 2] (.seq (.reg false [] [
  ⟨.faddr 0 (.t 2), some 17, none⟩,
  ⟨.load false (.l .s) (.t 17), some 18, none⟩,
  ⟨.mv (.t 1), some 19, none⟩,
  ⟨.iaddr .s (.t 18) (.t 19), some 20, none⟩,
  ⟨.load false .s (.t 20), some 21, none⟩,
  ⟨.mv (.t 21), some 4, none⟩,
  ⟨.mv (.c (vi .i64 0)), some 5, none⟩])
  (.ret)))))))
def J5F : TFn := ⟨2, 22, Jhg, [.tmp 4, .tmp 5], false⟩
def Jd3 : TCo := .seq (.reg false [] [
  ⟨.mv (.c (vi .i64 0)), some 4, none⟩])
  (.keep [0, 1] (.seq (.seq (.reg true [] [
  ⟨.mv (.t 0), some 6, none⟩,
  ⟨.nilchk (.t 6), some 7, none⟩,
  ⟨.faddr 1 (.t 7), some 8, none⟩,
  ⟨.load false (.i .i64) (.t 8), some 9, none⟩,
  ⟨.mv (.t 0), some 10, none⟩,
  ⟨.nilchk (.t 10), some 11, none⟩,
  ⟨.faddr 0 (.t 11), some 12, none⟩,
  ⟨.load false (.l (.i .u8)) (.t 12), some 13, none⟩,
  ⟨.len false (.t 13), some 14, none⟩,
  ⟨.bin .geq .plain (.t 9) (.t 14), some 15, none⟩,
  ⟨.mv (.t 15), some 16, none⟩,
  ⟨.mv (.t 1), some 17, some (16, false)⟩,
  ⟨.bin .lss .plain (.t 17) (.c (vi .i64 1)), some 18, some (16, false)⟩,
  ⟨.pick (.t 16) (.c (vb true)) (.t 18), some 19, none⟩])
  (.keep [0, 1, 19] (.cond (.t 19)
  (.seq (.reg false [] [
  ⟨.mv (.c (vi .i64 0)), some 4, none⟩])
  (.ret))
  (.skip))))
  (.keep [0, 1] (.seq (.reg true [] [
  ⟨.mv (.t 0), some 20, none⟩,
  ⟨.nilchk (.t 20), some 21, none⟩,
  ⟨.faddr 0 (.t 21), some 22, none⟩,
  ⟨.load false (.l (.i .u8)) (.t 22), some 23, none⟩,
  ⟨.mv (.t 0), some 24, none⟩,
  ⟨.nilchk (.t 24), some 25, none⟩,
  ⟨.faddr 1 (.t 25), some 26, none⟩,
  ⟨.load false (.i .i64) (.t 26), some 27, none⟩,
  ⟨.iaddr (.i .u8) (.t 23) (.t 27), some 28, none⟩,
  ⟨.load false (.i .u8) (.t 28), some 29, none⟩,
  ⟨.conv (.int .i64) (.t 29), some 30, none⟩,
  ⟨.mv (.t 30), some 5, none⟩])
  (.keep [0, 1, 5] (.seq (.reg false [] [
  ⟨.mv (.t 0), some 31, none⟩,
  ⟨.nilchk (.t 31), some 32, none⟩,
  ⟨.faddr 1 (.t 32), some 33, none⟩,
  ⟨.load false (.i .i64) (.t 33), some 34, none⟩,
  ⟨.bin .add .plain (.t 34) (.c (vi .i64 1)), some 35, none⟩,
  ⟨.nilchk (.t 31), some 36, none⟩,
  ⟨.faddr 1 (.t 36), some 37, none⟩,
  ⟨.store (.i .i64) (.t 37) (.t 35), none, none⟩])
  (.keep [0, 1, 5] (.seq (.seq (.reg false [] [
  ⟨.mv (.t 1), some 38, none⟩,
  ⟨.bin .gtr .plain (.t 38) (.c (vi .i64 256)), some 39, none⟩])
  (.keep [0, 1, 5, 39] (.cond (.t 39)
  (.seq (.reg false [] [
  ⟨.mv (.t 5), some 40, none⟩,
  ⟨.bin .mul .plain (.c (vi .i64 256)) (.t 40), some 41, none⟩,
  ⟨.mv (.t 0), some 42, none⟩,
  ⟨.call i_draw_Codes_Next [(.t 42), (.c (vi .i64 256))] 0, some 43, none⟩,
  ⟨.bin .add .plain (.t 41) (.t 43), some 44, none⟩,
  ⟨.mv (.t 1), some 45, none⟩,
  ⟨.bin .rem .plain (.t 44) (.t 45), some 46, none⟩,
  ⟨.mv (.t 46), some 4, none⟩])
  (.ret))
  (.skip))))
  (.keep [1, 5] (.seq (.reg false [] [
  ⟨.mv (.t 5), some 47, none⟩,
  ⟨.mv (.t 1), some 48, none⟩,
  ⟨.bin .rem .plain (.t 47) (.t 48), some 49, none⟩,
  ⟨.mv (.t 49), some 4, none⟩])
  (.ret)))))))))))
def J3M : TFn := ⟨2, 50, Jd3, [.tmp 4], false⟩
def JbI : TCo := .seq (.reg false [] [
  ⟨.mv (.c (vs [])), some 2, none⟩])
  (.keep [0] (.seq (.reg false [] [
  ⟨.mkslice true (.i .u8) 1 (.c (vi .i64 256)) (.c (vi .i64 256)), some 6, none⟩,
  ⟨.mv (.t 6), some 3, none⟩])
  (.keep [0, 3] (.seq (.reg false [] [
  ⟨.mv (.t 0), some 7, none⟩,
  ⟨.call i_draw_Codes_Next [(.t 7), (.c (vi .i64 256))] 0, some 8, none⟩,
  ⟨.conv (.int .u8) (.t 8), some 9, none⟩,
  ⟨.mv (.t 9), some 4, none⟩])
  (.keep [0, 3, 4] (.seq (.seq (.reg false [] [
  ⟨.mv (.c (vi .i64 0)), some 5, none⟩])
  (.keep [0, 3, 4, 5] (.block 0 (.loop [0, 3, 4, 5] (.seq (.seq (.reg false [] [
  ⟨.mv (.t 5), some 10, none⟩,
  ⟨.mv (.t 3), some 11, none⟩,
  ⟨.len false (.t 11), some 12, none⟩,
  ⟨.bin .lss .plain (.t 10) (.t 12), some 13, none⟩])
  (.keep [0, 3, 4, 5, 13] (.cond (.t 13)
  (.skip)
  (.exit 0))))
  (.keep [0, 3, 4, 5] (.seq (.block 1 (.reg false [] [
  ⟨.mv (.t 3), some 16, none⟩,
  ⟨.mv (.t 5), some 17, none⟩,
  ⟨.mv (.t 4), some 18, none⟩,
  ⟨.iaddr (.i .u8) (.t 16) (.t 17), some 19, none⟩,
  ⟨.store (.i .u8) (.t 19) (.t 18), none, none⟩]))
  (.keep [0, 3, 4, 5] (.reg false [] [
  ⟨.mv (.t 5), some 14, none⟩,
  ⟨.bin .add .plain (.t 14) (.c (vi .i64 1)), some 15, none⟩,
  ⟨.mv (.t 15), some 5, none⟩])))))))))
  (.keep [0, 3] (.seq (.reg false [] [
  ⟨.mv (.t 3), some 20, none⟩,
  ⟨.mv (.t 0), some 21, none⟩,
  ⟨.call i_draw_Codes_Next [(.t 21), (.c (vi .i64 256))] 0, some 22, none⟩,
  ⟨.mv (.t 0), some 23, none⟩,
  ⟨.call i_draw_Codes_Next [(.t 23), (.c (vi .i64 256))] 0, some 24, none⟩,
  ⟨.conv (.int .u8) (.t 24), some 25, none⟩,
  ⟨.iaddr (.i .u8) (.t 20) (.t 22), some 26, none⟩,
  ⟨.store (.i .u8) (.t 26) (.t 25), none, none⟩])
  (.keep [3] (.seq (.reg false [] [
  ⟨.mv (.t 3), some 27, none⟩,
  ⟨.conv .toStr (.t 27), some 28, none⟩,
  ⟨.mv (.t 28), some 2, none⟩])
  (.ret)))))))))))
def J3o : TFn := ⟨1, 29, JbI, [.tmp 2], false⟩
def JdA : TCo := .seq (.reg false [] [
  ⟨.mv (.c (vi .i64 0)), some 2, none⟩])
  (.keep [0] (.seq (.seq (.reg false [] [
  ⟨.mv (.t 0), some 3, none⟩,
  ⟨.call i_draw_Codes_Next [(.t 3), (.c (vi .i64 10))] 0, some 4, none⟩])
  (.keep [0, 4] (.block 0 (.seq (.reg false [] [
  ⟨.bin .eql .plain (.t 4) (.c (vi .i64 0)), some 6, none⟩,
  ⟨.mv (.t 6), some 5, none⟩])
  (.keep [0, 4, 5] (.cond (.t 5)
  (.seq (.reg false [] [
  ⟨.mv (.t 0), some 7, none⟩,
  ⟨.call i_draw_Codes_Next [(.t 7), (.c (vi .i64 3))] 0, some 8, none⟩,
  ⟨.bin .sub .plain (.c (vi .i64 (-1))) (.t 8), some 9, none⟩,
  ⟨.mv (.t 9), some 2, none⟩])
  (.ret))
  (.seq (.reg false [] [
  ⟨.bin .eql .plain (.t 4) (.c (vi .i64 1)), some 11, none⟩,
  ⟨.mv (.t 11), some 10, none⟩])
  (.keep [0, 10] (.cond (.t 10)
  (.seq (.reg false [] [
  ⟨.lits false (.i .i64) 16 [(0, (.c (vi .i64 9223372036854775807))), (1, (.c (vi .i64 (-9223372036854775808)))), (2, (.c (vi .i64 1099511627776))), (3, (.c (vi .i64 1099511627777))), (4, (.c (vi .i64 1073741824))), (5, (.c (vi .i64 1073741825))), (6, (.c (vi .i64 64))), (7, (.c (vi .i64 63))), (8, (.c (vi .i64 16))), (9, (.c (vi .i64 15))), (10, (.c (vi .i64 256))), (11, (.c (vi .i64 255))), (12, (.c (vi .i64 4294967296))), (13, (.c (vi .i64 65536))), (14, (.c (vi .i64 256))), (15, (.c (vi .i64 255)))], some 12, none⟩,
  ⟨.mv (.t 0), some 13, none⟩,
  ⟨.call i_draw_Codes_Next [(.t 13), (.c (vi .i64 16))] 0, some 14, none⟩,
  ⟨.iaddr (.i .i64) (.t 12) (.t 14), some 15, none⟩,
  ⟨.load false (.i .i64) (.t 15), some 16, none⟩,
  ⟨.mv (.t 16), some 2, none⟩])
  (.ret))
  (.skip))))))))))
  (.keep [0] (.seq (.reg false [] [
  ⟨.mv (.t 0), some 17, none⟩,
  ⟨.call i_draw_Codes_Next [(.t 17), (.c (vi .i64 20))] 0, some 18, none⟩,
  ⟨.mv (.t 18), some 2, none⟩])
  (.ret)))))
def J8v : TFn := ⟨1, 19, JdA, [.tmp 2], false⟩
def Jbs : TCo := .seq (.reg false [] [
  ⟨.newbox J6, some 6, none⟩])
  (.keep [0, 1, 2, 6] (.seq (.reg false [] [
  ⟨.mv (.t 0), some 8, none⟩,
  ⟨.call i_draw_Codes_Next [(.t 8), (.c (vi .i64 6))] 0, some 9, none⟩,
  ⟨.bin .add .plain (.c (vi .i64 1)) (.t 9), some 10, none⟩,
  ⟨.mv (.t 2), some 11, none⟩,
  ⟨.bin .add .plain (.t 11) (.c (vi .i64 1)), some 12, none⟩,
  ⟨.mv (.t 0), some 13, none⟩,
  ⟨.call i_draw_Codes_Next [(.t 13), (.c (vi .i64 6))] 0, some 14, none⟩,
  ⟨.bin .add .plain (.t 12) (.t 14), some 15, none⟩,
  ⟨.build J6 [(0, (.i .i64), (.t 10)), (1, (.i .i64), (.t 15))], some 16, none⟩,
  ⟨.newbox J6, some 7, none⟩,
  ⟨.store J6 (.t 7) (.t 16), none, none⟩])
  (.keep [0, 1, 6, 7] (.seq (.seq (.reg false [] [
  ⟨.faddr 0 (.t 7), some 17, none⟩,
  ⟨.load false (.i .i64) (.t 17), some 18, none⟩])
  (.keep [0, 1, 6, 7, 18] (.block 0 (.seq (.reg false [] [
  ⟨.bin .eql .plain (.t 18) (.c (vi .i64 2)), some 20, none⟩,
  ⟨.mv (.t 20), some 19, none⟩])
  (.keep [0, 1, 6, 7, 18, 19] (.cond (.t 19)
  (.reg false [] [
  ⟨.mv (.t 0), some 21, none⟩,
  ⟨.mv (.t 1), some 22, none⟩,
  ⟨.call i_draw_Codes_Next [(.t 21), (.t 22)] 0, some 23, none⟩,
  ⟨.faddr 3 (.t 7), some 24, none⟩,
  ⟨.store (.i .i64) (.t 24) (.t 23), none, none⟩])
  (.seq (.reg false [] [
  ⟨.bin .eql .plain (.t 18) (.c (vi .i64 3)), some 26, none⟩,
  ⟨.mv (.t 26), some 25, none⟩])
  (.keep [0, 1, 6, 7, 18, 25] (.cond (.t 25)
  (.reg false [] [
  ⟨.mv (.t 0), some 27, none⟩,
  ⟨.call i_draw_Codes_Next [(.t 27), (.c (vi .i64 256))] 0, some 28, none⟩,
  ⟨.faddr 4 (.t 7), some 29, none⟩,
  ⟨.store (.i .i64) (.t 29) (.t 28), none, none⟩])
  (.seq (.reg false [] [
  ⟨.bin .eql .plain (.t 18) (.c (vi .i64 4)), some 31, none⟩,
  ⟨.mv (.t 31), some 30, none⟩])
  (.keep [0, 1, 6, 7, 18, 30] (.cond (.t 30)
  (.reg false [] [
  ⟨.mv (.t 0), some 32, none⟩,
  ⟨.mv (.t 1), some 33, none⟩,
  ⟨.call i_draw_Codes_Next [(.t 32), (.t 33)] 0, some 34, none⟩,
  ⟨.mv (.t 0), some 35, none⟩,
  ⟨.call i_draw_Codes_Next [(.t 35), (.c (vi .i64 256))] 0, some 36, none⟩,
  ⟨.mv (.t 0), some 37, none⟩,
  ⟨.call i_draw_Codes_Next [(.t 37), (.c (vi .i64 255))] 0, some 38, none⟩,
  ⟨.bin .add .plain (.c (vi .i64 1)) (.t 38), some 39, none⟩,
  ⟨.conv (.int .u8) (.t 39), some 40, none⟩,
  ⟨.faddr 2 (.t 7), some 41, none⟩,
  ⟨.store (.i .i64) (.t 41) (.t 34), none, none⟩,
  ⟨.faddr 4 (.t 7), some 42, none⟩,
  ⟨.store (.i .i64) (.t 42) (.t 36), none, none⟩,
  ⟨.faddr 5 (.t 7), some 43, none⟩,
  ⟨.store (.i .u8) (.t 43) (.t 40), none, none⟩])
  (.seq (.reg false [] [
  ⟨.bin .eql .plain (.t 18) (.c (vi .i64 5)), some 45, none⟩,
  ⟨.mv (.t 45), some 44, none⟩])
  (.keep [0, 1, 6, 7, 44] (.cond (.t 44)
  (.reg false [] [
  ⟨.mv (.t 0), some 46, none⟩,
  ⟨.mv (.t 1), some 47, none⟩,
  ⟨.call i_draw_Codes_Next [(.t 46), (.t 47)] 0, some 48, none⟩,
  ⟨.faddr 2 (.t 7), some 49, none⟩,
  ⟨.store (.i .i64) (.t 49) (.t 48), none, none⟩])
  (.skip))))))))))))))))
  (.keep [0, 6, 7] (.seq (.seq (.reg false [] [
  ⟨.mv (.t 0), some 50, none⟩,
  ⟨.call i_draw_Codes_Next [(.t 50), (.c (vi .i64 16))] 0, some 51, none⟩])
  (.keep [0, 6, 7, 51] (.block 1 (.seq (.reg false [] [
  ⟨.bin .eql .plain (.t 51) (.c (vi .i64 12)), some 53, none⟩,
  ⟨.mv (.t 53), some 52, none⟩])
  (.keep [0, 6, 7, 51, 52] (.cond (.t 52)
  (.reg false [] [
  ⟨.mv (.t 0), some 54, none⟩,
  ⟨.call J29 [(.t 54)] 0, some 55, none⟩,
  ⟨.faddr 1 (.t 7), some 56, none⟩,
  ⟨.store (.i .i64) (.t 56) (.t 55), none, none⟩])
  (.seq (.reg false [] [
  ⟨.bin .eql .plain (.t 51) (.c (vi .i64 13)), some 58, none⟩,
  ⟨.mv (.t 58), some 57, none⟩])
  (.keep [0, 6, 7, 51, 57] (.cond (.t 57)
  (.reg false [] [
  ⟨.mv (.t 0), some 59, none⟩,
  ⟨.call J29 [(.t 59)] 0, some 60, none⟩,
  ⟨.faddr 2 (.t 7), some 61, none⟩,
  ⟨.store (.i .i64) (.t 61) (.t 60), none, none⟩,
  ⟨.faddr 5 (.t 7), some 62, none⟩,
  ⟨.store (.i .u8) (.t 62) (.c (vi .u8 0)), none, none⟩])
  (.seq (.reg false [] [
  ⟨.bin .eql .plain (.t 51) (.c (vi .i64 14)), some 64, none⟩,
  ⟨.mv (.t 64), some 63, none⟩])
  (.keep [0, 6, 7, 51, 63] (.cond (.t 63)
  (.reg false [] [
  ⟨.mv (.t 0), some 65, none⟩,
  ⟨.call J29 [(.t 65)] 0, some 66, none⟩,
  ⟨.mv (.t 0), some 67, none⟩,
  ⟨.call J29 [(.t 67)] 0, some 68, none⟩,
  ⟨.faddr 3 (.t 7), some 69, none⟩,
  ⟨.store (.i .i64) (.t 69) (.t 66), none, none⟩,
  ⟨.faddr 4 (.t 7), some 70, none⟩,
  ⟨.store (.i .i64) (.t 70) (.t 68), none, none⟩])
  (.seq (.reg false [] [
  ⟨.bin .eql .plain (.t 51) (.c (vi .i64 15)), some 72, none⟩,
  ⟨.mv (.t 72), some 71, none⟩])
  (.keep [0, 6, 7, 71] (.cond (.t 71)
  (.reg false [] [
  ⟨.mv (.t 0), some 73, none⟩,
  ⟨.call i_draw_Codes_Next [(.t 73), (.c (vi .i64 9))] 0, some 74, none⟩,
  ⟨.bin .sub .plain (.t 74) (.c (vi .i64 1)), some 75, none⟩,
  ⟨.faddr 0 (.t 7), some 76, none⟩,
  ⟨.store (.i .i64) (.t 76) (.t 75), none, none⟩])
  (.skip))))))))))))))))
  (.keep [6, 7] (.seq (.reg false [] [
  ⟨.load true J6 (.t 7), some 77, none⟩,
  ⟨.store J6 (.t 6) (.t 77), none, none⟩])
  (.ret)))))))))
def J7n : TFn := ⟨3, 78, Jbs, [.cell 6 true J6], false⟩
def JcU : TCo := .seq (.reg false [] [
  ⟨.mv (.c (vi .i64 0)), some 2, none⟩])
  (.keep [0] (.seq (.reg true [] [
  ⟨.mv (.t 0), some 3, none⟩,
  ⟨.nilchk (.t 3), some 4, none⟩,
  ⟨.faddr 0 (.t 4), some 5, none⟩,
  ⟨.load false (.l (.i .u8)) (.t 5), some 6, none⟩,
  ⟨.len false (.t 6), some 7, none⟩,
  ⟨.mv (.t 0), some 8, none⟩,
  ⟨.nilchk (.t 8), some 9, none⟩,
  ⟨.faddr 1 (.t 9), some 10, none⟩,
  ⟨.load false (.i .i64) (.t 10), some 11, none⟩,
  ⟨.bin .sub .plain (.t 7) (.t 11), some 12, none⟩,
  ⟨.mv (.t 12), some 2, none⟩])
  (.ret)))
def J3K : TFn := ⟨1, 13, JcU, [.tmp 2], false⟩
def JlJ : TCo := .seq (.reg false [] [
  ⟨.mv (.c (.a (.c .np))), some 4, none⟩])
  (.keep [0, 1] (.seq (.seq (.reg false [] [
  ⟨.mv (.t 0), some 5, none⟩,
  ⟨.len false (.t 5), some 6, none⟩,
  ⟨.mv (.t 1), some 7, none⟩,
  ⟨.bin .gtr .plain (.t 6) (.t 7), some 8, none⟩])
  (.keep [0, 1, 8] (.cond (.t 8)
  (.reg false [] [
  ⟨.mv (.t 0), some 9, none⟩,
  ⟨.mv (.t 1), some 10, none⟩,
  ⟨.slice (.sl (.i .u8)) (.t 9) none (some (.t 10)) none, some 11, none⟩,
  ⟨.mv (.t 11), some 0, none⟩])
  (.skip))))
  (.keep [0] (.seq (.reg false [] [
  ⟨.mv (.t 0), some 12, none⟩,
  ⟨.build JE [(0, (.l (.i .u8)), (.t 12))], some 13, none⟩,
  ⟨.box JE (.t 13), some 14, none⟩,
  ⟨.mv (.t 14), some 4, none⟩])
  (.ret)))))
def J7X : TFn := ⟨2, 15, JlJ, [.tmp 4], false⟩
def Jhh : TCo := .seq (.reg false [] [
  ⟨.mv (.c (vb false)), some 0, none⟩])
  (.keep [] (.seq (.reg false [] [
  ⟨.call J02 [(.c (vi .i64 1))] 0, some 11, none⟩,
  ⟨.mv (.t 11), some 10, none⟩,
  ⟨.extr (.t 10) 0, some 12, none⟩,
  ⟨.extr (.t 10) 1, some 13, none⟩,
  ⟨.newbox J3, some 1, none⟩,
  ⟨.store J3 (.t 1) (.t 12), none, none⟩,
  ⟨.mv (.t 13), some 2, none⟩])
  (.keep [1, 2] (.seq (.reg false [] [
  ⟨.load true J3 (.t 1), some 15, none⟩,
  ⟨.build J6 [(0, (.i .i64), (.c (vi .i64 1))), (1, (.i .i64), (.c (vi .i64 2)))], some 16, none⟩,
  ⟨.call JT [(.t 15), (.t 16)] 0, some 17, none⟩,
  ⟨.mv (.t 17), some 14, none⟩,
  ⟨.extr (.t 14) 0, some 18, none⟩,
  ⟨.extr (.t 14) 1, some 19, none⟩,
  ⟨.store J3 (.t 1) (.t 18), none, none⟩,
  ⟨.mv (.t 19), some 3, none⟩])
  (.keep [1, 2, 3] (.seq (.reg true [(0, 3), (1, 3), (0, 4)] [
  ⟨.mkslice false (.i .u8) 1 (.c (vi .i64 255)) (.c (vi .i64 255)), some 20, none⟩,
  ⟨.conv .toStr (.t 20), some 21, none⟩,
  ⟨.bin .add .plain (.t 21) (.c (vs [97])), some 22, none⟩,
  ⟨.mkslice false (.i .u8) 1 (.c (vi .i64 255)) (.c (vi .i64 255)), some 23, none⟩,
  ⟨.conv .toStr (.t 23), some 24, none⟩,
  ⟨.bin .add .plain (.t 24) (.c (vs [98])), some 25, none⟩,
  ⟨.mv (.t 22), some 4, none⟩,
  ⟨.mv (.t 25), some 5, none⟩])
  (.keep [1, 2, 3, 4, 5] (.seq (.reg false [] [
  ⟨.load true J3 (.t 1), some 27, none⟩,
  ⟨.mv (.t 4), some 28, none⟩,
  ⟨.call JC [(.t 27), (.c (vi .i64 0)), (.t 28)] 0, some 29, none⟩,
  ⟨.mv (.t 29), some 26, none⟩,
  ⟨.extr (.t 26) 0, some 30, none⟩,
  ⟨.extr (.t 26) 1, some 31, none⟩,
  ⟨.store J3 (.t 1) (.t 30), none, none⟩,
  ⟨.mv (.t 31), some 6, none⟩])
  (.keep [1, 2, 3, 4, 5, 6] (.seq (.reg false [] [
  ⟨.load true J3 (.t 1), some 33, none⟩,
  ⟨.mv (.t 5), some 34, none⟩,
  ⟨.call JC [(.t 33), (.c (vi .i64 0)), (.t 34)] 0, some 35, none⟩,
  ⟨.mv (.t 35), some 32, none⟩,
  ⟨.extr (.t 32) 0, some 36, none⟩,
  ⟨.extr (.t 32) 1, some 37, none⟩,
  ⟨.store J3 (.t 1) (.t 36), none, none⟩,
  ⟨.mv (.t 37), some 7, none⟩])
  (.keep [1, 2, 3, 4, 6, 7] (.seq (.reg false [] [
  ⟨.load true J3 (.t 1), some 39, none⟩,
  ⟨.call JZ [(.t 39), (.c (vi .i64 0))] 0, some 40, none⟩,
  ⟨.mv (.t 40), some 38, none⟩,
  ⟨.extr (.t 38) 0, some 41, none⟩,
  ⟨.extr (.t 38) 1, some 42, none⟩,
  ⟨.mv (.t 41), some 8, none⟩,
  ⟨.mv (.t 42), some 9, none⟩])
  (.keep [2, 3, 4, 6, 7, 8, 9] (.seq (.reg false [] [
  ⟨.mv (.t 2), some 43, none⟩,
  ⟨.bin .eql .plain (.t 43) (.c (vi .i64 0)), some 44, none⟩,
  ⟨.mv (.t 44), some 45, none⟩,
  ⟨.mv (.t 3), some 46, some (45, true)⟩,
  ⟨.bin .eql .plain (.t 46) (.c (vi .i64 0)), some 47, some (45, true)⟩,
  ⟨.pick (.t 45) (.t 47) (.c (vb false)), some 48, none⟩,
  ⟨.mv (.t 48), some 49, none⟩,
  ⟨.mv (.t 6), some 50, some (49, true)⟩,
  ⟨.bin .eql .plain (.t 50) (.c (vi .i64 0)), some 51, some (49, true)⟩,
  ⟨.pick (.t 49) (.t 51) (.c (vb false)), some 52, none⟩,
  ⟨.mv (.t 52), some 53, none⟩,
  ⟨.mv (.t 7), some 54, some (53, true)⟩,
  ⟨.bin .eql .plain (.t 54) (.c (vi .i64 0)), some 55, some (53, true)⟩,
  ⟨.pick (.t 53) (.t 55) (.c (vb false)), some 56, none⟩,
  ⟨.mv (.t 56), some 57, none⟩,
  ⟨.mv (.t 9), some 58, some (57, true)⟩,
  ⟨.bin .eql .plain (.t 58) (.c (vi .i64 0)), some 59, some (57, true)⟩,
  ⟨.pick (.t 57) (.t 59) (.c (vb false)), some 60, none⟩,
  ⟨.mv (.t 60), some 61, none⟩,
  ⟨.mv (.t 8), some 62, some (61, true)⟩,
  ⟨.mv (.t 4), some 63, some (61, true)⟩,
  ⟨.bin .eql .plain (.t 62) (.t 63), some 64, some (61, true)⟩,
  ⟨.pick (.t 61) (.t 64) (.c (vb false)), some 65, none⟩,
  ⟨.mv (.t 65), some 0, none⟩])
  (.ret)))))))))))))))
def J5B : TFn := ⟨0, 66, Jhh, [.tmp 0], false⟩
def Jir : TCo := .seq (.reg false [] [
  ⟨.box J3 (.t 0), some 1, none⟩,
  ⟨.newbox J3, some 2, none⟩])
  (.keep [1, 2] (.seq (.reg false [] [
  ⟨.faddr 0 (.t 1), some 3, none⟩,
  ⟨.load false (.l .s) (.t 3), some 4, none⟩,
  ⟨.appn .s 16 (.t 4), some 5, none⟩,
  ⟨.faddr 0 (.t 1), some 6, none⟩,
  ⟨.store (.l .s) (.t 6) (.t 5), none, none⟩])
  (.keep [1, 2] (.seq (.tidy [1, 2] (.reg false [] [
  ⟨.faddr 2 (.t 1), some 7, none⟩,
  ⟨.load false (.l (.i .i64)) (.t 7), some 8, none⟩,
  ⟨.appn (.i .i64) 8 (.t 8), some 9, none⟩,
  ⟨.faddr 2 (.t 1), some 10, none⟩,
  ⟨.store (.l (.i .i64)) (.t 10) (.t 9), none, none⟩]))
  (.keep [1, 2] (.seq (.reg false [] [
  ⟨.faddr 4 (.t 1), some 11, none⟩,
  ⟨.load false (.l J6) (.t 11), some 12, none⟩,
  ⟨.appn J6 48 (.t 12), some 13, none⟩,
  ⟨.faddr 4 (.t 1), some 14, none⟩,
  ⟨.store (.l J6) (.t 14) (.t 13), none, none⟩])
  (.keep [1, 2] (.seq (.reg false [] [
  ⟨.load true J3 (.t 1), some 15, none⟩,
  ⟨.store J3 (.t 2) (.t 15), none, none⟩])
  (.ret)))))))))
def JbQ : TFn := ⟨1, 16, Jir, [.cell 2 true J3], true⟩
def Jhl : TCo := .seq (.reg false [] [
  ⟨.box J3 (.t 0), some 2, none⟩,
  ⟨.box J6 (.t 1), some 3, none⟩,
  ⟨.mv (.c (vb false)), some 4, none⟩])
  (.keep [2, 3] (.seq (.seq (.reg false [] [
  ⟨.faddr 1 (.t 3), some 6, none⟩,
  ⟨.load false (.i .i64) (.t 6), some 7, none⟩,
  ⟨.faddr 1 (.t 2), some 8, none⟩,
  ⟨.load false (.i .i64) (.t 8), some 9, none⟩,
  ⟨.bin .leq .plain (.t 7) (.t 9), some 10, none⟩,
  ⟨.mv (.t 10), some 11, none⟩,
  ⟨.faddr 1 (.t 3), some 12, some (11, false)⟩,
  ⟨.load false (.i .i64) (.t 12), some 13, some (11, false)⟩,
  ⟨.bin .gtr .plain (.t 13) (.c (vi .i64 1099511627776)), some 14, some (11, false)⟩,
  ⟨.pick (.t 11) (.c (vb true)) (.t 14), some 15, none⟩,
  ⟨.mv (.t 15), some 16, none⟩,
  ⟨.faddr 2 (.t 3), some 17, some (16, false)⟩,
  ⟨.load false (.i .i64) (.t 17), some 18, some (16, false)⟩,
  ⟨.bin .lss .plain (.t 18) (.c (vi .i64 0)), some 19, some (16, false)⟩,
  ⟨.pick (.t 16) (.c (vb true)) (.t 19), some 20, none⟩,
  ⟨.mv (.t 20), some 21, none⟩,
  ⟨.faddr 2 (.t 3), some 22, some (21, false)⟩,
  ⟨.load false (.i .i64) (.t 22), some 23, some (21, false)⟩,
  ⟨.faddr 0 (.t 2), some 24, some (21, false)⟩,
  ⟨.load false (.l .s) (.t 24), some 25, some (21, false)⟩,
  ⟨.len false (.t 25), some 26, some (21, false)⟩,
  ⟨.bin .geq .plain (.t 23) (.t 26), some 27, some (21, false)⟩,
  ⟨.pick (.t 21) (.c (vb true)) (.t 27), some 28, none⟩,
  ⟨.mv (.t 28), some 29, none⟩,
  ⟨.faddr 3 (.t 3), some 30, some (29, false)⟩,
  ⟨.load false (.i .i64) (.t 30), some 31, some (29, false)⟩,
  ⟨.bin .lss .plain (.t 31) (.c (vi .i64 0)), some 32, some (29, false)⟩,
  ⟨.pick (.t 29) (.c (vb true)) (.t 32), some 33, none⟩,
  ⟨.mv (.t 33), some 34, none⟩,
  ⟨.faddr 3 (.t 3), some 35, some (34, false)⟩,
  ⟨.load false (.i .i64) (.t 35), some 36, some (34, false)⟩,
  ⟨.faddr 0 (.t 2), some 37, some (34, false)⟩,
  ⟨.load false (.l .s) (.t 37), some 38, some (34, false)⟩,
  ⟨.len false (.t 38), some 39, some (34, false)⟩,
  ⟨.bin .geq .plain (.t 36) (.t 39), some 40, some (34, false)⟩,
  ⟨.pick (.t 34) (.c (vb true)) (.t 40), some 41, none⟩,
  ⟨.mv (.t 41), some 42, none⟩,
  ⟨.faddr 4 (.t 3), some 43, some (42, false)⟩,
  ⟨.load false (.i .i64) (.t 43), some 44, some (42, false)⟩,
  ⟨.bin .lss .plain (.t 44) (.c (vi .i64 0)), some 45, some (42, false)⟩,
  ⟨.pick (.t 42) (.c (vb true)) (.t 45), some 46, none⟩,
  ⟨.mv (.t 46), some 47, none⟩,
  ⟨.faddr 4 (.t 3), some 48, some (47, false)⟩,
  ⟨.load false (.i .i64) (.t 48), some 49, some (47, false)⟩,
  ⟨.bin .geq .plain (.t 49) (.c (vi .i64 256)), some 50, some (47, false)⟩,
  ⟨.pick (.t 47) (.c (vb true)) (.t 50), some 51, none⟩])
  (.keep [3, 51] (.cond (.t 51)
  (.seq (.reg false [] [
  ⟨.mv (.c (vb false)), some 4, none⟩])
  (.ret))
  (.skip))))
  (.keep [3] (.seq (.reg false [] [
  ⟨.faddr 0 (.t 3), some 52, none⟩,
  ⟨.load false (.i .i64) (.t 52), some 53, none⟩,
  ⟨.faddr 1 (.t 3), some 54, none⟩,
  ⟨.load false (.i .i64) (.t 54), some 55, none⟩,
  ⟨.build J6 [(0, (.i .i64), (.t 53)), (1, (.i .i64), (.t 55))], some 56, none⟩,
  ⟨.newbox J6, some 5, none⟩,
  ⟨.store J6 (.t 5) (.t 56), none, none⟩])
  (.keep [3, 5] (.seq (.seq (.reg false [] [
  ⟨.faddr 0 (.t 3), some 57, none⟩,
  ⟨.load false (.i .i64) (.t 57), some 58, none⟩])
  (.keep [3, 5, 58] (.block 0 (.seq (.seq (.reg false [] [
  ⟨.bin .eql .plain (.t 58) (.c (vi .i64 1)), some 60, none⟩,
  ⟨.mv (.t 60), some 59, none⟩])
  (.keep [3, 5, 58, 59] (.cond (.t 59)
  (.skip)
  (.reg false [] [
  ⟨.bin .eql .plain (.t 58) (.c (vi .i64 6)), some 61, none⟩,
  ⟨.mv (.t 61), some 59, none⟩]))))
  (.keep [3, 5, 58, 59] (.cond (.t 59)
  (.skip)
  (.seq (.reg false [] [
  ⟨.bin .eql .plain (.t 58) (.c (vi .i64 2)), some 63, none⟩,
  ⟨.mv (.t 63), some 62, none⟩])
  (.keep [3, 5, 58, 62] (.cond (.t 62)
  (.reg false [] [
  ⟨.faddr 3 (.t 3), some 64, none⟩,
  ⟨.load false (.i .i64) (.t 64), some 65, none⟩,
  ⟨.faddr 3 (.t 5), some 66, none⟩,
  ⟨.store (.i .i64) (.t 66) (.t 65), none, none⟩])
  (.seq (.reg false [] [
  ⟨.bin .eql .plain (.t 58) (.c (vi .i64 3)), some 68, none⟩,
  ⟨.mv (.t 68), some 67, none⟩])
  (.keep [3, 5, 58, 67] (.cond (.t 67)
  (.reg false [] [
  ⟨.faddr 4 (.t 3), some 69, none⟩,
  ⟨.load false (.i .i64) (.t 69), some 70, none⟩,
  ⟨.faddr 4 (.t 5), some 71, none⟩,
  ⟨.store (.i .i64) (.t 71) (.t 70), none, none⟩])
  (.seq (.reg false [] [
  ⟨.bin .eql .plain (.t 58) (.c (vi .i64 4)), some 73, none⟩,
  ⟨.mv (.t 73), some 72, none⟩])
  (.keep [3, 5, 58, 72] (.cond (.t 72)
  (.seq (.reg true [(3, 7), (5, 7), (5, 9)] [
  ⟨.faddr 2 (.t 3), some 74, none⟩,
  ⟨.load false (.i .i64) (.t 74), some 75, none⟩,
  ⟨.faddr 4 (.t 3), some 76, none⟩,
  ⟨.load false (.i .i64) (.t 76), some 77, none⟩,
  ⟨.faddr 5 (.t 3), some 78, none⟩,
  ⟨.load false (.i .u8) (.t 78), some 79, none⟩,
  ⟨.faddr 2 (.t 5), some 80, none⟩,
  ⟨.store (.i .i64) (.t 80) (.t 75), none, none⟩,
  ⟨.faddr 4 (.t 5), some 81, none⟩,
  ⟨.store (.i .i64) (.t 81) (.t 77), none, none⟩,
  ⟨.faddr 5 (.t 5), some 82, none⟩,
  ⟨.store (.i .u8) (.t 82) (.t 79), none, none⟩])
  (.keep [3, 5] (.seq (.reg false [] [
  ⟨.faddr 5 (.t 3), some 83, none⟩,
  ⟨.load false (.i .u8) (.t 83), some 84, none⟩,
  ⟨.bin .eql .plain (.t 84) (.c (vi .u8 0)), some 85, none⟩])
  (.keep [3, 5, 85] (.cond (.t 85)
  (.seq (.reg false [] [
  ⟨.mv (.c (vb false)), some 4, none⟩])
  (.ret))
  (.skip))))))
  (.seq (.reg false [] [
  ⟨.bin .eql .plain (.t 58) (.c (vi .i64 5)), some 87, none⟩,
  ⟨.mv (.t 87), some 86, none⟩])
  (.keep [3, 5, 86] (.cond (.t 86)
  (.reg false [] [
  ⟨.faddr 2 (.t 3), some 88, none⟩,
  ⟨.load false (.i .i64) (.t 88), some 89, none⟩,
  ⟨.faddr 2 (.t 5), some 90, none⟩,
  ⟨.store (.i .i64) (.t 90) (.t 89), none, none⟩])
  (.seq (.reg false [] [
  ⟨.mv (.c (vb false)), some 4, none⟩])
  (.ret))))))))))))))))))))
  (.keep [3, 5] (.seq (.reg false [] [
  ⟨.load true J6 (.t 3), some 91, none⟩,
  ⟨.load true J6 (.t 5), some 92, none⟩,
  ⟨.bin .eql (.flat J6) (.t 91) (.t 92), some 93, none⟩,
  ⟨.mv (.t 93), some 4, none⟩])
  (.ret)))))))))
def J5z : TFn := ⟨2, 94, Jhl, [.tmp 4], false⟩
def JhD : TCo := .seq (.reg false [] [
  ⟨.box J3 (.t 0), some 1, none⟩,
  ⟨.mv (.c (vb false)), some 2, none⟩])
  (.keep [1] (.seq (.reg false [] [
  ⟨.faddr 0 (.t 1), some 7, none⟩,
  ⟨.load false (.l .s) (.t 7), some 8, none⟩,
  ⟨.len false (.t 8), some 9, none⟩,
  ⟨.mv (.t 9), some 3, none⟩])
  (.keep [1, 3] (.seq (.seq (.reg false [] [
  ⟨.mv (.t 3), some 10, none⟩,
  ⟨.bin .lss .plain (.t 10) (.c (vi .i64 1)), some 11, none⟩,
  ⟨.mv (.t 11), some 12, none⟩,
  ⟨.mv (.t 3), some 13, some (12, false)⟩,
  ⟨.bin .gtr .plain (.t 13) (.c (vi .i64 64)), some 14, some (12, false)⟩,
  ⟨.pick (.t 12) (.c (vb true)) (.t 14), some 15, none⟩,
  ⟨.mv (.t 15), some 16, none⟩,
  ⟨.faddr 1 (.t 1), some 17, some (16, false)⟩,
  ⟨.load false (.i .i64) (.t 17), some 18, some (16, false)⟩,
  ⟨.bin .lss .plain (.t 18) (.c (vi .i64 0)), some 19, some (16, false)⟩,
  ⟨.pick (.t 16) (.c (vb true)) (.t 19), some 20, none⟩,
  ⟨.mv (.t 20), some 21, none⟩,
  ⟨.faddr 1 (.t 1), some 22, some (21, false)⟩,
  ⟨.load false (.i .i64) (.t 22), some 23, some (21, false)⟩,
  ⟨.bin .gtr .plain (.t 23) (.c (vi .i64 1099511627776)), some 24, some (21, false)⟩,
  ⟨.pick (.t 21) (.c (vb true)) (.t 24), some 25, none⟩,
  ⟨.mv (.t 25), some 26, none⟩,
  ⟨.faddr 4 (.t 1), some 27, some (26, false)⟩,
  ⟨.load false (.l J6) (.t 27), some 28, some (26, false)⟩,
  ⟨.len false (.t 28), some 29, some (26, false)⟩,
  ⟨.bin .gtr .plain (.t 29) (.c (vi .i64 64)), some 30, some (26, false)⟩,
  ⟨.pick (.t 26) (.c (vb true)) (.t 30), some 31, none⟩])
  (.keep [1, 3, 31] (.cond (.t 31)
  (.seq (.reg false [] [
  ⟨.mv (.c (vb false)), some 2, none⟩])
  (.ret))
  (.skip))))
  (.keep [1, 3] (.seq (.seq (.reg false [] [
  ⟨.mv (.c (vi .i64 0)), some 4, none⟩])
  (.keep [1, 3, 4] (.block 0 (.loop [1, 3, 4] (.seq (.seq (.reg false [] [
  ⟨.mv (.t 4), some 32, none⟩,
  ⟨.mv (.t 3), some 33, none⟩,
  ⟨.bin .lss .plain (.t 32) (.t 33), some 34, none⟩])
  (.keep [1, 3, 4, 34] (.cond (.t 34)
  (.skip)
  (.exit 0))))
  (.keep [1, 3, 4] (.seq (.block 1 (.seq (.reg false [] [
  ⟨.faddr 0 (.t 1), some 37, none⟩,
  ⟨.load false (.l .s) (.t 37), some 38, none⟩,
  ⟨.mv (.t 4), some 39, none⟩,
  ⟨.iaddr .s (.t 38) (.t 39), some 40, none⟩,
  ⟨.load false .s (.t 40), some 41, none⟩,
  ⟨.len true (.t 41), some 42, none⟩,
  ⟨.bin .neq .plain (.t 42) (.c (vi .i64 256)), some 43, none⟩])
  (.keep [1, 3, 4, 43] (.cond (.t 43)
  (.seq (.reg false [] [
  ⟨.mv (.c (vb false)), some 2, none⟩])
  (.ret))
  (.skip)))))
  (.keep [1, 3, 4] (.reg false [] [
  ⟨.mv (.t 4), some 35, none⟩,
  ⟨.bin .add .plain (.t 35) (.c (vi .i64 1)), some 36, none⟩,
  ⟨.mv (.t 36), some 4, none⟩])))))))))
  (.keep [1, 3] (.seq (.seq (.reg false [] [
  ⟨.mv (.c (vi .i64 0)), some 5, none⟩])
  (.keep [1, 3, 5] (.block 2 (.loop [1, 3, 5] (.seq (.seq (.reg false [] [
  ⟨.mv (.t 5), some 44, none⟩,
  ⟨.faddr 2 (.t 1), some 45, none⟩,
  ⟨.load false (.l (.i .i64)) (.t 45), some 46, none⟩,
  ⟨.len false (.t 46), some 47, none⟩,
  ⟨.bin .lss .plain (.t 44) (.t 47), some 48, none⟩])
  (.keep [1, 3, 5, 48] (.cond (.t 48)
  (.skip)
  (.exit 2))))
  (.keep [1, 3, 5] (.seq (.block 3 (.seq (.reg true [] [
  ⟨.faddr 2 (.t 1), some 51, none⟩,
  ⟨.load false (.l (.i .i64)) (.t 51), some 52, none⟩,
  ⟨.mv (.t 5), some 53, none⟩,
  ⟨.iaddr (.i .i64) (.t 52) (.t 53), some 54, none⟩,
  ⟨.load false (.i .i64) (.t 54), some 55, none⟩,
  ⟨.bin .lss .plain (.t 55) (.c (vi .i64 0)), some 56, none⟩,
  ⟨.mv (.t 56), some 57, none⟩,
  ⟨.faddr 2 (.t 1), some 58, some (57, false)⟩,
  ⟨.load false (.l (.i .i64)) (.t 58), some 59, some (57, false)⟩,
  ⟨.mv (.t 5), some 60, some (57, false)⟩,
  ⟨.iaddr (.i .i64) (.t 59) (.t 60), some 61, some (57, false)⟩,
  ⟨.load false (.i .i64) (.t 61), some 62, some (57, false)⟩,
  ⟨.mv (.t 3), some 63, some (57, false)⟩,
  ⟨.bin .geq .plain (.t 62) (.t 63), some 64, some (57, false)⟩,
  ⟨.pick (.t 57) (.c (vb true)) (.t 64), some 65, none⟩,
  ⟨.mv (.t 65), some 66, none⟩,
  ⟨.mv (.t 5), some 67, some (66, false)⟩,
  ⟨.bin .gtr .plain (.t 67) (.c (vi .i64 0)), some 68, some (66, false)⟩,
  ⟨.mv (.t 68), some 69, some (66, false)⟩,
  ⟨.faddr 2 (.t 1), some 70, some (69, true)⟩,
  ⟨.load false (.l (.i .i64)) (.t 70), some 71, some (69, true)⟩,
  ⟨.mv (.t 5), some 72, some (69, true)⟩,
  ⟨.bin .sub .plain (.t 72) (.c (vi .i64 1)), some 73, some (69, true)⟩,
  ⟨.iaddr (.i .i64) (.t 71) (.t 73), some 74, some (69, true)⟩,
  ⟨.load false (.i .i64) (.t 74), some 75, some (69, true)⟩,
  ⟨.faddr 2 (.t 1), some 76, some (69, true)⟩,
  ⟨.load false (.l (.i .i64)) (.t 76), some 77, some (69, true)⟩,
  ⟨.mv (.t 5), some 78, some (69, true)⟩,
  ⟨.iaddr (.i .i64) (.t 77) (.t 78), some 79, some (69, true)⟩,
  ⟨.load false (.i .i64) (.t 79), some 80, some (69, true)⟩,
  ⟨.bin .geq .plain (.t 75) (.t 80), some 81, some (69, true)⟩,
  ⟨.pick (.t 69) (.t 81) (.c (vb false)), some 82, some (66, false)⟩,
  ⟨.pick (.t 66) (.c (vb true)) (.t 82), some 83, none⟩])
  (.keep [1, 3, 5, 83] (.cond (.t 83)
  (.seq (.reg false [] [
  ⟨.mv (.c (vb false)), some 2, none⟩])
  (.ret))
  (.skip)))))
  (.keep [1, 3, 5] (.reg false [] [
  ⟨.mv (.t 5), some 49, none⟩,
  ⟨.bin .add .plain (.t 49) (.c (vi .i64 1)), some 50, none⟩,
  ⟨.mv (.t 50), some 5, none⟩])))))))))
  (.keep [1] (.seq (.seq (.reg false [] [
  ⟨.mv (.c (vi .i64 0)), some 6, none⟩])
  (.keep [1, 6] (.block 4 (.loop [1, 6] (.seq (.seq (.reg false [] [
  ⟨.mv (.t 6), some 84, none⟩,
  ⟨.faddr 4 (.t 1), some 85, none⟩,
  ⟨.load false (.l J6) (.t 85), some 86, none⟩,
  ⟨.len false (.t 86), some 87, none⟩,
  ⟨.bin .lss .plain (.t 84) (.t 87), some 88, none⟩])
  (.keep [1, 6, 88] (.cond (.t 88)
  (.skip)
  (.exit 4))))
  (.keep [1, 6] (.seq (.block 5 (.seq (.reg true [] [
  ⟨.load true J3 (.t 1), some 91, none⟩,
  ⟨.faddr 4 (.t 1), some 92, none⟩,
  ⟨.load false (.l J6) (.t 92), some 93, none⟩,
  ⟨.mv (.t 6), some 94, none⟩,
  ⟨.iaddr J6 (.t 93) (.t 94), some 95, none⟩,
  ⟨.load true J6 (.t 95), some 96, none⟩,
  ⟨.call J23 [(.t 91), (.t 96)] 0, some 97, none⟩,
  ⟨.un .not (.t 97), some 98, none⟩])
  (.keep [1, 6, 98] (.cond (.t 98)
  (.seq (.reg false [] [
  ⟨.mv (.c (vb false)), some 2, none⟩])
  (.ret))
  (.skip)))))
  (.keep [1, 6] (.reg false [] [
  ⟨.mv (.t 6), some 89, none⟩,
  ⟨.bin .add .plain (.t 89) (.c (vi .i64 1)), some 90, none⟩,
  ⟨.mv (.t 90), some 6, none⟩])))))))))
  (.keep [] (.seq (.reg false [] [
  ⟨.mv (.c (vb true)), some 2, none⟩])
  (.ret)))))))))))))
def J5x : TFn := ⟨1, 99, JhD, [.tmp 2], false⟩
def JfS : TCo := .seq (.reg false [] [
  ⟨.box J3 (.t 0), some 2, none⟩,
  ⟨.box J6 (.t 1), some 3, none⟩,
  ⟨.newboxo J3 [(4, J6)], some 4, none⟩,
  ⟨.mv (.c (vi .i64 0)), some 5, none⟩])
  (.keep [2, 3, 4] (.seq (.block 0 (.seq (.reg false [] [
  ⟨.load true J3 (.t 2), some 8, none⟩,
  ⟨.call J1p [(.t 8)] 0, some 9, none⟩,
  ⟨.un .not (.t 9), some 10, none⟩,
  ⟨.mv (.t 10), some 7, none⟩])
  (.keep [2, 3, 4, 7] (.cond (.t 7)
  (.seq (.reg false [] [
  ⟨.buildo J3 [] [(4, J6)], some 11, none⟩,
  ⟨.store J3 (.t 4) (.t 11), none, none⟩,
  ⟨.mv (.c (vi .i64 15)), some 5, none⟩])
  (.ret))
  (.seq (.reg false [] [
  ⟨.load true J3 (.t 2), some 13, none⟩,
  ⟨.load true J6 (.t 3), some 14, none⟩,
  ⟨.call J23 [(.t 13), (.t 14)] 0, some 15, none⟩,
  ⟨.un .not (.t 15), some 16, none⟩,
  ⟨.mv (.t 16), some 12, none⟩])
  (.keep [2, 3, 4, 12] (.cond (.t 12)
  (.seq (.reg false [] [
  ⟨.buildo J3 [] [(4, J6)], some 17, none⟩,
  ⟨.store J3 (.t 4) (.t 17), none, none⟩,
  ⟨.mv (.c (vi .i64 1)), some 5, none⟩])
  (.ret))
  (.seq (.reg false [] [
  ⟨.faddr 4 (.t 2), some 19, none⟩,
  ⟨.load false (.l J6) (.t 19), some 20, none⟩,
  ⟨.len false (.t 20), some 21, none⟩,
  ⟨.bin .eql .plain (.t 21) (.c (vi .i64 64)), some 22, none⟩,
  ⟨.mv (.t 22), some 18, none⟩])
  (.keep [2, 3, 4, 18] (.cond (.t 18)
  (.seq (.reg false [] [
  ⟨.buildo J3 [] [(4, J6)], some 23, none⟩,
  ⟨.store J3 (.t 4) (.t 23), none, none⟩,
  ⟨.mv (.c (vi .i64 21)), some 5, none⟩])
  (.ret))
  (.skip)))))))))))
  (.keep [2, 3, 4] (.seq (.reg false [] [
  ⟨.load true J3 (.t 2), some 24, none⟩,
  ⟨.callo J4E [((.t 24), false)] 2, some 25, none⟩,
  ⟨.newboxo J3 [(4, J6)], some 6, none⟩,
  ⟨.store J3 (.t 6) (.t 25), none, none⟩])
  (.keep [3, 4, 6] (.seq (.reg false [] [
  ⟨.faddr 4 (.t 6), some 26, none⟩,
  ⟨.load false (.l J6) (.t 26), some 27, none⟩,
  ⟨.load true J6 (.t 3), some 28, none⟩,
  ⟨.lits false J6 1 [(0, (.t 28))], some 29, none⟩,
  ⟨.app J6 48 (.t 27) (.t 29), some 30, none⟩,
  ⟨.faddr 4 (.t 6), some 31, none⟩,
  ⟨.store (.l J6) (.t 31) (.t 30), none, none⟩])
  (.keep [4, 6] (.seq (.reg false [] [
  ⟨.load true J3 (.t 6), some 32, none⟩,
  ⟨.store J3 (.t 4) (.t 32), none, none⟩,
  ⟨.mv (.c (vi .i64 0)), some 5, none⟩])
  (.ret)))))))))
def J9G : TFn := ⟨2, 33, JfS, [.cell 4 true J3, .tmp 5], false⟩
def Jgu : TCo := .seq (.reg false [] [
  ⟨.mv (.c (vl .s [])), some 2, none⟩])
  (.keep [0] (.seq (.reg false [] [
  ⟨.mkarr .s (.c (vl .s [])), some 3, none⟩])
  (.keep [0, 3] (.seq (.seq (.reg false [] [
  ⟨.mv (.c (vi .i64 0)), some 4, none⟩])
  (.keep [0, 3, 4] (.block 0 (.loop [0, 3, 4] (.seq (.seq (.reg false [] [
  ⟨.mv (.t 4), some 5, none⟩,
  ⟨.mv (.t 0), some 6, none⟩,
  ⟨.bin .lss .plain (.t 5) (.t 6), some 7, none⟩])
  (.keep [0, 3, 4, 7] (.cond (.t 7)
  (.skip)
  (.exit 0))))
  (.keep [0, 3, 4] (.seq (.block 1 (.reg false [] [
  ⟨.mv (.t 3), some 10, none⟩,
  ⟨.mkslice false (.i .u8) 1 (.c (vi .i64 256)) (.c (vi .i64 256)), some 11, none⟩,
  ⟨.conv .toStr (.t 11), some 12, none⟩,
  ⟨.lits false .s 1 [(0, (.t 12))], some 13, none⟩,
  ⟨.app .s 16 (.t 10) (.t 13), some 14, none⟩,
  ⟨.mv (.t 14), some 3, none⟩]))
  (.keep [0, 3, 4] (.reg false [] [
  ⟨.mv (.t 4), some 8, none⟩,
  ⟨.bin .add .plain (.t 8) (.c (vi .i64 1)), some 9, none⟩,
  ⟨.mv (.t 9), some 4, none⟩])))))))))
  (.keep [3] (.seq (.reg false [] [
  ⟨.mv (.t 3), some 15, none⟩,
  ⟨.mv (.t 15), some 2, none⟩])
  (.ret)))))))
def J9u : TFn := ⟨1, 16, Jgu, [.tmp 2], false⟩
def JjW : TCo := .seq (.reg false [] [
  ⟨.newbox J3, some 2, none⟩,
  ⟨.mv (.c (vi .i64 0)), some 3, none⟩])
  (.keep [0, 2] (.seq (.seq (.reg false [] [
  ⟨.mv (.t 0), some 4, none⟩,
  ⟨.bin .lss .plain (.t 4) (.c (vi .i64 1)), some 5, none⟩,
  ⟨.mv (.t 5), some 6, none⟩,
  ⟨.mv (.t 0), some 7, some (6, false)⟩,
  ⟨.bin .gtr .plain (.t 7) (.c (vi .i64 64)), some 8, some (6, false)⟩,
  ⟨.pick (.t 6) (.c (vb true)) (.t 8), some 9, none⟩])
  (.keep [0, 2, 9] (.cond (.t 9)
  (.seq (.reg false [] [
  ⟨.build J3 [], some 10, none⟩,
  ⟨.store J3 (.t 2) (.t 10), none, none⟩,
  ⟨.mv (.c (vi .i64 1)), some 3, none⟩])
  (.ret))
  (.skip))))
  (.keep [0, 2] (.seq (.reg false [] [
  ⟨.mv (.t 0), some 11, none⟩,
  ⟨.call J51 [(.t 11)] 0, some 12, none⟩,
  ⟨.build J3 [(0, (.l .s), (.t 12))], some 13, none⟩,
  ⟨.store J3 (.t 2) (.t 13), none, none⟩,
  ⟨.mv (.c (vi .i64 0)), some 3, none⟩])
  (.ret)))))
def Jdo : TFn := ⟨1, 14, JjW, [.cell 2 true J3, .tmp 3], false⟩
def Jki : TCo := .seq (.reg false [] [
  ⟨.mv (.c (vb false)), some 4, none⟩])
  (.keep [0, 1] (.seq (.seq (.reg false [] [
  ⟨.mv (.c (vi .i64 0)), some 5, none⟩])
  (.keep [0, 1, 5] (.block 0 (.loop [0, 1, 5] (.seq (.seq (.reg false [] [
  ⟨.mv (.t 5), some 6, none⟩,
  ⟨.mv (.t 0), some 7, none⟩,
  ⟨.len false (.t 7), some 8, none⟩,
  ⟨.bin .lss .plain (.t 6) (.t 8), some 9, none⟩])
  (.keep [0, 1, 5, 9] (.cond (.t 9)
  (.skip)
  (.exit 0))))
  (.keep [0, 1, 5] (.seq (.block 1 (.seq (.reg false [] [
  ⟨.mv (.t 0), some 12, none⟩,
  ⟨.mv (.t 5), some 13, none⟩,
  ⟨.iaddr (.i .i64) (.t 12) (.t 13), some 14, none⟩,
  ⟨.load false (.i .i64) (.t 14), some 15, none⟩,
  ⟨.mv (.t 1), some 16, none⟩,
  ⟨.bin .eql .plain (.t 15) (.t 16), some 17, none⟩])
  (.keep [0, 1, 5, 17] (.cond (.t 17)
  (.seq (.reg false [] [
  ⟨.mv (.c (vb true)), some 4, none⟩])
  (.ret))
  (.skip)))))
  (.keep [0, 1, 5] (.reg false [] [
  ⟨.mv (.t 5), some 10, none⟩,
  ⟨.bin .add .plain (.t 10) (.c (vi .i64 1)), some 11, none⟩,
  ⟨.mv (.t 11), some 5, none⟩])))))))))
  (.keep [] (.seq (.reg false [] [
  ⟨.mv (.c (vb false)), some 4, none⟩])
  (.ret)))))
def Jde : TFn := ⟨2, 18, Jki, [.tmp 4], false⟩
def Jg3 : TCo := .seq (.reg false [] [
  ⟨.box J3 (.t 0), some 2, none⟩,
  ⟨.mv (.c (vi .i64 0)), some 4, none⟩])
  (.keep [1, 2] (.seq (.block 0 (.seq (.reg false [] [
  ⟨.load true J3 (.t 2), some 6, none⟩,
  ⟨.call J1p [(.t 6)] 0, some 7, none⟩,
  ⟨.un .not (.t 7), some 8, none⟩,
  ⟨.mv (.t 8), some 5, none⟩])
  (.keep [1, 2, 5] (.cond (.t 5)
  (.seq (.reg false [] [
  ⟨.mv (.c (vi .i64 15)), some 4, none⟩])
  (.ret))
  (.seq (.reg false [] [
  ⟨.faddr 3 (.t 2), some 10, none⟩,
  ⟨.load false .b (.t 10), some 11, none⟩,
  ⟨.mv (.t 11), some 9, none⟩])
  (.keep [1, 2, 9] (.cond (.t 9)
  (.seq (.reg false [] [
  ⟨.mv (.c (vi .i64 10)), some 4, none⟩])
  (.ret))
  (.seq (.reg false [] [
  ⟨.mv (.t 1), some 13, none⟩,
  ⟨.bin .lss .plain (.t 13) (.c (vi .i64 0)), some 14, none⟩,
  ⟨.mv (.t 14), some 15, none⟩,
  ⟨.mv (.t 1), some 16, some (15, false)⟩,
  ⟨.faddr 0 (.t 2), some 17, some (15, false)⟩,
  ⟨.load false (.l .s) (.t 17), some 18, some (15, false)⟩,
  ⟨.len false (.t 18), some 19, some (15, false)⟩,
  ⟨.bin .geq .plain (.t 16) (.t 19), some 20, some (15, false)⟩,
  ⟨.pick (.t 15) (.c (vb true)) (.t 20), some 21, none⟩,
  ⟨.mv (.t 21), some 12, none⟩])
  (.keep [12] (.cond (.t 12)
  (.seq (.reg false [] [
  ⟨.mv (.c (vi .i64 1)), some 4, none⟩])
  (.ret))
  (.skip)))))))))))
  (.keep [] (.seq (.reg false [] [
  ⟨.mv (.c (vi .i64 0)), some 4, none⟩])
  (.ret)))))
def J9F : TFn := ⟨2, 22, Jg3, [.tmp 4], false⟩
def JiX : TCo := .seq (.reg false [] [
  ⟨.box J3 (.t 0), some 2, none⟩,
  ⟨.mv (.c (vs [])), some 4, none⟩,
  ⟨.mv (.c (vi .i64 0)), some 5, none⟩])
  (.keep [1, 2] (.seq (.seq (.reg false [] [
  ⟨.load true J3 (.t 2), some 7, none⟩,
  ⟨.mv (.t 1), some 8, none⟩,
  ⟨.call J3O [(.t 7), (.t 8)] 0, some 9, none⟩,
  ⟨.mv (.t 9), some 6, none⟩])
  (.keep [1, 2, 6] (.seq (.reg false [] [
  ⟨.mv (.t 6), some 10, none⟩,
  ⟨.bin .neq .plain (.t 10) (.c (vi .i64 0)), some 11, none⟩])
  (.keep [1, 2, 6, 11] (.cond (.t 11)
  (.seq (.reg false [] [
  ⟨.mv (.t 6), some 12, none⟩,
  ⟨.mv (.c (vs [])), some 4, none⟩,
  ⟨.mv (.t 12), some 5, none⟩])
  (.ret))
  (.skip))))))
  (.keep [1, 2] (.seq (.seq (.reg false [] [
  ⟨.faddr 2 (.t 2), some 13, none⟩,
  ⟨.load false (.l (.i .i64)) (.t 13), some 14, none⟩,
  ⟨.mv (.t 1), some 15, none⟩,
  ⟨.call J9h [(.t 14), (.t 15)] 0, some 16, none⟩])
  (.keep [1, 2, 16] (.cond (.t 16)
  (.seq (.reg false [] [
  ⟨.mv (.c (vs [])), some 4, none⟩,
  ⟨.mv (.c (vi .i64 11)), some 5, none⟩])
  (.ret))
  (.skip))))
  (.keep [1, 2] (.seq (.reg false [] [
  ⟨.faddr 0 (.t 2), some 17, none⟩,
  ⟨.load false (.l .s) (.t 17), some 18, none⟩,
  ⟨.mv (.t 1), some 19, none⟩,
  ⟨.iaddr .s (.t 18) (.t 19), some 20, none⟩,
  ⟨.load false .s (.t 20), some 21, none⟩,
  ⟨.mv (.t 21), some 4, none⟩,
  ⟨.mv (.c (vi .i64 0)), some 5, none⟩])
  (.ret)))))))
def JbP : TFn := ⟨2, 22, JiX, [.tmp 4, .tmp 5], false⟩
def JeR : TCo := .seq (.reg false [] [
  ⟨.mv (.c (vl (.i .i64) [])), some 4, none⟩])
  (.keep [0, 1] (.seq (.reg false [] [
  ⟨.mkarr (.i .i64) (.c (vl (.i .i64) [])), some 5, none⟩])
  (.keep [0, 1, 5] (.seq (.seq (.reg false [] [
  ⟨.mv (.c (vi .i64 0)), some 6, none⟩])
  (.keep [0, 1, 5, 6] (.block 0 (.loop [0, 1, 5, 6] (.seq (.seq (.reg false [] [
  ⟨.mv (.t 6), some 7, none⟩,
  ⟨.mv (.t 0), some 8, none⟩,
  ⟨.len false (.t 8), some 9, none⟩,
  ⟨.bin .lss .plain (.t 7) (.t 9), some 10, none⟩])
  (.keep [0, 1, 5, 6, 10] (.cond (.t 10)
  (.skip)
  (.exit 0))))
  (.keep [0, 1, 5, 6] (.seq (.block 1 (.seq (.reg false [] [
  ⟨.mv (.t 0), some 13, none⟩,
  ⟨.mv (.t 6), some 14, none⟩,
  ⟨.iaddr (.i .i64) (.t 13) (.t 14), some 15, none⟩,
  ⟨.load false (.i .i64) (.t 15), some 16, none⟩,
  ⟨.mv (.t 1), some 17, none⟩,
  ⟨.bin .neq .plain (.t 16) (.t 17), some 18, none⟩])
  (.keep [0, 1, 5, 6, 18] (.cond (.t 18)
  (.reg false [] [
  ⟨.mv (.t 5), some 19, none⟩,
  ⟨.mv (.t 0), some 20, none⟩,
  ⟨.mv (.t 6), some 21, none⟩,
  ⟨.iaddr (.i .i64) (.t 20) (.t 21), some 22, none⟩,
  ⟨.load false (.i .i64) (.t 22), some 23, none⟩,
  ⟨.lits false (.i .i64) 1 [(0, (.t 23))], some 24, none⟩,
  ⟨.app (.i .i64) 8 (.t 19) (.t 24), some 25, none⟩,
  ⟨.mv (.t 25), some 5, none⟩])
  (.skip)))))
  (.keep [0, 1, 5, 6] (.reg false [] [
  ⟨.mv (.t 6), some 11, none⟩,
  ⟨.bin .add .plain (.t 11) (.c (vi .i64 1)), some 12, none⟩,
  ⟨.mv (.t 12), some 6, none⟩])))))))))
  (.keep [5] (.seq (.reg false [] [
  ⟨.mv (.t 5), some 26, none⟩,
  ⟨.mv (.t 26), some 4, none⟩])
  (.ret)))))))
def J8H : TFn := ⟨2, 27, JeR, [.tmp 4], false⟩
def Jhf : TCo := .seq (.reg false [] [
  ⟨.box J3 (.t 0), some 4, none⟩,
  ⟨.newbox J3, some 8, none⟩])
  (.keep [1, 2, 3, 4, 8] (.seq (.reg true [] [
  ⟨.faddr 0 (.t 4), some 9, none⟩,
  ⟨.load false (.l .s) (.t 9), some 10, none⟩,
  ⟨.mv (.t 1), some 11, none⟩,
  ⟨.mv (.t 2), some 12, none⟩,
  ⟨.mv (.t 3), some 13, none⟩,
  ⟨.slice .str (.t 12) none (some (.t 13)) none, some 14, none⟩,
  ⟨.faddr 0 (.t 4), some 15, none⟩,
  ⟨.load false (.l .s) (.t 15), some 16, none⟩,
  ⟨.mv (.t 1), some 17, none⟩,
  ⟨.iaddr .s (.t 16) (.t 17), some 18, none⟩,
  ⟨.load false .s (.t 18), some 19, none⟩,
  ⟨.mv (.t 3), some 20, none⟩,
  ⟨.slice .str (.t 19) (some (.t 20)) none none, some 21, none⟩,
  ⟨.bin .add .plain (.t 14) (.t 21), some 22, none⟩,
  ⟨.iaddr .s (.t 10) (.t 11), some 23, none⟩,
  ⟨.store .s (.t 23) (.t 22), none, none⟩])
  (.keep [1, 4, 8] (.seq (.reg false [] [
  ⟨.faddr 2 (.t 4), some 24, none⟩,
  ⟨.load false (.l (.i .i64)) (.t 24), some 25, none⟩,
  ⟨.mv (.t 1), some 26, none⟩,
  ⟨.call J6s [(.t 25), (.t 26)] 0, some 27, none⟩,
  ⟨.faddr 2 (.t 4), some 28, none⟩,
  ⟨.store (.l (.i .i64)) (.t 28) (.t 27), none, none⟩])
  (.keep [4, 8] (.seq (.reg false [] [
  ⟨.load true J3 (.t 4), some 29, none⟩,
  ⟨.store J3 (.t 8) (.t 29), none, none⟩])
  (.ret)))))))
def JaS : TFn := ⟨4, 30, Jhf, [.cell 8 true J3], true⟩
def Ji1 : TCo := .seq (.reg false [] [
  ⟨.mv (.c (vl (.i .i64) [])), some 4, none⟩])
  (.keep [0, 1] (.seq (.reg false [] [
  ⟨.mkarr (.i .i64) (.c (vl (.i .i64) [])), some 5, none⟩])
  (.keep [0, 1, 5] (.seq (.reg false [] [
  ⟨.mv (.c (vb false)), some 6, none⟩])
  (.keep [0, 1, 5, 6] (.seq (.seq (.reg false [] [
  ⟨.mv (.c (vi .i64 0)), some 7, none⟩])
  (.keep [0, 1, 5, 6, 7] (.block 0 (.loop [0, 1, 5, 6, 7] (.seq (.seq (.reg false [] [
  ⟨.mv (.t 7), some 8, none⟩,
  ⟨.mv (.t 0), some 9, none⟩,
  ⟨.len false (.t 9), some 10, none⟩,
  ⟨.bin .lss .plain (.t 8) (.t 10), some 11, none⟩])
  (.keep [0, 1, 5, 6, 7, 11] (.cond (.t 11)
  (.skip)
  (.exit 0))))
  (.keep [0, 1, 5, 6, 7] (.seq (.block 1 (.seq (.seq (.reg false [] [
  ⟨.mv (.t 6), some 14, none⟩,
  ⟨.un .not (.t 14), some 15, none⟩,
  ⟨.mv (.t 15), some 16, none⟩,
  ⟨.mv (.t 0), some 17, some (16, true)⟩,
  ⟨.mv (.t 7), some 18, some (16, true)⟩,
  ⟨.iaddr (.i .i64) (.t 17) (.t 18), some 19, some (16, true)⟩,
  ⟨.load false (.i .i64) (.t 19), some 20, some (16, true)⟩,
  ⟨.mv (.t 1), some 21, some (16, true)⟩,
  ⟨.bin .geq .plain (.t 20) (.t 21), some 22, some (16, true)⟩,
  ⟨.pick (.t 16) (.t 22) (.c (vb false)), some 23, none⟩])
  (.keep [0, 1, 5, 6, 7, 23] (.cond (.t 23)
  (.seq (.reg false [] [
  ⟨.mv (.t 5), some 24, none⟩,
  ⟨.mv (.t 1), some 25, none⟩,
  ⟨.lits false (.i .i64) 1 [(0, (.t 25))], some 26, none⟩,
  ⟨.app (.i .i64) 8 (.t 24) (.t 26), some 27, none⟩,
  ⟨.mv (.t 27), some 5, none⟩])
  (.keep [0, 1, 5, 7] (.reg false [] [
  ⟨.mv (.c (vb true)), some 6, none⟩])))
  (.skip))))
  (.keep [0, 1, 5, 6, 7] (.seq (.reg false [] [
  ⟨.mv (.t 0), some 28, none⟩,
  ⟨.mv (.t 7), some 29, none⟩,
  ⟨.iaddr (.i .i64) (.t 28) (.t 29), some 30, none⟩,
  ⟨.load false (.i .i64) (.t 30), some 31, none⟩,
  ⟨.mv (.t 1), some 32, none⟩,
  ⟨.bin .neq .plain (.t 31) (.t 32), some 33, none⟩])
  (.keep [0, 1, 5, 6, 7, 33] (.cond (.t 33)
  (.reg false [] [
  ⟨.mv (.t 5), some 34, none⟩,
  ⟨.mv (.t 0), some 35, none⟩,
  ⟨.mv (.t 7), some 36, none⟩,
  ⟨.iaddr (.i .i64) (.t 35) (.t 36), some 37, none⟩,
  ⟨.load false (.i .i64) (.t 37), some 38, none⟩,
  ⟨.lits false (.i .i64) 1 [(0, (.t 38))], some 39, none⟩,
  ⟨.app (.i .i64) 8 (.t 34) (.t 39), some 40, none⟩,
  ⟨.mv (.t 40), some 5, none⟩])
  (.skip)))))))
  (.keep [0, 1, 5, 6, 7] (.reg false [] [
  ⟨.mv (.t 7), some 12, none⟩,
  ⟨.bin .add .plain (.t 12) (.c (vi .i64 1)), some 13, none⟩,
  ⟨.mv (.t 13), some 7, none⟩])))))))))
  (.keep [1, 5, 6] (.seq (.seq (.reg false [] [
  ⟨.mv (.t 6), some 41, none⟩,
  ⟨.un .not (.t 41), some 42, none⟩])
  (.keep [1, 5, 42] (.cond (.t 42)
  (.reg false [] [
  ⟨.mv (.t 5), some 43, none⟩,
  ⟨.mv (.t 1), some 44, none⟩,
  ⟨.lits false (.i .i64) 1 [(0, (.t 44))], some 45, none⟩,
  ⟨.app (.i .i64) 8 (.t 43) (.t 45), some 46, none⟩,
  ⟨.mv (.t 46), some 5, none⟩])
  (.skip))))
  (.keep [5] (.seq (.reg false [] [
  ⟨.mv (.t 5), some 47, none⟩,
  ⟨.mv (.t 47), some 4, none⟩])
  (.ret)))))))))))
def Jbp : TFn := ⟨2, 48, Ji1, [.tmp 4], false⟩
def Jhb : TCo := .seq (.reg false [] [
  ⟨.box J3 (.t 0), some 3, none⟩,
  ⟨.newboxo J3 [(4, J6)], some 6, none⟩,
  ⟨.mv (.c (vi .i64 0)), some 7, none⟩])
  (.keep [1, 2, 3, 6] (.seq (.seq (.reg false [] [
  ⟨.load true J3 (.t 3), some 17, none⟩,
  ⟨.mv (.t 1), some 18, none⟩,
  ⟨.call J3O [(.t 17), (.t 18)] 0, some 19, none⟩,
  ⟨.mv (.t 19), some 8, none⟩])
  (.keep [1, 2, 3, 6, 8] (.seq (.reg false [] [
  ⟨.mv (.t 8), some 20, none⟩,
  ⟨.bin .neq .plain (.t 20) (.c (vi .i64 0)), some 21, none⟩])
  (.keep [1, 2, 3, 6, 8, 21] (.cond (.t 21)
  (.seq (.reg false [] [
  ⟨.buildo J3 [] [(4, J6)], some 22, none⟩,
  ⟨.mv (.t 8), some 23, none⟩,
  ⟨.store J3 (.t 6) (.t 22), none, none⟩,
  ⟨.mv (.t 23), some 7, none⟩])
  (.ret))
  (.skip))))))
  (.keep [1, 2, 3, 6] (.seq (.seq (.reg false [] [
  ⟨.mv (.t 2), some 24, none⟩,
  ⟨.len true (.t 24), some 25, none⟩,
  ⟨.bin .neq .plain (.t 25) (.c (vi .i64 256)), some 26, none⟩])
  (.keep [1, 2, 3, 6, 26] (.cond (.t 26)
  (.seq (.reg false [] [
  ⟨.buildo J3 [] [(4, J6)], some 27, none⟩,
  ⟨.store J3 (.t 6) (.t 27), none, none⟩,
  ⟨.mv (.c (vi .i64 2)), some 7, none⟩])
  (.ret))
  (.skip))))
  (.keep [1, 2, 3, 6] (.seq (.seq (.reg false [] [
  ⟨.faddr 1 (.t 3), some 28, none⟩,
  ⟨.load false (.i .i64) (.t 28), some 29, none⟩,
  ⟨.bin .eql .plain (.t 29) (.c (vi .i64 1099511627776)), some 30, none⟩])
  (.keep [1, 2, 3, 6, 30] (.cond (.t 30)
  (.seq (.reg false [] [
  ⟨.buildo J3 [] [(4, J6)], some 31, none⟩,
  ⟨.store J3 (.t 6) (.t 31), none, none⟩,
  ⟨.mv (.c (vi .i64 21)), some 7, none⟩])
  (.ret))
  (.skip))))
  (.keep [1, 2, 3, 6] (.seq (.reg false [] [
  ⟨.load true J3 (.t 3), some 32, none⟩,
  ⟨.callo J4E [((.t 32), false)] 2, some 33, none⟩,
  ⟨.newboxo J3 [(4, J6)], some 9, none⟩,
  ⟨.store J3 (.t 9) (.t 33), none, none⟩])
  (.keep [1, 2, 3, 6, 9] (.seq (.reg false [] [
  ⟨.faddr 1 (.t 9), some 34, none⟩,
  ⟨.load false (.i .i64) (.t 34), some 35, none⟩,
  ⟨.bin .add .plain (.t 35) (.c (vi .i64 1)), some 36, none⟩,
  ⟨.faddr 1 (.t 9), some 37, none⟩,
  ⟨.store (.i .i64) (.t 37) (.t 36), none, none⟩])
  (.keep [1, 2, 3, 6, 9] (.seq (.reg false [] [
  ⟨.mkarr J6 (.c (vl J6 [])), some 10, none⟩])
  (.keep [1, 2, 3, 6, 9, 10] (.seq (.reg false [] [
  ⟨.faddr 4 (.t 9), some 38, none⟩,
  ⟨.storen J6 (.t 38), none, none⟩])
  (.keep [1, 2, 3, 6, 9, 10] (.seq (.seq (.reg false [] [
  ⟨.mv (.c (vi .i64 0)), some 11, none⟩])
  (.keep [1, 2, 3, 6, 9, 10, 11] (.block 0 (.loop [1, 2, 3, 6, 9, 10, 11] (.seq (.seq (.reg false [] [
  ⟨.mv (.t 11), some 39, none⟩,
  ⟨.faddr 4 (.t 3), some 40, none⟩,
  ⟨.load false (.l J6) (.t 40), some 41, none⟩,
  ⟨.len false (.t 41), some 42, none⟩,
  ⟨.bin .lss .plain (.t 39) (.t 42), some 43, none⟩])
  (.keep [1, 2, 3, 6, 9, 10, 11, 43] (.cond (.t 43)
  (.skip)
  (.exit 0))))
  (.keep [1, 2, 3, 6, 9, 10, 11] (.seq (.block 1 (.seq (.reg true [] [
  ⟨.faddr 4 (.t 3), some 46, none⟩,
  ⟨.load false (.l J6) (.t 46), some 47, none⟩,
  ⟨.mv (.t 11), some 48, none⟩,
  ⟨.iaddr J6 (.t 47) (.t 48), some 49, none⟩,
  ⟨.faddr 1 (.t 49), some 50, none⟩,
  ⟨.load false (.i .i64) (.t 50), some 51, none⟩,
  ⟨.faddr 1 (.t 9), some 52, none⟩,
  ⟨.load false (.i .i64) (.t 52), some 53, none⟩,
  ⟨.bin .eql .plain (.t 51) (.t 53), some 54, none⟩])
  (.keep [1, 2, 3, 6, 9, 10, 11, 54] (.cond (.t 54)
  (.reg false [] [
  ⟨.mv (.t 10), some 55, none⟩,
  ⟨.faddr 4 (.t 3), some 56, none⟩,
  ⟨.load false (.l J6) (.t 56), some 57, none⟩,
  ⟨.mv (.t 11), some 58, none⟩,
  ⟨.iaddr J6 (.t 57) (.t 58), some 59, none⟩,
  ⟨.load true J6 (.t 59), some 60, none⟩,
  ⟨.lits false J6 1 [(0, (.t 60))], some 61, none⟩,
  ⟨.app J6 48 (.t 55) (.t 61), some 62, none⟩,
  ⟨.mv (.t 62), some 10, none⟩])
  (.reg true [(1, 7)] [
  ⟨.faddr 4 (.t 9), some 63, none⟩,
  ⟨.load false (.l J6) (.t 63), some 64, none⟩,
  ⟨.faddr 4 (.t 3), some 65, none⟩,
  ⟨.load false (.l J6) (.t 65), some 66, none⟩,
  ⟨.mv (.t 11), some 67, none⟩,
  ⟨.iaddr J6 (.t 66) (.t 67), some 68, none⟩,
  ⟨.load true J6 (.t 68), some 69, none⟩,
  ⟨.lits false J6 1 [(0, (.t 69))], some 70, none⟩,
  ⟨.app J6 48 (.t 64) (.t 70), some 71, none⟩,
  ⟨.faddr 4 (.t 9), some 72, none⟩,
  ⟨.store (.l J6) (.t 72) (.t 71), none, none⟩])))))
  (.keep [1, 2, 3, 6, 9, 10, 11] (.reg false [] [
  ⟨.mv (.t 11), some 44, none⟩,
  ⟨.bin .add .plain (.t 44) (.c (vi .i64 1)), some 45, none⟩,
  ⟨.mv (.t 45), some 11, none⟩])))))))))
  (.keep [1, 2, 6, 9, 10] (.seq (.reg false [] [
  ⟨.mv (.c (vb false)), some 12, none⟩])
  (.keep [1, 2, 6, 9, 10, 12] (.seq (.seq (.reg false [] [
  ⟨.mv (.c (vi .i64 0)), some 13, none⟩])
  (.keep [1, 2, 6, 9, 10, 12, 13] (.block 2 (.loop [1, 2, 6, 9, 10, 12, 13] (.seq (.seq (.reg false [] [
  ⟨.mv (.t 13), some 73, none⟩,
  ⟨.mv (.t 10), some 74, none⟩,
  ⟨.len false (.t 74), some 75, none⟩,
  ⟨.bin .lss .plain (.t 73) (.t 75), some 76, none⟩,
  ⟨.mv (.t 76), some 77, none⟩,
  ⟨.mv (.t 12), some 78, some (77, true)⟩,
  ⟨.un .not (.t 78), some 79, some (77, true)⟩,
  ⟨.pick (.t 77) (.t 79) (.c (vb false)), some 80, none⟩])
  (.keep [1, 2, 6, 9, 10, 12, 13, 80] (.cond (.t 80)
  (.skip)
  (.exit 2))))
  (.keep [1, 2, 6, 9, 10, 12, 13] (.seq (.block 3 (.seq (.reg false [] [
  ⟨.mv (.t 10), some 83, none⟩,
  ⟨.mv (.t 13), some 84, none⟩,
  ⟨.iaddr J6 (.t 83) (.t 84), some 85, none⟩,
  ⟨.faddr 0 (.t 85), some 86, none⟩,
  ⟨.load false (.i .i64) (.t 86), some 87, none⟩])
  (.keep [1, 2, 6, 9, 10, 12, 13, 87] (.block 4 (.seq (.reg false [] [
  ⟨.bin .eql .plain (.t 87) (.c (vi .i64 1)), some 89, none⟩,
  ⟨.mv (.t 89), some 88, none⟩])
  (.keep [1, 2, 6, 9, 10, 12, 13, 87, 88] (.cond (.t 88)
  (.reg false [] [
  ⟨.mv (.c (vb true)), some 12, none⟩])
  (.seq (.reg false [] [
  ⟨.bin .eql .plain (.t 87) (.c (vi .i64 2)), some 91, none⟩,
  ⟨.mv (.t 91), some 90, none⟩])
  (.keep [1, 2, 6, 9, 10, 12, 13, 87, 90] (.cond (.t 90)
  (.seq (.reg true [] [
  ⟨.load true J3 (.t 9), some 92, none⟩,
  ⟨.mv (.t 10), some 93, none⟩,
  ⟨.mv (.t 13), some 94, none⟩,
  ⟨.iaddr J6 (.t 93) (.t 94), some 95, none⟩,
  ⟨.faddr 3 (.t 95), some 96, none⟩,
  ⟨.load false (.i .i64) (.t 96), some 97, none⟩,
  ⟨.mv (.t 2), some 98, none⟩,
  ⟨.callo J38 [((.t 92), true), ((.t 97), false), ((.t 98), false), ((.c (vi .i64 256)), false)] 0, some 99, none⟩,
  ⟨.store J3 (.t 9) (.t 99), none, none⟩])
  (.keep [1, 2, 6, 9, 10, 13] (.reg false [] [
  ⟨.mv (.c (vb true)), some 12, none⟩])))
  (.seq (.reg false [] [
  ⟨.bin .eql .plain (.t 87) (.c (vi .i64 3)), some 101, none⟩,
  ⟨.mv (.t 101), some 100, none⟩])
  (.keep [1, 2, 6, 9, 10, 12, 13, 100] (.cond (.t 100)
  (.seq (.reg true [] [
  ⟨.load true J3 (.t 9), some 102, none⟩,
  ⟨.mv (.t 1), some 103, none⟩,
  ⟨.mv (.t 2), some 104, none⟩,
  ⟨.mv (.t 10), some 105, none⟩,
  ⟨.mv (.t 13), some 106, none⟩,
  ⟨.iaddr J6 (.t 105) (.t 106), some 107, none⟩,
  ⟨.faddr 4 (.t 107), some 108, none⟩,
  ⟨.load false (.i .i64) (.t 108), some 109, none⟩,
  ⟨.callo J38 [((.t 102), true), ((.t 103), false), ((.t 104), false), ((.t 109), false)] 0, some 110, none⟩,
  ⟨.store J3 (.t 9) (.t 110), none, none⟩])
  (.keep [1, 2, 6, 9, 10, 13] (.reg false [] [
  ⟨.mv (.c (vb true)), some 12, none⟩])))
  (.skip))))))))))))))
  (.keep [1, 2, 6, 9, 10, 12, 13] (.reg false [] [
  ⟨.mv (.t 13), some 81, none⟩,
  ⟨.bin .add .plain (.t 81) (.c (vi .i64 1)), some 82, none⟩,
  ⟨.mv (.t 82), some 13, none⟩])))))))))
  (.keep [1, 2, 6, 9, 10, 12] (.seq (.seq (.reg false [] [
  ⟨.mv (.t 12), some 111, none⟩,
  ⟨.un .not (.t 111), some 112, none⟩])
  (.keep [1, 2, 6, 9, 10, 112] (.cond (.t 112)
  (.reg false [] [
  ⟨.load true J3 (.t 9), some 113, none⟩,
  ⟨.mv (.t 1), some 114, none⟩,
  ⟨.mv (.t 2), some 115, none⟩,
  ⟨.callo J38 [((.t 113), true), ((.t 114), false), ((.t 115), false), ((.c (vi .i64 256)), false)] 0, some 116, none⟩,
  ⟨.store J3 (.t 9) (.t 116), none, none⟩])
  (.skip))))
  (.keep [6, 9, 10] (.seq (.tidy [6, 7, 9] (.seq (.reg false [] [
  ⟨.mv (.c (vi .i64 0)), some 14, none⟩])
  (.keep [6, 9, 10, 14] (.block 5 (.loop [6, 9, 10, 14] (.seq (.seq (.reg false [] [
  ⟨.mv (.t 14), some 117, none⟩,
  ⟨.mv (.t 10), some 118, none⟩,
  ⟨.len false (.t 118), some 119, none⟩,
  ⟨.bin .lss .plain (.t 117) (.t 119), some 120, none⟩])
  (.keep [6, 9, 10, 14, 120] (.cond (.t 120)
  (.skip)
  (.exit 5))))
  (.keep [6, 9, 10, 14] (.seq (.tidy [6, 7, 9, 10, 14] (.block 6 (.seq (.reg false [] [
  ⟨.mv (.t 10), some 123, none⟩,
  ⟨.mv (.t 14), some 124, none⟩,
  ⟨.iaddr J6 (.t 123) (.t 124), some 125, none⟩,
  ⟨.load true J6 (.t 125), some 126, none⟩,
  ⟨.newbox J6, some 15, none⟩,
  ⟨.store J6 (.t 15) (.t 126), none, none⟩])
  (.keep [6, 9, 10, 14, 15] (.seq (.reg false [] [
  ⟨.faddr 0 (.t 15), some 127, none⟩,
  ⟨.load false (.i .i64) (.t 127), some 128, none⟩])
  (.keep [6, 9, 10, 14, 15, 128] (.block 7 (.seq (.reg false [] [
  ⟨.bin .eql .plain (.t 128) (.c (vi .i64 4)), some 130, none⟩,
  ⟨.mv (.t 130), some 129, none⟩])
  (.keep [6, 9, 10, 14, 15, 128, 129] (.cond (.t 129)
  (.seq (.reg false [] [
  ⟨.faddr 0 (.t 9), some 131, none⟩,
  ⟨.load false (.l .s) (.t 131), some 132, none⟩,
  ⟨.faddr 2 (.t 15), some 133, none⟩,
  ⟨.load false (.i .i64) (.t 133), some 134, none⟩,
  ⟨.iaddr .s (.t 132) (.t 134), some 135, none⟩,
  ⟨.load false .s (.t 135), some 136, none⟩,
  ⟨.conv (.toBytes true) (.t 136), some 137, none⟩,
  ⟨.mv (.t 137), some 16, none⟩])
  (.keep [6, 9, 10, 14, 15, 16] (.seq (.reg true [] [
  ⟨.mv (.t 16), some 138, none⟩,
  ⟨.faddr 4 (.t 15), some 139, none⟩,
  ⟨.load false (.i .i64) (.t 139), some 140, none⟩,
  ⟨.iaddr (.i .u8) (.t 138) (.t 140), some 141, none⟩,
  ⟨.load false (.i .u8) (.t 141), some 142, none⟩,
  ⟨.faddr 5 (.t 15), some 143, none⟩,
  ⟨.load false (.i .u8) (.t 143), some 144, none⟩,
  ⟨.bin .xor .plain (.t 142) (.t 144), some 145, none⟩,
  ⟨.iaddr (.i .u8) (.t 138) (.t 140), some 146, none⟩,
  ⟨.store (.i .u8) (.t 146) (.t 145), none, none⟩])
  (.keep [6, 9, 10, 14, 15, 16] (.reg false [] [
  ⟨.faddr 0 (.t 9), some 147, none⟩,
  ⟨.load false (.l .s) (.t 147), some 148, none⟩,
  ⟨.faddr 2 (.t 15), some 149, none⟩,
  ⟨.load false (.i .i64) (.t 149), some 150, none⟩,
  ⟨.mv (.t 16), some 151, none⟩,
  ⟨.conv .toStr (.t 151), some 152, none⟩,
  ⟨.iaddr .s (.t 148) (.t 150), some 153, none⟩,
  ⟨.store .s (.t 153) (.t 152), none, none⟩])))))
  (.seq (.reg false [] [
  ⟨.bin .eql .plain (.t 128) (.c (vi .i64 5)), some 155, none⟩,
  ⟨.mv (.t 155), some 154, none⟩])
  (.keep [6, 9, 10, 14, 15, 128, 154] (.cond (.t 154)
  (.reg false [] [
  ⟨.faddr 2 (.t 9), some 156, none⟩,
  ⟨.load false (.l (.i .i64)) (.t 156), some 157, none⟩,
  ⟨.faddr 2 (.t 15), some 158, none⟩,
  ⟨.load false (.i .i64) (.t 158), some 159, none⟩,
  ⟨.call J8s [(.t 157), (.t 159)] 0, some 160, none⟩,
  ⟨.faddr 2 (.t 9), some 161, none⟩,
  ⟨.store (.l (.i .i64)) (.t 161) (.t 160), none, none⟩])
  (.seq (.reg false [] [
  ⟨.bin .eql .plain (.t 128) (.c (vi .i64 6)), some 163, none⟩,
  ⟨.mv (.t 163), some 162, none⟩])
  (.keep [6, 9, 10, 14, 162] (.cond (.t 162)
  (.reg false [] [
  ⟨.faddr 3 (.t 9), some 164, none⟩,
  ⟨.store .b (.t 164) (.c (vb true)), none, none⟩])
  (.skip)))))))))))))))))
  (.keep [6, 9, 10, 14] (.reg false [] [
  ⟨.mv (.t 14), some 121, none⟩,
  ⟨.bin .add .plain (.t 121) (.c (vi .i64 1)), some 122, none⟩,
  ⟨.mv (.t 122), some 14, none⟩]))))))))))
  (.keep [6, 9] (.seq (.reg false [] [
  ⟨.load true J3 (.t 9), some 165, none⟩,
  ⟨.store J3 (.t 6) (.t 165), none, none⟩,
  ⟨.mv (.c (vi .i64 0)), some 7, none⟩])
  (.ret)))))))))))))))))))))))))))
def JaP : TFn := ⟨3, 166, Jhb, [.cell 6 true J3, .tmp 7], false⟩
def Jb4 : TCo := .seq (.reg false [] [
  ⟨.mv (.c (vb false)), some 2, none⟩])
  (.keep [0] (.seq (.seq (.reg false [] [
  ⟨.call J0a [] 0, some 24, none⟩,
  ⟨.un .not (.t 24), some 25, none⟩])
  (.keep [0, 25] (.cond (.t 25)
  (.seq (.reg false [] [
  ⟨.mv (.c (vb false)), some 2, none⟩])
  (.ret))
  (.skip))))
  (.keep [0] (.seq (.reg false [] [
  ⟨.mv (.t 0), some 26, none⟩,
  ⟨.call J0N [(.t 26), (.c (vi .i64 400))] 1, some 27, none⟩,
  ⟨.mv (.t 27), some 3, none⟩])
  (.keep [3] (.seq (.reg false [] [
  ⟨.call J02 [(.c (vi .i64 3))] 0, some 29, none⟩,
  ⟨.mv (.t 29), some 28, none⟩,
  ⟨.extr (.t 28) 0, some 30, none⟩,
  ⟨.extr (.t 28) 1, some 31, none⟩,
  ⟨.newbox J3, some 4, none⟩,
  ⟨.store J3 (.t 4) (.t 30), none, none⟩,
  ⟨.mv (.t 31), some 5, none⟩])
  (.keep [3, 4] (.seq (.reg false [] [
  ⟨.call J7h [(.c (vi .i64 3))] 0, some 33, none⟩,
  ⟨.mv (.t 33), some 32, none⟩,
  ⟨.extr (.t 32) 0, some 34, none⟩,
  ⟨.extr (.t 32) 1, some 35, none⟩,
  ⟨.newbox J3, some 6, none⟩,
  ⟨.store J3 (.t 6) (.t 34), none, none⟩,
  ⟨.mv (.t 35), some 7, none⟩])
  (.keep [3, 4, 6] (.seq (.tidy [2] (.block 0 (.loop [3, 4, 6] (.seq (.seq (.reg false [] [
  ⟨.mv (.t 3), some 36, none⟩,
  ⟨.call J1k [(.t 36)] 0, some 37, none⟩,
  ⟨.bin .gtr .plain (.t 37) (.c (vi .i64 0)), some 38, none⟩])
  (.keep [3, 4, 6, 38] (.cond (.t 38)
  (.skip)
  (.exit 0))))
  (.keep [3, 4, 6] (.block 1 (.seq (.tidy [2, 3, 4, 6] (.seq (.reg false [] [
  ⟨.mv (.t 3), some 39, none⟩,
  ⟨.call i_draw_Codes_Next [(.t 39), (.c (vi .i64 3))] 0, some 40, none⟩,
  ⟨.bin .eql .plain (.t 40) (.c (vi .i64 0)), some 41, none⟩])
  (.keep [3, 4, 6, 41] (.cond (.t 41)
  (.seq (.reg false [] [
  ⟨.mv (.t 3), some 42, none⟩,
  ⟨.faddr 1 (.t 6), some 43, none⟩,
  ⟨.load false (.i .i64) (.t 43), some 44, none⟩,
  ⟨.call J3g [(.t 42), (.c (vi .i64 3)), (.t 44)] 0, some 45, none⟩,
  ⟨.newbox J6, some 8, none⟩,
  ⟨.store J6 (.t 8) (.t 45), none, none⟩])
  (.keep [3, 4, 6, 8] (.seq (.reg false [] [
  ⟨.load true J3 (.t 4), some 47, none⟩,
  ⟨.load true J6 (.t 8), some 48, none⟩,
  ⟨.call JT [(.t 47), (.t 48)] 0, some 49, none⟩,
  ⟨.mv (.t 49), some 46, none⟩,
  ⟨.extr (.t 46) 0, some 50, none⟩,
  ⟨.extr (.t 46) 1, some 51, none⟩,
  ⟨.newbox J3, some 9, none⟩,
  ⟨.store J3 (.t 9) (.t 50), none, none⟩,
  ⟨.mv (.t 51), some 10, none⟩])
  (.keep [3, 4, 6, 8, 9, 10] (.seq (.reg false [] [
  ⟨.load true J3 (.t 6), some 53, none⟩,
  ⟨.load true J6 (.t 8), some 54, none⟩,
  ⟨.call J5h [(.t 53), (.t 54)] 0, some 55, none⟩,
  ⟨.mv (.t 55), some 52, none⟩,
  ⟨.extr (.t 52) 0, some 56, none⟩,
  ⟨.extr (.t 52) 1, some 57, none⟩,
  ⟨.newbox J3, some 11, none⟩,
  ⟨.store J3 (.t 11) (.t 56), none, none⟩,
  ⟨.mv (.t 57), some 12, none⟩])
  (.keep [3, 4, 6, 9, 10, 11, 12] (.seq (.seq (.reg false [] [
  ⟨.mv (.t 10), some 58, none⟩,
  ⟨.mv (.t 12), some 59, none⟩,
  ⟨.bin .neq .plain (.t 58) (.t 59), some 60, none⟩])
  (.keep [3, 4, 6, 9, 10, 11, 60] (.cond (.t 60)
  (.seq (.reg false [] [
  ⟨.mv (.c (vb false)), some 2, none⟩])
  (.ret))
  (.skip))))
  (.keep [3, 4, 6, 9, 10, 11] (.seq (.reg false [] [
  ⟨.mv (.t 10), some 61, none⟩,
  ⟨.bin .eql .plain (.t 61) (.c (vi .i64 0)), some 62, none⟩])
  (.keep [3, 4, 6, 9, 11, 62] (.cond (.t 62)
  (.reg true [(1, 2)] [
  ⟨.load true J3 (.t 9), some 63, none⟩,
  ⟨.load true J3 (.t 11), some 64, none⟩,
  ⟨.store J3 (.t 4) (.t 63), none, none⟩,
  ⟨.store J3 (.t 6) (.t 64), none, none⟩])
  (.skip))))))))))))
  (.skip)))))
  (.keep [3, 4, 6] (.seq (.reg false [] [
  ⟨.mv (.t 3), some 65, none⟩,
  ⟨.call i_draw_Codes_Next [(.t 65), (.c (vi .i64 3))] 0, some 66, none⟩,
  ⟨.mv (.t 3), some 67, none⟩,
  ⟨.call Jr [(.t 67)] 0, some 68, none⟩,
  ⟨.mv (.t 66), some 13, none⟩,
  ⟨.mv (.t 68), some 14, none⟩])
  (.keep [3, 4, 6, 13, 14] (.seq (.reg false [] [
  ⟨.load true J3 (.t 4), some 70, none⟩,
  ⟨.mv (.t 13), some 71, none⟩,
  ⟨.mv (.t 14), some 72, none⟩,
  ⟨.call JC [(.t 70), (.t 71), (.t 72)] 0, some 73, none⟩,
  ⟨.mv (.t 73), some 69, none⟩,
  ⟨.extr (.t 69) 0, some 74, none⟩,
  ⟨.extr (.t 69) 1, some 75, none⟩,
  ⟨.newbox J3, some 15, none⟩,
  ⟨.store J3 (.t 15) (.t 74), none, none⟩,
  ⟨.mv (.t 75), some 16, none⟩])
  (.keep [3, 4, 6, 13, 14, 15, 16] (.seq (.reg false [] [
  ⟨.load true J3 (.t 6), some 77, none⟩,
  ⟨.mv (.t 13), some 78, none⟩,
  ⟨.mv (.t 14), some 79, none⟩,
  ⟨.call J5A [(.t 77), (.t 78), (.t 79)] 0, some 80, none⟩,
  ⟨.mv (.t 80), some 76, none⟩,
  ⟨.extr (.t 76) 0, some 81, none⟩,
  ⟨.extr (.t 76) 1, some 82, none⟩,
  ⟨.newbox J3, some 17, none⟩,
  ⟨.store J3 (.t 17) (.t 81), none, none⟩,
  ⟨.mv (.t 82), some 18, none⟩])
  (.keep [3, 4, 6, 15, 16, 17, 18] (.seq (.seq (.reg false [] [
  ⟨.mv (.t 16), some 83, none⟩,
  ⟨.mv (.t 18), some 84, none⟩,
  ⟨.bin .neq .plain (.t 83) (.t 84), some 85, none⟩])
  (.keep [3, 4, 6, 15, 16, 17, 85] (.cond (.t 85)
  (.seq (.reg false [] [
  ⟨.mv (.c (vb false)), some 2, none⟩])
  (.ret))
  (.skip))))
  (.keep [3, 4, 6, 15, 16, 17] (.seq (.seq (.reg false [] [
  ⟨.mv (.t 16), some 86, none⟩,
  ⟨.bin .eql .plain (.t 86) (.c (vi .i64 0)), some 87, none⟩])
  (.keep [3, 4, 6, 15, 17, 87] (.cond (.t 87)
  (.reg true [(1, 2)] [
  ⟨.load true J3 (.t 15), some 88, none⟩,
  ⟨.load true J3 (.t 17), some 89, none⟩,
  ⟨.store J3 (.t 4) (.t 88), none, none⟩,
  ⟨.store J3 (.t 6) (.t 89), none, none⟩])
  (.skip))))
  (.keep [3, 4, 6] (.seq (.reg false [] [
  ⟨.mv (.c (vi .i64 0)), some 19, none⟩])
  (.keep [3, 4, 6, 19] (.block 2 (.loop [3, 4, 6, 19] (.seq (.seq (.reg false [] [
  ⟨.mv (.t 19), some 90, none⟩,
  ⟨.bin .lss .plain (.t 90) (.c (vi .i64 3)), some 91, none⟩])
  (.keep [3, 4, 6, 19, 91] (.cond (.t 91)
  (.skip)
  (.exit 2))))
  (.keep [3, 4, 6, 19] (.seq (.block 3 (.seq (.reg false [] [
  ⟨.load true J3 (.t 4), some 95, none⟩,
  ⟨.mv (.t 19), some 96, none⟩,
  ⟨.call JZ [(.t 95), (.t 96)] 0, some 97, none⟩,
  ⟨.mv (.t 97), some 94, none⟩,
  ⟨.extr (.t 94) 0, some 98, none⟩,
  ⟨.extr (.t 94) 1, some 99, none⟩,
  ⟨.mv (.t 98), some 20, none⟩,
  ⟨.mv (.t 99), some 21, none⟩])
  (.keep [3, 4, 6, 19, 20, 21] (.seq (.reg false [] [
  ⟨.load true J3 (.t 6), some 101, none⟩,
  ⟨.mv (.t 19), some 102, none⟩,
  ⟨.call J8x [(.t 101), (.t 102)] 0, some 103, none⟩,
  ⟨.mv (.t 103), some 100, none⟩,
  ⟨.extr (.t 100) 0, some 104, none⟩,
  ⟨.extr (.t 100) 1, some 105, none⟩,
  ⟨.mv (.t 104), some 22, none⟩,
  ⟨.mv (.t 105), some 23, none⟩])
  (.keep [3, 4, 6, 19, 20, 21, 22, 23] (.seq (.reg false [] [
  ⟨.mv (.t 20), some 106, none⟩,
  ⟨.mv (.t 22), some 107, none⟩,
  ⟨.bin .neq .plain (.t 106) (.t 107), some 108, none⟩,
  ⟨.mv (.t 108), some 109, none⟩,
  ⟨.mv (.t 21), some 110, some (109, false)⟩,
  ⟨.mv (.t 23), some 111, some (109, false)⟩,
  ⟨.bin .neq .plain (.t 110) (.t 111), some 112, some (109, false)⟩,
  ⟨.pick (.t 109) (.c (vb true)) (.t 112), some 113, none⟩])
  (.keep [3, 4, 6, 19, 113] (.cond (.t 113)
  (.seq (.reg false [] [
  ⟨.mv (.c (vb false)), some 2, none⟩])
  (.ret))
  (.skip)))))))))
  (.keep [3, 4, 6, 19] (.reg false [] [
  ⟨.mv (.t 19), some 92, none⟩,
  ⟨.bin .add .plain (.t 92) (.c (vi .i64 1)), some 93, none⟩,
  ⟨.mv (.t 93), some 19, none⟩])))))))))))))))))))))))))))
  (.keep [] (.seq (.reg false [] [
  ⟨.mv (.c (vb true)), some 2, none⟩])
  (.ret)))))))))))))
def J6K : TFn := ⟨1, 114, Jb4, [.tmp 2], false⟩
def Jbb : TCo := .seq (.reg false [] [
  ⟨.mv (.c (vb false)), some 2, none⟩])
  (.keep [0] (.seq (.seq (.reg false [] [
  ⟨.call J0a [] 0, some 14, none⟩,
  ⟨.un .not (.t 14), some 15, none⟩])
  (.keep [0, 15] (.cond (.t 15)
  (.seq (.reg false [] [
  ⟨.mv (.c (vb false)), some 2, none⟩])
  (.ret))
  (.skip))))
  (.keep [0] (.seq (.reg false [] [
  ⟨.mv (.t 0), some 16, none⟩,
  ⟨.call J0N [(.t 16), (.c (vi .i64 200))] 1, some 17, none⟩,
  ⟨.mv (.t 17), some 3, none⟩])
  (.keep [3] (.seq (.reg false [] [
  ⟨.call J02 [(.c (vi .i64 4))] 0, some 19, none⟩,
  ⟨.mv (.t 19), some 18, none⟩,
  ⟨.extr (.t 18) 0, some 20, none⟩,
  ⟨.extr (.t 18) 1, some 21, none⟩,
  ⟨.newbox J3, some 4, none⟩,
  ⟨.store J3 (.t 4) (.t 20), none, none⟩,
  ⟨.mv (.t 21), some 5, none⟩])
  (.keep [3, 4, 5] (.seq (.seq (.reg false [] [
  ⟨.mv (.t 5), some 22, none⟩,
  ⟨.bin .neq .plain (.t 22) (.c (vi .i64 0)), some 23, none⟩])
  (.keep [3, 4, 23] (.cond (.t 23)
  (.seq (.reg false [] [
  ⟨.mv (.c (vb false)), some 2, none⟩])
  (.ret))
  (.skip))))
  (.keep [3, 4] (.seq (.reg false [] [
  ⟨.newbox (.ar 4 .s), some 6, none⟩])
  (.keep [3, 4, 6] (.seq (.seq (.reg false [] [
  ⟨.mv (.c (vi .i64 0)), some 7, none⟩])
  (.keep [3, 4, 6, 7] (.block 0 (.loop [3, 4, 6, 7] (.seq (.seq (.reg false [] [
  ⟨.mv (.t 7), some 24, none⟩,
  ⟨.bin .lss .plain (.t 24) (.c (vi .i64 4)), some 25, none⟩])
  (.keep [3, 4, 6, 7, 25] (.cond (.t 25)
  (.skip)
  (.exit 0))))
  (.keep [3, 4, 6, 7] (.seq (.block 1 (.reg false [] [
  ⟨.mv (.t 7), some 28, none⟩,
  ⟨.mkslice false (.i .u8) 1 (.c (vi .i64 256)) (.c (vi .i64 256)), some 29, none⟩,
  ⟨.conv .toStr (.t 29), some 30, none⟩,
  ⟨.aaddr 4 1 (.t 6) (.t 28), some 31, none⟩,
  ⟨.store .s (.t 31) (.t 30), none, none⟩]))
  (.keep [3, 4, 6, 7] (.reg false [] [
  ⟨.mv (.t 7), some 26, none⟩,
  ⟨.bin .add .plain (.t 26) (.c (vi .i64 1)), some 27, none⟩,
  ⟨.mv (.t 27), some 7, none⟩])))))))))
  (.keep [3, 4, 6] (.seq (.reg false [] [
  ⟨.mv (.c (vi .i64 0)), some 8, none⟩])
  (.keep [3, 4, 6, 8] (.seq (.block 2 (.loop [3, 4, 6, 8] (.seq (.seq (.reg false [] [
  ⟨.mv (.t 3), some 32, none⟩,
  ⟨.call J1k [(.t 32)] 0, some 33, none⟩,
  ⟨.bin .gtr .plain (.t 33) (.c (vi .i64 0)), some 34, none⟩])
  (.keep [3, 4, 6, 8, 34] (.cond (.t 34)
  (.skip)
  (.exit 2))))
  (.keep [3, 4, 6, 8] (.block 3 (.seq (.reg false [] [
  ⟨.mv (.t 3), some 35, none⟩,
  ⟨.call i_draw_Codes_Next [(.t 35), (.c (vi .i64 4))] 0, some 36, none⟩,
  ⟨.mv (.t 3), some 37, none⟩,
  ⟨.call Jr [(.t 37)] 0, some 38, none⟩,
  ⟨.mv (.t 36), some 9, none⟩,
  ⟨.mv (.t 38), some 10, none⟩])
  (.keep [3, 4, 6, 8, 9, 10] (.seq (.reg false [] [
  ⟨.load true J3 (.t 4), some 40, none⟩,
  ⟨.mv (.t 9), some 41, none⟩,
  ⟨.mv (.t 10), some 42, none⟩,
  ⟨.call JC [(.t 40), (.t 41), (.t 42)] 0, some 43, none⟩,
  ⟨.mv (.t 43), some 39, none⟩,
  ⟨.extr (.t 39) 0, some 44, none⟩,
  ⟨.extr (.t 39) 1, some 45, none⟩,
  ⟨.store J3 (.t 4) (.t 44), none, none⟩,
  ⟨.mv (.t 45), some 5, none⟩])
  (.keep [3, 4, 5, 6, 8, 9, 10] (.seq (.seq (.reg false [] [
  ⟨.mv (.t 5), some 46, none⟩,
  ⟨.bin .neq .plain (.t 46) (.c (vi .i64 0)), some 47, none⟩])
  (.keep [3, 4, 6, 8, 9, 10, 47] (.cond (.t 47)
  (.seq (.reg false [] [
  ⟨.mv (.c (vb false)), some 2, none⟩])
  (.ret))
  (.skip))))
  (.keep [3, 4, 6, 8, 9, 10] (.seq (.reg false [] [
  ⟨.mv (.t 9), some 48, none⟩,
  ⟨.mv (.t 10), some 49, none⟩,
  ⟨.aaddr 4 1 (.t 6) (.t 48), some 50, none⟩,
  ⟨.store .s (.t 50) (.t 49), none, none⟩])
  (.keep [3, 4, 6, 8] (.reg false [] [
  ⟨.mv (.t 8), some 51, none⟩,
  ⟨.bin .add .plain (.t 51) (.c (vi .i64 1)), some 52, none⟩,
  ⟨.mv (.t 52), some 8, none⟩]))))))))))))))
  (.keep [4, 6, 8] (.seq (.seq (.reg false [] [
  ⟨.mv (.c (vi .i64 0)), some 11, none⟩])
  (.keep [4, 6, 8, 11] (.block 4 (.loop [4, 6, 8, 11] (.seq (.seq (.reg false [] [
  ⟨.mv (.t 11), some 53, none⟩,
  ⟨.bin .lss .plain (.t 53) (.c (vi .i64 4)), some 54, none⟩])
  (.keep [4, 6, 8, 11, 54] (.cond (.t 54)
  (.skip)
  (.exit 4))))
  (.keep [4, 6, 8, 11] (.seq (.block 5 (.seq (.reg false [] [
  ⟨.load true J3 (.t 4), some 58, none⟩,
  ⟨.mv (.t 11), some 59, none⟩,
  ⟨.call JZ [(.t 58), (.t 59)] 0, some 60, none⟩,
  ⟨.mv (.t 60), some 57, none⟩,
  ⟨.extr (.t 57) 0, some 61, none⟩,
  ⟨.extr (.t 57) 1, some 62, none⟩,
  ⟨.mv (.t 61), some 12, none⟩,
  ⟨.mv (.t 62), some 13, none⟩])
  (.keep [4, 6, 8, 11, 12, 13] (.seq (.reg false [] [
  ⟨.mv (.t 13), some 63, none⟩,
  ⟨.bin .neq .plain (.t 63) (.c (vi .i64 0)), some 64, none⟩,
  ⟨.mv (.t 64), some 65, none⟩,
  ⟨.mv (.t 12), some 66, some (65, false)⟩,
  ⟨.mv (.t 11), some 67, some (65, false)⟩,
  ⟨.aaddr 4 1 (.t 6) (.t 67), some 68, some (65, false)⟩,
  ⟨.load false .s (.t 68), some 69, some (65, false)⟩,
  ⟨.bin .neq .plain (.t 66) (.t 69), some 70, some (65, false)⟩,
  ⟨.pick (.t 65) (.c (vb true)) (.t 70), some 71, none⟩])
  (.keep [4, 6, 8, 11, 71] (.cond (.t 71)
  (.seq (.reg false [] [
  ⟨.mv (.c (vb false)), some 2, none⟩])
  (.ret))
  (.skip)))))))
  (.keep [4, 6, 8, 11] (.reg false [] [
  ⟨.mv (.t 11), some 55, none⟩,
  ⟨.bin .add .plain (.t 55) (.c (vi .i64 1)), some 56, none⟩,
  ⟨.mv (.t 56), some 11, none⟩])))))))))
  (.keep [4, 8] (.seq (.reg false [] [
  ⟨.faddr 1 (.t 4), some 72, none⟩,
  ⟨.load false (.i .i64) (.t 72), some 73, none⟩,
  ⟨.mv (.t 8), some 74, none⟩,
  ⟨.bin .eql .plain (.t 73) (.t 74), some 75, none⟩,
  ⟨.mv (.t 75), some 2, none⟩])
  (.ret)))))))))))))))))))))
def J2U : TFn := ⟨1, 76, Jbb, [.tmp 2], false⟩
def JbG : TCo := .seq (.reg false [] [
  ⟨.mv (.c (vb false)), some 6, none⟩])
  (.keep [0, 1, 2] (.seq (.seq (.reg false [] [
  ⟨.call J0a [] 0, some 23, none⟩,
  ⟨.un .not (.t 23), some 24, none⟩])
  (.keep [0, 1, 2, 24] (.cond (.t 24)
  (.seq (.reg false [] [
  ⟨.mv (.c (vb false)), some 6, none⟩])
  (.ret))
  (.skip))))
  (.keep [0, 1, 2] (.seq (.reg false [] [
  ⟨.mv (.t 0), some 25, none⟩,
  ⟨.call J0N [(.t 25), (.c (vi .i64 100))] 1, some 26, none⟩,
  ⟨.mv (.t 26), some 7, none⟩])
  (.keep [1, 2, 7] (.seq (.reg false [] [
  ⟨.mv (.t 2), some 27, none⟩,
  ⟨.conv (.int .i64) (.t 27), some 28, none⟩,
  ⟨.bin .rem .plain (.t 28) (.c (vi .i64 5)), some 29, none⟩,
  ⟨.bin .add .plain (.c (vi .i64 1)) (.t 29), some 30, none⟩,
  ⟨.mv (.t 30), some 8, none⟩])
  (.keep [1, 7, 8] (.seq (.reg false [] [
  ⟨.mv (.t 1), some 31, none⟩,
  ⟨.conv (.int .i64) (.t 31), some 32, none⟩,
  ⟨.bin .rem .plain (.t 32) (.c (vi .i64 5)), some 33, none⟩,
  ⟨.bin .add .plain (.c (vi .i64 1)) (.t 33), some 34, none⟩,
  ⟨.mv (.t 8), some 35, none⟩,
  ⟨.build J6 [(0, (.i .i64), (.t 34)), (1, (.i .i64), (.t 35))], some 36, none⟩,
  ⟨.newbox J6, some 9, none⟩,
  ⟨.store J6 (.t 9) (.t 36), none, none⟩])
  (.keep [7, 8, 9] (.seq (.seq (.reg false [] [
  ⟨.faddr 0 (.t 9), some 37, none⟩,
  ⟨.load false (.i .i64) (.t 37), some 38, none⟩])
  (.keep [7, 8, 9, 38] (.block 0 (.seq (.reg false [] [
  ⟨.bin .eql .plain (.t 38) (.c (vi .i64 2)), some 40, none⟩,
  ⟨.mv (.t 40), some 39, none⟩])
  (.keep [7, 8, 9, 38, 39] (.cond (.t 39)
  (.reg false [] [
  ⟨.mv (.t 7), some 41, none⟩,
  ⟨.call i_draw_Codes_Next [(.t 41), (.c (vi .i64 3))] 0, some 42, none⟩,
  ⟨.faddr 3 (.t 9), some 43, none⟩,
  ⟨.store (.i .i64) (.t 43) (.t 42), none, none⟩])
  (.seq (.reg false [] [
  ⟨.bin .eql .plain (.t 38) (.c (vi .i64 3)), some 45, none⟩,
  ⟨.mv (.t 45), some 44, none⟩])
  (.keep [7, 8, 9, 38, 44] (.cond (.t 44)
  (.reg false [] [
  ⟨.mv (.t 7), some 46, none⟩,
  ⟨.call i_draw_Codes_Next [(.t 46), (.c (vi .i64 256))] 0, some 47, none⟩,
  ⟨.faddr 4 (.t 9), some 48, none⟩,
  ⟨.store (.i .i64) (.t 48) (.t 47), none, none⟩])
  (.seq (.reg false [] [
  ⟨.bin .eql .plain (.t 38) (.c (vi .i64 4)), some 50, none⟩,
  ⟨.mv (.t 50), some 49, none⟩])
  (.keep [7, 8, 9, 38, 49] (.cond (.t 49)
  (.reg false [] [
  ⟨.mv (.t 7), some 51, none⟩,
  ⟨.call i_draw_Codes_Next [(.t 51), (.c (vi .i64 3))] 0, some 52, none⟩,
  ⟨.mv (.t 7), some 53, none⟩,
  ⟨.call i_draw_Codes_Next [(.t 53), (.c (vi .i64 256))] 0, some 54, none⟩,
  ⟨.faddr 2 (.t 9), some 55, none⟩,
  ⟨.store (.i .i64) (.t 55) (.t 52), none, none⟩,
  ⟨.faddr 4 (.t 9), some 56, none⟩,
  ⟨.store (.i .i64) (.t 56) (.t 54), none, none⟩,
  ⟨.faddr 5 (.t 9), some 57, none⟩,
  ⟨.store (.i .u8) (.t 57) (.c (vi .u8 1)), none, none⟩])
  (.seq (.reg false [] [
  ⟨.bin .eql .plain (.t 38) (.c (vi .i64 5)), some 59, none⟩,
  ⟨.mv (.t 59), some 58, none⟩])
  (.keep [7, 8, 9, 58] (.cond (.t 58)
  (.reg false [] [
  ⟨.mv (.t 7), some 60, none⟩,
  ⟨.call i_draw_Codes_Next [(.t 60), (.c (vi .i64 3))] 0, some 61, none⟩,
  ⟨.faddr 2 (.t 9), some 62, none⟩,
  ⟨.store (.i .i64) (.t 62) (.t 61), none, none⟩])
  (.skip))))))))))))))))
  (.keep [7, 8, 9] (.seq (.reg false [] [
  ⟨.call J02 [(.c (vi .i64 3))] 0, some 64, none⟩,
  ⟨.mv (.t 64), some 63, none⟩,
  ⟨.extr (.t 63) 0, some 65, none⟩,
  ⟨.extr (.t 63) 1, some 66, none⟩,
  ⟨.newbox J3, some 10, none⟩,
  ⟨.store J3 (.t 10) (.t 65), none, none⟩,
  ⟨.mv (.t 66), some 11, none⟩])
  (.keep [7, 8, 9, 10, 11] (.seq (.reg false [] [
  ⟨.load true J3 (.t 10), some 68, none⟩,
  ⟨.load true J6 (.t 9), some 69, none⟩,
  ⟨.call JT [(.t 68), (.t 69)] 0, some 70, none⟩,
  ⟨.mv (.t 70), some 67, none⟩,
  ⟨.extr (.t 67) 0, some 71, none⟩,
  ⟨.extr (.t 67) 1, some 72, none⟩,
  ⟨.newbox J3, some 12, none⟩,
  ⟨.store J3 (.t 12) (.t 71), none, none⟩,
  ⟨.mv (.t 72), some 13, none⟩])
  (.keep [7, 8, 9, 10, 11, 12, 13] (.seq (.seq (.reg false [] [
  ⟨.mv (.t 11), some 73, none⟩,
  ⟨.bin .neq .plain (.t 73) (.c (vi .i64 0)), some 74, none⟩,
  ⟨.mv (.t 74), some 75, none⟩,
  ⟨.mv (.t 13), some 76, some (75, false)⟩,
  ⟨.bin .neq .plain (.t 76) (.c (vi .i64 0)), some 77, some (75, false)⟩,
  ⟨.pick (.t 75) (.c (vb true)) (.t 77), some 78, none⟩])
  (.keep [7, 8, 9, 10, 12, 78] (.cond (.t 78)
  (.seq (.reg false [] [
  ⟨.mv (.c (vb false)), some 6, none⟩])
  (.ret))
  (.skip))))
  (.keep [7, 8, 9, 10, 12] (.seq (.reg false [] [
  ⟨.build (.ar 3 .b) [], some 79, none⟩,
  ⟨.newbox (.ar 3 .b), some 14, none⟩,
  ⟨.store (.ar 3 .b) (.t 14) (.t 79), none, none⟩])
  (.keep [7, 8, 9, 10, 12, 14] (.seq (.seq (.reg false [] [
  ⟨.mv (.c (vi .i64 1)), some 15, none⟩])
  (.keep [7, 8, 9, 10, 12, 14, 15] (.block 1 (.loop [7, 8, 9, 10, 12, 14, 15] (.seq (.seq (.reg false [] [
  ⟨.mv (.t 15), some 80, none⟩,
  ⟨.bin .leq .plain (.t 80) (.c (vi .i64 6)), some 81, none⟩])
  (.keep [7, 8, 9, 10, 12, 14, 15, 81] (.cond (.t 81)
  (.skip)
  (.exit 1))))
  (.keep [7, 8, 9, 10, 12, 14, 15] (.seq (.block 2 (.seq (.reg false [] [
  ⟨.mv (.t 7), some 84, none⟩,
  ⟨.call i_draw_Codes_Next [(.t 84), (.c (vi .i64 3))] 0, some 85, none⟩,
  ⟨.mv (.t 7), some 86, none⟩,
  ⟨.call Jr [(.t 86)] 0, some 87, none⟩,
  ⟨.mv (.t 85), some 16, none⟩,
  ⟨.mv (.t 87), some 17, none⟩])
  (.keep [7, 8, 9, 10, 12, 14, 15, 16, 17] (.seq (.reg false [] [
  ⟨.load true J3 (.t 10), some 89, none⟩,
  ⟨.mv (.t 16), some 90, none⟩,
  ⟨.mv (.t 17), some 91, none⟩,
  ⟨.call JC [(.t 89), (.t 90), (.t 91)] 0, some 92, none⟩,
  ⟨.mv (.t 92), some 88, none⟩,
  ⟨.extr (.t 88) 0, some 93, none⟩,
  ⟨.extr (.t 88) 1, some 94, none⟩,
  ⟨.store J3 (.t 10) (.t 93), none, none⟩,
  ⟨.mv (.t 94), some 11, none⟩])
  (.keep [7, 8, 9, 10, 11, 12, 14, 15, 16, 17] (.seq (.reg false [] [
  ⟨.load true J3 (.t 12), some 96, none⟩,
  ⟨.mv (.t 16), some 97, none⟩,
  ⟨.mv (.t 17), some 98, none⟩,
  ⟨.call JC [(.t 96), (.t 97), (.t 98)] 0, some 99, none⟩,
  ⟨.mv (.t 99), some 95, none⟩,
  ⟨.extr (.t 95) 0, some 100, none⟩,
  ⟨.extr (.t 95) 1, some 101, none⟩,
  ⟨.store J3 (.t 12) (.t 100), none, none⟩,
  ⟨.mv (.t 101), some 13, none⟩])
  (.keep [7, 8, 9, 10, 11, 12, 13, 14, 15, 16] (.seq (.seq (.reg false [] [
  ⟨.mv (.t 11), some 102, none⟩,
  ⟨.bin .neq .plain (.t 102) (.c (vi .i64 0)), some 103, none⟩,
  ⟨.mv (.t 103), some 104, none⟩,
  ⟨.mv (.t 13), some 105, some (104, false)⟩,
  ⟨.bin .neq .plain (.t 105) (.c (vi .i64 0)), some 106, some (104, false)⟩,
  ⟨.pick (.t 104) (.c (vb true)) (.t 106), some 107, none⟩])
  (.keep [7, 8, 9, 10, 12, 14, 15, 16, 107] (.cond (.t 107)
  (.seq (.reg false [] [
  ⟨.mv (.c (vb false)), some 6, none⟩])
  (.ret))
  (.skip))))
  (.keep [7, 8, 9, 10, 12, 14, 15, 16] (.seq (.seq (.reg false [] [
  ⟨.mv (.t 15), some 108, none⟩,
  ⟨.mv (.t 8), some 109, none⟩,
  ⟨.bin .eql .plain (.t 108) (.t 109), some 110, none⟩])
  (.keep [7, 8, 9, 10, 12, 14, 15, 16, 110] (.cond (.t 110)
  (.reg true [(2, 6), (4, 6), (4, 8)] [
  ⟨.mv (.t 16), some 111, none⟩,
  ⟨.faddr 3 (.t 9), some 112, none⟩,
  ⟨.load false (.i .i64) (.t 112), some 113, none⟩,
  ⟨.faddr 2 (.t 9), some 114, none⟩,
  ⟨.load false (.i .i64) (.t 114), some 115, none⟩,
  ⟨.aaddr 3 1 (.t 14) (.t 111), some 116, none⟩,
  ⟨.store .b (.t 116) (.c (vb true)), none, none⟩,
  ⟨.aaddr 3 1 (.t 14) (.t 113), some 117, none⟩,
  ⟨.store .b (.t 117) (.c (vb true)), none, none⟩,
  ⟨.aaddr 3 1 (.t 14) (.t 115), some 118, none⟩,
  ⟨.store .b (.t 118) (.c (vb true)), none, none⟩])
  (.seq (.reg false [] [
  ⟨.mv (.t 15), some 119, none⟩,
  ⟨.mv (.t 8), some 120, none⟩,
  ⟨.bin .gtr .plain (.t 119) (.t 120), some 121, none⟩])
  (.keep [7, 8, 9, 10, 12, 14, 15, 16, 121] (.cond (.t 121)
  (.reg false [] [
  ⟨.mv (.t 16), some 122, none⟩,
  ⟨.aaddr 3 1 (.t 14) (.t 122), some 123, none⟩,
  ⟨.store .b (.t 123) (.c (vb false)), none, none⟩])
  (.skip)))))))
  (.keep [7, 8, 9, 10, 12, 14, 15] (.seq (.reg false [] [
  ⟨.mv (.c (vi .i64 0)), some 18, none⟩])
  (.keep [7, 8, 9, 10, 12, 14, 15, 18] (.block 3 (.loop [7, 8, 9, 10, 12, 14, 15, 18] (.seq (.seq (.reg false [] [
  ⟨.mv (.t 18), some 124, none⟩,
  ⟨.bin .lss .plain (.t 124) (.c (vi .i64 3)), some 125, none⟩])
  (.keep [7, 8, 9, 10, 12, 14, 15, 18, 125] (.cond (.t 125)
  (.skip)
  (.exit 3))))
  (.keep [7, 8, 9, 10, 12, 14, 15, 18] (.seq (.block 4 (.seq (.reg false [] [
  ⟨.load true J3 (.t 10), some 129, none⟩,
  ⟨.mv (.t 18), some 130, none⟩,
  ⟨.call JZ [(.t 129), (.t 130)] 0, some 131, none⟩,
  ⟨.mv (.t 131), some 128, none⟩,
  ⟨.extr (.t 128) 0, some 132, none⟩,
  ⟨.extr (.t 128) 1, some 133, none⟩,
  ⟨.mv (.t 132), some 19, none⟩,
  ⟨.mv (.t 133), some 20, none⟩])
  (.keep [7, 8, 9, 10, 12, 14, 15, 18, 19, 20] (.seq (.reg false [] [
  ⟨.load true J3 (.t 12), some 135, none⟩,
  ⟨.mv (.t 18), some 136, none⟩,
  ⟨.call JZ [(.t 135), (.t 136)] 0, some 137, none⟩,
  ⟨.mv (.t 137), some 134, none⟩,
  ⟨.extr (.t 134) 0, some 138, none⟩,
  ⟨.extr (.t 134) 1, some 139, none⟩,
  ⟨.mv (.t 138), some 21, none⟩,
  ⟨.mv (.t 139), some 22, none⟩])
  (.keep [7, 8, 9, 10, 12, 14, 15, 18, 19, 20, 21, 22] (.seq (.reg false [] [
  ⟨.mv (.t 20), some 140, none⟩,
  ⟨.bin .neq .plain (.t 140) (.c (vi .i64 0)), some 141, none⟩,
  ⟨.mv (.t 141), some 142, none⟩,
  ⟨.mv (.t 18), some 143, some (142, false)⟩,
  ⟨.aaddr 3 1 (.t 14) (.t 143), some 144, some (142, false)⟩,
  ⟨.load false .b (.t 144), some 145, some (142, false)⟩,
  ⟨.un .not (.t 145), some 146, some (142, false)⟩,
  ⟨.mv (.t 146), some 147, some (142, false)⟩,
  ⟨.mv (.t 22), some 148, some (147, true)⟩,
  ⟨.bin .neq .plain (.t 148) (.c (vi .i64 0)), some 149, some (147, true)⟩,
  ⟨.mv (.t 149), some 150, some (147, true)⟩,
  ⟨.mv (.t 19), some 151, some (150, false)⟩,
  ⟨.mv (.t 21), some 152, some (150, false)⟩,
  ⟨.bin .neq .plain (.t 151) (.t 152), some 153, some (150, false)⟩,
  ⟨.pick (.t 150) (.c (vb true)) (.t 153), some 154, some (147, true)⟩,
  ⟨.pick (.t 147) (.t 154) (.c (vb false)), some 155, some (142, false)⟩,
  ⟨.pick (.t 142) (.c (vb true)) (.t 155), some 156, none⟩])
  (.keep [7, 8, 9, 10, 12, 14, 15, 18, 156] (.cond (.t 156)
  (.seq (.reg false [] [
  ⟨.mv (.c (vb false)), some 6, none⟩])
  (.ret))
  (.skip)))))))))
  (.keep [7, 8, 9, 10, 12, 14, 15, 18] (.reg false [] [
  ⟨.mv (.t 18), some 126, none⟩,
  ⟨.bin .add .plain (.t 126) (.c (vi .i64 1)), some 127, none⟩,
  ⟨.mv (.t 127), some 18, none⟩]))))))))))))))))))))
  (.keep [7, 8, 9, 10, 12, 14, 15] (.reg false [] [
  ⟨.mv (.t 15), some 82, none⟩,
  ⟨.bin .add .plain (.t 82) (.c (vi .i64 1)), some 83, none⟩,
  ⟨.mv (.t 83), some 15, none⟩])))))))))
  (.keep [12] (.seq (.reg false [] [
  ⟨.faddr 4 (.t 12), some 157, none⟩,
  ⟨.load false (.l J6) (.t 157), some 158, none⟩,
  ⟨.len false (.t 158), some 159, none⟩,
  ⟨.bin .eql .plain (.t 159) (.c (vi .i64 0)), some 160, none⟩,
  ⟨.mv (.t 160), some 6, none⟩])
  (.ret)))))))))))))))))))))))
def J3w : TFn := ⟨3, 161, JbG, [.tmp 6], false⟩
def Jhi : TCo := .seq (.reg false [] [
  ⟨.box J3 (.t 0), some 4, none⟩,
  ⟨.newbox J3, some 8, none⟩,
  ⟨.mv (.c (vi .i64 0)), some 9, none⟩])
  (.keep [1, 2, 3, 4, 8] (.seq (.reg false [] [
  ⟨.load true J3 (.t 4), some 11, none⟩,
  ⟨.mv (.t 1), some 12, none⟩,
  ⟨.call J15 [(.t 11), (.t 12)] 0, some 13, none⟩,
  ⟨.mv (.t 13), some 10, none⟩])
  (.keep [1, 2, 3, 4, 8, 10] (.seq (.block 0 (.seq (.reg false [] [
  ⟨.mv (.t 10), some 15, none⟩,
  ⟨.bin .neq .plain (.t 15) (.c (vi .i64 0)), some 16, none⟩,
  ⟨.mv (.t 16), some 14, none⟩])
  (.keep [1, 2, 3, 4, 8, 10, 14] (.cond (.t 14)
  (.seq (.reg false [] [
  ⟨.build J3 [], some 17, none⟩,
  ⟨.mv (.t 10), some 18, none⟩,
  ⟨.store J3 (.t 8) (.t 17), none, none⟩,
  ⟨.mv (.t 18), some 9, none⟩])
  (.ret))
  (.seq (.reg false [] [
  ⟨.mv (.t 3), some 20, none⟩,
  ⟨.bin .lss .plain (.t 20) (.c (vi .i64 0)), some 21, none⟩,
  ⟨.mv (.t 21), some 22, none⟩,
  ⟨.mv (.t 3), some 23, some (22, false)⟩,
  ⟨.bin .gtr .plain (.t 23) (.c (vi .i64 256)), some 24, some (22, false)⟩,
  ⟨.pick (.t 22) (.c (vb true)) (.t 24), some 25, none⟩,
  ⟨.mv (.t 25), some 19, none⟩])
  (.keep [1, 2, 3, 4, 8, 19] (.cond (.t 19)
  (.seq (.reg false [] [
  ⟨.build J3 [], some 26, none⟩,
  ⟨.store J3 (.t 8) (.t 26), none, none⟩,
  ⟨.mv (.c (vi .i64 1)), some 9, none⟩])
  (.ret))
  (.seq (.reg false [] [
  ⟨.mv (.t 2), some 28, none⟩,
  ⟨.len true (.t 28), some 29, none⟩,
  ⟨.bin .neq .plain (.t 29) (.c (vi .i64 256)), some 30, none⟩,
  ⟨.mv (.t 30), some 27, none⟩])
  (.keep [1, 2, 3, 4, 8, 27] (.cond (.t 27)
  (.seq (.reg false [] [
  ⟨.build J3 [], some 31, none⟩,
  ⟨.store J3 (.t 8) (.t 31), none, none⟩,
  ⟨.mv (.c (vi .i64 2)), some 9, none⟩])
  (.ret))
  (.skip)))))))))))
  (.keep [1, 2, 3, 4, 8] (.seq (.reg true [] [
  ⟨.load true J3 (.t 4), some 32, none⟩,
  ⟨.mv (.t 1), some 33, none⟩,
  ⟨.mv (.t 2), some 34, none⟩,
  ⟨.mv (.t 3), some 35, none⟩,
  ⟨.slice .str (.t 34) none (some (.t 35)) none, some 36, none⟩,
  ⟨.faddr 0 (.t 4), some 37, none⟩,
  ⟨.load false (.l .s) (.t 37), some 38, none⟩,
  ⟨.mv (.t 1), some 39, none⟩,
  ⟨.iaddr .s (.t 38) (.t 39), some 40, none⟩,
  ⟨.load false .s (.t 40), some 41, none⟩,
  ⟨.mv (.t 3), some 42, none⟩,
  ⟨.slice .str (.t 41) (some (.t 42)) none none, some 43, none⟩,
  ⟨.bin .add .plain (.t 36) (.t 43), some 44, none⟩,
  ⟨.call J3T [(.t 32), (.t 33), (.t 44)] 0, some 45, none⟩,
  ⟨.store J3 (.t 8) (.t 45), none, none⟩,
  ⟨.mv (.c (vi .i64 0)), some 9, none⟩])
  (.ret)))))))
def J5D : TFn := ⟨4, 46, Jhi, [.cell 8 true J3, .tmp 9], false⟩
def JaY : TCo := .seq (.reg false [] [
  ⟨.mv (.c (vb false)), some 6, none⟩])
  (.keep [0, 1, 2] (.seq (.seq (.reg false [] [
  ⟨.call J0a [] 0, some 22, none⟩,
  ⟨.un .not (.t 22), some 23, none⟩])
  (.keep [0, 1, 2, 23] (.cond (.t 23)
  (.seq (.reg false [] [
  ⟨.mv (.c (vb false)), some 6, none⟩])
  (.ret))
  (.skip))))
  (.keep [0, 1, 2] (.seq (.reg false [] [
  ⟨.mv (.t 0), some 24, none⟩,
  ⟨.call J0N [(.t 24), (.c (vi .i64 100))] 1, some 25, none⟩,
  ⟨.mv (.t 25), some 7, none⟩])
  (.keep [1, 2, 7] (.seq (.reg false [] [
  ⟨.call J02 [(.c (vi .i64 2))] 0, some 27, none⟩,
  ⟨.mv (.t 27), some 26, none⟩,
  ⟨.extr (.t 26) 0, some 28, none⟩,
  ⟨.extr (.t 26) 1, some 29, none⟩,
  ⟨.newbox J3, some 8, none⟩,
  ⟨.store J3 (.t 8) (.t 28), none, none⟩,
  ⟨.mv (.t 29), some 9, none⟩])
  (.keep [1, 2, 7, 8, 9] (.seq (.reg true [(0, 2)] [
  ⟨.load true J3 (.t 8), some 31, none⟩,
  ⟨.mv (.t 7), some 32, none⟩,
  ⟨.call Jr [(.t 32)] 0, some 33, none⟩,
  ⟨.call JC [(.t 31), (.c (vi .i64 1)), (.t 33)] 0, some 34, none⟩,
  ⟨.mv (.t 34), some 30, none⟩,
  ⟨.extr (.t 30) 0, some 35, none⟩,
  ⟨.extr (.t 30) 1, some 36, none⟩,
  ⟨.store J3 (.t 8) (.t 35), none, none⟩,
  ⟨.mv (.t 36), some 10, none⟩])
  (.keep [1, 2, 7, 8, 9, 10] (.seq (.seq (.reg false [] [
  ⟨.mv (.t 9), some 37, none⟩,
  ⟨.bin .neq .plain (.t 37) (.c (vi .i64 0)), some 38, none⟩,
  ⟨.mv (.t 38), some 39, none⟩,
  ⟨.mv (.t 10), some 40, some (39, false)⟩,
  ⟨.bin .neq .plain (.t 40) (.c (vi .i64 0)), some 41, some (39, false)⟩,
  ⟨.pick (.t 39) (.c (vb true)) (.t 41), some 42, none⟩,
  ⟨.mv (.t 42), some 43, none⟩,
  ⟨.faddr 0 (.t 8), some 44, some (43, false)⟩,
  ⟨.load false (.l .s) (.t 44), some 45, some (43, false)⟩,
  ⟨.len false (.t 45), some 46, some (43, false)⟩,
  ⟨.bin .neq .plain (.t 46) (.c (vi .i64 2)), some 47, some (43, false)⟩,
  ⟨.pick (.t 43) (.c (vb true)) (.t 47), some 48, none⟩])
  (.keep [1, 2, 7, 8, 48] (.cond (.t 48)
  (.seq (.reg false [] [
  ⟨.mv (.c (vb false)), some 6, none⟩])
  (.ret))
  (.skip))))
  (.keep [1, 2, 7, 8] (.seq (.reg true [(1, 5), (2, 5), (3, 5)] [
  ⟨.faddr 0 (.t 8), some 49, none⟩,
  ⟨.load false (.l .s) (.t 49), some 50, none⟩,
  ⟨.iaddr .s (.t 50) (.c (vi .i64 1)), some 51, none⟩,
  ⟨.load false .s (.t 51), some 52, none⟩,
  ⟨.mv (.t 7), some 53, none⟩,
  ⟨.call Jr [(.t 53)] 0, some 54, none⟩,
  ⟨.mv (.t 52), some 11, none⟩,
  ⟨.mv (.t 54), some 12, none⟩])
  (.keep [1, 2, 8, 11, 12] (.seq (.reg false [] [
  ⟨.mv (.t 1), some 55, none⟩,
  ⟨.conv (.int .i64) (.t 55), some 56, none⟩,
  ⟨.bin .rem .plain (.t 56) (.c (vi .i64 257)), some 57, none⟩,
  ⟨.mv (.t 2), some 58, none⟩,
  ⟨.conv (.int .i64) (.t 58), some 59, none⟩,
  ⟨.bin .rem .plain (.t 59) (.c (vi .i64 257)), some 60, none⟩,
  ⟨.mv (.t 57), some 13, none⟩,
  ⟨.mv (.t 60), some 14, none⟩])
  (.keep [8, 11, 12, 13, 14] (.seq (.reg false [] [
  ⟨.load true J3 (.t 8), some 62, none⟩,
  ⟨.mv (.t 12), some 63, none⟩,
  ⟨.mv (.t 13), some 64, none⟩,
  ⟨.call J1c [(.t 62), (.c (vi .i64 1)), (.t 63), (.t 64)] 0, some 65, none⟩,
  ⟨.mv (.t 65), some 61, none⟩,
  ⟨.extr (.t 61) 0, some 66, none⟩,
  ⟨.extr (.t 61) 1, some 67, none⟩,
  ⟨.newbox J3, some 15, none⟩,
  ⟨.store J3 (.t 15) (.t 66), none, none⟩,
  ⟨.mv (.t 67), some 16, none⟩])
  (.keep [8, 11, 12, 13, 14, 15, 16] (.seq (.reg false [] [
  ⟨.load true J3 (.t 15), some 69, none⟩,
  ⟨.mv (.t 12), some 70, none⟩,
  ⟨.mv (.t 14), some 71, none⟩,
  ⟨.call J1c [(.t 69), (.c (vi .i64 1)), (.t 70), (.t 71)] 0, some 72, none⟩,
  ⟨.mv (.t 72), some 68, none⟩,
  ⟨.extr (.t 68) 0, some 73, none⟩,
  ⟨.extr (.t 68) 1, some 74, none⟩,
  ⟨.store J3 (.t 15) (.t 73), none, none⟩,
  ⟨.mv (.t 74), some 17, none⟩])
  (.keep [8, 11, 12, 13, 14, 15, 16, 17] (.seq (.seq (.reg false [] [
  ⟨.mv (.t 16), some 75, none⟩,
  ⟨.bin .neq .plain (.t 75) (.c (vi .i64 0)), some 76, none⟩,
  ⟨.mv (.t 76), some 77, none⟩,
  ⟨.mv (.t 17), some 78, some (77, false)⟩,
  ⟨.bin .neq .plain (.t 78) (.c (vi .i64 0)), some 79, some (77, false)⟩,
  ⟨.pick (.t 77) (.c (vb true)) (.t 79), some 80, none⟩,
  ⟨.mv (.t 80), some 81, none⟩,
  ⟨.faddr 0 (.t 15), some 82, some (81, false)⟩,
  ⟨.load false (.l .s) (.t 82), some 83, some (81, false)⟩,
  ⟨.len false (.t 83), some 84, some (81, false)⟩,
  ⟨.bin .neq .plain (.t 84) (.c (vi .i64 2)), some 85, some (81, false)⟩,
  ⟨.pick (.t 81) (.c (vb true)) (.t 85), some 86, none⟩,
  ⟨.mv (.t 86), some 87, none⟩,
  ⟨.mv (.t 12), some 88, some (87, false)⟩,
  ⟨.len true (.t 88), some 89, some (87, false)⟩,
  ⟨.bin .neq .plain (.t 89) (.c (vi .i64 256)), some 90, some (87, false)⟩,
  ⟨.pick (.t 87) (.c (vb true)) (.t 90), some 91, none⟩,
  ⟨.mv (.t 91), some 92, none⟩,
  ⟨.mv (.t 11), some 93, some (92, false)⟩,
  ⟨.len true (.t 93), some 94, some (92, false)⟩,
  ⟨.bin .neq .plain (.t 94) (.c (vi .i64 256)), some 95, some (92, false)⟩,
  ⟨.pick (.t 92) (.c (vb true)) (.t 95), some 96, none⟩])
  (.keep [8, 11, 12, 13, 14, 15, 96] (.cond (.t 96)
  (.seq (.reg false [] [
  ⟨.mv (.c (vb false)), some 6, none⟩])
  (.ret))
  (.skip))))
  (.keep [8, 11, 12, 13, 14, 15] (.seq (.reg false [] [
  ⟨.mv (.t 13), some 97, none⟩,
  ⟨.mv (.t 14), some 98, none⟩,
  ⟨.mm true (.t 97) (.t 98), some 99, none⟩,
  ⟨.mv (.t 99), some 18, none⟩])
  (.keep [8, 11, 12, 15, 18] (.seq (.seq (.reg true [] [
  ⟨.faddr 0 (.t 15), some 100, none⟩,
  ⟨.load false (.l .s) (.t 100), some 101, none⟩,
  ⟨.iaddr .s (.t 101) (.c (vi .i64 1)), some 102, none⟩,
  ⟨.load false .s (.t 102), some 103, none⟩,
  ⟨.mv (.t 12), some 104, none⟩,
  ⟨.mv (.t 18), some 105, none⟩,
  ⟨.slice .str (.t 104) none (some (.t 105)) none, some 106, none⟩,
  ⟨.mv (.t 11), some 107, none⟩,
  ⟨.mv (.t 18), some 108, none⟩,
  ⟨.slice .str (.t 107) (some (.t 108)) none none, some 109, none⟩,
  ⟨.bin .add .plain (.t 106) (.t 109), some 110, none⟩,
  ⟨.bin .neq .plain (.t 103) (.t 110), some 111, none⟩,
  ⟨.mv (.t 111), some 112, none⟩,
  ⟨.faddr 1 (.t 15), some 113, some (112, false)⟩,
  ⟨.load false (.i .i64) (.t 113), some 114, some (112, false)⟩,
  ⟨.faddr 1 (.t 8), some 115, some (112, false)⟩,
  ⟨.load false (.i .i64) (.t 115), some 116, some (112, false)⟩,
  ⟨.bin .neq .plain (.t 114) (.t 116), some 117, some (112, false)⟩,
  ⟨.pick (.t 112) (.c (vb true)) (.t 117), some 118, none⟩])
  (.keep [8, 12, 15, 18, 118] (.cond (.t 118)
  (.seq (.reg false [] [
  ⟨.mv (.c (vb false)), some 6, none⟩])
  (.ret))
  (.skip))))
  (.keep [8, 12, 15, 18] (.seq (.seq (.reg false [] [
  ⟨.mv (.t 18), some 119, none⟩,
  ⟨.bin .eql .plain (.t 119) (.c (vi .i64 256)), some 120, none⟩])
  (.keep [8, 12, 15, 18, 120] (.cond (.t 120)
  (.seq (.reg false [] [
  ⟨.mv (.c (vb true)), some 6, none⟩])
  (.ret))
  (.skip))))
  (.keep [8, 12, 15, 18] (.seq (.reg false [] [
  ⟨.load true J3 (.t 8), some 122, none⟩,
  ⟨.mv (.t 18), some 123, none⟩,
  ⟨.build J6 [(0, (.i .i64), (.c (vi .i64 3))), (1, (.i .i64), (.c (vi .i64 2))), (4, (.i .i64), (.t 123))], some 124, none⟩,
  ⟨.call JT [(.t 122), (.t 124)] 0, some 125, none⟩,
  ⟨.mv (.t 125), some 121, none⟩,
  ⟨.extr (.t 121) 0, some 126, none⟩,
  ⟨.extr (.t 121) 1, some 127, none⟩,
  ⟨.newbox J3, some 19, none⟩,
  ⟨.store J3 (.t 19) (.t 126), none, none⟩,
  ⟨.mv (.t 127), some 20, none⟩])
  (.keep [12, 15, 19, 20] (.seq (.reg false [] [
  ⟨.load true J3 (.t 19), some 129, none⟩,
  ⟨.mv (.t 12), some 130, none⟩,
  ⟨.call JC [(.t 129), (.c (vi .i64 1)), (.t 130)] 0, some 131, none⟩,
  ⟨.mv (.t 131), some 128, none⟩,
  ⟨.extr (.t 128) 0, some 132, none⟩,
  ⟨.extr (.t 128) 1, some 133, none⟩,
  ⟨.store J3 (.t 19) (.t 132), none, none⟩,
  ⟨.mv (.t 133), some 21, none⟩])
  (.keep [15, 19, 20, 21] (.seq (.reg true [] [
  ⟨.mv (.t 20), some 134, none⟩,
  ⟨.bin .eql .plain (.t 134) (.c (vi .i64 0)), some 135, none⟩,
  ⟨.mv (.t 135), some 136, none⟩,
  ⟨.mv (.t 21), some 137, some (136, true)⟩,
  ⟨.bin .eql .plain (.t 137) (.c (vi .i64 0)), some 138, some (136, true)⟩,
  ⟨.pick (.t 136) (.t 138) (.c (vb false)), some 139, none⟩,
  ⟨.mv (.t 139), some 140, none⟩,
  ⟨.faddr 1 (.t 19), some 141, some (140, true)⟩,
  ⟨.load false (.i .i64) (.t 141), some 142, some (140, true)⟩,
  ⟨.bin .eql .plain (.t 142) (.c (vi .i64 2)), some 143, some (140, true)⟩,
  ⟨.pick (.t 140) (.t 143) (.c (vb false)), some 144, none⟩,
  ⟨.mv (.t 144), some 145, none⟩,
  ⟨.faddr 0 (.t 19), some 146, some (145, true)⟩,
  ⟨.load false (.l .s) (.t 146), some 147, some (145, true)⟩,
  ⟨.len false (.t 147), some 148, some (145, true)⟩,
  ⟨.bin .eql .plain (.t 148) (.c (vi .i64 2)), some 149, some (145, true)⟩,
  ⟨.pick (.t 145) (.t 149) (.c (vb false)), some 150, none⟩,
  ⟨.mv (.t 150), some 151, none⟩,
  ⟨.faddr 0 (.t 19), some 152, some (151, true)⟩,
  ⟨.load false (.l .s) (.t 152), some 153, some (151, true)⟩,
  ⟨.iaddr .s (.t 153) (.c (vi .i64 1)), some 154, some (151, true)⟩,
  ⟨.load false .s (.t 154), some 155, some (151, true)⟩,
  ⟨.faddr 0 (.t 15), some 156, some (151, true)⟩,
  ⟨.load false (.l .s) (.t 156), some 157, some (151, true)⟩,
  ⟨.iaddr .s (.t 157) (.c (vi .i64 1)), some 158, some (151, true)⟩,
  ⟨.load false .s (.t 158), some 159, some (151, true)⟩,
  ⟨.bin .eql .plain (.t 155) (.t 159), some 160, some (151, true)⟩,
  ⟨.pick (.t 151) (.t 160) (.c (vb false)), some 161, none⟩,
  ⟨.mv (.t 161), some 162, none⟩,
  ⟨.load true J3 (.t 19), some 163, some (162, true)⟩,
  ⟨.call J1p [(.t 163)] 0, some 164, some (162, true)⟩,
  ⟨.pick (.t 162) (.t 164) (.c (vb false)), some 165, none⟩,
  ⟨.mv (.t 165), some 6, none⟩])
  (.ret)))))))))))))))))))))))))))))))))
def J2Z : TFn := ⟨3, 166, JaY, [.tmp 6], false⟩
def Jdw : TCo := .seq (.reg false [] [
  ⟨.box J3 (.t 0), some 1, none⟩,
  ⟨.newbox J3, some 2, none⟩,
  ⟨.mv (.c (vi .i64 0)), some 3, none⟩])
  (.keep [1, 2] (.seq (.seq (.reg false [] [
  ⟨.load true J3 (.t 1), some 4, none⟩,
  ⟨.call J0z [(.t 4)] 0, some 5, none⟩,
  ⟨.un .not (.t 5), some 6, none⟩])
  (.keep [1, 2, 6] (.cond (.t 6)
  (.seq (.reg false [] [
  ⟨.build J3 [], some 7, none⟩,
  ⟨.store J3 (.t 2) (.t 7), none, none⟩,
  ⟨.mv (.c (vi .i64 15)), some 3, none⟩])
  (.ret))
  (.skip))))
  (.keep [1, 2] (.seq (.reg true [(3, 5), (3, 7), (5, 8)] [
  ⟨.faddr 0 (.t 1), some 8, none⟩,
  ⟨.load false (.l .s) (.t 8), some 9, none⟩,
  ⟨.len false (.t 9), some 10, none⟩,
  ⟨.call J1i [(.t 10)] 0, some 11, none⟩,
  ⟨.faddr 1 (.t 1), some 12, none⟩,
  ⟨.load false (.i .i64) (.t 12), some 13, none⟩,
  ⟨.faddr 4 (.t 1), some 14, none⟩,
  ⟨.load false (.l J6) (.t 14), some 15, none⟩,
  ⟨.call Ju [(.t 15)] 1, some 16, none⟩,
  ⟨.build J3 [(0, (.l .s), (.t 11)), (1, (.i .i64), (.t 13)), (4, (.l J6), (.t 16))], some 17, none⟩,
  ⟨.store J3 (.t 2) (.t 17), none, none⟩,
  ⟨.mv (.c (vi .i64 0)), some 3, none⟩])
  (.ret)))))
def J4c : TFn := ⟨1, 18, Jdw, [.cell 2 true J3, .tmp 3], false⟩
def JcN : TCo := .seq (.reg false [] [
  ⟨.mv (.c (vs [])), some 2, none⟩])
  (.keep [0] (.seq (.reg false [] [
  ⟨.mv (.t 0), some 6, none⟩,
  ⟨.call i_draw_Codes_Next [(.t 6), (.c (vi .i64 5))] 0, some 7, none⟩,
  ⟨.mv (.t 7), some 3, none⟩])
  (.keep [0, 3] (.seq (.seq (.reg false [] [
  ⟨.mv (.t 0), some 8, none⟩,
  ⟨.call i_draw_Codes_Next [(.t 8), (.c (vi .i64 6))] 0, some 9, none⟩,
  ⟨.bin .eql .plain (.t 9) (.c (vi .i64 0)), some 10, none⟩])
  (.keep [0, 3, 10] (.cond (.t 10)
  (.reg false [] [
  ⟨.mv (.t 0), some 11, none⟩,
  ⟨.call i_draw_Codes_Next [(.t 11), (.c (vi .i64 14))] 0, some 12, none⟩,
  ⟨.mv (.t 12), some 3, none⟩])
  (.skip))))
  (.keep [0, 3] (.seq (.reg false [] [
  ⟨.mv (.t 3), some 13, none⟩,
  ⟨.mkslice true (.i .u8) 1 (.c (vi .i64 0)) (.t 13), some 14, none⟩,
  ⟨.mv (.t 14), some 4, none⟩])
  (.keep [0, 3, 4] (.seq (.seq (.reg false [] [
  ⟨.mv (.c (vi .i64 0)), some 5, none⟩])
  (.keep [0, 3, 4, 5] (.block 0 (.loop [0, 3, 4, 5] (.seq (.seq (.reg false [] [
  ⟨.mv (.t 5), some 15, none⟩,
  ⟨.mv (.t 3), some 16, none⟩,
  ⟨.bin .lss .plain (.t 15) (.t 16), some 17, none⟩])
  (.keep [0, 3, 4, 5, 17] (.cond (.t 17)
  (.skip)
  (.exit 0))))
  (.keep [0, 3, 4, 5] (.seq (.block 1 (.reg false [] [
  ⟨.mv (.t 4), some 20, none⟩,
  ⟨.mv (.t 0), some 21, none⟩,
  ⟨.call i_draw_Codes_Next [(.t 21), (.c (vi .i64 3))] 0, some 22, none⟩,
  ⟨.bin .add .plain (.c (vi .i64 97)) (.t 22), some 23, none⟩,
  ⟨.conv (.int .u8) (.t 23), some 24, none⟩,
  ⟨.lits false (.i .u8) 1 [(0, (.t 24))], some 25, none⟩,
  ⟨.app (.i .u8) 1 (.t 20) (.t 25), some 26, none⟩,
  ⟨.mv (.t 26), some 4, none⟩]))
  (.keep [0, 3, 4, 5] (.reg false [] [
  ⟨.mv (.t 5), some 18, none⟩,
  ⟨.bin .add .plain (.t 18) (.c (vi .i64 1)), some 19, none⟩,
  ⟨.mv (.t 19), some 5, none⟩])))))))))
  (.keep [4] (.seq (.reg false [] [
  ⟨.mv (.t 4), some 27, none⟩,
  ⟨.conv .toStr (.t 27), some 28, none⟩,
  ⟨.mv (.t 28), some 2, none⟩])
  (.ret)))))))))))
def J7A : TFn := ⟨1, 29, JcN, [.tmp 2], false⟩
def JaZ : TCo := .seq (.reg false [] [
  ⟨.newbox J3, some 2, none⟩])
  (.keep [0, 2] (.seq (.reg false [] [
  ⟨.mv (.t 0), some 11, none⟩,
  ⟨.call i_draw_Codes_Next [(.t 11), (.c (vi .i64 4))] 0, some 12, none⟩,
  ⟨.bin .add .plain (.c (vi .i64 1)) (.t 12), some 13, none⟩,
  ⟨.call J7h [(.t 13)] 0, some 14, none⟩,
  ⟨.mv (.t 14), some 10, none⟩,
  ⟨.extr (.t 10) 0, some 15, none⟩,
  ⟨.extr (.t 10) 1, some 16, none⟩,
  ⟨.newbox J3, some 3, none⟩,
  ⟨.store J3 (.t 3) (.t 15), none, none⟩,
  ⟨.mv (.t 16), some 4, none⟩])
  (.keep [0, 2, 3] (.seq (.tidy [2, 3] (.seq (.reg false [] [
  ⟨.mv (.t 0), some 17, none⟩,
  ⟨.call i_draw_Codes_Next [(.t 17), (.c (vi .i64 6))] 0, some 18, none⟩,
  ⟨.mv (.t 18), some 5, none⟩])
  (.keep [0, 2, 3, 5] (.block 0 (.loop [0, 2, 3, 5] (.seq (.seq (.reg false [] [
  ⟨.mv (.t 5), some 19, none⟩,
  ⟨.bin .gtr .plain (.t 19) (.c (vi .i64 0)), some 20, none⟩])
  (.keep [0, 2, 3, 5, 20] (.cond (.t 20)
  (.skip)
  (.exit 0))))
  (.keep [0, 2, 3, 5] (.seq (.tidy [0, 2, 3, 5] (.block 1 (.seq (.tidy [0, 2, 3, 5] (.seq (.reg true [(0, 7), (0, 12), (3, 12), (6, 12), (7, 12), (8, 12)] [
  ⟨.load true J3 (.t 3), some 24, none⟩,
  ⟨.mv (.t 0), some 25, none⟩,
  ⟨.faddr 0 (.t 3), some 26, none⟩,
  ⟨.load false (.l .s) (.t 26), some 27, none⟩,
  ⟨.len false (.t 27), some 28, none⟩,
  ⟨.faddr 1 (.t 3), some 29, none⟩,
  ⟨.load false (.i .i64) (.t 29), some 30, none⟩,
  ⟨.call J3g [(.t 25), (.t 28), (.t 30)] 0, some 31, none⟩,
  ⟨.call J5h [(.t 24), (.t 31)] 0, some 32, none⟩,
  ⟨.mv (.t 32), some 23, none⟩,
  ⟨.extr (.t 23) 0, some 33, none⟩,
  ⟨.extr (.t 23) 1, some 34, none⟩,
  ⟨.newbox J3, some 6, none⟩,
  ⟨.store J3 (.t 6) (.t 33), none, none⟩,
  ⟨.mv (.t 34), some 7, none⟩])
  (.keep [0, 2, 3, 5, 6, 7] (.seq (.reg false [] [
  ⟨.mv (.t 7), some 35, none⟩,
  ⟨.bin .eql .plain (.t 35) (.c (vi .i64 0)), some 36, none⟩,
  ⟨.mv (.t 36), some 37, none⟩,
  ⟨.mv (.t 0), some 38, some (37, true)⟩,
  ⟨.call i_draw_Codes_Next [(.t 38), (.c (vi .i64 2))] 0, some 39, some (37, true)⟩,
  ⟨.bin .eql .plain (.t 39) (.c (vi .i64 0)), some 40, some (37, true)⟩,
  ⟨.pick (.t 37) (.t 40) (.c (vb false)), some 41, none⟩])
  (.keep [0, 2, 3, 5, 6, 41] (.cond (.t 41)
  (.reg false [] [
  ⟨.load true J3 (.t 6), some 42, none⟩,
  ⟨.store J3 (.t 3) (.t 42), none, none⟩])
  (.skip)))))))
  (.keep [0, 2, 3, 5] (.seq (.reg true [(0, 5), (0, 7), (0, 12), (3, 12), (5, 12), (7, 12), (8, 12)] [
  ⟨.load true J3 (.t 3), some 44, none⟩,
  ⟨.mv (.t 0), some 45, none⟩,
  ⟨.faddr 0 (.t 3), some 46, none⟩,
  ⟨.load false (.l .s) (.t 46), some 47, none⟩,
  ⟨.len false (.t 47), some 48, none⟩,
  ⟨.call i_draw_Codes_Next [(.t 45), (.t 48)] 0, some 49, none⟩,
  ⟨.mv (.t 0), some 50, none⟩,
  ⟨.call Jr [(.t 50)] 0, some 51, none⟩,
  ⟨.call J5A [(.t 44), (.t 49), (.t 51)] 0, some 52, none⟩,
  ⟨.mv (.t 52), some 43, none⟩,
  ⟨.extr (.t 43) 0, some 53, none⟩,
  ⟨.extr (.t 43) 1, some 54, none⟩,
  ⟨.newbox J3, some 8, none⟩,
  ⟨.store J3 (.t 8) (.t 53), none, none⟩,
  ⟨.mv (.t 54), some 9, none⟩])
  (.keep [0, 2, 3, 5, 8, 9] (.seq (.reg false [] [
  ⟨.mv (.t 9), some 55, none⟩,
  ⟨.bin .eql .plain (.t 55) (.c (vi .i64 0)), some 56, none⟩])
  (.keep [0, 2, 3, 5, 8, 56] (.cond (.t 56)
  (.reg false [] [
  ⟨.load true J3 (.t 8), some 57, none⟩,
  ⟨.store J3 (.t 3) (.t 57), none, none⟩])
  (.skip))))))))))
  (.keep [0, 2, 3, 5] (.reg false [] [
  ⟨.mv (.t 5), some 21, none⟩,
  ⟨.bin .sub .plain (.t 21) (.c (vi .i64 1)), some 22, none⟩,
  ⟨.mv (.t 22), some 5, none⟩]))))))))))
  (.keep [2, 3] (.seq (.reg false [] [
  ⟨.load true J3 (.t 3), some 58, none⟩,
  ⟨.store J3 (.t 2) (.t 58), none, none⟩])
  (.ret)))))))
def J6J : TFn := ⟨1, 59, JaZ, [.cell 2 true J3], false⟩
def Jht : TCo := .seq (.reg false [] [
  ⟨.box J3 (.t 0), some 1, none⟩,
  ⟨.mv (.c (vb false)), some 2, none⟩])
  (.keep [1] (.seq (.reg false [] [
  ⟨.faddr 0 (.t 1), some 3, none⟩,
  ⟨.load false (.l .s) (.t 3), some 4, none⟩,
  ⟨.len false (.t 4), some 5, none⟩,
  ⟨.bin .leq .plain (.t 5) (.c (vi .i64 70)), some 6, none⟩,
  ⟨.mv (.t 6), some 7, none⟩,
  ⟨.faddr 2 (.t 1), some 8, some (7, true)⟩,
  ⟨.load false (.l (.i .i64)) (.t 8), some 9, some (7, true)⟩,
  ⟨.len false (.t 9), some 10, some (7, true)⟩,
  ⟨.bin .leq .plain (.t 10) (.c (vi .i64 70)), some 11, some (7, true)⟩,
  ⟨.pick (.t 7) (.t 11) (.c (vb false)), some 12, none⟩,
  ⟨.mv (.t 12), some 13, none⟩,
  ⟨.faddr 4 (.t 1), some 14, some (13, true)⟩,
  ⟨.load false (.l J6) (.t 14), some 15, some (13, true)⟩,
  ⟨.len false (.t 15), some 16, some (13, true)⟩,
  ⟨.bin .leq .plain (.t 16) (.c (vi .i64 70)), some 17, some (13, true)⟩,
  ⟨.pick (.t 13) (.t 17) (.c (vb false)), some 18, none⟩,
  ⟨.mv (.t 18), some 2, none⟩])
  (.ret)))
def JaU : TFn := ⟨1, 19, Jht, [.tmp 2], false⟩
def Jev : TCo := .seq (.reg false [] [
  ⟨.box J3 (.t 0), some 1, none⟩,
  ⟨.newbox J3, some 2, none⟩,
  ⟨.mv (.c (vi .i64 0)), some 3, none⟩])
  (.keep [1, 2] (.seq (.seq (.reg false [] [
  ⟨.load true J3 (.t 1), some 4, none⟩,
  ⟨.call J1p [(.t 4)] 0, some 5, none⟩,
  ⟨.un .not (.t 5), some 6, none⟩])
  (.keep [1, 2, 6] (.cond (.t 6)
  (.seq (.reg false [] [
  ⟨.build J3 [], some 7, none⟩,
  ⟨.store J3 (.t 2) (.t 7), none, none⟩,
  ⟨.mv (.c (vi .i64 15)), some 3, none⟩])
  (.ret))
  (.skip))))
  (.keep [1, 2] (.seq (.reg true [(3, 5), (3, 7), (5, 8)] [
  ⟨.faddr 0 (.t 1), some 8, none⟩,
  ⟨.load false (.l .s) (.t 8), some 9, none⟩,
  ⟨.len false (.t 9), some 10, none⟩,
  ⟨.call J51 [(.t 10)] 0, some 11, none⟩,
  ⟨.faddr 1 (.t 1), some 12, none⟩,
  ⟨.load false (.i .i64) (.t 12), some 13, none⟩,
  ⟨.faddr 4 (.t 1), some 14, none⟩,
  ⟨.load false (.l J6) (.t 14), some 15, none⟩,
  ⟨.appn J6 48 (.t 15), some 16, none⟩,
  ⟨.build J3 [(0, (.l .s), (.t 11)), (1, (.i .i64), (.t 13)), (4, (.l J6), (.t 16))], some 17, none⟩,
  ⟨.store J3 (.t 2) (.t 17), none, none⟩,
  ⟨.mv (.c (vi .i64 0)), some 3, none⟩])
  (.ret)))))
def J8W : TFn := ⟨1, 18, Jev, [.cell 2 true J3, .tmp 3], false⟩
def JjO : TCo := .seq (.reg false [] [
  ⟨.box J3 (.t 0), some 2, none⟩,
  ⟨.box J3 (.t 1), some 3, none⟩,
  ⟨.mv (.c (vb false)), some 4, none⟩])
  (.keep [2, 3] (.seq (.seq (.reg false [] [
  ⟨.faddr 0 (.t 2), some 8, none⟩,
  ⟨.load false (.l .s) (.t 8), some 9, none⟩,
  ⟨.len false (.t 9), some 10, none⟩,
  ⟨.faddr 0 (.t 3), some 11, none⟩,
  ⟨.load false (.l .s) (.t 11), some 12, none⟩,
  ⟨.len false (.t 12), some 13, none⟩,
  ⟨.bin .neq .plain (.t 10) (.t 13), some 14, none⟩,
  ⟨.mv (.t 14), some 15, none⟩,
  ⟨.faddr 1 (.t 2), some 16, some (15, false)⟩,
  ⟨.load false (.i .i64) (.t 16), some 17, some (15, false)⟩,
  ⟨.faddr 1 (.t 3), some 18, some (15, false)⟩,
  ⟨.load false (.i .i64) (.t 18), some 19, some (15, false)⟩,
  ⟨.bin .neq .plain (.t 17) (.t 19), some 20, some (15, false)⟩,
  ⟨.pick (.t 15) (.c (vb true)) (.t 20), some 21, none⟩,
  ⟨.mv (.t 21), some 22, none⟩,
  ⟨.faddr 3 (.t 2), some 23, some (22, false)⟩,
  ⟨.load false .b (.t 23), some 24, some (22, false)⟩,
  ⟨.faddr 3 (.t 3), some 25, some (22, false)⟩,
  ⟨.load false .b (.t 25), some 26, some (22, false)⟩,
  ⟨.bin .neq .bool (.t 24) (.t 26), some 27, some (22, false)⟩,
  ⟨.pick (.t 22) (.c (vb true)) (.t 27), some 28, none⟩,
  ⟨.mv (.t 28), some 29, none⟩,
  ⟨.faddr 2 (.t 2), some 30, some (29, false)⟩,
  ⟨.load false (.l (.i .i64)) (.t 30), some 31, some (29, false)⟩,
  ⟨.len false (.t 31), some 32, some (29, false)⟩,
  ⟨.faddr 2 (.t 3), some 33, some (29, false)⟩,
  ⟨.load false (.l (.i .i64)) (.t 33), some 34, some (29, false)⟩,
  ⟨.len false (.t 34), some 35, some (29, false)⟩,
  ⟨.bin .neq .plain (.t 32) (.t 35), some 36, some (29, false)⟩,
  ⟨.pick (.t 29) (.c (vb true)) (.t 36), some 37, none⟩,
  ⟨.mv (.t 37), some 38, none⟩,
  ⟨.faddr 4 (.t 2), some 39, some (38, false)⟩,
  ⟨.load false (.l J6) (.t 39), some 40, some (38, false)⟩,
  ⟨.len false (.t 40), some 41, some (38, false)⟩,
  ⟨.faddr 4 (.t 3), some 42, some (38, false)⟩,
  ⟨.load false (.l J6) (.t 42), some 43, some (38, false)⟩,
  ⟨.len false (.t 43), some 44, some (38, false)⟩,
  ⟨.bin .neq .plain (.t 41) (.t 44), some 45, some (38, false)⟩,
  ⟨.pick (.t 38) (.c (vb true)) (.t 45), some 46, none⟩])
  (.keep [2, 3, 46] (.cond (.t 46)
  (.seq (.reg false [] [
  ⟨.mv (.c (vb false)), some 4, none⟩])
  (.ret))
  (.skip))))
  (.keep [2, 3] (.seq (.seq (.reg false [] [
  ⟨.mv (.c (vi .i64 0)), some 5, none⟩])
  (.keep [2, 3, 5] (.block 0 (.loop [2, 3, 5] (.seq (.seq (.reg false [] [
  ⟨.mv (.t 5), some 47, none⟩,
  ⟨.faddr 0 (.t 2), some 48, none⟩,
  ⟨.load false (.l .s) (.t 48), some 49, none⟩,
  ⟨.len false (.t 49), some 50, none⟩,
  ⟨.bin .lss .plain (.t 47) (.t 50), some 51, none⟩])
  (.keep [2, 3, 5, 51] (.cond (.t 51)
  (.skip)
  (.exit 0))))
  (.keep [2, 3, 5] (.seq (.block 1 (.seq (.reg true [] [
  ⟨.faddr 0 (.t 2), some 54, none⟩,
  ⟨.load false (.l .s) (.t 54), some 55, none⟩,
  ⟨.mv (.t 5), some 56, none⟩,
  ⟨.iaddr .s (.t 55) (.t 56), some 57, none⟩,
  ⟨.load false .s (.t 57), some 58, none⟩,
  ⟨.faddr 0 (.t 3), some 59, none⟩,
  ⟨.load false (.l .s) (.t 59), some 60, none⟩,
  ⟨.mv (.t 5), some 61, none⟩,
  ⟨.iaddr .s (.t 60) (.t 61), some 62, none⟩,
  ⟨.load false .s (.t 62), some 63, none⟩,
  ⟨.bin .neq .plain (.t 58) (.t 63), some 64, none⟩])
  (.keep [2, 3, 5, 64] (.cond (.t 64)
  (.seq (.reg false [] [
  ⟨.mv (.c (vb false)), some 4, none⟩])
  (.ret))
  (.skip)))))
  (.keep [2, 3, 5] (.reg false [] [
  ⟨.mv (.t 5), some 52, none⟩,
  ⟨.bin .add .plain (.t 52) (.c (vi .i64 1)), some 53, none⟩,
  ⟨.mv (.t 53), some 5, none⟩])))))))))
  (.keep [2, 3] (.seq (.seq (.reg false [] [
  ⟨.mv (.c (vi .i64 0)), some 6, none⟩])
  (.keep [2, 3, 6] (.block 2 (.loop [2, 3, 6] (.seq (.seq (.reg false [] [
  ⟨.mv (.t 6), some 65, none⟩,
  ⟨.faddr 2 (.t 2), some 66, none⟩,
  ⟨.load false (.l (.i .i64)) (.t 66), some 67, none⟩,
  ⟨.len false (.t 67), some 68, none⟩,
  ⟨.bin .lss .plain (.t 65) (.t 68), some 69, none⟩])
  (.keep [2, 3, 6, 69] (.cond (.t 69)
  (.skip)
  (.exit 2))))
  (.keep [2, 3, 6] (.seq (.block 3 (.seq (.reg true [] [
  ⟨.faddr 2 (.t 2), some 72, none⟩,
  ⟨.load false (.l (.i .i64)) (.t 72), some 73, none⟩,
  ⟨.mv (.t 6), some 74, none⟩,
  ⟨.iaddr (.i .i64) (.t 73) (.t 74), some 75, none⟩,
  ⟨.load false (.i .i64) (.t 75), some 76, none⟩,
  ⟨.faddr 2 (.t 3), some 77, none⟩,
  ⟨.load false (.l (.i .i64)) (.t 77), some 78, none⟩,
  ⟨.mv (.t 6), some 79, none⟩,
  ⟨.iaddr (.i .i64) (.t 78) (.t 79), some 80, none⟩,
  ⟨.load false (.i .i64) (.t 80), some 81, none⟩,
  ⟨.bin .neq .plain (.t 76) (.t 81), some 82, none⟩])
  (.keep [2, 3, 6, 82] (.cond (.t 82)
  (.seq (.reg false [] [
  ⟨.mv (.c (vb false)), some 4, none⟩])
  (.ret))
  (.skip)))))
  (.keep [2, 3, 6] (.reg false [] [
  ⟨.mv (.t 6), some 70, none⟩,
  ⟨.bin .add .plain (.t 70) (.c (vi .i64 1)), some 71, none⟩,
  ⟨.mv (.t 71), some 6, none⟩])))))))))
  (.keep [2, 3] (.seq (.seq (.reg false [] [
  ⟨.mv (.c (vi .i64 0)), some 7, none⟩])
  (.keep [2, 3, 7] (.block 4 (.loop [2, 3, 7] (.seq (.seq (.reg false [] [
  ⟨.mv (.t 7), some 83, none⟩,
  ⟨.faddr 4 (.t 2), some 84, none⟩,
  ⟨.load false (.l J6) (.t 84), some 85, none⟩,
  ⟨.len false (.t 85), some 86, none⟩,
  ⟨.bin .lss .plain (.t 83) (.t 86), some 87, none⟩])
  (.keep [2, 3, 7, 87] (.cond (.t 87)
  (.skip)
  (.exit 4))))
  (.keep [2, 3, 7] (.seq (.block 5 (.seq (.reg true [] [
  ⟨.faddr 4 (.t 2), some 90, none⟩,
  ⟨.load false (.l J6) (.t 90), some 91, none⟩,
  ⟨.mv (.t 7), some 92, none⟩,
  ⟨.iaddr J6 (.t 91) (.t 92), some 93, none⟩,
  ⟨.load true J6 (.t 93), some 94, none⟩,
  ⟨.faddr 4 (.t 3), some 95, none⟩,
  ⟨.load false (.l J6) (.t 95), some 96, none⟩,
  ⟨.mv (.t 7), some 97, none⟩,
  ⟨.iaddr J6 (.t 96) (.t 97), some 98, none⟩,
  ⟨.load true J6 (.t 98), some 99, none⟩,
  ⟨.bin .neq (.flat J6) (.t 94) (.t 99), some 100, none⟩])
  (.keep [2, 3, 7, 100] (.cond (.t 100)
  (.seq (.reg false [] [
  ⟨.mv (.c (vb false)), some 4, none⟩])
  (.ret))
  (.skip)))))
  (.keep [2, 3, 7] (.reg false [] [
  ⟨.mv (.t 7), some 88, none⟩,
  ⟨.bin .add .plain (.t 88) (.c (vi .i64 1)), some 89, none⟩,
  ⟨.mv (.t 89), some 7, none⟩])))))))))
  (.keep [] (.seq (.reg false [] [
  ⟨.mv (.c (vb true)), some 4, none⟩])
  (.ret)))))))))))
def Jbi : TFn := ⟨2, 101, JjO, [.tmp 4], false⟩
def Jiz : TCo := .seq (.reg false [] [
  ⟨.box J3 (.t 0), some 4, none⟩,
  ⟨.newbox J3, some 8, none⟩,
  ⟨.mv (.c (vi .i64 0)), some 9, none⟩])
  (.keep [1, 2, 3, 4, 8] (.seq (.seq (.reg false [] [
  ⟨.load true J3 (.t 4), some 11, none⟩,
  ⟨.mv (.t 1), some 12, none⟩,
  ⟨.call J3O [(.t 11), (.t 12)] 0, some 13, none⟩,
  ⟨.mv (.t 13), some 10, none⟩])
  (.keep [1, 2, 3, 4, 8, 10] (.seq (.reg false [] [
  ⟨.mv (.t 10), some 14, none⟩,
  ⟨.bin .neq .plain (.t 14) (.c (vi .i64 0)), some 15, none⟩])
  (.keep [1, 2, 3, 4, 8, 10, 15] (.cond (.t 15)
  (.seq (.reg false [] [
  ⟨.build J3 [], some 16, none⟩,
  ⟨.mv (.t 10), some 17, none⟩,
  ⟨.store J3 (.t 8) (.t 16), none, none⟩,
  ⟨.mv (.t 17), some 9, none⟩])
  (.ret))
  (.skip))))))
  (.keep [1, 2, 3, 4, 8] (.seq (.seq (.reg false [] [
  ⟨.mv (.t 3), some 18, none⟩,
  ⟨.bin .lss .plain (.t 18) (.c (vi .i64 0)), some 19, none⟩,
  ⟨.mv (.t 19), some 20, none⟩,
  ⟨.mv (.t 3), some 21, some (20, false)⟩,
  ⟨.bin .gtr .plain (.t 21) (.c (vi .i64 256)), some 22, some (20, false)⟩,
  ⟨.pick (.t 20) (.c (vb true)) (.t 22), some 23, none⟩])
  (.keep [1, 2, 3, 4, 8, 23] (.cond (.t 23)
  (.seq (.reg false [] [
  ⟨.build J3 [], some 24, none⟩,
  ⟨.store J3 (.t 8) (.t 24), none, none⟩,
  ⟨.mv (.c (vi .i64 1)), some 9, none⟩])
  (.ret))
  (.skip))))
  (.keep [1, 2, 3, 4, 8] (.seq (.seq (.reg false [] [
  ⟨.mv (.t 2), some 25, none⟩,
  ⟨.len true (.t 25), some 26, none⟩,
  ⟨.bin .neq .plain (.t 26) (.c (vi .i64 256)), some 27, none⟩])
  (.keep [1, 2, 3, 4, 8, 27] (.cond (.t 27)
  (.seq (.reg false [] [
  ⟨.build J3 [], some 28, none⟩,
  ⟨.store J3 (.t 8) (.t 28), none, none⟩,
  ⟨.mv (.c (vi .i64 2)), some 9, none⟩])
  (.ret))
  (.skip))))
  (.keep [1, 2, 3, 4, 8] (.seq (.reg false [] [
  ⟨.load true J3 (.t 4), some 29, none⟩,
  ⟨.callo J4E [((.t 29), false)] 2, some 30, none⟩,
  ⟨.mv (.t 1), some 31, none⟩,
  ⟨.mv (.t 2), some 32, none⟩,
  ⟨.mv (.t 3), some 33, none⟩,
  ⟨.callo J38 [((.t 30), true), ((.t 31), false), ((.t 32), false), ((.t 33), false)] 0, some 34, none⟩,
  ⟨.store J3 (.t 8) (.t 34), none, none⟩,
  ⟨.mv (.c (vi .i64 0)), some 9, none⟩])
  (.ret)))))))))
def Jcl : TFn := ⟨4, 35, Jiz, [.cell 8 true J3, .tmp 9], false⟩
def JbF : TCo := .seq (.reg false [] [
  ⟨.mv (.c (vb false)), some 4, none⟩])
  (.keep [0, 1] (.seq (.seq (.reg false [] [
  ⟨.call J0a [] 0, some 26, none⟩,
  ⟨.un .not (.t 26), some 27, none⟩])
  (.keep [0, 1, 27] (.cond (.t 27)
  (.seq (.reg false [] [
  ⟨.mv (.c (vb false)), some 4, none⟩])
  (.ret))
  (.skip))))
  (.keep [0, 1] (.seq (.reg false [] [
  ⟨.mv (.t 0), some 28, none⟩,
  ⟨.call J0N [(.t 28), (.c (vi .i64 100))] 1, some 29, none⟩,
  ⟨.mv (.t 29), some 5, none⟩])
  (.keep [1, 5] (.seq (.reg false [] [
  ⟨.call J02 [(.c (vi .i64 2))] 0, some 31, none⟩,
  ⟨.mv (.t 31), some 30, none⟩,
  ⟨.extr (.t 30) 0, some 32, none⟩,
  ⟨.extr (.t 30) 1, some 33, none⟩,
  ⟨.newbox J3, some 6, none⟩,
  ⟨.store J3 (.t 6) (.t 32), none, none⟩,
  ⟨.mv (.t 33), some 7, none⟩])
  (.keep [1, 5, 6, 7] (.seq (.reg false [] [
  ⟨.mv (.t 1), some 34, none⟩,
  ⟨.conv (.int .i64) (.t 34), some 35, none⟩,
  ⟨.bin .rem .plain (.t 35) (.c (vi .i64 6)), some 36, none⟩,
  ⟨.bin .add .plain (.c (vi .i64 1)) (.t 36), some 37, none⟩,
  ⟨.mv (.t 37), some 8, none⟩])
  (.keep [5, 6, 7, 8] (.seq (.reg false [] [
  ⟨.load true J3 (.t 6), some 39, none⟩,
  ⟨.mv (.t 8), some 40, none⟩,
  ⟨.build J6 [(0, (.i .i64), (.c (vi .i64 6))), (1, (.i .i64), (.t 40))], some 41, none⟩,
  ⟨.call JT [(.t 39), (.t 41)] 0, some 42, none⟩,
  ⟨.mv (.t 42), some 38, none⟩,
  ⟨.extr (.t 38) 0, some 43, none⟩,
  ⟨.extr (.t 38) 1, some 44, none⟩,
  ⟨.store J3 (.t 6) (.t 43), none, none⟩,
  ⟨.mv (.t 44), some 9, none⟩])
  (.keep [5, 6, 7, 8, 9] (.seq (.reg false [] [
  ⟨.load true J3 (.t 6), some 46, none⟩,
  ⟨.mv (.t 8), some 47, none⟩,
  ⟨.bin .add .plain (.t 47) (.c (vi .i64 1)), some 48, none⟩,
  ⟨.build J6 [(0, (.i .i64), (.c (vi .i64 1))), (1, (.i .i64), (.t 48))], some 49, none⟩,
  ⟨.call JT [(.t 46), (.t 49)] 0, some 50, none⟩,
  ⟨.mv (.t 50), some 45, none⟩,
  ⟨.extr (.t 45) 0, some 51, none⟩,
  ⟨.extr (.t 45) 1, some 52, none⟩,
  ⟨.store J3 (.t 6) (.t 51), none, none⟩,
  ⟨.mv (.t 52), some 10, none⟩])
  (.keep [5, 6, 7, 8, 9, 10] (.seq (.seq (.reg false [] [
  ⟨.mv (.t 7), some 53, none⟩,
  ⟨.bin .neq .plain (.t 53) (.c (vi .i64 0)), some 54, none⟩,
  ⟨.mv (.t 54), some 55, none⟩,
  ⟨.mv (.t 9), some 56, some (55, false)⟩,
  ⟨.bin .neq .plain (.t 56) (.c (vi .i64 0)), some 57, some (55, false)⟩,
  ⟨.pick (.t 55) (.c (vb true)) (.t 57), some 58, none⟩,
  ⟨.mv (.t 58), some 59, none⟩,
  ⟨.mv (.t 10), some 60, some (59, false)⟩,
  ⟨.bin .neq .plain (.t 60) (.c (vi .i64 0)), some 61, some (59, false)⟩,
  ⟨.pick (.t 59) (.c (vb true)) (.t 61), some 62, none⟩])
  (.keep [5, 6, 8, 62] (.cond (.t 62)
  (.seq (.reg false [] [
  ⟨.mv (.c (vb false)), some 4, none⟩])
  (.ret))
  (.skip))))
  (.keep [5, 6, 8] (.seq (.tidy [4, 5, 6, 8] (.seq (.reg false [] [
  ⟨.mv (.c (vi .i64 0)), some 11, none⟩])
  (.keep [5, 6, 8, 11] (.block 0 (.loop [5, 6, 8, 11] (.seq (.seq (.reg false [] [
  ⟨.mv (.t 11), some 63, none⟩,
  ⟨.mv (.t 8), some 64, none⟩,
  ⟨.bin .lss .plain (.t 63) (.t 64), some 65, none⟩])
  (.keep [5, 6, 8, 11, 65] (.cond (.t 65)
  (.skip)
  (.exit 0))))
  (.keep [5, 6, 8, 11] (.seq (.block 1 (.seq (.reg true [(0, 2), (0, 4), (0, 9), (2, 9), (4, 9), (5, 9)] [
  ⟨.load true J3 (.t 6), some 69, none⟩,
  ⟨.mv (.t 5), some 70, none⟩,
  ⟨.call i_draw_Codes_Next [(.t 70), (.c (vi .i64 2))] 0, some 71, none⟩,
  ⟨.mv (.t 5), some 72, none⟩,
  ⟨.call Jr [(.t 72)] 0, some 73, none⟩,
  ⟨.call JC [(.t 69), (.t 71), (.t 73)] 0, some 74, none⟩,
  ⟨.mv (.t 74), some 68, none⟩,
  ⟨.extr (.t 68) 0, some 75, none⟩,
  ⟨.extr (.t 68) 1, some 76, none⟩,
  ⟨.newbox J3, some 12, none⟩,
  ⟨.store J3 (.t 12) (.t 75), none, none⟩,
  ⟨.mv (.t 76), some 13, none⟩])
  (.keep [5, 6, 8, 11, 12, 13] (.seq (.seq (.reg false [] [
  ⟨.mv (.t 13), some 77, none⟩,
  ⟨.bin .neq .plain (.t 77) (.c (vi .i64 0)), some 78, none⟩,
  ⟨.mv (.t 78), some 79, none⟩,
  ⟨.faddr 3 (.t 12), some 80, some (79, false)⟩,
  ⟨.load false .b (.t 80), some 81, some (79, false)⟩,
  ⟨.mv (.t 11), some 82, some (79, false)⟩,
  ⟨.mv (.t 8), some 83, some (79, false)⟩,
  ⟨.bin .sub .plain (.t 83) (.c (vi .i64 1)), some 84, some (79, false)⟩,
  ⟨.bin .eql .plain (.t 82) (.t 84), some 85, some (79, false)⟩,
  ⟨.bin .neq .bool (.t 81) (.t 85), some 86, some (79, false)⟩,
  ⟨.pick (.t 79) (.c (vb true)) (.t 86), some 87, none⟩])
  (.keep [5, 6, 8, 11, 12, 87] (.cond (.t 87)
  (.seq (.reg false [] [
  ⟨.mv (.c (vb false)), some 4, none⟩])
  (.ret))
  (.skip))))
  (.keep [5, 6, 8, 11, 12] (.reg false [] [
  ⟨.load true J3 (.t 12), some 88, none⟩,
  ⟨.store J3 (.t 6) (.t 88), none, none⟩]))))))
  (.keep [5, 6, 8, 11] (.reg false [] [
  ⟨.mv (.t 11), some 66, none⟩,
  ⟨.bin .add .plain (.t 66) (.c (vi .i64 1)), some 67, none⟩,
  ⟨.mv (.t 67), some 11, none⟩]))))))))))
  (.keep [5, 6, 8] (.seq (.reg false [] [
  ⟨.load true J3 (.t 6), some 90, none⟩,
  ⟨.call JZ [(.t 90), (.c (vi .i64 0))] 0, some 91, none⟩,
  ⟨.mv (.t 91), some 89, none⟩,
  ⟨.extr (.t 89) 0, some 92, none⟩,
  ⟨.extr (.t 89) 1, some 93, none⟩,
  ⟨.mv (.t 92), some 14, none⟩,
  ⟨.mv (.t 93), some 15, none⟩])
  (.keep [5, 6, 8, 15] (.seq (.reg true [(0, 2), (0, 7), (2, 7), (3, 7)] [
  ⟨.load true J3 (.t 6), some 95, none⟩,
  ⟨.mv (.t 5), some 96, none⟩,
  ⟨.call Jr [(.t 96)] 0, some 97, none⟩,
  ⟨.call JC [(.t 95), (.c (vi .i64 0)), (.t 97)] 0, some 98, none⟩,
  ⟨.mv (.t 98), some 94, none⟩,
  ⟨.extr (.t 94) 0, some 99, none⟩,
  ⟨.extr (.t 94) 1, some 100, none⟩,
  ⟨.newbox J3, some 16, none⟩,
  ⟨.store J3 (.t 16) (.t 99), none, none⟩,
  ⟨.mv (.t 100), some 17, none⟩])
  (.keep [5, 6, 8, 15, 17] (.seq (.reg true [(0, 2), (0, 7), (2, 7), (3, 7)] [
  ⟨.load true J3 (.t 6), some 102, none⟩,
  ⟨.mv (.t 5), some 103, none⟩,
  ⟨.call Jr [(.t 103)] 0, some 104, none⟩,
  ⟨.call J1c [(.t 102), (.c (vi .i64 0)), (.t 104), (.c (vi .i64 5))] 0, some 105, none⟩,
  ⟨.mv (.t 105), some 101, none⟩,
  ⟨.extr (.t 101) 0, some 106, none⟩,
  ⟨.extr (.t 101) 1, some 107, none⟩,
  ⟨.newbox J3, some 18, none⟩,
  ⟨.store J3 (.t 18) (.t 106), none, none⟩,
  ⟨.mv (.t 107), some 19, none⟩])
  (.keep [5, 6, 8, 15, 17, 19] (.seq (.reg false [] [
  ⟨.load true J3 (.t 6), some 109, none⟩,
  ⟨.call J1J [(.t 109)] 0, some 110, none⟩,
  ⟨.mv (.t 110), some 108, none⟩,
  ⟨.extr (.t 108) 0, some 111, none⟩,
  ⟨.extr (.t 108) 1, some 112, none⟩,
  ⟨.newbox J3, some 20, none⟩,
  ⟨.store J3 (.t 20) (.t 111), none, none⟩,
  ⟨.mv (.t 112), some 21, none⟩])
  (.keep [5, 8, 15, 17, 19, 20, 21] (.seq (.reg true [(0, 2), (0, 7), (2, 7), (3, 7)] [
  ⟨.load true J3 (.t 20), some 114, none⟩,
  ⟨.mv (.t 5), some 115, none⟩,
  ⟨.call Jr [(.t 115)] 0, some 116, none⟩,
  ⟨.call JC [(.t 114), (.c (vi .i64 1)), (.t 116)] 0, some 117, none⟩,
  ⟨.mv (.t 117), some 113, none⟩,
  ⟨.extr (.t 113) 0, some 118, none⟩,
  ⟨.extr (.t 113) 1, some 119, none⟩,
  ⟨.newbox J3, some 22, none⟩,
  ⟨.store J3 (.t 22) (.t 118), none, none⟩,
  ⟨.mv (.t 119), some 23, none⟩])
  (.keep [8, 15, 17, 19, 20, 21, 22, 23] (.seq (.reg false [] [
  ⟨.load true J3 (.t 22), some 121, none⟩,
  ⟨.call JZ [(.t 121), (.c (vi .i64 1))] 0, some 122, none⟩,
  ⟨.mv (.t 122), some 120, none⟩,
  ⟨.extr (.t 120) 0, some 123, none⟩,
  ⟨.extr (.t 120) 1, some 124, none⟩,
  ⟨.mv (.t 123), some 24, none⟩,
  ⟨.mv (.t 124), some 25, none⟩])
  (.keep [8, 15, 17, 19, 20, 21, 23, 24, 25] (.seq (.reg false [] [
  ⟨.mv (.t 15), some 125, none⟩,
  ⟨.bin .eql .plain (.t 125) (.c (vi .i64 10)), some 126, none⟩,
  ⟨.mv (.t 126), some 127, none⟩,
  ⟨.mv (.t 17), some 128, some (127, true)⟩,
  ⟨.bin .eql .plain (.t 128) (.c (vi .i64 10)), some 129, some (127, true)⟩,
  ⟨.pick (.t 127) (.t 129) (.c (vb false)), some 130, none⟩,
  ⟨.mv (.t 130), some 131, none⟩,
  ⟨.mv (.t 19), some 132, some (131, true)⟩,
  ⟨.bin .eql .plain (.t 132) (.c (vi .i64 10)), some 133, some (131, true)⟩,
  ⟨.pick (.t 131) (.t 133) (.c (vb false)), some 134, none⟩,
  ⟨.mv (.t 134), some 135, none⟩,
  ⟨.mv (.t 21), some 136, some (135, true)⟩,
  ⟨.bin .eql .plain (.t 136) (.c (vi .i64 0)), some 137, some (135, true)⟩,
  ⟨.pick (.t 135) (.t 137) (.c (vb false)), some 138, none⟩,
  ⟨.mv (.t 138), some 139, none⟩,
  ⟨.faddr 1 (.t 20), some 140, some (139, true)⟩,
  ⟨.load false (.i .i64) (.t 140), some 141, some (139, true)⟩,
  ⟨.mv (.t 8), some 142, some (139, true)⟩,
  ⟨.bin .eql .plain (.t 141) (.t 142), some 143, some (139, true)⟩,
  ⟨.pick (.t 139) (.t 143) (.c (vb false)), some 144, none⟩,
  ⟨.mv (.t 144), some 145, none⟩,
  ⟨.faddr 4 (.t 20), some 146, some (145, true)⟩,
  ⟨.load false (.l J6) (.t 146), some 147, some (145, true)⟩,
  ⟨.len false (.t 147), some 148, some (145, true)⟩,
  ⟨.bin .eql .plain (.t 148) (.c (vi .i64 1)), some 149, some (145, true)⟩,
  ⟨.pick (.t 145) (.t 149) (.c (vb false)), some 150, none⟩,
  ⟨.mv (.t 150), some 151, none⟩,
  ⟨.mv (.t 23), some 152, some (151, true)⟩,
  ⟨.bin .eql .plain (.t 152) (.c (vi .i64 0)), some 153, some (151, true)⟩,
  ⟨.pick (.t 151) (.t 153) (.c (vb false)), some 154, none⟩,
  ⟨.mv (.t 154), some 155, none⟩,
  ⟨.mv (.t 25), some 156, some (155, true)⟩,
  ⟨.bin .eql .plain (.t 156) (.c (vi .i64 0)), some 157, some (155, true)⟩,
  ⟨.pick (.t 155) (.t 157) (.c (vb false)), some 158, none⟩,
  ⟨.mv (.t 158), some 159, none⟩,
  ⟨.mv (.t 24), some 160, some (159, true)⟩,
  ⟨.mkslice false (.i .u8) 1 (.c (vi .i64 256)) (.c (vi .i64 256)), some 161, some (159, true)⟩,
  ⟨.conv .toStr (.t 161), some 162, some (159, true)⟩,
  ⟨.bin .eql .plain (.t 160) (.t 162), some 163, some (159, true)⟩,
  ⟨.pick (.t 159) (.t 163) (.c (vb false)), some 164, none⟩,
  ⟨.mv (.t 164), some 4, none⟩])
  (.ret)))))))))))))))))))))))))))))))
def J3q : TFn := ⟨2, 165, JbF, [.tmp 4], false⟩
end Go.Am
end
