/-
  Parts of a proof.
-/
import Derived.Test.YtkopficpneehnaaY3
set_option linter.unusedSimpArgs false
set_option linter.unusedVariables false
section
namespace Go.Am
def J9i (m : Nat) (ids : List Nat) (s : TSt) : TC → Option TC
 | .ptr b p => if b < m then some (.ptr b p) else match J2K b ids m with
  | some k => some (.ptr k p)
  | none => none
 | .slr b => if b < m then some (.slr b) else match J2K b ids m with
  | some k => some (.slr k)
  | none => match s.sto[b]? with
   | some (.arr _ t rows) => some (.d (.l t) rows)
   | _ => none
 | .slo b n => if b < m then some (.slo b n) else match J2K b ids m with
  | some k => some (.slo k n)
  | none => none
 | .ep b i p => if b < m then some (.ep b i p) else match J2K b ids m with
  | some k => some (.ep k i p)
  | none => none
 | .epo b e i p => if b < m then some (.epo b e i p) else match J2K b ids m with
  | some k => some (.epo k e i p)
  | none => none
 | x => some x
def Jar (m : Nat) (ids : List Nat) (s : TSt) : List TC → Option (List TC)
 | [] => some []
 | x :: r => match J9i m ids s x, Jar m ids s r with
  | some y, some l => some (y :: l)
  | _, _ => none
def Jc2 (m : Nat) (ids : List Nat) (s : TSt) : TA → Option TA
 | .c x => match J9i m ids s x with
  | some y => some (.c y)
  | none => none
 | .dt t x => some (.dt t x)
 | .m t cs => match Jar m ids s cs with
  | some l => match asm t l with
   | some x => some (.dt t x)
   | none => if l.any Jlh = true then some (.m t l) else none
  | none => none
 | .fn f a c => match Jar m ids s a, Jar m ids s c with
  | some a, some c => some (.fn f a c)
  | _, _ => none
def Jb7 (m : Nat) (ids : List Nat) (s : TSt) : List TA → Option (List TA)
 | [] => some []
 | x :: r => match Jc2 m ids s x, Jb7 m ids s r with
  | some y, some l => some (y :: l)
  | _, _ => none
def Jhj (m : Nat) (ids : List Nat) (s : TSt) : TV → Option TV
 | .a x => match Jc2 m ids s x with
  | some y => some (.a y)
  | none => none
 | .tup vs => match Jb7 m ids s vs with
  | some l => some (.tup l)
  | none => none
def JeJ (m : Nat) (ids : List Nat) (s : TSt) : TB → Option TB
 | .mbox t cs => match Jar m ids s cs with
  | some l => some (mkb t l)
  | none => none
 | x => some x
def J7z (m : Nat) (ids : List Nat) (s : TSt) : List TB → Option (List TB)
 | [] => some []
 | x :: r => match JeJ m ids s x, J7z m ids s r with
  | some y, some l => some (y :: l)
  | _, _ => none
def Jhg (m : Nat) (s : TSt) : List (Nat × TV) → Option (List (Nat × TV))
 | [] => some []
 | (k, x) :: r => match Jhj m [] s x, Jhg m s r with
  | some y, some l => some ((k, y) :: l)
  | _, _ => none
def J4w : List Nat → List (Nat × TV) → List (Nat × TV)
 | [], _ => []
 | k :: r, env => match tlk k env with
  | some v => (k, v) :: J4w r env
  | none => J4w r env
theorem J7F (L : Nat → Nat) (env : List (Nat × TV)) : ∀ live : List Nat, restr live (J2G L env) = J2G L (J4w live env)
 | [] => rfl
 | k :: r => by
  simp only [restr, J4w, J8S]
  cases tlk k env with
  | none => exact J7F L env r
  | some v =>
   have ih := J7F L env r
   unfold J2G at ih ⊢
   simp only [Option.map_some, List.map_cons]
   rw [ih]
section
variable {m : Nat} {ids : List Nat} {s : TSt} {L' : Nat → Nat} (h1 : ∀ b, b < m → L' b = lns s.sto b) (h2 : ∀ b k, J2K b ids m = some k → L' k = lns s.sto b)
include h1 h2
theorem Jiv {x y : TC} (h : J9i m ids s x = some y) : fin m ids (Jf s).sto (Jt (lns s.sto) x) = some (Jt L' y) := by
 cases x with
 | ptr b p =>
  simp only [J9i] at h
  simp only [Jt, fin]
  split at h
  ·rename_i hb; injection h with h; subst h; rw [if_pos hb]; try rfl
  ·rename_i hb
   rw [if_neg hb]
   split at h
   ·rename_i k hk; injection h with h; subst h; simp only [hk, Option.map_some, Jt]
   ·cases h
 | slr b =>
  simp only [J9i] at h
  simp only [Jt, fin]
  split at h
  ·rename_i hb; injection h with h; subst h; rw [if_pos hb]; simp only [Jt, h1 b hb]
  ·rename_i hb
   rw [if_neg hb]
   split at h
   ·rename_i k hk; injection h with h; subst h; rw [hk]; simp only [Jt, h2 b k hk]
   ·rename_i hk
    rw [hk]
    split at h
    ·rename_i w t rows hbk
     injection h with h; subst h
     simp only [J0C, hbk, Option.map_some, Jjp, J3p hbk, List.length_map, Nat.zero_add, if_true, List.drop_zero, Jt, cel, hdP]
    ·cases h
 | slo b n =>
  simp only [J9i] at h
  simp only [Jt, fin]
  split at h
  ·rename_i hb; injection h with h; subst h; rw [if_pos hb]; try rfl
  ·rename_i hb
   rw [if_neg hb]
   split at h
   ·rename_i k hk; injection h with h; subst h; simp only [hk, Option.map_some, Jt]
   ·cases h
 | ep b i p =>
  simp only [J9i] at h
  simp only [Jt, fin]
  split at h
  ·rename_i hb; injection h with h; subst h; rw [if_pos hb]; simp only [Jt, h1 b hb]
  ·rename_i hb
   rw [if_neg hb]
   split at h
   ·rename_i k hk; injection h with h; subst h; rw [hk]; simp only [Jt, h2 b k hk, Option.map_some]
   ·cases h
 | epo b e i p =>
  simp only [J9i] at h
  simp only [Jt, fin]
  split at h
  ·rename_i hb; injection h with h; subst h; rw [if_pos hb]; try rfl
  ·rename_i hb
   rw [if_neg hb]
   split at h
   ·rename_i k hk; injection h with h; subst h; simp only [hk, Option.map_some, Jt]
   ·cases h
 | _ => injection h with h; subst h; rfl
theorem J8n : ∀ {xs ys : List TC}, Jar m ids s xs = some ys → fin.finL m ids (Jf s).sto (xs.map (Jt (lns s.sto))) = some (ys.map (Jt L'))
 | [], ys, h => by injection h with h; subst h; rfl
 | x :: r, ys, h => by
  simp only [Jar] at h
  split at h
  ·rename_i y l hy hl
   injection h with h; subst h
   simp only [List.map_cons, fin.finL, Jiv h1 h2 hy, J8n hl]
  ·cases h
theorem Jjf {x y : TA} (h : Jc2 m ids s x = some y) : fin m ids (Jf s).sto (J0c (lns s.sto) x) = some (J0c L' y) := by
 cases x with
 | c x =>
  simp only [Jc2] at h
  split at h
  ·rename_i y hy; injection h with h; subst h; exact Jiv h1 h2 hy
  ·cases h
 | dt t x => injection h with h; subst h; rfl
 | m t cs =>
  simp only [Jc2] at h
  split at h
  ·rename_i l hl
   have e := J8n h1 h2 hl
   simp only [J0c, fin, e]
   split at h
   ·rename_i x hx
    injection h with h; subst h
    rw [Jbd L' hx, J8y]
   ·split at h
    ·rename_i hr
     injection h with h; subst h
     rw [Jf2 L' hr]
    ·cases h
  ·cases h
 | fn f a c =>
  simp only [Jc2] at h
  split at h
  ·rename_i a' c' ha hc
   injection h with h; subst h
   simp only [J0c, fin, J8n h1 h2 ha, J8n h1 h2 hc]
  ·cases h
theorem Jbz : ∀ {xs ys : List TA}, Jb7 m ids s xs = some ys → fin.finL m ids (Jf s).sto (xs.map (J0c (lns s.sto))) = some (ys.map (J0c L'))
 | [], ys, h => by injection h with h; subst h; rfl
 | x :: r, ys, h => by
  simp only [Jb7] at h
  split at h
  ·rename_i y l hy hl
   injection h with h; subst h
   simp only [List.map_cons, fin.finL, Jjf h1 h2 hy, Jbz hl]
  ·cases h
theorem JpC {x y : TV} (h : Jhj m ids s x = some y) : fin m ids (Jf s).sto (Js (lns s.sto) x) = some (Js L' y) := by
 cases x with
 | a x =>
  simp only [Jhj] at h
  split at h
  ·rename_i y hy; injection h with h; subst h; exact Jjf h1 h2 hy
  ·cases h
 | tup vs =>
  simp only [Jhj] at h
  split at h
  ·rename_i l hl
   injection h with h; subst h
   simp only [Js, fin, Jbz h1 h2 hl]
  ·cases h
theorem JnP {x y : TB} (h : JeJ m ids s x = some y) : J3f m ids (Jf s).sto (JI (lns s.sto) x) = some (JI L' y) := by
 cases x with
 | mbox t cs =>
  simp only [JeJ] at h
  split at h
  ·rename_i l hl
   injection h with h; subst h
   simp only [Ja4, J3f, J8n h1 h2 hl, JbS]
  ·cases h
 | box t x =>
  injection h with h; subst h
  simp only [Ja0, J3f, JgB]
 | _ => injection h with h; subst h; rfl
theorem J90 : ∀ {xs ys : List TB}, J7z m ids s xs = some ys → J7w m ids (Jf s).sto (xs.map (JI (lns s.sto))) = some (ys.map (JI L'))
 | [], ys, h => by injection h with h; subst h; rfl
 | x :: r, ys, h => by
  simp only [J7z] at h
  split at h
  ·rename_i y l hy hl
   injection h with h; subst h
   simp only [List.map_cons, J7w, JnP h1 h2 hy, J90 hl]
  ·cases h
end
theorem Jnz {m : Nat} {ids : List Nat} {s : TSt} {x y : TB} (h : JeJ m ids s x = some y) : lnB y = lnB x := by
 cases x with
 | mbox t cs =>
  simp only [JeJ] at h
  split at h
  ·injection h with h; subst h; exact Jcd _ _
  ·cases h
 | _ => injection h with h; subst h; rfl
theorem J82 {m : Nat} {ids : List Nat} {s : TSt} : ∀ {xs ys : List TB}, J7z m ids s xs = some ys → ys.length = xs.length ∧ ∀ (k : Nat), lns ys k = lns xs k
 | [], ys, h => by injection h with h; subst h; exact ⟨rfl, fun _ => rfl⟩
 | x :: r, ys, h => by
  simp only [J7z] at h
  split at h
  ·rename_i y l hy hl
   injection h with h; subst h
   obtain ⟨q1, q2⟩ := J82 hl
   refine ⟨by simp [q1], fun k => ?_⟩
   cases k with
   | zero => exact Jnz hy
   | succ k => exact q2 k
  ·cases h
theorem JhA {m : Nat} {s : TSt} {L' : Nat → Nat} (h1 : ∀ b, b < m → L' b = lns s.sto b) : ∀ {env env' : List (Nat × TV)}, Jhg m s env = some env' → JbN m (Jf s).sto (J2G (lns s.sto) env) = some (J2G L' env')
 | [], env', h => by injection h with h; subst h; rfl
 | (k, x) :: r, env', h => by
  simp only [Jhg] at h
  split at h
  ·rename_i y l hy hl
   injection h with h; subst h
   simp only [J2G, List.map_cons, JbN]
   rw [JpC (ids := []) h1 (fun b k hk => by cases hk) hy]
   have ih := JhA h1 hl
   unfold J2G at ih
   rw [ih]
  ·cases h
def J5N (n : Nat) (live : List Nat) (s : TSt) : Option TSt :=
 if s.sto.length = n then some ⟨J4w live s.env, s.sto⟩
 else match Jhg n s (J4w live s.env), J7z n [] s (s.sto.take n) with
  | some e, some l => some ⟨e, l⟩
  | _, _ => none
theorem J6t {n : Nat} {live : List Nat} {s s' : TSt} (h : J5N n live s = some s') : clean n live (Jf s) = some (Jf s') := by
 unfold J5N at h
 have hlen : (Jf s).sto.length = s.sto.length := by simp [Jf]
 split at h
 ·rename_i hn
  injection h with h; subst h
  unfold clean
  rw [hlen, if_pos hn]
  congr 1
  unfold Jf
  simp only [J7F]
 ·rename_i hn
  split at h
  ·rename_i e l he hl
   injection h with h; subst h
   obtain ⟨q1, q2⟩ := J82 hl
   have hL : ∀ b, b < n → lns l b = lns s.sto b := fun b hb => by
    rw [q2]
    unfold lns
    rw [List.getElem?_take_of_lt hb]
   unfold clean
   rw [hlen, if_neg hn]
   have e1 := JhA hL he
   have e2 := J90 (ids := []) hL (fun b k hk => by cases hk) hl
   have e3 : restr live (Jf s).env = J2G (lns s.sto) (J4w live s.env) := J7F _ _ _
   have e4 : (Jf s).sto.take n = (s.sto.take n).map (JI (lns s.sto)) := by unfold Jf; rw [List.map_take]
   rw [e3, e1, e4, e2]
   rfl
  ·cases h
inductive Jf0 where
 | tmp (t : Nat)
 | cell (t : Nat) (agg : Bool) (ty : Ty)
def erR : Jf0 → Jb8
 | .tmp t => .tmp t
 | .cell t agg ty => .cell t agg ty.sz
def Jm6 (agg : Bool) (ty : Ty) (v : TV) (s : TSt) : Option TA :=
 if agg = true ∨ ty.sz = 1 then
  match v with
  | .a (.c (.ptr b [])) => match s.sto[b]? with
   | some (.box t0 x) => if h : t0 = ty then (if agg = true then some (.dt ty (h ▸ x)) else some (.c (.d ty (h ▸ x)))) else none
   | some (.mbox _ cs) => if cs.length = ty.sz then
     match mka agg ty cs with
     | some (.a x) => some x
     | _ => none
    else none
   | _ => none
  | _ => none
 else none
theorem Jo5 {agg : Bool} {ty : Ty} {v : TV} {s : TSt} {x : TA} (h : Jm6 agg ty v s = some x) : ∃ e, (J2D agg ty.sz (Js (lns s.sto) v)).run (Jf s) = some e ∧ e.val = J0c (lns s.sto) x := by
 unfold Jm6 at h
 split at h
 ·rename_i ha
  split at h
  ·rename_i b
   split at h
   ·rename_i t0 y hb
    split at h
    ·rename_i h0
     subst h0
     refine ⟨⟨J0c (lns s.sto) x, []⟩, ?_, rfl⟩
     have hc : J2b agg ((cel t0 y).map .p) = J2J agg (cel t0 y) := by
      unfold J2b J2J
      split
      ·rw [J8y]
      ·cases hcel : cel t0 y with
       | nil => rfl
       | cons a l => cases l <;> rfl
     have he : sub (cel t0 y) 0 t0.sz = some (cel t0 y) := Jf5 (J0d _ _)
     have hm := J9E (lns s.sto) ha y
     simp only [J4g, spo, J2D, J0r, J0C, hb, Option.map_some, Option.bind_some, Ja0, J7c, he, hc, hm, val, Jk]
     unfold mkv
     split at h
     ·rename_i h1; injection h with h; subst h; rw [if_pos h1]; rfl
     ·rename_i h1; injection h with h; subst h; rw [if_neg h1]; rfl
    ·cases h
   ·rename_i cs hb
    split at h
    ·rename_i hn
     split at h
     ·rename_i y hy
      injection h with h; subst h
      have he : sub cs 0 ty.sz = some cs := Jf5 hn
      refine ⟨⟨J0c (lns s.sto) y, []⟩, ?_, rfl⟩
      simp only [J4g, spo, J2D, J0r, J0C, hb, Option.map_some, Option.bind_some, Ja4, J7c, he, J9M (lns s.sto) hy, val, Jk]
      rfl
     ·cases h
    ·cases h
   ·cases h
  ·cases h
 ·cases h
def JfS : List Jf0 → TSt → Option (List TA)
 | [], _ => some []
 | .tmp t :: r, s => match tlk t s.env, JfS r s with
  | some (.a x), some l => some (x :: l)
  | _, _ => none
 | .cell t agg ty :: r, s => match tlk t s.env with
  | some v => match Jm6 agg ty v s, JfS r s with
   | some x, some l => some (x :: l)
   | _, _ => none
  | none => none
theorem Jka (s : TSt) (t : Nat) : (RM.slot t RM.ret).run (Jf s) = (tlk t s.env).map (Js (lns s.sto)) := by
 rw [J4W]
 show (lk t (J2G _ s.env)).bind _ = _
 rw [J8S]
 cases tlk t s.env <;> rfl
theorem Jf9 {s : TSt} : ∀ {rs : List Jf0} {l : List TA}, JfS rs s = some l → (J7I (rs.map erR)).run (Jf s) = some (l.map (J0c (lns s.sto)))
 | [], l, h => by injection h with h; subst h; rfl
 | .tmp t :: r, l, h => by
  simp only [JfS] at h
  split at h
  ·rename_i x l' hx hl
   injection h with h; subst h
   simp only [List.map_cons, erR, J7I, run_bind, Jka, hx, Option.map_some, Option.bind_some, Jf9 hl, Jk]
   rfl
  ·cases h
 | .cell t agg ty :: r, l, h => by
  simp only [JfS] at h
  split at h
  ·rename_i v hv
   split at h
   ·rename_i x l' hx hl
    injection h with h; subst h
    obtain ⟨e, q1, q2⟩ := Jo5 hx
    simp only [List.map_cons, erR, J7I, run_bind, Jka, hv, Option.map_some, Option.bind_some, q1, Jf9 hl, Jk, q2]
   ·cases h
  ·cases h
def JdU (s : TSt) : List Nat → List Nat → Option (List Nat)
 | [], acc => some acc
 | b :: r, acc => match s.sto[b]? with
  | some (.mbox _ cs) => match J9h cs acc with
   | some acc => JdU s r acc
   | none => none
  | some _ => JdU s r acc
  | none => none
theorem Jaj {s : TSt} : ∀ {r acc l : List Nat}, JdU s r acc = some l → J7p (Jf s).sto (r.map .whole) (acc.map .whole) = l.map .whole
 | [], acc, l, h => by injection h with h; subst h; rfl
 | b :: r, acc, l, h => by
  simp only [JdU] at h
  split at h
  ·rename_i cs hb
   split at h
   ·rename_i acc' ha
    simp only [List.map_cons, J7p, J0C, hb, Option.map_some, Ja4, J7a (lns s.sto) ha]
    exact Jaj h
   ·cases h
  ·rename_i x hn hb
   simp only [List.map_cons, J7p, J0C, hb, Option.map_some]
   cases x with
   | mbox t cs => exact absurd rfl (hn t cs)
   | box t x =>
    simp only [Ja0]
    rw [JgE]
    exact Jaj h
   | _ => exact Jaj h
  ·cases h
def J2C (m : Nat) (fresh : Bool) (s : TSt) : List Nat → List Nat
 | [] => []
 | b :: r => if b < m then J2C m fresh s r else
  match s.sto[b]? with
  | some (.box _ _) => b :: J2C m fresh s r
  | some (.mbox _ _) => b :: J2C m fresh s r
  | some (.arr _ _ _) => if fresh = true then b :: J2C m fresh s r else J2C m fresh s r
  | _ => J2C m fresh s r
theorem Jes {m : Nat} {fresh : Bool} {s : TSt} : ∀ r : List Nat, J2Q m fresh (Jf s).sto (r.map .whole) = J2C m fresh s r
 | [] => rfl
 | b :: r => by
  simp only [List.map_cons, J2Q, J2C, J0C]
  rw [Jes r]
  split
  ·rfl
  ·cases s.sto[b]? with
   | none => rfl
   | some x => cases x <;> rfl
def Jhe (s : TSt) : List Nat → Option (List TB)
 | [] => some []
 | b :: r => match s.sto[b]?, Jhe s r with
  | some x, some l => some (x :: l)
  | _, _ => none
theorem JhY {s : TSt} : ∀ {ids : List Nat} {l : List TB}, Jhe s ids = some l → J9l (Jf s).sto ids = some (l.map (JI (lns s.sto))) ∧ l.length = ids.length ∧ ∀ (j b : Nat), ids[j]? = some b → lns l j = lns s.sto b
 | [], l, h => by injection h with h; subst h; exact ⟨rfl, rfl, fun j b h => by simp at h⟩
 | b :: r, l, h => by
  simp only [Jhe] at h
  split at h
  ·rename_i x l' hx hl
   injection h with h; subst h
   obtain ⟨q1, q2, q3⟩ := JhY hl
   refine ⟨by simp only [J9l, J0C, hx, Option.map_some, q1, List.map_cons], by simp [q2], fun j c hj => ?_⟩
   cases j with
   | zero =>
    simp at hj; subst hj
    unfold lns
    rw [hx]; rfl
   | succ j => exact q3 j c (by simpa using hj)
  ·cases h
def JiD : List TA → TV
 | [x] => .a x
 | l => .tup l
theorem JkP (L : Nat → Nat) (l : List TA) : one (l.map (J0c L)) = Js L (JiD l) := by
 match l with
 | [] => rfl
 | [x] => rfl
 | x :: y :: r => rfl
section
variable {R : Type}
def J9B (res : List Jf0) (fresh : Bool) (m : Nat) (s : TSt) (E : TV → List TB → Option R) : Option R :=
 match JfS res s with
 | none => none
 | some vs =>
  if s.sto.length = m then E (JiD vs) s.sto
  else match J9F vs [] with
   | none => none
   | some i0 => match JdU s i0 i0 with
    | none => none
    | some i1 => if J2U (J2C m fresh s i1) = true ∧ m ≤ s.sto.length then
      match Jb7 m (J2C m fresh s i1) s vs, J7z m (J2C m fresh s i1) s (s.sto.take m), Jhe s (J2C m fresh s i1) with
      | some ws, some l, some q => match J7z m (J2C m fresh s i1) s q with
       | some q' => E (JiD ws) (l ++ q')
       | none => none
      | _, _, _ => none
     else none
theorem JlN {f : AFn} {res : List Jf0} {fresh : Bool} {m : Nat} {s : TSt} {E : TV → List TB → Option R} {r : R} (hres : f.res = res.map erR) (hfr : f.fresh = fresh) (h : J9B res fresh m s E = some r) :
  ∃ v out, J26 f m (Jf s) = some (Js (lns out) v, out.map (JI (lns out))) ∧ E v out = some r := by
 unfold J9B at h
 have hlen : (Jf s).sto.length = s.sto.length := by simp [Jf]
 split at h
 ·cases h
 ·rename_i vs hvs
  have e0 := Jf9 hvs
  split at h
  ·rename_i hn
   refine ⟨JiD vs, s.sto, ?_, h⟩
   unfold J26
   rw [hres, e0]
   dsimp only
   rw [hlen, if_pos hn, JkP]
   rfl
  ·rename_i hn
   split at h
   ·cases h
   ·rename_i i0 hi0
    split at h
    ·cases h
    ·rename_i i1 hi1
     split at h
     ·rename_i hnd0
      obtain ⟨hnd, hm⟩ := hnd0
      generalize hids : J2C m fresh s i1 = ids at *
      split at h
      ·rename_i ws l q hws hl hq
       split at h
       ·rename_i q' hq'
        refine ⟨JiD ws, l ++ q', ?_, h⟩
        obtain ⟨l1, l2⟩ := J82 hl
        obtain ⟨p1, p2, p3⟩ := JhY hq
        obtain ⟨r1, r2⟩ := J82 hq'
        have hll : l.length = m := by rw [l1, List.length_take]; omega
        have h1 : ∀ b, b < m → lns (l ++ q') b = lns s.sto b := fun b hb => by
         have := l2 b
         unfold lns at this ⊢
         rw [List.getElem?_append_left (by omega), this, List.getElem?_take_of_lt hb]
        have h2 : ∀ b k, J2K b ids m = some k → lns (l ++ q') k = lns s.sto b := fun b k hk => by
         obtain ⟨hk1, hk2⟩ := J95 hk
         have := r2 (k - m)
         rw [p3 (k - m) b hk2] at this
         rw [← this]
         unfold lns
         rw [List.getElem?_append_right (by omega), hll]
        have e1 := Jbz h1 h2 hws
        have e2 := J90 h1 h2 hl
        have e3 := J90 h1 h2 hq'
        have e4 : JV.entsOfL (vs.map (J0c (lns s.sto))) [] = i0.map .whole := J9d (lns s.sto) (l := []) hi0
        have e5 := Jaj hi1
        have e6 := Jes (m := m) (fresh := fresh) (s := s) i1
        rw [hids] at e6
        have e7 : (Jf s).sto.take m = (s.sto.take m).map (JI (lns s.sto)) := by unfold Jf; rw [List.map_take]
        unfold J26
        rw [hres, e0]
        dsimp only
        rw [hlen, if_neg hn, e4, e5, hfr, e6]
        simp only [hnd, if_true, e1, e7, e2, p1, e3, List.map_append, JkP]
       ·cases h
      ·cases h
     ·cases h
end
end Go.Am
end
section
namespace Go.Am
inductive ShC where
 | d (t : Ty)
 | sc (t : Ty)
 | np
 | nf
 | un
 | ptr (b : Nat) (p : List Sp)
 | cp (t : Ty) (p : List Sp)
 | slr (b : Nat)
 | fn (f : FuncId)
 deriving DecidableEq
inductive ShA where
 | c (x : ShC)
 | dt (t : Ty)
 | m (t : Ty) (cs : List ShC)
 | fn (f : FuncId) (a c : List ShC)
 deriving DecidableEq
inductive ShV where
 | a (x : ShA)
 | tup (vs : List ShA)
 deriving DecidableEq
inductive ShB where
 | dead
 | box (t : Ty)
 | mbox (t : Ty) (cs : List ShC)
 | arr (w : Bool) (t : Ty)
 deriving DecidableEq
structure ShS where
 env : List (Nat × ShV)
 sto : List ShB
 deriving DecidableEq
abbrev Lf := (t : Ty) × t.D
def shC : TC → Option (ShC × List Lf)
 | .d t x => some (.d t, [⟨t, x⟩])
 | .sc t rows => some (.sc t, [⟨.l t, rows⟩])
 | .np => some (.np, [])
 | .nf => some (.nf, [])
 | .un => some (.un, [])
 | .ptr b p => if (Jak p).isSome = true then some (.ptr b p, []) else none
 | .cp t x p => if (Jak p).isSome = true then some (.cp t p, [⟨t, x⟩]) else none
 | .slr b => some (.slr b, [])
 | .fn f => some (.fn f, [])
 | _ => none
def lf1 (t : Ty) (l : List Lf) : Option (t.D × List Lf) :=
 match l with
 | ⟨t', x⟩ :: r => if h : t' = t then some (h ▸ x, r) else none
 | [] => none
def mkC : ShC → List Lf → Option (TC × List Lf)
 | .d t, l => match lf1 t l with
  | some (x, r) => some (.d t x, r)
  | none => none
 | .sc t, l => match lf1 (.l t) l with
  | some (x, r) => some (.sc t x, r)
  | none => none
 | .np, l => some (.np, l)
 | .nf, l => some (.nf, l)
 | .un, l => some (.un, l)
 | .ptr b p, l => some (.ptr b p, l)
 | .cp t p, l => match lf1 t l with
  | some (x, r) => some (.cp t x p, r)
  | none => none
 | .slr b, l => some (.slr b, l)
 | .fn f, l => some (.fn f, l)
theorem Jbe (t : Ty) (x : t.D) (r : List Lf) : lf1 t (⟨t, x⟩ :: r) = some (x, r) := by simp [lf1]
theorem JbD {x : TC} {sh : ShC} {ls : List Lf} (h : shC x = some (sh, ls)) (rest : List Lf) : mkC sh (ls ++ rest) = some (x, rest) := by
  cases x <;> simp only [shC] at h <;> first
    | (split at h
       · simp only [Option.some.injEq, Prod.mk.injEq] at h
         obtain ⟨rfl, rfl⟩ := h
         simp only [List.cons_append, List.nil_append, mkC, Jbe]
       · cases h)
    | (simp only [Option.some.injEq, Prod.mk.injEq] at h
       obtain ⟨rfl, rfl⟩ := h
       simp only [List.cons_append, List.nil_append, mkC, Jbe])
    | cases h
def shL {α σ : Type} (f : α → Option (σ × List Lf)) : List α → Option (List σ × List Lf)
 | [] => some ([], [])
 | x :: r => match f x, shL f r with
  | some (s, l), some (q, k) => some (s :: q, l ++ k)
  | _, _ => none
def mkL {α σ : Type} (g : σ → List Lf → Option (α × List Lf)) : List σ → List Lf → Option (List α × List Lf)
 | [], l => some ([], l)
 | s :: r, l => match g s l with
  | some (x, l) => match mkL g r l with
   | some (q, l) => some (x :: q, l)
   | none => none
  | none => none
theorem J55 {α σ : Type} {f : α → Option (σ × List Lf)} {g : σ → List Lf → Option (α × List Lf)} (hfg : ∀ {x : α} {s : σ} {ls : List Lf}, f x = some (s, ls) → ∀ rest, g s (ls ++ rest) = some (x, rest)) :
  ∀ {xs : List α} {ss : List σ} {ls : List Lf}, shL f xs = some (ss, ls) → ∀ rest, mkL g ss (ls ++ rest) = some (xs, rest)
 | [], ss, ls, h, rest => by injection h with h; injection h with h1 h2; subst h1 h2; rfl
 | x :: r, ss, ls, h, rest => by
  simp only [shL] at h
  split at h
  ·rename_i s l q k h1 h2
   injection h with h; injection h with h3 h4; subst h3 h4
   simp only [mkL, List.append_assoc, hfg h1, J55 hfg h2]
  ·cases h
def shA : TA → Option (ShA × List Lf)
 | .c x => match shC x with
  | some (s, l) => some (.c s, l)
  | none => none
 | .dt t x => some (.dt t, [⟨t, x⟩])
 | .m t cs => match shL shC cs with
  | some (s, l) => some (.m t s, l)
  | none => none
 | .fn f a c => match shL shC a, shL shC c with
  | some (s, l), some (q, k) => some (.fn f s q, l ++ k)
  | _, _ => none
def mkA : ShA → List Lf → Option (TA × List Lf)
 | .c s, l => match mkC s l with
  | some (x, l) => some (.c x, l)
  | none => none
 | .dt t, l => match lf1 t l with
  | some (x, l) => some (.dt t x, l)
  | none => none
 | .m t s, l => match mkL mkC s l with
  | some (x, l) => some (.m t x, l)
  | none => none
 | .fn f a c, l => match mkL mkC a l with
  | some (x, l) => match mkL mkC c l with
   | some (y, l) => some (.fn f x y, l)
   | none => none
  | none => none
theorem Jie {x : TA} {sh : ShA} {ls : List Lf} (h : shA x = some (sh, ls)) (rest : List Lf) : mkA sh (ls ++ rest) = some (x, rest) := by
 cases x with
 | c x =>
  simp only [shA] at h
  split at h
  ·rename_i s l h1
   injection h with h; injection h with h2 h3; subst h2 h3
   simp only [mkA, JbD h1]
  ·cases h
 | dt t x =>
  injection h with h; injection h with h2 h3; subst h2 h3
  simp only [mkA, List.cons_append, List.nil_append, Jbe]
 | m t cs =>
  simp only [shA] at h
  split at h
  ·rename_i s l h1
   injection h with h; injection h with h2 h3; subst h2 h3
   simp only [mkA, J55 JbD h1]
  ·cases h
 | fn f a c =>
  simp only [shA] at h
  split at h
  ·rename_i s l q k h1 h2
   injection h with h; injection h with h3 h4; subst h3 h4
   simp only [mkA, List.append_assoc, J55 JbD h1, J55 JbD h2]
  ·cases h
def shV : TV → Option (ShV × List Lf)
 | .a x => match shA x with
  | some (s, l) => some (.a s, l)
  | none => none
 | .tup vs => match shL shA vs with
  | some (s, l) => some (.tup s, l)
  | none => none
def mkV : ShV → List Lf → Option (TV × List Lf)
 | .a s, l => match mkA s l with
  | some (x, l) => some (.a x, l)
  | none => none
 | .tup s, l => match mkL mkA s l with
  | some (x, l) => some (.tup x, l)
  | none => none
theorem Jmp {x : TV} {sh : ShV} {ls : List Lf} (h : shV x = some (sh, ls)) (rest : List Lf) : mkV sh (ls ++ rest) = some (x, rest) := by
 cases x with
 | a x =>
  simp only [shV] at h
  split at h
  ·rename_i s l h1
   injection h with h; injection h with h2 h3; subst h2 h3
   simp only [mkV, Jie h1]
  ·cases h
 | tup vs =>
  simp only [shV] at h
  split at h
  ·rename_i s l h1
   injection h with h; injection h with h2 h3; subst h2 h3
   simp only [mkV, J55 Jie h1]
  ·cases h
def shB : TB → Option (ShB × List Lf)
 | .dead => some (.dead, [])
 | .box t x => some (.box t, [⟨t, x⟩])
 | .mbox t cs => match shL shC cs with
  | some (s, l) => some (.mbox t s, l)
  | none => none
 | .arr w t rows => some (.arr w t, [⟨.l t, rows⟩])
def mkB : ShB → List Lf → Option (TB × List Lf)
 | .dead, l => some (.dead, l)
 | .box t, l => match lf1 t l with
  | some (x, l) => some (.box t x, l)
  | none => none
 | .mbox t s, l => match mkL mkC s l with
  | some (x, l) => some (.mbox t x, l)
  | none => none
 | .arr w t, l => match lf1 (.l t) l with
  | some (x, l) => some (.arr w t x, l)
  | none => none
theorem Jj3 {x : TB} {sh : ShB} {ls : List Lf} (h : shB x = some (sh, ls)) (rest : List Lf) : mkB sh (ls ++ rest) = some (x, rest) := by
 cases x with
 | dead => injection h with h; injection h with h2 h3; subst h2 h3; rfl
 | box t x => injection h with h; injection h with h2 h3; subst h2 h3; simp only [mkB, List.cons_append, List.nil_append, Jbe]
 | mbox t cs =>
  simp only [shB] at h
  split at h
  ·rename_i s l h1
   injection h with h; injection h with h2 h3; subst h2 h3
   simp only [mkB, J55 JbD h1]
  ·cases h
 | arr w t rows => injection h with h; injection h with h2 h3; subst h2 h3; simp only [mkB, List.cons_append, List.nil_append, Jbe]
def shE (x : Nat × TV) : Option ((Nat × ShV) × List Lf) := match shV x.2 with
 | some (s, l) => some ((x.1, s), l)
 | none => none
def mkE (x : Nat × ShV) (l : List Lf) : Option ((Nat × TV) × List Lf) := match mkV x.2 l with
 | some (v, l) => some ((x.1, v), l)
 | none => none
theorem Jsg {x : Nat × TV} {sh : Nat × ShV} {ls : List Lf} (h : shE x = some (sh, ls)) (rest : List Lf) : mkE sh (ls ++ rest) = some (x, rest) := by
 unfold shE at h
 split at h
 ·rename_i s l h1
  injection h with h; injection h with h2 h3; subst h2 h3
  simp only [mkE, Jmp h1]
 ·cases h
def shS (s : TSt) : Option (ShS × List Lf) := match shL shE s.env, shL shB s.sto with
 | some (a, l), some (c, k) => some (⟨a, c⟩, l ++ k)
 | _, _ => none
def Jb2 (s : ShS) (l : List Lf) : Option TSt := match mkL mkE s.env l with
 | some (a, l) => match mkL mkB s.sto l with
  | some (c, []) => some ⟨a, c⟩
  | _ => none
 | none => none
theorem Jkb {x : TSt} {sh : ShS} {ls : List Lf} (h : shS x = some (sh, ls)) : Jb2 sh ls = some x := by
 unfold shS at h
 split at h
 ·rename_i a l c k h1 h2
  injection h with h; injection h with h3 h4; subst h3 h4
  have e := J55 Jj3 h2 []
  rw [List.append_nil] at e
  simp only [Jb2, J55 Jsg h1, e]
 ·cases h
def tyL : List Ty → Ty
 | [] => .u
 | [t] => t
 | t :: t' :: r => .pr t (tyL (t' :: r))
def Jdu : (ls : List Lf) → (tyL (ls.map (·.1))).D
 | [] => ()
 | [x] => x.2
 | x :: y :: r => (x.2, Jdu (y :: r))
def J5W : (ts : List Ty) → (tyL ts).D → List Lf
 | [], _ => []
 | [t], x => [⟨t, x⟩]
 | t :: t' :: r, x => ⟨t, x.1⟩ :: J5W (t' :: r) x.2
theorem Jb4 : ∀ ls : List Lf, J5W (ls.map (·.1)) (Jdu ls) = ls
 | [] => rfl
 | [x] => rfl
 | x :: y :: r => by
  have := Jb4 (y :: r)
  show ⟨x.1, x.2⟩ :: J5W ((y :: r).map (·.1)) (Jdu (y :: r)) = _
  rw [this]
def asL (ts : List Ty) (ls : List Lf) : Option (tyL ts).D := if h : ls.map (·.1) = ts then some (h ▸ Jdu ls) else none
theorem JiF {ts : List Ty} {ls : List Lf} {x : (tyL ts).D} (h : asL ts ls = some x) : J5W ts x = ls := by
 unfold asL at h
 split at h
 ·rename_i h0; subst h0
  injection h with h; subst h
  exact Jb4 ls
 ·cases h
def Jfn (sh : ShS) (ts : List Ty) (s : TSt) : Option (tyL ts).D := match shS s with
 | some (sh', ls) => if sh' = sh then asL ts ls else none
 | none => none
theorem JkJ {sh : ShS} {ts : List Ty} {s : TSt} {x : (tyL ts).D} (h : Jfn sh ts s = some x) : Jb2 sh (J5W ts x) = some s := by
 unfold Jfn at h
 split at h
 ·rename_i sh' ls hs
  split at h
  ·rename_i e; subst e
   rw [JiF h]; exact Jkb hs
  ·cases h
 ·cases h
inductive TCo where
 | skip
 | bad
 | reg (draw : Bool) (pairs : List (Nat × Nat)) (ins : List J6e)
 | seq (a b : TCo)
 | cond (c : TO) (a b : TCo)
 | block (id : Nat) (c : TCo)
 | loop (live : List Nat) (c : TCo)
 | scope (c : TCo)
 | exit (id : Nat)
 | ret
 | keep (live : List Nat) (c : TCo)
 | tidy (live : List Nat) (c : TCo)
 | jn (sh : ShS) (ts : List Ty) (a b : TCo)
def erc : TCo → J03
 | .skip => .skip
 | .bad => .bad
 | .reg d p ins => .reg d p (ins.map eri)
 | .seq a b => .seq (erc a) (erc b)
 | .cond c a b => .cond (erO c) (erc a) (erc b)
 | .block id c => .block id (erc c)
 | .loop live c => .loop live (erc c)
 | .scope c => .scope (erc c)
 | .exit id => .exit id
 | .ret => .ret
 | .keep live c => .keep live (erc c)
 | .tidy live c => .tidy live (erc c)
 | .jn sh _ a b => .seq (erc a) (.keep (sh.env.map (·.1)) (erc b))
structure TK (R : Type) where
 n : TSt → Option R
 x : Nat → TSt → Option R
 r : TSt → Option R
def TK.at' {R : Type} (K : TK R) : AX → TSt → Option R
 | .normal => K.n
 | .exit i => K.x i
 | .ret => K.r
def rbO (c : TO) (v : Bool) (s : TSt) : TSt := match c with
 | .t n => rb n (vb v) s
 | .c _ => s
def jnO {σ R : Type} (m : Option (σ ⊕ R)) (f : σ → Option R) : Option R := match m with
 | some (.inl x) => f x
 | some (.inr r) => some r
 | none => none
def inl? {σ R : Type} (m : Option σ) : Option (σ ⊕ R) := match m with
 | some x => some (.inl x)
 | none => none
def onO {α R : Type} (m : Option α) (k : α → Option R) : Option R := match m with
 | some x => k x
 | none => none
theorem J3J {α R : Type} {m : Option α} {k : α → Option R} {r : R} (h : onO m k = some r) : ∃ x, m = some x ∧ k x = some r := by
 cases m with
 | none => cases h
 | some x => exact ⟨x, rfl, h⟩
def Jla {R : Type} (clean : TSt → Option TSt) (body : (TSt → Option R) → TSt → Option R) : Nat → TSt → Option R
 | 0, _ => none
 | k + 1, s => body (fun s' => onO (clean s') (Jla clean body k)) s
def orO {σ R : Type} (m : Option σ) (f : Unit → Option R) : Option (σ ⊕ R) := match m with
 | some x => some (.inl x)
 | none => (f ()).map .inr
noncomputable def trc (G : TG) : TCo → (R : Type) → TK R → TSt → Option R
 | .skip, _, K, s => K.n s
 | .bad, _, _, _ => none
 | .reg _ p ins, _, K, s => Jof G p ins s K.n
 | .seq a b, R, K, s => trc G a R ⟨fun s => trc G b R K s, K.x, K.r⟩ s
 | .cond c a b, R, K, s => match tev c s with
  | some (.a (.c (.d .b x))) => if x = true then trc G a R K (rbO c true s) else trc G b R K (rbO c false s)
  | _ => none
 | .block id c, R, K, s => trc G c R ⟨K.n, fun i s => if i = id then K.n s else K.x i s, K.r⟩ s
 | .loop live c, R, K, s => onO (shS ⟨J4w live s.env, s.sto⟩) fun (sh, ls) =>
   JK (fun x : (tyL (ls.map (·.1))).D => onO (Jb2 sh (J5W (ls.map (·.1)) x)) fun s1 =>
    trc G c ((tyL (ls.map (·.1))).D ⊕ R) ⟨fun s' => onO (J5N s.sto.length live s') fun s' => orO (Jfn sh (ls.map (·.1)) s') fun _ => Jla (J5N s.sto.length live) (fun again s => trc G c R ⟨again, K.x, K.r⟩ s) 3 s', fun i s' => (K.x i s').map .inr, fun s' => (K.r s').map .inr⟩ s1) (Jdu ls)
 | .scope c, R, K, s => trc G c R K s
 | .exit id, _, K, s => K.x id s
 | .ret, _, K, s => K.r s
 | .keep live c, R, K, s => trc G c R K ⟨J4w live s.env, s.sto⟩
 | .tidy live c, R, K, s => trc G c R ⟨fun s' => onO (J5N s.sto.length live s') K.n, fun i s' => onO (J5N s.sto.length live s') (K.x i), fun s' => onO (J5N s.sto.length live s') K.r⟩ s
 | .jn sh ts a b, R, K, s => jnO (trc G a ((tyL ts).D ⊕ R) ⟨fun s' => inl? (Jfn sh ts ⟨J4w (sh.env.map (·.1)) s'.env, s'.sto⟩), fun i s' => (K.x i s').map .inr, fun s' => (K.r s').map .inr⟩ s)
   fun x => onO (Jb2 sh (J5W ts x)) fun s1 => trc G b R K s1
theorem JcS (live : List Nat) (s : TSt) : Jf ⟨J4w live s.env, s.sto⟩ = ⟨restr live (Jf s).env, (Jf s).sto⟩ := by
 unfold Jf
 simp only [J7F]
theorem JnB {c : TO} {x : Bool} {s : TSt} (h : tev c s = some (vb x)) : rbO c x s = s := by
 cases c with
 | t n => exact Jiz h
 | c v => rfl
theorem Jpa {σ R : Type} {m : Option σ} {o : σ ⊕ R} (h : inl? m = some o) : ∃ x, m = some x ∧ o = .inl x := by
 cases m with
 | none => cases h
 | some x => injection h with h; exact ⟨x, rfl, h.symm⟩
theorem J3z {T : J1Y} {G : TG} (hG : GOk (AF T) G) : ∀ {c : TCo} {R : Type} {K : TK R} {s : TSt} {r : R}, trc G c R K s = some r → ∃ o s', X T (erc c) (Jf s) = some (o, Jf s') ∧ K.at' o s' = some r
 | .skip, R, K, s, r, h => ⟨.normal, s, by rw [erc, JrI], h⟩
 | .bad, R, K, s, r, h => by cases h
 | .reg d p ins, R, K, s, r, h => by
  obtain ⟨s', h1, h2⟩ := Jqu hG h
  exact ⟨.normal, s', by rw [erc, JpL, h1]; rfl, h2⟩
 | .seq a b, R, K, s, r, h => by
  obtain ⟨o, s1, h1, h2⟩ := J3z hG (c := a) h
  rw [erc, JpJ, h1]
  cases o with
  | normal =>
   obtain ⟨o, s2, h3, h4⟩ := J3z hG (c := b) h2
   exact ⟨o, s2, h3, h4⟩
  | exit i => exact ⟨.exit i, s1, rfl, h2⟩
  | ret => exact ⟨.ret, s1, rfl, h2⟩
 | .cond c a b, R, K, s, r, h => by
  unfold trc at h
  split at h
  ·rename_i x hx
   have e : evv (erO c) (Jf s).env = some (.p (.b x)) := by
    rw [← JdV (erO c) (Jf s), Jx hx]; rfl
   rw [erc, JrR, e, JpU]
   split at h
   ·rename_i hx1
    subst hx1
    rw [JnB hx] at h
    simp only [if_true]
    exact J3z hG (c := a) h
   ·rename_i hx1
    have : x = false := by simpa using hx1
    subst this
    rw [JnB hx] at h
    simp only [Bool.false_eq_true, if_false]
    exact J3z hG (c := b) h
  ·cases h
 | .block id c, R, K, s, r, h => by
  obtain ⟨o, s1, h1, h2⟩ := J3z hG (c := c) h
  rw [erc, Jqp, h1]
  cases o with
  | normal => exact ⟨.normal, s1, rfl, h2⟩
  | exit i =>
   simp only [Jjm]
   simp only [TK.at'] at h2
   split at h2
   ·rename_i hi; rw [if_pos hi]; exact ⟨.normal, s1, rfl, h2⟩
   ·rename_i hi; rw [if_neg hi]; exact ⟨.exit i, s1, rfl, h2⟩
  | ret => exact ⟨.ret, s1, rfl, h2⟩
 | .loop live c, R, K, s, r, h => by
  unfold trc at h
  obtain ⟨⟨sh, ls⟩, hs, h⟩ := J3J h
  dsimp only at h
  have hpeel : ∀ (k : Nat) {s2 : TSt} {r : R}, Jla (J5N s.sto.length live) (fun again s => trc G c R ⟨again, K.x, K.r⟩ s) k s2 = some r →
    ∃ o s', X T (.lp s.sto.length live (erc c)) (Jf s2) = some (o, Jf s') ∧ K.at' o s' = some r := by
   intro k
   induction k with
   | zero => intro s2 r h; cases h
   | succ k ih =>
    intro s2 r h
    obtain ⟨o, s3, h1, h2⟩ := J3z hG (c := c) h
    rw [Jo8, h1]
    cases o with
    | normal =>
     obtain ⟨s4, hc, h2⟩ := J3J h2
     simp only [J6U, J6t hc]
     exact ih h2
    | exit i => exact ⟨.exit i, s3, rfl, h2⟩
    | ret => exact ⟨.ret, s3, rfl, h2⟩
  have key : ∀ {x : (tyL (ls.map (·.1))).D} {r : R}, JK (fun x : (tyL (ls.map (·.1))).D => onO (Jb2 sh (J5W (ls.map (·.1)) x)) fun s1 =>
    trc G c ((tyL (ls.map (·.1))).D ⊕ R) ⟨fun s' => onO (J5N s.sto.length live s') fun s' => orO (Jfn sh (ls.map (·.1)) s') fun _ => Jla (J5N s.sto.length live) (fun again s => trc G c R ⟨again, K.x, K.r⟩ s) 3 s', fun i s' => (K.x i s').map .inr, fun s' => (K.r s').map .inr⟩ s1) x = some r →
    ∃ st, Jb2 sh (J5W (ls.map (·.1)) x) = some st ∧ ∃ o s', X T (.lp s.sto.length live (erc c)) (Jf st) = some (o, Jf s') ∧ K.at' o s' = some r := by
   intro x r hw
   refine JnM (P := fun (x : (tyL (ls.map (·.1))).D) (r : R) => ∃ st, Jb2 sh (J5W (ls.map (·.1)) x) = some st ∧ ∃ o s', X T (.lp s.sto.length live (erc c)) (Jf st) = some (o, Jf s') ∧ K.at' o s' = some r) ?_ ?_ hw
   ·intro x r hx
    obtain ⟨st, hst, hx⟩ := J3J hx
    obtain ⟨o, s1, h1, h2⟩ := J3z hG (c := c) hx
    refine ⟨st, hst, ?_⟩
    rw [Jo8, h1]
    cases o with
    | normal =>
     obtain ⟨s2, hc, h2⟩ := J3J h2
     unfold orO at h2
     split at h2
     ·cases h2
     ·obtain ⟨r', h3, h4⟩ := Option.map_eq_some_iff.1 h2
      injection h4 with h4; subst h4
      simp only [J6U, J6t hc]
      exact hpeel 3 h3
    | exit i =>
     obtain ⟨r', h3, h4⟩ := Option.map_eq_some_iff.1 h2
     injection h4 with h4; subst h4
     exact ⟨.exit i, s1, rfl, h3⟩
    | ret =>
     obtain ⟨r', h3, h4⟩ := Option.map_eq_some_iff.1 h2
     injection h4 with h4; subst h4
     exact ⟨.ret, s1, rfl, h3⟩
   ·rintro x y r hx ⟨st', hst', o, s3, h5, h6⟩
    obtain ⟨st, hst, hx⟩ := J3J hx
    obtain ⟨o1, s1, h1, h2⟩ := J3z hG (c := c) hx
    refine ⟨st, hst, ?_⟩
    rw [Jo8, h1]
    cases o1 with
    | normal =>
     obtain ⟨s2, hc, h2⟩ := J3J h2
     unfold orO at h2
     split at h2
     ·rename_i z hz
      injection h2 with h2; injection h2 with h2; subst h2
      have e := JkJ hz
      rw [hst'] at e
      injection e with e; subst e
      simp only [J6U, J6t hc]
      exact ⟨o, s3, h5, h6⟩
     ·obtain ⟨r', _, h4⟩ := Option.map_eq_some_iff.1 h2
      cases h4
    | exit i =>
     obtain ⟨r', _, h4⟩ := Option.map_eq_some_iff.1 h2
     cases h4
    | ret =>
     obtain ⟨r', _, h4⟩ := Option.map_eq_some_iff.1 h2
     cases h4
  obtain ⟨st, hst, o, s', h1, h2⟩ := key h
  rw [Jb4, Jkb hs] at hst
  injection hst with hst; subst hst
  refine ⟨o, s', ?_, h2⟩
  have e : X T (.loop live (erc c)) (Jf s) = X T (.lp (Jf s).sto.length live (erc c)) ⟨restr live (Jf s).env, (Jf s).sto⟩ := JrK T live (erc c) _ _
  rw [erc, e, ← JcS, show (Jf s).sto.length = s.sto.length by simp [Jf]]
  exact h1
 | .scope c, R, K, s, r, h => by
  obtain ⟨o, s1, h1, h2⟩ := J3z hG (c := c) h
  exact ⟨o, s1, by rw [erc, Jre]; exact h1, h2⟩
 | .exit id, R, K, s, r, h => ⟨.exit id, s, by rw [erc, Jsz], h⟩
 | .ret, R, K, s, r, h => ⟨.ret, s, by rw [erc, JsI], h⟩
 | .keep live c, R, K, s, r, h => by
  obtain ⟨o, s1, h1, h2⟩ := J3z hG (c := c) h
  exact ⟨o, s1, by rw [erc, Jn5, ← JcS]; exact h1, h2⟩
 | .tidy live c, R, K, s, r, h => by
  obtain ⟨o, s1, h1, h2⟩ := J3z hG (c := c) h
  rw [erc, JrT, h1, Jk5, show (Jf s).sto.length = s.sto.length by simp [Jf]]
  cases o with
  | normal => obtain ⟨s2, h3, h4⟩ := J3J h2; rw [J6t h3]; exact ⟨.normal, s2, rfl, h4⟩
  | exit i => obtain ⟨s2, h3, h4⟩ := J3J h2; rw [J6t h3]; exact ⟨.exit i, s2, rfl, h4⟩
  | ret => obtain ⟨s2, h3, h4⟩ := J3J h2; rw [J6t h3]; exact ⟨.ret, s2, rfl, h4⟩
 | .jn sh ts a b, R, K, s, r, h => by
  unfold trc at h
  rw [erc, JpJ]
  cases ho : trc G a ((tyL ts).D ⊕ R) ⟨fun s' => inl? (Jfn sh ts ⟨J4w (sh.env.map (·.1)) s'.env, s'.sto⟩), fun i s' => (K.x i s').map .inr, fun s' => (K.r s').map .inr⟩ s with
  | none => rw [ho] at h; cases h
  | some res =>
   rw [ho] at h
   obtain ⟨o, s1, h1, h2⟩ := J3z hG (c := a) ho
   rw [h1]
   cases o with
   | normal =>
    obtain ⟨x, hx, rfl⟩ := Jpa h2
    obtain ⟨s2, h3, h4⟩ := J3J h
    rw [JkJ hx] at h3
    injection h3 with h3; subst h3
    obtain ⟨o, s3, h5, h6⟩ := J3z hG (c := b) h4
    refine ⟨o, s3, ?_, h6⟩
    simp only [J6U]
    rw [Jn5, ← JcS]; exact h5
   | exit i =>
    obtain ⟨r', h3, h4⟩ := Option.map_eq_some_iff.1 h2
    subst h4
    injection h with h; subst h
    exact ⟨.exit i, s1, rfl, h3⟩
   | ret =>
    obtain ⟨r', h3, h4⟩ := Option.map_eq_some_iff.1 h2
    subst h4
    injection h with h; subst h
    exact ⟨.ret, s1, rfl, h3⟩
end Go.Am
end
section
namespace Go.Am
structure TFn where
 np : Nat
 nt : Nat
 body : TCo
 res : List Jf0
 fresh : Bool
def erF (f : TFn) : AFn := ⟨f.np, f.nt, erc f.body, f.res.map erR, f.fresh⟩
def JdW : Nat → List TA → List (Nat × TV)
 | _, [] => []
 | k, x :: r => (k, .a x) :: JdW (k + 1) r
theorem Jib (L : Nat → Nat) : ∀ (k : Nat) (xs : List TA), J5E k (xs.map (J0c L)) = J2G L (JdW k xs)
 | _, [] => rfl
 | k, x :: r => by
  have := Jib L (k + 1) r
  simp only [List.map_cons, J5E, JdW, J2G, this]
  rfl
noncomputable def J0x (G : TG) (f : TFn) {R : Type} (xs : List TA) (bl : List TB) (E : TV → List TB → Option R) : Option R :=
 if xs.length = f.np then
  trc G f.body R ⟨fun s => J9B f.res f.fresh bl.length s E, fun _ _ => none, fun s => J9B f.res f.fresh bl.length s E⟩ ⟨JdW 0 xs, bl⟩
 else none
theorem Jrh {T : J1Y} {G : TG} (hG : GOk (AF T) G) {g : FuncId} {f : TFn} (hf : T g = some (.fn (erF f))) {R : Type} {xs : List TA} {bl : List TB} {E : TV → List TB → Option R} {r : R} (h : J0x G f xs bl E = some r) :
  ∃ v out, AF T g (xs.map (J0c (lns bl))) (bl.map (JI (lns bl))) = some (Js (lns out) v, out.map (JI (lns out))) ∧ E v out = some r := by
 unfold J0x at h
 split at h
 ·rename_i hn
  obtain ⟨o, s', h1, h2⟩ := J3z hG h
  have e0 : Jf ⟨JdW 0 xs, bl⟩ = ⟨J5E 0 (xs.map (J0c (lns bl))), bl.map (JI (lns bl))⟩ := by
   unfold Jf; rw [Jib]
  rw [e0] at h1
  have fin : J9B f.res f.fresh bl.length s' E = some r → ∃ v out, J26 (erF f) bl.length (Jf s') = some (Js (lns out) v, out.map (JI (lns out))) ∧ E v out = some r :=
   fun h => JlN rfl rfl h
  have e1 : ∀ q, J26 (erF f) bl.length (Jf s') = some q → (o = .normal ∨ o = .ret) → AF T g (xs.map (J0c (lns bl))) (bl.map (JI (lns bl))) = some q := by
   intro q hq ho
   rw [JsS T hf, if_pos (by rw [List.length_map]; exact hn), show (erF f).body = erc f.body from rfl, h1, List.length_map]
   rcases ho with rfl | rfl <;> exact hq
  cases o with
  | normal =>
   obtain ⟨v, out, h3, h4⟩ := fin h2
   exact ⟨v, out, e1 _ h3 (.inl rfl), h4⟩
  | exit i => cases h2
  | ret =>
   obtain ⟨v, out, h3, h4⟩ := fin h2
   exact ⟨v, out, e1 _ h3 (.inr rfl), h4⟩
 ·cases h
structure TE where
 f : FuncId
 go : ∀ {R : Type}, List TA → List TB → (TV → List (Bool × TB) → Option R) → Option R
 fit : List TA → List TB → Bool
structure EOk (F : Orc) (e : TE) : Prop where
 ok : ∀ {R : Type} {xs : List TA} {bl : List TB} {kk : TV → List (Bool × TB) → Option R} {r : R}, e.go xs bl kk = some r →
  ∃ v out, F e.f (xs.map (J0c (lns bl))) (bl.map (JI (lns bl))) = some (Js (J9p out) v, out.map fun x => JI (J9p out) x.2) ∧
   (∀ (k : Nat) x, out[k]? = some (true, x) → k < bl.length → lnB x = lns bl k) ∧ kk v out = some r
def goE {R : Type} (f : FuncId) (xs : List TA) (bl : List TB) (kk : TV → List (Bool × TB) → Option R) : List TE → Option R
 | [] => none
 | e :: r => if f = e.f ∧ e.fit xs bl = true then e.go xs bl kk else goE f xs bl kk r
def TG.of (l : List TE) : TG := ⟨fun f xs bl kk => goE f xs bl kk l⟩
def JhB (F : Orc) : List TE → Prop
 | [] => True
 | e :: r => EOk F e ∧ JhB F r
theorem JnD {F : Orc} {R : Type} {f : FuncId} {xs : List TA} {bl : List TB} {kk : TV → List (Bool × TB) → Option R} {r : R} : ∀ {l : List TE}, JhB F l → goE f xs bl kk l = some r →
  ∃ v out, F f (xs.map (J0c (lns bl))) (bl.map (JI (lns bl))) = some (Js (J9p out) v, out.map fun x => JI (J9p out) x.2) ∧
   (∀ (k : Nat) x, out[k]? = some (true, x) → k < bl.length → lnB x = lns bl k) ∧ kk v out = some r
 | [], _, h => by cases h
 | e :: l, ha, h => by
  simp only [goE] at h
  split at h
  ·rename_i he
   obtain ⟨rfl, _⟩ := he
   exact ha.1.ok h
  ·exact JnD ha.2 h
theorem Jrw {F : Orc} {l : List TE} (h : JhB F l) : GOk F (TG.of l) := ⟨fun hg => JnD h hg⟩
structure Sig where
 args : List ShA
 blks : List ShB
 ti : List Ty
 res : ShV
 out : List ShB
 same : List Bool
 to : List Ty
def J0b (g : Sig) (x : (tyL g.ti).D) : Option (List TA × List TB) := match mkL mkA g.args (J5W g.ti x) with
 | some (xs, l) => match mkL mkB g.blks l with
  | some (bl, []) => some (xs, bl)
  | _ => none
 | none => none
def JdE (g : Sig) (xs : List TA) (bl : List TB) : Option (tyL g.ti).D := match shL shA xs, shL shB bl with
 | some (a, l), some (c, k) => if a = g.args ∧ c = g.blks then asL g.ti (l ++ k) else none
 | _, _ => none
theorem Jqd {g : Sig} {xs : List TA} {bl : List TB} {x : (tyL g.ti).D} (h : JdE g xs bl = some x) : J0b g x = some (xs, bl) := by
 unfold JdE at h
 split at h
 ·rename_i a l c k h1 h2
  split at h
  ·rename_i h0
   obtain ⟨rfl, rfl⟩ := h0
   have e := J55 Jj3 h2 []
   rw [List.append_nil] at e
   unfold J0b
   rw [JiF h, J55 Jie h1 k]
   simp only [e]
  ·cases h
 ·cases h
def Jei (g : Sig) (y : (tyL g.to).D) : Option (TV × List TB) := match mkV g.res (J5W g.to y) with
 | some (v, l) => match mkL mkB g.out l with
  | some (out, []) => some (v, out)
  | _ => none
 | none => none
def JR (g : Sig) (v : TV) (out : List TB) : Option (tyL g.to).D := match shV v, shL shB out with
 | some (a, l), some (c, k) => if a = g.res ∧ c = g.out then asL g.to (l ++ k) else none
 | _, _ => none
theorem Jp1 {g : Sig} {v : TV} {out : List TB} {y : (tyL g.to).D} (h : JR g v out = some y) : Jei g y = some (v, out) := by
 unfold JR at h
 split at h
 ·rename_i a l c k h1 h2
  split at h
  ·rename_i h0
   obtain ⟨rfl, rfl⟩ := h0
   have e := J55 Jj3 h2 []
   rw [List.append_nil] at e
   unfold Jei
   rw [JiF h, Jmp h1 k]
   simp only [e]
  ·cases h
 ·cases h
def flg (same : List Bool) (out : List TB) : List (Bool × TB) := match same, out with
 | b :: r, x :: l => (b, x) :: flg r l
 | [], x :: l => (false, x) :: flg [] l
 | _, [] => []
theorem J9V : ∀ (same : List Bool) (out : List TB), (flg same out).map (·.2) = out
 | [], [] => rfl
 | [], x :: l => by simp only [flg, List.map_cons, J9V [] l]
 | b :: r, [] => rfl
 | b :: r, x :: l => by simp only [flg, List.map_cons, J9V r l]
def sigE (f : FuncId) (g : Sig) (S : (tyL g.ti).D → Option (tyL g.to).D) : TE :=
 ⟨f, fun xs bl kk => match JdE g xs bl with
  | some x => (S x).bind fun y => match Jei g y with
   | some (v, out) => kk v (flg g.same out)
   | none => none
  | none => none, fun xs bl => (JdE g xs bl).isSome⟩
def Jpz : ShB → Bool
 | .arr _ _ => false
 | _ => true
def JdK (g : Sig) : Bool := (List.range g.same.length).all fun k => match g.same[k]?, g.blks[k]?, g.out[k]? with
 | some true, some a, some c => Jpz a && Jpz c
 | some true, some _, none => false
 | _, _, _ => true
theorem JiM {x : TB} {s : ShB} {ls : List Lf} (h : shB x = some (s, ls)) (hb : Jpz s = true) : lnB x = 0 := by
 cases x with
 | arr w t rows => injection h with h; injection h with h1; subst h1; cases hb
 | _ => rfl
theorem JhK {α σ : Type} {f : α → Option (σ × List Lf)} : ∀ {xs : List α} {ss : List σ} {ls : List Lf}, shL f xs = some (ss, ls) → ∀ (k : Nat) x, xs[k]? = some x → ∃ s l, ss[k]? = some s ∧ f x = some (s, l)
 | [], _, _, _, k, x, hk => by simp at hk
 | y :: r, ss, ls, h, k, x, hk => by
  simp only [shL] at h
  split at h
  ·rename_i s l q k' h1 h2
   injection h with h; injection h with h3 h4; subst h3 h4
   cases k with
   | zero => simp at hk; subst hk; exact ⟨s, l, rfl, h1⟩
   | succ k => exact JhK h2 k x (by simpa using hk)
  ·cases h
theorem JhC : ∀ {same : List Bool} {out : List TB} {k : Nat} {x : TB}, (flg same out)[k]? = some (true, x) → same[k]? = some true ∧ out[k]? = some x
 | [], [], k, x, h => by simp [flg] at h
 | [], y :: l, k, x, h => by
  cases k with
  | zero => simp [flg] at h
  | succ k =>
   simp only [flg, List.getElem?_cons_succ] at h
   have := JhC (same := []) h
   simp at this
 | b :: r, [], k, x, h => by simp [flg] at h
 | b :: r, y :: l, k, x, h => by
  cases k with
  | zero => simp [flg] at h; obtain ⟨rfl, rfl⟩ := h; exact ⟨rfl, rfl⟩
  | succ k =>
   simp only [flg, List.getElem?_cons_succ] at h
   simpa using JhC h
theorem J9X {T : J1Y} {f : FuncId} {g : Sig} {S : (tyL g.ti).D → Option (tyL g.to).D} (hs : JdK g = true)
  (h : ∀ x xs bl y, J0b g x = some (xs, bl) → S x = some y → ∃ v out, AF T f (xs.map (J0c (lns bl))) (bl.map (JI (lns bl))) = some (Js (lns out) v, out.map (JI (lns out))) ∧ JR g v out = some y) : EOk (AF T) (sigE f g S) := by
 refine ⟨fun {R xs bl kk r} hg => ?_⟩
 simp only [sigE] at hg
 split at hg
 ·rename_i x hx
  obtain ⟨y, hy, hg⟩ := Option.bind_eq_some_iff.1 hg
  split at hg
  ·rename_i v out hv
   obtain ⟨v', out', h1, h2⟩ := h x xs bl y (Jqd hx) hy
   rw [Jp1 h2] at hv
   injection hv with hv; injection hv with hv1 hv2; subst hv1 hv2
   refine ⟨v', flg g.same out', ?_, fun k z hz hk => ?_, hg⟩
   ·unfold J9p
    rw [J9V]
    have : (flg g.same out').map (fun x => JI (lns out') x.2) = out'.map (JI (lns out')) := by
     conv => rhs; rw [← J9V g.same out', List.map_map]
     rw [J9V]
     rfl
    rw [this]
    exact h1
   ·obtain ⟨hz1, hz2⟩ := JhC hz
    unfold JdK at hs
    rw [List.all_eq_true] at hs
    have hs := hs k (by simpa using J9 hz1)
    unfold JdE at hx
    split at hx
    ·rename_i a l c k' e1 e2
     split at hx
     ·rename_i e0
      obtain ⟨sb, lb, q1, q2⟩ := JhK e2 k _ (List.getElem?_eq_getElem hk)
      unfold JR at h2
      split at h2
      ·rename_i a2 l2 c2 k2 e3 e4
       split at h2
       ·rename_i e5
        obtain ⟨sc, lc, p1, p2⟩ := JhK e4 k z hz2
        rw [hz1, ← e0.2, q1, ← e5.2, p1] at hs
        simp only [Bool.and_eq_true] at hs
        rw [JiM p2 hs.2]
        unfold lns
        rw [List.getElem?_eq_getElem hk]
        exact (JiM q2 hs.1).symm
       ·cases h2
      ·cases h2
     ·cases hx
    ·cases hx
  ·cases hg
 ·cases hg
theorem J0g {T : J1Y} {f : FuncId} {g : Sig} {fn : TFn} {S : (tyL g.ti).D → Option (tyL g.to).D} {l : List TE} (hf : T f = some (.fn (erF fn))) (hl : JhB (AF T) l) (hs : JdK g = true)
  (h : ∀ x, onO (J0b g x) (fun y => J0x (TG.of l) fn y.1 y.2 (JR g)) = S x) : EOk (AF T) (sigE f g S) := by
 refine J9X hs fun x xs bl y hx hy => ?_
 have h0 := h x
 rw [hx, hy] at h0
 exact Jrh (Jrw hl) hf h0
def J9t {α β : Type} (S : (α → Option β) → α → Option β) : Nat → α → Option β
 | 0 => fun _ => none
 | n + 1 => S (J9t S n)
theorem JhG {T : J1Y} {f : FuncId} {g : Sig} {fn : TFn} {S : ((tyL g.ti).D → Option (tyL g.to).D) → (tyL g.ti).D → Option (tyL g.to).D} {l : List TE} (hf : T f = some (.fn (erF fn))) (hl : JhB (AF T) l) (hs : JdK g = true)
  (h : ∀ r x, onO (J0b g x) (fun y => J0x (TG.of (sigE f g r :: l)) fn y.1 y.2 (JR g)) = S r x) : ∀ n, EOk (AF T) (sigE f g (J9t S n))
 | 0 => J9X hs fun x xs bl y hx hy => by cases hy
 | n + 1 => J0g hf (l := sigE f g (J9t S n) :: l) (And.intro (JhG hf hl hs h n) hl) hs (h (J9t S n))
end Go.Am
end
section
namespace Go.Am
end Go.Am
end
section
namespace Go.Am
def J8D (t : Ty) : Sig := ⟨[.c (.d (.l t))], [], [.l t], .a (.c (.slr 0)), [.arr true t], [], [.l t]⟩
def Ji0 (e : Nat) : Opd := .c (.p (.sl e []))
def J8L (t : Ty) (bytes : Nat) : J4O := ⟨1, 8,
 .reg false [] [⟨.mkarr t.sz (Ji0 t.sz), some 2, none⟩], [],
 .reg false [] [⟨.mv (.t 0), some 3, none⟩, ⟨.bin .eql .nils (.t 3) (Ji0 t.sz), some 4, none⟩], .t 4,
 .seq (.reg false [] [⟨.mkarr t.sz (Ji0 t.sz), some 2, none⟩]) .ret, .skip,
 .seq (.reg false [] [⟨.lits true t.sz 0 (zer t) [], some 5, none⟩, ⟨.mv (.t 0), some 6, none⟩, ⟨.app t.sz bytes (zer t) (.t 5) (.t 6), some 7, none⟩, ⟨.mv (.t 7), some 2, none⟩]) .ret, [.tmp 2], true⟩
theorem Jol {T : J1Y} {f : FuncId} {t : Ty} {bytes : Nat} (hf : T f = some (.fork (J8L t bytes))) {x y : List t.D} (h : cloS bytes x = some y) :
  AF T f [.p (.sl t.sz (x.map (cel t)))] [] = some (.slr 0 0 y.length, [.arr true t.sz (y.map (cel t))]) := by
 unfold cloS at h
 split at h
 ·rename_i h2
  injection h with h; subst h
  rw [Jrl _ hf]
  cases x with
  | nil =>
   have h3 : 512 * bytes ≤ 281474976710656 := by simpa [J1Z] using h2
   simp [J8L, Ji0, J7O, JaA, J4O.af, h3]
  | cons a r =>
   simp at h2
   simp [J8L, Ji0, J7O, JaA, J4O.af, h2]
 ·cases h
theorem JiE (t : Ty) (x : t.D) (r : List Lf) : lf1 t (⟨t, x⟩ :: r) = some (x, r) := by simp [lf1]
theorem JoJ (t : Ty) (x : List t.D) : J0b (J8D t) x = some ([.c (.d (.l t) x)], []) := by
 have h : lf1 (.l t) [⟨.l t, x⟩] = some (x, []) := JiE (.l t) x []
 show (match mkL mkA [.c (.d (.l t))] [(⟨.l t, x⟩ : Lf)] with
  | some (xs, l) => match mkL mkB (J8D t).blks l with
   | some (bl, []) => some (xs, bl)
   | _ => none
  | none => none) = _
 simp only [mkL, mkA, mkC, h]
 rfl
theorem Jnr (t : Ty) (y : List t.D) : JR (J8D t) (.a (.c (.slr 0))) [.arr true t y] = some y := by
 show (if (ShV.a (.c (.slr 0)) = (J8D t).res ∧ [ShB.arr true t] = (J8D t).out) then asL [.l t] [⟨.l t, y⟩] else none) = some y
 rw [if_pos ⟨rfl, rfl⟩]
 simp [asL, Jdu]
 rfl
theorem Joy {T : J1Y} {f : FuncId} {t : Ty} {bytes : Nat} (hf : T f = some (.fork (J8L t bytes))) : EOk (AF T) (sigE f (J8D t) (cloS bytes)) := by
 refine J9X rfl fun x xs bl y hx hy => ?_
 rw [JoJ t x] at hx
 injection hx with hx; injection hx with h1 h2; subst h1 h2
 exact ⟨.a (.c (.slr 0)), [.arr true t y], Jol hf hy, Jnr t y⟩
end Go.Am
end
section
namespace Go.Am
abbrev Prm := List AV → List Blk → Option Res
def Jox : Sig := ⟨[.c (.d .s), .c (.d (.i .i64))], [], [.s, (.i .i64)], .a (.c (.d .s)), [], [], [.s]⟩
def JrE (x : List UInt8 × Int) : Option (List UInt8) := Jif x.1 x.2
theorem JrQ (x : List UInt8 × Int) : J0b Jox x = some ([.c (.d .s x.1), .c (.d (.i .i64) x.2)], []) := rfl
theorem JqN {g : Sig} (hr : g.res = .a (.c (.d .s))) (ho : g.out = []) (ht : g.to = [.s]) (y : List UInt8) : JR g (.a (.c (.d .s y))) [] = some (ht ▸ y) := by
 obtain ⟨a, b, c, d, e, f, t⟩ := g
 dsimp only at hr ho ht
 subst hr ho ht
 rfl
theorem JqV {T : J1Y} {f : FuncId} (hf : T f = some (.prim Jis)) : EOk (AF T) (sigE f Jox JrE) := by
 refine J9X rfl fun x xs bl y hx hy => ?_
 rw [JrQ x] at hx
 injection hx with hx; injection hx with h1 h2; subst h1 h2
 refine ⟨.a (.c (.d .s y)), [], ?_, JqN (g := Jox) rfl rfl rfl y⟩
 rw [Jfh hf]
 show Option.map (fun r => (AV.p (.s r), [])) (Jif x.1 x.2) = _
 rw [show Jif x.1 x.2 = some y from hy]
 rfl
end Go.Am
end
section
namespace Go.Am.Od
set_option maxRecDepth 20000
abbrev i_draw_Codes_Next : FuncId := 14
abbrev JX : FuncId := 15
abbrev i_law04_odd : FuncId := 28
abbrev J2S : FuncId := 29
abbrev Jz : FuncId := 36
abbrev J0k : FuncId := 40
def Jd : Ty := .pr (.l (.i .u8)) ((.i .i64))
abbrev J5 := (List Int) × Int
def J4 : Ty := .pr (.i .i64) (.pr (.i .i64) (.pr (.i .i64) (.pr (.i .i64) (.pr (.i .i64) ((.i .u8))))))
abbrev Ja := Int × Int × Int × Int × Int × Int
def J3 : Ty := .pr (.l .s) (.pr (.i .i64) (.pr (.l (.i .i64)) (.pr .b ((.l J4)))))
abbrev J6 := (List (List UInt8)) × Int × (List Int) × Bool × (List Ja)
def g_draw_Codes_Next : Sig := ⟨[.c (.ptr 0 []), .c (.d (.i .i64))], [.box Jd], [(.i .i64), Jd], .a (.c (.d (.i .i64))), [.box Jd], [true], [(.i .i64), Jd]⟩
def J0u : Sig := ⟨[.c (.ptr 0 [])], [.box Jd], [Jd], .a (.c (.d (.i .i64))), [.box Jd], [true], [(.i .i64), Jd]⟩
def J0E : Sig := ⟨[.c (.ptr 0 []), .c (.d (.i .i64)), .c (.d (.i .i64))], [.box Jd], [(.i .i64), (.i .i64), Jd], .a (.dt J4), [.box Jd], [true], [J4, Jd]⟩
def J1i : Sig := ⟨[.dt J3], [], [J3], .a (.m J3 [.slr 0, .d (.i .i64), .slr 1, .d .b, .slr 2]), [.arr true .s, .arr true (.i .i64), .arr true J4], [], [(.i .i64), .b, (.l .s), (.l (.i .i64)), (.l J4)]⟩
def J5F : TCo := .seq (.reg false [] [
 ⟨.mv (.c (vi .i64 0)), some 4, none⟩])
 (.keep [0, 1] (.seq (.seq (.reg true [] [
 ⟨.mv (.t 0), some 6, none⟩,
 ⟨.nilchk (.t 6), some 7, none⟩,
 ⟨.faddr 1 (.t 7), some 8, none⟩,
 ⟨.load false (.i .i64) (.t 8), some 9, none⟩,
 ⟨.mv (.t 0), some 10, none⟩,
 ⟨.nilchk (.t 10), some 11, none⟩,
 ⟨.faddr 0 (.t 11), some 12, none⟩,
 ⟨.load false (.l (.i .u8)) (.t 12), some 13, none⟩,
 ⟨.len false (.t 13), some 14, none⟩,
 ⟨.bin .geq .plain (.t 9) (.t 14), some 15, none⟩,
 ⟨.mv (.t 15), some 16, none⟩,
 ⟨.mv (.t 1), some 17, some (16, false)⟩,
 ⟨.bin .lss .plain (.t 17) (.c (vi .i64 1)), some 18, some (16, false)⟩,
 ⟨.pick (.t 16) (.c (vb true)) (.t 18), some 19, none⟩])
 (.keep [0, 1, 19] (.cond (.t 19)
 (.seq (.reg false [] [
 ⟨.mv (.c (vi .i64 0)), some 4, none⟩])
 (.ret))
 (.skip))))
 (.keep [0, 1] (.seq (.reg true [] [
 ⟨.mv (.t 0), some 20, none⟩,
 ⟨.nilchk (.t 20), some 21, none⟩,
 ⟨.faddr 0 (.t 21), some 22, none⟩,
 ⟨.load false (.l (.i .u8)) (.t 22), some 23, none⟩,
 ⟨.mv (.t 0), some 24, none⟩,
 ⟨.nilchk (.t 24), some 25, none⟩,
 ⟨.faddr 1 (.t 25), some 26, none⟩,
 ⟨.load false (.i .i64) (.t 26), some 27, none⟩,
 ⟨.iaddr (.i .u8) (.t 23) (.t 27), some 28, none⟩,
 ⟨.load false (.i .u8) (.t 28), some 29, none⟩,
 ⟨.conv (.int .i64) (.t 29), some 30, none⟩,
 ⟨.mv (.t 30), some 5, none⟩])
 (.keep [0, 1, 5] (.seq (.reg false [] [
 ⟨.mv (.t 0), some 31, none⟩,
 ⟨.nilchk (.t 31), some 32, none⟩,
 ⟨.faddr 1 (.t 32), some 33, none⟩,
 ⟨.load false (.i .i64) (.t 33), some 34, none⟩,
 ⟨.bin .add .plain (.t 34) (.c (vi .i64 1)), some 35, none⟩,
 ⟨.nilchk (.t 31), some 36, none⟩,
 ⟨.faddr 1 (.t 36), some 37, none⟩,
 ⟨.store (.i .i64) (.t 37) (.t 35), none, none⟩])
 (.keep [0, 1, 5] (.seq (.seq (.reg false [] [
 ⟨.mv (.t 1), some 38, none⟩,
 ⟨.bin .gtr .plain (.t 38) (.c (vi .i64 256)), some 39, none⟩])
 (.keep [0, 1, 5, 39] (.cond (.t 39)
 (.seq (.reg false [] [
 ⟨.mv (.t 5), some 40, none⟩,
 ⟨.bin .mul .plain (.c (vi .i64 256)) (.t 40), some 41, none⟩,
 ⟨.mv (.t 0), some 42, none⟩,
 ⟨.call i_draw_Codes_Next [(.t 42), (.c (vi .i64 256))] 0, some 43, none⟩,
 ⟨.bin .add .plain (.t 41) (.t 43), some 44, none⟩,
 ⟨.mv (.t 1), some 45, none⟩,
 ⟨.bin .rem .plain (.t 44) (.t 45), some 46, none⟩,
 ⟨.mv (.t 46), some 4, none⟩])
 (.ret))
 (.skip))))
 (.keep [1, 5] (.seq (.reg false [] [
 ⟨.mv (.t 5), some 47, none⟩,
 ⟨.mv (.t 1), some 48, none⟩,
 ⟨.bin .rem .plain (.t 47) (.t 48), some 49, none⟩,
 ⟨.mv (.t 49), some 4, none⟩])
 (.ret)))))))))))
def J0L : TFn := ⟨2, 50, J5F, [.tmp 4], false⟩
def J5K : TCo := .seq (.reg false [] [
 ⟨.mv (.c (vs [])), some 2, none⟩])
 (.keep [0] (.seq (.reg false [] [
 ⟨.mv (.t 0), some 6, none⟩,
 ⟨.call i_draw_Codes_Next [(.t 6), (.c (vi .i64 5))] 0, some 7, none⟩,
 ⟨.mv (.t 7), some 3, none⟩])
 (.keep [0, 3] (.seq (.seq (.reg false [] [
 ⟨.mv (.t 0), some 8, none⟩,
 ⟨.call i_draw_Codes_Next [(.t 8), (.c (vi .i64 6))] 0, some 9, none⟩,
 ⟨.bin .eql .plain (.t 9) (.c (vi .i64 0)), some 10, none⟩])
 (.keep [0, 3, 10] (.cond (.t 10)
 (.reg false [] [
 ⟨.mv (.t 0), some 11, none⟩,
 ⟨.call i_draw_Codes_Next [(.t 11), (.c (vi .i64 14))] 0, some 12, none⟩,
 ⟨.mv (.t 12), some 3, none⟩])
 (.skip))))
 (.keep [0, 3] (.seq (.reg false [] [
 ⟨.mv (.t 3), some 13, none⟩,
 ⟨.mkslice true (.i .u8) 1 (.c (vi .i64 0)) (.t 13), some 14, none⟩,
 ⟨.mv (.t 14), some 4, none⟩])
 (.keep [0, 3, 4] (.seq (.seq (.reg false [] [
 ⟨.mv (.c (vi .i64 0)), some 5, none⟩])
 (.keep [0, 3, 4, 5] (.block 0 (.loop [0, 3, 4, 5] (.seq (.seq (.reg false [] [
 ⟨.mv (.t 5), some 15, none⟩,
 ⟨.mv (.t 3), some 16, none⟩,
 ⟨.bin .lss .plain (.t 15) (.t 16), some 17, none⟩])
 (.keep [0, 3, 4, 5, 17] (.cond (.t 17)
 (.skip)
 (.exit 0))))
 (.keep [0, 3, 4, 5] (.seq (.block 1 (.reg false [] [
 ⟨.mv (.t 4), some 20, none⟩,
 ⟨.mv (.t 0), some 21, none⟩,
 ⟨.call i_draw_Codes_Next [(.t 21), (.c (vi .i64 3))] 0, some 22, none⟩,
 ⟨.bin .add .plain (.c (vi .i64 97)) (.t 22), some 23, none⟩,
 ⟨.conv (.int .u8) (.t 23), some 24, none⟩,
 ⟨.lits false (.i .u8) 1 [(0, (.t 24))], some 25, none⟩,
 ⟨.app (.i .u8) 1 (.t 20) (.t 25), some 26, none⟩,
 ⟨.mv (.t 26), some 4, none⟩]))
 (.keep [0, 3, 4, 5] (.reg false [] [
 ⟨.mv (.t 5), some 18, none⟩,
 ⟨.bin .add .plain (.t 18) (.c (vi .i64 1)), some 19, none⟩,
 ⟨.mv (.t 19), some 5, none⟩])))))))))
 (.keep [4] (.seq (.reg false [] [
 ⟨.mv (.t 4), some 27, none⟩,
 ⟨.conv .toStr (.t 27), some 28, none⟩,
 ⟨.mv (.t 28), some 2, none⟩])
 (.ret)))))))))))
def J2R : TFn := ⟨1, 29, J5K, [.tmp 2], false⟩
def J6a : TCo := .seq (.reg false [] [
 ⟨.mv (.c (vi .i64 0)), some 2, none⟩])
 (.keep [0] (.seq (.seq (.reg false [] [
 ⟨.mv (.t 0), some 3, none⟩,
 ⟨.call i_draw_Codes_Next [(.t 3), (.c (vi .i64 10))] 0, some 4, none⟩])
 (.keep [0, 4] (.block 0 (.seq (.reg false [] [
 ⟨.bin .eql .plain (.t 4) (.c (vi .i64 0)), some 6, none⟩,
 ⟨.mv (.t 6), some 5, none⟩])
 (.keep [0, 4, 5] (.cond (.t 5)
 (.seq (.reg false [] [
 ⟨.mv (.t 0), some 7, none⟩,
 ⟨.call i_draw_Codes_Next [(.t 7), (.c (vi .i64 3))] 0, some 8, none⟩,
 ⟨.bin .sub .plain (.c (vi .i64 (-1))) (.t 8), some 9, none⟩,
 ⟨.mv (.t 9), some 2, none⟩])
 (.ret))
 (.seq (.reg false [] [
 ⟨.bin .eql .plain (.t 4) (.c (vi .i64 1)), some 11, none⟩,
 ⟨.mv (.t 11), some 10, none⟩])
 (.keep [0, 10] (.cond (.t 10)
 (.seq (.reg false [] [
 ⟨.lits false (.i .i64) 16 [(0, (.c (vi .i64 9223372036854775807))), (1, (.c (vi .i64 (-9223372036854775808)))), (2, (.c (vi .i64 1099511627776))), (3, (.c (vi .i64 1099511627777))), (4, (.c (vi .i64 1073741824))), (5, (.c (vi .i64 1073741825))), (6, (.c (vi .i64 64))), (7, (.c (vi .i64 63))), (8, (.c (vi .i64 16))), (9, (.c (vi .i64 15))), (10, (.c (vi .i64 256))), (11, (.c (vi .i64 255))), (12, (.c (vi .i64 4294967296))), (13, (.c (vi .i64 65536))), (14, (.c (vi .i64 256))), (15, (.c (vi .i64 255)))], some 12, none⟩,
 ⟨.mv (.t 0), some 13, none⟩,
 ⟨.call i_draw_Codes_Next [(.t 13), (.c (vi .i64 16))] 0, some 14, none⟩,
 ⟨.iaddr (.i .i64) (.t 12) (.t 14), some 15, none⟩,
 ⟨.load false (.i .i64) (.t 15), some 16, none⟩,
 ⟨.mv (.t 16), some 2, none⟩])
 (.ret))
 (.skip))))))))))
 (.keep [0] (.seq (.reg false [] [
 ⟨.mv (.t 0), some 17, none⟩,
 ⟨.call i_draw_Codes_Next [(.t 17), (.c (vi .i64 20))] 0, some 18, none⟩,
 ⟨.mv (.t 18), some 2, none⟩])
 (.ret)))))
def J12 : TFn := ⟨1, 19, J6a, [.tmp 2], false⟩
def J52 : TCo := .seq (.reg false [] [
 ⟨.newbox J4, some 6, none⟩])
 (.keep [0, 1, 2, 6] (.seq (.reg false [] [
 ⟨.mv (.t 0), some 8, none⟩,
 ⟨.call i_draw_Codes_Next [(.t 8), (.c (vi .i64 6))] 0, some 9, none⟩,
 ⟨.bin .add .plain (.c (vi .i64 1)) (.t 9), some 10, none⟩,
 ⟨.mv (.t 2), some 11, none⟩,
 ⟨.bin .add .plain (.t 11) (.c (vi .i64 1)), some 12, none⟩,
 ⟨.mv (.t 0), some 13, none⟩,
 ⟨.call i_draw_Codes_Next [(.t 13), (.c (vi .i64 6))] 0, some 14, none⟩,
 ⟨.bin .add .plain (.t 12) (.t 14), some 15, none⟩,
 ⟨.build J4 [(0, (.i .i64), (.t 10)), (1, (.i .i64), (.t 15))], some 16, none⟩,
 ⟨.newbox J4, some 7, none⟩,
 ⟨.store J4 (.t 7) (.t 16), none, none⟩])
 (.keep [0, 1, 6, 7] (.seq (.seq (.reg false [] [
 ⟨.faddr 0 (.t 7), some 17, none⟩,
 ⟨.load false (.i .i64) (.t 17), some 18, none⟩])
 (.keep [0, 1, 6, 7, 18] (.block 0 (.seq (.reg false [] [
 ⟨.bin .eql .plain (.t 18) (.c (vi .i64 2)), some 20, none⟩,
 ⟨.mv (.t 20), some 19, none⟩])
 (.keep [0, 1, 6, 7, 18, 19] (.cond (.t 19)
 (.reg false [] [
 ⟨.mv (.t 0), some 21, none⟩,
 ⟨.mv (.t 1), some 22, none⟩,
 ⟨.call i_draw_Codes_Next [(.t 21), (.t 22)] 0, some 23, none⟩,
 ⟨.faddr 3 (.t 7), some 24, none⟩,
 ⟨.store (.i .i64) (.t 24) (.t 23), none, none⟩])
 (.seq (.reg false [] [
 ⟨.bin .eql .plain (.t 18) (.c (vi .i64 3)), some 26, none⟩,
 ⟨.mv (.t 26), some 25, none⟩])
 (.keep [0, 1, 6, 7, 18, 25] (.cond (.t 25)
 (.reg false [] [
 ⟨.mv (.t 0), some 27, none⟩,
 ⟨.call i_draw_Codes_Next [(.t 27), (.c (vi .i64 256))] 0, some 28, none⟩,
 ⟨.faddr 4 (.t 7), some 29, none⟩,
 ⟨.store (.i .i64) (.t 29) (.t 28), none, none⟩])
 (.seq (.reg false [] [
 ⟨.bin .eql .plain (.t 18) (.c (vi .i64 4)), some 31, none⟩,
 ⟨.mv (.t 31), some 30, none⟩])
 (.keep [0, 1, 6, 7, 18, 30] (.cond (.t 30)
 (.reg false [] [
 ⟨.mv (.t 0), some 32, none⟩,
 ⟨.mv (.t 1), some 33, none⟩,
 ⟨.call i_draw_Codes_Next [(.t 32), (.t 33)] 0, some 34, none⟩,
 ⟨.mv (.t 0), some 35, none⟩,
 ⟨.call i_draw_Codes_Next [(.t 35), (.c (vi .i64 256))] 0, some 36, none⟩,
 ⟨.mv (.t 0), some 37, none⟩,
 ⟨.call i_draw_Codes_Next [(.t 37), (.c (vi .i64 255))] 0, some 38, none⟩,
 ⟨.bin .add .plain (.c (vi .i64 1)) (.t 38), some 39, none⟩,
 ⟨.conv (.int .u8) (.t 39), some 40, none⟩,
 ⟨.faddr 2 (.t 7), some 41, none⟩,
 ⟨.store (.i .i64) (.t 41) (.t 34), none, none⟩,
 ⟨.faddr 4 (.t 7), some 42, none⟩,
 ⟨.store (.i .i64) (.t 42) (.t 36), none, none⟩,
 ⟨.faddr 5 (.t 7), some 43, none⟩,
 ⟨.store (.i .u8) (.t 43) (.t 40), none, none⟩])
 (.seq (.reg false [] [
 ⟨.bin .eql .plain (.t 18) (.c (vi .i64 5)), some 45, none⟩,
 ⟨.mv (.t 45), some 44, none⟩])
 (.keep [0, 1, 6, 7, 44] (.cond (.t 44)
 (.reg false [] [
 ⟨.mv (.t 0), some 46, none⟩,
 ⟨.mv (.t 1), some 47, none⟩,
 ⟨.call i_draw_Codes_Next [(.t 46), (.t 47)] 0, some 48, none⟩,
 ⟨.faddr 2 (.t 7), some 49, none⟩,
 ⟨.store (.i .i64) (.t 49) (.t 48), none, none⟩])
 (.skip))))))))))))))))
 (.keep [0, 6, 7] (.seq (.seq (.reg false [] [
 ⟨.mv (.t 0), some 50, none⟩,
 ⟨.call i_draw_Codes_Next [(.t 50), (.c (vi .i64 16))] 0, some 51, none⟩])
 (.keep [0, 6, 7, 51] (.block 1 (.seq (.reg false [] [
 ⟨.bin .eql .plain (.t 51) (.c (vi .i64 12)), some 53, none⟩,
 ⟨.mv (.t 53), some 52, none⟩])
 (.keep [0, 6, 7, 51, 52] (.cond (.t 52)
 (.reg false [] [
 ⟨.mv (.t 0), some 54, none⟩,
 ⟨.call Jz [(.t 54)] 0, some 55, none⟩,
 ⟨.faddr 1 (.t 7), some 56, none⟩,
 ⟨.store (.i .i64) (.t 56) (.t 55), none, none⟩])
 (.seq (.reg false [] [
 ⟨.bin .eql .plain (.t 51) (.c (vi .i64 13)), some 58, none⟩,
 ⟨.mv (.t 58), some 57, none⟩])
 (.keep [0, 6, 7, 51, 57] (.cond (.t 57)
 (.reg false [] [
 ⟨.mv (.t 0), some 59, none⟩,
 ⟨.call Jz [(.t 59)] 0, some 60, none⟩,
 ⟨.faddr 2 (.t 7), some 61, none⟩,
 ⟨.store (.i .i64) (.t 61) (.t 60), none, none⟩,
 ⟨.faddr 5 (.t 7), some 62, none⟩,
 ⟨.store (.i .u8) (.t 62) (.c (vi .u8 0)), none, none⟩])
 (.seq (.reg false [] [
 ⟨.bin .eql .plain (.t 51) (.c (vi .i64 14)), some 64, none⟩,
 ⟨.mv (.t 64), some 63, none⟩])
 (.keep [0, 6, 7, 51, 63] (.cond (.t 63)
 (.reg false [] [
 ⟨.mv (.t 0), some 65, none⟩,
 ⟨.call Jz [(.t 65)] 0, some 66, none⟩,
 ⟨.mv (.t 0), some 67, none⟩,
 ⟨.call Jz [(.t 67)] 0, some 68, none⟩,
 ⟨.faddr 3 (.t 7), some 69, none⟩,
 ⟨.store (.i .i64) (.t 69) (.t 66), none, none⟩,
 ⟨.faddr 4 (.t 7), some 70, none⟩,
 ⟨.store (.i .i64) (.t 70) (.t 68), none, none⟩])
 (.seq (.reg false [] [
 ⟨.bin .eql .plain (.t 51) (.c (vi .i64 15)), some 72, none⟩,
 ⟨.mv (.t 72), some 71, none⟩])
 (.keep [0, 6, 7, 71] (.cond (.t 71)
 (.reg false [] [
 ⟨.mv (.t 0), some 73, none⟩,
 ⟨.call i_draw_Codes_Next [(.t 73), (.c (vi .i64 9))] 0, some 74, none⟩,
 ⟨.bin .sub .plain (.t 74) (.c (vi .i64 1)), some 75, none⟩,
 ⟨.faddr 0 (.t 7), some 76, none⟩,
 ⟨.store (.i .i64) (.t 76) (.t 75), none, none⟩])
 (.skip))))))))))))))))
 (.keep [6, 7] (.seq (.reg false [] [
 ⟨.load true J4 (.t 7), some 77, none⟩,
 ⟨.store J4 (.t 6) (.t 77), none, none⟩])
 (.ret)))))))))
def J0F : TFn := ⟨3, 78, J52, [.cell 6 true J4], false⟩
def J8s : TCo := .seq (.reg false [] [
 ⟨.box J3 (.t 0), some 1, none⟩,
 ⟨.newbox J3, some 2, none⟩])
 (.keep [1, 2] (.seq (.reg false [] [
 ⟨.faddr 0 (.t 1), some 3, none⟩,
 ⟨.load false (.l .s) (.t 3), some 4, none⟩,
 ⟨.appn .s 16 (.t 4), some 5, none⟩,
 ⟨.faddr 0 (.t 1), some 6, none⟩,
 ⟨.store (.l .s) (.t 6) (.t 5), none, none⟩])
 (.keep [1, 2] (.seq (.reg false [] [
 ⟨.faddr 2 (.t 1), some 7, none⟩,
 ⟨.load false (.l (.i .i64)) (.t 7), some 8, none⟩,
 ⟨.appn (.i .i64) 8 (.t 8), some 9, none⟩,
 ⟨.faddr 2 (.t 1), some 10, none⟩,
 ⟨.store (.l (.i .i64)) (.t 10) (.t 9), none, none⟩])
 (.keep [1, 2] (.seq (.reg false [] [
 ⟨.faddr 4 (.t 1), some 11, none⟩,
 ⟨.load false (.l J4) (.t 11), some 12, none⟩,
 ⟨.appn J4 48 (.t 12), some 13, none⟩,
 ⟨.faddr 4 (.t 1), some 14, none⟩,
 ⟨.store (.l J4) (.t 14) (.t 13), none, none⟩])
 (.keep [1, 2] (.seq (.reg false [] [
 ⟨.load true J3 (.t 1), some 15, none⟩,
 ⟨.store J3 (.t 2) (.t 15), none, none⟩])
 (.ret)))))))))
def J28 : TFn := ⟨1, 16, J8s, [.cell 2 true J3], true⟩
end Go.Am.Od
end
section
namespace Go.Am.Od
noncomputable section
set_option maxRecDepth 20000
def JS (rec : (Int × J5) → Option (Int × J5)) (x1 : Int × J5) : Option (Int × J5) :=
 if geI x1.2.2 (J8 x1.2.1) = false then
  if ltI x1.1 1 then
   some (0, x1.2)
  else
   (idx x1.2.1 x1.2.2).bind fun y2 =>
   if gtI x1.1 256 then
    (rec (256, x1.2.1, Jb .i64 x1.2.2 1)).bind fun y3 =>
    (JbA (Jb .i64 (Ji8 .i64 256 (cvI .i64 y2)) y3.1) x1.1).bind fun y4 =>
    some (y4, y3.2)
   else
    (JbA (cvI .i64 y2) x1.1).bind fun y5 =>
    some (y5, x1.2.1, Jb .i64 x1.2.2 1)
 else
  some (0, x1.2)
def J7 : (Int × J5) → Option (Int × J5) := J9t JS 100
theorem J5G (r x) : onO (J0b g_draw_Codes_Next x) (fun y => J0x (TG.of (sigE i_draw_Codes_Next g_draw_Codes_Next r :: [])) J0L y.1 y.2 (JR g_draw_Codes_Next)) = JS r x := by kernel_rfl
def Jc (x1 : J5) : Option (Int × J5) :=
 (J7 (10, x1)).bind fun y2 =>
 if eqI y2.1 0 then
  (J7 (3, y2.2)).bind fun y3 =>
  some (J4h .i64 (-1) y3.1, y3.2)
 else
  if eqI y2.1 1 then
   (J7 (16, y2.2)).bind fun y4 =>
   (idx [9223372036854775807, (-9223372036854775808), 1099511627776, 1099511627777, 1073741824, 1073741825, 64, 63, 16, 15, 256, 255, 4294967296, 65536, 256, 255] y4.1).bind fun y5 =>
   some (y5, y4.2)
  else
   (J7 (20, y2.2)).bind fun y6 =>
   some (y6.1, y6.2)
theorem J6l (x) : onO (J0b J0u x) (fun y => J0x (TG.of [sigE i_draw_Codes_Next g_draw_Codes_Next J7]) J12 y.1 y.2 (JR J0u)) = Jc x := by kernel_rfl
def J0p (x1 : Int × Int × J5) : Option (Ja × J5) :=
 (J7 (6, x1.2.2)).bind fun y2 =>
 (J7 (6, y2.2)).bind fun y3 =>
 if eqI (Jb .i64 1 y2.1) 2 then
  (J7 (x1.1, y3.2)).bind fun y4 =>
  (J7 (16, y4.2)).bind fun y5 =>
  if eqI y5.1 12 then
   (Jc y5.2).bind fun y6 =>
   some ((Jb .i64 1 y2.1, y6.1, 0, y4.1, 0, 0), y6.2)
  else
   if eqI y5.1 13 then
    (Jc y5.2).bind fun y7 =>
    some ((Jb .i64 1 y2.1, Jb .i64 (Jb .i64 x1.2.1 1) y3.1, y7.1, y4.1, 0, 0), y7.2)
   else
    if eqI y5.1 14 then
     (Jc y5.2).bind fun y8 =>
     (Jc y8.2).bind fun y9 =>
     some ((Jb .i64 1 y2.1, Jb .i64 (Jb .i64 x1.2.1 1) y3.1, 0, y8.1, y9.1, 0), y9.2)
    else
     if eqI y5.1 15 then
      (J7 (9, y5.2)).bind fun y10 =>
      some ((J4h .i64 y10.1 1, Jb .i64 (Jb .i64 x1.2.1 1) y3.1, 0, y4.1, 0, 0), y10.2)
     else
      some ((Jb .i64 1 y2.1, Jb .i64 (Jb .i64 x1.2.1 1) y3.1, 0, y4.1, 0, 0), y5.2)
 else
  if eqI (Jb .i64 1 y2.1) 3 then
   (J7 (256, y3.2)).bind fun y11 =>
   (J7 (16, y11.2)).bind fun y12 =>
   if eqI y12.1 12 then
    (Jc y12.2).bind fun y13 =>
    some ((Jb .i64 1 y2.1, y13.1, 0, 0, y11.1, 0), y13.2)
   else
    if eqI y12.1 13 then
     (Jc y12.2).bind fun y14 =>
     some ((Jb .i64 1 y2.1, Jb .i64 (Jb .i64 x1.2.1 1) y3.1, y14.1, 0, y11.1, 0), y14.2)
    else
     if eqI y12.1 14 then
      (Jc y12.2).bind fun y15 =>
      (Jc y15.2).bind fun y16 =>
      some ((Jb .i64 1 y2.1, Jb .i64 (Jb .i64 x1.2.1 1) y3.1, 0, y15.1, y16.1, 0), y16.2)
     else
      if eqI y12.1 15 then
       (J7 (9, y12.2)).bind fun y17 =>
       some ((J4h .i64 y17.1 1, Jb .i64 (Jb .i64 x1.2.1 1) y3.1, 0, 0, y11.1, 0), y17.2)
      else
       some ((Jb .i64 1 y2.1, Jb .i64 (Jb .i64 x1.2.1 1) y3.1, 0, 0, y11.1, 0), y12.2)
  else
   if eqI (Jb .i64 1 y2.1) 4 then
    (J7 (x1.1, y3.2)).bind fun y18 =>
    (J7 (256, y18.2)).bind fun y19 =>
    (J7 (255, y19.2)).bind fun y20 =>
    (J7 (16, y20.2)).bind fun y21 =>
    if eqI y21.1 12 then
     (Jc y21.2).bind fun y22 =>
     some ((Jb .i64 1 y2.1, y22.1, y18.1, 0, y19.1, cvI .u8 (Jb .i64 1 y20.1)), y22.2)
    else
     if eqI y21.1 13 then
      (Jc y21.2).bind fun y23 =>
      some ((Jb .i64 1 y2.1, Jb .i64 (Jb .i64 x1.2.1 1) y3.1, y23.1, 0, y19.1, 0), y23.2)
     else
      if eqI y21.1 14 then
       (Jc y21.2).bind fun y24 =>
       (Jc y24.2).bind fun y25 =>
       some ((Jb .i64 1 y2.1, Jb .i64 (Jb .i64 x1.2.1 1) y3.1, y18.1, y24.1, y25.1, cvI .u8 (Jb .i64 1 y20.1)), y25.2)
      else
       if eqI y21.1 15 then
        (J7 (9, y21.2)).bind fun y26 =>
        some ((J4h .i64 y26.1 1, Jb .i64 (Jb .i64 x1.2.1 1) y3.1, y18.1, 0, y19.1, cvI .u8 (Jb .i64 1 y20.1)), y26.2)
       else
        some ((Jb .i64 1 y2.1, Jb .i64 (Jb .i64 x1.2.1 1) y3.1, y18.1, 0, y19.1, cvI .u8 (Jb .i64 1 y20.1)), y21.2)
   else
    if eqI (Jb .i64 1 y2.1) 5 then
     (J7 (x1.1, y3.2)).bind fun y27 =>
     (J7 (16, y27.2)).bind fun y28 =>
     if eqI y28.1 12 then
      (Jc y28.2).bind fun y29 =>
      some ((Jb .i64 1 y2.1, y29.1, y27.1, 0, 0, 0), y29.2)
     else
      if eqI y28.1 13 then
       (Jc y28.2).bind fun y30 =>
       some ((Jb .i64 1 y2.1, Jb .i64 (Jb .i64 x1.2.1 1) y3.1, y30.1, 0, 0, 0), y30.2)
      else
       if eqI y28.1 14 then
        (Jc y28.2).bind fun y31 =>
        (Jc y31.2).bind fun y32 =>
        some ((Jb .i64 1 y2.1, Jb .i64 (Jb .i64 x1.2.1 1) y3.1, y27.1, y31.1, y32.1, 0), y32.2)
       else
        if eqI y28.1 15 then
         (J7 (9, y28.2)).bind fun y33 =>
         some ((J4h .i64 y33.1 1, Jb .i64 (Jb .i64 x1.2.1 1) y3.1, y27.1, 0, 0, 0), y33.2)
        else
         some ((Jb .i64 1 y2.1, Jb .i64 (Jb .i64 x1.2.1 1) y3.1, y27.1, 0, 0, 0), y28.2)
    else
     (J7 (16, y3.2)).bind fun y34 =>
     if eqI y34.1 12 then
      (Jc y34.2).bind fun y35 =>
      some ((Jb .i64 1 y2.1, y35.1, 0, 0, 0, 0), y35.2)
     else
      if eqI y34.1 13 then
       (Jc y34.2).bind fun y36 =>
       some ((Jb .i64 1 y2.1, Jb .i64 (Jb .i64 x1.2.1 1) y3.1, y36.1, 0, 0, 0), y36.2)
      else
       if eqI y34.1 14 then
        (Jc y34.2).bind fun y37 =>
        (Jc y37.2).bind fun y38 =>
        some ((Jb .i64 1 y2.1, Jb .i64 (Jb .i64 x1.2.1 1) y3.1, 0, y37.1, y38.1, 0), y38.2)
       else
        if eqI y34.1 15 then
         (J7 (9, y34.2)).bind fun y39 =>
         some ((J4h .i64 y39.1 1, Jb .i64 (Jb .i64 x1.2.1 1) y3.1, 0, 0, 0, 0), y39.2)
        else
         some ((Jb .i64 1 y2.1, Jb .i64 (Jb .i64 x1.2.1 1) y3.1, 0, 0, 0, 0), y34.2)
theorem J4Y (x) : onO (J0b J0E x) (fun y => J0x (TG.of [sigE i_draw_Codes_Next g_draw_Codes_Next J7, sigE Jz J0u Jc]) J0F y.1 y.2 (JR J0E)) = J0p x := by kernel_rfl
def J0U (x1 : J6) : Option (Int × Bool × (List (List UInt8)) × (List Int) × (List Ja)) :=
 (cloS 16 x1.1).bind fun y2 =>
 (cloS 8 x1.2.2.1).bind fun y3 =>
 (cloS 48 x1.2.2.2.2).bind fun y4 =>
 some (x1.2.1, x1.2.2.2.1, y2, y3, y4)
theorem J8x (x) : onO (J0b J1i x) (fun y => J0x (TG.of []) J28 y.1 y.2 (JR J1i)) = J0U x := by kernel_rfl
end
end Go.Am.Od
end
section
namespace Go.Am.Od
set_option maxRecDepth 20000
def lkA {α : Type} (f : FuncId) : List (FuncId × α) → Option α
 | [] => none
 | (g, a) :: r => if f = g then some a else lkA f r
noncomputable def fns : List (FuncId × AFn) := [(i_draw_Codes_Next, erF J0L), (J2S, erF J2R), (Jz, erF J12), (JX, erF J0F), (J0k, erF J28)]
noncomputable def fks : List (FuncId × J4O) := []
noncomputable def fps : List (FuncId × Prm) := []
abbrev PS := FuncId → Option (List AV → List Blk → Option Res)
noncomputable def tabO (p : PS) : J1Y := fun f => Jp8 (lkA f fns) (lkA f fks) (lkA f fps) (p f)
theorem J5B (p : PS) : tabO p i_draw_Codes_Next = some (.fn (erF J0L)) := rfl
theorem J66 (p : PS) : tabO p Jz = some (.fn (erF J12)) := rfl
theorem J54 (p : PS) : tabO p JX = some (.fn (erF J0F)) := rfl
theorem J8J (p : PS) : tabO p J0k = some (.fn (erF J28)) := rfl
end Go.Am.Od
end
section
namespace Go.Am.Od
set_option maxRecDepth 20000
set_option maxHeartbeats 4000000
theorem J1y (p : PS) : EOk (AF (tabO p)) (sigE i_draw_Codes_Next g_draw_Codes_Next J7) := JhG (l := []) (J5B p) trivial rfl J5G 100
theorem J6j (p : PS) : EOk (AF (tabO p)) (sigE Jz J0u Jc) := J0g (l := [sigE i_draw_Codes_Next g_draw_Codes_Next J7]) (J66 p) ⟨J1y p, trivial⟩ rfl J6l
theorem J7y (p : PS) : EOk (AF (tabO p)) (sigE JX J0E J0p) := J0g (l := [sigE i_draw_Codes_Next g_draw_Codes_Next J7, sigE Jz J0u Jc]) (J54 p) ⟨J1y p, ⟨J6j p, trivial⟩⟩ rfl J4Y
theorem J8t (p : PS) : EOk (AF (tabO p)) (sigE J0k J1i J0U) := J0g (l := []) (J8J p) trivial rfl J8x
end Go.Am.Od
end
section
namespace Go.Am
theorem JiY {α : Type} {n : Nat} : ∀ {l m : List (List α)}, (∀ x ∈ l, x.length = n) → (∀ x ∈ m, x.length = n) → l.length = m.length → l.flatten = m.flatten → l = m
 | [], [], _, _, _, _ => rfl
 | [], _ :: _, _, _, h, _ => by simp at h
 | _ :: _, [], _, _, h, _ => by simp at h
 | x :: l, y :: m, hl, hm, h, e => by
  simp only [List.flatten_cons] at e
  have h1 := hl x List.mem_cons_self
  have h2 := hm y List.mem_cons_self
  obtain ⟨e1, e2⟩ := List.append_inj e (by omega)
  subst e1
  rw [JiY (fun z hz => hl z (List.mem_cons_of_mem _ hz)) (fun z hz => hm z (List.mem_cons_of_mem _ hz)) (by simpa using h) e2]
theorem Jd9 {α β : Type} {f : α → β} (hf : ∀ x y, f x = f y → x = y) : ∀ {l m : List α}, l.map f = m.map f → l = m
 | [], [], _ => rfl
 | [], _ :: _, h => by simp at h
 | _ :: _, [], h => by simp at h
 | x :: l, y :: m, h => by
  simp only [List.map_cons, List.cons.injEq] at h
  rw [hf _ _ h.1, Jd9 hf h.2]
theorem J9C : ∀ (t : Ty) (x y : t.D), cel t x = cel t y → x = y
 | .b, x, y, h => by simp only [cel, List.cons.injEq, PV.b.injEq, and_true] at h; exact h
 | .i k, x, y, h => by simp only [cel, List.cons.injEq, PV.i.injEq, and_true, true_and] at h; exact h
 | .s, x, y, h => by simp only [cel, List.cons.injEq, PV.s.injEq, and_true] at h; exact h
 | .l t, x, y, h => by
  simp only [cel, List.cons.injEq, PV.sl.injEq, and_true, true_and] at h
  exact Jd9 (J9C t) h
 | .pr a c, x, y, h => by
  simp only [cel] at h
  obtain ⟨e1, e2⟩ := List.append_inj h (by rw [J0d, J0d])
  exact Prod.ext (J9C a _ _ e1) (J9C c _ _ e2)
 | .ar n t, x, y, h => by
  have h2 : (x.toList.map (cel t)).flatten = (y.toList.map (cel t)).flatten := h
  have h3 := JiY (n := t.sz) (fun z hz => by obtain ⟨q, _, rfl⟩ := List.mem_map.1 hz; exact J0d t q) (fun z hz => by obtain ⟨q, _, rfl⟩ := List.mem_map.1 hz; exact J0d t q) (by simp) h2
  exact Vector.toList_inj.1 (Jd9 (J9C t) h3)
 | .u, _, _, _ => rfl
 | .f, _, _, _ => rfl
open Classical in
noncomputable def unc (t : Ty) (cs : List PV) : Option t.D := if h : ∃ x : t.D, cel t x = cs then some (Classical.choose h) else none
theorem Jrn (t : Ty) (x : t.D) : unc t (cel t x) = some x := by
 unfold unc
 have h : ∃ z : t.D, cel t z = cel t x := ⟨x, rfl⟩
 rw [dif_pos h, J9C t _ _ (Classical.choose_spec h)]
theorem Jih {t : Ty} {cs : List PV} {x : t.D} (h : unc t cs = some x) : cel t x = cs := by
 unfold unc at h
 split at h
 ·rename_i hx; injection h with h; rw [← h]; exact Classical.choose_spec hx
 ·cases h
noncomputable def JlU (t : Ty) (S : t.D × Int × List UInt8 → Option t.D) : Prm
 | [.data cs, .p (.i .i64 n), .p (.s l)], blks => (unc t cs).bind fun x => (S (x, n, l)).map fun y => (.data (cel t y), blks)
 | _, _ => none
noncomputable def Jd2 (t : Ty) (S : t.D × Int × List UInt8 → Option (t.D × Int)) : Prm
 | [.data cs, .p (.i .i64 n), .p (.s l)], blks => (unc t cs).bind fun x => (S (x, n, l)).map fun y => (.tup [.data (cel t y.1), .p (.i .i64 y.2)], blks)
 | _, _ => none
theorem Jri {t : Ty} {S : t.D × Int × List UInt8 → Option (t.D × Int)} (x : t.D) (n : Int) (l : List UInt8) (blks : List Blk) : Jd2 t S [.data (cel t x), .p (.i .i64 n), .p (.s l)] blks = (S (x, n, l)).map fun y => (.tup [.data (cel t y.1), .p (.i .i64 y.2)], blks) := by
 show (unc t (cel t x)).bind _ = _
 rw [Jrn]; rfl
theorem Jqo {P : Program} {f : FuncId} {t : Ty} {S : t.D × Int × List UInt8 → Option t.D}
  (hw : ∀ x n l y blks, S (x, n, l) = some y → J1P P f [.data (cel t x), .p (.i .i64 n), .p (.s l)] blks (.data (cel t y), blks)) (args : List AV) (blks : List Blk) (r : Res) (h : JlU t S args blks = some r) : J1P P f args blks r := by
 unfold JlU at h
 split at h
 ·rename_i cs n l
  obtain ⟨x, hx, h⟩ := Option.bind_eq_some_iff.1 h
  obtain ⟨y, hy, rfl⟩ := Option.map_eq_some_iff.1 h
  have := hw _ _ _ _ blks hy
  rwa [Jih hx] at this
 ·cases h
theorem JqK {P : Program} {f : FuncId} {t : Ty} {S : t.D × Int × List UInt8 → Option (t.D × Int)}
  (hw : ∀ x n l y blks, S (x, n, l) = some y → J1P P f [.data (cel t x), .p (.i .i64 n), .p (.s l)] blks (.tup [.data (cel t y.1), .p (.i .i64 y.2)], blks)) (args : List AV) (blks : List Blk) (r : Res) (h : Jd2 t S args blks = some r) : J1P P f args blks r := by
 unfold Jd2 at h
 split at h
 ·rename_i cs n l
  obtain ⟨x, hx, h⟩ := Option.bind_eq_some_iff.1 h
  obtain ⟨y, hy, rfl⟩ := Option.map_eq_some_iff.1 h
  have := hw _ _ _ _ blks hy
  rwa [Jih hx] at this
 ·cases h
def JnO (t : Ty) : Sig := ⟨[.dt t, .c (.d (.i .i64)), .c (.d .s)], [], [t, .i .i64, .s], .a (.dt t), [], [], [t]⟩
def JlD (t : Ty) : Sig := ⟨[.dt t, .c (.d (.i .i64)), .c (.d .s)], [], [t, .i .i64, .s], .tup [.dt t, .c (.d (.i .i64))], [], [], [t, .i .i64]⟩
theorem JrC (t : Ty) (x : t.D × Int × List UInt8) : J0b (JnO t) x = some ([.dt t x.1, .c (.d (.i .i64) x.2.1), .c (.d .s x.2.2)], []) := by
 have h : ∀ r, lf1 t (⟨t, x.1⟩ :: r) = some (x.1, r) := JiE t x.1
 show (match mkL mkA [.dt t, .c (.d (.i .i64)), .c (.d .s)] [(⟨t, x.1⟩ : Lf), ⟨.i .i64, x.2.1⟩, ⟨.s, x.2.2⟩] with
  | some (xs, l) => match mkL mkB (JnO t).blks l with
   | some (bl, []) => some (xs, bl)
   | _ => none
  | none => none) = _
 simp only [mkL, mkA, mkC, h]
 rfl
theorem Jr4 {T : J1Y} {f : FuncId} {t : Ty} {S : t.D × Int × List UInt8 → Option (t.D × Int)} (hf : T f = some (.prim (Jd2 t S))) : EOk (AF T) (sigE f (JlD t) S) := by
 refine J9X rfl fun x xs bl y hx hy => ?_
 rw [show J0b (JlD t) x = J0b (JnO t) x from rfl, JrC t x] at hx
 injection hx with hx; injection hx with h1 h2; subst h1 h2
 refine ⟨.tup [.dt t y.1, .c (.d (.i .i64) y.2)], [], ?_, ?_⟩
 ·rw [Jfh hf]
  refine (Jri x.1 x.2.1 x.2.2 []).trans ?_
  rw [show S (x.1, x.2.1, x.2.2) = some y from hy]
  rfl
 ·show (if (ShV.tup [.dt t, .c (.d (.i .i64))] = (JlD t).res ∧ ([] : List ShB) = (JlD t).out) then asL [t, .i .i64] [⟨t, y.1⟩, ⟨.i .i64, y.2⟩] else none) = some y
  rw [if_pos ⟨rfl, rfl⟩]
  simp [asL, Jdu]
  rfl
end Go.Am
end
section
set_option linter.unusedSimpArgs false
set_option linter.unusedVariables false
namespace Go.Am
open Go.RowKit
theorem Jlk {σ : List Blk} {g : Gh} {w w' : World} (hi : Inv ⟨σ, g, w⟩) (hb : Below w.heap.size w w') (p : Nat → Nat → Prop) (hp : ∀ r o, p r o → w.heap.size ≤ r ∧ r < w'.heap.size) :
  Inv ⟨σ, J6g g p, w'⟩ ∧ Ju ⟨σ, g, w⟩ ⟨σ, J6g g p, w'⟩ := by
 have hk : ∀ (r : Nat) x, w.heap[r]? = some x → w'.heap[r]? = some x := fun r x h => by rw [hb.block r (J0h h)]; exact h
 have hc : ∀ r o v, cellAt w r o = some v → cellAt w' r o = some v := by
  intro r o v h
  have hr : r < w.heap.size := by
   unfold cellAt at h
   split at h
   ·rename_i hx; exact J0h hx
   ·cases h
  unfold cellAt at h ⊢
  rw [hb.block r hr]
  exact h
 have t : Ju ⟨σ, g, w⟩ ⟨σ, J6g g p, w'⟩ := by
  refine ⟨⟨hb.size, fun r c e fz h => ⟨c, hk r _ h, rfl, fun _ _ => rfl⟩, fun r x h _ => hk r x h, hb.os, hb.output⟩, fun _ _ h => .inl h, fun r o h => ?_, fun r o ⟨b, hb⟩ => .inl ⟨b, hb⟩, Nat.le_refl _, fun _ cs h => ⟨⟨cs, h, rfl⟩, rfl⟩,
   fun _ wm _ rows h => ⟨wm, rows, h, id, Nat.le_refl _, fun _ => rfl⟩⟩
  rcases h with h | h
  ·exact .inl h
  ·exact .inr (.inr (hp r o h).1)
 refine ⟨J4v hi t (fun _ => False) (fun _ _ => ⟨rfl, rfl⟩) (fun _ r o v _ _ h => hc r o v h) (fun _ _ h => h.elim) (fun _ _ _ _ h => h.elim)
  (fun _ _ _ _ h => h.elim) ?_ (fun _ _ _ _ h => h.elim) ?_, t⟩
 ·intro r o hc
  rcases hc with hc | hc
  ·exact Nat.lt_of_lt_of_le (hi.const r o hc).1 hb.size
  ·exact (hp r o hc).2
 ·intro r o b hc hn _ h
  rcases hc with hc | hc
  ·exact hn hc
  ·have h1 : r < w.heap.size := J7X hi b r o h
   have h2 := (hp r o hc).1
   omega
def Jdm (args : List AV) (blks : List Blk) : Option Res :=
 match args with
 | [.p (.sl 1 [[.s l]]), .p (.i .i64 n)] => if 1 ≤ n ∧ n ≤ 1000 then some (.p (.sl 1 (List.replicate n.toNat [.s l])), blks) else none
 | _ => none
theorem Jrt {P : Program} {f : FuncId} (hf : ∃ fn, P.funcs[f]? = some fn ∧ fn.body.isSome = true ∧ (fn.name == "runtime.NumGoroutine") = false)
  (hw : ∀ (b o xc n : Nat) (v : Value) (w : World), 1 ≤ n → n ≤ 1000 → w.cell? ⟨b, o, none⟩ = some v → v.oneCell' = true →
   Calls P f #[.slice (some ⟨b, o, none⟩) 1 xc, .int .i64 n] w fun e w' => e = .returned (.slice (some ⟨w.heap.size, 0, none⟩) n n) ∧ Below w.heap.size w w' ∧ ∀ j, j < n → w'.cell? ⟨w.heap.size, j, none⟩ = some v) :
  ∀ args blks r, Jdm args blks = some r → J1P P f args blks r := by
 intro args blks r h
 unfold Jdm at h
 split at h
 ·rename_i l n
  split at h
  ·rename_i hn
   injection h with h
   subst h
   refine ⟨hf, fun g w vals hi hl hr => ?_⟩
   obtain ⟨v0, v1, rfl⟩ : ∃ v0 v1, vals = #[v0, v1] := by
    obtain ⟨x⟩ := vals
    match x, hl with
    | [a, b], _ => exact ⟨a, b, rfl⟩
   have h0 : Ji ⟨blks, g, w⟩ (.p (.sl 1 [[.s l]])) v0 := hr 0 _ _ rfl rfl
   have h1 : Ji ⟨blks, g, w⟩ (.p (.i .i64 n)) v1 := hr 1 _ _ rfl rfl
   obtain ⟨k, rfl⟩ : ∃ k : Nat, n = (k : Int) := ⟨n.toNat, by omega⟩
   cases h1 with
   | p _ _ h1 =>
   cases h1
   cases h0 with
   | p _ _ h0 =>
   cases h0 with
   | sl _ _ r o cap vals c1 c2 c3 c4 =>
    have hc := (c3 0 0 [.s l] (.s l) rfl rfl).2
    have hv := c4 0 0 [.s l] (.s l) rfl rfl
    generalize vals 0 0 = u at hc hv
    cases hv
    refine (hw r o cap k (.string ⟨l.toArray⟩) w (by omega) (by omega) (by rw [J2d]; exact hc) rfl).mono ?_
    rintro e w' ⟨rfl, hb, hcs⟩
    have hlt : w.heap.size < w'.heap.size := by
     have h0 := hcs 0 (by omega)
     rw [J2d] at h0
     unfold cellAt at h0
     split at h0
     ·rename_i hx; exact J0h hx
     ·cases h0
    obtain ⟨i2, t2⟩ := Jlk hi hb (fun r o => r = w.heap.size) (fun r o h => ⟨Nat.le_of_eq h.symm, by rw [h]; exact hlt⟩)
    refine ⟨_, _, rfl, i2, t2, .p _ _ ?_⟩
    simp only [Int.toNat_natCast]
    have hx : Jp w' (J6g g fun r o => r = w.heap.size).C (.sl 1 (List.replicate k [.s l])) (.slice (some ⟨w.heap.size, 0, none⟩) (List.replicate k [PV.s l]).length k) := by
     refine .sl 1 _ w.heap.size 0 k (fun _ _ => .string ⟨l.toArray⟩) (by simp) (fun row h => by rw [List.eq_of_mem_replicate h]; rfl) (fun i j row x hrow hx => ?_) (fun i j row x hrow hx => ?_)
     ·rw [List.getElem?_replicate] at hrow
      split at hrow
      ·rename_i hi
       injection hrow with hrow
       subst hrow
       cases j with
       | zero =>
        refine ⟨.inr rfl, ?_⟩
        rw [← J2d]
        simpa using hcs i hi
       | succ j => simp at hx
      ·cases hrow
     ·rw [List.getElem?_replicate] at hrow
      split at hrow
      ·injection hrow with hrow
       subst hrow
       cases j with
       | zero => simp at hx; subst hx; exact .s _
       | succ j => simp at hx
      ·cases hrow
    rw [List.length_replicate] at hx
    exact hx
  ·cases h
 ·cases h
end Go.Am
end
section
namespace Go.Am
open Go.RowKit
structure Up (B : Nat) (w w' : World) : Prop where
 size : w.heap.size ≤ w'.heap.size
 block : ∀ k, k < B → w'.heap[k]? = w.heap[k]?
 os : w'.os = w.os
 output : w'.output = w.output
theorem Up.refl (B : Nat) (w : World) : Up B w w := ⟨Nat.le_refl _, fun _ _ => rfl, rfl, rfl⟩
theorem Up.trans {B : Nat} {a b c : World} (h : Up B a b) (k : Up B b c) : Up B a c :=
 ⟨Nat.le_trans h.size k.size, fun i hi => (k.block i hi).trans (h.block i hi), k.os.trans h.os, k.output.trans h.output⟩
theorem Up.mono {B B' : Nat} {a b : World} (h : Up B a b) (hB : B' ≤ B) : Up B' a b := ⟨h.size, fun k hk => h.block k (Nat.lt_of_lt_of_le hk hB), h.os, h.output⟩
theorem Up.of_below {B : Nat} {a b : World} (h : Below B a b) : Up B a b := ⟨h.size, h.block, h.os, h.output⟩
theorem Up.drew {B : Nat} {a b : World} (h : Up B a b) : Up B a b.drew := ⟨h.size, h.block, h.os, h.output⟩
theorem Up.alloc {B : Nat} {a b : World} (h : Up B a b) (hB : B ≤ b.heap.size) (o : Obj) : Up B a (b.alloc o) :=
 h.trans (.of_below ((Below.refl B b).alloc hB o))
theorem Up.setCell {B : Nat} {a b : World} (h : Up B a b) {p : Addr} (hp : B ≤ p.block) (u : Value) : Up B a (b.setCell p u) :=
 h.trans (.of_below ((Below.refl B b).setCell hp u))
theorem Up.cellAt {B : Nat} {a b : World} (h : Up B a b) {r o : Nat} (hr : r < B) : cellAt b r o = cellAt a r o := by
 unfold Go.Am.cellAt; rw [h.block r hr]
theorem J4X {w : World} {r o : Nat} {v : Value} (h : cellAt w r o = some v) : r < w.heap.size := by
 unfold cellAt at h
 split at h
 ·rename_i hx; exact J0h hx
 ·cases h
theorem Jp.keeps {w w' : World} {C C' : Nat → Nat → Prop} (hs : ∀ r o u, C r o → cellAt w r o = some u → C' r o ∧ cellAt w' r o = some u) {x : PV} {v : Value} (h : Jp w C x v) : Jp w' C' x v := by
 induction h with
 | b x => exact .b x
 | i k n => exact .i k n
 | s l => exact .s l
 | np => exact .np
 | nf => exact .nf
 | sl0 e a c => exact .sl0 e a c
 | sl esz rows r o cap vals h1 h2 h3 _ ih => exact .sl esz rows r o cap vals h1 h2 (fun i j row x hi hj => hs _ _ _ (h3 i j row x hi hj).1 (h3 i j row x hi hj).2) ih
 | slc esz rows a _ ih => exact .slc esz rows a ih
theorem Jp.up {w w' : World} {C C' : Nat → Nat → Prop} (hu : Up w.heap.size w w') (hC : ∀ r o, C r o → r < w.heap.size → C' r o) {x : PV} {v : Value} (h : Jp w C x v) : Jp w' C' x v :=
 h.keeps fun r o u hc hu' => ⟨hC r o hc (J4X hu'), by rw [hu.cellAt (J4X hu')]; exact hu'⟩
theorem JqS {g g' : Gh} {w w' : World} (t : Ju ⟨[], g, w⟩ ⟨[], g', w'⟩) : Up w.heap.size w w' := by
 have hno : ∀ r o, ¬ Wr (⟨[], g, w⟩ : Sn) r o := fun r o ⟨b, hb⟩ => by simp [Wr1] at hb
 obtain ⟨h1, h2, h3, h4, h5⟩ := t.keep
 refine ⟨h1, fun k hk => ?_, h4, h5⟩
 have hk' : w.heap[k]? = some w.heap[k] := Array.getElem?_eq_getElem hk
 cases e : w.heap[k] with
 | cells c t' fz =>
  rw [e] at hk'
  obtain ⟨c', e1, e2, e3⟩ := h2 k c t' fz hk'
  have : c' = c := Array.ext_getElem? fun i => e3 i (hno k i)
  show w'.heap[k]? = w.heap[k]?
  rw [hk', ← this]; exact e1
 | _ => rw [e] at hk'; show w'.heap[k]? = w.heap[k]?; rw [hk']; exact h3 k _ hk' (fun _ _ _ h => by cases h)
def ghC (C : Nat → Nat → Prop) (w : World) : Gh := J6g ⟨fun _ => none, fun _ _ => False⟩ fun r o => C r o ∧ r < w.heap.size
theorem JqG (C : Nat → Nat → Prop) (w : World) : Inv ⟨[], ghC C w, w⟩ :=
 ⟨fun b cs h => by simp at h, fun b wm e r h => by simp at h, fun b1 b2 r o h => by simp [Wr1] at h, fun r o h => by
  rcases h with h | h
  ·exact h.elim
  ·exact ⟨h.2, fun b hb => by simp [Wr1] at hb⟩⟩
theorem Jnv {P : Program} {f : FuncId} {args : List AV} {r : AV} {blks : List Blk} (h : J1P P f args [] (r, blks)) (hb : blks = []) {w : World} (C : Nat → Nat → Prop) {vals : Array Value} (hl : args.length = vals.size)
  (ha : ∀ (i : Nat) x v, args[i]? = some x → vals[i]? = some v → Ji ⟨[], ghC C w, w⟩ x v) :
  Calls P f vals w fun e w' => ∃ v g', e = .returned v ∧ Up w.heap.size w w' ∧ Ji ⟨[], g', w'⟩ r v ∧ ∀ r o, g'.C r o → C r o ∨ w.heap.size ≤ r := by
 subst hb
 refine (h.2 (ghC C w) w vals (JqG C w) hl ha).mono ?_
 rintro e w' ⟨v, g', he, hi, t, hr⟩
 refine ⟨v, g', he, JqS t, hr, fun r o hc => ?_⟩
 rcases t.cnew r o hc with h | ⟨b, hb⟩ | h
 ·rcases h with h | h
  ·exact h.elim
  ·exact .inl h.1
 ·simp [Wr1] at hb
 ·exact .inr h
theorem Jon {σ : List Blk} {g : Gh} {w w' : World} (hi : Inv ⟨σ, g, w⟩) (hb : Up w.heap.size w w') (p : Nat → Nat → Prop) (hp : ∀ r o, p r o → w.heap.size ≤ r ∧ r < w'.heap.size) :
  Inv ⟨σ, J6g g p, w'⟩ ∧ Ju ⟨σ, g, w⟩ ⟨σ, J6g g p, w'⟩ := by
 have hk : ∀ (r : Nat) x, w.heap[r]? = some x → w'.heap[r]? = some x := fun r x h => by rw [hb.block r (J0h h)]; exact h
 have hc : ∀ r o v, cellAt w r o = some v → cellAt w' r o = some v := fun r o v h => by rw [hb.cellAt (J4X h)]; exact h
 have t : Ju ⟨σ, g, w⟩ ⟨σ, J6g g p, w'⟩ := by
  refine ⟨⟨hb.size, fun r c e fz h => ⟨c, hk r _ h, rfl, fun _ _ => rfl⟩, fun r x h _ => hk r x h, hb.os, hb.output⟩, fun _ _ h => .inl h, fun r o h => ?_, fun r o ⟨b, hb⟩ => .inl ⟨b, hb⟩, Nat.le_refl _, fun _ cs h => ⟨⟨cs, h, rfl⟩, rfl⟩,
   fun _ wm _ rows h => ⟨wm, rows, h, id, Nat.le_refl _, fun _ => rfl⟩⟩
  rcases h with h | h
  ·exact .inl h
  ·exact .inr (.inr (hp r o h).1)
 refine ⟨J4v hi t (fun _ => False) (fun _ _ => ⟨rfl, rfl⟩) (fun _ r o v _ _ h => hc r o v h) (fun _ _ h => h.elim) (fun _ _ _ _ h => h.elim)
  (fun _ _ _ _ h => h.elim) ?_ (fun _ _ _ _ h => h.elim) ?_, t⟩
 ·intro r o hc
  rcases hc with hc | hc
  ·exact Nat.lt_of_lt_of_le (hi.const r o hc).1 hb.size
  ·exact (hp r o hc).2
 ·intro r o b hc hn _ h
  rcases hc with hc | hc
  ·exact hn hc
  ·have h1 : r < w.heap.size := J7X hi b r o h
   have h2 := (hp r o hc).1
   omega
end Go.Am
end
section
namespace Go.Am
abbrev FT := Int × Int × Int × Int × Int × Int
abbrev DT := List (List UInt8) × Int × List Int × Bool × List FT
def J4E (x : DT) (p : Nat) (s : List UInt8) : DT := (x.1.set p s, x.2.1, x.2.2.1.filter (fun n => !(n == (p : Int))), x.2.2.2.1, x.2.2.2.2)
def Ji2 (l : List UInt8) (b : Nat) (m : Int) : List UInt8 := ((l.map fun x => (x.toNat : Int)).set b (bits BinOp.xor IntKind.u8 (l.getD b 0).toNat m)).map fun n => UInt8.ofNat n.toNat
def J0X (x : DT) (f : FT) : DT :=
 if f.1 = 4 then (x.1.set f.2.2.1.toNat (Ji2 (x.1.getD f.2.2.1.toNat []) f.2.2.2.2.1.toNat f.2.2.2.2.2), x.2)
 else if f.1 = 5 then
  if x.2.2.1.contains f.2.2.1 then x else (x.1, x.2.1, x.2.2.1.take (x.2.2.1.countP (· < f.2.2.1)) ++ f.2.2.1 :: x.2.2.1.drop (x.2.2.1.countP (· < f.2.2.1)), x.2.2.2)
 else if f.1 = 6 then (x.1, x.2.1, x.2.2.1, true, x.2.2.2.2)
 else x
structure HOk (x : DT) (f : FT) : Prop where
 len : x.1.length ≤ 1000000
 ulen : x.2.2.1.length ≤ 1000000
 sorted : f.1 = 5 → x.2.2.1.Pairwise (· ≤ ·)
 page : f.1 = 4 → 0 ≤ f.2.2.1 ∧ f.2.2.1.toNat < x.1.length
 byte : f.1 = 4 → 0 ≤ f.2.2.2.2.1 ∧ f.2.2.2.2.1.toNat < (x.1.getD f.2.2.1.toNat []).length
 mask : f.1 = 4 → 0 ≤ f.2.2.2.2.2 ∧ f.2.2.2.2.2 ≤ 255
def J1C : List FT → Int × Int
 | [] => (0, 0)
 | f :: l => if f.1 = 1 then (1, 0) else if f.1 = 2 then (2, f.2.2.2.1) else if f.1 = 3 then (3, f.2.2.2.2.1) else J1C l
def J8u (x : DT) (t : Int) (s : List UInt8) : Option DT := if 0 ≤ t ∧ t.toNat < x.1.length ∧ x.1.length ≤ 1000000 ∧ x.2.2.1.length ≤ 1000000 then some (J4E x t.toNat s) else none
theorem J9m {x y : DT} {t : Int} {s : List UInt8} (h : J8u x t s = some y) : (0 ≤ t ∧ t.toNat < x.1.length ∧ x.1.length ≤ 1000000 ∧ x.2.2.1.length ≤ 1000000) ∧ y = J4E x t.toNat s := by
 unfold J8u at h
 split at h
 ·rename_i hk; injection h with h; exact ⟨hk, h.symm⟩
 ·cases h
def Jhm (x : DT) (p b : Int) (s : List UInt8) : Option DT :=
 if 0 ≤ b ∧ b.toNat ≤ s.length ∧ 0 ≤ p ∧ p.toNat < x.1.length ∧ b.toNat ≤ (x.1.getD p.toNat []).length ∧ (x.1.getD p.toNat []).length = 256 then J8u x p (s.take b.toNat ++ (x.1.getD p.toNat []).drop b.toNat) else none
def Jos (e : Int × Int) (x : DT) (p : Int) (s : List UInt8) : Option DT :=
 if e.1 = 1 then some x else if e.1 = 2 then J8u x e.2 s else if e.1 = 3 then Jhm x p e.2 s else J8u x p s
noncomputable def J18 (x : DT) (f : FT) : Option DT := open Classical in if HOk x f then some (J0X x f) else none
theorem J84 {x y : DT} {f : FT} (h : J18 x f = some y) : HOk x f ∧ y = J0X x f := by
 unfold J18 at h
 split at h
 ·rename_i hk; injection h with h; exact ⟨hk, h.symm⟩
 ·cases h
def J6T (x : DT) : List FT := x.2.2.2.2.filter fun f => f.2.1 == x.2.1 + 1
def J70 (x : DT) : DT := (x.1, x.2.1 + 1, x.2.2.1, x.2.2.2.1, x.2.2.2.2.filter fun f => !(f.2.1 == x.2.1 + 1))
noncomputable def JbK (x : DT) (p : Int) (s : List UInt8) : Option DT := (Jos (J1C (J6T x)) (J70 x) p s).bind fun y => (J6T x).foldlM J18 y
def JrZ (x : DT × Int × List UInt8) : Option DT := J8u x.1 x.2.1 x.2.2
noncomputable def JdP (u : Option Int) (x : DT × Int × List UInt8) : Option (DT × Int) := u.bind fun e =>
 if e ≠ 0 then some (([], 0, [], false, []), e)
 else if x.2.2.length ≠ 256 then some (([], 0, [], false, []), 2)
 else if x.1.2.1 = 1099511627776 then some (([], 0, [], false, []), 21)
 else if 0 ≤ x.1.2.1 ∧ x.1.2.1 < 1099511627776 ∧ x.1.2.2.2.2.length ≤ 1000000 then (JbK x.1 x.2.1 x.2.2).map fun y => (y, 0)
 else none
def Jfw (x : List (List UInt8) × Int) : Option (List (List UInt8)) := match x.1 with
 | [l] => if 1 ≤ x.2 ∧ x.2 ≤ 1000 then some (List.replicate x.2.toNat l) else none
 | _ => none
end Go.Am
end
section
namespace Go.Am
def Js7 : Sig := ⟨[.c (.d (.l .s)), .c (.d (.i .i64))], [], [.l .s, .i .i64], .a (.c (.d (.l .s))), [], [], [.l .s]⟩
theorem Jqb (l : List (List UInt8)) (n : Int) (y : List (List UInt8)) (hy : Jfw (l, n) = some y) : Jdm [.p (.sl 1 (l.map (cel .s))), .p (.i .i64 n)] [] = some (AV.p (.sl 1 (y.map (cel .s))), []) := by
 unfold Jfw at hy
 dsimp only at hy
 split at hy
 ·rename_i l
  split at hy
  ·rename_i hn
   injection hy with hy; subst hy
   show (if 1 ≤ n ∧ n ≤ 1000 then some (AV.p (.sl 1 (List.replicate n.toNat [.s l])), ([] : List Blk)) else none) = _
   rw [if_pos hn, List.map_replicate]
   rfl
  ·cases hy
 ·cases hy
theorem JqD {T : J1Y} {f : FuncId} (hf : T f = some (.prim Jdm)) : EOk (AF T) (sigE f Js7 Jfw) := by
 refine J9X rfl fun x xs bl y hx hy => ?_
 rw [show J0b Js7 x = some ([.c (.d (.l .s) x.1), .c (.d (.i .i64) x.2)], []) from rfl] at hx
 injection hx with hx; injection hx with h1 h2; subst h1 h2
 refine ⟨.a (.c (.d (.l .s) y)), [], ?_, rfl⟩
 rw [Jfh hf]
 exact Jqb x.1 x.2 y hy
end Go.Am
end
section
namespace Go.Am
noncomputable def Jro : Prm := fun args blks => AF (Od.tabO fun _ => none) Od.i_law04_odd args blks
end Go.Am
end
section
namespace Go.Am
set_option maxRecDepth 20000
abbrev J3l : FuncId := 3
abbrev J2I : FuncId := 9
abbrev J4o : FuncId := 10
abbrev J1G : FuncId := 11
abbrev J34 : FuncId := 12
abbrev J1A : FuncId := 13
abbrev i_draw_Codes_Next : FuncId := 14
abbrev JX : FuncId := 15
abbrev J0Y : FuncId := 16
abbrev J1T : FuncId := 17
abbrev J10 : FuncId := 18
abbrev J1b : FuncId := 19
abbrev J2g : FuncId := 20
abbrev J1o : FuncId := 21
abbrev J3a : FuncId := 22
abbrev JaJ : FuncId := 23
abbrev J16 : FuncId := 24
abbrev JaP : FuncId := 25
abbrev J74 : FuncId := 26
abbrev Jbr : FuncId := 27
abbrev i_law04_odd : FuncId := 28
abbrev J2S : FuncId := 29
abbrev J0T : FuncId := 30
abbrev Jbm : FuncId := 31
abbrev J8R : FuncId := 32
abbrev J99 : FuncId := 33
abbrev J1V : FuncId := 34
abbrev J1Q : FuncId := 35
abbrev Jz : FuncId := 36
abbrev J0y : FuncId := 37
abbrev JE : FuncId := 38
abbrev J1m : FuncId := 39
abbrev J0k : FuncId := 40
abbrev J1D : FuncId := 41
abbrev Jbx : FuncId := 45
abbrev J0R : FuncId := 47
abbrev J1k : FuncId := 48
abbrev J3b : FuncId := 49
abbrev J0m : FuncId := 50
abbrev J3L : FuncId := 51
abbrev J0f : FuncId := 52
abbrev JN : FuncId := 53
abbrev J0O : FuncId := 54
abbrev JD : FuncId := 55
abbrev J0K : FuncId := 56
abbrev J0l : FuncId := 57
abbrev J2o : FuncId := 58
abbrev J22 : FuncId := 59
abbrev JH : FuncId := 60
abbrev J29 : FuncId := 67
abbrev J0G : FuncId := 68
abbrev JQ : FuncId := 69
def J4 : Ty := .pr (.i .i64) (.pr (.i .i64) (.pr (.i .i64) (.pr (.i .i64) (.pr (.i .i64) ((.i .u8))))))
abbrev Ja := Int × Int × Int × Int × Int × Int
def J3 : Ty := .pr (.l .s) (.pr (.i .i64) (.pr (.l (.i .i64)) (.pr .b ((.l J4)))))
abbrev J6 := (List (List UInt8)) × Int × (List Int) × Bool × (List Ja)
def Jd : Ty := .pr (.l (.i .u8)) ((.i .i64))
abbrev J5 := (List Int) × Int
def J2V : Sig := ⟨[.c (.d .s)], [], [.s], .a (.c (.d .b)), [], [], [.b]⟩
def J3v : Sig := ⟨[.dt J4], [], [J4], .tup [.dt J4, .c (.d .b)], [], [], [J4, .b]⟩
def J1t : Sig := ⟨[.dt J3, .c (.d (.i .i64))], [], [J3, (.i .i64)], .a (.c (.d .b)), [], [], [.b]⟩
def J1B : Sig := ⟨[.dt J3, .dt J4], [], [J3, J4], .a (.c (.d .b)), [], [], [.b]⟩
def J0e : Sig := ⟨[.c (.d (.l .s)), .fn J0O [] []], [], [(.l .s)], .a (.c (.d (.i .i64))), [], [], [(.i .i64)]⟩
def J05 : Sig := ⟨[.c (.d (.l .s)), .fn J0O [] []], [], [(.l .s)], .a (.c (.d .b)), [], [], [.b]⟩
def J2M : Sig := ⟨[.dt J4, .c (.ptr 0 [])], [.box J3], [J4, J3], .a (.c (.d .b)), [.box J3], [true], [.b, J3]⟩
def JY : Sig := ⟨[.c (.d (.l J4)), .fn J0K [] [.ptr 0 []]], [.box J3], [(.l J4), J3], .a (.c (.d (.i .i64))), [.box J3], [true], [(.i .i64), J3]⟩
def JP : Sig := ⟨[.c (.d (.l J4)), .fn J0K [] [.ptr 0 []]], [.box J3], [(.l J4), J3], .a (.c (.d .b)), [.box J3], [true], [.b, J3]⟩
def J2n : Sig := ⟨[.dt J3], [], [J3], .a (.c (.d .b)), [], [], [.b]⟩
def J1z : Sig := J8D J4
def J20 : Sig := ⟨[.dt J3, .dt J4], [], [J3, J4], .tup [.dt J3, .c (.d (.i .i64))], [], [], [J3, (.i .i64)]⟩
def J2h : Sig := ⟨[.c (.d (.l .s)), .c (.d (.i .i64))], [], [(.l .s), (.i .i64)], .a (.c (.d (.l .s))), [], [], [(.l .s)]⟩
def J6f : Sig := ⟨[.c (.d .s), .c (.d (.i .i64))], [], [.s, (.i .i64)], .a (.c (.d .s)), [], [], [.s]⟩
def J40 : Sig := ⟨[.c (.d (.i .i64))], [], [(.i .i64)], .a (.c (.d (.l .s))), [], [], [(.l .s)]⟩
def J3d : Sig := ⟨[.c (.d (.i .i64))], [], [(.i .i64)], .tup [.dt J3, .c (.d (.i .i64))], [], [], [J3, (.i .i64)]⟩
def J3C : Sig := ⟨[.dt J3, .c (.d (.i .i64))], [], [J3, (.i .i64)], .a (.c (.d (.i .i64))), [], [], [(.i .i64)]⟩
def J1H : Sig := ⟨[.c (.d (.l (.i .i64))), .c (.d (.i .i64))], [], [(.l (.i .i64)), (.i .i64)], .a (.c (.d (.i .i64))), [], [], [(.i .i64)]⟩
def J1d : Sig := ⟨[.c (.d (.l (.i .i64))), .c (.d (.i .i64))], [], [(.l (.i .i64)), (.i .i64)], .a (.c (.d .b)), [], [], [.b]⟩
def J2F : Sig := ⟨[.dt J3, .c (.d (.i .i64))], [], [J3, (.i .i64)], .tup [.c (.d .s), .c (.d (.i .i64))], [], [], [.s, (.i .i64)]⟩
def J48 : Sig := ⟨[.dt J3, .c (.d (.i .i64)), .c (.d .s)], [], [J3, (.i .i64), .s], .tup [.dt J3, .c (.d (.i .i64))], [], [], [J3, (.i .i64)]⟩
def g_draw_Codes_Next : Sig := ⟨[.c (.ptr 0 []), .c (.d (.i .i64))], [.box Jd], [(.i .i64), Jd], .a (.c (.d (.i .i64))), [.box Jd], [true], [(.i .i64), Jd]⟩
def J2A : Sig := ⟨[.c (.ptr 0 [])], [.box Jd], [Jd], .a (.c (.d .s)), [.box Jd], [true], [.s, Jd]⟩
def J0u : Sig := ⟨[.c (.ptr 0 [])], [.box Jd], [Jd], .a (.c (.d (.i .i64))), [.box Jd], [true], [(.i .i64), Jd]⟩
def J0E : Sig := ⟨[.c (.ptr 0 []), .c (.d (.i .i64)), .c (.d (.i .i64))], [.box Jd], [(.i .i64), (.i .i64), Jd], .a (.dt J4), [.box Jd], [true], [J4, Jd]⟩
def J2N : Sig := ⟨[.c (.ptr 0 [])], [.box Jd], [Jd], .a (.c (.d (.i .i64))), [.box Jd], [true], [(.i .i64), Jd]⟩
def J6G : Sig := ⟨[.c (.d (.l (.i .u8))), .c (.d (.i .i64))], [], [(.l (.i .u8)), (.i .i64)], .a (.c (.ptr 0 [])), [.box Jd], [], [Jd]⟩
def J4q : Sig := ⟨[], [], [], .a (.c (.d .b)), [], [], [.b]⟩
def J1i : Sig := ⟨[.dt J3], [], [J3], .a (.m J3 [.slr 0, .d (.i .i64), .d (.l (.i .i64)), .d .b, .slr 1]), [.arr true .s, .arr true J4], [], [(.i .i64), (.l (.i .i64)), .b, (.l .s), (.l J4)]⟩
def J2H : Sig := ⟨[.dt J3, .dt J4], [], [J3, J4], .a (.c (.d .b)), [], [], [.b]⟩
def J2E : Sig := ⟨[.dt J3], [], [J3], .a (.c (.d .b)), [], [], [.b]⟩
def J41 : Sig := ⟨[.dt J3, .dt J4], [], [J3, J4], .tup [.dt J3, .c (.d (.i .i64))], [], [], [J3, (.i .i64)]⟩
def J43 : Sig := ⟨[.c (.d (.i .i64))], [], [(.i .i64)], .a (.c (.d (.l .s))), [], [], [(.l .s)]⟩
def J5M : Sig := ⟨[.c (.d (.i .i64))], [], [(.i .i64)], .tup [.dt J3, .c (.d (.i .i64))], [], [], [J3, (.i .i64)]⟩
def J5S : Sig := ⟨[.c (.d (.l (.i .i64))), .c (.d (.i .i64))], [], [(.l (.i .i64)), (.i .i64)], .a (.c (.d .b)), [], [], [.b]⟩
def J2q : Sig := ⟨[.dt J3, .c (.d (.i .i64))], [], [J3, (.i .i64)], .a (.c (.d (.i .i64))), [], [], [(.i .i64)]⟩
def J4U : Sig := ⟨[.dt J3, .c (.d (.i .i64))], [], [J3, (.i .i64)], .tup [.c (.d .s), .c (.d (.i .i64))], [], [], [.s, (.i .i64)]⟩
def J3H : Sig := ⟨[.c (.d (.l (.i .i64))), .c (.d (.i .i64))], [], [(.l (.i .i64)), (.i .i64)], .a (.c (.d (.l (.i .i64)))), [], [], [(.l (.i .i64))]⟩
def J4s : Sig := ⟨[.m J3 [.slr 0, .d (.i .i64), .d (.l (.i .i64)), .d .b, .slr 1], .c (.d (.i .i64)), .c (.d .s), .c (.d (.i .i64))], [.arr true .s, .arr true J4], [(.i .i64), (.l (.i .i64)), .b, (.i .i64), .s, (.i .i64), (.l .s), (.l J4)], .a (.m J3 [.slr 0, .d (.i .i64), .d (.l (.i .i64)), .d .b, .slr 1]), [.arr true .s, .arr true J4], [false, false], [(.i .i64), (.l (.i .i64)), .b, (.l .s), (.l J4)]⟩
def J4N : Sig := ⟨[.c (.d (.l (.i .i64))), .c (.d (.i .i64))], [], [(.l (.i .i64)), (.i .i64)], .a (.c (.d (.l (.i .i64)))), [], [], [(.l (.i .i64))]⟩
def J4r : Sig := ⟨[.dt J3, .c (.d (.i .i64)), .c (.d .s)], [], [J3, (.i .i64), .s], .tup [.dt J3, .c (.d (.i .i64))], [], [], [J3, (.i .i64)]⟩
def J4B : Sig := ⟨[.c (.d (.l (.i .u8)))], [], [(.l (.i .u8))], .a (.c (.d .b)), [], [], [.b]⟩
def Jcn : TCo := .seq (.reg false [] [
 ⟨.mv (.c (vb false)), some 2, none⟩])
 (.keep [0] (.seq (.reg false [] [
 ⟨.mv (.t 0), some 3, none⟩,
 ⟨.len true (.t 3), some 4, none⟩,
 ⟨.bin .neq .plain (.t 4) (.c (vi .i64 256)), some 5, none⟩,
 ⟨.mv (.t 5), some 2, none⟩])
 (.ret)))
def J3W : TFn := ⟨1, 6, Jcn, [.tmp 2], false⟩
def JdT : TCo := .seq (.reg false [] [
 ⟨.box J4 (.t 0), some 1, none⟩,
 ⟨.newbox J4, some 2, none⟩,
 ⟨.mv (.c (vb false)), some 3, none⟩])
 (.keep [1, 2] (.seq (.reg false [] [
 ⟨.faddr 0 (.t 1), some 5, none⟩,
 ⟨.load false (.i .i64) (.t 5), some 6, none⟩,
 ⟨.faddr 1 (.t 1), some 7, none⟩,
 ⟨.load false (.i .i64) (.t 7), some 8, none⟩,
 ⟨.build J4 [(0, (.i .i64), (.t 6)), (1, (.i .i64), (.t 8))], some 9, none⟩,
 ⟨.newbox J4, some 4, none⟩,
 ⟨.store J4 (.t 4) (.t 9), none, none⟩])
 (.keep [1, 2, 4] (.seq (.seq (.reg false [] [
 ⟨.faddr 0 (.t 1), some 10, none⟩,
 ⟨.load false (.i .i64) (.t 10), some 11, none⟩])
 (.keep [1, 2, 4, 11] (.block 0 (.seq (.seq (.reg false [] [
 ⟨.bin .eql .plain (.t 11) (.c (vi .i64 1)), some 14, none⟩,
 ⟨.mv (.t 14), some 13, none⟩])
 (.keep [1, 2, 4, 11, 13] (.cond (.t 13)
 (.skip)
 (.reg false [] [
 ⟨.bin .eql .plain (.t 11) (.c (vi .i64 6)), some 15, none⟩,
 ⟨.mv (.t 15), some 13, none⟩]))))
 (.keep [1, 2, 4, 11, 13] (.cond (.t 13)
 (.skip)
 (.seq (.reg false [] [
 ⟨.bin .eql .plain (.t 11) (.c (vi .i64 2)), some 17, none⟩,
 ⟨.mv (.t 17), some 16, none⟩])
 (.keep [1, 2, 4, 11, 16] (.cond (.t 16)
 (.reg false [] [
 ⟨.faddr 3 (.t 1), some 18, none⟩,
 ⟨.load false (.i .i64) (.t 18), some 19, none⟩,
 ⟨.faddr 3 (.t 4), some 20, none⟩,
 ⟨.store (.i .i64) (.t 20) (.t 19), none, none⟩])
 (.seq (.reg false [] [
 ⟨.bin .eql .plain (.t 11) (.c (vi .i64 3)), some 22, none⟩,
 ⟨.mv (.t 22), some 21, none⟩])
 (.keep [1, 2, 4, 11, 21] (.cond (.t 21)
 (.reg false [] [
 ⟨.faddr 4 (.t 1), some 23, none⟩,
 ⟨.load false (.i .i64) (.t 23), some 24, none⟩,
 ⟨.faddr 4 (.t 4), some 25, none⟩,
 ⟨.store (.i .i64) (.t 25) (.t 24), none, none⟩])
 (.seq (.reg false [] [
 ⟨.bin .eql .plain (.t 11) (.c (vi .i64 4)), some 27, none⟩,
 ⟨.mv (.t 27), some 26, none⟩])
 (.keep [1, 2, 4, 11, 26] (.cond (.t 26)
 (.reg true [(3, 7), (5, 7), (5, 9)] [
 ⟨.faddr 2 (.t 1), some 28, none⟩,
 ⟨.load false (.i .i64) (.t 28), some 29, none⟩,
 ⟨.faddr 4 (.t 1), some 30, none⟩,
 ⟨.load false (.i .i64) (.t 30), some 31, none⟩,
 ⟨.faddr 5 (.t 1), some 32, none⟩,
 ⟨.load false (.i .u8) (.t 32), some 33, none⟩,
 ⟨.faddr 2 (.t 4), some 34, none⟩,
 ⟨.store (.i .i64) (.t 34) (.t 29), none, none⟩,
 ⟨.faddr 4 (.t 4), some 35, none⟩,
 ⟨.store (.i .i64) (.t 35) (.t 31), none, none⟩,
 ⟨.faddr 5 (.t 4), some 36, none⟩,
 ⟨.store (.i .u8) (.t 36) (.t 33), none, none⟩])
 (.seq (.reg false [] [
 ⟨.bin .eql .plain (.t 11) (.c (vi .i64 5)), some 38, none⟩,
 ⟨.mv (.t 38), some 37, none⟩])
 (.keep [1, 2, 4, 37] (.cond (.t 37)
 (.reg false [] [
 ⟨.faddr 2 (.t 1), some 39, none⟩,
 ⟨.load false (.i .i64) (.t 39), some 40, none⟩,
 ⟨.faddr 2 (.t 4), some 41, none⟩,
 ⟨.store (.i .i64) (.t 41) (.t 40), none, none⟩])
 (.seq (.reg false [] [
 ⟨.load true J4 (.t 4), some 12, none⟩,
 ⟨.store J4 (.t 2) (.t 12), none, none⟩,
 ⟨.mv (.c (vb false)), some 3, none⟩])
 (.ret))))))))))))))))))))
 (.keep [2, 4] (.seq (.reg false [] [
 ⟨.load true J4 (.t 4), some 42, none⟩,
 ⟨.store J4 (.t 2) (.t 42), none, none⟩,
 ⟨.mv (.c (vb true)), some 3, none⟩])
 (.ret)))))))
def J4M : TFn := ⟨1, 43, JdT, [.cell 2 true J4, .tmp 3], false⟩
def JfY : TCo := .seq (.reg false [] [
 ⟨.box J3 (.t 0), some 2, none⟩,
 ⟨.mv (.c (vb false)), some 4, none⟩])
 (.keep [1, 2] (.seq (.reg false [] [
 ⟨.mv (.t 1), some 5, none⟩,
 ⟨.bin .geq .plain (.t 5) (.c (vi .i64 0)), some 6, none⟩,
 ⟨.mv (.t 6), some 7, none⟩,
 ⟨.mv (.t 1), some 8, some (7, true)⟩,
 ⟨.faddr 0 (.t 2), some 9, some (7, true)⟩,
 ⟨.load false (.l .s) (.t 9), some 10, some (7, true)⟩,
 ⟨.len false (.t 10), some 11, some (7, true)⟩,
 ⟨.bin .lss .plain (.t 8) (.t 11), some 12, some (7, true)⟩,
 ⟨.pick (.t 7) (.t 12) (.c (vb false)), some 13, none⟩,
 ⟨.mv (.t 13), some 4, none⟩])
 (.ret)))
def J5n : TFn := ⟨2, 14, JfY, [.tmp 4], false⟩
def Jcv : TCo := .seq (.reg false [] [
 ⟨.box J3 (.t 0), some 2, none⟩,
 ⟨.box J4 (.t 1), some 3, none⟩,
 ⟨.mv (.c (vb false)), some 4, none⟩])
 (.keep [2, 3] (.seq (.reg false [] [
 ⟨.load true J4 (.t 3), some 8, none⟩,
 ⟨.call J22 [(.t 8)] 0, some 9, none⟩,
 ⟨.mv (.t 9), some 7, none⟩,
 ⟨.extr (.t 7) 0, some 10, none⟩,
 ⟨.extr (.t 7) 1, some 11, none⟩,
 ⟨.newbox J4, some 5, none⟩,
 ⟨.store J4 (.t 5) (.t 10), none, none⟩,
 ⟨.mv (.t 11), some 6, none⟩])
 (.keep [2, 3, 5, 6] (.seq (.reg false [] [
 ⟨.mv (.t 6), some 12, none⟩,
 ⟨.mv (.t 12), some 13, none⟩,
 ⟨.load true J4 (.t 5), some 14, some (13, true)⟩,
 ⟨.load true J4 (.t 3), some 15, some (13, true)⟩,
 ⟨.bin .eql (.flat J4) (.t 14) (.t 15), some 16, some (13, true)⟩,
 ⟨.pick (.t 13) (.t 16) (.c (vb false)), some 17, none⟩,
 ⟨.mv (.t 17), some 18, none⟩,
 ⟨.faddr 1 (.t 3), some 19, some (18, true)⟩,
 ⟨.load false (.i .i64) (.t 19), some 20, some (18, true)⟩,
 ⟨.faddr 1 (.t 2), some 21, some (18, true)⟩,
 ⟨.load false (.i .i64) (.t 21), some 22, some (18, true)⟩,
 ⟨.bin .gtr .plain (.t 20) (.t 22), some 23, some (18, true)⟩,
 ⟨.pick (.t 18) (.t 23) (.c (vb false)), some 24, none⟩,
 ⟨.mv (.t 24), some 25, none⟩,
 ⟨.faddr 1 (.t 3), some 26, some (25, true)⟩,
 ⟨.load false (.i .i64) (.t 26), some 27, some (25, true)⟩,
 ⟨.bin .leq .plain (.t 27) (.c (vi .i64 1099511627776)), some 28, some (25, true)⟩,
 ⟨.pick (.t 25) (.t 28) (.c (vb false)), some 29, none⟩,
 ⟨.mv (.t 29), some 30, none⟩,
 ⟨.load true J3 (.t 2), some 31, some (30, true)⟩,
 ⟨.faddr 2 (.t 3), some 32, some (30, true)⟩,
 ⟨.load false (.i .i64) (.t 32), some 33, some (30, true)⟩,
 ⟨.call J0f [(.t 31), (.t 33)] 0, some 34, some (30, true)⟩,
 ⟨.pick (.t 30) (.t 34) (.c (vb false)), some 35, none⟩,
 ⟨.mv (.t 35), some 36, none⟩,
 ⟨.load true J3 (.t 2), some 37, some (36, true)⟩,
 ⟨.faddr 3 (.t 3), some 38, some (36, true)⟩,
 ⟨.load false (.i .i64) (.t 38), some 39, some (36, true)⟩,
 ⟨.call J0f [(.t 37), (.t 39)] 0, some 40, some (36, true)⟩,
 ⟨.pick (.t 36) (.t 40) (.c (vb false)), some 41, none⟩,
 ⟨.mv (.t 41), some 42, none⟩,
 ⟨.faddr 4 (.t 3), some 43, some (42, true)⟩,
 ⟨.load false (.i .i64) (.t 43), some 44, some (42, true)⟩,
 ⟨.bin .geq .plain (.t 44) (.c (vi .i64 0)), some 45, some (42, true)⟩,
 ⟨.pick (.t 42) (.t 45) (.c (vb false)), some 46, none⟩,
 ⟨.mv (.t 46), some 47, none⟩,
 ⟨.faddr 4 (.t 3), some 48, some (47, true)⟩,
 ⟨.load false (.i .i64) (.t 48), some 49, some (47, true)⟩,
 ⟨.bin .lss .plain (.t 49) (.c (vi .i64 256)), some 50, some (47, true)⟩,
 ⟨.pick (.t 47) (.t 50) (.c (vb false)), some 51, none⟩,
 ⟨.mv (.t 51), some 52, none⟩,
 ⟨.faddr 0 (.t 3), some 53, some (52, true)⟩,
 ⟨.load false (.i .i64) (.t 53), some 54, some (52, true)⟩,
 ⟨.bin .neq .plain (.t 54) (.c (vi .i64 4)), some 55, some (52, true)⟩,
 ⟨.mv (.t 55), some 56, some (52, true)⟩,
 ⟨.faddr 5 (.t 3), some 57, some (56, false)⟩,
 ⟨.load false (.i .u8) (.t 57), some 58, some (56, false)⟩,
 ⟨.bin .neq .plain (.t 58) (.c (vi .u8 0)), some 59, some (56, false)⟩,
 ⟨.pick (.t 56) (.c (vb true)) (.t 59), some 60, some (52, true)⟩,
 ⟨.pick (.t 52) (.t 60) (.c (vb false)), some 61, none⟩,
 ⟨.mv (.t 61), some 4, none⟩])
 (.ret)))))
def J3X : TFn := ⟨2, 62, Jcv, [.tmp 4], false⟩
def Jco : TCo := .seq (.reg false [] [
 ⟨.box J4 (.t 0), some 2, none⟩,
 ⟨.mv (.c (vb false)), some 3, none⟩])
 (.keep [1, 2] (.seq (.reg false [] [
 ⟨.load true J3 (.t 1), some 4, none⟩,
 ⟨.load true J4 (.t 2), some 5, none⟩,
 ⟨.call J0y [(.t 4), (.t 5)] 0, some 6, none⟩,
 ⟨.un .not (.t 6), some 7, none⟩,
 ⟨.mv (.t 7), some 3, none⟩])
 (.ret)))
def J3V : TFn := ⟨2, 8, Jco, [.tmp 3], false⟩
def J4G : TCo := .seq (.reg false [] [
 ⟨.mv (.c (vi .i64 0)), some 4, none⟩])
 (.keep [0, 1] (.seq (.seq (.reg false [] [
 ⟨.mv (.t 0), some 6, none⟩,
 ⟨.len false (.t 6), some 7, none⟩,
 ⟨.mv (.c (vi .i64 0)), some 8, none⟩])
 (.keep [0, 1, 7, 8] (.block 0 (.loop [0, 1, 7, 8] (.seq (.reg false [] [
 ⟨.bin .lss .plain (.t 8) (.t 7), some 9, none⟩])
 (.keep [0, 1, 7, 8, 9] (.seq (.cond (.t 9)
 (.skip)
 (.exit 0))
 (.keep [0, 1, 7, 8] (.seq (.block 1 (.seq (.reg false [] [
 ⟨.mv (.t 8), some 10, none⟩,
 ⟨.mv (.t 10), some 5, none⟩])
 (.keep [0, 1, 5, 7, 8] (.seq (.reg false [] [
 ⟨.mv (.t 1), some 11, none⟩,
 ⟨.mv (.t 0), some 12, none⟩,
 ⟨.mv (.t 5), some 13, none⟩,
 ⟨.iaddr J4 (.t 12) (.t 13), some 14, none⟩,
 ⟨.load true J4 (.t 14), some 15, none⟩,
 ⟨.callv (.t 11) [(.t 15)] 0, some 16, none⟩])
 (.keep [0, 1, 5, 7, 8, 16] (.cond (.t 16)
 (.seq (.reg false [] [
 ⟨.mv (.t 5), some 17, none⟩,
 ⟨.mv (.t 17), some 4, none⟩])
 (.ret))
 (.skip)))))))
 (.keep [0, 1, 7, 8] (.reg false [] [
 ⟨.bin .add .plain (.t 8) (.c (vi .i64 1)), some 18, none⟩,
 ⟨.mv (.t 18), some 8, none⟩])))))))))))
 (.keep [] (.seq (.reg false [] [
 ⟨.mv (.c (vi .i64 (-1))), some 4, none⟩])
 (.ret)))))
def J0v : TFn := ⟨2, 19, J4G, [.tmp 4], false⟩
def J4d : TCo := .seq (.reg false [] [
 ⟨.mv (.c (vb false)), some 4, none⟩])
 (.keep [0, 1] (.seq (.reg false [] [
 ⟨.mv (.t 0), some 5, none⟩,
 ⟨.mv (.t 1), some 6, none⟩,
 ⟨.call JH [(.t 5), (.t 6)] 0, some 7, none⟩,
 ⟨.bin .geq .plain (.t 7) (.c (vi .i64 0)), some 8, none⟩,
 ⟨.mv (.t 8), some 4, none⟩])
 (.ret)))
def J0j : TFn := ⟨2, 9, J4d, [.tmp 4], false⟩
def J67 : TCo := .seq (.reg false [] [
 ⟨.mv (.c (vi .i64 0)), some 4, none⟩])
 (.keep [0, 1] (.seq (.seq (.reg false [] [
 ⟨.mv (.t 0), some 6, none⟩,
 ⟨.len false (.t 6), some 7, none⟩,
 ⟨.mv (.c (vi .i64 0)), some 8, none⟩])
 (.keep [0, 1, 7, 8] (.block 0 (.loop [0, 1, 7, 8] (.seq (.reg false [] [
 ⟨.bin .lss .plain (.t 8) (.t 7), some 9, none⟩])
 (.keep [0, 1, 7, 8, 9] (.seq (.cond (.t 9)
 (.skip)
 (.exit 0))
 (.keep [0, 1, 7, 8] (.seq (.block 1 (.seq (.reg false [] [
 ⟨.mv (.t 8), some 10, none⟩,
 ⟨.mv (.t 10), some 5, none⟩])
 (.keep [0, 1, 5, 7, 8] (.seq (.reg false [] [
 ⟨.mv (.t 1), some 11, none⟩,
 ⟨.mv (.t 0), some 12, none⟩,
 ⟨.mv (.t 5), some 13, none⟩,
 ⟨.iaddr .s (.t 12) (.t 13), some 14, none⟩,
 ⟨.load false .s (.t 14), some 15, none⟩,
 ⟨.callv (.t 11) [(.t 15)] 0, some 16, none⟩])
 (.keep [0, 1, 5, 7, 8, 16] (.cond (.t 16)
 (.seq (.reg false [] [
 ⟨.mv (.t 5), some 17, none⟩,
 ⟨.mv (.t 17), some 4, none⟩])
 (.ret))
 (.skip)))))))
 (.keep [0, 1, 7, 8] (.reg false [] [
 ⟨.bin .add .plain (.t 8) (.c (vi .i64 1)), some 18, none⟩,
 ⟨.mv (.t 18), some 8, none⟩])))))))))))
 (.keep [] (.seq (.reg false [] [
 ⟨.mv (.c (vi .i64 (-1))), some 4, none⟩])
 (.ret)))))
def J13 : TFn := ⟨2, 19, J67, [.tmp 4], false⟩
def J5u : TCo := .seq (.reg false [] [
 ⟨.mv (.c (vb false)), some 4, none⟩])
 (.keep [0, 1] (.seq (.reg false [] [
 ⟨.mv (.t 0), some 5, none⟩,
 ⟨.mv (.t 1), some 6, none⟩,
 ⟨.call JQ [(.t 5), (.t 6)] 0, some 7, none⟩,
 ⟨.bin .geq .plain (.t 7) (.c (vi .i64 0)), some 8, none⟩,
 ⟨.mv (.t 8), some 4, none⟩])
 (.ret)))
def J0H : TFn := ⟨2, 9, J5u, [.tmp 4], false⟩
def JfO : TCo := .seq (.reg false [] [
 ⟨.box J3 (.t 0), some 1, none⟩,
 ⟨.mv (.c (vb false)), some 2, none⟩])
 (.keep [1] (.seq (.seq (.reg false [] [
 ⟨.faddr 0 (.t 1), some 5, none⟩,
 ⟨.load false (.l .s) (.t 5), some 6, none⟩,
 ⟨.len false (.t 6), some 7, none⟩,
 ⟨.bin .lss .plain (.t 7) (.c (vi .i64 1)), some 8, none⟩,
 ⟨.mv (.t 8), some 9, none⟩,
 ⟨.faddr 0 (.t 1), some 10, some (9, false)⟩,
 ⟨.load false (.l .s) (.t 10), some 11, some (9, false)⟩,
 ⟨.len false (.t 11), some 12, some (9, false)⟩,
 ⟨.bin .gtr .plain (.t 12) (.c (vi .i64 64)), some 13, some (9, false)⟩,
 ⟨.pick (.t 9) (.c (vb true)) (.t 13), some 14, none⟩,
 ⟨.mv (.t 14), some 15, none⟩,
 ⟨.faddr 1 (.t 1), some 16, some (15, false)⟩,
 ⟨.load false (.i .i64) (.t 16), some 17, some (15, false)⟩,
 ⟨.bin .lss .plain (.t 17) (.c (vi .i64 0)), some 18, some (15, false)⟩,
 ⟨.pick (.t 15) (.c (vb true)) (.t 18), some 19, none⟩,
 ⟨.mv (.t 19), some 20, none⟩,
 ⟨.faddr 1 (.t 1), some 21, some (20, false)⟩,
 ⟨.load false (.i .i64) (.t 21), some 22, some (20, false)⟩,
 ⟨.bin .gtr .plain (.t 22) (.c (vi .i64 1099511627776)), some 23, some (20, false)⟩,
 ⟨.pick (.t 20) (.c (vb true)) (.t 23), some 24, none⟩,
 ⟨.mv (.t 24), some 25, none⟩,
 ⟨.faddr 4 (.t 1), some 26, some (25, false)⟩,
 ⟨.load false (.l J4) (.t 26), some 27, some (25, false)⟩,
 ⟨.len false (.t 27), some 28, some (25, false)⟩,
 ⟨.bin .gtr .plain (.t 28) (.c (vi .i64 64)), some 29, some (25, false)⟩,
 ⟨.pick (.t 25) (.c (vb true)) (.t 29), some 30, none⟩])
 (.keep [1, 30] (.cond (.t 30)
 (.seq (.reg false [] [
 ⟨.mv (.c (vb false)), some 2, none⟩])
 (.ret))
 (.skip))))
 (.keep [1] (.seq (.seq (.reg false [] [
 ⟨.faddr 2 (.t 1), some 31, none⟩,
 ⟨.load false (.l (.i .i64)) (.t 31), some 32, none⟩,
 ⟨.len false (.t 32), some 33, none⟩,
 ⟨.mv (.c (vi .i64 0)), some 34, none⟩])
 (.keep [1, 32, 33, 34] (.block 0 (.loop [1, 32, 33, 34] (.seq (.reg false [] [
 ⟨.bin .lss .plain (.t 34) (.t 33), some 35, none⟩])
 (.keep [1, 32, 33, 34, 35] (.seq (.cond (.t 35)
 (.skip)
 (.exit 0))
 (.keep [1, 32, 33, 34] (.seq (.block 1 (.seq (.reg false [] [
 ⟨.mv (.t 34), some 36, none⟩,
 ⟨.iaddr (.i .i64) (.t 32) (.t 34), some 37, none⟩,
 ⟨.load false (.i .i64) (.t 37), some 38, none⟩,
 ⟨.mv (.t 36), some 3, none⟩,
 ⟨.mv (.t 38), some 4, none⟩])
 (.keep [1, 3, 4, 32, 33, 34] (.seq (.reg false [] [
 ⟨.load true J3 (.t 1), some 39, none⟩,
 ⟨.mv (.t 4), some 40, none⟩,
 ⟨.call J0f [(.t 39), (.t 40)] 0, some 41, none⟩,
 ⟨.un .not (.t 41), some 42, none⟩,
 ⟨.mv (.t 42), some 43, none⟩,
 ⟨.mv (.t 3), some 44, some (43, false)⟩,
 ⟨.bin .gtr .plain (.t 44) (.c (vi .i64 0)), some 45, some (43, false)⟩,
 ⟨.mv (.t 45), some 46, some (43, false)⟩,
 ⟨.faddr 2 (.t 1), some 47, some (46, true)⟩,
 ⟨.load false (.l (.i .i64)) (.t 47), some 48, some (46, true)⟩,
 ⟨.mv (.t 3), some 49, some (46, true)⟩,
 ⟨.bin .sub .plain (.t 49) (.c (vi .i64 1)), some 50, some (46, true)⟩,
 ⟨.iaddr (.i .i64) (.t 48) (.t 50), some 51, some (46, true)⟩,
 ⟨.load false (.i .i64) (.t 51), some 52, some (46, true)⟩,
 ⟨.mv (.t 4), some 53, some (46, true)⟩,
 ⟨.bin .geq .plain (.t 52) (.t 53), some 54, some (46, true)⟩,
 ⟨.pick (.t 46) (.t 54) (.c (vb false)), some 55, some (43, false)⟩,
 ⟨.pick (.t 43) (.c (vb true)) (.t 55), some 56, none⟩])
 (.keep [1, 32, 33, 34, 56] (.cond (.t 56)
 (.seq (.reg false [] [
 ⟨.mv (.c (vb false)), some 2, none⟩])
 (.ret))
 (.skip)))))))
 (.keep [1, 32, 33, 34] (.reg false [] [
 ⟨.bin .add .plain (.t 34) (.c (vi .i64 1)), some 57, none⟩,
 ⟨.mv (.t 57), some 34, none⟩])))))))))))
 (.keep [1] (.seq (.reg false [] [
 ⟨.faddr 0 (.t 1), some 58, none⟩,
 ⟨.load false (.l .s) (.t 58), some 59, none⟩,
 ⟨.call JN [(.t 59), (.c (.a (.fn J0O [] [])))] 0, some 60, none⟩,
 ⟨.un .not (.t 60), some 61, none⟩,
 ⟨.mv (.t 61), some 62, none⟩,
 ⟨.faddr 4 (.t 1), some 63, some (62, true)⟩,
 ⟨.load false (.l J4) (.t 63), some 64, some (62, true)⟩,
 ⟨.mkfn J0K [] [(.t 1)], some 65, some (62, true)⟩,
 ⟨.call JD [(.t 64), (.t 65)] 0, some 66, some (62, true)⟩,
 ⟨.un .not (.t 66), some 67, some (62, true)⟩,
 ⟨.pick (.t 62) (.t 67) (.c (vb false)), some 68, none⟩,
 ⟨.mv (.t 68), some 2, none⟩])
 (.ret)))))))
def J5f : TFn := ⟨1, 69, JfO, [.tmp 2], false⟩
def Je3 : TCo := .seq (.reg false [] [
 ⟨.box J3 (.t 0), some 2, none⟩,
 ⟨.box J4 (.t 1), some 3, none⟩,
 ⟨.newbox J3, some 4, none⟩,
 ⟨.mv (.c (vi .i64 0)), some 5, none⟩])
 (.keep [2, 3, 4] (.seq (.block 0 (.seq (.reg false [] [
 ⟨.load true J3 (.t 2), some 7, none⟩,
 ⟨.call J0T [(.t 7)] 0, some 8, none⟩,
 ⟨.un .not (.t 8), some 9, none⟩,
 ⟨.mv (.t 9), some 6, none⟩])
 (.keep [2, 3, 4, 6] (.cond (.t 6)
 (.seq (.reg false [] [
 ⟨.build J3 [], some 10, none⟩,
 ⟨.store J3 (.t 4) (.t 10), none, none⟩,
 ⟨.mv (.c (vi .i64 15)), some 5, none⟩])
 (.ret))
 (.seq (.reg false [] [
 ⟨.load true J3 (.t 2), some 12, none⟩,
 ⟨.load true J4 (.t 3), some 13, none⟩,
 ⟨.call J0y [(.t 12), (.t 13)] 0, some 14, none⟩,
 ⟨.un .not (.t 14), some 15, none⟩,
 ⟨.mv (.t 15), some 11, none⟩])
 (.keep [2, 3, 4, 11] (.cond (.t 11)
 (.seq (.reg false [] [
 ⟨.build J3 [], some 16, none⟩,
 ⟨.store J3 (.t 4) (.t 16), none, none⟩,
 ⟨.mv (.c (vi .i64 1)), some 5, none⟩])
 (.ret))
 (.seq (.reg false [] [
 ⟨.faddr 4 (.t 2), some 18, none⟩,
 ⟨.load false (.l J4) (.t 18), some 19, none⟩,
 ⟨.len false (.t 19), some 20, none⟩,
 ⟨.bin .eql .plain (.t 20) (.c (vi .i64 64)), some 21, none⟩,
 ⟨.mv (.t 21), some 17, none⟩])
 (.keep [2, 3, 4, 17] (.cond (.t 17)
 (.seq (.reg false [] [
 ⟨.build J3 [], some 22, none⟩,
 ⟨.store J3 (.t 4) (.t 22), none, none⟩,
 ⟨.mv (.c (vi .i64 21)), some 5, none⟩])
 (.ret))
 (.skip)))))))))))
 (.keep [2, 3, 4] (.seq (.reg true [(2, 3), (1, 4), (2, 4)] [
 ⟨.faddr 4 (.t 2), some 23, none⟩,
 ⟨.load false (.l J4) (.t 23), some 24, none⟩,
 ⟨.call JE [(.t 24)] 1, some 25, none⟩,
 ⟨.load true J4 (.t 3), some 26, none⟩,
 ⟨.lits false J4 1 [(0, (.t 26))], some 27, none⟩,
 ⟨.app J4 48 (.t 25) (.t 27), some 28, none⟩,
 ⟨.faddr 4 (.t 2), some 29, none⟩,
 ⟨.store (.l J4) (.t 29) (.t 28), none, none⟩])
 (.keep [2, 4] (.seq (.reg false [] [
 ⟨.load true J3 (.t 2), some 30, none⟩,
 ⟨.store J3 (.t 4) (.t 30), none, none⟩,
 ⟨.mv (.c (vi .i64 0)), some 5, none⟩])
 (.ret)))))))
def J4K : TFn := ⟨2, 31, Je3, [.cell 4 true J3, .tmp 5], false⟩
def JfR : TCo := .seq (.reg false [] [
 ⟨.mv (.c (vl .s [])), some 2, none⟩])
 (.keep [0] (.seq (.reg false [] [
 ⟨.call J2o [(.c (vs [0])), (.c (vi .i64 256))] 0, some 3, none⟩,
 ⟨.lits false .s 1 [(0, (.t 3))], some 4, none⟩,
 ⟨.mv (.t 0), some 5, none⟩,
 ⟨.call J0l [(.t 4), (.t 5)] 0, some 6, none⟩,
 ⟨.mv (.t 6), some 2, none⟩])
 (.ret)))
def J5k : TFn := ⟨1, 7, JfR, [.tmp 2], false⟩
def Jjj : TCo := .seq (.reg false [] [
 ⟨.newbox J3, some 2, none⟩,
 ⟨.mv (.c (vi .i64 0)), some 3, none⟩])
 (.keep [0, 2] (.seq (.seq (.reg false [] [
 ⟨.mv (.t 0), some 4, none⟩,
 ⟨.bin .lss .plain (.t 4) (.c (vi .i64 1)), some 5, none⟩,
 ⟨.mv (.t 5), some 6, none⟩,
 ⟨.mv (.t 0), some 7, some (6, false)⟩,
 ⟨.bin .gtr .plain (.t 7) (.c (vi .i64 64)), some 8, some (6, false)⟩,
 ⟨.pick (.t 6) (.c (vb true)) (.t 8), some 9, none⟩])
 (.keep [0, 2, 9] (.cond (.t 9)
 (.seq (.reg false [] [
 ⟨.build J3 [], some 10, none⟩,
 ⟨.store J3 (.t 2) (.t 10), none, none⟩,
 ⟨.mv (.c (vi .i64 1)), some 3, none⟩])
 (.ret))
 (.skip))))
 (.keep [0, 2] (.seq (.reg false [] [
 ⟨.mv (.t 0), some 11, none⟩,
 ⟨.call J1V [(.t 11)] 0, some 12, none⟩,
 ⟨.build J3 [(0, (.l .s), (.t 12))], some 13, none⟩,
 ⟨.store J3 (.t 2) (.t 13), none, none⟩,
 ⟨.mv (.c (vi .i64 0)), some 3, none⟩])
 (.ret)))))
def J6O : TFn := ⟨1, 14, Jjj, [.cell 2 true J3, .tmp 3], false⟩
def JeH : TCo := .seq (.reg false [] [
 ⟨.box J3 (.t 0), some 2, none⟩,
 ⟨.mv (.c (vi .i64 0)), some 4, none⟩])
 (.keep [1, 2] (.seq (.block 0 (.seq (.reg false [] [
 ⟨.load true J3 (.t 2), some 6, none⟩,
 ⟨.call J0T [(.t 6)] 0, some 7, none⟩,
 ⟨.un .not (.t 7), some 8, none⟩,
 ⟨.mv (.t 8), some 5, none⟩])
 (.keep [1, 2, 5] (.cond (.t 5)
 (.seq (.reg false [] [
 ⟨.mv (.c (vi .i64 15)), some 4, none⟩])
 (.ret))
 (.seq (.reg false [] [
 ⟨.faddr 3 (.t 2), some 10, none⟩,
 ⟨.load false .b (.t 10), some 11, none⟩,
 ⟨.mv (.t 11), some 9, none⟩])
 (.keep [1, 2, 9] (.cond (.t 9)
 (.seq (.reg false [] [
 ⟨.mv (.c (vi .i64 10)), some 4, none⟩])
 (.ret))
 (.seq (.reg false [] [
 ⟨.load true J3 (.t 2), some 13, none⟩,
 ⟨.mv (.t 1), some 14, none⟩,
 ⟨.call J0f [(.t 13), (.t 14)] 0, some 15, none⟩,
 ⟨.un .not (.t 15), some 16, none⟩,
 ⟨.mv (.t 16), some 12, none⟩])
 (.keep [12] (.cond (.t 12)
 (.seq (.reg false [] [
 ⟨.mv (.c (vi .i64 1)), some 4, none⟩])
 (.ret))
 (.skip)))))))))))
 (.keep [] (.seq (.reg false [] [
 ⟨.mv (.c (vi .i64 0)), some 4, none⟩])
 (.ret)))))
def J4L : TFn := ⟨2, 17, JeH, [.tmp 4], false⟩
def J9s : TCo := .seq (.reg false [] [
 ⟨.mv (.c (vi .i64 0)), some 4, none⟩])
 (.keep [0, 1] (.seq (.seq (.reg false [] [
 ⟨.mv (.t 0), some 6, none⟩,
 ⟨.len false (.t 6), some 7, none⟩,
 ⟨.mv (.c (vi .i64 0)), some 8, none⟩])
 (.keep [0, 1, 7, 8] (.block 0 (.loop [0, 1, 7, 8] (.seq (.reg false [] [
 ⟨.bin .lss .plain (.t 8) (.t 7), some 9, none⟩])
 (.keep [0, 1, 7, 8, 9] (.seq (.cond (.t 9)
 (.skip)
 (.exit 0))
 (.keep [0, 1, 7, 8] (.seq (.block 1 (.seq (.reg false [] [
 ⟨.mv (.t 8), some 10, none⟩,
 ⟨.mv (.t 10), some 5, none⟩])
 (.keep [0, 1, 5, 7, 8] (.seq (.reg false [] [
 ⟨.mv (.t 1), some 11, none⟩,
 ⟨.mv (.t 0), some 12, none⟩,
 ⟨.mv (.t 5), some 13, none⟩,
 ⟨.iaddr (.i .i64) (.t 12) (.t 13), some 14, none⟩,
 ⟨.load false (.i .i64) (.t 14), some 15, none⟩,
 ⟨.bin .eql .plain (.t 11) (.t 15), some 16, none⟩])
 (.keep [0, 1, 5, 7, 8, 16] (.cond (.t 16)
 (.seq (.reg false [] [
 ⟨.mv (.t 5), some 17, none⟩,
 ⟨.mv (.t 17), some 4, none⟩])
 (.ret))
 (.skip)))))))
 (.keep [0, 1, 7, 8] (.reg false [] [
 ⟨.bin .add .plain (.t 8) (.c (vi .i64 1)), some 18, none⟩,
 ⟨.mv (.t 18), some 8, none⟩])))))))))))
 (.keep [] (.seq (.reg false [] [
 ⟨.mv (.c (vi .i64 (-1))), some 4, none⟩])
 (.ret)))))
def J2u : TFn := ⟨2, 19, J9s, [.tmp 4], false⟩
def J7T : TCo := .seq (.reg false [] [
 ⟨.mv (.c (vb false)), some 4, none⟩])
 (.keep [0, 1] (.seq (.reg false [] [
 ⟨.mv (.t 0), some 5, none⟩,
 ⟨.mv (.t 1), some 6, none⟩,
 ⟨.call J0G [(.t 5), (.t 6)] 0, some 7, none⟩,
 ⟨.bin .geq .plain (.t 7) (.c (vi .i64 0)), some 8, none⟩,
 ⟨.mv (.t 8), some 4, none⟩])
 (.ret)))
def J1X : TFn := ⟨2, 9, J7T, [.tmp 4], false⟩
def JgW : TCo := .seq (.reg false [] [
 ⟨.box J3 (.t 0), some 2, none⟩,
 ⟨.mv (.c (vs [])), some 4, none⟩,
 ⟨.mv (.c (vi .i64 0)), some 5, none⟩])
 (.keep [1, 2] (.seq (.seq (.reg false [] [
 ⟨.load true J3 (.t 2), some 7, none⟩,
 ⟨.mv (.t 1), some 8, none⟩,
 ⟨.call J1D [(.t 7), (.t 8)] 0, some 9, none⟩,
 ⟨.mv (.t 9), some 6, none⟩])
 (.keep [1, 2, 6] (.seq (.reg false [] [
 ⟨.mv (.t 6), some 10, none⟩,
 ⟨.bin .neq .plain (.t 10) (.c (vi .i64 0)), some 11, none⟩])
 (.keep [1, 2, 6, 11] (.cond (.t 11)
 (.seq (.reg false [] [
 ⟨.mv (.t 6), some 12, none⟩,
 ⟨.mv (.c (vs [])), some 4, none⟩,
 ⟨.mv (.t 12), some 5, none⟩])
 (.ret))
 (.skip))))))
 (.keep [1, 2] (.seq (.seq (.reg false [] [
 ⟨.faddr 2 (.t 2), some 13, none⟩,
 ⟨.load false (.l (.i .i64)) (.t 13), some 14, none⟩,
 ⟨.mv (.t 1), some 15, none⟩,
 ⟨.call J0m [(.t 14), (.t 15)] 0, some 16, none⟩])
 (.keep [1, 2, 16] (.cond (.t 16)
 (.seq (.reg false [] [
 ⟨.mv (.c (vs [])), some 4, none⟩,
 ⟨.mv (.c (vi .i64 11)), some 5, none⟩])
 (.ret))
 (.skip))))
 (.keep [1, 2] (.seq (.reg false [] [
 ⟨.faddr 0 (.t 2), some 17, none⟩,
 ⟨.load false (.l .s) (.t 17), some 18, none⟩,
 ⟨.mv (.t 1), some 19, none⟩,
 ⟨.iaddr .s (.t 18) (.t 19), some 20, none⟩,
 ⟨.load false .s (.t 20), some 21, none⟩,
 ⟨.mv (.t 21), some 4, none⟩,
 ⟨.mv (.c (vi .i64 0)), some 5, none⟩])
 (.ret)))))))
def J5X : TFn := ⟨2, 22, JgW, [.tmp 4, .tmp 5], false⟩
def J5F : TCo := .seq (.reg false [] [
 ⟨.mv (.c (vi .i64 0)), some 4, none⟩])
 (.keep [0, 1] (.seq (.seq (.reg true [] [
 ⟨.mv (.t 0), some 6, none⟩,
 ⟨.nilchk (.t 6), some 7, none⟩,
 ⟨.faddr 1 (.t 7), some 8, none⟩,
 ⟨.load false (.i .i64) (.t 8), some 9, none⟩,
 ⟨.mv (.t 0), some 10, none⟩,
 ⟨.nilchk (.t 10), some 11, none⟩,
 ⟨.faddr 0 (.t 11), some 12, none⟩,
 ⟨.load false (.l (.i .u8)) (.t 12), some 13, none⟩,
 ⟨.len false (.t 13), some 14, none⟩,
 ⟨.bin .geq .plain (.t 9) (.t 14), some 15, none⟩,
 ⟨.mv (.t 15), some 16, none⟩,
 ⟨.mv (.t 1), some 17, some (16, false)⟩,
 ⟨.bin .lss .plain (.t 17) (.c (vi .i64 1)), some 18, some (16, false)⟩,
 ⟨.pick (.t 16) (.c (vb true)) (.t 18), some 19, none⟩])
 (.keep [0, 1, 19] (.cond (.t 19)
 (.seq (.reg false [] [
 ⟨.mv (.c (vi .i64 0)), some 4, none⟩])
 (.ret))
 (.skip))))
 (.keep [0, 1] (.seq (.reg true [] [
 ⟨.mv (.t 0), some 20, none⟩,
 ⟨.nilchk (.t 20), some 21, none⟩,
 ⟨.faddr 0 (.t 21), some 22, none⟩,
 ⟨.load false (.l (.i .u8)) (.t 22), some 23, none⟩,
 ⟨.mv (.t 0), some 24, none⟩,
 ⟨.nilchk (.t 24), some 25, none⟩,
 ⟨.faddr 1 (.t 25), some 26, none⟩,
 ⟨.load false (.i .i64) (.t 26), some 27, none⟩,
 ⟨.iaddr (.i .u8) (.t 23) (.t 27), some 28, none⟩,
 ⟨.load false (.i .u8) (.t 28), some 29, none⟩,
 ⟨.conv (.int .i64) (.t 29), some 30, none⟩,
 ⟨.mv (.t 30), some 5, none⟩])
 (.keep [0, 1, 5] (.seq (.reg false [] [
 ⟨.mv (.t 0), some 31, none⟩,
 ⟨.nilchk (.t 31), some 32, none⟩,
 ⟨.faddr 1 (.t 32), some 33, none⟩,
 ⟨.load false (.i .i64) (.t 33), some 34, none⟩,
 ⟨.bin .add .plain (.t 34) (.c (vi .i64 1)), some 35, none⟩,
 ⟨.nilchk (.t 31), some 36, none⟩,
 ⟨.faddr 1 (.t 36), some 37, none⟩,
 ⟨.store (.i .i64) (.t 37) (.t 35), none, none⟩])
 (.keep [0, 1, 5] (.seq (.seq (.reg false [] [
 ⟨.mv (.t 1), some 38, none⟩,
 ⟨.bin .gtr .plain (.t 38) (.c (vi .i64 256)), some 39, none⟩])
 (.keep [0, 1, 5, 39] (.cond (.t 39)
 (.seq (.reg false [] [
 ⟨.mv (.t 5), some 40, none⟩,
 ⟨.bin .mul .plain (.c (vi .i64 256)) (.t 40), some 41, none⟩,
 ⟨.mv (.t 0), some 42, none⟩,
 ⟨.call i_draw_Codes_Next [(.t 42), (.c (vi .i64 256))] 0, some 43, none⟩,
 ⟨.bin .add .plain (.t 41) (.t 43), some 44, none⟩,
 ⟨.mv (.t 1), some 45, none⟩,
 ⟨.bin .rem .plain (.t 44) (.t 45), some 46, none⟩,
 ⟨.mv (.t 46), some 4, none⟩])
 (.ret))
 (.skip))))
 (.keep [1, 5] (.seq (.reg false [] [
 ⟨.mv (.t 5), some 47, none⟩,
 ⟨.mv (.t 1), some 48, none⟩,
 ⟨.bin .rem .plain (.t 47) (.t 48), some 49, none⟩,
 ⟨.mv (.t 49), some 4, none⟩])
 (.ret)))))))))))
def J0L : TFn := ⟨2, 50, J5F, [.tmp 4], false⟩
def JbF : TCo := .seq (.reg false [] [
 ⟨.mv (.c (vs [])), some 2, none⟩])
 (.keep [0] (.seq (.reg false [] [
 ⟨.mkslice true (.i .u8) 1 (.c (vi .i64 256)) (.c (vi .i64 256)), some 6, none⟩,
 ⟨.mv (.t 6), some 3, none⟩])
 (.keep [0, 3] (.seq (.reg false [] [
 ⟨.mv (.t 0), some 7, none⟩,
 ⟨.call i_draw_Codes_Next [(.t 7), (.c (vi .i64 256))] 0, some 8, none⟩,
 ⟨.conv (.int .u8) (.t 8), some 9, none⟩,
 ⟨.mv (.t 9), some 4, none⟩])
 (.keep [0, 3, 4] (.seq (.seq (.reg false [] [
 ⟨.mv (.c (vi .i64 0)), some 5, none⟩])
 (.keep [0, 3, 4, 5] (.block 0 (.loop [0, 3, 4, 5] (.seq (.seq (.reg false [] [
 ⟨.mv (.t 5), some 10, none⟩,
 ⟨.mv (.t 3), some 11, none⟩,
 ⟨.len false (.t 11), some 12, none⟩,
 ⟨.bin .lss .plain (.t 10) (.t 12), some 13, none⟩])
 (.keep [0, 3, 4, 5, 13] (.cond (.t 13)
 (.skip)
 (.exit 0))))
 (.keep [0, 3, 4, 5] (.seq (.block 1 (.reg false [] [
 ⟨.mv (.t 3), some 16, none⟩,
 ⟨.mv (.t 5), some 17, none⟩,
 ⟨.mv (.t 4), some 18, none⟩,
 ⟨.iaddr (.i .u8) (.t 16) (.t 17), some 19, none⟩,
 ⟨.store (.i .u8) (.t 19) (.t 18), none, none⟩]))
 (.keep [0, 3, 4, 5] (.reg false [] [
 ⟨.mv (.t 5), some 14, none⟩,
 ⟨.bin .add .plain (.t 14) (.c (vi .i64 1)), some 15, none⟩,
 ⟨.mv (.t 15), some 5, none⟩])))))))))
 (.keep [0, 3] (.seq (.reg false [] [
 ⟨.mv (.t 3), some 20, none⟩,
 ⟨.mv (.t 0), some 21, none⟩,
 ⟨.call i_draw_Codes_Next [(.t 21), (.c (vi .i64 256))] 0, some 22, none⟩,
 ⟨.mv (.t 0), some 23, none⟩,
 ⟨.call i_draw_Codes_Next [(.t 23), (.c (vi .i64 256))] 0, some 24, none⟩,
 ⟨.conv (.int .u8) (.t 24), some 25, none⟩,
 ⟨.iaddr (.i .u8) (.t 20) (.t 22), some 26, none⟩,
 ⟨.store (.i .u8) (.t 26) (.t 25), none, none⟩])
 (.keep [3] (.seq (.reg false [] [
 ⟨.mv (.t 3), some 27, none⟩,
 ⟨.conv .toStr (.t 27), some 28, none⟩,
 ⟨.mv (.t 28), some 2, none⟩])
 (.ret)))))))))))
def J3t : TFn := ⟨1, 29, JbF, [.tmp 2], false⟩
def J6a : TCo := .seq (.reg false [] [
 ⟨.mv (.c (vi .i64 0)), some 2, none⟩])
 (.keep [0] (.seq (.seq (.reg false [] [
 ⟨.mv (.t 0), some 3, none⟩,
 ⟨.call i_draw_Codes_Next [(.t 3), (.c (vi .i64 10))] 0, some 4, none⟩])
 (.keep [0, 4] (.block 0 (.seq (.reg false [] [
 ⟨.bin .eql .plain (.t 4) (.c (vi .i64 0)), some 6, none⟩,
 ⟨.mv (.t 6), some 5, none⟩])
 (.keep [0, 4, 5] (.cond (.t 5)
 (.seq (.reg false [] [
 ⟨.mv (.t 0), some 7, none⟩,
 ⟨.call i_draw_Codes_Next [(.t 7), (.c (vi .i64 3))] 0, some 8, none⟩,
 ⟨.bin .sub .plain (.c (vi .i64 (-1))) (.t 8), some 9, none⟩,
 ⟨.mv (.t 9), some 2, none⟩])
 (.ret))
 (.seq (.reg false [] [
 ⟨.bin .eql .plain (.t 4) (.c (vi .i64 1)), some 11, none⟩,
 ⟨.mv (.t 11), some 10, none⟩])
 (.keep [0, 10] (.cond (.t 10)
 (.seq (.reg false [] [
 ⟨.lits false (.i .i64) 16 [(0, (.c (vi .i64 9223372036854775807))), (1, (.c (vi .i64 (-9223372036854775808)))), (2, (.c (vi .i64 1099511627776))), (3, (.c (vi .i64 1099511627777))), (4, (.c (vi .i64 1073741824))), (5, (.c (vi .i64 1073741825))), (6, (.c (vi .i64 64))), (7, (.c (vi .i64 63))), (8, (.c (vi .i64 16))), (9, (.c (vi .i64 15))), (10, (.c (vi .i64 256))), (11, (.c (vi .i64 255))), (12, (.c (vi .i64 4294967296))), (13, (.c (vi .i64 65536))), (14, (.c (vi .i64 256))), (15, (.c (vi .i64 255)))], some 12, none⟩,
 ⟨.mv (.t 0), some 13, none⟩,
 ⟨.call i_draw_Codes_Next [(.t 13), (.c (vi .i64 16))] 0, some 14, none⟩,
 ⟨.iaddr (.i .i64) (.t 12) (.t 14), some 15, none⟩,
 ⟨.load false (.i .i64) (.t 15), some 16, none⟩,
 ⟨.mv (.t 16), some 2, none⟩])
 (.ret))
 (.skip))))))))))
 (.keep [0] (.seq (.reg false [] [
 ⟨.mv (.t 0), some 17, none⟩,
 ⟨.call i_draw_Codes_Next [(.t 17), (.c (vi .i64 20))] 0, some 18, none⟩,
 ⟨.mv (.t 18), some 2, none⟩])
 (.ret)))))
def J12 : TFn := ⟨1, 19, J6a, [.tmp 2], false⟩
def J52 : TCo := .seq (.reg false [] [
 ⟨.newbox J4, some 6, none⟩])
 (.keep [0, 1, 2, 6] (.seq (.reg false [] [
 ⟨.mv (.t 0), some 8, none⟩,
 ⟨.call i_draw_Codes_Next [(.t 8), (.c (vi .i64 6))] 0, some 9, none⟩,
 ⟨.bin .add .plain (.c (vi .i64 1)) (.t 9), some 10, none⟩,
 ⟨.mv (.t 2), some 11, none⟩,
 ⟨.bin .add .plain (.t 11) (.c (vi .i64 1)), some 12, none⟩,
 ⟨.mv (.t 0), some 13, none⟩,
 ⟨.call i_draw_Codes_Next [(.t 13), (.c (vi .i64 6))] 0, some 14, none⟩,
 ⟨.bin .add .plain (.t 12) (.t 14), some 15, none⟩,
 ⟨.build J4 [(0, (.i .i64), (.t 10)), (1, (.i .i64), (.t 15))], some 16, none⟩,
 ⟨.newbox J4, some 7, none⟩,
 ⟨.store J4 (.t 7) (.t 16), none, none⟩])
 (.keep [0, 1, 6, 7] (.seq (.seq (.reg false [] [
 ⟨.faddr 0 (.t 7), some 17, none⟩,
 ⟨.load false (.i .i64) (.t 17), some 18, none⟩])
 (.keep [0, 1, 6, 7, 18] (.block 0 (.seq (.reg false [] [
 ⟨.bin .eql .plain (.t 18) (.c (vi .i64 2)), some 20, none⟩,
 ⟨.mv (.t 20), some 19, none⟩])
 (.keep [0, 1, 6, 7, 18, 19] (.cond (.t 19)
 (.reg false [] [
 ⟨.mv (.t 0), some 21, none⟩,
 ⟨.mv (.t 1), some 22, none⟩,
 ⟨.call i_draw_Codes_Next [(.t 21), (.t 22)] 0, some 23, none⟩,
 ⟨.faddr 3 (.t 7), some 24, none⟩,
 ⟨.store (.i .i64) (.t 24) (.t 23), none, none⟩])
 (.seq (.reg false [] [
 ⟨.bin .eql .plain (.t 18) (.c (vi .i64 3)), some 26, none⟩,
 ⟨.mv (.t 26), some 25, none⟩])
 (.keep [0, 1, 6, 7, 18, 25] (.cond (.t 25)
 (.reg false [] [
 ⟨.mv (.t 0), some 27, none⟩,
 ⟨.call i_draw_Codes_Next [(.t 27), (.c (vi .i64 256))] 0, some 28, none⟩,
 ⟨.faddr 4 (.t 7), some 29, none⟩,
 ⟨.store (.i .i64) (.t 29) (.t 28), none, none⟩])
 (.seq (.reg false [] [
 ⟨.bin .eql .plain (.t 18) (.c (vi .i64 4)), some 31, none⟩,
 ⟨.mv (.t 31), some 30, none⟩])
 (.keep [0, 1, 6, 7, 18, 30] (.cond (.t 30)
 (.reg false [] [
 ⟨.mv (.t 0), some 32, none⟩,
 ⟨.mv (.t 1), some 33, none⟩,
 ⟨.call i_draw_Codes_Next [(.t 32), (.t 33)] 0, some 34, none⟩,
 ⟨.mv (.t 0), some 35, none⟩,
 ⟨.call i_draw_Codes_Next [(.t 35), (.c (vi .i64 256))] 0, some 36, none⟩,
 ⟨.mv (.t 0), some 37, none⟩,
 ⟨.call i_draw_Codes_Next [(.t 37), (.c (vi .i64 255))] 0, some 38, none⟩,
 ⟨.bin .add .plain (.c (vi .i64 1)) (.t 38), some 39, none⟩,
 ⟨.conv (.int .u8) (.t 39), some 40, none⟩,
 ⟨.faddr 2 (.t 7), some 41, none⟩,
 ⟨.store (.i .i64) (.t 41) (.t 34), none, none⟩,
 ⟨.faddr 4 (.t 7), some 42, none⟩,
 ⟨.store (.i .i64) (.t 42) (.t 36), none, none⟩,
 ⟨.faddr 5 (.t 7), some 43, none⟩,
 ⟨.store (.i .u8) (.t 43) (.t 40), none, none⟩])
 (.seq (.reg false [] [
 ⟨.bin .eql .plain (.t 18) (.c (vi .i64 5)), some 45, none⟩,
 ⟨.mv (.t 45), some 44, none⟩])
 (.keep [0, 1, 6, 7, 44] (.cond (.t 44)
 (.reg false [] [
 ⟨.mv (.t 0), some 46, none⟩,
 ⟨.mv (.t 1), some 47, none⟩,
 ⟨.call i_draw_Codes_Next [(.t 46), (.t 47)] 0, some 48, none⟩,
 ⟨.faddr 2 (.t 7), some 49, none⟩,
 ⟨.store (.i .i64) (.t 49) (.t 48), none, none⟩])
 (.skip))))))))))))))))
 (.keep [0, 6, 7] (.seq (.seq (.reg false [] [
 ⟨.mv (.t 0), some 50, none⟩,
 ⟨.call i_draw_Codes_Next [(.t 50), (.c (vi .i64 16))] 0, some 51, none⟩])
 (.keep [0, 6, 7, 51] (.block 1 (.seq (.reg false [] [
 ⟨.bin .eql .plain (.t 51) (.c (vi .i64 12)), some 53, none⟩,
 ⟨.mv (.t 53), some 52, none⟩])
 (.keep [0, 6, 7, 51, 52] (.cond (.t 52)
 (.reg false [] [
 ⟨.mv (.t 0), some 54, none⟩,
 ⟨.call Jz [(.t 54)] 0, some 55, none⟩,
 ⟨.faddr 1 (.t 7), some 56, none⟩,
 ⟨.store (.i .i64) (.t 56) (.t 55), none, none⟩])
 (.seq (.reg false [] [
 ⟨.bin .eql .plain (.t 51) (.c (vi .i64 13)), some 58, none⟩,
 ⟨.mv (.t 58), some 57, none⟩])
 (.keep [0, 6, 7, 51, 57] (.cond (.t 57)
 (.reg false [] [
 ⟨.mv (.t 0), some 59, none⟩,
 ⟨.call Jz [(.t 59)] 0, some 60, none⟩,
 ⟨.faddr 2 (.t 7), some 61, none⟩,
 ⟨.store (.i .i64) (.t 61) (.t 60), none, none⟩,
 ⟨.faddr 5 (.t 7), some 62, none⟩,
 ⟨.store (.i .u8) (.t 62) (.c (vi .u8 0)), none, none⟩])
 (.seq (.reg false [] [
 ⟨.bin .eql .plain (.t 51) (.c (vi .i64 14)), some 64, none⟩,
 ⟨.mv (.t 64), some 63, none⟩])
 (.keep [0, 6, 7, 51, 63] (.cond (.t 63)
 (.reg false [] [
 ⟨.mv (.t 0), some 65, none⟩,
 ⟨.call Jz [(.t 65)] 0, some 66, none⟩,
 ⟨.mv (.t 0), some 67, none⟩,
 ⟨.call Jz [(.t 67)] 0, some 68, none⟩,
 ⟨.faddr 3 (.t 7), some 69, none⟩,
 ⟨.store (.i .i64) (.t 69) (.t 66), none, none⟩,
 ⟨.faddr 4 (.t 7), some 70, none⟩,
 ⟨.store (.i .i64) (.t 70) (.t 68), none, none⟩])
 (.seq (.reg false [] [
 ⟨.bin .eql .plain (.t 51) (.c (vi .i64 15)), some 72, none⟩,
 ⟨.mv (.t 72), some 71, none⟩])
 (.keep [0, 6, 7, 71] (.cond (.t 71)
 (.reg false [] [
 ⟨.mv (.t 0), some 73, none⟩,
 ⟨.call i_draw_Codes_Next [(.t 73), (.c (vi .i64 9))] 0, some 74, none⟩,
 ⟨.bin .sub .plain (.t 74) (.c (vi .i64 1)), some 75, none⟩,
 ⟨.faddr 0 (.t 7), some 76, none⟩,
 ⟨.store (.i .i64) (.t 76) (.t 75), none, none⟩])
 (.skip))))))))))))))))
 (.keep [6, 7] (.seq (.reg false [] [
 ⟨.load true J4 (.t 7), some 77, none⟩,
 ⟨.store J4 (.t 6) (.t 77), none, none⟩])
 (.ret)))))))))
def J0F : TFn := ⟨3, 78, J52, [.cell 6 true J4], false⟩
def Jck : TCo := .seq (.reg false [] [
 ⟨.mv (.c (vi .i64 0)), some 2, none⟩])
 (.keep [0] (.seq (.reg true [] [
 ⟨.mv (.t 0), some 3, none⟩,
 ⟨.nilchk (.t 3), some 4, none⟩,
 ⟨.faddr 0 (.t 4), some 5, none⟩,
 ⟨.load false (.l (.i .u8)) (.t 5), some 6, none⟩,
 ⟨.len false (.t 6), some 7, none⟩,
 ⟨.mv (.t 0), some 8, none⟩,
 ⟨.nilchk (.t 8), some 9, none⟩,
 ⟨.faddr 1 (.t 9), some 10, none⟩,
 ⟨.load false (.i .i64) (.t 10), some 11, none⟩,
 ⟨.bin .sub .plain (.t 7) (.t 11), some 12, none⟩,
 ⟨.mv (.t 12), some 2, none⟩])
 (.ret)))
def J3U : TFn := ⟨1, 13, Jck, [.tmp 2], false⟩
def Jlt : TCo := .seq (.reg false [] [
 ⟨.mv (.c (.a (.c .np))), some 4, none⟩])
 (.keep [0, 1] (.seq (.seq (.reg false [] [
 ⟨.mv (.t 0), some 5, none⟩,
 ⟨.len false (.t 5), some 6, none⟩,
 ⟨.mv (.t 1), some 7, none⟩,
 ⟨.bin .gtr .plain (.t 6) (.t 7), some 8, none⟩])
 (.keep [0, 1, 8] (.cond (.t 8)
 (.reg false [] [
 ⟨.mv (.t 0), some 9, none⟩,
 ⟨.mv (.t 1), some 10, none⟩,
 ⟨.slice (.sl (.i .u8)) (.t 9) none (some (.t 10)) none, some 11, none⟩,
 ⟨.mv (.t 11), some 0, none⟩])
 (.skip))))
 (.keep [0] (.seq (.reg false [] [
 ⟨.mv (.t 0), some 12, none⟩,
 ⟨.build Jd [(0, (.l (.i .u8)), (.t 12))], some 13, none⟩,
 ⟨.box Jd (.t 13), some 14, none⟩,
 ⟨.mv (.t 14), some 4, none⟩])
 (.ret)))))
def J85 : TFn := ⟨2, 15, Jlt, [.tmp 4], false⟩
def JgU : TCo := .seq (.reg false [] [
 ⟨.mv (.c (vb false)), some 0, none⟩])
 (.keep [] (.seq (.reg false [] [
 ⟨.call J1G [(.c (vi .i64 1))] 0, some 11, none⟩,
 ⟨.mv (.t 11), some 10, none⟩,
 ⟨.extr (.t 10) 0, some 12, none⟩,
 ⟨.extr (.t 10) 1, some 13, none⟩,
 ⟨.newbox J3, some 1, none⟩,
 ⟨.store J3 (.t 1) (.t 12), none, none⟩,
 ⟨.mv (.t 13), some 2, none⟩])
 (.keep [1, 2] (.seq (.reg false [] [
 ⟨.load true J3 (.t 1), some 15, none⟩,
 ⟨.build J4 [(0, (.i .i64), (.c (vi .i64 1))), (1, (.i .i64), (.c (vi .i64 2)))], some 16, none⟩,
 ⟨.call J0Y [(.t 15), (.t 16)] 0, some 17, none⟩,
 ⟨.mv (.t 17), some 14, none⟩,
 ⟨.extr (.t 14) 0, some 18, none⟩,
 ⟨.extr (.t 14) 1, some 19, none⟩,
 ⟨.store J3 (.t 1) (.t 18), none, none⟩,
 ⟨.mv (.t 19), some 3, none⟩])
 (.keep [1, 2, 3] (.seq (.reg true [(0, 3), (1, 3), (0, 4)] [
 ⟨.mkslice false (.i .u8) 1 (.c (vi .i64 255)) (.c (vi .i64 255)), some 20, none⟩,
 ⟨.conv .toStr (.t 20), some 21, none⟩,
 ⟨.bin .add .plain (.t 21) (.c (vs [97])), some 22, none⟩,
 ⟨.mkslice false (.i .u8) 1 (.c (vi .i64 255)) (.c (vi .i64 255)), some 23, none⟩,
 ⟨.conv .toStr (.t 23), some 24, none⟩,
 ⟨.bin .add .plain (.t 24) (.c (vs [98])), some 25, none⟩,
 ⟨.mv (.t 22), some 4, none⟩,
 ⟨.mv (.t 25), some 5, none⟩])
 (.keep [1, 2, 3, 4, 5] (.seq (.reg false [] [
 ⟨.load true J3 (.t 1), some 27, none⟩,
 ⟨.mv (.t 4), some 28, none⟩,
 ⟨.call J1b [(.t 27), (.c (vi .i64 0)), (.t 28)] 0, some 29, none⟩,
 ⟨.mv (.t 29), some 26, none⟩,
 ⟨.extr (.t 26) 0, some 30, none⟩,
 ⟨.extr (.t 26) 1, some 31, none⟩,
 ⟨.store J3 (.t 1) (.t 30), none, none⟩,
 ⟨.mv (.t 31), some 6, none⟩])
 (.keep [1, 2, 3, 4, 5, 6] (.seq (.reg false [] [
 ⟨.load true J3 (.t 1), some 33, none⟩,
 ⟨.mv (.t 5), some 34, none⟩,
 ⟨.call J1b [(.t 33), (.c (vi .i64 0)), (.t 34)] 0, some 35, none⟩,
 ⟨.mv (.t 35), some 32, none⟩,
 ⟨.extr (.t 32) 0, some 36, none⟩,
 ⟨.extr (.t 32) 1, some 37, none⟩,
 ⟨.store J3 (.t 1) (.t 36), none, none⟩,
 ⟨.mv (.t 37), some 7, none⟩])
 (.keep [1, 2, 3, 4, 6, 7] (.seq (.reg false [] [
 ⟨.load true J3 (.t 1), some 39, none⟩,
 ⟨.call J1o [(.t 39), (.c (vi .i64 0))] 0, some 40, none⟩,
 ⟨.mv (.t 40), some 38, none⟩,
 ⟨.extr (.t 38) 0, some 41, none⟩,
 ⟨.extr (.t 38) 1, some 42, none⟩,
 ⟨.mv (.t 41), some 8, none⟩,
 ⟨.mv (.t 42), some 9, none⟩])
 (.keep [2, 3, 4, 6, 7, 8, 9] (.seq (.reg false [] [
 ⟨.mv (.t 2), some 43, none⟩,
 ⟨.bin .eql .plain (.t 43) (.c (vi .i64 0)), some 44, none⟩,
 ⟨.mv (.t 44), some 45, none⟩,
 ⟨.mv (.t 3), some 46, some (45, true)⟩,
 ⟨.bin .eql .plain (.t 46) (.c (vi .i64 0)), some 47, some (45, true)⟩,
 ⟨.pick (.t 45) (.t 47) (.c (vb false)), some 48, none⟩,
 ⟨.mv (.t 48), some 49, none⟩,
 ⟨.mv (.t 6), some 50, some (49, true)⟩,
 ⟨.bin .eql .plain (.t 50) (.c (vi .i64 0)), some 51, some (49, true)⟩,
 ⟨.pick (.t 49) (.t 51) (.c (vb false)), some 52, none⟩,
 ⟨.mv (.t 52), some 53, none⟩,
 ⟨.mv (.t 7), some 54, some (53, true)⟩,
 ⟨.bin .eql .plain (.t 54) (.c (vi .i64 0)), some 55, some (53, true)⟩,
 ⟨.pick (.t 53) (.t 55) (.c (vb false)), some 56, none⟩,
 ⟨.mv (.t 56), some 57, none⟩,
 ⟨.mv (.t 9), some 58, some (57, true)⟩,
 ⟨.bin .eql .plain (.t 58) (.c (vi .i64 0)), some 59, some (57, true)⟩,
 ⟨.pick (.t 57) (.t 59) (.c (vb false)), some 60, none⟩,
 ⟨.mv (.t 60), some 61, none⟩,
 ⟨.mv (.t 8), some 62, some (61, true)⟩,
 ⟨.mv (.t 4), some 63, some (61, true)⟩,
 ⟨.bin .eql .plain (.t 62) (.t 63), some 64, some (61, true)⟩,
 ⟨.pick (.t 61) (.t 64) (.c (vb false)), some 65, none⟩,
 ⟨.mv (.t 65), some 0, none⟩])
 (.ret)))))))))))))))
def J62 : TFn := ⟨0, 66, JgU, [.tmp 0], false⟩
def J8s : TCo := .seq (.reg false [] [
 ⟨.box J3 (.t 0), some 1, none⟩,
 ⟨.newbox J3, some 2, none⟩])
 (.keep [1, 2] (.seq (.reg false [] [
 ⟨.faddr 0 (.t 1), some 3, none⟩,
 ⟨.load false (.l .s) (.t 3), some 4, none⟩,
 ⟨.appn .s 16 (.t 4), some 5, none⟩,
 ⟨.faddr 0 (.t 1), some 6, none⟩,
 ⟨.store (.l .s) (.t 6) (.t 5), none, none⟩])
 (.keep [1, 2] (.seq (.tidy [1, 2] (.reg false [] [
 ⟨.faddr 2 (.t 1), some 7, none⟩,
 ⟨.load false (.l (.i .i64)) (.t 7), some 8, none⟩,
 ⟨.appn (.i .i64) 8 (.t 8), some 9, none⟩,
 ⟨.faddr 2 (.t 1), some 10, none⟩,
 ⟨.store (.l (.i .i64)) (.t 10) (.t 9), none, none⟩]))
 (.keep [1, 2] (.seq (.reg false [] [
 ⟨.faddr 4 (.t 1), some 11, none⟩,
 ⟨.load false (.l J4) (.t 11), some 12, none⟩,
 ⟨.appn J4 48 (.t 12), some 13, none⟩,
 ⟨.faddr 4 (.t 1), some 14, none⟩,
 ⟨.store (.l J4) (.t 14) (.t 13), none, none⟩])
 (.keep [1, 2] (.seq (.reg false [] [
 ⟨.load true J3 (.t 1), some 15, none⟩,
 ⟨.store J3 (.t 2) (.t 15), none, none⟩])
 (.ret)))))))))
def J28 : TFn := ⟨1, 16, J8s, [.cell 2 true J3], true⟩
def JgI : TCo := .seq (.reg false [] [
 ⟨.box J3 (.t 0), some 2, none⟩,
 ⟨.box J4 (.t 1), some 3, none⟩,
 ⟨.mv (.c (vb false)), some 4, none⟩])
 (.keep [2, 3] (.seq (.seq (.reg false [] [
 ⟨.faddr 1 (.t 3), some 6, none⟩,
 ⟨.load false (.i .i64) (.t 6), some 7, none⟩,
 ⟨.faddr 1 (.t 2), some 8, none⟩,
 ⟨.load false (.i .i64) (.t 8), some 9, none⟩,
 ⟨.bin .leq .plain (.t 7) (.t 9), some 10, none⟩,
 ⟨.mv (.t 10), some 11, none⟩,
 ⟨.faddr 1 (.t 3), some 12, some (11, false)⟩,
 ⟨.load false (.i .i64) (.t 12), some 13, some (11, false)⟩,
 ⟨.bin .gtr .plain (.t 13) (.c (vi .i64 1099511627776)), some 14, some (11, false)⟩,
 ⟨.pick (.t 11) (.c (vb true)) (.t 14), some 15, none⟩,
 ⟨.mv (.t 15), some 16, none⟩,
 ⟨.faddr 2 (.t 3), some 17, some (16, false)⟩,
 ⟨.load false (.i .i64) (.t 17), some 18, some (16, false)⟩,
 ⟨.bin .lss .plain (.t 18) (.c (vi .i64 0)), some 19, some (16, false)⟩,
 ⟨.pick (.t 16) (.c (vb true)) (.t 19), some 20, none⟩,
 ⟨.mv (.t 20), some 21, none⟩,
 ⟨.faddr 2 (.t 3), some 22, some (21, false)⟩,
 ⟨.load false (.i .i64) (.t 22), some 23, some (21, false)⟩,
 ⟨.faddr 0 (.t 2), some 24, some (21, false)⟩,
 ⟨.load false (.l .s) (.t 24), some 25, some (21, false)⟩,
 ⟨.len false (.t 25), some 26, some (21, false)⟩,
 ⟨.bin .geq .plain (.t 23) (.t 26), some 27, some (21, false)⟩,
 ⟨.pick (.t 21) (.c (vb true)) (.t 27), some 28, none⟩,
 ⟨.mv (.t 28), some 29, none⟩,
 ⟨.faddr 3 (.t 3), some 30, some (29, false)⟩,
 ⟨.load false (.i .i64) (.t 30), some 31, some (29, false)⟩,
 ⟨.bin .lss .plain (.t 31) (.c (vi .i64 0)), some 32, some (29, false)⟩,
 ⟨.pick (.t 29) (.c (vb true)) (.t 32), some 33, none⟩,
 ⟨.mv (.t 33), some 34, none⟩,
 ⟨.faddr 3 (.t 3), some 35, some (34, false)⟩,
 ⟨.load false (.i .i64) (.t 35), some 36, some (34, false)⟩,
 ⟨.faddr 0 (.t 2), some 37, some (34, false)⟩,
 ⟨.load false (.l .s) (.t 37), some 38, some (34, false)⟩,
 ⟨.len false (.t 38), some 39, some (34, false)⟩,
 ⟨.bin .geq .plain (.t 36) (.t 39), some 40, some (34, false)⟩,
 ⟨.pick (.t 34) (.c (vb true)) (.t 40), some 41, none⟩,
 ⟨.mv (.t 41), some 42, none⟩,
 ⟨.faddr 4 (.t 3), some 43, some (42, false)⟩,
 ⟨.load false (.i .i64) (.t 43), some 44, some (42, false)⟩,
 ⟨.bin .lss .plain (.t 44) (.c (vi .i64 0)), some 45, some (42, false)⟩,
 ⟨.pick (.t 42) (.c (vb true)) (.t 45), some 46, none⟩,
 ⟨.mv (.t 46), some 47, none⟩,
 ⟨.faddr 4 (.t 3), some 48, some (47, false)⟩,
 ⟨.load false (.i .i64) (.t 48), some 49, some (47, false)⟩,
 ⟨.bin .geq .plain (.t 49) (.c (vi .i64 256)), some 50, some (47, false)⟩,
 ⟨.pick (.t 47) (.c (vb true)) (.t 50), some 51, none⟩])
 (.keep [3, 51] (.cond (.t 51)
 (.seq (.reg false [] [
 ⟨.mv (.c (vb false)), some 4, none⟩])
 (.ret))
 (.skip))))
 (.keep [3] (.seq (.reg false [] [
 ⟨.faddr 0 (.t 3), some 52, none⟩,
 ⟨.load false (.i .i64) (.t 52), some 53, none⟩,
 ⟨.faddr 1 (.t 3), some 54, none⟩,
 ⟨.load false (.i .i64) (.t 54), some 55, none⟩,
 ⟨.build J4 [(0, (.i .i64), (.t 53)), (1, (.i .i64), (.t 55))], some 56, none⟩,
 ⟨.newbox J4, some 5, none⟩,
 ⟨.store J4 (.t 5) (.t 56), none, none⟩])
 (.keep [3, 5] (.seq (.seq (.reg false [] [
 ⟨.faddr 0 (.t 3), some 57, none⟩,
 ⟨.load false (.i .i64) (.t 57), some 58, none⟩])
 (.keep [3, 5, 58] (.block 0 (.seq (.seq (.reg false [] [
 ⟨.bin .eql .plain (.t 58) (.c (vi .i64 1)), some 60, none⟩,
 ⟨.mv (.t 60), some 59, none⟩])
 (.keep [3, 5, 58, 59] (.cond (.t 59)
 (.skip)
 (.reg false [] [
 ⟨.bin .eql .plain (.t 58) (.c (vi .i64 6)), some 61, none⟩,
 ⟨.mv (.t 61), some 59, none⟩]))))
 (.keep [3, 5, 58, 59] (.cond (.t 59)
 (.skip)
 (.seq (.reg false [] [
 ⟨.bin .eql .plain (.t 58) (.c (vi .i64 2)), some 63, none⟩,
 ⟨.mv (.t 63), some 62, none⟩])
 (.keep [3, 5, 58, 62] (.cond (.t 62)
 (.reg false [] [
 ⟨.faddr 3 (.t 3), some 64, none⟩,
 ⟨.load false (.i .i64) (.t 64), some 65, none⟩,
 ⟨.faddr 3 (.t 5), some 66, none⟩,
 ⟨.store (.i .i64) (.t 66) (.t 65), none, none⟩])
 (.seq (.reg false [] [
 ⟨.bin .eql .plain (.t 58) (.c (vi .i64 3)), some 68, none⟩,
 ⟨.mv (.t 68), some 67, none⟩])
 (.keep [3, 5, 58, 67] (.cond (.t 67)
 (.reg false [] [
 ⟨.faddr 4 (.t 3), some 69, none⟩,
 ⟨.load false (.i .i64) (.t 69), some 70, none⟩,
 ⟨.faddr 4 (.t 5), some 71, none⟩,
 ⟨.store (.i .i64) (.t 71) (.t 70), none, none⟩])
 (.seq (.reg false [] [
 ⟨.bin .eql .plain (.t 58) (.c (vi .i64 4)), some 73, none⟩,
 ⟨.mv (.t 73), some 72, none⟩])
 (.keep [3, 5, 58, 72] (.cond (.t 72)
 (.seq (.reg true [(3, 7), (5, 7), (5, 9)] [
 ⟨.faddr 2 (.t 3), some 74, none⟩,
 ⟨.load false (.i .i64) (.t 74), some 75, none⟩,
 ⟨.faddr 4 (.t 3), some 76, none⟩,
 ⟨.load false (.i .i64) (.t 76), some 77, none⟩,
 ⟨.faddr 5 (.t 3), some 78, none⟩,
 ⟨.load false (.i .u8) (.t 78), some 79, none⟩,
 ⟨.faddr 2 (.t 5), some 80, none⟩,
 ⟨.store (.i .i64) (.t 80) (.t 75), none, none⟩,
 ⟨.faddr 4 (.t 5), some 81, none⟩,
 ⟨.store (.i .i64) (.t 81) (.t 77), none, none⟩,
 ⟨.faddr 5 (.t 5), some 82, none⟩,
 ⟨.store (.i .u8) (.t 82) (.t 79), none, none⟩])
 (.keep [3, 5] (.seq (.reg false [] [
 ⟨.faddr 5 (.t 3), some 83, none⟩,
 ⟨.load false (.i .u8) (.t 83), some 84, none⟩,
 ⟨.bin .eql .plain (.t 84) (.c (vi .u8 0)), some 85, none⟩])
 (.keep [3, 5, 85] (.cond (.t 85)
 (.seq (.reg false [] [
 ⟨.mv (.c (vb false)), some 4, none⟩])
 (.ret))
 (.skip))))))
 (.seq (.reg false [] [
 ⟨.bin .eql .plain (.t 58) (.c (vi .i64 5)), some 87, none⟩,
 ⟨.mv (.t 87), some 86, none⟩])
 (.keep [3, 5, 86] (.cond (.t 86)
 (.reg false [] [
 ⟨.faddr 2 (.t 3), some 88, none⟩,
 ⟨.load false (.i .i64) (.t 88), some 89, none⟩,
 ⟨.faddr 2 (.t 5), some 90, none⟩,
 ⟨.store (.i .i64) (.t 90) (.t 89), none, none⟩])
 (.seq (.reg false [] [
 ⟨.mv (.c (vb false)), some 4, none⟩])
 (.ret))))))))))))))))))))
 (.keep [3, 5] (.seq (.reg false [] [
 ⟨.load true J4 (.t 3), some 91, none⟩,
 ⟨.load true J4 (.t 5), some 92, none⟩,
 ⟨.bin .eql (.flat J4) (.t 91) (.t 92), some 93, none⟩,
 ⟨.mv (.t 93), some 4, none⟩])
 (.ret)))))))))
def J5V : TFn := ⟨2, 94, JgI, [.tmp 4], false⟩
def JgS : TCo := .seq (.reg false [] [
 ⟨.box J3 (.t 0), some 1, none⟩,
 ⟨.mv (.c (vb false)), some 2, none⟩])
 (.keep [1] (.seq (.reg false [] [
 ⟨.faddr 0 (.t 1), some 7, none⟩,
 ⟨.load false (.l .s) (.t 7), some 8, none⟩,
 ⟨.len false (.t 8), some 9, none⟩,
 ⟨.mv (.t 9), some 3, none⟩])
 (.keep [1, 3] (.seq (.seq (.reg false [] [
 ⟨.mv (.t 3), some 10, none⟩,
 ⟨.bin .lss .plain (.t 10) (.c (vi .i64 1)), some 11, none⟩,
 ⟨.mv (.t 11), some 12, none⟩,
 ⟨.mv (.t 3), some 13, some (12, false)⟩,
 ⟨.bin .gtr .plain (.t 13) (.c (vi .i64 64)), some 14, some (12, false)⟩,
 ⟨.pick (.t 12) (.c (vb true)) (.t 14), some 15, none⟩,
 ⟨.mv (.t 15), some 16, none⟩,
 ⟨.faddr 1 (.t 1), some 17, some (16, false)⟩,
 ⟨.load false (.i .i64) (.t 17), some 18, some (16, false)⟩,
 ⟨.bin .lss .plain (.t 18) (.c (vi .i64 0)), some 19, some (16, false)⟩,
 ⟨.pick (.t 16) (.c (vb true)) (.t 19), some 20, none⟩,
 ⟨.mv (.t 20), some 21, none⟩,
 ⟨.faddr 1 (.t 1), some 22, some (21, false)⟩,
 ⟨.load false (.i .i64) (.t 22), some 23, some (21, false)⟩,
 ⟨.bin .gtr .plain (.t 23) (.c (vi .i64 1099511627776)), some 24, some (21, false)⟩,
 ⟨.pick (.t 21) (.c (vb true)) (.t 24), some 25, none⟩,
 ⟨.mv (.t 25), some 26, none⟩,
 ⟨.faddr 4 (.t 1), some 27, some (26, false)⟩,
 ⟨.load false (.l J4) (.t 27), some 28, some (26, false)⟩,
 ⟨.len false (.t 28), some 29, some (26, false)⟩,
 ⟨.bin .gtr .plain (.t 29) (.c (vi .i64 64)), some 30, some (26, false)⟩,
 ⟨.pick (.t 26) (.c (vb true)) (.t 30), some 31, none⟩])
 (.keep [1, 3, 31] (.cond (.t 31)
 (.seq (.reg false [] [
 ⟨.mv (.c (vb false)), some 2, none⟩])
 (.ret))
 (.skip))))
 (.keep [1, 3] (.seq (.seq (.reg false [] [
 ⟨.mv (.c (vi .i64 0)), some 4, none⟩])
 (.keep [1, 3, 4] (.block 0 (.loop [1, 3, 4] (.seq (.seq (.reg false [] [
 ⟨.mv (.t 4), some 32, none⟩,
 ⟨.mv (.t 3), some 33, none⟩,
 ⟨.bin .lss .plain (.t 32) (.t 33), some 34, none⟩])
 (.keep [1, 3, 4, 34] (.cond (.t 34)
 (.skip)
 (.exit 0))))
 (.keep [1, 3, 4] (.seq (.block 1 (.seq (.reg false [] [
 ⟨.faddr 0 (.t 1), some 37, none⟩,
 ⟨.load false (.l .s) (.t 37), some 38, none⟩,
 ⟨.mv (.t 4), some 39, none⟩,
 ⟨.iaddr .s (.t 38) (.t 39), some 40, none⟩,
 ⟨.load false .s (.t 40), some 41, none⟩,
 ⟨.len true (.t 41), some 42, none⟩,
 ⟨.bin .neq .plain (.t 42) (.c (vi .i64 256)), some 43, none⟩])
 (.keep [1, 3, 4, 43] (.cond (.t 43)
 (.seq (.reg false [] [
 ⟨.mv (.c (vb false)), some 2, none⟩])
 (.ret))
 (.skip)))))
 (.keep [1, 3, 4] (.reg false [] [
 ⟨.mv (.t 4), some 35, none⟩,
 ⟨.bin .add .plain (.t 35) (.c (vi .i64 1)), some 36, none⟩,
 ⟨.mv (.t 36), some 4, none⟩])))))))))
 (.keep [1, 3] (.seq (.seq (.reg false [] [
 ⟨.mv (.c (vi .i64 0)), some 5, none⟩])
 (.keep [1, 3, 5] (.block 2 (.loop [1, 3, 5] (.seq (.seq (.reg false [] [
 ⟨.mv (.t 5), some 44, none⟩,
 ⟨.faddr 2 (.t 1), some 45, none⟩,
 ⟨.load false (.l (.i .i64)) (.t 45), some 46, none⟩,
 ⟨.len false (.t 46), some 47, none⟩,
 ⟨.bin .lss .plain (.t 44) (.t 47), some 48, none⟩])
 (.keep [1, 3, 5, 48] (.cond (.t 48)
 (.skip)
 (.exit 2))))
 (.keep [1, 3, 5] (.seq (.block 3 (.seq (.reg true [] [
 ⟨.faddr 2 (.t 1), some 51, none⟩,
 ⟨.load false (.l (.i .i64)) (.t 51), some 52, none⟩,
 ⟨.mv (.t 5), some 53, none⟩,
 ⟨.iaddr (.i .i64) (.t 52) (.t 53), some 54, none⟩,
 ⟨.load false (.i .i64) (.t 54), some 55, none⟩,
 ⟨.bin .lss .plain (.t 55) (.c (vi .i64 0)), some 56, none⟩,
 ⟨.mv (.t 56), some 57, none⟩,
 ⟨.faddr 2 (.t 1), some 58, some (57, false)⟩,
 ⟨.load false (.l (.i .i64)) (.t 58), some 59, some (57, false)⟩,
 ⟨.mv (.t 5), some 60, some (57, false)⟩,
 ⟨.iaddr (.i .i64) (.t 59) (.t 60), some 61, some (57, false)⟩,
 ⟨.load false (.i .i64) (.t 61), some 62, some (57, false)⟩,
 ⟨.mv (.t 3), some 63, some (57, false)⟩,
 ⟨.bin .geq .plain (.t 62) (.t 63), some 64, some (57, false)⟩,
 ⟨.pick (.t 57) (.c (vb true)) (.t 64), some 65, none⟩,
 ⟨.mv (.t 65), some 66, none⟩,
 ⟨.mv (.t 5), some 67, some (66, false)⟩,
 ⟨.bin .gtr .plain (.t 67) (.c (vi .i64 0)), some 68, some (66, false)⟩,
 ⟨.mv (.t 68), some 69, some (66, false)⟩,
 ⟨.faddr 2 (.t 1), some 70, some (69, true)⟩,
 ⟨.load false (.l (.i .i64)) (.t 70), some 71, some (69, true)⟩,
 ⟨.mv (.t 5), some 72, some (69, true)⟩,
 ⟨.bin .sub .plain (.t 72) (.c (vi .i64 1)), some 73, some (69, true)⟩,
 ⟨.iaddr (.i .i64) (.t 71) (.t 73), some 74, some (69, true)⟩,
 ⟨.load false (.i .i64) (.t 74), some 75, some (69, true)⟩,
 ⟨.faddr 2 (.t 1), some 76, some (69, true)⟩,
 ⟨.load false (.l (.i .i64)) (.t 76), some 77, some (69, true)⟩,
 ⟨.mv (.t 5), some 78, some (69, true)⟩,
 ⟨.iaddr (.i .i64) (.t 77) (.t 78), some 79, some (69, true)⟩,
 ⟨.load false (.i .i64) (.t 79), some 80, some (69, true)⟩,
 ⟨.bin .geq .plain (.t 75) (.t 80), some 81, some (69, true)⟩,
 ⟨.pick (.t 69) (.t 81) (.c (vb false)), some 82, some (66, false)⟩,
 ⟨.pick (.t 66) (.c (vb true)) (.t 82), some 83, none⟩])
 (.keep [1, 3, 5, 83] (.cond (.t 83)
 (.seq (.reg false [] [
 ⟨.mv (.c (vb false)), some 2, none⟩])
 (.ret))
 (.skip)))))
 (.keep [1, 3, 5] (.reg false [] [
 ⟨.mv (.t 5), some 49, none⟩,
 ⟨.bin .add .plain (.t 49) (.c (vi .i64 1)), some 50, none⟩,
 ⟨.mv (.t 50), some 5, none⟩])))))))))
 (.keep [1] (.seq (.seq (.reg false [] [
 ⟨.mv (.c (vi .i64 0)), some 6, none⟩])
 (.keep [1, 6] (.block 4 (.loop [1, 6] (.seq (.seq (.reg false [] [
 ⟨.mv (.t 6), some 84, none⟩,
 ⟨.faddr 4 (.t 1), some 85, none⟩,
 ⟨.load false (.l J4) (.t 85), some 86, none⟩,
 ⟨.len false (.t 86), some 87, none⟩,
 ⟨.bin .lss .plain (.t 84) (.t 87), some 88, none⟩])
 (.keep [1, 6, 88] (.cond (.t 88)
 (.skip)
 (.exit 4))))
 (.keep [1, 6] (.seq (.block 5 (.seq (.reg true [] [
 ⟨.load true J3 (.t 1), some 91, none⟩,
 ⟨.faddr 4 (.t 1), some 92, none⟩,
 ⟨.load false (.l J4) (.t 92), some 93, none⟩,
 ⟨.mv (.t 6), some 94, none⟩,
 ⟨.iaddr J4 (.t 93) (.t 94), some 95, none⟩,
 ⟨.load true J4 (.t 95), some 96, none⟩,
 ⟨.call J1m [(.t 91), (.t 96)] 0, some 97, none⟩,
 ⟨.un .not (.t 97), some 98, none⟩])
 (.keep [1, 6, 98] (.cond (.t 98)
 (.seq (.reg false [] [
 ⟨.mv (.c (vb false)), some 2, none⟩])
 (.ret))
 (.skip)))))
 (.keep [1, 6] (.reg false [] [
 ⟨.mv (.t 6), some 89, none⟩,
 ⟨.bin .add .plain (.t 89) (.c (vi .i64 1)), some 90, none⟩,
 ⟨.mv (.t 90), some 6, none⟩])))))))))
 (.keep [] (.seq (.reg false [] [
 ⟨.mv (.c (vb true)), some 2, none⟩])
 (.ret)))))))))))))
def J63 : TFn := ⟨1, 99, JgS, [.tmp 2], false⟩
def Jfd : TCo := .seq (.reg false [] [
 ⟨.box J3 (.t 0), some 2, none⟩,
 ⟨.box J4 (.t 1), some 3, none⟩,
 ⟨.newboxo J3 [(4, J4)], some 4, none⟩,
 ⟨.mv (.c (vi .i64 0)), some 5, none⟩])
 (.keep [2, 3, 4] (.seq (.block 0 (.seq (.reg false [] [
 ⟨.load true J3 (.t 2), some 8, none⟩,
 ⟨.call J16 [(.t 8)] 0, some 9, none⟩,
 ⟨.un .not (.t 9), some 10, none⟩,
 ⟨.mv (.t 10), some 7, none⟩])
 (.keep [2, 3, 4, 7] (.cond (.t 7)
 (.seq (.reg false [] [
 ⟨.buildo J3 [] [(4, J4)], some 11, none⟩,
 ⟨.store J3 (.t 4) (.t 11), none, none⟩,
 ⟨.mv (.c (vi .i64 15)), some 5, none⟩])
 (.ret))
 (.seq (.reg false [] [
 ⟨.load true J3 (.t 2), some 13, none⟩,
 ⟨.load true J4 (.t 3), some 14, none⟩,
 ⟨.call J1m [(.t 13), (.t 14)] 0, some 15, none⟩,
 ⟨.un .not (.t 15), some 16, none⟩,
 ⟨.mv (.t 16), some 12, none⟩])
 (.keep [2, 3, 4, 12] (.cond (.t 12)
 (.seq (.reg false [] [
 ⟨.buildo J3 [] [(4, J4)], some 17, none⟩,
 ⟨.store J3 (.t 4) (.t 17), none, none⟩,
 ⟨.mv (.c (vi .i64 1)), some 5, none⟩])
 (.ret))
 (.seq (.reg false [] [
 ⟨.faddr 4 (.t 2), some 19, none⟩,
 ⟨.load false (.l J4) (.t 19), some 20, none⟩,
 ⟨.len false (.t 20), some 21, none⟩,
 ⟨.bin .eql .plain (.t 21) (.c (vi .i64 64)), some 22, none⟩,
 ⟨.mv (.t 22), some 18, none⟩])
 (.keep [2, 3, 4, 18] (.cond (.t 18)
 (.seq (.reg false [] [
 ⟨.buildo J3 [] [(4, J4)], some 23, none⟩,
 ⟨.store J3 (.t 4) (.t 23), none, none⟩,
 ⟨.mv (.c (vi .i64 21)), some 5, none⟩])
 (.ret))
 (.skip)))))))))))
 (.keep [2, 3, 4] (.seq (.reg false [] [
 ⟨.load true J3 (.t 2), some 24, none⟩,
 ⟨.callo J0k [((.t 24), false)] 2, some 25, none⟩,
 ⟨.newboxo J3 [(4, J4)], some 6, none⟩,
 ⟨.store J3 (.t 6) (.t 25), none, none⟩])
 (.keep [3, 4, 6] (.seq (.reg false [] [
 ⟨.faddr 4 (.t 6), some 26, none⟩,
 ⟨.load false (.l J4) (.t 26), some 27, none⟩,
 ⟨.load true J4 (.t 3), some 28, none⟩,
 ⟨.lits false J4 1 [(0, (.t 28))], some 29, none⟩,
 ⟨.app J4 48 (.t 27) (.t 29), some 30, none⟩,
 ⟨.faddr 4 (.t 6), some 31, none⟩,
 ⟨.store (.l J4) (.t 31) (.t 30), none, none⟩])
 (.keep [4, 6] (.seq (.reg false [] [
 ⟨.load true J3 (.t 6), some 32, none⟩,
 ⟨.store J3 (.t 4) (.t 32), none, none⟩,
 ⟨.mv (.c (vi .i64 0)), some 5, none⟩])
 (.ret)))))))))
def J5q : TFn := ⟨2, 33, Jfd, [.cell 4 true J3, .tmp 5], false⟩
def JfE : TCo := .seq (.reg false [] [
 ⟨.mv (.c (vl .s [])), some 2, none⟩])
 (.keep [0] (.seq (.reg false [] [
 ⟨.mkarr .s (.c (vl .s [])), some 3, none⟩])
 (.keep [0, 3] (.seq (.seq (.reg false [] [
 ⟨.mv (.c (vi .i64 0)), some 4, none⟩])
 (.keep [0, 3, 4] (.block 0 (.loop [0, 3, 4] (.seq (.seq (.reg false [] [
 ⟨.mv (.t 4), some 5, none⟩,
 ⟨.mv (.t 0), some 6, none⟩,
 ⟨.bin .lss .plain (.t 5) (.t 6), some 7, none⟩])
 (.keep [0, 3, 4, 7] (.cond (.t 7)
 (.skip)
 (.exit 0))))
 (.keep [0, 3, 4] (.seq (.block 1 (.reg false [] [
 ⟨.mv (.t 3), some 10, none⟩,
 ⟨.mkslice false (.i .u8) 1 (.c (vi .i64 256)) (.c (vi .i64 256)), some 11, none⟩,
 ⟨.conv .toStr (.t 11), some 12, none⟩,
 ⟨.lits false .s 1 [(0, (.t 12))], some 13, none⟩,
 ⟨.app .s 16 (.t 10) (.t 13), some 14, none⟩,
 ⟨.mv (.t 14), some 3, none⟩]))
 (.keep [0, 3, 4] (.reg false [] [
 ⟨.mv (.t 4), some 8, none⟩,
 ⟨.bin .add .plain (.t 8) (.c (vi .i64 1)), some 9, none⟩,
 ⟨.mv (.t 9), some 4, none⟩])))))))))
 (.keep [3] (.seq (.reg false [] [
 ⟨.mv (.t 3), some 15, none⟩,
 ⟨.mv (.t 15), some 2, none⟩])
 (.ret)))))))
def J5v : TFn := ⟨1, 16, JfE, [.tmp 2], false⟩
def Jk4 : TCo := .seq (.reg false [] [
 ⟨.newbox J3, some 2, none⟩,
 ⟨.mv (.c (vi .i64 0)), some 3, none⟩])
 (.keep [0, 2] (.seq (.seq (.reg false [] [
 ⟨.mv (.t 0), some 4, none⟩,
 ⟨.bin .lss .plain (.t 4) (.c (vi .i64 1)), some 5, none⟩,
 ⟨.mv (.t 5), some 6, none⟩,
 ⟨.mv (.t 0), some 7, some (6, false)⟩,
 ⟨.bin .gtr .plain (.t 7) (.c (vi .i64 64)), some 8, some (6, false)⟩,
 ⟨.pick (.t 6) (.c (vb true)) (.t 8), some 9, none⟩])
 (.keep [0, 2, 9] (.cond (.t 9)
 (.seq (.reg false [] [
 ⟨.build J3 [], some 10, none⟩,
 ⟨.store J3 (.t 2) (.t 10), none, none⟩,
 ⟨.mv (.c (vi .i64 1)), some 3, none⟩])
 (.ret))
 (.skip))))
 (.keep [0, 2] (.seq (.reg false [] [
 ⟨.mv (.t 0), some 11, none⟩,
 ⟨.call J1Q [(.t 11)] 0, some 12, none⟩,
 ⟨.build J3 [(0, (.l .s), (.t 12))], some 13, none⟩,
 ⟨.store J3 (.t 2) (.t 13), none, none⟩,
 ⟨.mv (.c (vi .i64 0)), some 3, none⟩])
 (.ret)))))
def J7u : TFn := ⟨1, 14, Jk4, [.cell 2 true J3, .tmp 3], false⟩
def JjI : TCo := .seq (.reg false [] [
 ⟨.mv (.c (vb false)), some 4, none⟩])
 (.keep [0, 1] (.seq (.seq (.reg false [] [
 ⟨.mv (.c (vi .i64 0)), some 5, none⟩])
 (.keep [0, 1, 5] (.block 0 (.loop [0, 1, 5] (.seq (.seq (.reg false [] [
 ⟨.mv (.t 5), some 6, none⟩,
 ⟨.mv (.t 0), some 7, none⟩,
 ⟨.len false (.t 7), some 8, none⟩,
 ⟨.bin .lss .plain (.t 6) (.t 8), some 9, none⟩])
 (.keep [0, 1, 5, 9] (.cond (.t 9)
 (.skip)
 (.exit 0))))
 (.keep [0, 1, 5] (.seq (.block 1 (.seq (.reg false [] [
 ⟨.mv (.t 0), some 12, none⟩,
 ⟨.mv (.t 5), some 13, none⟩,
 ⟨.iaddr (.i .i64) (.t 12) (.t 13), some 14, none⟩,
 ⟨.load false (.i .i64) (.t 14), some 15, none⟩,
 ⟨.mv (.t 1), some 16, none⟩,
 ⟨.bin .eql .plain (.t 15) (.t 16), some 17, none⟩])
 (.keep [0, 1, 5, 17] (.cond (.t 17)
 (.seq (.reg false [] [
 ⟨.mv (.c (vb true)), some 4, none⟩])
 (.ret))
 (.skip)))))
 (.keep [0, 1, 5] (.reg false [] [
 ⟨.mv (.t 5), some 10, none⟩,
 ⟨.bin .add .plain (.t 10) (.c (vi .i64 1)), some 11, none⟩,
 ⟨.mv (.t 11), some 5, none⟩])))))))))
 (.keep [] (.seq (.reg false [] [
 ⟨.mv (.c (vb false)), some 4, none⟩])
 (.ret)))))
def J7o : TFn := ⟨2, 18, JjI, [.tmp 4], false⟩
def JeY : TCo := .seq (.reg false [] [
 ⟨.box J3 (.t 0), some 2, none⟩,
 ⟨.mv (.c (vi .i64 0)), some 4, none⟩])
 (.keep [1, 2] (.seq (.block 0 (.seq (.reg false [] [
 ⟨.load true J3 (.t 2), some 6, none⟩,
 ⟨.call J16 [(.t 6)] 0, some 7, none⟩,
 ⟨.un .not (.t 7), some 8, none⟩,
 ⟨.mv (.t 8), some 5, none⟩])
 (.keep [1, 2, 5] (.cond (.t 5)
 (.seq (.reg false [] [
 ⟨.mv (.c (vi .i64 15)), some 4, none⟩])
 (.ret))
 (.seq (.reg false [] [
 ⟨.faddr 3 (.t 2), some 10, none⟩,
 ⟨.load false .b (.t 10), some 11, none⟩,
 ⟨.mv (.t 11), some 9, none⟩])
 (.keep [1, 2, 9] (.cond (.t 9)
 (.seq (.reg false [] [
 ⟨.mv (.c (vi .i64 10)), some 4, none⟩])
 (.ret))
 (.seq (.reg false [] [
 ⟨.mv (.t 1), some 13, none⟩,
 ⟨.bin .lss .plain (.t 13) (.c (vi .i64 0)), some 14, none⟩,
 ⟨.mv (.t 14), some 15, none⟩,
 ⟨.mv (.t 1), some 16, some (15, false)⟩,
 ⟨.faddr 0 (.t 2), some 17, some (15, false)⟩,
 ⟨.load false (.l .s) (.t 17), some 18, some (15, false)⟩,
 ⟨.len false (.t 18), some 19, some (15, false)⟩,
 ⟨.bin .geq .plain (.t 16) (.t 19), some 20, some (15, false)⟩,
 ⟨.pick (.t 15) (.c (vb true)) (.t 20), some 21, none⟩,
 ⟨.mv (.t 21), some 12, none⟩])
 (.keep [12] (.cond (.t 12)
 (.seq (.reg false [] [
 ⟨.mv (.c (vi .i64 1)), some 4, none⟩])
 (.ret))
 (.skip)))))))))))
 (.keep [] (.seq (.reg false [] [
 ⟨.mv (.c (vi .i64 0)), some 4, none⟩])
 (.ret)))))
def J5j : TFn := ⟨2, 22, JeY, [.tmp 4], false⟩
def Jj9 : TCo := .seq (.reg false [] [
 ⟨.box J3 (.t 0), some 2, none⟩,
 ⟨.mv (.c (vs [])), some 4, none⟩,
 ⟨.mv (.c (vi .i64 0)), some 5, none⟩])
 (.keep [1, 2] (.seq (.seq (.reg false [] [
 ⟨.load true J3 (.t 2), some 7, none⟩,
 ⟨.mv (.t 1), some 8, none⟩,
 ⟨.call J0R [(.t 7), (.t 8)] 0, some 9, none⟩,
 ⟨.mv (.t 9), some 6, none⟩])
 (.keep [1, 2, 6] (.seq (.reg false [] [
 ⟨.mv (.t 6), some 10, none⟩,
 ⟨.bin .neq .plain (.t 10) (.c (vi .i64 0)), some 11, none⟩])
 (.keep [1, 2, 6, 11] (.cond (.t 11)
 (.seq (.reg false [] [
 ⟨.mv (.t 6), some 12, none⟩,
 ⟨.mv (.c (vs [])), some 4, none⟩,
 ⟨.mv (.t 12), some 5, none⟩])
 (.ret))
 (.skip))))))
 (.keep [1, 2] (.seq (.seq (.reg false [] [
 ⟨.faddr 2 (.t 2), some 13, none⟩,
 ⟨.load false (.l (.i .i64)) (.t 13), some 14, none⟩,
 ⟨.mv (.t 1), some 15, none⟩,
 ⟨.call J3L [(.t 14), (.t 15)] 0, some 16, none⟩])
 (.keep [1, 2, 16] (.cond (.t 16)
 (.seq (.reg false [] [
 ⟨.mv (.c (vs [])), some 4, none⟩,
 ⟨.mv (.c (vi .i64 11)), some 5, none⟩])
 (.ret))
 (.skip))))
 (.keep [1, 2] (.seq (.reg false [] [
 ⟨.faddr 0 (.t 2), some 17, none⟩,
 ⟨.load false (.l .s) (.t 17), some 18, none⟩,
 ⟨.mv (.t 1), some 19, none⟩,
 ⟨.iaddr .s (.t 18) (.t 19), some 20, none⟩,
 ⟨.load false .s (.t 20), some 21, none⟩,
 ⟨.mv (.t 21), some 4, none⟩,
 ⟨.mv (.c (vi .i64 0)), some 5, none⟩])
 (.ret)))))))
def J6K : TFn := ⟨2, 22, Jj9, [.tmp 4, .tmp 5], false⟩
def JeD : TCo := .seq (.reg false [] [
 ⟨.mv (.c (vl (.i .i64) [])), some 4, none⟩])
 (.keep [0, 1] (.seq (.reg false [] [
 ⟨.mkarr (.i .i64) (.c (vl (.i .i64) [])), some 5, none⟩])
 (.keep [0, 1, 5] (.seq (.seq (.reg false [] [
 ⟨.mv (.c (vi .i64 0)), some 6, none⟩])
 (.keep [0, 1, 5, 6] (.block 0 (.loop [0, 1, 5, 6] (.seq (.seq (.reg false [] [
 ⟨.mv (.t 6), some 7, none⟩,
 ⟨.mv (.t 0), some 8, none⟩,
 ⟨.len false (.t 8), some 9, none⟩,
 ⟨.bin .lss .plain (.t 7) (.t 9), some 10, none⟩])
 (.keep [0, 1, 5, 6, 10] (.cond (.t 10)
 (.skip)
 (.exit 0))))
 (.keep [0, 1, 5, 6] (.seq (.block 1 (.seq (.reg false [] [
 ⟨.mv (.t 0), some 13, none⟩,
 ⟨.mv (.t 6), some 14, none⟩,
 ⟨.iaddr (.i .i64) (.t 13) (.t 14), some 15, none⟩,
 ⟨.load false (.i .i64) (.t 15), some 16, none⟩,
 ⟨.mv (.t 1), some 17, none⟩,
 ⟨.bin .neq .plain (.t 16) (.t 17), some 18, none⟩])
 (.keep [0, 1, 5, 6, 18] (.cond (.t 18)
 (.reg false [] [
 ⟨.mv (.t 5), some 19, none⟩,
 ⟨.mv (.t 0), some 20, none⟩,
 ⟨.mv (.t 6), some 21, none⟩,
 ⟨.iaddr (.i .i64) (.t 20) (.t 21), some 22, none⟩,
 ⟨.load false (.i .i64) (.t 22), some 23, none⟩,
 ⟨.lits false (.i .i64) 1 [(0, (.t 23))], some 24, none⟩,
 ⟨.app (.i .i64) 8 (.t 19) (.t 24), some 25, none⟩,
 ⟨.mv (.t 25), some 5, none⟩])
 (.skip)))))
 (.keep [0, 1, 5, 6] (.reg false [] [
 ⟨.mv (.t 6), some 11, none⟩,
 ⟨.bin .add .plain (.t 11) (.c (vi .i64 1)), some 12, none⟩,
 ⟨.mv (.t 12), some 6, none⟩])))))))))
 (.keep [5] (.seq (.reg false [] [
 ⟨.mv (.t 5), some 26, none⟩,
 ⟨.mv (.t 26), some 4, none⟩])
 (.ret)))))))
def J4J : TFn := ⟨2, 27, JeD, [.tmp 4], false⟩
def JgJ : TCo := .seq (.reg false [] [
 ⟨.box J3 (.t 0), some 4, none⟩,
 ⟨.newbox J3, some 8, none⟩])
 (.keep [1, 2, 3, 4, 8] (.seq (.reg true [] [
 ⟨.faddr 0 (.t 4), some 9, none⟩,
 ⟨.load false (.l .s) (.t 9), some 10, none⟩,
 ⟨.mv (.t 1), some 11, none⟩,
 ⟨.mv (.t 2), some 12, none⟩,
 ⟨.mv (.t 3), some 13, none⟩,
 ⟨.slice .str (.t 12) none (some (.t 13)) none, some 14, none⟩,
 ⟨.faddr 0 (.t 4), some 15, none⟩,
 ⟨.load false (.l .s) (.t 15), some 16, none⟩,
 ⟨.mv (.t 1), some 17, none⟩,
 ⟨.iaddr .s (.t 16) (.t 17), some 18, none⟩,
 ⟨.load false .s (.t 18), some 19, none⟩,
 ⟨.mv (.t 3), some 20, none⟩,
 ⟨.slice .str (.t 19) (some (.t 20)) none none, some 21, none⟩,
 ⟨.bin .add .plain (.t 14) (.t 21), some 22, none⟩,
 ⟨.iaddr .s (.t 10) (.t 11), some 23, none⟩,
 ⟨.store .s (.t 23) (.t 22), none, none⟩])
 (.keep [1, 4, 8] (.seq (.reg false [] [
 ⟨.faddr 2 (.t 4), some 24, none⟩,
 ⟨.load false (.l (.i .i64)) (.t 24), some 25, none⟩,
 ⟨.mv (.t 1), some 26, none⟩,
 ⟨.call J29 [(.t 25), (.t 26)] 0, some 27, none⟩,
 ⟨.faddr 2 (.t 4), some 28, none⟩,
 ⟨.store (.l (.i .i64)) (.t 28) (.t 27), none, none⟩])
 (.keep [4, 8] (.seq (.reg false [] [
 ⟨.load true J3 (.t 4), some 29, none⟩,
 ⟨.store J3 (.t 8) (.t 29), none, none⟩])
 (.ret)))))))
def J64 : TFn := ⟨4, 30, JgJ, [.cell 8 true J3], true⟩
def Jj8 : TCo := .seq (.reg false [] [
 ⟨.mv (.c (vl (.i .i64) [])), some 4, none⟩])
 (.keep [0, 1] (.seq (.reg false [] [
 ⟨.mkarr (.i .i64) (.c (vl (.i .i64) [])), some 5, none⟩])
 (.keep [0, 1, 5] (.seq (.reg false [] [
 ⟨.mv (.c (vb false)), some 6, none⟩])
 (.keep [0, 1, 5, 6] (.seq (.seq (.reg false [] [
 ⟨.mv (.c (vi .i64 0)), some 7, none⟩])
 (.keep [0, 1, 5, 6, 7] (.block 0 (.loop [0, 1, 5, 6, 7] (.seq (.seq (.reg false [] [
 ⟨.mv (.t 7), some 8, none⟩,
 ⟨.mv (.t 0), some 9, none⟩,
 ⟨.len false (.t 9), some 10, none⟩,
 ⟨.bin .lss .plain (.t 8) (.t 10), some 11, none⟩])
 (.keep [0, 1, 5, 6, 7, 11] (.cond (.t 11)
 (.skip)
 (.exit 0))))
 (.keep [0, 1, 5, 6, 7] (.seq (.block 1 (.seq (.seq (.reg false [] [
 ⟨.mv (.t 6), some 14, none⟩,
 ⟨.un .not (.t 14), some 15, none⟩,
 ⟨.mv (.t 15), some 16, none⟩,
 ⟨.mv (.t 0), some 17, some (16, true)⟩,
 ⟨.mv (.t 7), some 18, some (16, true)⟩,
 ⟨.iaddr (.i .i64) (.t 17) (.t 18), some 19, some (16, true)⟩,
 ⟨.load false (.i .i64) (.t 19), some 20, some (16, true)⟩,
 ⟨.mv (.t 1), some 21, some (16, true)⟩,
 ⟨.bin .geq .plain (.t 20) (.t 21), some 22, some (16, true)⟩,
 ⟨.pick (.t 16) (.t 22) (.c (vb false)), some 23, none⟩])
 (.keep [0, 1, 5, 6, 7, 23] (.cond (.t 23)
 (.seq (.reg false [] [
 ⟨.mv (.t 5), some 24, none⟩,
 ⟨.mv (.t 1), some 25, none⟩,
 ⟨.lits false (.i .i64) 1 [(0, (.t 25))], some 26, none⟩,
 ⟨.app (.i .i64) 8 (.t 24) (.t 26), some 27, none⟩,
 ⟨.mv (.t 27), some 5, none⟩])
 (.keep [0, 1, 5, 7] (.reg false [] [
 ⟨.mv (.c (vb true)), some 6, none⟩])))
 (.skip))))
 (.keep [0, 1, 5, 6, 7] (.seq (.reg false [] [
 ⟨.mv (.t 0), some 28, none⟩,
 ⟨.mv (.t 7), some 29, none⟩,
 ⟨.iaddr (.i .i64) (.t 28) (.t 29), some 30, none⟩,
 ⟨.load false (.i .i64) (.t 30), some 31, none⟩,
 ⟨.mv (.t 1), some 32, none⟩,
 ⟨.bin .neq .plain (.t 31) (.t 32), some 33, none⟩])
 (.keep [0, 1, 5, 6, 7, 33] (.cond (.t 33)
 (.reg false [] [
 ⟨.mv (.t 5), some 34, none⟩,
 ⟨.mv (.t 0), some 35, none⟩,
 ⟨.mv (.t 7), some 36, none⟩,
 ⟨.iaddr (.i .i64) (.t 35) (.t 36), some 37, none⟩,
 ⟨.load false (.i .i64) (.t 37), some 38, none⟩,
 ⟨.lits false (.i .i64) 1 [(0, (.t 38))], some 39, none⟩,
 ⟨.app (.i .i64) 8 (.t 34) (.t 39), some 40, none⟩,
 ⟨.mv (.t 40), some 5, none⟩])
 (.skip)))))))
 (.keep [0, 1, 5, 6, 7] (.reg false [] [
 ⟨.mv (.t 7), some 12, none⟩,
 ⟨.bin .add .plain (.t 12) (.c (vi .i64 1)), some 13, none⟩,
 ⟨.mv (.t 13), some 7, none⟩])))))))))
 (.keep [1, 5, 6] (.seq (.seq (.reg false [] [
 ⟨.mv (.t 6), some 41, none⟩,
 ⟨.un .not (.t 41), some 42, none⟩])
 (.keep [1, 5, 42] (.cond (.t 42)
 (.reg false [] [
 ⟨.mv (.t 5), some 43, none⟩,
 ⟨.mv (.t 1), some 44, none⟩,
 ⟨.lits false (.i .i64) 1 [(0, (.t 44))], some 45, none⟩,
 ⟨.app (.i .i64) 8 (.t 43) (.t 45), some 46, none⟩,
 ⟨.mv (.t 46), some 5, none⟩])
 (.skip))))
 (.keep [5] (.seq (.reg false [] [
 ⟨.mv (.t 5), some 47, none⟩,
 ⟨.mv (.t 47), some 4, none⟩])
 (.ret)))))))))))
def J6E : TFn := ⟨2, 48, Jj8, [.tmp 4], false⟩
def JgP : TCo := .seq (.reg false [] [
 ⟨.box J3 (.t 0), some 3, none⟩,
 ⟨.newboxo J3 [(4, J4)], some 6, none⟩,
 ⟨.mv (.c (vi .i64 0)), some 7, none⟩])
 (.keep [1, 2, 3, 6] (.seq (.seq (.reg false [] [
 ⟨.load true J3 (.t 3), some 17, none⟩,
 ⟨.mv (.t 1), some 18, none⟩,
 ⟨.call J0R [(.t 17), (.t 18)] 0, some 19, none⟩,
 ⟨.mv (.t 19), some 8, none⟩])
 (.keep [1, 2, 3, 6, 8] (.seq (.reg false [] [
 ⟨.mv (.t 8), some 20, none⟩,
 ⟨.bin .neq .plain (.t 20) (.c (vi .i64 0)), some 21, none⟩])
 (.keep [1, 2, 3, 6, 8, 21] (.cond (.t 21)
 (.seq (.reg false [] [
 ⟨.buildo J3 [] [(4, J4)], some 22, none⟩,
 ⟨.mv (.t 8), some 23, none⟩,
 ⟨.store J3 (.t 6) (.t 22), none, none⟩,
 ⟨.mv (.t 23), some 7, none⟩])
 (.ret))
 (.skip))))))
 (.keep [1, 2, 3, 6] (.seq (.seq (.reg false [] [
 ⟨.mv (.t 2), some 24, none⟩,
 ⟨.len true (.t 24), some 25, none⟩,
 ⟨.bin .neq .plain (.t 25) (.c (vi .i64 256)), some 26, none⟩])
 (.keep [1, 2, 3, 6, 26] (.cond (.t 26)
 (.seq (.reg false [] [
 ⟨.buildo J3 [] [(4, J4)], some 27, none⟩,
 ⟨.store J3 (.t 6) (.t 27), none, none⟩,
 ⟨.mv (.c (vi .i64 2)), some 7, none⟩])
 (.ret))
 (.skip))))
 (.keep [1, 2, 3, 6] (.seq (.seq (.reg false [] [
 ⟨.faddr 1 (.t 3), some 28, none⟩,
 ⟨.load false (.i .i64) (.t 28), some 29, none⟩,
 ⟨.bin .eql .plain (.t 29) (.c (vi .i64 1099511627776)), some 30, none⟩])
 (.keep [1, 2, 3, 6, 30] (.cond (.t 30)
 (.seq (.reg false [] [
 ⟨.buildo J3 [] [(4, J4)], some 31, none⟩,
 ⟨.store J3 (.t 6) (.t 31), none, none⟩,
 ⟨.mv (.c (vi .i64 21)), some 7, none⟩])
 (.ret))
 (.skip))))
 (.keep [1, 2, 3, 6] (.seq (.reg false [] [
 ⟨.load true J3 (.t 3), some 32, none⟩,
 ⟨.callo J0k [((.t 32), false)] 2, some 33, none⟩,
 ⟨.newboxo J3 [(4, J4)], some 9, none⟩,
 ⟨.store J3 (.t 9) (.t 33), none, none⟩])
 (.keep [1, 2, 3, 6, 9] (.seq (.reg false [] [
 ⟨.faddr 1 (.t 9), some 34, none⟩,
 ⟨.load false (.i .i64) (.t 34), some 35, none⟩,
 ⟨.bin .add .plain (.t 35) (.c (vi .i64 1)), some 36, none⟩,
 ⟨.faddr 1 (.t 9), some 37, none⟩,
 ⟨.store (.i .i64) (.t 37) (.t 36), none, none⟩])
 (.keep [1, 2, 3, 6, 9] (.seq (.reg false [] [
 ⟨.mkarr J4 (.c (vl J4 [])), some 10, none⟩])
 (.keep [1, 2, 3, 6, 9, 10] (.seq (.reg false [] [
 ⟨.faddr 4 (.t 9), some 38, none⟩,
 ⟨.storen J4 (.t 38), none, none⟩])
 (.keep [1, 2, 3, 6, 9, 10] (.seq (.seq (.reg false [] [
 ⟨.mv (.c (vi .i64 0)), some 11, none⟩])
 (.keep [1, 2, 3, 6, 9, 10, 11] (.block 0 (.loop [1, 2, 3, 6, 9, 10, 11] (.seq (.seq (.reg false [] [
 ⟨.mv (.t 11), some 39, none⟩,
 ⟨.faddr 4 (.t 3), some 40, none⟩,
 ⟨.load false (.l J4) (.t 40), some 41, none⟩,
 ⟨.len false (.t 41), some 42, none⟩,
 ⟨.bin .lss .plain (.t 39) (.t 42), some 43, none⟩])
 (.keep [1, 2, 3, 6, 9, 10, 11, 43] (.cond (.t 43)
 (.skip)
 (.exit 0))))
 (.keep [1, 2, 3, 6, 9, 10, 11] (.seq (.block 1 (.seq (.reg true [] [
 ⟨.faddr 4 (.t 3), some 46, none⟩,
 ⟨.load false (.l J4) (.t 46), some 47, none⟩,
 ⟨.mv (.t 11), some 48, none⟩,
 ⟨.iaddr J4 (.t 47) (.t 48), some 49, none⟩,
 ⟨.faddr 1 (.t 49), some 50, none⟩,
 ⟨.load false (.i .i64) (.t 50), some 51, none⟩,
 ⟨.faddr 1 (.t 9), some 52, none⟩,
 ⟨.load false (.i .i64) (.t 52), some 53, none⟩,
 ⟨.bin .eql .plain (.t 51) (.t 53), some 54, none⟩])
 (.keep [1, 2, 3, 6, 9, 10, 11, 54] (.cond (.t 54)
 (.reg false [] [
 ⟨.mv (.t 10), some 55, none⟩,
 ⟨.faddr 4 (.t 3), some 56, none⟩,
 ⟨.load false (.l J4) (.t 56), some 57, none⟩,
 ⟨.mv (.t 11), some 58, none⟩,
 ⟨.iaddr J4 (.t 57) (.t 58), some 59, none⟩,
 ⟨.load true J4 (.t 59), some 60, none⟩,
 ⟨.lits false J4 1 [(0, (.t 60))], some 61, none⟩,
 ⟨.app J4 48 (.t 55) (.t 61), some 62, none⟩,
 ⟨.mv (.t 62), some 10, none⟩])
 (.reg true [(1, 7)] [
 ⟨.faddr 4 (.t 9), some 63, none⟩,
 ⟨.load false (.l J4) (.t 63), some 64, none⟩,
 ⟨.faddr 4 (.t 3), some 65, none⟩,
 ⟨.load false (.l J4) (.t 65), some 66, none⟩,
 ⟨.mv (.t 11), some 67, none⟩,
 ⟨.iaddr J4 (.t 66) (.t 67), some 68, none⟩,
 ⟨.load true J4 (.t 68), some 69, none⟩,
 ⟨.lits false J4 1 [(0, (.t 69))], some 70, none⟩,
 ⟨.app J4 48 (.t 64) (.t 70), some 71, none⟩,
 ⟨.faddr 4 (.t 9), some 72, none⟩,
 ⟨.store (.l J4) (.t 72) (.t 71), none, none⟩])))))
 (.keep [1, 2, 3, 6, 9, 10, 11] (.reg false [] [
 ⟨.mv (.t 11), some 44, none⟩,
 ⟨.bin .add .plain (.t 44) (.c (vi .i64 1)), some 45, none⟩,
 ⟨.mv (.t 45), some 11, none⟩])))))))))
 (.keep [1, 2, 6, 9, 10] (.seq (.reg false [] [
 ⟨.mv (.c (vb false)), some 12, none⟩])
 (.keep [1, 2, 6, 9, 10, 12] (.seq (.seq (.reg false [] [
 ⟨.mv (.c (vi .i64 0)), some 13, none⟩])
 (.keep [1, 2, 6, 9, 10, 12, 13] (.block 2 (.loop [1, 2, 6, 9, 10, 12, 13] (.seq (.seq (.reg false [] [
 ⟨.mv (.t 13), some 73, none⟩,
 ⟨.mv (.t 10), some 74, none⟩,
 ⟨.len false (.t 74), some 75, none⟩,
 ⟨.bin .lss .plain (.t 73) (.t 75), some 76, none⟩,
 ⟨.mv (.t 76), some 77, none⟩,
 ⟨.mv (.t 12), some 78, some (77, true)⟩,
 ⟨.un .not (.t 78), some 79, some (77, true)⟩,
 ⟨.pick (.t 77) (.t 79) (.c (vb false)), some 80, none⟩])
 (.keep [1, 2, 6, 9, 10, 12, 13, 80] (.cond (.t 80)
 (.skip)
 (.exit 2))))
 (.keep [1, 2, 6, 9, 10, 12, 13] (.seq (.block 3 (.seq (.reg false [] [
 ⟨.mv (.t 10), some 83, none⟩,
 ⟨.mv (.t 13), some 84, none⟩,
 ⟨.iaddr J4 (.t 83) (.t 84), some 85, none⟩,
 ⟨.faddr 0 (.t 85), some 86, none⟩,
 ⟨.load false (.i .i64) (.t 86), some 87, none⟩])
 (.keep [1, 2, 6, 9, 10, 12, 13, 87] (.block 4 (.seq (.reg false [] [
 ⟨.bin .eql .plain (.t 87) (.c (vi .i64 1)), some 89, none⟩,
 ⟨.mv (.t 89), some 88, none⟩])
 (.keep [1, 2, 6, 9, 10, 12, 13, 87, 88] (.cond (.t 88)
 (.reg false [] [
 ⟨.mv (.c (vb true)), some 12, none⟩])
 (.seq (.reg false [] [
 ⟨.bin .eql .plain (.t 87) (.c (vi .i64 2)), some 91, none⟩,
 ⟨.mv (.t 91), some 90, none⟩])
 (.keep [1, 2, 6, 9, 10, 12, 13, 87, 90] (.cond (.t 90)
 (.seq (.reg true [] [
 ⟨.load true J3 (.t 9), some 92, none⟩,
 ⟨.mv (.t 10), some 93, none⟩,
 ⟨.mv (.t 13), some 94, none⟩,
 ⟨.iaddr J4 (.t 93) (.t 94), some 95, none⟩,
 ⟨.faddr 3 (.t 95), some 96, none⟩,
 ⟨.load false (.i .i64) (.t 96), some 97, none⟩,
 ⟨.mv (.t 2), some 98, none⟩,
 ⟨.callo J1k [((.t 92), true), ((.t 97), false), ((.t 98), false), ((.c (vi .i64 256)), false)] 0, some 99, none⟩,
 ⟨.store J3 (.t 9) (.t 99), none, none⟩])
 (.keep [1, 2, 6, 9, 10, 13] (.reg false [] [
 ⟨.mv (.c (vb true)), some 12, none⟩])))
 (.seq (.reg false [] [
 ⟨.bin .eql .plain (.t 87) (.c (vi .i64 3)), some 101, none⟩,
 ⟨.mv (.t 101), some 100, none⟩])
 (.keep [1, 2, 6, 9, 10, 12, 13, 100] (.cond (.t 100)
 (.seq (.reg true [] [
 ⟨.load true J3 (.t 9), some 102, none⟩,
 ⟨.mv (.t 1), some 103, none⟩,
 ⟨.mv (.t 2), some 104, none⟩,
 ⟨.mv (.t 10), some 105, none⟩,
 ⟨.mv (.t 13), some 106, none⟩,
 ⟨.iaddr J4 (.t 105) (.t 106), some 107, none⟩,
 ⟨.faddr 4 (.t 107), some 108, none⟩,
 ⟨.load false (.i .i64) (.t 108), some 109, none⟩,
 ⟨.callo J1k [((.t 102), true), ((.t 103), false), ((.t 104), false), ((.t 109), false)] 0, some 110, none⟩,
 ⟨.store J3 (.t 9) (.t 110), none, none⟩])
 (.keep [1, 2, 6, 9, 10, 13] (.reg false [] [
 ⟨.mv (.c (vb true)), some 12, none⟩])))
 (.skip))))))))))))))
 (.keep [1, 2, 6, 9, 10, 12, 13] (.reg false [] [
 ⟨.mv (.t 13), some 81, none⟩,
 ⟨.bin .add .plain (.t 81) (.c (vi .i64 1)), some 82, none⟩,
 ⟨.mv (.t 82), some 13, none⟩])))))))))
 (.keep [1, 2, 6, 9, 10, 12] (.seq (.seq (.reg false [] [
 ⟨.mv (.t 12), some 111, none⟩,
 ⟨.un .not (.t 111), some 112, none⟩])
 (.keep [1, 2, 6, 9, 10, 112] (.cond (.t 112)
 (.reg false [] [
 ⟨.load true J3 (.t 9), some 113, none⟩,
 ⟨.mv (.t 1), some 114, none⟩,
 ⟨.mv (.t 2), some 115, none⟩,
 ⟨.callo J1k [((.t 113), true), ((.t 114), false), ((.t 115), false), ((.c (vi .i64 256)), false)] 0, some 116, none⟩,
 ⟨.store J3 (.t 9) (.t 116), none, none⟩])
 (.skip))))
 (.keep [6, 9, 10] (.seq (.tidy [6, 7, 9] (.seq (.reg false [] [
 ⟨.mv (.c (vi .i64 0)), some 14, none⟩])
 (.keep [6, 9, 10, 14] (.block 5 (.loop [6, 9, 10, 14] (.seq (.seq (.reg false [] [
 ⟨.mv (.t 14), some 117, none⟩,
 ⟨.mv (.t 10), some 118, none⟩,
 ⟨.len false (.t 118), some 119, none⟩,
 ⟨.bin .lss .plain (.t 117) (.t 119), some 120, none⟩])
 (.keep [6, 9, 10, 14, 120] (.cond (.t 120)
 (.skip)
 (.exit 5))))
 (.keep [6, 9, 10, 14] (.seq (.tidy [6, 7, 9, 10, 14] (.block 6 (.seq (.reg false [] [
 ⟨.mv (.t 10), some 123, none⟩,
 ⟨.mv (.t 14), some 124, none⟩,
 ⟨.iaddr J4 (.t 123) (.t 124), some 125, none⟩,
 ⟨.load true J4 (.t 125), some 126, none⟩,
 ⟨.newbox J4, some 15, none⟩,
 ⟨.store J4 (.t 15) (.t 126), none, none⟩])
 (.keep [6, 9, 10, 14, 15] (.seq (.reg false [] [
 ⟨.faddr 0 (.t 15), some 127, none⟩,
 ⟨.load false (.i .i64) (.t 127), some 128, none⟩])
 (.keep [6, 9, 10, 14, 15, 128] (.block 7 (.seq (.reg false [] [
 ⟨.bin .eql .plain (.t 128) (.c (vi .i64 4)), some 130, none⟩,
 ⟨.mv (.t 130), some 129, none⟩])
 (.keep [6, 9, 10, 14, 15, 128, 129] (.cond (.t 129)
 (.seq (.reg false [] [
 ⟨.faddr 0 (.t 9), some 131, none⟩,
 ⟨.load false (.l .s) (.t 131), some 132, none⟩,
 ⟨.faddr 2 (.t 15), some 133, none⟩,
 ⟨.load false (.i .i64) (.t 133), some 134, none⟩,
 ⟨.iaddr .s (.t 132) (.t 134), some 135, none⟩,
 ⟨.load false .s (.t 135), some 136, none⟩,
 ⟨.conv (.toBytes true) (.t 136), some 137, none⟩,
 ⟨.mv (.t 137), some 16, none⟩])
 (.keep [6, 9, 10, 14, 15, 16] (.seq (.reg true [] [
 ⟨.mv (.t 16), some 138, none⟩,
 ⟨.faddr 4 (.t 15), some 139, none⟩,
 ⟨.load false (.i .i64) (.t 139), some 140, none⟩,
 ⟨.iaddr (.i .u8) (.t 138) (.t 140), some 141, none⟩,
 ⟨.load false (.i .u8) (.t 141), some 142, none⟩,
 ⟨.faddr 5 (.t 15), some 143, none⟩,
 ⟨.load false (.i .u8) (.t 143), some 144, none⟩,
 ⟨.bin .xor .plain (.t 142) (.t 144), some 145, none⟩,
 ⟨.iaddr (.i .u8) (.t 138) (.t 140), some 146, none⟩,
 ⟨.store (.i .u8) (.t 146) (.t 145), none, none⟩])
 (.keep [6, 9, 10, 14, 15, 16] (.reg false [] [
 ⟨.faddr 0 (.t 9), some 147, none⟩,
 ⟨.load false (.l .s) (.t 147), some 148, none⟩,
 ⟨.faddr 2 (.t 15), some 149, none⟩,
 ⟨.load false (.i .i64) (.t 149), some 150, none⟩,
 ⟨.mv (.t 16), some 151, none⟩,
 ⟨.conv .toStr (.t 151), some 152, none⟩,
 ⟨.iaddr .s (.t 148) (.t 150), some 153, none⟩,
 ⟨.store .s (.t 153) (.t 152), none, none⟩])))))
 (.seq (.reg false [] [
 ⟨.bin .eql .plain (.t 128) (.c (vi .i64 5)), some 155, none⟩,
 ⟨.mv (.t 155), some 154, none⟩])
 (.keep [6, 9, 10, 14, 15, 128, 154] (.cond (.t 154)
 (.reg false [] [
 ⟨.faddr 2 (.t 9), some 156, none⟩,
 ⟨.load false (.l (.i .i64)) (.t 156), some 157, none⟩,
 ⟨.faddr 2 (.t 15), some 158, none⟩,
 ⟨.load false (.i .i64) (.t 158), some 159, none⟩,
 ⟨.call J3b [(.t 157), (.t 159)] 0, some 160, none⟩,
 ⟨.faddr 2 (.t 9), some 161, none⟩,
 ⟨.store (.l (.i .i64)) (.t 161) (.t 160), none, none⟩])
 (.seq (.reg false [] [
 ⟨.bin .eql .plain (.t 128) (.c (vi .i64 6)), some 163, none⟩,
 ⟨.mv (.t 163), some 162, none⟩])
 (.keep [6, 9, 10, 14, 162] (.cond (.t 162)
 (.reg false [] [
 ⟨.faddr 3 (.t 9), some 164, none⟩,
 ⟨.store .b (.t 164) (.c (vb true)), none, none⟩])
 (.skip)))))))))))))))))
 (.keep [6, 9, 10, 14] (.reg false [] [
 ⟨.mv (.t 14), some 121, none⟩,
 ⟨.bin .add .plain (.t 121) (.c (vi .i64 1)), some 122, none⟩,
 ⟨.mv (.t 122), some 14, none⟩]))))))))))
 (.keep [6, 9] (.seq (.reg false [] [
 ⟨.load true J3 (.t 9), some 165, none⟩,
 ⟨.store J3 (.t 6) (.t 165), none, none⟩,
 ⟨.mv (.c (vi .i64 0)), some 7, none⟩])
 (.ret)))))))))))))))))))))))))))
def J5T : TFn := ⟨3, 166, JgP, [.cell 6 true J3, .tmp 7], false⟩
def JaS : TCo := .seq (.reg false [] [
 ⟨.mv (.c (vb false)), some 2, none⟩])
 (.keep [0] (.seq (.seq (.reg false [] [
 ⟨.call J2I [] 0, some 24, none⟩,
 ⟨.un .not (.t 24), some 25, none⟩])
 (.keep [0, 25] (.cond (.t 25)
 (.seq (.reg false [] [
 ⟨.mv (.c (vb false)), some 2, none⟩])
 (.ret))
 (.skip))))
 (.keep [0] (.seq (.reg false [] [
 ⟨.mv (.t 0), some 26, none⟩,
 ⟨.call J4o [(.t 26), (.c (vi .i64 400))] 1, some 27, none⟩,
 ⟨.mv (.t 27), some 3, none⟩])
 (.keep [3] (.seq (.reg false [] [
 ⟨.call J1G [(.c (vi .i64 3))] 0, some 29, none⟩,
 ⟨.mv (.t 29), some 28, none⟩,
 ⟨.extr (.t 28) 0, some 30, none⟩,
 ⟨.extr (.t 28) 1, some 31, none⟩,
 ⟨.newbox J3, some 4, none⟩,
 ⟨.store J3 (.t 4) (.t 30), none, none⟩,
 ⟨.mv (.t 31), some 5, none⟩])
 (.keep [3, 4] (.seq (.reg false [] [
 ⟨.call J34 [(.c (vi .i64 3))] 0, some 33, none⟩,
 ⟨.mv (.t 33), some 32, none⟩,
 ⟨.extr (.t 32) 0, some 34, none⟩,
 ⟨.extr (.t 32) 1, some 35, none⟩,
 ⟨.newbox J3, some 6, none⟩,
 ⟨.store J3 (.t 6) (.t 34), none, none⟩,
 ⟨.mv (.t 35), some 7, none⟩])
 (.keep [3, 4, 6] (.seq (.tidy [2] (.block 0 (.loop [3, 4, 6] (.seq (.seq (.reg false [] [
 ⟨.mv (.t 3), some 36, none⟩,
 ⟨.call J1A [(.t 36)] 0, some 37, none⟩,
 ⟨.bin .gtr .plain (.t 37) (.c (vi .i64 0)), some 38, none⟩])
 (.keep [3, 4, 6, 38] (.cond (.t 38)
 (.skip)
 (.exit 0))))
 (.keep [3, 4, 6] (.block 1 (.seq (.tidy [2, 3, 4, 6] (.seq (.reg false [] [
 ⟨.mv (.t 3), some 39, none⟩,
 ⟨.call i_draw_Codes_Next [(.t 39), (.c (vi .i64 3))] 0, some 40, none⟩,
 ⟨.bin .eql .plain (.t 40) (.c (vi .i64 0)), some 41, none⟩])
 (.keep [3, 4, 6, 41] (.cond (.t 41)
 (.seq (.reg false [] [
 ⟨.mv (.t 3), some 42, none⟩,
 ⟨.faddr 1 (.t 6), some 43, none⟩,
 ⟨.load false (.i .i64) (.t 43), some 44, none⟩,
 ⟨.call JX [(.t 42), (.c (vi .i64 3)), (.t 44)] 0, some 45, none⟩,
 ⟨.newbox J4, some 8, none⟩,
 ⟨.store J4 (.t 8) (.t 45), none, none⟩])
 (.keep [3, 4, 6, 8] (.seq (.reg false [] [
 ⟨.load true J3 (.t 4), some 47, none⟩,
 ⟨.load true J4 (.t 8), some 48, none⟩,
 ⟨.call J0Y [(.t 47), (.t 48)] 0, some 49, none⟩,
 ⟨.mv (.t 49), some 46, none⟩,
 ⟨.extr (.t 46) 0, some 50, none⟩,
 ⟨.extr (.t 46) 1, some 51, none⟩,
 ⟨.newbox J3, some 9, none⟩,
 ⟨.store J3 (.t 9) (.t 50), none, none⟩,
 ⟨.mv (.t 51), some 10, none⟩])
 (.keep [3, 4, 6, 8, 9, 10] (.seq (.reg false [] [
 ⟨.load true J3 (.t 6), some 53, none⟩,
 ⟨.load true J4 (.t 8), some 54, none⟩,
 ⟨.call J1T [(.t 53), (.t 54)] 0, some 55, none⟩,
 ⟨.mv (.t 55), some 52, none⟩,
 ⟨.extr (.t 52) 0, some 56, none⟩,
 ⟨.extr (.t 52) 1, some 57, none⟩,
 ⟨.newbox J3, some 11, none⟩,
 ⟨.store J3 (.t 11) (.t 56), none, none⟩,
 ⟨.mv (.t 57), some 12, none⟩])
 (.keep [3, 4, 6, 9, 10, 11, 12] (.seq (.seq (.reg false [] [
 ⟨.mv (.t 10), some 58, none⟩,
 ⟨.mv (.t 12), some 59, none⟩,
 ⟨.bin .neq .plain (.t 58) (.t 59), some 60, none⟩])
 (.keep [3, 4, 6, 9, 10, 11, 60] (.cond (.t 60)
 (.seq (.reg false [] [
 ⟨.mv (.c (vb false)), some 2, none⟩])
 (.ret))
 (.skip))))
 (.keep [3, 4, 6, 9, 10, 11] (.seq (.reg false [] [
 ⟨.mv (.t 10), some 61, none⟩,
 ⟨.bin .eql .plain (.t 61) (.c (vi .i64 0)), some 62, none⟩])
 (.keep [3, 4, 6, 9, 11, 62] (.cond (.t 62)
 (.reg true [(1, 2)] [
 ⟨.load true J3 (.t 9), some 63, none⟩,
 ⟨.load true J3 (.t 11), some 64, none⟩,
 ⟨.store J3 (.t 4) (.t 63), none, none⟩,
 ⟨.store J3 (.t 6) (.t 64), none, none⟩])
 (.skip))))))))))))
 (.skip)))))
 (.keep [3, 4, 6] (.seq (.reg false [] [
 ⟨.mv (.t 3), some 65, none⟩,
 ⟨.call i_draw_Codes_Next [(.t 65), (.c (vi .i64 3))] 0, some 66, none⟩,
 ⟨.mv (.t 3), some 67, none⟩,
 ⟨.call J10 [(.t 67)] 0, some 68, none⟩,
 ⟨.mv (.t 66), some 13, none⟩,
 ⟨.mv (.t 68), some 14, none⟩])
 (.keep [3, 4, 6, 13, 14] (.seq (.reg false [] [
 ⟨.load true J3 (.t 4), some 70, none⟩,
 ⟨.mv (.t 13), some 71, none⟩,
 ⟨.mv (.t 14), some 72, none⟩,
 ⟨.call J1b [(.t 70), (.t 71), (.t 72)] 0, some 73, none⟩,
 ⟨.mv (.t 73), some 69, none⟩,
 ⟨.extr (.t 69) 0, some 74, none⟩,
 ⟨.extr (.t 69) 1, some 75, none⟩,
 ⟨.newbox J3, some 15, none⟩,
 ⟨.store J3 (.t 15) (.t 74), none, none⟩,
 ⟨.mv (.t 75), some 16, none⟩])
 (.keep [3, 4, 6, 13, 14, 15, 16] (.seq (.reg false [] [
 ⟨.load true J3 (.t 6), some 77, none⟩,
 ⟨.mv (.t 13), some 78, none⟩,
 ⟨.mv (.t 14), some 79, none⟩,
 ⟨.call J2g [(.t 77), (.t 78), (.t 79)] 0, some 80, none⟩,
 ⟨.mv (.t 80), some 76, none⟩,
 ⟨.extr (.t 76) 0, some 81, none⟩,
 ⟨.extr (.t 76) 1, some 82, none⟩,
 ⟨.newbox J3, some 17, none⟩,
 ⟨.store J3 (.t 17) (.t 81), none, none⟩,
 ⟨.mv (.t 82), some 18, none⟩])
 (.keep [3, 4, 6, 15, 16, 17, 18] (.seq (.seq (.reg false [] [
 ⟨.mv (.t 16), some 83, none⟩,
 ⟨.mv (.t 18), some 84, none⟩,
 ⟨.bin .neq .plain (.t 83) (.t 84), some 85, none⟩])
 (.keep [3, 4, 6, 15, 16, 17, 85] (.cond (.t 85)
 (.seq (.reg false [] [
 ⟨.mv (.c (vb false)), some 2, none⟩])
 (.ret))
 (.skip))))
 (.keep [3, 4, 6, 15, 16, 17] (.seq (.seq (.reg false [] [
 ⟨.mv (.t 16), some 86, none⟩,
 ⟨.bin .eql .plain (.t 86) (.c (vi .i64 0)), some 87, none⟩])
 (.keep [3, 4, 6, 15, 17, 87] (.cond (.t 87)
 (.reg true [(1, 2)] [
 ⟨.load true J3 (.t 15), some 88, none⟩,
 ⟨.load true J3 (.t 17), some 89, none⟩,
 ⟨.store J3 (.t 4) (.t 88), none, none⟩,
 ⟨.store J3 (.t 6) (.t 89), none, none⟩])
 (.skip))))
 (.keep [3, 4, 6] (.seq (.reg false [] [
 ⟨.mv (.c (vi .i64 0)), some 19, none⟩])
 (.keep [3, 4, 6, 19] (.block 2 (.loop [3, 4, 6, 19] (.seq (.seq (.reg false [] [
 ⟨.mv (.t 19), some 90, none⟩,
 ⟨.bin .lss .plain (.t 90) (.c (vi .i64 3)), some 91, none⟩])
 (.keep [3, 4, 6, 19, 91] (.cond (.t 91)
 (.skip)
 (.exit 2))))
 (.keep [3, 4, 6, 19] (.seq (.block 3 (.seq (.reg false [] [
 ⟨.load true J3 (.t 4), some 95, none⟩,
 ⟨.mv (.t 19), some 96, none⟩,
 ⟨.call J1o [(.t 95), (.t 96)] 0, some 97, none⟩,
 ⟨.mv (.t 97), some 94, none⟩,
 ⟨.extr (.t 94) 0, some 98, none⟩,
 ⟨.extr (.t 94) 1, some 99, none⟩,
 ⟨.mv (.t 98), some 20, none⟩,
 ⟨.mv (.t 99), some 21, none⟩])
 (.keep [3, 4, 6, 19, 20, 21] (.seq (.reg false [] [
 ⟨.load true J3 (.t 6), some 101, none⟩,
 ⟨.mv (.t 19), some 102, none⟩,
 ⟨.call J3a [(.t 101), (.t 102)] 0, some 103, none⟩,
 ⟨.mv (.t 103), some 100, none⟩,
 ⟨.extr (.t 100) 0, some 104, none⟩,
 ⟨.extr (.t 100) 1, some 105, none⟩,
 ⟨.mv (.t 104), some 22, none⟩,
 ⟨.mv (.t 105), some 23, none⟩])
 (.keep [3, 4, 6, 19, 20, 21, 22, 23] (.seq (.reg false [] [
 ⟨.mv (.t 20), some 106, none⟩,
 ⟨.mv (.t 22), some 107, none⟩,
 ⟨.bin .neq .plain (.t 106) (.t 107), some 108, none⟩,
 ⟨.mv (.t 108), some 109, none⟩,
 ⟨.mv (.t 21), some 110, some (109, false)⟩,
 ⟨.mv (.t 23), some 111, some (109, false)⟩,
 ⟨.bin .neq .plain (.t 110) (.t 111), some 112, some (109, false)⟩,
 ⟨.pick (.t 109) (.c (vb true)) (.t 112), some 113, none⟩])
 (.keep [3, 4, 6, 19, 113] (.cond (.t 113)
 (.seq (.reg false [] [
 ⟨.mv (.c (vb false)), some 2, none⟩])
 (.ret))
 (.skip)))))))))
 (.keep [3, 4, 6, 19] (.reg false [] [
 ⟨.mv (.t 19), some 92, none⟩,
 ⟨.bin .add .plain (.t 92) (.c (vi .i64 1)), some 93, none⟩,
 ⟨.mv (.t 93), some 19, none⟩])))))))))))))))))))))))))))
 (.keep [] (.seq (.reg false [] [
 ⟨.mv (.c (vb true)), some 2, none⟩])
 (.ret)))))))))))))
def J3h : TFn := ⟨1, 114, JaS, [.tmp 2], false⟩
def JdG : TCo := .seq (.reg false [] [
 ⟨.box J3 (.t 0), some 1, none⟩,
 ⟨.newbox J3, some 2, none⟩,
 ⟨.mv (.c (vi .i64 0)), some 3, none⟩])
 (.keep [1, 2] (.seq (.seq (.reg false [] [
 ⟨.load true J3 (.t 1), some 4, none⟩,
 ⟨.call J0T [(.t 4)] 0, some 5, none⟩,
 ⟨.un .not (.t 5), some 6, none⟩])
 (.keep [1, 2, 6] (.cond (.t 6)
 (.seq (.reg false [] [
 ⟨.build J3 [], some 7, none⟩,
 ⟨.store J3 (.t 2) (.t 7), none, none⟩,
 ⟨.mv (.c (vi .i64 15)), some 3, none⟩])
 (.ret))
 (.skip))))
 (.keep [1, 2] (.seq (.reg true [(3, 5), (3, 7), (5, 8)] [
 ⟨.faddr 0 (.t 1), some 8, none⟩,
 ⟨.load false (.l .s) (.t 8), some 9, none⟩,
 ⟨.len false (.t 9), some 10, none⟩,
 ⟨.call J1V [(.t 10)] 0, some 11, none⟩,
 ⟨.faddr 1 (.t 1), some 12, none⟩,
 ⟨.load false (.i .i64) (.t 12), some 13, none⟩,
 ⟨.faddr 4 (.t 1), some 14, none⟩,
 ⟨.load false (.l J4) (.t 14), some 15, none⟩,
 ⟨.call JE [(.t 15)] 1, some 16, none⟩,
 ⟨.build J3 [(0, (.l .s), (.t 11)), (1, (.i .i64), (.t 13)), (4, (.l J4), (.t 16))], some 17, none⟩,
 ⟨.store J3 (.t 2) (.t 17), none, none⟩,
 ⟨.mv (.c (vi .i64 0)), some 3, none⟩])
 (.ret)))))
def J8w : TFn := ⟨1, 18, JdG, [.cell 2 true J3, .tmp 3], false⟩
def Jh9 : TCo := .seq (.reg false [] [
 ⟨.box J3 (.t 0), some 4, none⟩,
 ⟨.newbox J3, some 8, none⟩,
 ⟨.mv (.c (vi .i64 0)), some 9, none⟩])
 (.keep [1, 2, 3, 4, 8] (.seq (.reg false [] [
 ⟨.load true J3 (.t 4), some 11, none⟩,
 ⟨.mv (.t 1), some 12, none⟩,
 ⟨.call J1D [(.t 11), (.t 12)] 0, some 13, none⟩,
 ⟨.mv (.t 13), some 10, none⟩])
 (.keep [1, 2, 3, 4, 8, 10] (.seq (.block 0 (.seq (.reg false [] [
 ⟨.mv (.t 10), some 15, none⟩,
 ⟨.bin .neq .plain (.t 15) (.c (vi .i64 0)), some 16, none⟩,
 ⟨.mv (.t 16), some 14, none⟩])
 (.keep [1, 2, 3, 4, 8, 10, 14] (.cond (.t 14)
 (.seq (.reg false [] [
 ⟨.build J3 [], some 17, none⟩,
 ⟨.mv (.t 10), some 18, none⟩,
 ⟨.store J3 (.t 8) (.t 17), none, none⟩,
 ⟨.mv (.t 18), some 9, none⟩])
 (.ret))
 (.seq (.reg false [] [
 ⟨.mv (.t 3), some 20, none⟩,
 ⟨.bin .lss .plain (.t 20) (.c (vi .i64 0)), some 21, none⟩,
 ⟨.mv (.t 21), some 22, none⟩,
 ⟨.mv (.t 3), some 23, some (22, false)⟩,
 ⟨.bin .gtr .plain (.t 23) (.c (vi .i64 256)), some 24, some (22, false)⟩,
 ⟨.pick (.t 22) (.c (vb true)) (.t 24), some 25, none⟩,
 ⟨.mv (.t 25), some 19, none⟩])
 (.keep [1, 2, 3, 4, 8, 19] (.cond (.t 19)
 (.seq (.reg false [] [
 ⟨.build J3 [], some 26, none⟩,
 ⟨.store J3 (.t 8) (.t 26), none, none⟩,
 ⟨.mv (.c (vi .i64 1)), some 9, none⟩])
 (.ret))
 (.seq (.reg false [] [
 ⟨.mv (.t 2), some 28, none⟩,
 ⟨.len true (.t 28), some 29, none⟩,
 ⟨.bin .neq .plain (.t 29) (.c (vi .i64 256)), some 30, none⟩,
 ⟨.mv (.t 30), some 27, none⟩])
 (.keep [1, 2, 3, 4, 8, 27] (.cond (.t 27)
 (.seq (.reg false [] [
 ⟨.build J3 [], some 31, none⟩,
 ⟨.store J3 (.t 8) (.t 31), none, none⟩,
 ⟨.mv (.c (vi .i64 2)), some 9, none⟩])
 (.ret))
 (.skip)))))))))))
 (.keep [1, 2, 3, 4, 8] (.seq (.reg true [] [
 ⟨.load true J3 (.t 4), some 32, none⟩,
 ⟨.mv (.t 1), some 33, none⟩,
 ⟨.mv (.t 2), some 34, none⟩,
 ⟨.mv (.t 3), some 35, none⟩,
 ⟨.slice .str (.t 34) none (some (.t 35)) none, some 36, none⟩,
 ⟨.faddr 0 (.t 4), some 37, none⟩,
 ⟨.load false (.l .s) (.t 37), some 38, none⟩,
 ⟨.mv (.t 1), some 39, none⟩,
 ⟨.iaddr .s (.t 38) (.t 39), some 40, none⟩,
 ⟨.load false .s (.t 40), some 41, none⟩,
 ⟨.mv (.t 3), some 42, none⟩,
 ⟨.slice .str (.t 41) (some (.t 42)) none none, some 43, none⟩,
 ⟨.bin .add .plain (.t 36) (.t 43), some 44, none⟩,
 ⟨.call Jbx [(.t 32), (.t 33), (.t 44)] 0, some 45, none⟩,
 ⟨.store J3 (.t 8) (.t 45), none, none⟩,
 ⟨.mv (.c (vi .i64 0)), some 9, none⟩])
 (.ret)))))))
def JaM : TFn := ⟨4, 46, Jh9, [.cell 8 true J3, .tmp 9], false⟩
def J5K : TCo := .seq (.reg false [] [
 ⟨.mv (.c (vs [])), some 2, none⟩])
 (.keep [0] (.seq (.reg false [] [
 ⟨.mv (.t 0), some 6, none⟩,
 ⟨.call i_draw_Codes_Next [(.t 6), (.c (vi .i64 5))] 0, some 7, none⟩,
 ⟨.mv (.t 7), some 3, none⟩])
 (.keep [0, 3] (.seq (.seq (.reg false [] [
 ⟨.mv (.t 0), some 8, none⟩,
 ⟨.call i_draw_Codes_Next [(.t 8), (.c (vi .i64 6))] 0, some 9, none⟩,
 ⟨.bin .eql .plain (.t 9) (.c (vi .i64 0)), some 10, none⟩])
 (.keep [0, 3, 10] (.cond (.t 10)
 (.reg false [] [
 ⟨.mv (.t 0), some 11, none⟩,
 ⟨.call i_draw_Codes_Next [(.t 11), (.c (vi .i64 14))] 0, some 12, none⟩,
 ⟨.mv (.t 12), some 3, none⟩])
 (.skip))))
 (.keep [0, 3] (.seq (.reg false [] [
 ⟨.mv (.t 3), some 13, none⟩,
 ⟨.mkslice true (.i .u8) 1 (.c (vi .i64 0)) (.t 13), some 14, none⟩,
 ⟨.mv (.t 14), some 4, none⟩])
 (.keep [0, 3, 4] (.seq (.seq (.reg false [] [
 ⟨.mv (.c (vi .i64 0)), some 5, none⟩])
 (.keep [0, 3, 4, 5] (.block 0 (.loop [0, 3, 4, 5] (.seq (.seq (.reg false [] [
 ⟨.mv (.t 5), some 15, none⟩,
 ⟨.mv (.t 3), some 16, none⟩,
 ⟨.bin .lss .plain (.t 15) (.t 16), some 17, none⟩])
 (.keep [0, 3, 4, 5, 17] (.cond (.t 17)
 (.skip)
 (.exit 0))))
 (.keep [0, 3, 4, 5] (.seq (.block 1 (.reg false [] [
 ⟨.mv (.t 4), some 20, none⟩,
 ⟨.mv (.t 0), some 21, none⟩,
 ⟨.call i_draw_Codes_Next [(.t 21), (.c (vi .i64 3))] 0, some 22, none⟩,
 ⟨.bin .add .plain (.c (vi .i64 97)) (.t 22), some 23, none⟩,
 ⟨.conv (.int .u8) (.t 23), some 24, none⟩,
 ⟨.lits false (.i .u8) 1 [(0, (.t 24))], some 25, none⟩,
 ⟨.app (.i .u8) 1 (.t 20) (.t 25), some 26, none⟩,
 ⟨.mv (.t 26), some 4, none⟩]))
 (.keep [0, 3, 4, 5] (.reg false [] [
 ⟨.mv (.t 5), some 18, none⟩,
 ⟨.bin .add .plain (.t 18) (.c (vi .i64 1)), some 19, none⟩,
 ⟨.mv (.t 19), some 5, none⟩])))))))))
 (.keep [4] (.seq (.reg false [] [
 ⟨.mv (.t 4), some 27, none⟩,
 ⟨.conv .toStr (.t 27), some 28, none⟩,
 ⟨.mv (.t 28), some 2, none⟩])
 (.ret)))))))))))
def J2R : TFn := ⟨1, 29, J5K, [.tmp 2], false⟩
def JaY : TCo := .seq (.reg false [] [
 ⟨.newbox J3, some 2, none⟩])
 (.keep [0, 2] (.seq (.reg false [] [
 ⟨.mv (.t 0), some 11, none⟩,
 ⟨.call i_draw_Codes_Next [(.t 11), (.c (vi .i64 4))] 0, some 12, none⟩,
 ⟨.bin .add .plain (.c (vi .i64 1)) (.t 12), some 13, none⟩,
 ⟨.call J34 [(.t 13)] 0, some 14, none⟩,
 ⟨.mv (.t 14), some 10, none⟩,
 ⟨.extr (.t 10) 0, some 15, none⟩,
 ⟨.extr (.t 10) 1, some 16, none⟩,
 ⟨.newbox J3, some 3, none⟩,
 ⟨.store J3 (.t 3) (.t 15), none, none⟩,
 ⟨.mv (.t 16), some 4, none⟩])
 (.keep [0, 2, 3] (.seq (.tidy [2, 3] (.seq (.reg false [] [
 ⟨.mv (.t 0), some 17, none⟩,
 ⟨.call i_draw_Codes_Next [(.t 17), (.c (vi .i64 6))] 0, some 18, none⟩,
 ⟨.mv (.t 18), some 5, none⟩])
 (.keep [0, 2, 3, 5] (.block 0 (.loop [0, 2, 3, 5] (.seq (.seq (.reg false [] [
 ⟨.mv (.t 5), some 19, none⟩,
 ⟨.bin .gtr .plain (.t 19) (.c (vi .i64 0)), some 20, none⟩])
 (.keep [0, 2, 3, 5, 20] (.cond (.t 20)
 (.skip)
 (.exit 0))))
 (.keep [0, 2, 3, 5] (.seq (.tidy [0, 2, 3, 5] (.block 1 (.seq (.tidy [0, 2, 3, 5] (.seq (.reg true [(0, 7), (0, 12), (3, 12), (6, 12), (7, 12), (8, 12)] [
 ⟨.load true J3 (.t 3), some 24, none⟩,
 ⟨.mv (.t 0), some 25, none⟩,
 ⟨.faddr 0 (.t 3), some 26, none⟩,
 ⟨.load false (.l .s) (.t 26), some 27, none⟩,
 ⟨.len false (.t 27), some 28, none⟩,
 ⟨.faddr 1 (.t 3), some 29, none⟩,
 ⟨.load false (.i .i64) (.t 29), some 30, none⟩,
 ⟨.call JX [(.t 25), (.t 28), (.t 30)] 0, some 31, none⟩,
 ⟨.call J1T [(.t 24), (.t 31)] 0, some 32, none⟩,
 ⟨.mv (.t 32), some 23, none⟩,
 ⟨.extr (.t 23) 0, some 33, none⟩,
 ⟨.extr (.t 23) 1, some 34, none⟩,
 ⟨.newbox J3, some 6, none⟩,
 ⟨.store J3 (.t 6) (.t 33), none, none⟩,
 ⟨.mv (.t 34), some 7, none⟩])
 (.keep [0, 2, 3, 5, 6, 7] (.seq (.reg false [] [
 ⟨.mv (.t 7), some 35, none⟩,
 ⟨.bin .eql .plain (.t 35) (.c (vi .i64 0)), some 36, none⟩,
 ⟨.mv (.t 36), some 37, none⟩,
 ⟨.mv (.t 0), some 38, some (37, true)⟩,
 ⟨.call i_draw_Codes_Next [(.t 38), (.c (vi .i64 2))] 0, some 39, some (37, true)⟩,
 ⟨.bin .eql .plain (.t 39) (.c (vi .i64 0)), some 40, some (37, true)⟩,
 ⟨.pick (.t 37) (.t 40) (.c (vb false)), some 41, none⟩])
 (.keep [0, 2, 3, 5, 6, 41] (.cond (.t 41)
 (.reg false [] [
 ⟨.load true J3 (.t 6), some 42, none⟩,
 ⟨.store J3 (.t 3) (.t 42), none, none⟩])
 (.skip)))))))
 (.keep [0, 2, 3, 5] (.seq (.reg true [(0, 5), (0, 7), (0, 12), (3, 12), (5, 12), (7, 12), (8, 12)] [
 ⟨.load true J3 (.t 3), some 44, none⟩,
 ⟨.mv (.t 0), some 45, none⟩,
 ⟨.faddr 0 (.t 3), some 46, none⟩,
 ⟨.load false (.l .s) (.t 46), some 47, none⟩,
 ⟨.len false (.t 47), some 48, none⟩,
 ⟨.call i_draw_Codes_Next [(.t 45), (.t 48)] 0, some 49, none⟩,
 ⟨.mv (.t 0), some 50, none⟩,
 ⟨.call J10 [(.t 50)] 0, some 51, none⟩,
 ⟨.call J2g [(.t 44), (.t 49), (.t 51)] 0, some 52, none⟩,
 ⟨.mv (.t 52), some 43, none⟩,
 ⟨.extr (.t 43) 0, some 53, none⟩,
 ⟨.extr (.t 43) 1, some 54, none⟩,
 ⟨.newbox J3, some 8, none⟩,
 ⟨.store J3 (.t 8) (.t 53), none, none⟩,
 ⟨.mv (.t 54), some 9, none⟩])
 (.keep [0, 2, 3, 5, 8, 9] (.seq (.reg false [] [
 ⟨.mv (.t 9), some 55, none⟩,
 ⟨.bin .eql .plain (.t 55) (.c (vi .i64 0)), some 56, none⟩])
 (.keep [0, 2, 3, 5, 8, 56] (.cond (.t 56)
 (.reg false [] [
 ⟨.load true J3 (.t 8), some 57, none⟩,
 ⟨.store J3 (.t 3) (.t 57), none, none⟩])
 (.skip))))))))))
 (.keep [0, 2, 3, 5] (.reg false [] [
 ⟨.mv (.t 5), some 21, none⟩,
 ⟨.bin .sub .plain (.t 21) (.c (vi .i64 1)), some 22, none⟩,
 ⟨.mv (.t 22), some 5, none⟩]))))))))))
 (.keep [2, 3] (.seq (.reg false [] [
 ⟨.load true J3 (.t 3), some 58, none⟩,
 ⟨.store J3 (.t 2) (.t 58), none, none⟩])
 (.ret)))))))
def J73 : TFn := ⟨1, 59, JaY, [.cell 2 true J3], false⟩
def JgO : TCo := .seq (.reg false [] [
 ⟨.box J3 (.t 0), some 1, none⟩,
 ⟨.mv (.c (vb false)), some 2, none⟩])
 (.keep [1] (.seq (.reg false [] [
 ⟨.faddr 0 (.t 1), some 3, none⟩,
 ⟨.load false (.l .s) (.t 3), some 4, none⟩,
 ⟨.len false (.t 4), some 5, none⟩,
 ⟨.bin .leq .plain (.t 5) (.c (vi .i64 70)), some 6, none⟩,
 ⟨.mv (.t 6), some 7, none⟩,
 ⟨.faddr 2 (.t 1), some 8, some (7, true)⟩,
 ⟨.load false (.l (.i .i64)) (.t 8), some 9, some (7, true)⟩,
 ⟨.len false (.t 9), some 10, some (7, true)⟩,
 ⟨.bin .leq .plain (.t 10) (.c (vi .i64 70)), some 11, some (7, true)⟩,
 ⟨.pick (.t 7) (.t 11) (.c (vb false)), some 12, none⟩,
 ⟨.mv (.t 12), some 13, none⟩,
 ⟨.faddr 4 (.t 1), some 14, some (13, true)⟩,
 ⟨.load false (.l J4) (.t 14), some 15, some (13, true)⟩,
 ⟨.len false (.t 15), some 16, some (13, true)⟩,
 ⟨.bin .leq .plain (.t 16) (.c (vi .i64 70)), some 17, some (13, true)⟩,
 ⟨.pick (.t 13) (.t 17) (.c (vb false)), some 18, none⟩,
 ⟨.mv (.t 18), some 2, none⟩])
 (.ret)))
def JaO : TFn := ⟨1, 19, JgO, [.tmp 2], false⟩
def Jee : TCo := .seq (.reg false [] [
 ⟨.box J3 (.t 0), some 1, none⟩,
 ⟨.newbox J3, some 2, none⟩,
 ⟨.mv (.c (vi .i64 0)), some 3, none⟩])
 (.keep [1, 2] (.seq (.seq (.reg false [] [
 ⟨.load true J3 (.t 1), some 4, none⟩,
 ⟨.call J16 [(.t 4)] 0, some 5, none⟩,
 ⟨.un .not (.t 5), some 6, none⟩])
 (.keep [1, 2, 6] (.cond (.t 6)
 (.seq (.reg false [] [
 ⟨.build J3 [], some 7, none⟩,
 ⟨.store J3 (.t 2) (.t 7), none, none⟩,
 ⟨.mv (.c (vi .i64 15)), some 3, none⟩])
 (.ret))
 (.skip))))
 (.keep [1, 2] (.seq (.reg true [(3, 5), (3, 7), (5, 8)] [
 ⟨.faddr 0 (.t 1), some 8, none⟩,
 ⟨.load false (.l .s) (.t 8), some 9, none⟩,
 ⟨.len false (.t 9), some 10, none⟩,
 ⟨.call J1Q [(.t 10)] 0, some 11, none⟩,
 ⟨.faddr 1 (.t 1), some 12, none⟩,
 ⟨.load false (.i .i64) (.t 12), some 13, none⟩,
 ⟨.faddr 4 (.t 1), some 14, none⟩,
 ⟨.load false (.l J4) (.t 14), some 15, none⟩,
 ⟨.appn J4 48 (.t 15), some 16, none⟩,
 ⟨.build J3 [(0, (.l .s), (.t 11)), (1, (.i .i64), (.t 13)), (4, (.l J4), (.t 16))], some 17, none⟩,
 ⟨.store J3 (.t 2) (.t 17), none, none⟩,
 ⟨.mv (.c (vi .i64 0)), some 3, none⟩])
 (.ret)))))
def J9j : TFn := ⟨1, 18, Jee, [.cell 2 true J3, .tmp 3], false⟩
def Jjv : TCo := .seq (.reg false [] [
 ⟨.box J3 (.t 0), some 2, none⟩,
 ⟨.box J3 (.t 1), some 3, none⟩,
 ⟨.mv (.c (vb false)), some 4, none⟩])
 (.keep [2, 3] (.seq (.seq (.reg false [] [
 ⟨.faddr 0 (.t 2), some 8, none⟩,
 ⟨.load false (.l .s) (.t 8), some 9, none⟩,
 ⟨.len false (.t 9), some 10, none⟩,
 ⟨.faddr 0 (.t 3), some 11, none⟩,
 ⟨.load false (.l .s) (.t 11), some 12, none⟩,
 ⟨.len false (.t 12), some 13, none⟩,
 ⟨.bin .neq .plain (.t 10) (.t 13), some 14, none⟩,
 ⟨.mv (.t 14), some 15, none⟩,
 ⟨.faddr 1 (.t 2), some 16, some (15, false)⟩,
 ⟨.load false (.i .i64) (.t 16), some 17, some (15, false)⟩,
 ⟨.faddr 1 (.t 3), some 18, some (15, false)⟩,
 ⟨.load false (.i .i64) (.t 18), some 19, some (15, false)⟩,
 ⟨.bin .neq .plain (.t 17) (.t 19), some 20, some (15, false)⟩,
 ⟨.pick (.t 15) (.c (vb true)) (.t 20), some 21, none⟩,
 ⟨.mv (.t 21), some 22, none⟩,
 ⟨.faddr 3 (.t 2), some 23, some (22, false)⟩,
 ⟨.load false .b (.t 23), some 24, some (22, false)⟩,
 ⟨.faddr 3 (.t 3), some 25, some (22, false)⟩,
 ⟨.load false .b (.t 25), some 26, some (22, false)⟩,
 ⟨.bin .neq .bool (.t 24) (.t 26), some 27, some (22, false)⟩,
 ⟨.pick (.t 22) (.c (vb true)) (.t 27), some 28, none⟩,
 ⟨.mv (.t 28), some 29, none⟩,
 ⟨.faddr 2 (.t 2), some 30, some (29, false)⟩,
 ⟨.load false (.l (.i .i64)) (.t 30), some 31, some (29, false)⟩,
 ⟨.len false (.t 31), some 32, some (29, false)⟩,
 ⟨.faddr 2 (.t 3), some 33, some (29, false)⟩,
 ⟨.load false (.l (.i .i64)) (.t 33), some 34, some (29, false)⟩,
 ⟨.len false (.t 34), some 35, some (29, false)⟩,
 ⟨.bin .neq .plain (.t 32) (.t 35), some 36, some (29, false)⟩,
 ⟨.pick (.t 29) (.c (vb true)) (.t 36), some 37, none⟩,
 ⟨.mv (.t 37), some 38, none⟩,
 ⟨.faddr 4 (.t 2), some 39, some (38, false)⟩,
 ⟨.load false (.l J4) (.t 39), some 40, some (38, false)⟩,
 ⟨.len false (.t 40), some 41, some (38, false)⟩,
 ⟨.faddr 4 (.t 3), some 42, some (38, false)⟩,
 ⟨.load false (.l J4) (.t 42), some 43, some (38, false)⟩,
 ⟨.len false (.t 43), some 44, some (38, false)⟩,
 ⟨.bin .neq .plain (.t 41) (.t 44), some 45, some (38, false)⟩,
 ⟨.pick (.t 38) (.c (vb true)) (.t 45), some 46, none⟩])
 (.keep [2, 3, 46] (.cond (.t 46)
 (.seq (.reg false [] [
 ⟨.mv (.c (vb false)), some 4, none⟩])
 (.ret))
 (.skip))))
 (.keep [2, 3] (.seq (.seq (.reg false [] [
 ⟨.mv (.c (vi .i64 0)), some 5, none⟩])
 (.keep [2, 3, 5] (.block 0 (.loop [2, 3, 5] (.seq (.seq (.reg false [] [
 ⟨.mv (.t 5), some 47, none⟩,
 ⟨.faddr 0 (.t 2), some 48, none⟩,
 ⟨.load false (.l .s) (.t 48), some 49, none⟩,
 ⟨.len false (.t 49), some 50, none⟩,
 ⟨.bin .lss .plain (.t 47) (.t 50), some 51, none⟩])
 (.keep [2, 3, 5, 51] (.cond (.t 51)
 (.skip)
 (.exit 0))))
 (.keep [2, 3, 5] (.seq (.block 1 (.seq (.reg true [] [
 ⟨.faddr 0 (.t 2), some 54, none⟩,
 ⟨.load false (.l .s) (.t 54), some 55, none⟩,
 ⟨.mv (.t 5), some 56, none⟩,
 ⟨.iaddr .s (.t 55) (.t 56), some 57, none⟩,
 ⟨.load false .s (.t 57), some 58, none⟩,
 ⟨.faddr 0 (.t 3), some 59, none⟩,
 ⟨.load false (.l .s) (.t 59), some 60, none⟩,
 ⟨.mv (.t 5), some 61, none⟩,
 ⟨.iaddr .s (.t 60) (.t 61), some 62, none⟩,
 ⟨.load false .s (.t 62), some 63, none⟩,
 ⟨.bin .neq .plain (.t 58) (.t 63), some 64, none⟩])
 (.keep [2, 3, 5, 64] (.cond (.t 64)
 (.seq (.reg false [] [
 ⟨.mv (.c (vb false)), some 4, none⟩])
 (.ret))
 (.skip)))))
 (.keep [2, 3, 5] (.reg false [] [
 ⟨.mv (.t 5), some 52, none⟩,
 ⟨.bin .add .plain (.t 52) (.c (vi .i64 1)), some 53, none⟩,
 ⟨.mv (.t 53), some 5, none⟩])))))))))
 (.keep [2, 3] (.seq (.seq (.reg false [] [
 ⟨.mv (.c (vi .i64 0)), some 6, none⟩])
 (.keep [2, 3, 6] (.block 2 (.loop [2, 3, 6] (.seq (.seq (.reg false [] [
 ⟨.mv (.t 6), some 65, none⟩,
 ⟨.faddr 2 (.t 2), some 66, none⟩,
 ⟨.load false (.l (.i .i64)) (.t 66), some 67, none⟩,
 ⟨.len false (.t 67), some 68, none⟩,
 ⟨.bin .lss .plain (.t 65) (.t 68), some 69, none⟩])
 (.keep [2, 3, 6, 69] (.cond (.t 69)
 (.skip)
 (.exit 2))))
 (.keep [2, 3, 6] (.seq (.block 3 (.seq (.reg true [] [
 ⟨.faddr 2 (.t 2), some 72, none⟩,
 ⟨.load false (.l (.i .i64)) (.t 72), some 73, none⟩,
 ⟨.mv (.t 6), some 74, none⟩,
 ⟨.iaddr (.i .i64) (.t 73) (.t 74), some 75, none⟩,
 ⟨.load false (.i .i64) (.t 75), some 76, none⟩,
 ⟨.faddr 2 (.t 3), some 77, none⟩,
 ⟨.load false (.l (.i .i64)) (.t 77), some 78, none⟩,
 ⟨.mv (.t 6), some 79, none⟩,
 ⟨.iaddr (.i .i64) (.t 78) (.t 79), some 80, none⟩,
 ⟨.load false (.i .i64) (.t 80), some 81, none⟩,
 ⟨.bin .neq .plain (.t 76) (.t 81), some 82, none⟩])
 (.keep [2, 3, 6, 82] (.cond (.t 82)
 (.seq (.reg false [] [
 ⟨.mv (.c (vb false)), some 4, none⟩])
 (.ret))
 (.skip)))))
 (.keep [2, 3, 6] (.reg false [] [
 ⟨.mv (.t 6), some 70, none⟩,
 ⟨.bin .add .plain (.t 70) (.c (vi .i64 1)), some 71, none⟩,
 ⟨.mv (.t 71), some 6, none⟩])))))))))
 (.keep [2, 3] (.seq (.seq (.reg false [] [
 ⟨.mv (.c (vi .i64 0)), some 7, none⟩])
 (.keep [2, 3, 7] (.block 4 (.loop [2, 3, 7] (.seq (.seq (.reg false [] [
 ⟨.mv (.t 7), some 83, none⟩,
 ⟨.faddr 4 (.t 2), some 84, none⟩,
 ⟨.load false (.l J4) (.t 84), some 85, none⟩,
 ⟨.len false (.t 85), some 86, none⟩,
 ⟨.bin .lss .plain (.t 83) (.t 86), some 87, none⟩])
 (.keep [2, 3, 7, 87] (.cond (.t 87)
 (.skip)
 (.exit 4))))
 (.keep [2, 3, 7] (.seq (.block 5 (.seq (.reg true [] [
 ⟨.faddr 4 (.t 2), some 90, none⟩,
 ⟨.load false (.l J4) (.t 90), some 91, none⟩,
 ⟨.mv (.t 7), some 92, none⟩,
 ⟨.iaddr J4 (.t 91) (.t 92), some 93, none⟩,
 ⟨.load true J4 (.t 93), some 94, none⟩,
 ⟨.faddr 4 (.t 3), some 95, none⟩,
 ⟨.load false (.l J4) (.t 95), some 96, none⟩,
 ⟨.mv (.t 7), some 97, none⟩,
 ⟨.iaddr J4 (.t 96) (.t 97), some 98, none⟩,
 ⟨.load true J4 (.t 98), some 99, none⟩,
 ⟨.bin .neq (.flat J4) (.t 94) (.t 99), some 100, none⟩])
 (.keep [2, 3, 7, 100] (.cond (.t 100)
 (.seq (.reg false [] [
 ⟨.mv (.c (vb false)), some 4, none⟩])
 (.ret))
 (.skip)))))
 (.keep [2, 3, 7] (.reg false [] [
 ⟨.mv (.t 7), some 88, none⟩,
 ⟨.bin .add .plain (.t 88) (.c (vi .i64 1)), some 89, none⟩,
 ⟨.mv (.t 89), some 7, none⟩])))))))))
 (.keep [] (.seq (.reg false [] [
 ⟨.mv (.c (vb true)), some 4, none⟩])
 (.ret)))))))))))
def Jba : TFn := ⟨2, 101, Jjv, [.tmp 4], false⟩
def Jii : TCo := .seq (.reg false [] [
 ⟨.box J3 (.t 0), some 4, none⟩,
 ⟨.newbox J3, some 8, none⟩,
 ⟨.mv (.c (vi .i64 0)), some 9, none⟩])
 (.keep [1, 2, 3, 4, 8] (.seq (.seq (.reg false [] [
 ⟨.load true J3 (.t 4), some 11, none⟩,
 ⟨.mv (.t 1), some 12, none⟩,
 ⟨.call J0R [(.t 11), (.t 12)] 0, some 13, none⟩,
 ⟨.mv (.t 13), some 10, none⟩])
 (.keep [1, 2, 3, 4, 8, 10] (.seq (.reg false [] [
 ⟨.mv (.t 10), some 14, none⟩,
 ⟨.bin .neq .plain (.t 14) (.c (vi .i64 0)), some 15, none⟩])
 (.keep [1, 2, 3, 4, 8, 10, 15] (.cond (.t 15)
 (.seq (.reg false [] [
 ⟨.build J3 [], some 16, none⟩,
 ⟨.mv (.t 10), some 17, none⟩,
 ⟨.store J3 (.t 8) (.t 16), none, none⟩,
 ⟨.mv (.t 17), some 9, none⟩])
 (.ret))
 (.skip))))))
 (.keep [1, 2, 3, 4, 8] (.seq (.seq (.reg false [] [
 ⟨.mv (.t 3), some 18, none⟩,
 ⟨.bin .lss .plain (.t 18) (.c (vi .i64 0)), some 19, none⟩,
 ⟨.mv (.t 19), some 20, none⟩,
 ⟨.mv (.t 3), some 21, some (20, false)⟩,
 ⟨.bin .gtr .plain (.t 21) (.c (vi .i64 256)), some 22, some (20, false)⟩,
 ⟨.pick (.t 20) (.c (vb true)) (.t 22), some 23, none⟩])
 (.keep [1, 2, 3, 4, 8, 23] (.cond (.t 23)
 (.seq (.reg false [] [
 ⟨.build J3 [], some 24, none⟩,
 ⟨.store J3 (.t 8) (.t 24), none, none⟩,
 ⟨.mv (.c (vi .i64 1)), some 9, none⟩])
 (.ret))
 (.skip))))
 (.keep [1, 2, 3, 4, 8] (.seq (.seq (.reg false [] [
 ⟨.mv (.t 2), some 25, none⟩,
 ⟨.len true (.t 25), some 26, none⟩,
 ⟨.bin .neq .plain (.t 26) (.c (vi .i64 256)), some 27, none⟩])
 (.keep [1, 2, 3, 4, 8, 27] (.cond (.t 27)
 (.seq (.reg false [] [
 ⟨.build J3 [], some 28, none⟩,
 ⟨.store J3 (.t 8) (.t 28), none, none⟩,
 ⟨.mv (.c (vi .i64 2)), some 9, none⟩])
 (.ret))
 (.skip))))
 (.keep [1, 2, 3, 4, 8] (.seq (.reg false [] [
 ⟨.load true J3 (.t 4), some 29, none⟩,
 ⟨.callo J0k [((.t 29), false)] 2, some 30, none⟩,
 ⟨.mv (.t 1), some 31, none⟩,
 ⟨.mv (.t 2), some 32, none⟩,
 ⟨.mv (.t 3), some 33, none⟩,
 ⟨.callo J1k [((.t 30), true), ((.t 31), false), ((.t 32), false), ((.t 33), false)] 0, some 34, none⟩,
 ⟨.store J3 (.t 8) (.t 34), none, none⟩,
 ⟨.mv (.c (vi .i64 0)), some 9, none⟩])
 (.ret)))))))))
def JbJ : TFn := ⟨4, 35, Jii, [.cell 8 true J3, .tmp 9], false⟩
end Go.Am
end
