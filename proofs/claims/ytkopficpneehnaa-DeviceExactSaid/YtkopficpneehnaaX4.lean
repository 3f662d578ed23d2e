/-
  Parts of a proof.
-/
import Derived.Test.YtkopficpneehnaaX3
set_option linter.unusedSimpArgs false
set_option linter.unusedVariables false
section
namespace Go.Am
def J9U (m : Nat) (ids : List Nat) (s : TSt) : TC → Option TC
 | .ptr b p => if b < m then some (.ptr b p) else match J34 b ids m with
  | some k => some (.ptr k p)
  | none => none
 | .slr b => if b < m then some (.slr b) else match J34 b ids m with
  | some k => some (.slr k)
  | none => match s.sto[b]? with
   | some (.arr _ t rows) => some (.d (.l t) rows)
   | _ => none
 | .slo b n => if b < m then some (.slo b n) else match J34 b ids m with
  | some k => some (.slo k n)
  | none => none
 | .ep b i p => if b < m then some (.ep b i p) else match J34 b ids m with
  | some k => some (.ep k i p)
  | none => none
 | .epo b e i p => if b < m then some (.epo b e i p) else match J34 b ids m with
  | some k => some (.epo k e i p)
  | none => none
 | x => some x
def Jb7 (m : Nat) (ids : List Nat) (s : TSt) : List TC → Option (List TC)
 | [] => some []
 | x :: r => match J9U m ids s x, Jb7 m ids s r with
  | some y, some l => some (y :: l)
  | _, _ => none
def JcM (m : Nat) (ids : List Nat) (s : TSt) : TA → Option TA
 | .c x => match J9U m ids s x with
  | some y => some (.c y)
  | none => none
 | .dt t x => some (.dt t x)
 | .m t cs => match Jb7 m ids s cs with
  | some l => match asm t l with
   | some x => some (.dt t x)
   | none => if l.any JmN = true then some (.m t l) else none
  | none => none
 | .fn f a c => match Jb7 m ids s a, Jb7 m ids s c with
  | some a, some c => some (.fn f a c)
  | _, _ => none
def Jcn (m : Nat) (ids : List Nat) (s : TSt) : List TA → Option (List TA)
 | [] => some []
 | x :: r => match JcM m ids s x, Jcn m ids s r with
  | some y, some l => some (y :: l)
  | _, _ => none
def Jih (m : Nat) (ids : List Nat) (s : TSt) : TV → Option TV
 | .a x => match JcM m ids s x with
  | some y => some (.a y)
  | none => none
 | .tup vs => match Jcn m ids s vs with
  | some l => some (.tup l)
  | none => none
def JeQ (m : Nat) (ids : List Nat) (s : TSt) : TB → Option TB
 | .mbox t cs => match Jb7 m ids s cs with
  | some l => some (mkb t l)
  | none => none
 | x => some x
def J8f (m : Nat) (ids : List Nat) (s : TSt) : List TB → Option (List TB)
 | [] => some []
 | x :: r => match JeQ m ids s x, J8f m ids s r with
  | some y, some l => some (y :: l)
  | _, _ => none
def Jid (m : Nat) (s : TSt) : List (Nat × TV) → Option (List (Nat × TV))
 | [] => some []
 | (k, x) :: r => match Jih m [] s x, Jid m s r with
  | some y, some l => some ((k, y) :: l)
  | _, _ => none
def J4X : List Nat → List (Nat × TV) → List (Nat × TV)
 | [], _ => []
 | k :: r, env => match tlk k env with
  | some v => (k, v) :: J4X r env
  | none => J4X r env
theorem J8d (L : Nat → Nat) (env : List (Nat × TV)) : ∀ live : List Nat, restr live (J2X L env) = J2X L (J4X live env)
 | [] => rfl
 | k :: r => by
  simp only [restr, J4X, J9h]
  cases tlk k env with
  | none => exact J8d L env r
  | some v =>
   have ih := J8d L env r
   unfold J2X at ih ⊢
   simp only [Option.map_some, List.map_cons]
   rw [ih]
section
variable {m : Nat} {ids : List Nat} {s : TSt} {L' : Nat → Nat} (h1 : ∀ b, b < m → L' b = lns s.sto b) (h2 : ∀ b k, J34 b ids m = some k → L' k = lns s.sto b)
include h1 h2
theorem JjD {x y : TC} (h : J9U m ids s x = some y) : fin m ids (Jb s).sto (Jr (lns s.sto) x) = some (Jr L' y) := by
 cases x with
 | ptr b p =>
  simp only [J9U] at h
  simp only [Jr, fin]
  split at h
  ·rename_i hb; injection h with h; subst h; rw [if_pos hb]; try rfl
  ·rename_i hb
   rw [if_neg hb]
   split at h
   ·rename_i k hk; injection h with h; subst h; simp only [hk, Option.map_some, Jr]
   ·cases h
 | slr b =>
  simp only [J9U] at h
  simp only [Jr, fin]
  split at h
  ·rename_i hb; injection h with h; subst h; rw [if_pos hb]; simp only [Jr, h1 b hb]
  ·rename_i hb
   rw [if_neg hb]
   split at h
   ·rename_i k hk; injection h with h; subst h; rw [hk]; simp only [Jr, h2 b k hk]
   ·rename_i hk
    rw [hk]
    split at h
    ·rename_i w t rows hbk
     injection h with h; subst h
     simp only [J0O, hbk, Option.map_some, Jjt, J3P hbk, List.length_map, Nat.zero_add, if_true, List.drop_zero, Jr, cel, hdP]
    ·cases h
 | slo b n =>
  simp only [J9U] at h
  simp only [Jr, fin]
  split at h
  ·rename_i hb; injection h with h; subst h; rw [if_pos hb]; try rfl
  ·rename_i hb
   rw [if_neg hb]
   split at h
   ·rename_i k hk; injection h with h; subst h; simp only [hk, Option.map_some, Jr]
   ·cases h
 | ep b i p =>
  simp only [J9U] at h
  simp only [Jr, fin]
  split at h
  ·rename_i hb; injection h with h; subst h; rw [if_pos hb]; simp only [Jr, h1 b hb]
  ·rename_i hb
   rw [if_neg hb]
   split at h
   ·rename_i k hk; injection h with h; subst h; rw [hk]; simp only [Jr, h2 b k hk, Option.map_some]
   ·cases h
 | epo b e i p =>
  simp only [J9U] at h
  simp only [Jr, fin]
  split at h
  ·rename_i hb; injection h with h; subst h; rw [if_pos hb]; try rfl
  ·rename_i hb
   rw [if_neg hb]
   split at h
   ·rename_i k hk; injection h with h; subst h; simp only [hk, Option.map_some, Jr]
   ·cases h
 | _ => injection h with h; subst h; rfl
theorem J9s : ∀ {xs ys : List TC}, Jb7 m ids s xs = some ys → fin.finL m ids (Jb s).sto (xs.map (Jr (lns s.sto))) = some (ys.map (Jr L'))
 | [], ys, h => by injection h with h; subst h; rfl
 | x :: r, ys, h => by
  simp only [Jb7] at h
  split at h
  ·rename_i y l hy hl
   injection h with h; subst h
   simp only [List.map_cons, fin.finL, JjD h1 h2 hy, J9s hl]
  ·cases h
theorem Jk2 {x y : TA} (h : JcM m ids s x = some y) : fin m ids (Jb s).sto (J0j (lns s.sto) x) = some (J0j L' y) := by
 cases x with
 | c x =>
  simp only [JcM] at h
  split at h
  ·rename_i y hy; injection h with h; subst h; exact JjD h1 h2 hy
  ·cases h
 | dt t x => injection h with h; subst h; rfl
 | m t cs =>
  simp only [JcM] at h
  split at h
  ·rename_i l hl
   have e := J9s h1 h2 hl
   simp only [J0j, fin, e]
   split at h
   ·rename_i x hx
    injection h with h; subst h
    rw [Jch L' hx, J9l]
   ·split at h
    ·rename_i hr
     injection h with h; subst h
     rw [Jgt L' hr]
    ·cases h
  ·cases h
 | fn f a c =>
  simp only [JcM] at h
  split at h
  ·rename_i a' c' ha hc
   injection h with h; subst h
   simp only [J0j, fin, J9s h1 h2 ha, J9s h1 h2 hc]
  ·cases h
theorem JbM : ∀ {xs ys : List TA}, Jcn m ids s xs = some ys → fin.finL m ids (Jb s).sto (xs.map (J0j (lns s.sto))) = some (ys.map (J0j L'))
 | [], ys, h => by injection h with h; subst h; rfl
 | x :: r, ys, h => by
  simp only [Jcn] at h
  split at h
  ·rename_i y l hy hl
   injection h with h; subst h
   simp only [List.map_cons, fin.finL, Jk2 h1 h2 hy, JbM hl]
  ·cases h
theorem Jpu {x y : TV} (h : Jih m ids s x = some y) : fin m ids (Jb s).sto (Jp (lns s.sto) x) = some (Jp L' y) := by
 cases x with
 | a x =>
  simp only [Jih] at h
  split at h
  ·rename_i y hy; injection h with h; subst h; exact Jk2 h1 h2 hy
  ·cases h
 | tup vs =>
  simp only [Jih] at h
  split at h
  ·rename_i l hl
   injection h with h; subst h
   simp only [Jp, fin, JbM h1 h2 hl]
  ·cases h
theorem Jpk {x y : TB} (h : JeQ m ids s x = some y) : J3r m ids (Jb s).sto (JF (lns s.sto) x) = some (JF L' y) := by
 cases x with
 | mbox t cs =>
  simp only [JeQ] at h
  split at h
  ·rename_i l hl
   injection h with h; subst h
   simp only [JaO, J3r, J9s h1 h2 hl, JcT]
  ·cases h
 | box t x =>
  injection h with h; subst h
  simp only [Jaw, J3r, Jhl]
 | _ => injection h with h; subst h; rfl
theorem J9N : ∀ {xs ys : List TB}, J8f m ids s xs = some ys → J80 m ids (Jb s).sto (xs.map (JF (lns s.sto))) = some (ys.map (JF L'))
 | [], ys, h => by injection h with h; subst h; rfl
 | x :: r, ys, h => by
  simp only [J8f] at h
  split at h
  ·rename_i y l hy hl
   injection h with h; subst h
   simp only [List.map_cons, J80, Jpk h1 h2 hy, J9N hl]
  ·cases h
end
theorem JoF {m : Nat} {ids : List Nat} {s : TSt} {x y : TB} (h : JeQ m ids s x = some y) : lnB y = lnB x := by
 cases x with
 | mbox t cs =>
  simp only [JeQ] at h
  split at h
  ·injection h with h; subst h; exact JcD _ _
  ·cases h
 | _ => injection h with h; subst h; rfl
theorem J8E {m : Nat} {ids : List Nat} {s : TSt} : ∀ {xs ys : List TB}, J8f m ids s xs = some ys → ys.length = xs.length ∧ ∀ (k : Nat), lns ys k = lns xs k
 | [], ys, h => by injection h with h; subst h; exact ⟨rfl, fun _ => rfl⟩
 | x :: r, ys, h => by
  simp only [J8f] at h
  split at h
  ·rename_i y l hy hl
   injection h with h; subst h
   obtain ⟨q1, q2⟩ := J8E hl
   refine ⟨by simp [q1], fun k => ?_⟩
   cases k with
   | zero => exact JoF hy
   | succ k => exact q2 k
  ·cases h
theorem JjU {m : Nat} {s : TSt} {L' : Nat → Nat} (h1 : ∀ b, b < m → L' b = lns s.sto b) : ∀ {env env' : List (Nat × TV)}, Jid m s env = some env' → JbX m (Jb s).sto (J2X (lns s.sto) env) = some (J2X L' env')
 | [], env', h => by injection h with h; subst h; rfl
 | (k, x) :: r, env', h => by
  simp only [Jid] at h
  split at h
  ·rename_i y l hy hl
   injection h with h; subst h
   simp only [J2X, List.map_cons, JbX]
   rw [Jpu (ids := []) h1 (fun b k hk => by cases hk) hy]
   have ih := JjU h1 hl
   unfold J2X at ih
   rw [ih]
  ·cases h
def J6j (n : Nat) (live : List Nat) (s : TSt) : Option TSt :=
 if s.sto.length = n then some ⟨J4X live s.env, s.sto⟩
 else match Jid n s (J4X live s.env), J8f n [] s (s.sto.take n) with
  | some e, some l => some ⟨e, l⟩
  | _, _ => none
theorem J76 {n : Nat} {live : List Nat} {s s' : TSt} (h : J6j n live s = some s') : clean n live (Jb s) = some (Jb s') := by
 unfold J6j at h
 have hlen : (Jb s).sto.length = s.sto.length := by simp [Jb]
 split at h
 ·rename_i hn
  injection h with h; subst h
  unfold clean
  rw [hlen, if_pos hn]
  congr 1
  unfold Jb
  simp only [J8d]
 ·rename_i hn
  split at h
  ·rename_i e l he hl
   injection h with h; subst h
   obtain ⟨q1, q2⟩ := J8E hl
   have hL : ∀ b, b < n → lns l b = lns s.sto b := fun b hb => by
    rw [q2]
    unfold lns
    rw [List.getElem?_take_of_lt hb]
   unfold clean
   rw [hlen, if_neg hn]
   have e1 := JjU hL he
   have e2 := J9N (ids := []) hL (fun b k hk => by cases hk) hl
   have e3 : restr live (Jb s).env = J2X (lns s.sto) (J4X live s.env) := J8d _ _ _
   have e4 : (Jb s).sto.take n = (s.sto.take n).map (JF (lns s.sto)) := by unfold Jb; rw [List.map_take]
   rw [e3, e1, e4, e2]
   rfl
  ·cases h
inductive JgF where
 | tmp (t : Nat)
 | cell (t : Nat) (agg : Bool) (ty : Ty)
def erR : JgF → Jc8
 | .tmp t => .tmp t
 | .cell t agg ty => .cell t agg ty.sz
def Jno (agg : Bool) (ty : Ty) (v : TV) (s : TSt) : Option TA :=
 if agg = true ∨ ty.sz = 1 then
  match v with
  | .a (.c (.ptr b [])) => match s.sto[b]? with
   | some (.box t0 x) => if h : t0 = ty then (if agg = true then some (.dt ty (h ▸ x)) else some (.c (.d ty (h ▸ x)))) else none
   | some (.mbox _ cs) => if cs.length = ty.sz then
     match mka agg ty cs with
     | some (.a x) => some x
     | _ => none
    else none
   | _ => none
  | _ => none
 else none
theorem Jqf {agg : Bool} {ty : Ty} {v : TV} {s : TSt} {x : TA} (h : Jno agg ty v s = some x) : ∃ e, (J2V agg ty.sz (Jp (lns s.sto) v)).run (Jb s) = some e ∧ e.val = J0j (lns s.sto) x := by
 unfold Jno at h
 split at h
 ·rename_i ha
  split at h
  ·rename_i b
   split at h
   ·rename_i t0 y hb
    split at h
    ·rename_i h0
     subst h0
     refine ⟨⟨J0j (lns s.sto) x, []⟩, ?_, rfl⟩
     have hc : J2y agg ((cel t0 y).map .p) = J31 agg (cel t0 y) := by
      unfold J2y J31
      split
      ·rw [J9l]
      ·cases hcel : cel t0 y with
       | nil => rfl
       | cons a l => cases l <;> rfl
     have he : sub (cel t0 y) 0 t0.sz = some (cel t0 y) := Jgf (J0m _ _)
     have hm := JaC (lns s.sto) ha y
     simp only [J4I, spo, J2V, J0D, J0O, hb, Option.map_some, Option.bind_some, Jaw, J7O, he, hc, hm, val, Jh]
     unfold mkv
     split at h
     ·rename_i h1; injection h with h; subst h; rw [if_pos h1]; rfl
     ·rename_i h1; injection h with h; subst h; rw [if_neg h1]; rfl
    ·cases h
   ·rename_i cs hb
    split at h
    ·rename_i hn
     split at h
     ·rename_i y hy
      injection h with h; subst h
      have he : sub cs 0 ty.sz = some cs := Jgf hn
      refine ⟨⟨J0j (lns s.sto) y, []⟩, ?_, rfl⟩
      simp only [J4I, spo, J2V, J0D, J0O, hb, Option.map_some, Option.bind_some, JaO, J7O, he, JaL (lns s.sto) hy, val, Jh]
      rfl
     ·cases h
    ·cases h
   ·cases h
  ·cases h
 ·cases h
def Jgu : List JgF → TSt → Option (List TA)
 | [], _ => some []
 | .tmp t :: r, s => match tlk t s.env, Jgu r s with
  | some (.a x), some l => some (x :: l)
  | _, _ => none
 | .cell t agg ty :: r, s => match tlk t s.env with
  | some v => match Jno agg ty v s, Jgu r s with
   | some x, some l => some (x :: l)
   | _, _ => none
  | none => none
theorem JlI (s : TSt) (t : Nat) : (RM.slot t RM.ret).run (Jb s) = (tlk t s.env).map (Jp (lns s.sto)) := by
 rw [J5o]
 show (lk t (J2X _ s.env)).bind _ = _
 rw [J9h]
 cases tlk t s.env <;> rfl
theorem Jgc {s : TSt} : ∀ {rs : List JgF} {l : List TA}, Jgu rs s = some l → (J8l (rs.map erR)).run (Jb s) = some (l.map (J0j (lns s.sto)))
 | [], l, h => by injection h with h; subst h; rfl
 | .tmp t :: r, l, h => by
  simp only [Jgu] at h
  split at h
  ·rename_i x l' hx hl
   injection h with h; subst h
   simp only [List.map_cons, erR, J8l, run_bind, JlI, hx, Option.map_some, Option.bind_some, Jgc hl, Jh]
   rfl
  ·cases h
 | .cell t agg ty :: r, l, h => by
  simp only [Jgu] at h
  split at h
  ·rename_i v hv
   split at h
   ·rename_i x l' hx hl
    injection h with h; subst h
    obtain ⟨e, q1, q2⟩ := Jqf hx
    simp only [List.map_cons, erR, J8l, run_bind, JlI, hv, Option.map_some, Option.bind_some, q1, Jgc hl, Jh, q2]
   ·cases h
  ·cases h
def Jeu (s : TSt) : List Nat → List Nat → Option (List Nat)
 | [], acc => some acc
 | b :: r, acc => match s.sto[b]? with
  | some (.mbox _ cs) => match J9W cs acc with
   | some acc => Jeu s r acc
   | none => none
  | some _ => Jeu s r acc
  | none => none
theorem Jbo {s : TSt} : ∀ {r acc l : List Nat}, Jeu s r acc = some l → J86 (Jb s).sto (r.map .whole) (acc.map .whole) = l.map .whole
 | [], acc, l, h => by injection h with h; subst h; rfl
 | b :: r, acc, l, h => by
  simp only [Jeu] at h
  split at h
  ·rename_i cs hb
   split at h
   ·rename_i acc' ha
    simp only [List.map_cons, J86, J0O, hb, Option.map_some, JaO, J7S (lns s.sto) ha]
    exact Jbo h
   ·cases h
  ·rename_i x hn hb
   simp only [List.map_cons, J86, J0O, hb, Option.map_some]
   cases x with
   | mbox t cs => exact absurd rfl (hn t cs)
   | box t x =>
    simp only [Jaw]
    rw [Jho]
    exact Jbo h
   | _ => exact Jbo h
  ·cases h
def J2W (m : Nat) (fresh : Bool) (s : TSt) : List Nat → List Nat
 | [] => []
 | b :: r => if b < m then J2W m fresh s r else
  match s.sto[b]? with
  | some (.box _ _) => b :: J2W m fresh s r
  | some (.mbox _ _) => b :: J2W m fresh s r
  | some (.arr _ _ _) => if fresh = true then b :: J2W m fresh s r else J2W m fresh s r
  | _ => J2W m fresh s r
theorem JeB {m : Nat} {fresh : Bool} {s : TSt} : ∀ r : List Nat, J3b m fresh (Jb s).sto (r.map .whole) = J2W m fresh s r
 | [] => rfl
 | b :: r => by
  simp only [List.map_cons, J3b, J2W, J0O]
  rw [JeB r]
  split
  ·rfl
  ·cases s.sto[b]? with
   | none => rfl
   | some x => cases x <;> rfl
def Ji9 (s : TSt) : List Nat → Option (List TB)
 | [] => some []
 | b :: r => match s.sto[b]?, Ji9 s r with
  | some x, some l => some (x :: l)
  | _, _ => none
theorem Jjr {s : TSt} : ∀ {ids : List Nat} {l : List TB}, Ji9 s ids = some l → J9F (Jb s).sto ids = some (l.map (JF (lns s.sto))) ∧ l.length = ids.length ∧ ∀ (j b : Nat), ids[j]? = some b → lns l j = lns s.sto b
 | [], l, h => by injection h with h; subst h; exact ⟨rfl, rfl, fun j b h => by simp at h⟩
 | b :: r, l, h => by
  simp only [Ji9] at h
  split at h
  ·rename_i x l' hx hl
   injection h with h; subst h
   obtain ⟨q1, q2, q3⟩ := Jjr hl
   refine ⟨by simp only [J9F, J0O, hx, Option.map_some, q1, List.map_cons], by simp [q2], fun j c hj => ?_⟩
   cases j with
   | zero =>
    simp at hj; subst hj
    unfold lns
    rw [hx]; rfl
   | succ j => exact q3 j c (by simpa using hj)
  ·cases h
def JjT : List TA → TV
 | [x] => .a x
 | l => .tup l
theorem Jm8 (L : Nat → Nat) (l : List TA) : one (l.map (J0j L)) = Jp L (JjT l) := by
 match l with
 | [] => rfl
 | [x] => rfl
 | x :: y :: r => rfl
section
variable {R : Type}
def JaJ (res : List JgF) (fresh : Bool) (m : Nat) (s : TSt) (E : TV → List TB → Option R) : Option R :=
 match Jgu res s with
 | none => none
 | some vs =>
  if s.sto.length = m then E (JjT vs) s.sto
  else match Jan vs [] with
   | none => none
   | some i0 => match Jeu s i0 i0 with
    | none => none
    | some i1 => if J3f (J2W m fresh s i1) = true ∧ m ≤ s.sto.length then
      match Jcn m (J2W m fresh s i1) s vs, J8f m (J2W m fresh s i1) s (s.sto.take m), Ji9 s (J2W m fresh s i1) with
      | some ws, some l, some q => match J8f m (J2W m fresh s i1) s q with
       | some q' => E (JjT ws) (l ++ q')
       | none => none
      | _, _, _ => none
     else none
theorem JmV {f : AFn} {res : List JgF} {fresh : Bool} {m : Nat} {s : TSt} {E : TV → List TB → Option R} {r : R} (hres : f.res = res.map erR) (hfr : f.fresh = fresh) (h : JaJ res fresh m s E = some r) :
  ∃ v out, J2p f m (Jb s) = some (Jp (lns out) v, out.map (JF (lns out))) ∧ E v out = some r := by
 unfold JaJ at h
 have hlen : (Jb s).sto.length = s.sto.length := by simp [Jb]
 split at h
 ·cases h
 ·rename_i vs hvs
  have e0 := Jgc hvs
  split at h
  ·rename_i hn
   refine ⟨JjT vs, s.sto, ?_, h⟩
   unfold J2p
   rw [hres, e0]
   dsimp only
   rw [hlen, if_pos hn, Jm8]
   rfl
  ·rename_i hn
   split at h
   ·cases h
   ·rename_i i0 hi0
    split at h
    ·cases h
    ·rename_i i1 hi1
     split at h
     ·rename_i hnd0
      obtain ⟨hnd, hm⟩ := hnd0
      generalize hids : J2W m fresh s i1 = ids at *
      split at h
      ·rename_i ws l q hws hl hq
       split at h
       ·rename_i q' hq'
        refine ⟨JjT ws, l ++ q', ?_, h⟩
        obtain ⟨l1, l2⟩ := J8E hl
        obtain ⟨p1, p2, p3⟩ := Jjr hq
        obtain ⟨r1, r2⟩ := J8E hq'
        have hll : l.length = m := by rw [l1, List.length_take]; omega
        have h1 : ∀ b, b < m → lns (l ++ q') b = lns s.sto b := fun b hb => by
         have := l2 b
         unfold lns at this ⊢
         rw [List.getElem?_append_left (by omega), this, List.getElem?_take_of_lt hb]
        have h2 : ∀ b k, J34 b ids m = some k → lns (l ++ q') k = lns s.sto b := fun b k hk => by
         obtain ⟨hk1, hk2⟩ := J9M hk
         have := r2 (k - m)
         rw [p3 (k - m) b hk2] at this
         rw [← this]
         unfold lns
         rw [List.getElem?_append_right (by omega), hll]
        have e1 := JbM h1 h2 hws
        have e2 := J9N h1 h2 hl
        have e3 := J9N h1 h2 hq'
        have e4 : JW.entsOfL (vs.map (J0j (lns s.sto))) [] = i0.map .whole := J9z (lns s.sto) (l := []) hi0
        have e5 := Jbo hi1
        have e6 := JeB (m := m) (fresh := fresh) (s := s) i1
        rw [hids] at e6
        have e7 : (Jb s).sto.take m = (s.sto.take m).map (JF (lns s.sto)) := by unfold Jb; rw [List.map_take]
        unfold J2p
        rw [hres, e0]
        dsimp only
        rw [hlen, if_neg hn, e4, e5, hfr, e6]
        simp only [hnd, if_true, e1, e7, e2, p1, e3, List.map_append, Jm8]
       ·cases h
      ·cases h
     ·cases h
end
end Go.Am
end
section
namespace Go.Am
inductive ShC where
 | d (t : Ty)
 | sc (t : Ty)
 | np
 | nf
 | un
 | ptr (b : Nat) (p : List Sp)
 | cp (t : Ty) (p : List Sp)
 | slr (b : Nat)
 | fn (f : FuncId)
 deriving DecidableEq
inductive ShA where
 | c (x : ShC)
 | dt (t : Ty)
 | m (t : Ty) (cs : List ShC)
 | fn (f : FuncId) (a c : List ShC)
 deriving DecidableEq
inductive ShV where
 | a (x : ShA)
 | tup (vs : List ShA)
 deriving DecidableEq
inductive ShB where
 | dead
 | box (t : Ty)
 | mbox (t : Ty) (cs : List ShC)
 | arr (w : Bool) (t : Ty)
 deriving DecidableEq
structure ShS where
 env : List (Nat × ShV)
 sto : List ShB
 deriving DecidableEq
abbrev Lf := (t : Ty) × t.D
def shC : TC → Option (ShC × List Lf)
 | .d t x => some (.d t, [⟨t, x⟩])
 | .sc t rows => some (.sc t, [⟨.l t, rows⟩])
 | .np => some (.np, [])
 | .nf => some (.nf, [])
 | .un => some (.un, [])
 | .ptr b p => if (JaP p).isSome = true then some (.ptr b p, []) else none
 | .cp t x p => if (JaP p).isSome = true then some (.cp t p, [⟨t, x⟩]) else none
 | .slr b => some (.slr b, [])
 | .fn f => some (.fn f, [])
 | _ => none
def lf1 (t : Ty) (l : List Lf) : Option (t.D × List Lf) :=
 match l with
 | ⟨t', x⟩ :: r => if h : t' = t then some (h ▸ x, r) else none
 | [] => none
def mkC : ShC → List Lf → Option (TC × List Lf)
 | .d t, l => match lf1 t l with
  | some (x, r) => some (.d t x, r)
  | none => none
 | .sc t, l => match lf1 (.l t) l with
  | some (x, r) => some (.sc t x, r)
  | none => none
 | .np, l => some (.np, l)
 | .nf, l => some (.nf, l)
 | .un, l => some (.un, l)
 | .ptr b p, l => some (.ptr b p, l)
 | .cp t p, l => match lf1 t l with
  | some (x, r) => some (.cp t x p, r)
  | none => none
 | .slr b, l => some (.slr b, l)
 | .fn f, l => some (.fn f, l)
theorem Jc9 (t : Ty) (x : t.D) (r : List Lf) : lf1 t (⟨t, x⟩ :: r) = some (x, r) := by simp [lf1]
theorem JbK {x : TC} {sh : ShC} {ls : List Lf} (h : shC x = some (sh, ls)) (rest : List Lf) : mkC sh (ls ++ rest) = some (x, rest) := by
  cases x <;> simp only [shC] at h <;> first
    | (split at h
       · simp only [Option.some.injEq, Prod.mk.injEq] at h
         obtain ⟨rfl, rfl⟩ := h
         simp only [List.cons_append, List.nil_append, mkC, Jc9]
       · cases h)
    | (simp only [Option.some.injEq, Prod.mk.injEq] at h
       obtain ⟨rfl, rfl⟩ := h
       simp only [List.cons_append, List.nil_append, mkC, Jc9])
    | cases h
def shL {α σ : Type} (f : α → Option (σ × List Lf)) : List α → Option (List σ × List Lf)
 | [] => some ([], [])
 | x :: r => match f x, shL f r with
  | some (s, l), some (q, k) => some (s :: q, l ++ k)
  | _, _ => none
def mkL {α σ : Type} (g : σ → List Lf → Option (α × List Lf)) : List σ → List Lf → Option (List α × List Lf)
 | [], l => some ([], l)
 | s :: r, l => match g s l with
  | some (x, l) => match mkL g r l with
   | some (q, l) => some (x :: q, l)
   | none => none
  | none => none
theorem J5x {α σ : Type} {f : α → Option (σ × List Lf)} {g : σ → List Lf → Option (α × List Lf)} (hfg : ∀ {x : α} {s : σ} {ls : List Lf}, f x = some (s, ls) → ∀ rest, g s (ls ++ rest) = some (x, rest)) :
  ∀ {xs : List α} {ss : List σ} {ls : List Lf}, shL f xs = some (ss, ls) → ∀ rest, mkL g ss (ls ++ rest) = some (xs, rest)
 | [], ss, ls, h, rest => by injection h with h; injection h with h1 h2; subst h1 h2; rfl
 | x :: r, ss, ls, h, rest => by
  simp only [shL] at h
  split at h
  ·rename_i s l q k h1 h2
   injection h with h; injection h with h3 h4; subst h3 h4
   simp only [mkL, List.append_assoc, hfg h1, J5x hfg h2]
  ·cases h
def shA : TA → Option (ShA × List Lf)
 | .c x => match shC x with
  | some (s, l) => some (.c s, l)
  | none => none
 | .dt t x => some (.dt t, [⟨t, x⟩])
 | .m t cs => match shL shC cs with
  | some (s, l) => some (.m t s, l)
  | none => none
 | .fn f a c => match shL shC a, shL shC c with
  | some (s, l), some (q, k) => some (.fn f s q, l ++ k)
  | _, _ => none
def mkA : ShA → List Lf → Option (TA × List Lf)
 | .c s, l => match mkC s l with
  | some (x, l) => some (.c x, l)
  | none => none
 | .dt t, l => match lf1 t l with
  | some (x, l) => some (.dt t x, l)
  | none => none
 | .m t s, l => match mkL mkC s l with
  | some (x, l) => some (.m t x, l)
  | none => none
 | .fn f a c, l => match mkL mkC a l with
  | some (x, l) => match mkL mkC c l with
   | some (y, l) => some (.fn f x y, l)
   | none => none
  | none => none
theorem Jiz {x : TA} {sh : ShA} {ls : List Lf} (h : shA x = some (sh, ls)) (rest : List Lf) : mkA sh (ls ++ rest) = some (x, rest) := by
 cases x with
 | c x =>
  simp only [shA] at h
  split at h
  ·rename_i s l h1
   injection h with h; injection h with h2 h3; subst h2 h3
   simp only [mkA, JbK h1]
  ·cases h
 | dt t x =>
  injection h with h; injection h with h2 h3; subst h2 h3
  simp only [mkA, List.cons_append, List.nil_append, Jc9]
 | m t cs =>
  simp only [shA] at h
  split at h
  ·rename_i s l h1
   injection h with h; injection h with h2 h3; subst h2 h3
   simp only [mkA, J5x JbK h1]
  ·cases h
 | fn f a c =>
  simp only [shA] at h
  split at h
  ·rename_i s l q k h1 h2
   injection h with h; injection h with h3 h4; subst h3 h4
   simp only [mkA, List.append_assoc, J5x JbK h1, J5x JbK h2]
  ·cases h
def shV : TV → Option (ShV × List Lf)
 | .a x => match shA x with
  | some (s, l) => some (.a s, l)
  | none => none
 | .tup vs => match shL shA vs with
  | some (s, l) => some (.tup s, l)
  | none => none
def mkV : ShV → List Lf → Option (TV × List Lf)
 | .a s, l => match mkA s l with
  | some (x, l) => some (.a x, l)
  | none => none
 | .tup s, l => match mkL mkA s l with
  | some (x, l) => some (.tup x, l)
  | none => none
theorem Joc {x : TV} {sh : ShV} {ls : List Lf} (h : shV x = some (sh, ls)) (rest : List Lf) : mkV sh (ls ++ rest) = some (x, rest) := by
 cases x with
 | a x =>
  simp only [shV] at h
  split at h
  ·rename_i s l h1
   injection h with h; injection h with h2 h3; subst h2 h3
   simp only [mkV, Jiz h1]
  ·cases h
 | tup vs =>
  simp only [shV] at h
  split at h
  ·rename_i s l h1
   injection h with h; injection h with h2 h3; subst h2 h3
   simp only [mkV, J5x Jiz h1]
  ·cases h
def shB : TB → Option (ShB × List Lf)
 | .dead => some (.dead, [])
 | .box t x => some (.box t, [⟨t, x⟩])
 | .mbox t cs => match shL shC cs with
  | some (s, l) => some (.mbox t s, l)
  | none => none
 | .arr w t rows => some (.arr w t, [⟨.l t, rows⟩])
def mkB : ShB → List Lf → Option (TB × List Lf)
 | .dead, l => some (.dead, l)
 | .box t, l => match lf1 t l with
  | some (x, l) => some (.box t x, l)
  | none => none
 | .mbox t s, l => match mkL mkC s l with
  | some (x, l) => some (.mbox t x, l)
  | none => none
 | .arr w t, l => match lf1 (.l t) l with
  | some (x, l) => some (.arr w t x, l)
  | none => none
theorem Jjv {x : TB} {sh : ShB} {ls : List Lf} (h : shB x = some (sh, ls)) (rest : List Lf) : mkB sh (ls ++ rest) = some (x, rest) := by
 cases x with
 | dead => injection h with h; injection h with h2 h3; subst h2 h3; rfl
 | box t x => injection h with h; injection h with h2 h3; subst h2 h3; simp only [mkB, List.cons_append, List.nil_append, Jc9]
 | mbox t cs =>
  simp only [shB] at h
  split at h
  ·rename_i s l h1
   injection h with h; injection h with h2 h3; subst h2 h3
   simp only [mkB, J5x JbK h1]
  ·cases h
 | arr w t rows => injection h with h; injection h with h2 h3; subst h2 h3; simp only [mkB, List.cons_append, List.nil_append, Jc9]
def shE (x : Nat × TV) : Option ((Nat × ShV) × List Lf) := match shV x.2 with
 | some (s, l) => some ((x.1, s), l)
 | none => none
def mkE (x : Nat × ShV) (l : List Lf) : Option ((Nat × TV) × List Lf) := match mkV x.2 l with
 | some (v, l) => some ((x.1, v), l)
 | none => none
theorem Jt0 {x : Nat × TV} {sh : Nat × ShV} {ls : List Lf} (h : shE x = some (sh, ls)) (rest : List Lf) : mkE sh (ls ++ rest) = some (x, rest) := by
 unfold shE at h
 split at h
 ·rename_i s l h1
  injection h with h; injection h with h2 h3; subst h2 h3
  simp only [mkE, Joc h1]
 ·cases h
def shS (s : TSt) : Option (ShS × List Lf) := match shL shE s.env, shL shB s.sto with
 | some (a, l), some (c, k) => some (⟨a, c⟩, l ++ k)
 | _, _ => none
def Jcl (s : ShS) (l : List Lf) : Option TSt := match mkL mkE s.env l with
 | some (a, l) => match mkL mkB s.sto l with
  | some (c, []) => some ⟨a, c⟩
  | _ => none
 | none => none
theorem Jm0 {x : TSt} {sh : ShS} {ls : List Lf} (h : shS x = some (sh, ls)) : Jcl sh ls = some x := by
 unfold shS at h
 split at h
 ·rename_i a l c k h1 h2
  injection h with h; injection h with h3 h4; subst h3 h4
  have e := J5x Jjv h2 []
  rw [List.append_nil] at e
  simp only [Jcl, J5x Jt0 h1, e]
 ·cases h
def tyL : List Ty → Ty
 | [] => .u
 | [t] => t
 | t :: t' :: r => .pr t (tyL (t' :: r))
def JbO : (ls : List Lf) → (tyL (ls.map (·.1))).D
 | [] => ()
 | [x] => x.2
 | x :: y :: r => (x.2, JbO (y :: r))
def J6A : (ts : List Ty) → (tyL ts).D → List Lf
 | [], _ => []
 | [t], x => [⟨t, x⟩]
 | t :: t' :: r, x => ⟨t, x.1⟩ :: J6A (t' :: r) x.2
theorem Jco : ∀ ls : List Lf, J6A (ls.map (·.1)) (JbO ls) = ls
 | [] => rfl
 | [x] => rfl
 | x :: y :: r => by
  have := Jco (y :: r)
  show ⟨x.1, x.2⟩ :: J6A ((y :: r).map (·.1)) (JbO (y :: r)) = _
  rw [this]
def asL (ts : List Ty) (ls : List Lf) : Option (tyL ts).D := if h : ls.map (·.1) = ts then some (h ▸ JbO ls) else none
theorem Jk1 {ts : List Ty} {ls : List Lf} {x : (tyL ts).D} (h : asL ts ls = some x) : J6A ts x = ls := by
 unfold asL at h
 split at h
 ·rename_i h0; subst h0
  injection h with h; subst h
  exact Jco ls
 ·cases h
def Jgy (sh : ShS) (ts : List Ty) (s : TSt) : Option (tyL ts).D := match shS s with
 | some (sh', ls) => if sh' = sh then asL ts ls else none
 | none => none
theorem Jm6 {sh : ShS} {ts : List Ty} {s : TSt} {x : (tyL ts).D} (h : Jgy sh ts s = some x) : Jcl sh (J6A ts x) = some s := by
 unfold Jgy at h
 split at h
 ·rename_i sh' ls hs
  split at h
  ·rename_i e; subst e
   rw [Jk1 h]; exact Jm0 hs
  ·cases h
 ·cases h
inductive TCo where
 | skip
 | bad
 | reg (draw : Bool) (pairs : List (Nat × Nat)) (ins : List J6H)
 | seq (a b : TCo)
 | cond (c : TO) (a b : TCo)
 | block (id : Nat) (c : TCo)
 | loop (live : List Nat) (c : TCo)
 | scope (c : TCo)
 | exit (id : Nat)
 | ret
 | keep (live : List Nat) (c : TCo)
 | tidy (live : List Nat) (c : TCo)
 | jn (sh : ShS) (ts : List Ty) (a b : TCo)
def erc : TCo → J07
 | .skip => .skip
 | .bad => .bad
 | .reg d p ins => .reg d p (ins.map eri)
 | .seq a b => .seq (erc a) (erc b)
 | .cond c a b => .cond (erO c) (erc a) (erc b)
 | .block id c => .block id (erc c)
 | .loop live c => .loop live (erc c)
 | .scope c => .scope (erc c)
 | .exit id => .exit id
 | .ret => .ret
 | .keep live c => .keep live (erc c)
 | .tidy live c => .tidy live (erc c)
 | .jn sh _ a b => .seq (erc a) (.keep (sh.env.map (·.1)) (erc b))
structure TK (R : Type) where
 n : TSt → Option R
 x : Nat → TSt → Option R
 r : TSt → Option R
def TK.at' {R : Type} (K : TK R) : AX → TSt → Option R
 | .normal => K.n
 | .exit i => K.x i
 | .ret => K.r
def rbO (c : TO) (v : Bool) (s : TSt) : TSt := match c with
 | .t n => rb n (vb v) s
 | .c _ => s
def jnO {σ R : Type} (m : Option (σ ⊕ R)) (f : σ → Option R) : Option R := match m with
 | some (.inl x) => f x
 | some (.inr r) => some r
 | none => none
def inl? {σ R : Type} (m : Option σ) : Option (σ ⊕ R) := match m with
 | some x => some (.inl x)
 | none => none
def onO {α R : Type} (m : Option α) (k : α → Option R) : Option R := match m with
 | some x => k x
 | none => none
theorem J4h {α R : Type} {m : Option α} {k : α → Option R} {r : R} (h : onO m k = some r) : ∃ x, m = some x ∧ k x = some r := by
 cases m with
 | none => cases h
 | some x => exact ⟨x, rfl, h⟩
def JmP {R : Type} (clean : TSt → Option TSt) (body : (TSt → Option R) → TSt → Option R) : Nat → TSt → Option R
 | 0, _ => none
 | k + 1, s => body (fun s' => onO (clean s') (JmP clean body k)) s
def orO {σ R : Type} (m : Option σ) (f : Unit → Option R) : Option (σ ⊕ R) := match m with
 | some x => some (.inl x)
 | none => (f ()).map .inr
noncomputable def trc (G : TG) : TCo → (R : Type) → TK R → TSt → Option R
 | .skip, _, K, s => K.n s
 | .bad, _, _, _ => none
 | .reg _ p ins, _, K, s => Jqr G p ins s K.n
 | .seq a b, R, K, s => trc G a R ⟨fun s => trc G b R K s, K.x, K.r⟩ s
 | .cond c a b, R, K, s => match tev c s with
  | some (.a (.c (.d .b x))) => if x = true then trc G a R K (rbO c true s) else trc G b R K (rbO c false s)
  | _ => none
 | .block id c, R, K, s => trc G c R ⟨K.n, fun i s => if i = id then K.n s else K.x i s, K.r⟩ s
 | .loop live c, R, K, s => onO (shS ⟨J4X live s.env, s.sto⟩) fun (sh, ls) =>
   Jz (fun x : (tyL (ls.map (·.1))).D => onO (Jcl sh (J6A (ls.map (·.1)) x)) fun s1 =>
    trc G c ((tyL (ls.map (·.1))).D ⊕ R) ⟨fun s' => onO (J6j s.sto.length live s') fun s' => orO (Jgy sh (ls.map (·.1)) s') fun _ => JmP (J6j s.sto.length live) (fun again s => trc G c R ⟨again, K.x, K.r⟩ s) 3 s', fun i s' => (K.x i s').map .inr, fun s' => (K.r s').map .inr⟩ s1) (JbO ls)
 | .scope c, R, K, s => trc G c R K s
 | .exit id, _, K, s => K.x id s
 | .ret, _, K, s => K.r s
 | .keep live c, R, K, s => trc G c R K ⟨J4X live s.env, s.sto⟩
 | .tidy live c, R, K, s => trc G c R ⟨fun s' => onO (J6j s.sto.length live s') K.n, fun i s' => onO (J6j s.sto.length live s') (K.x i), fun s' => onO (J6j s.sto.length live s') K.r⟩ s
 | .jn sh ts a b, R, K, s => jnO (trc G a ((tyL ts).D ⊕ R) ⟨fun s' => inl? (Jgy sh ts ⟨J4X (sh.env.map (·.1)) s'.env, s'.sto⟩), fun i s' => (K.x i s').map .inr, fun s' => (K.r s').map .inr⟩ s)
   fun x => onO (Jcl sh (J6A ts x)) fun s1 => trc G b R K s1
theorem Je6 (live : List Nat) (s : TSt) : Jb ⟨J4X live s.env, s.sto⟩ = ⟨restr live (Jb s).env, (Jb s).sto⟩ := by
 unfold Jb
 simp only [J8d]
theorem Jok {c : TO} {x : Bool} {s : TSt} (h : tev c s = some (vb x)) : rbO c x s = s := by
 cases c with
 | t n => exact Jjc h
 | c v => rfl
theorem Jp4 {σ R : Type} {m : Option σ} {o : σ ⊕ R} (h : inl? m = some o) : ∃ x, m = some x ∧ o = .inl x := by
 cases m with
 | none => cases h
 | some x => injection h with h; exact ⟨x, rfl, h.symm⟩
theorem J3S {T : J21} {G : TG} (hG : GOk (AF T) G) : ∀ {c : TCo} {R : Type} {K : TK R} {s : TSt} {r : R}, trc G c R K s = some r → ∃ o s', X T (erc c) (Jb s) = some (o, Jb s') ∧ K.at' o s' = some r
 | .skip, R, K, s, r, h => ⟨.normal, s, by rw [erc, Jtq], h⟩
 | .bad, R, K, s, r, h => by cases h
 | .reg d p ins, R, K, s, r, h => by
  obtain ⟨s', h1, h2⟩ := Jss hG h
  exact ⟨.normal, s', by rw [erc, JqS, h1]; rfl, h2⟩
 | .seq a b, R, K, s, r, h => by
  obtain ⟨o, s1, h1, h2⟩ := J3S hG (c := a) h
  rw [erc, JqM, h1]
  cases o with
  | normal =>
   obtain ⟨o, s2, h3, h4⟩ := J3S hG (c := b) h2
   exact ⟨o, s2, h3, h4⟩
  | exit i => exact ⟨.exit i, s1, rfl, h2⟩
  | ret => exact ⟨.ret, s1, rfl, h2⟩
 | .cond c a b, R, K, s, r, h => by
  unfold trc at h
  split at h
  ·rename_i x hx
   have e : evv (erO c) (Jb s).env = some (.p (.b x)) := by
    rw [← JeG (erO c) (Jb s), Jw hx]; rfl
   rw [erc, JsA, e, JqL]
   split at h
   ·rename_i hx1
    subst hx1
    rw [Jok hx] at h
    simp only [if_true]
    exact J3S hG (c := a) h
   ·rename_i hx1
    have : x = false := by simpa using hx1
    subst this
    rw [Jok hx] at h
    simp only [Bool.false_eq_true, if_false]
    exact J3S hG (c := b) h
  ·cases h
 | .block id c, R, K, s, r, h => by
  obtain ⟨o, s1, h1, h2⟩ := J3S hG (c := c) h
  rw [erc, Jsl, h1]
  cases o with
  | normal => exact ⟨.normal, s1, rfl, h2⟩
  | exit i =>
   simp only [Jkw]
   simp only [TK.at'] at h2
   split at h2
   ·rename_i hi; rw [if_pos hi]; exact ⟨.normal, s1, rfl, h2⟩
   ·rename_i hi; rw [if_neg hi]; exact ⟨.exit i, s1, rfl, h2⟩
  | ret => exact ⟨.ret, s1, rfl, h2⟩
 | .loop live c, R, K, s, r, h => by
  unfold trc at h
  obtain ⟨⟨sh, ls⟩, hs, h⟩ := J4h h
  dsimp only at h
  have hpeel : ∀ (k : Nat) {s2 : TSt} {r : R}, JmP (J6j s.sto.length live) (fun again s => trc G c R ⟨again, K.x, K.r⟩ s) k s2 = some r →
    ∃ o s', X T (.lp s.sto.length live (erc c)) (Jb s2) = some (o, Jb s') ∧ K.at' o s' = some r := by
   intro k
   induction k with
   | zero => intro s2 r h; cases h
   | succ k ih =>
    intro s2 r h
    obtain ⟨o, s3, h1, h2⟩ := J3S hG (c := c) h
    rw [Jq1, h1]
    cases o with
    | normal =>
     obtain ⟨s4, hc, h2⟩ := J4h h2
     simp only [J7c, J76 hc]
     exact ih h2
    | exit i => exact ⟨.exit i, s3, rfl, h2⟩
    | ret => exact ⟨.ret, s3, rfl, h2⟩
  have key : ∀ {x : (tyL (ls.map (·.1))).D} {r : R}, Jz (fun x : (tyL (ls.map (·.1))).D => onO (Jcl sh (J6A (ls.map (·.1)) x)) fun s1 =>
    trc G c ((tyL (ls.map (·.1))).D ⊕ R) ⟨fun s' => onO (J6j s.sto.length live s') fun s' => orO (Jgy sh (ls.map (·.1)) s') fun _ => JmP (J6j s.sto.length live) (fun again s => trc G c R ⟨again, K.x, K.r⟩ s) 3 s', fun i s' => (K.x i s').map .inr, fun s' => (K.r s').map .inr⟩ s1) x = some r →
    ∃ st, Jcl sh (J6A (ls.map (·.1)) x) = some st ∧ ∃ o s', X T (.lp s.sto.length live (erc c)) (Jb st) = some (o, Jb s') ∧ K.at' o s' = some r := by
   intro x r hw
   refine JnR (P := fun (x : (tyL (ls.map (·.1))).D) (r : R) => ∃ st, Jcl sh (J6A (ls.map (·.1)) x) = some st ∧ ∃ o s', X T (.lp s.sto.length live (erc c)) (Jb st) = some (o, Jb s') ∧ K.at' o s' = some r) ?_ ?_ hw
   ·intro x r hx
    obtain ⟨st, hst, hx⟩ := J4h hx
    obtain ⟨o, s1, h1, h2⟩ := J3S hG (c := c) hx
    refine ⟨st, hst, ?_⟩
    rw [Jq1, h1]
    cases o with
    | normal =>
     obtain ⟨s2, hc, h2⟩ := J4h h2
     unfold orO at h2
     split at h2
     ·cases h2
     ·obtain ⟨r', h3, h4⟩ := Option.map_eq_some_iff.1 h2
      injection h4 with h4; subst h4
      simp only [J7c, J76 hc]
      exact hpeel 3 h3
    | exit i =>
     obtain ⟨r', h3, h4⟩ := Option.map_eq_some_iff.1 h2
     injection h4 with h4; subst h4
     exact ⟨.exit i, s1, rfl, h3⟩
    | ret =>
     obtain ⟨r', h3, h4⟩ := Option.map_eq_some_iff.1 h2
     injection h4 with h4; subst h4
     exact ⟨.ret, s1, rfl, h3⟩
   ·rintro x y r hx ⟨st', hst', o, s3, h5, h6⟩
    obtain ⟨st, hst, hx⟩ := J4h hx
    obtain ⟨o1, s1, h1, h2⟩ := J3S hG (c := c) hx
    refine ⟨st, hst, ?_⟩
    rw [Jq1, h1]
    cases o1 with
    | normal =>
     obtain ⟨s2, hc, h2⟩ := J4h h2
     unfold orO at h2
     split at h2
     ·rename_i z hz
      injection h2 with h2; injection h2 with h2; subst h2
      have e := Jm6 hz
      rw [hst'] at e
      injection e with e; subst e
      simp only [J7c, J76 hc]
      exact ⟨o, s3, h5, h6⟩
     ·obtain ⟨r', _, h4⟩ := Option.map_eq_some_iff.1 h2
      cases h4
    | exit i =>
     obtain ⟨r', _, h4⟩ := Option.map_eq_some_iff.1 h2
     cases h4
    | ret =>
     obtain ⟨r', _, h4⟩ := Option.map_eq_some_iff.1 h2
     cases h4
  obtain ⟨st, hst, o, s', h1, h2⟩ := key h
  rw [Jco, Jm0 hs] at hst
  injection hst with hst; subst hst
  refine ⟨o, s', ?_, h2⟩
  have e : X T (.loop live (erc c)) (Jb s) = X T (.lp (Jb s).sto.length live (erc c)) ⟨restr live (Jb s).env, (Jb s).sto⟩ := JsG T live (erc c) _ _
  rw [erc, e, ← Je6, show (Jb s).sto.length = s.sto.length by simp [Jb]]
  exact h1
 | .scope c, R, K, s, r, h => by
  obtain ⟨o, s1, h1, h2⟩ := J3S hG (c := c) h
  exact ⟨o, s1, by rw [erc, JrY]; exact h1, h2⟩
 | .exit id, R, K, s, r, h => ⟨.exit id, s, by rw [erc, JsS], h⟩
 | .ret, R, K, s, r, h => ⟨.ret, s, by rw [erc, JtS], h⟩
 | .keep live c, R, K, s, r, h => by
  obtain ⟨o, s1, h1, h2⟩ := J3S hG (c := c) h
  exact ⟨o, s1, by rw [erc, Jo6, ← Je6]; exact h1, h2⟩
 | .tidy live c, R, K, s, r, h => by
  obtain ⟨o, s1, h1, h2⟩ := J3S hG (c := c) h
  rw [erc, JsJ, h1, JkM, show (Jb s).sto.length = s.sto.length by simp [Jb]]
  cases o with
  | normal => obtain ⟨s2, h3, h4⟩ := J4h h2; rw [J76 h3]; exact ⟨.normal, s2, rfl, h4⟩
  | exit i => obtain ⟨s2, h3, h4⟩ := J4h h2; rw [J76 h3]; exact ⟨.exit i, s2, rfl, h4⟩
  | ret => obtain ⟨s2, h3, h4⟩ := J4h h2; rw [J76 h3]; exact ⟨.ret, s2, rfl, h4⟩
 | .jn sh ts a b, R, K, s, r, h => by
  unfold trc at h
  rw [erc, JqM]
  cases ho : trc G a ((tyL ts).D ⊕ R) ⟨fun s' => inl? (Jgy sh ts ⟨J4X (sh.env.map (·.1)) s'.env, s'.sto⟩), fun i s' => (K.x i s').map .inr, fun s' => (K.r s').map .inr⟩ s with
  | none => rw [ho] at h; cases h
  | some res =>
   rw [ho] at h
   obtain ⟨o, s1, h1, h2⟩ := J3S hG (c := a) ho
   rw [h1]
   cases o with
   | normal =>
    obtain ⟨x, hx, rfl⟩ := Jp4 h2
    obtain ⟨s2, h3, h4⟩ := J4h h
    rw [Jm6 hx] at h3
    injection h3 with h3; subst h3
    obtain ⟨o, s3, h5, h6⟩ := J3S hG (c := b) h4
    refine ⟨o, s3, ?_, h6⟩
    simp only [J7c]
    rw [Jo6, ← Je6]; exact h5
   | exit i =>
    obtain ⟨r', h3, h4⟩ := Option.map_eq_some_iff.1 h2
    subst h4
    injection h with h; subst h
    exact ⟨.exit i, s1, rfl, h3⟩
   | ret =>
    obtain ⟨r', h3, h4⟩ := Option.map_eq_some_iff.1 h2
    subst h4
    injection h with h; subst h
    exact ⟨.ret, s1, rfl, h3⟩
end Go.Am
end
section
namespace Go.Am
structure TFn where
 np : Nat
 nt : Nat
 body : TCo
 res : List JgF
 fresh : Bool
def erF (f : TFn) : AFn := ⟨f.np, f.nt, erc f.body, f.res.map erR, f.fresh⟩
def Jfi : Nat → List TA → List (Nat × TV)
 | _, [] => []
 | k, x :: r => (k, .a x) :: Jfi (k + 1) r
theorem Jji (L : Nat → Nat) : ∀ (k : Nat) (xs : List TA), J66 k (xs.map (J0j L)) = J2X L (Jfi k xs)
 | _, [] => rfl
 | k, x :: r => by
  have := Jji L (k + 1) r
  simp only [List.map_cons, J66, Jfi, J2X, this]
  rfl
noncomputable def J0c (G : TG) (f : TFn) {R : Type} (xs : List TA) (bl : List TB) (E : TV → List TB → Option R) : Option R :=
 if xs.length = f.np then
  trc G f.body R ⟨fun s => JaJ f.res f.fresh bl.length s E, fun _ _ => none, fun s => JaJ f.res f.fresh bl.length s E⟩ ⟨Jfi 0 xs, bl⟩
 else none
theorem JqZ {T : J21} {G : TG} (hG : GOk (AF T) G) {g : FuncId} {f : TFn} (hf : T g = some (.fn (erF f))) {R : Type} {xs : List TA} {bl : List TB} {E : TV → List TB → Option R} {r : R} (h : J0c G f xs bl E = some r) :
  ∃ v out, AF T g (xs.map (J0j (lns bl))) (bl.map (JF (lns bl))) = some (Jp (lns out) v, out.map (JF (lns out))) ∧ E v out = some r := by
 unfold J0c at h
 split at h
 ·rename_i hn
  obtain ⟨o, s', h1, h2⟩ := J3S hG h
  have e0 : Jb ⟨Jfi 0 xs, bl⟩ = ⟨J66 0 (xs.map (J0j (lns bl))), bl.map (JF (lns bl))⟩ := by
   unfold Jb; rw [Jji]
  rw [e0] at h1
  have fin : JaJ f.res f.fresh bl.length s' E = some r → ∃ v out, J2p (erF f) bl.length (Jb s') = some (Jp (lns out) v, out.map (JF (lns out))) ∧ E v out = some r :=
   fun h => JmV rfl rfl h
  have e1 : ∀ q, J2p (erF f) bl.length (Jb s') = some q → (o = .normal ∨ o = .ret) → AF T g (xs.map (J0j (lns bl))) (bl.map (JF (lns bl))) = some q := by
   intro q hq ho
   rw [JtO T hf, if_pos (by rw [List.length_map]; exact hn), show (erF f).body = erc f.body from rfl, h1, List.length_map]
   rcases ho with rfl | rfl <;> exact hq
  cases o with
  | normal =>
   obtain ⟨v, out, h3, h4⟩ := fin h2
   exact ⟨v, out, e1 _ h3 (.inl rfl), h4⟩
  | exit i => cases h2
  | ret =>
   obtain ⟨v, out, h3, h4⟩ := fin h2
   exact ⟨v, out, e1 _ h3 (.inr rfl), h4⟩
 ·cases h
structure TE where
 f : FuncId
 go : ∀ {R : Type}, List TA → List TB → (TV → List (Bool × TB) → Option R) → Option R
 fit : List TA → List TB → Bool
structure EOk (F : Orc) (e : TE) : Prop where
 ok : ∀ {R : Type} {xs : List TA} {bl : List TB} {kk : TV → List (Bool × TB) → Option R} {r : R}, e.go xs bl kk = some r →
  ∃ v out, F e.f (xs.map (J0j (lns bl))) (bl.map (JF (lns bl))) = some (Jp (Ja7 out) v, out.map fun x => JF (Ja7 out) x.2) ∧
   (∀ (k : Nat) x, out[k]? = some (true, x) → k < bl.length → lnB x = lns bl k) ∧ kk v out = some r
def goE {R : Type} (f : FuncId) (xs : List TA) (bl : List TB) (kk : TV → List (Bool × TB) → Option R) : List TE → Option R
 | [] => none
 | e :: r => if f = e.f ∧ e.fit xs bl = true then e.go xs bl kk else goE f xs bl kk r
def TG.of (l : List TE) : TG := ⟨fun f xs bl kk => goE f xs bl kk l⟩
def Jja (F : Orc) : List TE → Prop
 | [] => True
 | e :: r => EOk F e ∧ Jja F r
theorem JnJ {F : Orc} {R : Type} {f : FuncId} {xs : List TA} {bl : List TB} {kk : TV → List (Bool × TB) → Option R} {r : R} : ∀ {l : List TE}, Jja F l → goE f xs bl kk l = some r →
  ∃ v out, F f (xs.map (J0j (lns bl))) (bl.map (JF (lns bl))) = some (Jp (Ja7 out) v, out.map fun x => JF (Ja7 out) x.2) ∧
   (∀ (k : Nat) x, out[k]? = some (true, x) → k < bl.length → lnB x = lns bl k) ∧ kk v out = some r
 | [], _, h => by cases h
 | e :: l, ha, h => by
  simp only [goE] at h
  split at h
  ·rename_i he
   obtain ⟨rfl, _⟩ := he
   exact ha.1.ok h
  ·exact JnJ ha.2 h
theorem Jt4 {F : Orc} {l : List TE} (h : Jja F l) : GOk F (TG.of l) := ⟨fun hg => JnJ h hg⟩
structure Sig where
 args : List ShA
 blks : List ShB
 ti : List Ty
 res : ShV
 out : List ShB
 same : List Bool
 to : List Ty
def J00 (g : Sig) (x : (tyL g.ti).D) : Option (List TA × List TB) := match mkL mkA g.args (J6A g.ti x) with
 | some (xs, l) => match mkL mkB g.blks l with
  | some (bl, []) => some (xs, bl)
  | _ => none
 | none => none
def JdB (g : Sig) (xs : List TA) (bl : List TB) : Option (tyL g.ti).D := match shL shA xs, shL shB bl with
 | some (a, l), some (c, k) => if a = g.args ∧ c = g.blks then asL g.ti (l ++ k) else none
 | _, _ => none
theorem Jsg {g : Sig} {xs : List TA} {bl : List TB} {x : (tyL g.ti).D} (h : JdB g xs bl = some x) : J00 g x = some (xs, bl) := by
 unfold JdB at h
 split at h
 ·rename_i a l c k h1 h2
  split at h
  ·rename_i h0
   obtain ⟨rfl, rfl⟩ := h0
   have e := J5x Jjv h2 []
   rw [List.append_nil] at e
   unfold J00
   rw [Jk1 h, J5x Jiz h1 k]
   simp only [e]
  ·cases h
 ·cases h
def JeR (g : Sig) (y : (tyL g.to).D) : Option (TV × List TB) := match mkV g.res (J6A g.to y) with
 | some (v, l) => match mkL mkB g.out l with
  | some (out, []) => some (v, out)
  | _ => none
 | none => none
def JJ (g : Sig) (v : TV) (out : List TB) : Option (tyL g.to).D := match shV v, shL shB out with
 | some (a, l), some (c, k) => if a = g.res ∧ c = g.out then asL g.to (l ++ k) else none
 | _, _ => none
theorem Jpg {g : Sig} {v : TV} {out : List TB} {y : (tyL g.to).D} (h : JJ g v out = some y) : JeR g y = some (v, out) := by
 unfold JJ at h
 split at h
 ·rename_i a l c k h1 h2
  split at h
  ·rename_i h0
   obtain ⟨rfl, rfl⟩ := h0
   have e := J5x Jjv h2 []
   rw [List.append_nil] at e
   unfold JeR
   rw [Jk1 h, Joc h1 k]
   simp only [e]
  ·cases h
 ·cases h
def flg (same : List Bool) (out : List TB) : List (Bool × TB) := match same, out with
 | b :: r, x :: l => (b, x) :: flg r l
 | [], x :: l => (false, x) :: flg [] l
 | _, [] => []
theorem Jas : ∀ (same : List Bool) (out : List TB), (flg same out).map (·.2) = out
 | [], [] => rfl
 | [], x :: l => by simp only [flg, List.map_cons, Jas [] l]
 | b :: r, [] => rfl
 | b :: r, x :: l => by simp only [flg, List.map_cons, Jas r l]
def sigE (f : FuncId) (g : Sig) (S : (tyL g.ti).D → Option (tyL g.to).D) : TE :=
 ⟨f, fun xs bl kk => match JdB g xs bl with
  | some x => (S x).bind fun y => match JeR g y with
   | some (v, out) => kk v (flg g.same out)
   | none => none
  | none => none, fun xs bl => (JdB g xs bl).isSome⟩
def Jqw : ShB → Bool
 | .arr _ _ => false
 | _ => true
def Jff (g : Sig) : Bool := (List.range g.same.length).all fun k => match g.same[k]?, g.blks[k]?, g.out[k]? with
 | some true, some a, some c => Jqw a && Jqw c
 | some true, some _, none => false
 | _, _, _ => true
theorem Jkv {x : TB} {s : ShB} {ls : List Lf} (h : shB x = some (s, ls)) (hb : Jqw s = true) : lnB x = 0 := by
 cases x with
 | arr w t rows => injection h with h; injection h with h1; subst h1; cases hb
 | _ => rfl
theorem JjS {α σ : Type} {f : α → Option (σ × List Lf)} : ∀ {xs : List α} {ss : List σ} {ls : List Lf}, shL f xs = some (ss, ls) → ∀ (k : Nat) x, xs[k]? = some x → ∃ s l, ss[k]? = some s ∧ f x = some (s, l)
 | [], _, _, _, k, x, hk => by simp at hk
 | y :: r, ss, ls, h, k, x, hk => by
  simp only [shL] at h
  split at h
  ·rename_i s l q k' h1 h2
   injection h with h; injection h with h3 h4; subst h3 h4
   cases k with
   | zero => simp at hk; subst hk; exact ⟨s, l, rfl, h1⟩
   | succ k => exact JjS h2 k x (by simpa using hk)
  ·cases h
theorem JiZ : ∀ {same : List Bool} {out : List TB} {k : Nat} {x : TB}, (flg same out)[k]? = some (true, x) → same[k]? = some true ∧ out[k]? = some x
 | [], [], k, x, h => by simp [flg] at h
 | [], y :: l, k, x, h => by
  cases k with
  | zero => simp [flg] at h
  | succ k =>
   simp only [flg, List.getElem?_cons_succ] at h
   have := JiZ (same := []) h
   simp at this
 | b :: r, [], k, x, h => by simp [flg] at h
 | b :: r, y :: l, k, x, h => by
  cases k with
  | zero => simp [flg] at h; obtain ⟨rfl, rfl⟩ := h; exact ⟨rfl, rfl⟩
  | succ k =>
   simp only [flg, List.getElem?_cons_succ] at h
   simpa using JiZ h
theorem J9i {T : J21} {f : FuncId} {g : Sig} {S : (tyL g.ti).D → Option (tyL g.to).D} (hs : Jff g = true)
  (h : ∀ x xs bl y, J00 g x = some (xs, bl) → S x = some y → ∃ v out, AF T f (xs.map (J0j (lns bl))) (bl.map (JF (lns bl))) = some (Jp (lns out) v, out.map (JF (lns out))) ∧ JJ g v out = some y) : EOk (AF T) (sigE f g S) := by
 refine ⟨fun {R xs bl kk r} hg => ?_⟩
 simp only [sigE] at hg
 split at hg
 ·rename_i x hx
  obtain ⟨y, hy, hg⟩ := Option.bind_eq_some_iff.1 hg
  split at hg
  ·rename_i v out hv
   obtain ⟨v', out', h1, h2⟩ := h x xs bl y (Jsg hx) hy
   rw [Jpg h2] at hv
   injection hv with hv; injection hv with hv1 hv2; subst hv1 hv2
   refine ⟨v', flg g.same out', ?_, fun k z hz hk => ?_, hg⟩
   ·unfold Ja7
    rw [Jas]
    have : (flg g.same out').map (fun x => JF (lns out') x.2) = out'.map (JF (lns out')) := by
     conv => rhs; rw [← Jas g.same out', List.map_map]
     rw [Jas]
     rfl
    rw [this]
    exact h1
   ·obtain ⟨hz1, hz2⟩ := JiZ hz
    unfold Jff at hs
    rw [List.all_eq_true] at hs
    have hs := hs k (by simpa using J8 hz1)
    unfold JdB at hx
    split at hx
    ·rename_i a l c k' e1 e2
     split at hx
     ·rename_i e0
      obtain ⟨sb, lb, q1, q2⟩ := JjS e2 k _ (List.getElem?_eq_getElem hk)
      unfold JJ at h2
      split at h2
      ·rename_i a2 l2 c2 k2 e3 e4
       split at h2
       ·rename_i e5
        obtain ⟨sc, lc, p1, p2⟩ := JjS e4 k z hz2
        rw [hz1, ← e0.2, q1, ← e5.2, p1] at hs
        simp only [Bool.and_eq_true] at hs
        rw [Jkv p2 hs.2]
        unfold lns
        rw [List.getElem?_eq_getElem hk]
        exact (Jkv q2 hs.1).symm
       ·cases h2
      ·cases h2
     ·cases hx
    ·cases hx
  ·cases hg
 ·cases hg
theorem JV {T : J21} {f : FuncId} {g : Sig} {fn : TFn} {S : (tyL g.ti).D → Option (tyL g.to).D} {l : List TE} (hf : T f = some (.fn (erF fn))) (hl : Jja (AF T) l) (hs : Jff g = true)
  (h : ∀ x, onO (J00 g x) (fun y => J0c (TG.of l) fn y.1 y.2 (JJ g)) = S x) : EOk (AF T) (sigE f g S) := by
 refine J9i hs fun x xs bl y hx hy => ?_
 have h0 := h x
 rw [hx, hy] at h0
 exact JqZ (Jt4 hl) hf h0
def Ja4 {α β : Type} (S : (α → Option β) → α → Option β) : Nat → α → Option β
 | 0 => fun _ => none
 | n + 1 => S (Ja4 S n)
theorem Jke {T : J21} {f : FuncId} {g : Sig} {fn : TFn} {S : ((tyL g.ti).D → Option (tyL g.to).D) → (tyL g.ti).D → Option (tyL g.to).D} {l : List TE} (hf : T f = some (.fn (erF fn))) (hl : Jja (AF T) l) (hs : Jff g = true)
  (h : ∀ r x, onO (J00 g x) (fun y => J0c (TG.of (sigE f g r :: l)) fn y.1 y.2 (JJ g)) = S r x) : ∀ n, EOk (AF T) (sigE f g (Ja4 S n))
 | 0 => J9i hs fun x xs bl y hx hy => by cases hy
 | n + 1 => JV hf (l := sigE f g (Ja4 S n) :: l) (And.intro (Jke hf hl hs h n) hl) hs (h (Ja4 S n))
end Go.Am
end
section
namespace Go.Am
end Go.Am
end
section
namespace Go.Am
def J96 (t : Ty) : Sig := ⟨[.c (.d (.l t))], [], [.l t], .a (.c (.slr 0)), [.arr true t], [], [.l t]⟩
def JiX (e : Nat) : Opd := .c (.p (.sl e []))
def J92 (t : Ty) (bytes : Nat) : J5l := ⟨1, 8,
 .reg false [] [⟨.mkarr t.sz (JiX t.sz), some 2, none⟩], [],
 .reg false [] [⟨.mv (.t 0), some 3, none⟩, ⟨.bin .eql .nils (.t 3) (JiX t.sz), some 4, none⟩], .t 4,
 .seq (.reg false [] [⟨.mkarr t.sz (JiX t.sz), some 2, none⟩]) .ret, .skip,
 .seq (.reg false [] [⟨.lits true t.sz 0 (zer t) [], some 5, none⟩, ⟨.mv (.t 0), some 6, none⟩, ⟨.app t.sz bytes (zer t) (.t 5) (.t 6), some 7, none⟩, ⟨.mv (.t 7), some 2, none⟩]) .ret, [.tmp 2], true⟩
theorem Jqq {T : J21} {f : FuncId} {t : Ty} {bytes : Nat} (hf : T f = some (.fork (J92 t bytes))) {x y : List t.D} (h : cloS bytes x = some y) :
  AF T f [.p (.sl t.sz (x.map (cel t)))] [] = some (.slr 0 0 y.length, [.arr true t.sz (y.map (cel t))]) := by
 unfold cloS at h
 split at h
 ·rename_i h2
  injection h with h; subst h
  rw [JrQ _ hf]
  cases x with
  | nil =>
   have h3 : 512 * bytes ≤ 281474976710656 := by simpa [J1e] using h2
   simp [J92, JiX, J8G, Jbi, J5l.af, h3]
  | cons a r =>
   simp at h2
   simp [J92, JiX, J8G, Jbi, J5l.af, h2]
 ·cases h
theorem Jk6 (t : Ty) (x : t.D) (r : List Lf) : lf1 t (⟨t, x⟩ :: r) = some (x, r) := by simp [lf1]
theorem JqI (t : Ty) (x : List t.D) : J00 (J96 t) x = some ([.c (.d (.l t) x)], []) := by
 have h : lf1 (.l t) [⟨.l t, x⟩] = some (x, []) := Jk6 (.l t) x []
 show (match mkL mkA [.c (.d (.l t))] [(⟨.l t, x⟩ : Lf)] with
  | some (xs, l) => match mkL mkB (J96 t).blks l with
   | some (bl, []) => some (xs, bl)
   | _ => none
  | none => none) = _
 simp only [mkL, mkA, mkC, h]
 rfl
theorem JnI (t : Ty) (y : List t.D) : JJ (J96 t) (.a (.c (.slr 0))) [.arr true t y] = some y := by
 show (if (ShV.a (.c (.slr 0)) = (J96 t).res ∧ [ShB.arr true t] = (J96 t).out) then asL [.l t] [⟨.l t, y⟩] else none) = some y
 rw [if_pos ⟨rfl, rfl⟩]
 simp [asL, JbO]
 rfl
theorem JpM {T : J21} {f : FuncId} {t : Ty} {bytes : Nat} (hf : T f = some (.fork (J92 t bytes))) : EOk (AF T) (sigE f (J96 t) (cloS bytes)) := by
 refine J9i rfl fun x xs bl y hx hy => ?_
 rw [JqI t x] at hx
 injection hx with hx; injection hx with h1 h2; subst h1 h2
 exact ⟨.a (.c (.slr 0)), [.arr true t y], Jqq hf hy, JnI t y⟩
end Go.Am
end
section
namespace Go.Am
abbrev Prm := List AV → List Blk → Option Res
def Jqo : Sig := ⟨[.c (.d .s), .c (.d (.i .i64))], [], [.s, (.i .i64)], .a (.c (.d .s)), [], [], [.s]⟩
def Jth (x : List UInt8 × Int) : Option (List UInt8) := JiL x.1 x.2
theorem JsK (x : List UInt8 × Int) : J00 Jqo x = some ([.c (.d .s x.1), .c (.d (.i .i64) x.2)], []) := rfl
theorem Jrr {g : Sig} (hr : g.res = .a (.c (.d .s))) (ho : g.out = []) (ht : g.to = [.s]) (y : List UInt8) : JJ g (.a (.c (.d .s y))) [] = some (ht ▸ y) := by
 obtain ⟨a, b, c, d, e, f, t⟩ := g
 dsimp only at hr ho ht
 subst hr ho ht
 rfl
theorem Jsn {T : J21} {f : FuncId} (hf : T f = some (.prim Jj0)) : EOk (AF T) (sigE f Jqo Jth) := by
 refine J9i rfl fun x xs bl y hx hy => ?_
 rw [JsK x] at hx
 injection hx with hx; injection hx with h1 h2; subst h1 h2
 refine ⟨.a (.c (.d .s y)), [], ?_, Jrr (g := Jqo) rfl rfl rfl y⟩
 rw [Jaz hf]
 show Option.map (fun r => (AV.p (.s r), [])) (JiL x.1 x.2) = _
 rw [show JiL x.1 x.2 = some y from hy]
 rfl
end Go.Am
end
section
namespace Go.Am.Od
set_option maxRecDepth 20000
abbrev i_draw_Codes_Next : FuncId := 14
abbrev Jy : FuncId := 15
abbrev i_law04_odd : FuncId := 28
abbrev JP : FuncId := 29
abbrev Jo : FuncId := 36
abbrev JR : FuncId := 40
def J7 : Ty := .pr (.l (.i .u8)) ((.i .i64))
abbrev T_pagemenddraw_Codes := (List Int) × Int
def J4 : Ty := .pr (.i .i64) (.pr (.i .i64) (.pr (.i .i64) (.pr (.i .i64) (.pr (.i .i64) ((.i .u8))))))
abbrev J6 := Int × Int × Int × Int × Int × Int
def J3 : Ty := .pr (.l .s) (.pr (.i .i64) (.pr (.l (.i .i64)) (.pr .b ((.l J4)))))
abbrev T_api_Device := (List (List UInt8)) × Int × (List Int) × Bool × (List J6)
def g_draw_Codes_Next : Sig := ⟨[.c (.ptr 0 []), .c (.d (.i .i64))], [.box J7], [(.i .i64), J7], .a (.c (.d (.i .i64))), [.box J7], [true], [(.i .i64), J7]⟩
def J0r : Sig := ⟨[.c (.ptr 0 [])], [.box J7], [J7], .a (.c (.d .s)), [.box J7], [true], [.s, J7]⟩
def J0e : Sig := ⟨[.c (.ptr 0 [])], [.box J7], [J7], .a (.c (.d (.i .i64))), [.box J7], [true], [(.i .i64), J7]⟩
def JX : Sig := ⟨[.c (.ptr 0 []), .c (.d (.i .i64)), .c (.d (.i .i64))], [.box J7], [(.i .i64), (.i .i64), J7], .a (.dt J4), [.box J7], [true], [J4, J7]⟩
def J0G : Sig := ⟨[.dt J3], [], [J3], .a (.m J3 [.slr 0, .d (.i .i64), .slr 1, .d .b, .slr 2]), [.arr true .s, .arr true (.i .i64), .arr true J4], [], [(.i .i64), .b, (.l .s), (.l (.i .i64)), (.l J4)]⟩
def g_law04_odd : Sig := ⟨[.c (.ptr 0 []), .dt J3], [.box J7], [J3, J7], .a (.dt J3), [.box J7], [true], [J3, J7]⟩
def J63 : TCo := .seq (.reg false [] [
 ⟨.mv (.c (vi .i64 0)), some 4, none⟩])
 (.keep [0, 1] (.seq (.seq (.reg true [] [
 ⟨.mv (.t 0), some 6, none⟩,
 ⟨.nilchk (.t 6), some 7, none⟩,
 ⟨.faddr 1 (.t 7), some 8, none⟩,
 ⟨.load false (.i .i64) (.t 8), some 9, none⟩,
 ⟨.mv (.t 0), some 10, none⟩,
 ⟨.nilchk (.t 10), some 11, none⟩,
 ⟨.faddr 0 (.t 11), some 12, none⟩,
 ⟨.load false (.l (.i .u8)) (.t 12), some 13, none⟩,
 ⟨.len false (.t 13), some 14, none⟩,
 ⟨.bin .geq .plain (.t 9) (.t 14), some 15, none⟩,
 ⟨.mv (.t 15), some 16, none⟩,
 ⟨.mv (.t 1), some 17, some (16, false)⟩,
 ⟨.bin .lss .plain (.t 17) (.c (vi .i64 1)), some 18, some (16, false)⟩,
 ⟨.pick (.t 16) (.c (vb true)) (.t 18), some 19, none⟩])
 (.keep [0, 1, 19] (.cond (.t 19)
 (.seq (.reg false [] [
 ⟨.mv (.c (vi .i64 0)), some 4, none⟩])
 (.ret))
 (.skip))))
 (.keep [0, 1] (.seq (.reg true [] [
 ⟨.mv (.t 0), some 20, none⟩,
 ⟨.nilchk (.t 20), some 21, none⟩,
 ⟨.faddr 0 (.t 21), some 22, none⟩,
 ⟨.load false (.l (.i .u8)) (.t 22), some 23, none⟩,
 ⟨.mv (.t 0), some 24, none⟩,
 ⟨.nilchk (.t 24), some 25, none⟩,
 ⟨.faddr 1 (.t 25), some 26, none⟩,
 ⟨.load false (.i .i64) (.t 26), some 27, none⟩,
 ⟨.iaddr (.i .u8) (.t 23) (.t 27), some 28, none⟩,
 ⟨.load false (.i .u8) (.t 28), some 29, none⟩,
 ⟨.conv (.int .i64) (.t 29), some 30, none⟩,
 ⟨.mv (.t 30), some 5, none⟩])
 (.keep [0, 1, 5] (.seq (.reg false [] [
 ⟨.mv (.t 0), some 31, none⟩,
 ⟨.nilchk (.t 31), some 32, none⟩,
 ⟨.faddr 1 (.t 32), some 33, none⟩,
 ⟨.load false (.i .i64) (.t 33), some 34, none⟩,
 ⟨.bin .add .plain (.t 34) (.c (vi .i64 1)), some 35, none⟩,
 ⟨.nilchk (.t 31), some 36, none⟩,
 ⟨.faddr 1 (.t 36), some 37, none⟩,
 ⟨.store (.i .i64) (.t 37) (.t 35), none, none⟩])
 (.keep [0, 1, 5] (.seq (.seq (.reg false [] [
 ⟨.mv (.t 1), some 38, none⟩,
 ⟨.bin .gtr .plain (.t 38) (.c (vi .i64 256)), some 39, none⟩])
 (.keep [0, 1, 5, 39] (.cond (.t 39)
 (.seq (.reg false [] [
 ⟨.mv (.t 5), some 40, none⟩,
 ⟨.bin .mul .plain (.c (vi .i64 256)) (.t 40), some 41, none⟩,
 ⟨.mv (.t 0), some 42, none⟩,
 ⟨.call i_draw_Codes_Next [(.t 42), (.c (vi .i64 256))] 0, some 43, none⟩,
 ⟨.bin .add .plain (.t 41) (.t 43), some 44, none⟩,
 ⟨.mv (.t 1), some 45, none⟩,
 ⟨.bin .rem .plain (.t 44) (.t 45), some 46, none⟩,
 ⟨.mv (.t 46), some 4, none⟩])
 (.ret))
 (.skip))))
 (.keep [1, 5] (.seq (.reg false [] [
 ⟨.mv (.t 5), some 47, none⟩,
 ⟨.mv (.t 1), some 48, none⟩,
 ⟨.bin .rem .plain (.t 47) (.t 48), some 49, none⟩,
 ⟨.mv (.t 49), some 4, none⟩])
 (.ret)))))))))))
def J10 : TFn := ⟨2, 50, J63, [.tmp 4], false⟩
def J65 : TCo := .seq (.reg false [] [
 ⟨.mv (.c (vs [])), some 2, none⟩])
 (.keep [0] (.seq (.reg false [] [
 ⟨.mv (.t 0), some 6, none⟩,
 ⟨.call i_draw_Codes_Next [(.t 6), (.c (vi .i64 5))] 0, some 7, none⟩,
 ⟨.mv (.t 7), some 3, none⟩])
 (.keep [0, 3] (.seq (.seq (.reg false [] [
 ⟨.mv (.t 0), some 8, none⟩,
 ⟨.call i_draw_Codes_Next [(.t 8), (.c (vi .i64 6))] 0, some 9, none⟩,
 ⟨.bin .eql .plain (.t 9) (.c (vi .i64 0)), some 10, none⟩])
 (.keep [0, 3, 10] (.cond (.t 10)
 (.reg false [] [
 ⟨.mv (.t 0), some 11, none⟩,
 ⟨.call i_draw_Codes_Next [(.t 11), (.c (vi .i64 14))] 0, some 12, none⟩,
 ⟨.mv (.t 12), some 3, none⟩])
 (.skip))))
 (.keep [0, 3] (.seq (.reg false [] [
 ⟨.mv (.t 3), some 13, none⟩,
 ⟨.mkslice true (.i .u8) 1 (.c (vi .i64 0)) (.t 13), some 14, none⟩,
 ⟨.mv (.t 14), some 4, none⟩])
 (.keep [0, 3, 4] (.seq (.seq (.reg false [] [
 ⟨.mv (.c (vi .i64 0)), some 5, none⟩])
 (.keep [0, 3, 4, 5] (.block 0 (.loop [0, 3, 4, 5] (.seq (.seq (.reg false [] [
 ⟨.mv (.t 5), some 15, none⟩,
 ⟨.mv (.t 3), some 16, none⟩,
 ⟨.bin .lss .plain (.t 15) (.t 16), some 17, none⟩])
 (.keep [0, 3, 4, 5, 17] (.cond (.t 17)
 (.skip)
 (.exit 0))))
 (.keep [0, 3, 4, 5] (.seq (.block 1 (.reg false [] [
 ⟨.mv (.t 4), some 20, none⟩,
 ⟨.mv (.t 0), some 21, none⟩,
 ⟨.call i_draw_Codes_Next [(.t 21), (.c (vi .i64 3))] 0, some 22, none⟩,
 ⟨.bin .add .plain (.c (vi .i64 97)) (.t 22), some 23, none⟩,
 ⟨.conv (.int .u8) (.t 23), some 24, none⟩,
 ⟨.lits false (.i .u8) 1 [(0, (.t 24))], some 25, none⟩,
 ⟨.app (.i .u8) 1 (.t 20) (.t 25), some 26, none⟩,
 ⟨.mv (.t 26), some 4, none⟩]))
 (.keep [0, 3, 4, 5] (.reg false [] [
 ⟨.mv (.t 5), some 18, none⟩,
 ⟨.bin .add .plain (.t 18) (.c (vi .i64 1)), some 19, none⟩,
 ⟨.mv (.t 19), some 5, none⟩])))))))))
 (.keep [4] (.seq (.reg false [] [
 ⟨.mv (.t 4), some 27, none⟩,
 ⟨.conv .toStr (.t 27), some 28, none⟩,
 ⟨.mv (.t 28), some 2, none⟩])
 (.ret)))))))))))
def J12 : TFn := ⟨1, 29, J65, [.tmp 2], false⟩
def J6P : TCo := .seq (.reg false [] [
 ⟨.mv (.c (vi .i64 0)), some 2, none⟩])
 (.keep [0] (.seq (.seq (.reg false [] [
 ⟨.mv (.t 0), some 3, none⟩,
 ⟨.call i_draw_Codes_Next [(.t 3), (.c (vi .i64 10))] 0, some 4, none⟩])
 (.keep [0, 4] (.block 0 (.seq (.reg false [] [
 ⟨.bin .eql .plain (.t 4) (.c (vi .i64 0)), some 6, none⟩,
 ⟨.mv (.t 6), some 5, none⟩])
 (.keep [0, 4, 5] (.cond (.t 5)
 (.seq (.reg false [] [
 ⟨.mv (.t 0), some 7, none⟩,
 ⟨.call i_draw_Codes_Next [(.t 7), (.c (vi .i64 3))] 0, some 8, none⟩,
 ⟨.bin .sub .plain (.c (vi .i64 (-1))) (.t 8), some 9, none⟩,
 ⟨.mv (.t 9), some 2, none⟩])
 (.ret))
 (.seq (.reg false [] [
 ⟨.bin .eql .plain (.t 4) (.c (vi .i64 1)), some 11, none⟩,
 ⟨.mv (.t 11), some 10, none⟩])
 (.keep [0, 10] (.cond (.t 10)
 (.seq (.reg false [] [
 ⟨.lits false (.i .i64) 16 [(0, (.c (vi .i64 9223372036854775807))), (1, (.c (vi .i64 (-9223372036854775808)))), (2, (.c (vi .i64 1099511627776))), (3, (.c (vi .i64 1099511627777))), (4, (.c (vi .i64 1073741824))), (5, (.c (vi .i64 1073741825))), (6, (.c (vi .i64 64))), (7, (.c (vi .i64 63))), (8, (.c (vi .i64 16))), (9, (.c (vi .i64 15))), (10, (.c (vi .i64 256))), (11, (.c (vi .i64 255))), (12, (.c (vi .i64 4294967296))), (13, (.c (vi .i64 65536))), (14, (.c (vi .i64 256))), (15, (.c (vi .i64 255)))], some 12, none⟩,
 ⟨.mv (.t 0), some 13, none⟩,
 ⟨.call i_draw_Codes_Next [(.t 13), (.c (vi .i64 16))] 0, some 14, none⟩,
 ⟨.iaddr (.i .i64) (.t 12) (.t 14), some 15, none⟩,
 ⟨.load false (.i .i64) (.t 15), some 16, none⟩,
 ⟨.mv (.t 16), some 2, none⟩])
 (.ret))
 (.skip))))))))))
 (.keep [0] (.seq (.reg false [] [
 ⟨.mv (.t 0), some 17, none⟩,
 ⟨.call i_draw_Codes_Next [(.t 17), (.c (vi .i64 20))] 0, some 18, none⟩,
 ⟨.mv (.t 18), some 2, none⟩])
 (.ret)))))
def J1g : TFn := ⟨1, 19, J6P, [.tmp 2], false⟩
def J5p : TCo := .seq (.reg false [] [
 ⟨.newbox J4, some 6, none⟩])
 (.keep [0, 1, 2, 6] (.seq (.reg false [] [
 ⟨.mv (.t 0), some 8, none⟩,
 ⟨.call i_draw_Codes_Next [(.t 8), (.c (vi .i64 6))] 0, some 9, none⟩,
 ⟨.bin .add .plain (.c (vi .i64 1)) (.t 9), some 10, none⟩,
 ⟨.mv (.t 2), some 11, none⟩,
 ⟨.bin .add .plain (.t 11) (.c (vi .i64 1)), some 12, none⟩,
 ⟨.mv (.t 0), some 13, none⟩,
 ⟨.call i_draw_Codes_Next [(.t 13), (.c (vi .i64 6))] 0, some 14, none⟩,
 ⟨.bin .add .plain (.t 12) (.t 14), some 15, none⟩,
 ⟨.build J4 [(0, (.i .i64), (.t 10)), (1, (.i .i64), (.t 15))], some 16, none⟩,
 ⟨.newbox J4, some 7, none⟩,
 ⟨.store J4 (.t 7) (.t 16), none, none⟩])
 (.keep [0, 1, 6, 7] (.seq (.seq (.reg false [] [
 ⟨.faddr 0 (.t 7), some 17, none⟩,
 ⟨.load false (.i .i64) (.t 17), some 18, none⟩])
 (.keep [0, 1, 6, 7, 18] (.block 0 (.seq (.reg false [] [
 ⟨.bin .eql .plain (.t 18) (.c (vi .i64 2)), some 20, none⟩,
 ⟨.mv (.t 20), some 19, none⟩])
 (.keep [0, 1, 6, 7, 18, 19] (.cond (.t 19)
 (.reg false [] [
 ⟨.mv (.t 0), some 21, none⟩,
 ⟨.mv (.t 1), some 22, none⟩,
 ⟨.call i_draw_Codes_Next [(.t 21), (.t 22)] 0, some 23, none⟩,
 ⟨.faddr 3 (.t 7), some 24, none⟩,
 ⟨.store (.i .i64) (.t 24) (.t 23), none, none⟩])
 (.seq (.reg false [] [
 ⟨.bin .eql .plain (.t 18) (.c (vi .i64 3)), some 26, none⟩,
 ⟨.mv (.t 26), some 25, none⟩])
 (.keep [0, 1, 6, 7, 18, 25] (.cond (.t 25)
 (.reg false [] [
 ⟨.mv (.t 0), some 27, none⟩,
 ⟨.call i_draw_Codes_Next [(.t 27), (.c (vi .i64 256))] 0, some 28, none⟩,
 ⟨.faddr 4 (.t 7), some 29, none⟩,
 ⟨.store (.i .i64) (.t 29) (.t 28), none, none⟩])
 (.seq (.reg false [] [
 ⟨.bin .eql .plain (.t 18) (.c (vi .i64 4)), some 31, none⟩,
 ⟨.mv (.t 31), some 30, none⟩])
 (.keep [0, 1, 6, 7, 18, 30] (.cond (.t 30)
 (.reg false [] [
 ⟨.mv (.t 0), some 32, none⟩,
 ⟨.mv (.t 1), some 33, none⟩,
 ⟨.call i_draw_Codes_Next [(.t 32), (.t 33)] 0, some 34, none⟩,
 ⟨.mv (.t 0), some 35, none⟩,
 ⟨.call i_draw_Codes_Next [(.t 35), (.c (vi .i64 256))] 0, some 36, none⟩,
 ⟨.mv (.t 0), some 37, none⟩,
 ⟨.call i_draw_Codes_Next [(.t 37), (.c (vi .i64 255))] 0, some 38, none⟩,
 ⟨.bin .add .plain (.c (vi .i64 1)) (.t 38), some 39, none⟩,
 ⟨.conv (.int .u8) (.t 39), some 40, none⟩,
 ⟨.faddr 2 (.t 7), some 41, none⟩,
 ⟨.store (.i .i64) (.t 41) (.t 34), none, none⟩,
 ⟨.faddr 4 (.t 7), some 42, none⟩,
 ⟨.store (.i .i64) (.t 42) (.t 36), none, none⟩,
 ⟨.faddr 5 (.t 7), some 43, none⟩,
 ⟨.store (.i .u8) (.t 43) (.t 40), none, none⟩])
 (.seq (.reg false [] [
 ⟨.bin .eql .plain (.t 18) (.c (vi .i64 5)), some 45, none⟩,
 ⟨.mv (.t 45), some 44, none⟩])
 (.keep [0, 1, 6, 7, 44] (.cond (.t 44)
 (.reg false [] [
 ⟨.mv (.t 0), some 46, none⟩,
 ⟨.mv (.t 1), some 47, none⟩,
 ⟨.call i_draw_Codes_Next [(.t 46), (.t 47)] 0, some 48, none⟩,
 ⟨.faddr 2 (.t 7), some 49, none⟩,
 ⟨.store (.i .i64) (.t 49) (.t 48), none, none⟩])
 (.skip))))))))))))))))
 (.keep [0, 6, 7] (.seq (.seq (.reg false [] [
 ⟨.mv (.t 0), some 50, none⟩,
 ⟨.call i_draw_Codes_Next [(.t 50), (.c (vi .i64 16))] 0, some 51, none⟩])
 (.keep [0, 6, 7, 51] (.block 1 (.seq (.reg false [] [
 ⟨.bin .eql .plain (.t 51) (.c (vi .i64 12)), some 53, none⟩,
 ⟨.mv (.t 53), some 52, none⟩])
 (.keep [0, 6, 7, 51, 52] (.cond (.t 52)
 (.reg false [] [
 ⟨.mv (.t 0), some 54, none⟩,
 ⟨.call Jo [(.t 54)] 0, some 55, none⟩,
 ⟨.faddr 1 (.t 7), some 56, none⟩,
 ⟨.store (.i .i64) (.t 56) (.t 55), none, none⟩])
 (.seq (.reg false [] [
 ⟨.bin .eql .plain (.t 51) (.c (vi .i64 13)), some 58, none⟩,
 ⟨.mv (.t 58), some 57, none⟩])
 (.keep [0, 6, 7, 51, 57] (.cond (.t 57)
 (.reg false [] [
 ⟨.mv (.t 0), some 59, none⟩,
 ⟨.call Jo [(.t 59)] 0, some 60, none⟩,
 ⟨.faddr 2 (.t 7), some 61, none⟩,
 ⟨.store (.i .i64) (.t 61) (.t 60), none, none⟩,
 ⟨.faddr 5 (.t 7), some 62, none⟩,
 ⟨.store (.i .u8) (.t 62) (.c (vi .u8 0)), none, none⟩])
 (.seq (.reg false [] [
 ⟨.bin .eql .plain (.t 51) (.c (vi .i64 14)), some 64, none⟩,
 ⟨.mv (.t 64), some 63, none⟩])
 (.keep [0, 6, 7, 51, 63] (.cond (.t 63)
 (.reg false [] [
 ⟨.mv (.t 0), some 65, none⟩,
 ⟨.call Jo [(.t 65)] 0, some 66, none⟩,
 ⟨.mv (.t 0), some 67, none⟩,
 ⟨.call Jo [(.t 67)] 0, some 68, none⟩,
 ⟨.faddr 3 (.t 7), some 69, none⟩,
 ⟨.store (.i .i64) (.t 69) (.t 66), none, none⟩,
 ⟨.faddr 4 (.t 7), some 70, none⟩,
 ⟨.store (.i .i64) (.t 70) (.t 68), none, none⟩])
 (.seq (.reg false [] [
 ⟨.bin .eql .plain (.t 51) (.c (vi .i64 15)), some 72, none⟩,
 ⟨.mv (.t 72), some 71, none⟩])
 (.keep [0, 6, 7, 71] (.cond (.t 71)
 (.reg false [] [
 ⟨.mv (.t 0), some 73, none⟩,
 ⟨.call i_draw_Codes_Next [(.t 73), (.c (vi .i64 9))] 0, some 74, none⟩,
 ⟨.bin .sub .plain (.t 74) (.c (vi .i64 1)), some 75, none⟩,
 ⟨.faddr 0 (.t 7), some 76, none⟩,
 ⟨.store (.i .i64) (.t 76) (.t 75), none, none⟩])
 (.skip))))))))))))))))
 (.keep [6, 7] (.seq (.reg false [] [
 ⟨.load true J4 (.t 7), some 77, none⟩,
 ⟨.store J4 (.t 6) (.t 77), none, none⟩])
 (.ret)))))))))
def J0R : TFn := ⟨3, 78, J5p, [.cell 6 true J4], false⟩
def J95 : TCo := .seq (.reg false [] [
 ⟨.box J3 (.t 0), some 1, none⟩,
 ⟨.newbox J3, some 2, none⟩])
 (.keep [1, 2] (.seq (.reg false [] [
 ⟨.faddr 0 (.t 1), some 3, none⟩,
 ⟨.load false (.l .s) (.t 3), some 4, none⟩,
 ⟨.appn .s 16 (.t 4), some 5, none⟩,
 ⟨.faddr 0 (.t 1), some 6, none⟩,
 ⟨.store (.l .s) (.t 6) (.t 5), none, none⟩])
 (.keep [1, 2] (.seq (.reg false [] [
 ⟨.faddr 2 (.t 1), some 7, none⟩,
 ⟨.load false (.l (.i .i64)) (.t 7), some 8, none⟩,
 ⟨.appn (.i .i64) 8 (.t 8), some 9, none⟩,
 ⟨.faddr 2 (.t 1), some 10, none⟩,
 ⟨.store (.l (.i .i64)) (.t 10) (.t 9), none, none⟩])
 (.keep [1, 2] (.seq (.reg false [] [
 ⟨.faddr 4 (.t 1), some 11, none⟩,
 ⟨.load false (.l J4) (.t 11), some 12, none⟩,
 ⟨.appn J4 48 (.t 12), some 13, none⟩,
 ⟨.faddr 4 (.t 1), some 14, none⟩,
 ⟨.store (.l J4) (.t 14) (.t 13), none, none⟩])
 (.keep [1, 2] (.seq (.reg false [] [
 ⟨.load true J3 (.t 1), some 15, none⟩,
 ⟨.store J3 (.t 2) (.t 15), none, none⟩])
 (.ret)))))))))
def J2v : TFn := ⟨1, 16, J95, [.cell 2 true J3], true⟩
def JkQ : TCo := .seq (.reg false [] [
 ⟨.box J3 (.t 1), some 3, none⟩,
 ⟨.newboxo J3 [(0, .s), (2, (.i .i64)), (4, J4)], some 4, none⟩])
 (.keep [0, 3, 4] (.seq (.reg false [] [
 ⟨.load true J3 (.t 3), some 5, none⟩,
 ⟨.callo JR [((.t 5), false)] 3, some 6, none⟩,
 ⟨.store J3 (.t 3) (.t 6), none, none⟩])
 (.keep [0, 3, 4] (.seq (.seq (.reg false [] [
 ⟨.mv (.t 0), some 7, none⟩,
 ⟨.call i_draw_Codes_Next [(.t 7), (.c (vi .i64 6))] 0, some 8, none⟩])
 (.keep [0, 3, 4, 8] (.block 0 (.seq (.reg false [] [
 ⟨.bin .eql .plain (.t 8) (.c (vi .i64 0)), some 10, none⟩,
 ⟨.mv (.t 10), some 9, none⟩])
 (.keep [0, 3, 4, 8, 9] (.cond (.t 9)
 (.reg true [(1, 3), (1, 4)] [
 ⟨.faddr 0 (.t 3), some 11, none⟩,
 ⟨.load false (.l .s) (.t 11), some 12, none⟩,
 ⟨.mv (.t 0), some 13, none⟩,
 ⟨.call JP [(.t 13)] 0, some 14, none⟩,
 ⟨.lits false .s 1 [(0, (.t 14))], some 15, none⟩,
 ⟨.app .s 16 (.t 12) (.t 15), some 16, none⟩,
 ⟨.faddr 0 (.t 3), some 17, none⟩,
 ⟨.store (.l .s) (.t 17) (.t 16), none, none⟩])
 (.seq (.reg false [] [
 ⟨.bin .eql .plain (.t 8) (.c (vi .i64 1)), some 19, none⟩,
 ⟨.mv (.t 19), some 18, none⟩])
 (.keep [0, 3, 4, 8, 18] (.cond (.t 18)
 (.reg false [] [
 ⟨.mv (.t 0), some 20, none⟩,
 ⟨.call Jo [(.t 20)] 0, some 21, none⟩,
 ⟨.faddr 1 (.t 3), some 22, none⟩,
 ⟨.store (.i .i64) (.t 22) (.t 21), none, none⟩])
 (.seq (.reg false [] [
 ⟨.bin .eql .plain (.t 8) (.c (vi .i64 2)), some 24, none⟩,
 ⟨.mv (.t 24), some 23, none⟩])
 (.keep [0, 3, 4, 8, 23] (.cond (.t 23)
 (.reg true [(1, 3), (1, 4)] [
 ⟨.faddr 2 (.t 3), some 25, none⟩,
 ⟨.load false (.l (.i .i64)) (.t 25), some 26, none⟩,
 ⟨.mv (.t 0), some 27, none⟩,
 ⟨.call i_draw_Codes_Next [(.t 27), (.c (vi .i64 5))] 0, some 28, none⟩,
 ⟨.lits false (.i .i64) 1 [(0, (.t 28))], some 29, none⟩,
 ⟨.app (.i .i64) 8 (.t 26) (.t 29), some 30, none⟩,
 ⟨.faddr 2 (.t 3), some 31, none⟩,
 ⟨.store (.l (.i .i64)) (.t 31) (.t 30), none, none⟩])
 (.seq (.reg false [] [
 ⟨.bin .eql .plain (.t 8) (.c (vi .i64 3)), some 33, none⟩,
 ⟨.mv (.t 33), some 32, none⟩])
 (.keep [0, 3, 4, 8, 32] (.cond (.t 32)
 (.reg false [] [
 ⟨.faddr 3 (.t 3), some 34, none⟩,
 ⟨.load false .b (.t 34), some 35, none⟩,
 ⟨.un .not (.t 35), some 36, none⟩,
 ⟨.faddr 3 (.t 3), some 37, none⟩,
 ⟨.store .b (.t 37) (.t 36), none, none⟩])
 (.seq (.reg false [] [
 ⟨.bin .eql .plain (.t 8) (.c (vi .i64 4)), some 39, none⟩,
 ⟨.mv (.t 39), some 38, none⟩])
 (.keep [0, 3, 4, 8, 38] (.cond (.t 38)
 (.reg true [(1, 8), (1, 9)] [
 ⟨.faddr 4 (.t 3), some 40, none⟩,
 ⟨.load false (.l J4) (.t 40), some 41, none⟩,
 ⟨.mv (.t 0), some 42, none⟩,
 ⟨.faddr 0 (.t 3), some 43, none⟩,
 ⟨.load false (.l .s) (.t 43), some 44, none⟩,
 ⟨.len false (.t 44), some 45, none⟩,
 ⟨.faddr 1 (.t 3), some 46, none⟩,
 ⟨.load false (.i .i64) (.t 46), some 47, none⟩,
 ⟨.call Jy [(.t 42), (.t 45), (.t 47)] 0, some 48, none⟩,
 ⟨.lits false J4 1 [(0, (.t 48))], some 49, none⟩,
 ⟨.app J4 48 (.t 41) (.t 49), some 50, none⟩,
 ⟨.faddr 4 (.t 3), some 51, none⟩,
 ⟨.store (.l J4) (.t 51) (.t 50), none, none⟩])
 (.seq (.reg false [] [
 ⟨.bin .eql .plain (.t 8) (.c (vi .i64 5)), some 53, none⟩,
 ⟨.mv (.t 53), some 52, none⟩])
 (.keep [3, 4, 52] (.cond (.t 52)
 (.block 1 (.loop [3, 4] (.seq (.seq (.reg false [] [
 ⟨.faddr 4 (.t 3), some 54, none⟩,
 ⟨.load false (.l J4) (.t 54), some 55, none⟩,
 ⟨.len false (.t 55), some 56, none⟩,
 ⟨.bin .leq .plain (.t 56) (.c (vi .i64 64)), some 57, none⟩])
 (.keep [3, 4, 57] (.cond (.t 57)
 (.skip)
 (.exit 1))))
 (.keep [3, 4] (.block 2 (.reg false [] [
 ⟨.faddr 4 (.t 3), some 58, none⟩,
 ⟨.load false (.l J4) (.t 58), some 59, none⟩,
 ⟨.faddr 1 (.t 3), some 60, none⟩,
 ⟨.load false (.i .i64) (.t 60), some 61, none⟩,
 ⟨.bin .add .plain (.t 61) (.c (vi .i64 1)), some 62, none⟩,
 ⟨.build J4 [(0, (.i .i64), (.c (vi .i64 1))), (1, (.i .i64), (.t 62))], some 63, none⟩,
 ⟨.lits false J4 1 [(0, (.t 63))], some 64, none⟩,
 ⟨.app J4 48 (.t 59) (.t 64), some 65, none⟩,
 ⟨.faddr 4 (.t 3), some 66, none⟩,
 ⟨.store (.l J4) (.t 66) (.t 65), none, none⟩]))))))
 (.skip))))))))))))))))))))))
 (.keep [3, 4] (.seq (.reg false [] [
 ⟨.load true J3 (.t 3), some 67, none⟩,
 ⟨.store J3 (.t 4) (.t 67), none, none⟩])
 (.ret)))))))
def J81 : TFn := ⟨2, 68, JkQ, [.cell 4 true J3], false⟩
end Go.Am.Od
end
section
namespace Go.Am.Od
noncomputable section
set_option maxRecDepth 20000
def JU (rec : (Int × T_pagemenddraw_Codes) → Option (Int × T_pagemenddraw_Codes)) (x1 : Int × T_pagemenddraw_Codes) : Option (Int × T_pagemenddraw_Codes) :=
 if geI x1.2.2 (J5 x1.2.1) = false then
  if ltI x1.1 1 then
   some (0, x1.2)
  else
   (idx x1.2.1 x1.2.2).bind fun y2 =>
   if gtI x1.1 256 then
    (rec (256, x1.2.1, J9 .i64 x1.2.2 1)).bind fun y3 =>
    (Jcd (J9 .i64 (JjP .i64 256 (cvI .i64 y2)) y3.1) x1.1).bind fun y4 =>
    some (y4, y3.2)
   else
    (Jcd (cvI .i64 y2) x1.1).bind fun y5 =>
    some (y5, x1.2.1, J9 .i64 x1.2.2 1)
 else
  some (0, x1.2)
def S_draw_Codes_Next : (Int × T_pagemenddraw_Codes) → Option (Int × T_pagemenddraw_Codes) := Ja4 JU 100
theorem J68 (r x) : onO (J00 g_draw_Codes_Next x) (fun y => J0c (TG.of (sigE i_draw_Codes_Next g_draw_Codes_Next r :: [])) J10 y.1 y.2 (JJ g_draw_Codes_Next)) = JU r x := by kernel_rfl
def J1X (z6 : Int × Int × T_pagemenddraw_Codes × (List Int)) : Option ((Int × Int × T_pagemenddraw_Codes × (List Int)) ⊕ ((List UInt8) × T_pagemenddraw_Codes)) :=
 if ltI z6.2.1 z6.1 then
  (S_draw_Codes_Next (3, z6.2.2.1)).bind fun y7 =>
  (J1V 1 z6.2.2.2 [cvI .u8 (J9 .i64 97 y7.1)]).bind fun y8 =>
  some (.inl (z6.1, J9 .i64 z6.2.1 1, y7.2, y8))
 else
  some (.inr (toStr z6.2.2.2, z6.2.2.1))
def J3F (z10 : Int × Int × T_pagemenddraw_Codes × (List Int)) : Option ((Int × Int × T_pagemenddraw_Codes × (List Int)) ⊕ ((List UInt8) × T_pagemenddraw_Codes)) :=
 if ltI z10.2.1 z10.1 then
  (S_draw_Codes_Next (3, z10.2.2.1)).bind fun y11 =>
  (J1V 1 z10.2.2.2 [cvI .u8 (J9 .i64 97 y11.1)]).bind fun y12 =>
  some (.inl (z10.1, J9 .i64 z10.2.1 1, y11.2, y12))
 else
  some (.inr (toStr z10.2.2.2, z10.2.2.1))
def S_draw_Codes_Data (x1 : T_pagemenddraw_Codes) : Option ((List UInt8) × T_pagemenddraw_Codes) :=
 (S_draw_Codes_Next (5, x1)).bind fun y2 =>
 (S_draw_Codes_Next (6, y2.2)).bind fun y3 =>
 if eqI y3.1 0 then
  (S_draw_Codes_Next (14, y3.2)).bind fun y4 =>
  (mkS 1 0 y4.1 0).bind fun y5 =>
  Jz (J1X) (y4.1, 0, y4.2, y5)
 else
  (mkS 1 0 y2.1 0).bind fun y9 =>
  Jz (J3F) (y2.1, 0, y3.2, y9)
theorem J6f (x) : onO (J00 J0r x) (fun y => J0c (TG.of [sigE i_draw_Codes_Next g_draw_Codes_Next S_draw_Codes_Next]) J12 y.1 y.2 (JJ J0r)) = S_draw_Codes_Data x := by kernel_rfl
def S_draw_Codes_Int (x1 : T_pagemenddraw_Codes) : Option (Int × T_pagemenddraw_Codes) :=
 (S_draw_Codes_Next (10, x1)).bind fun y2 =>
 if eqI y2.1 0 then
  (S_draw_Codes_Next (3, y2.2)).bind fun y3 =>
  some (J23 .i64 (-1) y3.1, y3.2)
 else
  if eqI y2.1 1 then
   (S_draw_Codes_Next (16, y2.2)).bind fun y4 =>
   (idx [9223372036854775807, (-9223372036854775808), 1099511627776, 1099511627777, 1073741824, 1073741825, 64, 63, 16, 15, 256, 255, 4294967296, 65536, 256, 255] y4.1).bind fun y5 =>
   some (y5, y4.2)
  else
   (S_draw_Codes_Next (20, y2.2)).bind fun y6 =>
   some (y6.1, y6.2)
theorem J6S (x) : onO (J00 J0e x) (fun y => J0c (TG.of [sigE i_draw_Codes_Next g_draw_Codes_Next S_draw_Codes_Next]) J1g y.1 y.2 (JJ J0e)) = S_draw_Codes_Int x := by kernel_rfl
def S_draw_Codes_Fault (x1 : Int × Int × T_pagemenddraw_Codes) : Option (J6 × T_pagemenddraw_Codes) :=
 (S_draw_Codes_Next (6, x1.2.2)).bind fun y2 =>
 (S_draw_Codes_Next (6, y2.2)).bind fun y3 =>
 if eqI (J9 .i64 1 y2.1) 2 then
  (S_draw_Codes_Next (x1.1, y3.2)).bind fun y4 =>
  (S_draw_Codes_Next (16, y4.2)).bind fun y5 =>
  if eqI y5.1 12 then
   (S_draw_Codes_Int y5.2).bind fun y6 =>
   some ((J9 .i64 1 y2.1, y6.1, 0, y4.1, 0, 0), y6.2)
  else
   if eqI y5.1 13 then
    (S_draw_Codes_Int y5.2).bind fun y7 =>
    some ((J9 .i64 1 y2.1, J9 .i64 (J9 .i64 x1.2.1 1) y3.1, y7.1, y4.1, 0, 0), y7.2)
   else
    if eqI y5.1 14 then
     (S_draw_Codes_Int y5.2).bind fun y8 =>
     (S_draw_Codes_Int y8.2).bind fun y9 =>
     some ((J9 .i64 1 y2.1, J9 .i64 (J9 .i64 x1.2.1 1) y3.1, 0, y8.1, y9.1, 0), y9.2)
    else
     if eqI y5.1 15 then
      (S_draw_Codes_Next (9, y5.2)).bind fun y10 =>
      some ((J23 .i64 y10.1 1, J9 .i64 (J9 .i64 x1.2.1 1) y3.1, 0, y4.1, 0, 0), y10.2)
     else
      some ((J9 .i64 1 y2.1, J9 .i64 (J9 .i64 x1.2.1 1) y3.1, 0, y4.1, 0, 0), y5.2)
 else
  if eqI (J9 .i64 1 y2.1) 3 then
   (S_draw_Codes_Next (256, y3.2)).bind fun y11 =>
   (S_draw_Codes_Next (16, y11.2)).bind fun y12 =>
   if eqI y12.1 12 then
    (S_draw_Codes_Int y12.2).bind fun y13 =>
    some ((J9 .i64 1 y2.1, y13.1, 0, 0, y11.1, 0), y13.2)
   else
    if eqI y12.1 13 then
     (S_draw_Codes_Int y12.2).bind fun y14 =>
     some ((J9 .i64 1 y2.1, J9 .i64 (J9 .i64 x1.2.1 1) y3.1, y14.1, 0, y11.1, 0), y14.2)
    else
     if eqI y12.1 14 then
      (S_draw_Codes_Int y12.2).bind fun y15 =>
      (S_draw_Codes_Int y15.2).bind fun y16 =>
      some ((J9 .i64 1 y2.1, J9 .i64 (J9 .i64 x1.2.1 1) y3.1, 0, y15.1, y16.1, 0), y16.2)
     else
      if eqI y12.1 15 then
       (S_draw_Codes_Next (9, y12.2)).bind fun y17 =>
       some ((J23 .i64 y17.1 1, J9 .i64 (J9 .i64 x1.2.1 1) y3.1, 0, 0, y11.1, 0), y17.2)
      else
       some ((J9 .i64 1 y2.1, J9 .i64 (J9 .i64 x1.2.1 1) y3.1, 0, 0, y11.1, 0), y12.2)
  else
   if eqI (J9 .i64 1 y2.1) 4 then
    (S_draw_Codes_Next (x1.1, y3.2)).bind fun y18 =>
    (S_draw_Codes_Next (256, y18.2)).bind fun y19 =>
    (S_draw_Codes_Next (255, y19.2)).bind fun y20 =>
    (S_draw_Codes_Next (16, y20.2)).bind fun y21 =>
    if eqI y21.1 12 then
     (S_draw_Codes_Int y21.2).bind fun y22 =>
     some ((J9 .i64 1 y2.1, y22.1, y18.1, 0, y19.1, cvI .u8 (J9 .i64 1 y20.1)), y22.2)
    else
     if eqI y21.1 13 then
      (S_draw_Codes_Int y21.2).bind fun y23 =>
      some ((J9 .i64 1 y2.1, J9 .i64 (J9 .i64 x1.2.1 1) y3.1, y23.1, 0, y19.1, 0), y23.2)
     else
      if eqI y21.1 14 then
       (S_draw_Codes_Int y21.2).bind fun y24 =>
       (S_draw_Codes_Int y24.2).bind fun y25 =>
       some ((J9 .i64 1 y2.1, J9 .i64 (J9 .i64 x1.2.1 1) y3.1, y18.1, y24.1, y25.1, cvI .u8 (J9 .i64 1 y20.1)), y25.2)
      else
       if eqI y21.1 15 then
        (S_draw_Codes_Next (9, y21.2)).bind fun y26 =>
        some ((J23 .i64 y26.1 1, J9 .i64 (J9 .i64 x1.2.1 1) y3.1, y18.1, 0, y19.1, cvI .u8 (J9 .i64 1 y20.1)), y26.2)
       else
        some ((J9 .i64 1 y2.1, J9 .i64 (J9 .i64 x1.2.1 1) y3.1, y18.1, 0, y19.1, cvI .u8 (J9 .i64 1 y20.1)), y21.2)
   else
    if eqI (J9 .i64 1 y2.1) 5 then
     (S_draw_Codes_Next (x1.1, y3.2)).bind fun y27 =>
     (S_draw_Codes_Next (16, y27.2)).bind fun y28 =>
     if eqI y28.1 12 then
      (S_draw_Codes_Int y28.2).bind fun y29 =>
      some ((J9 .i64 1 y2.1, y29.1, y27.1, 0, 0, 0), y29.2)
     else
      if eqI y28.1 13 then
       (S_draw_Codes_Int y28.2).bind fun y30 =>
       some ((J9 .i64 1 y2.1, J9 .i64 (J9 .i64 x1.2.1 1) y3.1, y30.1, 0, 0, 0), y30.2)
      else
       if eqI y28.1 14 then
        (S_draw_Codes_Int y28.2).bind fun y31 =>
        (S_draw_Codes_Int y31.2).bind fun y32 =>
        some ((J9 .i64 1 y2.1, J9 .i64 (J9 .i64 x1.2.1 1) y3.1, y27.1, y31.1, y32.1, 0), y32.2)
       else
        if eqI y28.1 15 then
         (S_draw_Codes_Next (9, y28.2)).bind fun y33 =>
         some ((J23 .i64 y33.1 1, J9 .i64 (J9 .i64 x1.2.1 1) y3.1, y27.1, 0, 0, 0), y33.2)
        else
         some ((J9 .i64 1 y2.1, J9 .i64 (J9 .i64 x1.2.1 1) y3.1, y27.1, 0, 0, 0), y28.2)
    else
     (S_draw_Codes_Next (16, y3.2)).bind fun y34 =>
     if eqI y34.1 12 then
      (S_draw_Codes_Int y34.2).bind fun y35 =>
      some ((J9 .i64 1 y2.1, y35.1, 0, 0, 0, 0), y35.2)
     else
      if eqI y34.1 13 then
       (S_draw_Codes_Int y34.2).bind fun y36 =>
       some ((J9 .i64 1 y2.1, J9 .i64 (J9 .i64 x1.2.1 1) y3.1, y36.1, 0, 0, 0), y36.2)
      else
       if eqI y34.1 14 then
        (S_draw_Codes_Int y34.2).bind fun y37 =>
        (S_draw_Codes_Int y37.2).bind fun y38 =>
        some ((J9 .i64 1 y2.1, J9 .i64 (J9 .i64 x1.2.1 1) y3.1, 0, y37.1, y38.1, 0), y38.2)
       else
        if eqI y34.1 15 then
         (S_draw_Codes_Next (9, y34.2)).bind fun y39 =>
         some ((J23 .i64 y39.1 1, J9 .i64 (J9 .i64 x1.2.1 1) y3.1, 0, 0, 0, 0), y39.2)
        else
         some ((J9 .i64 1 y2.1, J9 .i64 (J9 .i64 x1.2.1 1) y3.1, 0, 0, 0, 0), y34.2)
theorem J5g (x) : onO (J00 JX x) (fun y => J0c (TG.of [sigE i_draw_Codes_Next g_draw_Codes_Next S_draw_Codes_Next, sigE Jo J0e S_draw_Codes_Int]) J0R y.1 y.2 (JJ JX)) = S_draw_Codes_Fault x := by kernel_rfl
def S_ref04_Copy (x1 : T_api_Device) : Option (Int × Bool × (List (List UInt8)) × (List Int) × (List J6)) :=
 (cloS 16 x1.1).bind fun y2 =>
 (cloS 8 x1.2.2.1).bind fun y3 =>
 (cloS 48 x1.2.2.2.2).bind fun y4 =>
 some (x1.2.1, x1.2.2.2.1, y2, y3, y4)
theorem J8Z (x) : onO (J00 J0G x) (fun y => J0c (TG.of []) J2v y.1 y.2 (JJ J0G)) = S_ref04_Copy x := by kernel_rfl
def L_law04_odd_0 (z11 : T_pagemenddraw_Codes × Int × Bool × (List (List UInt8)) × (List Int) × (List J6) × Int × Bool × (List (List UInt8)) × (List Int) × (List J6)) : Option ((T_pagemenddraw_Codes × Int × Bool × (List (List UInt8)) × (List Int) × (List J6) × Int × Bool × (List (List UInt8)) × (List Int) × (List J6)) ⊕ (T_api_Device × T_pagemenddraw_Codes)) :=
 if leI (J5 z11.2.2.2.2.2.2.2.2.2.2) 64 then
  (J1V 48 z11.2.2.2.2.2.2.2.2.2.2 [(1, J9 .i64 z11.2.1 1, 0, 0, 0, 0)]).bind fun y12 =>
  some (.inl (z11.1, z11.2.1, z11.2.2.1, z11.2.2.2.1, z11.2.2.2.2.1, z11.2.2.2.2.2.1, z11.2.2.2.2.2.2.1, z11.2.2.2.2.2.2.2.1, z11.2.2.2.2.2.2.2.2.1, z11.2.2.2.2.2.2.2.2.2.1, y12))
 else
  some (.inr ((z11.2.2.2.2.2.2.2.2.1, z11.2.1, z11.2.2.2.2.2.2.2.2.2.1, z11.2.2.1, z11.2.2.2.2.2.2.2.2.2.2), z11.1))
def S_law04_odd (x1 : T_api_Device × T_pagemenddraw_Codes) : Option (T_api_Device × T_pagemenddraw_Codes) :=
 (S_ref04_Copy x1.1).bind fun y2 =>
 (S_draw_Codes_Next (6, x1.2)).bind fun y3 =>
 if eqI y3.1 0 then
  (S_draw_Codes_Data y3.2).bind fun y4 =>
  (J1V 16 y2.2.2.1 [y4.1]).bind fun y5 =>
  some ((y5, y2.1, y2.2.2.2.1, y2.2.1, y2.2.2.2.2), y4.2)
 else
  if eqI y3.1 1 then
   (S_draw_Codes_Int y3.2).bind fun y6 =>
   some ((y2.2.2.1, y6.1, y2.2.2.2.1, y2.2.1, y2.2.2.2.2), y6.2)
  else
   if eqI y3.1 2 then
    (S_draw_Codes_Next (5, y3.2)).bind fun y7 =>
    (J1V 8 y2.2.2.2.1 [y7.1]).bind fun y8 =>
    some ((y2.2.2.1, y2.1, y8, y2.2.1, y2.2.2.2.2), y7.2)
   else
    if eqI y3.1 3 then
     some ((y2.2.2.1, y2.1, y2.2.2.2.1, J0A y2.2.1, y2.2.2.2.2), y3.2)
    else
     if eqI y3.1 4 then
      (S_draw_Codes_Fault (J5 y2.2.2.1, y2.1, y3.2)).bind fun y9 =>
      (J1V 48 y2.2.2.2.2 [y9.1]).bind fun y10 =>
      some ((y2.2.2.1, y2.1, y2.2.2.2.1, y2.2.1, y10), y9.2)
     else
      if eqI y3.1 5 then
       Jz (L_law04_odd_0) (y3.2, y2.1, y2.2.1, [], [], [], 0, false, y2.2.2.1, y2.2.2.2.1, y2.2.2.2.2)
      else
       some ((y2.2.2.1, y2.1, y2.2.2.2.1, y2.2.1, y2.2.2.2.2), y3.2)
theorem JkB (x) : onO (J00 g_law04_odd x) (fun y => J0c (TG.of [sigE JR J0G S_ref04_Copy, sigE i_draw_Codes_Next g_draw_Codes_Next S_draw_Codes_Next, sigE JP J0r S_draw_Codes_Data, sigE Jo J0e S_draw_Codes_Int, sigE Jy JX S_draw_Codes_Fault]) J81 y.1 y.2 (JJ g_law04_odd)) = S_law04_odd x := by kernel_rfl
end
end Go.Am.Od
end
section
namespace Go.Am.Od
set_option maxRecDepth 20000
def lkA {α : Type} (f : FuncId) : List (FuncId × α) → Option α
 | [] => none
 | (g, a) :: r => if f = g then some a else lkA f r
noncomputable def fns : List (FuncId × AFn) := [(i_draw_Codes_Next, erF J10), (JP, erF J12), (Jo, erF J1g), (Jy, erF J0R), (JR, erF J2v), (i_law04_odd, erF J81)]
noncomputable def fks : List (FuncId × J5l) := []
noncomputable def fps : List (FuncId × Prm) := []
abbrev PS := FuncId → Option (List AV → List Blk → Option Res)
noncomputable def tabO (p : PS) : J21 := fun f => JpF (lkA f fns) (lkA f fks) (lkA f fps) (p f)
theorem J6c (p : PS) : tabO p i_draw_Codes_Next = some (.fn (erF J10)) := rfl
theorem J67 (p : PS) : tabO p JP = some (.fn (erF J12)) := rfl
theorem J6I (p : PS) : tabO p Jo = some (.fn (erF J1g)) := rfl
theorem J5s (p : PS) : tabO p Jy = some (.fn (erF J0R)) := rfl
theorem J94 (p : PS) : tabO p JR = some (.fn (erF J2v)) := rfl
theorem Ja9 (p : PS) : tabO p i_law04_odd = some (.fn (erF J81)) := rfl
end Go.Am.Od
end
section
namespace Go.Am.Od
set_option maxRecDepth 20000
set_option maxHeartbeats 4000000
theorem J0t (p : PS) : EOk (AF (tabO p)) (sigE i_draw_Codes_Next g_draw_Codes_Next S_draw_Codes_Next) := Jke (l := []) (J6c p) trivial rfl J68 100
theorem J6g (p : PS) : EOk (AF (tabO p)) (sigE JP J0r S_draw_Codes_Data) := JV (l := [sigE i_draw_Codes_Next g_draw_Codes_Next S_draw_Codes_Next]) (J67 p) ⟨J0t p, trivial⟩ rfl J6f
theorem J4M (p : PS) : EOk (AF (tabO p)) (sigE Jo J0e S_draw_Codes_Int) := JV (l := [sigE i_draw_Codes_Next g_draw_Codes_Next S_draw_Codes_Next]) (J6I p) ⟨J0t p, trivial⟩ rfl J6S
theorem J3W (p : PS) : EOk (AF (tabO p)) (sigE Jy JX S_draw_Codes_Fault) := JV (l := [sigE i_draw_Codes_Next g_draw_Codes_Next S_draw_Codes_Next, sigE Jo J0e S_draw_Codes_Int]) (J5s p) ⟨J0t p, ⟨J4M p, trivial⟩⟩ rfl J5g
theorem J5k (p : PS) : EOk (AF (tabO p)) (sigE JR J0G S_ref04_Copy) := JV (l := []) (J94 p) trivial rfl J8Z
theorem e_law04_odd (p : PS) : EOk (AF (tabO p)) (sigE i_law04_odd g_law04_odd S_law04_odd) := JV (l := [sigE JR J0G S_ref04_Copy, sigE i_draw_Codes_Next g_draw_Codes_Next S_draw_Codes_Next, sigE JP J0r S_draw_Codes_Data, sigE Jo J0e S_draw_Codes_Int, sigE Jy JX S_draw_Codes_Fault]) (Ja9 p) ⟨J5k p, ⟨J0t p, ⟨J6g p, ⟨J4M p, ⟨J3W p, trivial⟩⟩⟩⟩⟩ rfl JkB
end Go.Am.Od
end
section
namespace Go.Am
theorem Jkh {α : Type} {n : Nat} : ∀ {l m : List (List α)}, (∀ x ∈ l, x.length = n) → (∀ x ∈ m, x.length = n) → l.length = m.length → l.flatten = m.flatten → l = m
 | [], [], _, _, _, _ => rfl
 | [], _ :: _, _, _, h, _ => by simp at h
 | _ :: _, [], _, _, h, _ => by simp at h
 | x :: l, y :: m, hl, hm, h, e => by
  simp only [List.flatten_cons] at e
  have h1 := hl x List.mem_cons_self
  have h2 := hm y List.mem_cons_self
  obtain ⟨e1, e2⟩ := List.append_inj e (by omega)
  subst e1
  rw [Jkh (fun z hz => hl z (List.mem_cons_of_mem _ hz)) (fun z hz => hm z (List.mem_cons_of_mem _ hz)) (by simpa using h) e2]
theorem Jem {α β : Type} {f : α → β} (hf : ∀ x y, f x = f y → x = y) : ∀ {l m : List α}, l.map f = m.map f → l = m
 | [], [], _ => rfl
 | [], _ :: _, h => by simp at h
 | _ :: _, [], h => by simp at h
 | x :: l, y :: m, h => by
  simp only [List.map_cons, List.cons.injEq] at h
  rw [hf _ _ h.1, Jem hf h.2]
theorem Jaj : ∀ (t : Ty) (x y : t.D), cel t x = cel t y → x = y
 | .b, x, y, h => by simp only [cel, List.cons.injEq, PV.b.injEq, and_true] at h; exact h
 | .i k, x, y, h => by simp only [cel, List.cons.injEq, PV.i.injEq, and_true, true_and] at h; exact h
 | .s, x, y, h => by simp only [cel, List.cons.injEq, PV.s.injEq, and_true] at h; exact h
 | .l t, x, y, h => by
  simp only [cel, List.cons.injEq, PV.sl.injEq, and_true, true_and] at h
  exact Jem (Jaj t) h
 | .pr a c, x, y, h => by
  simp only [cel] at h
  obtain ⟨e1, e2⟩ := List.append_inj h (by rw [J0m, J0m])
  exact Prod.ext (Jaj a _ _ e1) (Jaj c _ _ e2)
 | .ar n t, x, y, h => by
  have h2 : (x.toList.map (cel t)).flatten = (y.toList.map (cel t)).flatten := h
  have h3 := Jkh (n := t.sz) (fun z hz => by obtain ⟨q, _, rfl⟩ := List.mem_map.1 hz; exact J0m t q) (fun z hz => by obtain ⟨q, _, rfl⟩ := List.mem_map.1 hz; exact J0m t q) (by simp) h2
  exact Vector.toList_inj.1 (Jem (Jaj t) h3)
 | .u, _, _, _ => rfl
 | .f, _, _, _ => rfl
open Classical in
noncomputable def unc (t : Ty) (cs : List PV) : Option t.D := if h : ∃ x : t.D, cel t x = cs then some (Classical.choose h) else none
theorem Jny (t : Ty) (x : t.D) : unc t (cel t x) = some x := by
 unfold unc
 have h : ∃ z : t.D, cel t z = cel t x := ⟨x, rfl⟩
 rw [dif_pos h, Jaj t _ _ (Classical.choose_spec h)]
theorem Jj5 {t : Ty} {cs : List PV} {x : t.D} (h : unc t cs = some x) : cel t x = cs := by
 unfold unc at h
 split at h
 ·rename_i hx; injection h with h; rw [← h]; exact Classical.choose_spec hx
 ·cases h
noncomputable def JdU (t : Ty) (S : t.D × Int × List UInt8 → Option t.D) : Prm
 | [.data cs, .p (.i .i64 n), .p (.s l)], blks => (unc t cs).bind fun x => (S (x, n, l)).map fun y => (.data (cel t y), blks)
 | _, _ => none
noncomputable def JdG (t : Ty) (S : t.D × Int × List UInt8 → Option (t.D × Int)) : Prm
 | [.data cs, .p (.i .i64 n), .p (.s l)], blks => (unc t cs).bind fun x => (S (x, n, l)).map fun y => (.tup [.data (cel t y.1), .p (.i .i64 y.2)], blks)
 | _, _ => none
theorem Jr7 {t : Ty} {S : t.D × Int × List UInt8 → Option t.D} (x : t.D) (n : Int) (l : List UInt8) (blks : List Blk) : JdU t S [.data (cel t x), .p (.i .i64 n), .p (.s l)] blks = (S (x, n, l)).map fun y => (.data (cel t y), blks) := by
 show (unc t (cel t x)).bind _ = _
 rw [Jny]; rfl
theorem Jrx {t : Ty} {S : t.D × Int × List UInt8 → Option (t.D × Int)} (x : t.D) (n : Int) (l : List UInt8) (blks : List Blk) : JdG t S [.data (cel t x), .p (.i .i64 n), .p (.s l)] blks = (S (x, n, l)).map fun y => (.tup [.data (cel t y.1), .p (.i .i64 y.2)], blks) := by
 show (unc t (cel t x)).bind _ = _
 rw [Jny]; rfl
theorem Jr9 {P : Program} {f : FuncId} {t : Ty} {S : t.D × Int × List UInt8 → Option t.D}
  (hw : ∀ x n l y blks, S (x, n, l) = some y → J2f P f [.data (cel t x), .p (.i .i64 n), .p (.s l)] blks (.data (cel t y), blks)) (args : List AV) (blks : List Blk) (r : Res) (h : JdU t S args blks = some r) : J2f P f args blks r := by
 unfold JdU at h
 split at h
 ·rename_i cs n l
  obtain ⟨x, hx, h⟩ := Option.bind_eq_some_iff.1 h
  obtain ⟨y, hy, rfl⟩ := Option.map_eq_some_iff.1 h
  have := hw _ _ _ _ blks hy
  rwa [Jj5 hx] at this
 ·cases h
theorem Jr8 {P : Program} {f : FuncId} {t : Ty} {S : t.D × Int × List UInt8 → Option (t.D × Int)}
  (hw : ∀ x n l y blks, S (x, n, l) = some y → J2f P f [.data (cel t x), .p (.i .i64 n), .p (.s l)] blks (.tup [.data (cel t y.1), .p (.i .i64 y.2)], blks)) (args : List AV) (blks : List Blk) (r : Res) (h : JdG t S args blks = some r) : J2f P f args blks r := by
 unfold JdG at h
 split at h
 ·rename_i cs n l
  obtain ⟨x, hx, h⟩ := Option.bind_eq_some_iff.1 h
  obtain ⟨y, hy, rfl⟩ := Option.map_eq_some_iff.1 h
  have := hw _ _ _ _ blks hy
  rwa [Jj5 hx] at this
 ·cases h
def JfY (t : Ty) : Sig := ⟨[.dt t, .c (.d (.i .i64)), .c (.d .s)], [], [t, .i .i64, .s], .a (.dt t), [], [], [t]⟩
def Jms (t : Ty) : Sig := ⟨[.dt t, .c (.d (.i .i64)), .c (.d .s)], [], [t, .i .i64, .s], .tup [.dt t, .c (.d (.i .i64))], [], [], [t, .i .i64]⟩
theorem Jnw (t : Ty) (x : t.D × Int × List UInt8) : J00 (JfY t) x = some ([.dt t x.1, .c (.d (.i .i64) x.2.1), .c (.d .s x.2.2)], []) := by
 have h : ∀ r, lf1 t (⟨t, x.1⟩ :: r) = some (x.1, r) := Jk6 t x.1
 show (match mkL mkA [.dt t, .c (.d (.i .i64)), .c (.d .s)] [(⟨t, x.1⟩ : Lf), ⟨.i .i64, x.2.1⟩, ⟨.s, x.2.2⟩] with
  | some (xs, l) => match mkL mkB (JfY t).blks l with
   | some (bl, []) => some (xs, bl)
   | _ => none
  | none => none) = _
 simp only [mkL, mkA, mkC, h]
 rfl
theorem Jro {T : J21} {f : FuncId} {t : Ty} {S : t.D × Int × List UInt8 → Option t.D} (hf : T f = some (.prim (JdU t S))) : EOk (AF T) (sigE f (JfY t) S) := by
 refine J9i rfl fun x xs bl y hx hy => ?_
 rw [Jnw t x] at hx
 injection hx with hx; injection hx with h1 h2; subst h1 h2
 refine ⟨.a (.dt t y), [], ?_, ?_⟩
 ·rw [Jaz hf]
  refine (Jr7 x.1 x.2.1 x.2.2 []).trans ?_
  rw [show S (x.1, x.2.1, x.2.2) = some y from hy]
  rfl
 ·show (if (ShV.a (.dt t) = (JfY t).res ∧ ([] : List ShB) = (JfY t).out) then asL [t] [⟨t, y⟩] else none) = some y
  rw [if_pos ⟨rfl, rfl⟩]
  simp [asL, JbO]
  rfl
theorem Jsp {T : J21} {f : FuncId} {t : Ty} {S : t.D × Int × List UInt8 → Option (t.D × Int)} (hf : T f = some (.prim (JdG t S))) : EOk (AF T) (sigE f (Jms t) S) := by
 refine J9i rfl fun x xs bl y hx hy => ?_
 rw [show J00 (Jms t) x = J00 (JfY t) x from rfl, Jnw t x] at hx
 injection hx with hx; injection hx with h1 h2; subst h1 h2
 refine ⟨.tup [.dt t y.1, .c (.d (.i .i64) y.2)], [], ?_, ?_⟩
 ·rw [Jaz hf]
  refine (Jrx x.1 x.2.1 x.2.2 []).trans ?_
  rw [show S (x.1, x.2.1, x.2.2) = some y from hy]
  rfl
 ·show (if (ShV.tup [.dt t, .c (.d (.i .i64))] = (Jms t).res ∧ ([] : List ShB) = (Jms t).out) then asL [t, .i .i64] [⟨t, y.1⟩, ⟨.i .i64, y.2⟩] else none) = some y
  rw [if_pos ⟨rfl, rfl⟩]
  simp [asL, JbO]
  rfl
end Go.Am
end
section
set_option linter.unusedSimpArgs false
set_option linter.unusedVariables false
namespace Go.Am
open Go.RowKit
theorem Jne {σ : List Blk} {g : Gh} {w w' : World} (hi : Inv ⟨σ, g, w⟩) (hb : Below w.heap.size w w') (p : Nat → Nat → Prop) (hp : ∀ r o, p r o → w.heap.size ≤ r ∧ r < w'.heap.size) :
  Inv ⟨σ, J6J g p, w'⟩ ∧ Js ⟨σ, g, w⟩ ⟨σ, J6J g p, w'⟩ := by
 have hk : ∀ (r : Nat) x, w.heap[r]? = some x → w'.heap[r]? = some x := fun r x h => by rw [hb.block r (J0o h)]; exact h
 have hc : ∀ r o v, cellAt w r o = some v → cellAt w' r o = some v := by
  intro r o v h
  have hr : r < w.heap.size := by
   unfold cellAt at h
   split at h
   ·rename_i hx; exact J0o hx
   ·cases h
  unfold cellAt at h ⊢
  rw [hb.block r hr]
  exact h
 have t : Js ⟨σ, g, w⟩ ⟨σ, J6J g p, w'⟩ := by
  refine ⟨⟨hb.size, fun r c e fz h => ⟨c, hk r _ h, rfl, fun _ _ => rfl⟩, fun r x h _ => hk r x h, hb.os, hb.output⟩, fun _ _ h => .inl h, fun r o h => ?_, fun r o ⟨b, hb⟩ => .inl ⟨b, hb⟩, Nat.le_refl _, fun _ cs h => ⟨⟨cs, h, rfl⟩, rfl⟩,
   fun _ wm _ rows h => ⟨wm, rows, h, id, Nat.le_refl _, fun _ => rfl⟩⟩
  rcases h with h | h
  ·exact .inl h
  ·exact .inr (.inr (hp r o h).1)
 refine ⟨J4U hi t (fun _ => False) (fun _ _ => ⟨rfl, rfl⟩) (fun _ r o v _ _ h => hc r o v h) (fun _ _ h => h.elim) (fun _ _ _ _ h => h.elim)
  (fun _ _ _ _ h => h.elim) ?_ (fun _ _ _ _ h => h.elim) ?_, t⟩
 ·intro r o hc
  rcases hc with hc | hc
  ·exact Nat.lt_of_lt_of_le (hi.const r o hc).1 hb.size
  ·exact (hp r o hc).2
 ·intro r o b hc hn _ h
  rcases hc with hc | hc
  ·exact hn hc
  ·have h1 : r < w.heap.size := J8N hi b r o h
   have h2 := (hp r o hc).1
   omega
def JdP (args : List AV) (blks : List Blk) : Option Res :=
 match args with
 | [.p (.sl 1 [[.s l]]), .p (.i .i64 n)] => if 1 ≤ n ∧ n ≤ 1000 then some (.p (.sl 1 (List.replicate n.toNat [.s l])), blks) else none
 | _ => none
theorem Jsz {P : Program} {f : FuncId} (hf : ∃ fn, P.funcs[f]? = some fn ∧ fn.body.isSome = true ∧ (fn.name == "runtime.NumGoroutine") = false)
  (hw : ∀ (b o xc n : Nat) (v : Value) (w : World), 1 ≤ n → n ≤ 1000 → w.cell? ⟨b, o, none⟩ = some v → v.oneCell' = true →
   Calls P f #[.slice (some ⟨b, o, none⟩) 1 xc, .int .i64 n] w fun e w' => e = .returned (.slice (some ⟨w.heap.size, 0, none⟩) n n) ∧ Below w.heap.size w w' ∧ ∀ j, j < n → w'.cell? ⟨w.heap.size, j, none⟩ = some v) :
  ∀ args blks r, JdP args blks = some r → J2f P f args blks r := by
 intro args blks r h
 unfold JdP at h
 split at h
 ·rename_i l n
  split at h
  ·rename_i hn
   injection h with h
   subst h
   refine ⟨hf, fun g w vals hi hl hr => ?_⟩
   obtain ⟨v0, v1, rfl⟩ : ∃ v0 v1, vals = #[v0, v1] := by
    obtain ⟨x⟩ := vals
    match x, hl with
    | [a, b], _ => exact ⟨a, b, rfl⟩
   have h0 : Jf ⟨blks, g, w⟩ (.p (.sl 1 [[.s l]])) v0 := hr 0 _ _ rfl rfl
   have h1 : Jf ⟨blks, g, w⟩ (.p (.i .i64 n)) v1 := hr 1 _ _ rfl rfl
   obtain ⟨k, rfl⟩ : ∃ k : Nat, n = (k : Int) := ⟨n.toNat, by omega⟩
   cases h1 with
   | p _ _ h1 =>
   cases h1
   cases h0 with
   | p _ _ h0 =>
   cases h0 with
   | sl _ _ r o cap vals c1 c2 c3 c4 =>
    have hc := (c3 0 0 [.s l] (.s l) rfl rfl).2
    have hv := c4 0 0 [.s l] (.s l) rfl rfl
    generalize vals 0 0 = u at hc hv
    cases hv
    refine (hw r o cap k (.string ⟨l.toArray⟩) w (by omega) (by omega) (by rw [J2z]; exact hc) rfl).mono ?_
    rintro e w' ⟨rfl, hb, hcs⟩
    have hlt : w.heap.size < w'.heap.size := by
     have h0 := hcs 0 (by omega)
     rw [J2z] at h0
     unfold cellAt at h0
     split at h0
     ·rename_i hx; exact J0o hx
     ·cases h0
    obtain ⟨i2, t2⟩ := Jne hi hb (fun r o => r = w.heap.size) (fun r o h => ⟨Nat.le_of_eq h.symm, by rw [h]; exact hlt⟩)
    refine ⟨_, _, rfl, i2, t2, .p _ _ ?_⟩
    simp only [Int.toNat_natCast]
    have hx : Jl w' (J6J g fun r o => r = w.heap.size).C (.sl 1 (List.replicate k [.s l])) (.slice (some ⟨w.heap.size, 0, none⟩) (List.replicate k [PV.s l]).length k) := by
     refine .sl 1 _ w.heap.size 0 k (fun _ _ => .string ⟨l.toArray⟩) (by simp) (fun row h => by rw [List.eq_of_mem_replicate h]; rfl) (fun i j row x hrow hx => ?_) (fun i j row x hrow hx => ?_)
     ·rw [List.getElem?_replicate] at hrow
      split at hrow
      ·rename_i hi
       injection hrow with hrow
       subst hrow
       cases j with
       | zero =>
        refine ⟨.inr rfl, ?_⟩
        rw [← J2z]
        simpa using hcs i hi
       | succ j => simp at hx
      ·cases hrow
     ·rw [List.getElem?_replicate] at hrow
      split at hrow
      ·injection hrow with hrow
       subst hrow
       cases j with
       | zero => simp at hx; subst hx; exact .s _
       | succ j => simp at hx
      ·cases hrow
    rw [List.length_replicate] at hx
    exact hx
  ·cases h
 ·cases h
end Go.Am
end
section
namespace Go.Am
open Go.RowKit
structure Up (B : Nat) (w w' : World) : Prop where
 size : w.heap.size ≤ w'.heap.size
 block : ∀ k, k < B → w'.heap[k]? = w.heap[k]?
 os : w'.os = w.os
 output : w'.output = w.output
theorem Up.refl (B : Nat) (w : World) : Up B w w := ⟨Nat.le_refl _, fun _ _ => rfl, rfl, rfl⟩
theorem Up.trans {B : Nat} {a b c : World} (h : Up B a b) (k : Up B b c) : Up B a c :=
 ⟨Nat.le_trans h.size k.size, fun i hi => (k.block i hi).trans (h.block i hi), k.os.trans h.os, k.output.trans h.output⟩
theorem Up.mono {B B' : Nat} {a b : World} (h : Up B a b) (hB : B' ≤ B) : Up B' a b := ⟨h.size, fun k hk => h.block k (Nat.lt_of_lt_of_le hk hB), h.os, h.output⟩
theorem Up.of_below {B : Nat} {a b : World} (h : Below B a b) : Up B a b := ⟨h.size, h.block, h.os, h.output⟩
theorem Up.drew {B : Nat} {a b : World} (h : Up B a b) : Up B a b.drew := ⟨h.size, h.block, h.os, h.output⟩
theorem Up.alloc {B : Nat} {a b : World} (h : Up B a b) (hB : B ≤ b.heap.size) (o : Obj) : Up B a (b.alloc o) :=
 h.trans (.of_below ((Below.refl B b).alloc hB o))
theorem Up.setCell {B : Nat} {a b : World} (h : Up B a b) {p : Addr} (hp : B ≤ p.block) (u : Value) : Up B a (b.setCell p u) :=
 h.trans (.of_below ((Below.refl B b).setCell hp u))
theorem Up.cellAt {B : Nat} {a b : World} (h : Up B a b) {r o : Nat} (hr : r < B) : cellAt b r o = cellAt a r o := by
 unfold Go.Am.cellAt; rw [h.block r hr]
theorem J5A {w : World} {r o : Nat} {v : Value} (h : cellAt w r o = some v) : r < w.heap.size := by
 unfold cellAt at h
 split at h
 ·rename_i hx; exact J0o hx
 ·cases h
theorem Jl.keeps {w w' : World} {C C' : Nat → Nat → Prop} (hs : ∀ r o u, C r o → cellAt w r o = some u → C' r o ∧ cellAt w' r o = some u) {x : PV} {v : Value} (h : Jl w C x v) : Jl w' C' x v := by
 induction h with
 | b x => exact .b x
 | i k n => exact .i k n
 | s l => exact .s l
 | np => exact .np
 | nf => exact .nf
 | sl0 e a c => exact .sl0 e a c
 | sl esz rows r o cap vals h1 h2 h3 _ ih => exact .sl esz rows r o cap vals h1 h2 (fun i j row x hi hj => hs _ _ _ (h3 i j row x hi hj).1 (h3 i j row x hi hj).2) ih
 | slc esz rows a _ ih => exact .slc esz rows a ih
theorem Jl.up {w w' : World} {C C' : Nat → Nat → Prop} (hu : Up w.heap.size w w') (hC : ∀ r o, C r o → r < w.heap.size → C' r o) {x : PV} {v : Value} (h : Jl w C x v) : Jl w' C' x v :=
 h.keeps fun r o u hc hu' => ⟨hC r o hc (J5A hu'), by rw [hu.cellAt (J5A hu')]; exact hu'⟩
theorem Jrw {g g' : Gh} {w w' : World} (t : Js ⟨[], g, w⟩ ⟨[], g', w'⟩) : Up w.heap.size w w' := by
 have hno : ∀ r o, ¬ Wr (⟨[], g, w⟩ : Sn) r o := fun r o ⟨b, hb⟩ => by simp [Wr1] at hb
 obtain ⟨h1, h2, h3, h4, h5⟩ := t.keep
 refine ⟨h1, fun k hk => ?_, h4, h5⟩
 have hk' : w.heap[k]? = some w.heap[k] := Array.getElem?_eq_getElem hk
 cases e : w.heap[k] with
 | cells c t' fz =>
  rw [e] at hk'
  obtain ⟨c', e1, e2, e3⟩ := h2 k c t' fz hk'
  have : c' = c := Array.ext_getElem? fun i => e3 i (hno k i)
  show w'.heap[k]? = w.heap[k]?
  rw [hk', ← this]; exact e1
 | _ => rw [e] at hk'; show w'.heap[k]? = w.heap[k]?; rw [hk']; exact h3 k _ hk' (fun _ _ _ h => by cases h)
def ghC (C : Nat → Nat → Prop) (w : World) : Gh := J6J ⟨fun _ => none, fun _ _ => False⟩ fun r o => C r o ∧ r < w.heap.size
theorem JrO (C : Nat → Nat → Prop) (w : World) : Inv ⟨[], ghC C w, w⟩ :=
 ⟨fun b cs h => by simp at h, fun b wm e r h => by simp at h, fun b1 b2 r o h => by simp [Wr1] at h, fun r o h => by
  rcases h with h | h
  ·exact h.elim
  ·exact ⟨h.2, fun b hb => by simp [Wr1] at hb⟩⟩
theorem Jor {P : Program} {f : FuncId} {args : List AV} {r : AV} {blks : List Blk} (h : J2f P f args [] (r, blks)) (hb : blks = []) {w : World} (C : Nat → Nat → Prop) {vals : Array Value} (hl : args.length = vals.size)
  (ha : ∀ (i : Nat) x v, args[i]? = some x → vals[i]? = some v → Jf ⟨[], ghC C w, w⟩ x v) :
  Calls P f vals w fun e w' => ∃ v g', e = .returned v ∧ Up w.heap.size w w' ∧ Jf ⟨[], g', w'⟩ r v ∧ ∀ r o, g'.C r o → C r o ∨ w.heap.size ≤ r := by
 subst hb
 refine (h.2 (ghC C w) w vals (JrO C w) hl ha).mono ?_
 rintro e w' ⟨v, g', he, hi, t, hr⟩
 refine ⟨v, g', he, Jrw t, hr, fun r o hc => ?_⟩
 rcases t.cnew r o hc with h | ⟨b, hb⟩ | h
 ·rcases h with h | h
  ·exact h.elim
  ·exact .inl h.1
 ·simp [Wr1] at hb
 ·exact .inr h
theorem Jpt {σ : List Blk} {g : Gh} {w w' : World} (hi : Inv ⟨σ, g, w⟩) (hb : Up w.heap.size w w') (p : Nat → Nat → Prop) (hp : ∀ r o, p r o → w.heap.size ≤ r ∧ r < w'.heap.size) :
  Inv ⟨σ, J6J g p, w'⟩ ∧ Js ⟨σ, g, w⟩ ⟨σ, J6J g p, w'⟩ := by
 have hk : ∀ (r : Nat) x, w.heap[r]? = some x → w'.heap[r]? = some x := fun r x h => by rw [hb.block r (J0o h)]; exact h
 have hc : ∀ r o v, cellAt w r o = some v → cellAt w' r o = some v := fun r o v h => by rw [hb.cellAt (J5A h)]; exact h
 have t : Js ⟨σ, g, w⟩ ⟨σ, J6J g p, w'⟩ := by
  refine ⟨⟨hb.size, fun r c e fz h => ⟨c, hk r _ h, rfl, fun _ _ => rfl⟩, fun r x h _ => hk r x h, hb.os, hb.output⟩, fun _ _ h => .inl h, fun r o h => ?_, fun r o ⟨b, hb⟩ => .inl ⟨b, hb⟩, Nat.le_refl _, fun _ cs h => ⟨⟨cs, h, rfl⟩, rfl⟩,
   fun _ wm _ rows h => ⟨wm, rows, h, id, Nat.le_refl _, fun _ => rfl⟩⟩
  rcases h with h | h
  ·exact .inl h
  ·exact .inr (.inr (hp r o h).1)
 refine ⟨J4U hi t (fun _ => False) (fun _ _ => ⟨rfl, rfl⟩) (fun _ r o v _ _ h => hc r o v h) (fun _ _ h => h.elim) (fun _ _ _ _ h => h.elim)
  (fun _ _ _ _ h => h.elim) ?_ (fun _ _ _ _ h => h.elim) ?_, t⟩
 ·intro r o hc
  rcases hc with hc | hc
  ·exact Nat.lt_of_lt_of_le (hi.const r o hc).1 hb.size
  ·exact (hp r o hc).2
 ·intro r o b hc hn _ h
  rcases hc with hc | hc
  ·exact hn hc
  ·have h1 : r < w.heap.size := J8N hi b r o h
   have h2 := (hp r o hc).1
   omega
end Go.Am
end
section
namespace Go.Am
abbrev FT := Int × Int × Int × Int × Int × Int
abbrev DT := List (List UInt8) × Int × List Int × Bool × List FT
def J4z (x : DT) (p : Nat) (s : List UInt8) : DT := (x.1.set p s, x.2.1, x.2.2.1.filter (fun n => !(n == (p : Int))), x.2.2.2.1, x.2.2.2.2)
def JjW (l : List UInt8) (b : Nat) (m : Int) : List UInt8 := ((l.map fun x => (x.toNat : Int)).set b (bits BinOp.xor IntKind.u8 (l.getD b 0).toNat m)).map fun n => UInt8.ofNat n.toNat
def J19 (x : DT) (f : FT) : DT :=
 if f.1 = 4 then (x.1.set f.2.2.1.toNat (JjW (x.1.getD f.2.2.1.toNat []) f.2.2.2.2.1.toNat f.2.2.2.2.2), x.2)
 else if f.1 = 5 then
  if x.2.2.1.contains f.2.2.1 then x else (x.1, x.2.1, x.2.2.1.take (x.2.2.1.countP (· < f.2.2.1)) ++ f.2.2.1 :: x.2.2.1.drop (x.2.2.1.countP (· < f.2.2.1)), x.2.2.2)
 else if f.1 = 6 then (x.1, x.2.1, x.2.2.1, true, x.2.2.2.2)
 else x
structure HOk (x : DT) (f : FT) : Prop where
 len : x.1.length ≤ 1000000
 ulen : x.2.2.1.length ≤ 1000000
 sorted : f.1 = 5 → x.2.2.1.Pairwise (· ≤ ·)
 page : f.1 = 4 → 0 ≤ f.2.2.1 ∧ f.2.2.1.toNat < x.1.length
 byte : f.1 = 4 → 0 ≤ f.2.2.2.2.1 ∧ f.2.2.2.2.1.toNat < (x.1.getD f.2.2.1.toNat []).length
 mask : f.1 = 4 → 0 ≤ f.2.2.2.2.2 ∧ f.2.2.2.2.2 ≤ 255
def J1T : List FT → Int × Int
 | [] => (0, 0)
 | f :: l => if f.1 = 1 then (1, 0) else if f.1 = 2 then (2, f.2.2.2.1) else if f.1 = 3 then (3, f.2.2.2.2.1) else J1T l
def J8n (x : DT) (t : Int) (s : List UInt8) : Option DT := if 0 ≤ t ∧ t.toNat < x.1.length ∧ x.1.length ≤ 1000000 ∧ x.2.2.1.length ≤ 1000000 then some (J4z x t.toNat s) else none
theorem J9A {x y : DT} {t : Int} {s : List UInt8} (h : J8n x t s = some y) : (0 ≤ t ∧ t.toNat < x.1.length ∧ x.1.length ≤ 1000000 ∧ x.2.2.1.length ≤ 1000000) ∧ y = J4z x t.toNat s := by
 unfold J8n at h
 split at h
 ·rename_i hk; injection h with h; exact ⟨hk, h.symm⟩
 ·cases h
def Ji2 (x : DT) (p b : Int) (s : List UInt8) : Option DT :=
 if 0 ≤ b ∧ b.toNat ≤ s.length ∧ 0 ≤ p ∧ p.toNat < x.1.length ∧ b.toNat ≤ (x.1.getD p.toNat []).length ∧ (x.1.getD p.toNat []).length = 256 then J8n x p (s.take b.toNat ++ (x.1.getD p.toNat []).drop b.toNat) else none
def Jpw (e : Int × Int) (x : DT) (p : Int) (s : List UInt8) : Option DT :=
 if e.1 = 1 then some x else if e.1 = 2 then J8n x e.2 s else if e.1 = 3 then Ji2 x p e.2 s else J8n x p s
noncomputable def J1l (x : DT) (f : FT) : Option DT := open Classical in if HOk x f then some (J19 x f) else none
theorem J8P {x y : DT} {f : FT} (h : J1l x f = some y) : HOk x f ∧ y = J19 x f := by
 unfold J1l at h
 split at h
 ·rename_i hk; injection h with h; exact ⟨hk, h.symm⟩
 ·cases h
def J7s (x : DT) : List FT := x.2.2.2.2.filter fun f => f.2.1 == x.2.1 + 1
def J79 (x : DT) : DT := (x.1, x.2.1 + 1, x.2.2.1, x.2.2.2.1, x.2.2.2.2.filter fun f => !(f.2.1 == x.2.1 + 1))
noncomputable def JbT (x : DT) (p : Int) (s : List UInt8) : Option DT := (Jpw (J1T (J7s x)) (J79 x) p s).bind fun y => (J7s x).foldlM J1l y
def Jj7 (x : DT × Int × List UInt8) : Option DT := J8n x.1 x.2.1 x.2.2
noncomputable def JeI (u : Option Int) (x : DT × Int × List UInt8) : Option (DT × Int) := u.bind fun e =>
 if e ≠ 0 then some (([], 0, [], false, []), e)
 else if x.2.2.length ≠ 256 then some (([], 0, [], false, []), 2)
 else if x.1.2.1 = 1099511627776 then some (([], 0, [], false, []), 21)
 else if 0 ≤ x.1.2.1 ∧ x.1.2.1 < 1099511627776 ∧ x.1.2.2.2.2.length ≤ 1000000 then (JbT x.1 x.2.1 x.2.2).map fun y => (y, 0)
 else none
def Jgh (x : List (List UInt8) × Int) : Option (List (List UInt8)) := match x.1 with
 | [l] => if 1 ≤ x.2 ∧ x.2 ≤ 1000 then some (List.replicate x.2.toNat l) else none
 | _ => none
end Go.Am
end
section
namespace Go.Am
def JsR : Sig := ⟨[.c (.d (.l .s)), .c (.d (.i .i64))], [], [.l .s, .i .i64], .a (.c (.d (.l .s))), [], [], [.l .s]⟩
theorem JrZ (l : List (List UInt8)) (n : Int) (y : List (List UInt8)) (hy : Jgh (l, n) = some y) : JdP [.p (.sl 1 (l.map (cel .s))), .p (.i .i64 n)] [] = some (AV.p (.sl 1 (y.map (cel .s))), []) := by
 unfold Jgh at hy
 dsimp only at hy
 split at hy
 ·rename_i l
  split at hy
  ·rename_i hn
   injection hy with hy; subst hy
   show (if 1 ≤ n ∧ n ≤ 1000 then some (AV.p (.sl 1 (List.replicate n.toNat [.s l])), ([] : List Blk)) else none) = _
   rw [if_pos hn, List.map_replicate]
   rfl
  ·cases hy
 ·cases hy
theorem Jrv {T : J21} {f : FuncId} (hf : T f = some (.prim JdP)) : EOk (AF T) (sigE f JsR Jgh) := by
 refine J9i rfl fun x xs bl y hx hy => ?_
 rw [show J00 JsR x = some ([.c (.d (.l .s) x.1), .c (.d (.i .i64) x.2)], []) from rfl] at hx
 injection hx with hx; injection hx with h1 h2; subst h1 h2
 refine ⟨.a (.c (.d (.l .s) y)), [], ?_, rfl⟩
 rw [Jaz hf]
 exact JrZ x.1 x.2 y hy
end Go.Am
end
section
namespace Go.Am
theorem EOk.via {F F' : Orc} {f : FuncId} {g : Sig} {S : (tyL g.ti).D → Option (tyL g.to).D} (h : EOk F (sigE f g S)) (e : ∀ args blks, F' f args blks = F f args blks) : EOk F' (sigE f g S) where
 ok := fun {R xs bl kk r} hg => by
  obtain ⟨v, out, h1, h2, h3⟩ := h.ok hg
  exact ⟨v, out, (e _ _).trans h1, h2, h3⟩
noncomputable def Jn0 : Prm := fun args blks => AF (Od.tabO fun _ => none) Od.i_law04_odd args blks
noncomputable def Jpq (x : Od.T_api_Device × Od.T_pagemenddraw_Codes) : Option (Od.T_api_Device × Od.T_pagemenddraw_Codes) := Od.S_law04_odd x
theorem JrT {T : J21} (hf : T Od.i_law04_odd = some (.prim Jn0)) : EOk (AF T) (sigE Od.i_law04_odd Od.g_law04_odd Jpq) :=
 (Od.e_law04_odd fun _ => none).via fun args blks => Jaz hf args blks
end Go.Am
end
section
namespace Go.Am
set_option maxRecDepth 20000
abbrev J3J : FuncId := 7
abbrev J30 : FuncId := 9
abbrev J4K : FuncId := 10
abbrev J25 : FuncId := 11
abbrev J2k : FuncId := 12
abbrev J8r : FuncId := 13
abbrev i_draw_Codes_Next : FuncId := 14
abbrev Jy : FuncId := 15
abbrev J1b : FuncId := 16
abbrev J1q : FuncId := 17
abbrev J0x : FuncId := 18
abbrev J1p : FuncId := 19
abbrev J1J : FuncId := 20
abbrev J1H : FuncId := 21
abbrev J3s : FuncId := 22
abbrev J36 : FuncId := 23
abbrev J0f : FuncId := 24
abbrev J2D : FuncId := 25
abbrev J1v : FuncId := 26
abbrev J1C : FuncId := 27
abbrev i_law04_odd : FuncId := 28
abbrev JP : FuncId := 29
abbrev J05 : FuncId := 30
abbrev J3y : FuncId := 31
abbrev J2b : FuncId := 32
abbrev J2l : FuncId := 33
abbrev J1o : FuncId := 34
abbrev J1s : FuncId := 35
abbrev Jo : FuncId := 36
abbrev J0J : FuncId := 37
abbrev Jq : FuncId := 38
abbrev J1G : FuncId := 39
abbrev JR : FuncId := 40
abbrev J1a : FuncId := 41
abbrev J4r : FuncId := 45
abbrev J0y : FuncId := 47
abbrev J13 : FuncId := 48
abbrev J3u : FuncId := 49
abbrev J0w : FuncId := 50
abbrev J4j : FuncId := 51
abbrev J0l : FuncId := 52
abbrev JN : FuncId := 53
abbrev J11 : FuncId := 54
abbrev JC : FuncId := 55
abbrev J0X : FuncId := 56
abbrev J0u : FuncId := 57
abbrev J2L : FuncId := 58
abbrev J2q : FuncId := 59
abbrev JE : FuncId := 60
abbrev J2m : FuncId := 67
abbrev J0T : FuncId := 68
abbrev JT : FuncId := 69
def J4 : Ty := .pr (.i .i64) (.pr (.i .i64) (.pr (.i .i64) (.pr (.i .i64) (.pr (.i .i64) ((.i .u8))))))
abbrev J6 := Int × Int × Int × Int × Int × Int
def J3 : Ty := .pr (.l .s) (.pr (.i .i64) (.pr (.l (.i .i64)) (.pr .b ((.l J4)))))
abbrev T_api_Device := (List (List UInt8)) × Int × (List Int) × Bool × (List J6)
def J7 : Ty := .pr (.l (.i .u8)) ((.i .i64))
abbrev T_pagemenddraw_Codes := (List Int) × Int
def J3c : Sig := ⟨[.c (.d .s)], [], [.s], .a (.c (.d .b)), [], [], [.b]⟩
def J42 : Sig := ⟨[.dt J4], [], [J4], .tup [.dt J4, .c (.d .b)], [], [], [J4, .b]⟩
def J1P : Sig := ⟨[.dt J3, .c (.d (.i .i64))], [], [J3, (.i .i64)], .a (.c (.d .b)), [], [], [.b]⟩
def J1U : Sig := ⟨[.dt J3, .dt J4], [], [J3, J4], .a (.c (.d .b)), [], [], [.b]⟩
def J0k : Sig := ⟨[.c (.d (.l .s)), .fn J11 [] []], [], [(.l .s)], .a (.c (.d (.i .i64))), [], [], [(.i .i64)]⟩
def J0a : Sig := ⟨[.c (.d (.l .s)), .fn J11 [] []], [], [(.l .s)], .a (.c (.d .b)), [], [], [.b]⟩
def J3a : Sig := ⟨[.dt J4, .c (.ptr 0 [])], [.box J3], [J4, J3], .a (.c (.d .b)), [.box J3], [true], [.b, J3]⟩
def J02 : Sig := ⟨[.c (.d (.l J4)), .fn J0X [] [.ptr 0 []]], [.box J3], [(.l J4), J3], .a (.c (.d (.i .i64))), [.box J3], [true], [(.i .i64), J3]⟩
def JS : Sig := ⟨[.c (.d (.l J4)), .fn J0X [] [.ptr 0 []]], [.box J3], [(.l J4), J3], .a (.c (.d .b)), [.box J3], [true], [.b, J3]⟩
def J17 : Sig := ⟨[.dt J3], [], [J3], .a (.c (.d .b)), [], [], [.b]⟩
def J0q : Sig := J96 J4
def J2r : Sig := ⟨[.dt J3, .dt J4], [], [J3, J4], .tup [.dt J3, .c (.d (.i .i64))], [], [], [J3, (.i .i64)]⟩
def J2E : Sig := ⟨[.c (.d (.l .s)), .c (.d (.i .i64))], [], [(.l .s), (.i .i64)], .a (.c (.d (.l .s))), [], [], [(.l .s)]⟩
def J6U : Sig := ⟨[.c (.d .s), .c (.d (.i .i64))], [], [.s, (.i .i64)], .a (.c (.d .s)), [], [], [.s]⟩
def J2J : Sig := ⟨[.c (.d (.i .i64))], [], [(.i .i64)], .a (.c (.d (.l .s))), [], [], [(.l .s)]⟩
def J3D : Sig := ⟨[.c (.d (.i .i64))], [], [(.i .i64)], .tup [.dt J3, .c (.d (.i .i64))], [], [], [J3, (.i .i64)]⟩
def J2x : Sig := ⟨[.dt J3, .c (.d (.i .i64))], [], [J3, (.i .i64)], .a (.c (.d (.i .i64))), [], [], [(.i .i64)]⟩
def J22 : Sig := ⟨[.c (.d (.l (.i .i64))), .c (.d (.i .i64))], [], [(.l (.i .i64)), (.i .i64)], .a (.c (.d (.i .i64))), [], [], [(.i .i64)]⟩
def J1y : Sig := ⟨[.c (.d (.l (.i .i64))), .c (.d (.i .i64))], [], [(.l (.i .i64)), (.i .i64)], .a (.c (.d .b)), [], [], [.b]⟩
def J2Y : Sig := ⟨[.dt J3, .c (.d (.i .i64))], [], [J3, (.i .i64)], .tup [.c (.d .s), .c (.d (.i .i64))], [], [], [.s, (.i .i64)]⟩
def J4p : Sig := ⟨[.dt J3, .c (.d (.i .i64)), .c (.d .s)], [], [J3, (.i .i64), .s], .tup [.dt J3, .c (.d (.i .i64))], [], [], [J3, (.i .i64)]⟩
def g_draw_Codes_Next : Sig := ⟨[.c (.ptr 0 []), .c (.d (.i .i64))], [.box J7], [(.i .i64), J7], .a (.c (.d (.i .i64))), [.box J7], [true], [(.i .i64), J7]⟩
def J1F : Sig := ⟨[.c (.ptr 0 [])], [.box J7], [J7], .a (.c (.d .s)), [.box J7], [true], [.s, J7]⟩
def J0e : Sig := ⟨[.c (.ptr 0 [])], [.box J7], [J7], .a (.c (.d (.i .i64))), [.box J7], [true], [(.i .i64), J7]⟩
def JX : Sig := ⟨[.c (.ptr 0 []), .c (.d (.i .i64)), .c (.d (.i .i64))], [.box J7], [(.i .i64), (.i .i64), J7], .a (.dt J4), [.box J7], [true], [J4, J7]⟩
def J7e : Sig := ⟨[.c (.d (.l (.i .u8))), .c (.d (.i .i64))], [], [(.l (.i .u8)), (.i .i64)], .a (.c (.ptr 0 [])), [.box J7], [], [J7]⟩
def J4T : Sig := ⟨[], [], [], .a (.c (.d .b)), [], [], [.b]⟩
def J0G : Sig := ⟨[.dt J3], [], [J3], .a (.m J3 [.slr 0, .d (.i .i64), .d (.l (.i .i64)), .d .b, .slr 1]), [.arr true .s, .arr true J4], [], [(.i .i64), (.l (.i .i64)), .b, (.l .s), (.l J4)]⟩
def J33 : Sig := ⟨[.dt J3, .dt J4], [], [J3, J4], .a (.c (.d .b)), [], [], [.b]⟩
def J1k : Sig := ⟨[.dt J3], [], [J3], .a (.c (.d .b)), [], [], [.b]⟩
def J2M : Sig := ⟨[.dt J3, .dt J4], [], [J3, J4], .tup [.dt J3, .c (.d (.i .i64))], [], [], [J3, (.i .i64)]⟩
def J2K : Sig := ⟨[.c (.d (.i .i64))], [], [(.i .i64)], .a (.c (.d (.l .s))), [], [], [(.l .s)]⟩
def J49 : Sig := ⟨[.c (.d (.i .i64))], [], [(.i .i64)], .tup [.dt J3, .c (.d (.i .i64))], [], [], [J3, (.i .i64)]⟩
def J6m : Sig := ⟨[.c (.d (.l (.i .i64))), .c (.d (.i .i64))], [], [(.l (.i .i64)), (.i .i64)], .a (.c (.d .b)), [], [], [.b]⟩
def J1K : Sig := ⟨[.dt J3, .c (.d (.i .i64))], [], [J3, (.i .i64)], .a (.c (.d (.i .i64))), [], [], [(.i .i64)]⟩
def J5E : Sig := ⟨[.dt J3, .c (.d (.i .i64))], [], [J3, (.i .i64)], .tup [.c (.d .s), .c (.d (.i .i64))], [], [], [.s, (.i .i64)]⟩
def J43 : Sig := ⟨[.c (.d (.l (.i .i64))), .c (.d (.i .i64))], [], [(.l (.i .i64)), (.i .i64)], .a (.c (.d (.l (.i .i64)))), [], [], [(.l (.i .i64))]⟩
def J2Z : Sig := ⟨[.m J3 [.slr 0, .d (.i .i64), .d (.l (.i .i64)), .d .b, .slr 1], .c (.d (.i .i64)), .c (.d .s), .c (.d (.i .i64))], [.arr true .s, .arr true J4], [(.i .i64), (.l (.i .i64)), .b, (.i .i64), .s, (.i .i64), (.l .s), (.l J4)], .a (.m J3 [.slr 0, .d (.i .i64), .d (.l (.i .i64)), .d .b, .slr 1]), [.arr true .s, .arr true J4], [false, false], [(.i .i64), (.l (.i .i64)), .b, (.l .s), (.l J4)]⟩
def J5v : Sig := ⟨[.c (.d (.l (.i .i64))), .c (.d (.i .i64))], [], [(.l (.i .i64)), (.i .i64)], .a (.c (.d (.l (.i .i64)))), [], [], [(.l (.i .i64))]⟩
def J32 : Sig := ⟨[.dt J3, .c (.d (.i .i64)), .c (.d .s)], [], [J3, (.i .i64), .s], .tup [.dt J3, .c (.d (.i .i64))], [], [], [J3, (.i .i64)]⟩
def J3C : Sig := ⟨[.dt J3], [], [J3], .tup [.dt J3, .c (.d (.i .i64))], [], [], [J3, (.i .i64)]⟩
def J9f : Sig := ⟨[.dt J3, .c (.d (.i .i64)), .c (.d .s)], [], [J3, (.i .i64), .s], .a (.dt J3), [], [], [J3]⟩
def J4Z : Sig := ⟨[.dt J3, .c (.d (.i .i64)), .c (.d .s), .c (.d (.i .i64))], [], [J3, (.i .i64), .s, (.i .i64)], .tup [.dt J3, .c (.d (.i .i64))], [], [], [J3, (.i .i64)]⟩
def J0r : Sig := ⟨[.c (.ptr 0 [])], [.box J7], [J7], .a (.c (.d .s)), [.box J7], [true], [.s, J7]⟩
def J2H : Sig := ⟨[.c (.ptr 0 [])], [.box J7], [J7], .a (.dt J3), [.box J7], [true], [J3, J7]⟩
def g_law04_odd : Sig := ⟨[.c (.ptr 0 []), .dt J3], [.box J7], [J3, J7], .a (.dt J3), [.box J7], [true], [J3, J7]⟩
def J4Y : Sig := ⟨[.dt J3], [], [J3], .a (.c (.d .b)), [], [], [.b]⟩
def J3T : Sig := ⟨[.dt J3], [], [J3], .tup [.dt J3, .c (.d (.i .i64))], [], [], [J3, (.i .i64)]⟩
def J5i : Sig := ⟨[.dt J3, .dt J3], [], [J3, J3], .a (.c (.d .b)), [], [], [.b]⟩
def J5B : Sig := ⟨[.dt J3, .c (.d (.i .i64)), .c (.d .s), .c (.d (.i .i64))], [], [J3, (.i .i64), .s, (.i .i64)], .tup [.dt J3, .c (.d (.i .i64))], [], [], [J3, (.i .i64)]⟩
def J56 : Sig := ⟨[.c (.d (.l (.i .u8))), .dt J3, .c (.d (.i .i64)), .c (.d (.i .i64)), .dt J4], [], [(.l (.i .u8)), J3, (.i .i64), (.i .i64), J4], .a (.c (.d .b)), [], [], [.b]⟩
def Jdf : TCo := .seq (.reg false [] [
 ⟨.mv (.c (vb false)), some 2, none⟩])
 (.keep [0] (.seq (.reg false [] [
 ⟨.mv (.t 0), some 3, none⟩,
 ⟨.len true (.t 3), some 4, none⟩,
 ⟨.bin .neq .plain (.t 4) (.c (vi .i64 256)), some 5, none⟩,
 ⟨.mv (.t 5), some 2, none⟩])
 (.ret)))
def J4m : TFn := ⟨1, 6, Jdf, [.tmp 2], false⟩
def Jfm : TCo := .seq (.reg false [] [
 ⟨.box J4 (.t 0), some 1, none⟩,
 ⟨.newbox J4, some 2, none⟩,
 ⟨.mv (.c (vb false)), some 3, none⟩])
 (.keep [1, 2] (.seq (.reg false [] [
 ⟨.faddr 0 (.t 1), some 5, none⟩,
 ⟨.load false (.i .i64) (.t 5), some 6, none⟩,
 ⟨.faddr 1 (.t 1), some 7, none⟩,
 ⟨.load false (.i .i64) (.t 7), some 8, none⟩,
 ⟨.build J4 [(0, (.i .i64), (.t 6)), (1, (.i .i64), (.t 8))], some 9, none⟩,
 ⟨.newbox J4, some 4, none⟩,
 ⟨.store J4 (.t 4) (.t 9), none, none⟩])
 (.keep [1, 2, 4] (.seq (.seq (.reg false [] [
 ⟨.faddr 0 (.t 1), some 10, none⟩,
 ⟨.load false (.i .i64) (.t 10), some 11, none⟩])
 (.keep [1, 2, 4, 11] (.block 0 (.seq (.seq (.reg false [] [
 ⟨.bin .eql .plain (.t 11) (.c (vi .i64 1)), some 14, none⟩,
 ⟨.mv (.t 14), some 13, none⟩])
 (.keep [1, 2, 4, 11, 13] (.cond (.t 13)
 (.skip)
 (.reg false [] [
 ⟨.bin .eql .plain (.t 11) (.c (vi .i64 6)), some 15, none⟩,
 ⟨.mv (.t 15), some 13, none⟩]))))
 (.keep [1, 2, 4, 11, 13] (.cond (.t 13)
 (.skip)
 (.seq (.reg false [] [
 ⟨.bin .eql .plain (.t 11) (.c (vi .i64 2)), some 17, none⟩,
 ⟨.mv (.t 17), some 16, none⟩])
 (.keep [1, 2, 4, 11, 16] (.cond (.t 16)
 (.reg false [] [
 ⟨.faddr 3 (.t 1), some 18, none⟩,
 ⟨.load false (.i .i64) (.t 18), some 19, none⟩,
 ⟨.faddr 3 (.t 4), some 20, none⟩,
 ⟨.store (.i .i64) (.t 20) (.t 19), none, none⟩])
 (.seq (.reg false [] [
 ⟨.bin .eql .plain (.t 11) (.c (vi .i64 3)), some 22, none⟩,
 ⟨.mv (.t 22), some 21, none⟩])
 (.keep [1, 2, 4, 11, 21] (.cond (.t 21)
 (.reg false [] [
 ⟨.faddr 4 (.t 1), some 23, none⟩,
 ⟨.load false (.i .i64) (.t 23), some 24, none⟩,
 ⟨.faddr 4 (.t 4), some 25, none⟩,
 ⟨.store (.i .i64) (.t 25) (.t 24), none, none⟩])
 (.seq (.reg false [] [
 ⟨.bin .eql .plain (.t 11) (.c (vi .i64 4)), some 27, none⟩,
 ⟨.mv (.t 27), some 26, none⟩])
 (.keep [1, 2, 4, 11, 26] (.cond (.t 26)
 (.reg true [(3, 7), (5, 7), (5, 9)] [
 ⟨.faddr 2 (.t 1), some 28, none⟩,
 ⟨.load false (.i .i64) (.t 28), some 29, none⟩,
 ⟨.faddr 4 (.t 1), some 30, none⟩,
 ⟨.load false (.i .i64) (.t 30), some 31, none⟩,
 ⟨.faddr 5 (.t 1), some 32, none⟩,
 ⟨.load false (.i .u8) (.t 32), some 33, none⟩,
 ⟨.faddr 2 (.t 4), some 34, none⟩,
 ⟨.store (.i .i64) (.t 34) (.t 29), none, none⟩,
 ⟨.faddr 4 (.t 4), some 35, none⟩,
 ⟨.store (.i .i64) (.t 35) (.t 31), none, none⟩,
 ⟨.faddr 5 (.t 4), some 36, none⟩,
 ⟨.store (.i .u8) (.t 36) (.t 33), none, none⟩])
 (.seq (.reg false [] [
 ⟨.bin .eql .plain (.t 11) (.c (vi .i64 5)), some 38, none⟩,
 ⟨.mv (.t 38), some 37, none⟩])
 (.keep [1, 2, 4, 37] (.cond (.t 37)
 (.reg false [] [
 ⟨.faddr 2 (.t 1), some 39, none⟩,
 ⟨.load false (.i .i64) (.t 39), some 40, none⟩,
 ⟨.faddr 2 (.t 4), some 41, none⟩,
 ⟨.store (.i .i64) (.t 41) (.t 40), none, none⟩])
 (.seq (.reg false [] [
 ⟨.load true J4 (.t 4), some 12, none⟩,
 ⟨.store J4 (.t 2) (.t 12), none, none⟩,
 ⟨.mv (.c (vb false)), some 3, none⟩])
 (.ret))))))))))))))))))))
 (.keep [2, 4] (.seq (.reg false [] [
 ⟨.load true J4 (.t 4), some 42, none⟩,
 ⟨.store J4 (.t 2) (.t 42), none, none⟩,
 ⟨.mv (.c (vb true)), some 3, none⟩])
 (.ret)))))))
def J5d : TFn := ⟨1, 43, Jfm, [.cell 2 true J4, .tmp 3], false⟩
def Jg1 : TCo := .seq (.reg false [] [
 ⟨.box J3 (.t 0), some 2, none⟩,
 ⟨.mv (.c (vb false)), some 4, none⟩])
 (.keep [1, 2] (.seq (.reg false [] [
 ⟨.mv (.t 1), some 5, none⟩,
 ⟨.bin .geq .plain (.t 5) (.c (vi .i64 0)), some 6, none⟩,
 ⟨.mv (.t 6), some 7, none⟩,
 ⟨.mv (.t 1), some 8, some (7, true)⟩,
 ⟨.faddr 0 (.t 2), some 9, some (7, true)⟩,
 ⟨.load false (.l .s) (.t 9), some 10, some (7, true)⟩,
 ⟨.len false (.t 10), some 11, some (7, true)⟩,
 ⟨.bin .lss .plain (.t 8) (.t 11), some 12, some (7, true)⟩,
 ⟨.pick (.t 7) (.t 12) (.c (vb false)), some 13, none⟩,
 ⟨.mv (.t 13), some 4, none⟩])
 (.ret)))
def J5I : TFn := ⟨2, 14, Jg1, [.tmp 4], false⟩
def Jd5 : TCo := .seq (.reg false [] [
 ⟨.box J3 (.t 0), some 2, none⟩,
 ⟨.box J4 (.t 1), some 3, none⟩,
 ⟨.mv (.c (vb false)), some 4, none⟩])
 (.keep [2, 3] (.seq (.reg false [] [
 ⟨.load true J4 (.t 3), some 8, none⟩,
 ⟨.call J2q [(.t 8)] 0, some 9, none⟩,
 ⟨.mv (.t 9), some 7, none⟩,
 ⟨.extr (.t 7) 0, some 10, none⟩,
 ⟨.extr (.t 7) 1, some 11, none⟩,
 ⟨.newbox J4, some 5, none⟩,
 ⟨.store J4 (.t 5) (.t 10), none, none⟩,
 ⟨.mv (.t 11), some 6, none⟩])
 (.keep [2, 3, 5, 6] (.seq (.reg false [] [
 ⟨.mv (.t 6), some 12, none⟩,
 ⟨.mv (.t 12), some 13, none⟩,
 ⟨.load true J4 (.t 5), some 14, some (13, true)⟩,
 ⟨.load true J4 (.t 3), some 15, some (13, true)⟩,
 ⟨.bin .eql (.flat J4) (.t 14) (.t 15), some 16, some (13, true)⟩,
 ⟨.pick (.t 13) (.t 16) (.c (vb false)), some 17, none⟩,
 ⟨.mv (.t 17), some 18, none⟩,
 ⟨.faddr 1 (.t 3), some 19, some (18, true)⟩,
 ⟨.load false (.i .i64) (.t 19), some 20, some (18, true)⟩,
 ⟨.faddr 1 (.t 2), some 21, some (18, true)⟩,
 ⟨.load false (.i .i64) (.t 21), some 22, some (18, true)⟩,
 ⟨.bin .gtr .plain (.t 20) (.t 22), some 23, some (18, true)⟩,
 ⟨.pick (.t 18) (.t 23) (.c (vb false)), some 24, none⟩,
 ⟨.mv (.t 24), some 25, none⟩,
 ⟨.faddr 1 (.t 3), some 26, some (25, true)⟩,
 ⟨.load false (.i .i64) (.t 26), some 27, some (25, true)⟩,
 ⟨.bin .leq .plain (.t 27) (.c (vi .i64 1099511627776)), some 28, some (25, true)⟩,
 ⟨.pick (.t 25) (.t 28) (.c (vb false)), some 29, none⟩,
 ⟨.mv (.t 29), some 30, none⟩,
 ⟨.load true J3 (.t 2), some 31, some (30, true)⟩,
 ⟨.faddr 2 (.t 3), some 32, some (30, true)⟩,
 ⟨.load false (.i .i64) (.t 32), some 33, some (30, true)⟩,
 ⟨.call J0l [(.t 31), (.t 33)] 0, some 34, some (30, true)⟩,
 ⟨.pick (.t 30) (.t 34) (.c (vb false)), some 35, none⟩,
 ⟨.mv (.t 35), some 36, none⟩,
 ⟨.load true J3 (.t 2), some 37, some (36, true)⟩,
 ⟨.faddr 3 (.t 3), some 38, some (36, true)⟩,
 ⟨.load false (.i .i64) (.t 38), some 39, some (36, true)⟩,
 ⟨.call J0l [(.t 37), (.t 39)] 0, some 40, some (36, true)⟩,
 ⟨.pick (.t 36) (.t 40) (.c (vb false)), some 41, none⟩,
 ⟨.mv (.t 41), some 42, none⟩,
 ⟨.faddr 4 (.t 3), some 43, some (42, true)⟩,
 ⟨.load false (.i .i64) (.t 43), some 44, some (42, true)⟩,
 ⟨.bin .geq .plain (.t 44) (.c (vi .i64 0)), some 45, some (42, true)⟩,
 ⟨.pick (.t 42) (.t 45) (.c (vb false)), some 46, none⟩,
 ⟨.mv (.t 46), some 47, none⟩,
 ⟨.faddr 4 (.t 3), some 48, some (47, true)⟩,
 ⟨.load false (.i .i64) (.t 48), some 49, some (47, true)⟩,
 ⟨.bin .lss .plain (.t 49) (.c (vi .i64 256)), some 50, some (47, true)⟩,
 ⟨.pick (.t 47) (.t 50) (.c (vb false)), some 51, none⟩,
 ⟨.mv (.t 51), some 52, none⟩,
 ⟨.faddr 0 (.t 3), some 53, some (52, true)⟩,
 ⟨.load false (.i .i64) (.t 53), some 54, some (52, true)⟩,
 ⟨.bin .neq .plain (.t 54) (.c (vi .i64 4)), some 55, some (52, true)⟩,
 ⟨.mv (.t 55), some 56, some (52, true)⟩,
 ⟨.faddr 5 (.t 3), some 57, some (56, false)⟩,
 ⟨.load false (.i .u8) (.t 57), some 58, some (56, false)⟩,
 ⟨.bin .neq .plain (.t 58) (.c (vi .u8 0)), some 59, some (56, false)⟩,
 ⟨.pick (.t 56) (.c (vb true)) (.t 59), some 60, some (52, true)⟩,
 ⟨.pick (.t 52) (.t 60) (.c (vb false)), some 61, none⟩,
 ⟨.mv (.t 61), some 4, none⟩])
 (.ret)))))
def J4l : TFn := ⟨2, 62, Jd5, [.tmp 4], false⟩
def Jd7 : TCo := .seq (.reg false [] [
 ⟨.box J4 (.t 0), some 2, none⟩,
 ⟨.mv (.c (vb false)), some 3, none⟩])
 (.keep [1, 2] (.seq (.reg false [] [
 ⟨.load true J3 (.t 1), some 4, none⟩,
 ⟨.load true J4 (.t 2), some 5, none⟩,
 ⟨.call J0J [(.t 4), (.t 5)] 0, some 6, none⟩,
 ⟨.un .not (.t 6), some 7, none⟩,
 ⟨.mv (.t 7), some 3, none⟩])
 (.ret)))
def J4o : TFn := ⟨2, 8, Jd7, [.tmp 3], false⟩
def J59 : TCo := .seq (.reg false [] [
 ⟨.mv (.c (vi .i64 0)), some 4, none⟩])
 (.keep [0, 1] (.seq (.seq (.reg false [] [
 ⟨.mv (.t 0), some 6, none⟩,
 ⟨.len false (.t 6), some 7, none⟩,
 ⟨.mv (.c (vi .i64 0)), some 8, none⟩])
 (.keep [0, 1, 7, 8] (.block 0 (.loop [0, 1, 7, 8] (.seq (.reg false [] [
 ⟨.bin .lss .plain (.t 8) (.t 7), some 9, none⟩])
 (.keep [0, 1, 7, 8, 9] (.seq (.cond (.t 9)
 (.skip)
 (.exit 0))
 (.keep [0, 1, 7, 8] (.seq (.block 1 (.seq (.reg false [] [
 ⟨.mv (.t 8), some 10, none⟩,
 ⟨.mv (.t 10), some 5, none⟩])
 (.keep [0, 1, 5, 7, 8] (.seq (.reg false [] [
 ⟨.mv (.t 1), some 11, none⟩,
 ⟨.mv (.t 0), some 12, none⟩,
 ⟨.mv (.t 5), some 13, none⟩,
 ⟨.iaddr J4 (.t 12) (.t 13), some 14, none⟩,
 ⟨.load true J4 (.t 14), some 15, none⟩,
 ⟨.callv (.t 11) [(.t 15)] 0, some 16, none⟩])
 (.keep [0, 1, 5, 7, 8, 16] (.cond (.t 16)
 (.seq (.reg false [] [
 ⟨.mv (.t 5), some 17, none⟩,
 ⟨.mv (.t 17), some 4, none⟩])
 (.ret))
 (.skip)))))))
 (.keep [0, 1, 7, 8] (.reg false [] [
 ⟨.bin .add .plain (.t 8) (.c (vi .i64 1)), some 18, none⟩,
 ⟨.mv (.t 18), some 8, none⟩])))))))))))
 (.keep [] (.seq (.reg false [] [
 ⟨.mv (.c (vi .i64 (-1))), some 4, none⟩])
 (.ret)))))
def J0H : TFn := ⟨2, 19, J59, [.tmp 4], false⟩
def J4E : TCo := .seq (.reg false [] [
 ⟨.mv (.c (vb false)), some 4, none⟩])
 (.keep [0, 1] (.seq (.reg false [] [
 ⟨.mv (.t 0), some 5, none⟩,
 ⟨.mv (.t 1), some 6, none⟩,
 ⟨.call JE [(.t 5), (.t 6)] 0, some 7, none⟩,
 ⟨.bin .geq .plain (.t 7) (.c (vi .i64 0)), some 8, none⟩,
 ⟨.mv (.t 8), some 4, none⟩])
 (.ret)))
def J0p : TFn := ⟨2, 9, J4E, [.tmp 4], false⟩
def J6N : TCo := .seq (.reg false [] [
 ⟨.mv (.c (vi .i64 0)), some 4, none⟩])
 (.keep [0, 1] (.seq (.seq (.reg false [] [
 ⟨.mv (.t 0), some 6, none⟩,
 ⟨.len false (.t 6), some 7, none⟩,
 ⟨.mv (.c (vi .i64 0)), some 8, none⟩])
 (.keep [0, 1, 7, 8] (.block 0 (.loop [0, 1, 7, 8] (.seq (.reg false [] [
 ⟨.bin .lss .plain (.t 8) (.t 7), some 9, none⟩])
 (.keep [0, 1, 7, 8, 9] (.seq (.cond (.t 9)
 (.skip)
 (.exit 0))
 (.keep [0, 1, 7, 8] (.seq (.block 1 (.seq (.reg false [] [
 ⟨.mv (.t 8), some 10, none⟩,
 ⟨.mv (.t 10), some 5, none⟩])
 (.keep [0, 1, 5, 7, 8] (.seq (.reg false [] [
 ⟨.mv (.t 1), some 11, none⟩,
 ⟨.mv (.t 0), some 12, none⟩,
 ⟨.mv (.t 5), some 13, none⟩,
 ⟨.iaddr .s (.t 12) (.t 13), some 14, none⟩,
 ⟨.load false .s (.t 14), some 15, none⟩,
 ⟨.callv (.t 11) [(.t 15)] 0, some 16, none⟩])
 (.keep [0, 1, 5, 7, 8, 16] (.cond (.t 16)
 (.seq (.reg false [] [
 ⟨.mv (.t 5), some 17, none⟩,
 ⟨.mv (.t 17), some 4, none⟩])
 (.ret))
 (.skip)))))))
 (.keep [0, 1, 7, 8] (.reg false [] [
 ⟨.bin .add .plain (.t 8) (.c (vi .i64 1)), some 18, none⟩,
 ⟨.mv (.t 18), some 8, none⟩])))))))))))
 (.keep [] (.seq (.reg false [] [
 ⟨.mv (.c (vi .i64 (-1))), some 4, none⟩])
 (.ret)))))
def J1f : TFn := ⟨2, 19, J6N, [.tmp 4], false⟩
def J5Y : TCo := .seq (.reg false [] [
 ⟨.mv (.c (vb false)), some 4, none⟩])
 (.keep [0, 1] (.seq (.reg false [] [
 ⟨.mv (.t 0), some 5, none⟩,
 ⟨.mv (.t 1), some 6, none⟩,
 ⟨.call JT [(.t 5), (.t 6)] 0, some 7, none⟩,
 ⟨.bin .geq .plain (.t 7) (.c (vi .i64 0)), some 8, none⟩,
 ⟨.mv (.t 8), some 4, none⟩])
 (.ret)))
def J0U : TFn := ⟨2, 9, J5Y, [.tmp 4], false⟩
def Jgj : TCo := .seq (.reg false [] [
 ⟨.box J3 (.t 0), some 1, none⟩,
 ⟨.mv (.c (vb false)), some 2, none⟩])
 (.keep [1] (.seq (.seq (.reg false [] [
 ⟨.faddr 0 (.t 1), some 5, none⟩,
 ⟨.load false (.l .s) (.t 5), some 6, none⟩,
 ⟨.len false (.t 6), some 7, none⟩,
 ⟨.bin .lss .plain (.t 7) (.c (vi .i64 1)), some 8, none⟩,
 ⟨.mv (.t 8), some 9, none⟩,
 ⟨.faddr 0 (.t 1), some 10, some (9, false)⟩,
 ⟨.load false (.l .s) (.t 10), some 11, some (9, false)⟩,
 ⟨.len false (.t 11), some 12, some (9, false)⟩,
 ⟨.bin .gtr .plain (.t 12) (.c (vi .i64 64)), some 13, some (9, false)⟩,
 ⟨.pick (.t 9) (.c (vb true)) (.t 13), some 14, none⟩,
 ⟨.mv (.t 14), some 15, none⟩,
 ⟨.faddr 1 (.t 1), some 16, some (15, false)⟩,
 ⟨.load false (.i .i64) (.t 16), some 17, some (15, false)⟩,
 ⟨.bin .lss .plain (.t 17) (.c (vi .i64 0)), some 18, some (15, false)⟩,
 ⟨.pick (.t 15) (.c (vb true)) (.t 18), some 19, none⟩,
 ⟨.mv (.t 19), some 20, none⟩,
 ⟨.faddr 1 (.t 1), some 21, some (20, false)⟩,
 ⟨.load false (.i .i64) (.t 21), some 22, some (20, false)⟩,
 ⟨.bin .gtr .plain (.t 22) (.c (vi .i64 1099511627776)), some 23, some (20, false)⟩,
 ⟨.pick (.t 20) (.c (vb true)) (.t 23), some 24, none⟩,
 ⟨.mv (.t 24), some 25, none⟩,
 ⟨.faddr 4 (.t 1), some 26, some (25, false)⟩,
 ⟨.load false (.l J4) (.t 26), some 27, some (25, false)⟩,
 ⟨.len false (.t 27), some 28, some (25, false)⟩,
 ⟨.bin .gtr .plain (.t 28) (.c (vi .i64 64)), some 29, some (25, false)⟩,
 ⟨.pick (.t 25) (.c (vb true)) (.t 29), some 30, none⟩])
 (.keep [1, 30] (.cond (.t 30)
 (.seq (.reg false [] [
 ⟨.mv (.c (vb false)), some 2, none⟩])
 (.ret))
 (.skip))))
 (.keep [1] (.seq (.seq (.reg false [] [
 ⟨.faddr 2 (.t 1), some 31, none⟩,
 ⟨.load false (.l (.i .i64)) (.t 31), some 32, none⟩,
 ⟨.len false (.t 32), some 33, none⟩,
 ⟨.mv (.c (vi .i64 0)), some 34, none⟩])
 (.keep [1, 32, 33, 34] (.block 0 (.loop [1, 32, 33, 34] (.seq (.reg false [] [
 ⟨.bin .lss .plain (.t 34) (.t 33), some 35, none⟩])
 (.keep [1, 32, 33, 34, 35] (.seq (.cond (.t 35)
 (.skip)
 (.exit 0))
 (.keep [1, 32, 33, 34] (.seq (.block 1 (.seq (.reg false [] [
 ⟨.mv (.t 34), some 36, none⟩,
 ⟨.iaddr (.i .i64) (.t 32) (.t 34), some 37, none⟩,
 ⟨.load false (.i .i64) (.t 37), some 38, none⟩,
 ⟨.mv (.t 36), some 3, none⟩,
 ⟨.mv (.t 38), some 4, none⟩])
 (.keep [1, 3, 4, 32, 33, 34] (.seq (.reg false [] [
 ⟨.load true J3 (.t 1), some 39, none⟩,
 ⟨.mv (.t 4), some 40, none⟩,
 ⟨.call J0l [(.t 39), (.t 40)] 0, some 41, none⟩,
 ⟨.un .not (.t 41), some 42, none⟩,
 ⟨.mv (.t 42), some 43, none⟩,
 ⟨.mv (.t 3), some 44, some (43, false)⟩,
 ⟨.bin .gtr .plain (.t 44) (.c (vi .i64 0)), some 45, some (43, false)⟩,
 ⟨.mv (.t 45), some 46, some (43, false)⟩,
 ⟨.faddr 2 (.t 1), some 47, some (46, true)⟩,
 ⟨.load false (.l (.i .i64)) (.t 47), some 48, some (46, true)⟩,
 ⟨.mv (.t 3), some 49, some (46, true)⟩,
 ⟨.bin .sub .plain (.t 49) (.c (vi .i64 1)), some 50, some (46, true)⟩,
 ⟨.iaddr (.i .i64) (.t 48) (.t 50), some 51, some (46, true)⟩,
 ⟨.load false (.i .i64) (.t 51), some 52, some (46, true)⟩,
 ⟨.mv (.t 4), some 53, some (46, true)⟩,
 ⟨.bin .geq .plain (.t 52) (.t 53), some 54, some (46, true)⟩,
 ⟨.pick (.t 46) (.t 54) (.c (vb false)), some 55, some (43, false)⟩,
 ⟨.pick (.t 43) (.c (vb true)) (.t 55), some 56, none⟩])
 (.keep [1, 32, 33, 34, 56] (.cond (.t 56)
 (.seq (.reg false [] [
 ⟨.mv (.c (vb false)), some 2, none⟩])
 (.ret))
 (.skip)))))))
 (.keep [1, 32, 33, 34] (.reg false [] [
 ⟨.bin .add .plain (.t 34) (.c (vi .i64 1)), some 57, none⟩,
 ⟨.mv (.t 57), some 34, none⟩])))))))))))
 (.keep [1] (.seq (.reg false [] [
 ⟨.faddr 0 (.t 1), some 58, none⟩,
 ⟨.load false (.l .s) (.t 58), some 59, none⟩,
 ⟨.call JN [(.t 59), (.c (.a (.fn J11 [] [])))] 0, some 60, none⟩,
 ⟨.un .not (.t 60), some 61, none⟩,
 ⟨.mv (.t 61), some 62, none⟩,
 ⟨.faddr 4 (.t 1), some 63, some (62, true)⟩,
 ⟨.load false (.l J4) (.t 63), some 64, some (62, true)⟩,
 ⟨.mkfn J0X [] [(.t 1)], some 65, some (62, true)⟩,
 ⟨.call JC [(.t 64), (.t 65)] 0, some 66, some (62, true)⟩,
 ⟨.un .not (.t 66), some 67, some (62, true)⟩,
 ⟨.pick (.t 62) (.t 67) (.c (vb false)), some 68, none⟩,
 ⟨.mv (.t 68), some 2, none⟩])
 (.ret)))))))
def J5G : TFn := ⟨1, 69, Jgj, [.tmp 2], false⟩
def JeO : TCo := .seq (.reg false [] [
 ⟨.box J3 (.t 0), some 2, none⟩,
 ⟨.box J4 (.t 1), some 3, none⟩,
 ⟨.newbox J3, some 4, none⟩,
 ⟨.mv (.c (vi .i64 0)), some 5, none⟩])
 (.keep [2, 3, 4] (.seq (.block 0 (.seq (.reg false [] [
 ⟨.load true J3 (.t 2), some 7, none⟩,
 ⟨.call J05 [(.t 7)] 0, some 8, none⟩,
 ⟨.un .not (.t 8), some 9, none⟩,
 ⟨.mv (.t 9), some 6, none⟩])
 (.keep [2, 3, 4, 6] (.cond (.t 6)
 (.seq (.reg false [] [
 ⟨.build J3 [], some 10, none⟩,
 ⟨.store J3 (.t 4) (.t 10), none, none⟩,
 ⟨.mv (.c (vi .i64 15)), some 5, none⟩])
 (.ret))
 (.seq (.reg false [] [
 ⟨.load true J3 (.t 2), some 12, none⟩,
 ⟨.load true J4 (.t 3), some 13, none⟩,
 ⟨.call J0J [(.t 12), (.t 13)] 0, some 14, none⟩,
 ⟨.un .not (.t 14), some 15, none⟩,
 ⟨.mv (.t 15), some 11, none⟩])
 (.keep [2, 3, 4, 11] (.cond (.t 11)
 (.seq (.reg false [] [
 ⟨.build J3 [], some 16, none⟩,
 ⟨.store J3 (.t 4) (.t 16), none, none⟩,
 ⟨.mv (.c (vi .i64 1)), some 5, none⟩])
 (.ret))
 (.seq (.reg false [] [
 ⟨.faddr 4 (.t 2), some 18, none⟩,
 ⟨.load false (.l J4) (.t 18), some 19, none⟩,
 ⟨.len false (.t 19), some 20, none⟩,
 ⟨.bin .eql .plain (.t 20) (.c (vi .i64 64)), some 21, none⟩,
 ⟨.mv (.t 21), some 17, none⟩])
 (.keep [2, 3, 4, 17] (.cond (.t 17)
 (.seq (.reg false [] [
 ⟨.build J3 [], some 22, none⟩,
 ⟨.store J3 (.t 4) (.t 22), none, none⟩,
 ⟨.mv (.c (vi .i64 21)), some 5, none⟩])
 (.ret))
 (.skip)))))))))))
 (.keep [2, 3, 4] (.seq (.reg true [(2, 3), (1, 4), (2, 4)] [
 ⟨.faddr 4 (.t 2), some 23, none⟩,
 ⟨.load false (.l J4) (.t 23), some 24, none⟩,
 ⟨.call Jq [(.t 24)] 1, some 25, none⟩,
 ⟨.load true J4 (.t 3), some 26, none⟩,
 ⟨.lits false J4 1 [(0, (.t 26))], some 27, none⟩,
 ⟨.app J4 48 (.t 25) (.t 27), some 28, none⟩,
 ⟨.faddr 4 (.t 2), some 29, none⟩,
 ⟨.store (.l J4) (.t 29) (.t 28), none, none⟩])
 (.keep [2, 4] (.seq (.reg false [] [
 ⟨.load true J3 (.t 2), some 30, none⟩,
 ⟨.store J3 (.t 4) (.t 30), none, none⟩,
 ⟨.mv (.c (vi .i64 0)), some 5, none⟩])
 (.ret)))))))
def J5e : TFn := ⟨2, 31, JeO, [.cell 4 true J3, .tmp 5], false⟩
def JgD : TCo := .seq (.reg false [] [
 ⟨.mv (.c (vl .s [])), some 2, none⟩])
 (.keep [0] (.seq (.reg false [] [
 ⟨.call J2L [(.c (vs [0])), (.c (vi .i64 256))] 0, some 3, none⟩,
 ⟨.lits false .s 1 [(0, (.t 3))], some 4, none⟩,
 ⟨.mv (.t 0), some 5, none⟩,
 ⟨.call J0u [(.t 4), (.t 5)] 0, some 6, none⟩,
 ⟨.mv (.t 6), some 2, none⟩])
 (.ret)))
def J5V : TFn := ⟨1, 7, JgD, [.tmp 2], false⟩
def JjK : TCo := .seq (.reg false [] [
 ⟨.newbox J3, some 2, none⟩,
 ⟨.mv (.c (vi .i64 0)), some 3, none⟩])
 (.keep [0, 2] (.seq (.seq (.reg false [] [
 ⟨.mv (.t 0), some 4, none⟩,
 ⟨.bin .lss .plain (.t 4) (.c (vi .i64 1)), some 5, none⟩,
 ⟨.mv (.t 5), some 6, none⟩,
 ⟨.mv (.t 0), some 7, some (6, false)⟩,
 ⟨.bin .gtr .plain (.t 7) (.c (vi .i64 64)), some 8, some (6, false)⟩,
 ⟨.pick (.t 6) (.c (vb true)) (.t 8), some 9, none⟩])
 (.keep [0, 2, 9] (.cond (.t 9)
 (.seq (.reg false [] [
 ⟨.build J3 [], some 10, none⟩,
 ⟨.store J3 (.t 2) (.t 10), none, none⟩,
 ⟨.mv (.c (vi .i64 1)), some 3, none⟩])
 (.ret))
 (.skip))))
 (.keep [0, 2] (.seq (.reg false [] [
 ⟨.mv (.t 0), some 11, none⟩,
 ⟨.call J1o [(.t 11)] 0, some 12, none⟩,
 ⟨.build J3 [(0, (.l .s), (.t 12))], some 13, none⟩,
 ⟨.store J3 (.t 2) (.t 13), none, none⟩,
 ⟨.mv (.c (vi .i64 0)), some 3, none⟩])
 (.ret)))))
def J7k : TFn := ⟨1, 14, JjK, [.cell 2 true J3, .tmp 3], false⟩
def JfE : TCo := .seq (.reg false [] [
 ⟨.box J3 (.t 0), some 2, none⟩,
 ⟨.mv (.c (vi .i64 0)), some 4, none⟩])
 (.keep [1, 2] (.seq (.block 0 (.seq (.reg false [] [
 ⟨.load true J3 (.t 2), some 6, none⟩,
 ⟨.call J05 [(.t 6)] 0, some 7, none⟩,
 ⟨.un .not (.t 7), some 8, none⟩,
 ⟨.mv (.t 8), some 5, none⟩])
 (.keep [1, 2, 5] (.cond (.t 5)
 (.seq (.reg false [] [
 ⟨.mv (.c (vi .i64 15)), some 4, none⟩])
 (.ret))
 (.seq (.reg false [] [
 ⟨.faddr 3 (.t 2), some 10, none⟩,
 ⟨.load false .b (.t 10), some 11, none⟩,
 ⟨.mv (.t 11), some 9, none⟩])
 (.keep [1, 2, 9] (.cond (.t 9)
 (.seq (.reg false [] [
 ⟨.mv (.c (vi .i64 10)), some 4, none⟩])
 (.ret))
 (.seq (.reg false [] [
 ⟨.load true J3 (.t 2), some 13, none⟩,
 ⟨.mv (.t 1), some 14, none⟩,
 ⟨.call J0l [(.t 13), (.t 14)] 0, some 15, none⟩,
 ⟨.un .not (.t 15), some 16, none⟩,
 ⟨.mv (.t 16), some 12, none⟩])
 (.keep [12] (.cond (.t 12)
 (.seq (.reg false [] [
 ⟨.mv (.c (vi .i64 1)), some 4, none⟩])
 (.ret))
 (.skip)))))))))))
 (.keep [] (.seq (.reg false [] [
 ⟨.mv (.c (vi .i64 0)), some 4, none⟩])
 (.ret)))))
def J5b : TFn := ⟨2, 17, JfE, [.tmp 4], false⟩
def Ja0 : TCo := .seq (.reg false [] [
 ⟨.mv (.c (vi .i64 0)), some 4, none⟩])
 (.keep [0, 1] (.seq (.seq (.reg false [] [
 ⟨.mv (.t 0), some 6, none⟩,
 ⟨.len false (.t 6), some 7, none⟩,
 ⟨.mv (.c (vi .i64 0)), some 8, none⟩])
 (.keep [0, 1, 7, 8] (.block 0 (.loop [0, 1, 7, 8] (.seq (.reg false [] [
 ⟨.bin .lss .plain (.t 8) (.t 7), some 9, none⟩])
 (.keep [0, 1, 7, 8, 9] (.seq (.cond (.t 9)
 (.skip)
 (.exit 0))
 (.keep [0, 1, 7, 8] (.seq (.block 1 (.seq (.reg false [] [
 ⟨.mv (.t 8), some 10, none⟩,
 ⟨.mv (.t 10), some 5, none⟩])
 (.keep [0, 1, 5, 7, 8] (.seq (.reg false [] [
 ⟨.mv (.t 1), some 11, none⟩,
 ⟨.mv (.t 0), some 12, none⟩,
 ⟨.mv (.t 5), some 13, none⟩,
 ⟨.iaddr (.i .i64) (.t 12) (.t 13), some 14, none⟩,
 ⟨.load false (.i .i64) (.t 14), some 15, none⟩,
 ⟨.bin .eql .plain (.t 11) (.t 15), some 16, none⟩])
 (.keep [0, 1, 5, 7, 8, 16] (.cond (.t 16)
 (.seq (.reg false [] [
 ⟨.mv (.t 5), some 17, none⟩,
 ⟨.mv (.t 17), some 4, none⟩])
 (.ret))
 (.skip)))))))
 (.keep [0, 1, 7, 8] (.reg false [] [
 ⟨.bin .add .plain (.t 8) (.c (vi .i64 1)), some 18, none⟩,
 ⟨.mv (.t 18), some 8, none⟩])))))))))))
 (.keep [] (.seq (.reg false [] [
 ⟨.mv (.c (vi .i64 (-1))), some 4, none⟩])
 (.ret)))))
def J2O : TFn := ⟨2, 19, Ja0, [.tmp 4], false⟩
def J8L : TCo := .seq (.reg false [] [
 ⟨.mv (.c (vb false)), some 4, none⟩])
 (.keep [0, 1] (.seq (.reg false [] [
 ⟨.mv (.t 0), some 5, none⟩,
 ⟨.mv (.t 1), some 6, none⟩,
 ⟨.call J0T [(.t 5), (.t 6)] 0, some 7, none⟩,
 ⟨.bin .geq .plain (.t 7) (.c (vi .i64 0)), some 8, none⟩,
 ⟨.mv (.t 8), some 4, none⟩])
 (.ret)))
def J2h : TFn := ⟨2, 9, J8L, [.tmp 4], false⟩
def Jhx : TCo := .seq (.reg false [] [
 ⟨.box J3 (.t 0), some 2, none⟩,
 ⟨.mv (.c (vs [])), some 4, none⟩,
 ⟨.mv (.c (vi .i64 0)), some 5, none⟩])
 (.keep [1, 2] (.seq (.seq (.reg false [] [
 ⟨.load true J3 (.t 2), some 7, none⟩,
 ⟨.mv (.t 1), some 8, none⟩,
 ⟨.call J1a [(.t 7), (.t 8)] 0, some 9, none⟩,
 ⟨.mv (.t 9), some 6, none⟩])
 (.keep [1, 2, 6] (.seq (.reg false [] [
 ⟨.mv (.t 6), some 10, none⟩,
 ⟨.bin .neq .plain (.t 10) (.c (vi .i64 0)), some 11, none⟩])
 (.keep [1, 2, 6, 11] (.cond (.t 11)
 (.seq (.reg false [] [
 ⟨.mv (.t 6), some 12, none⟩,
 ⟨.mv (.c (vs [])), some 4, none⟩,
 ⟨.mv (.t 12), some 5, none⟩])
 (.ret))
 (.skip))))))
 (.keep [1, 2] (.seq (.seq (.reg false [] [
 ⟨.faddr 2 (.t 2), some 13, none⟩,
 ⟨.load false (.l (.i .i64)) (.t 13), some 14, none⟩,
 ⟨.mv (.t 1), some 15, none⟩,
 ⟨.call J0w [(.t 14), (.t 15)] 0, some 16, none⟩])
 (.keep [1, 2, 16] (.cond (.t 16)
 (.seq (.reg false [] [
 ⟨.mv (.c (vs [])), some 4, none⟩,
 ⟨.mv (.c (vi .i64 11)), some 5, none⟩])
 (.ret))
 (.skip))))
 (.keep [1, 2] (.seq (.reg false [] [
 ⟨.faddr 0 (.t 2), some 17, none⟩,
 ⟨.load false (.l .s) (.t 17), some 18, none⟩,
 ⟨.mv (.t 1), some 19, none⟩,
 ⟨.iaddr .s (.t 18) (.t 19), some 20, none⟩,
 ⟨.load false .s (.t 20), some 21, none⟩,
 ⟨.mv (.t 21), some 4, none⟩,
 ⟨.mv (.c (vi .i64 0)), some 5, none⟩])
 (.ret)))))))
def J6r : TFn := ⟨2, 22, Jhx, [.tmp 4, .tmp 5], false⟩
def J63 : TCo := .seq (.reg false [] [
 ⟨.mv (.c (vi .i64 0)), some 4, none⟩])
 (.keep [0, 1] (.seq (.seq (.reg true [] [
 ⟨.mv (.t 0), some 6, none⟩,
 ⟨.nilchk (.t 6), some 7, none⟩,
 ⟨.faddr 1 (.t 7), some 8, none⟩,
 ⟨.load false (.i .i64) (.t 8), some 9, none⟩,
 ⟨.mv (.t 0), some 10, none⟩,
 ⟨.nilchk (.t 10), some 11, none⟩,
 ⟨.faddr 0 (.t 11), some 12, none⟩,
 ⟨.load false (.l (.i .u8)) (.t 12), some 13, none⟩,
 ⟨.len false (.t 13), some 14, none⟩,
 ⟨.bin .geq .plain (.t 9) (.t 14), some 15, none⟩,
 ⟨.mv (.t 15), some 16, none⟩,
 ⟨.mv (.t 1), some 17, some (16, false)⟩,
 ⟨.bin .lss .plain (.t 17) (.c (vi .i64 1)), some 18, some (16, false)⟩,
 ⟨.pick (.t 16) (.c (vb true)) (.t 18), some 19, none⟩])
 (.keep [0, 1, 19] (.cond (.t 19)
 (.seq (.reg false [] [
 ⟨.mv (.c (vi .i64 0)), some 4, none⟩])
 (.ret))
 (.skip))))
 (.keep [0, 1] (.seq (.reg true [] [
 ⟨.mv (.t 0), some 20, none⟩,
 ⟨.nilchk (.t 20), some 21, none⟩,
 ⟨.faddr 0 (.t 21), some 22, none⟩,
 ⟨.load false (.l (.i .u8)) (.t 22), some 23, none⟩,
 ⟨.mv (.t 0), some 24, none⟩,
 ⟨.nilchk (.t 24), some 25, none⟩,
 ⟨.faddr 1 (.t 25), some 26, none⟩,
 ⟨.load false (.i .i64) (.t 26), some 27, none⟩,
 ⟨.iaddr (.i .u8) (.t 23) (.t 27), some 28, none⟩,
 ⟨.load false (.i .u8) (.t 28), some 29, none⟩,
 ⟨.conv (.int .i64) (.t 29), some 30, none⟩,
 ⟨.mv (.t 30), some 5, none⟩])
 (.keep [0, 1, 5] (.seq (.reg false [] [
 ⟨.mv (.t 0), some 31, none⟩,
 ⟨.nilchk (.t 31), some 32, none⟩,
 ⟨.faddr 1 (.t 32), some 33, none⟩,
 ⟨.load false (.i .i64) (.t 33), some 34, none⟩,
 ⟨.bin .add .plain (.t 34) (.c (vi .i64 1)), some 35, none⟩,
 ⟨.nilchk (.t 31), some 36, none⟩,
 ⟨.faddr 1 (.t 36), some 37, none⟩,
 ⟨.store (.i .i64) (.t 37) (.t 35), none, none⟩])
 (.keep [0, 1, 5] (.seq (.seq (.reg false [] [
 ⟨.mv (.t 1), some 38, none⟩,
 ⟨.bin .gtr .plain (.t 38) (.c (vi .i64 256)), some 39, none⟩])
 (.keep [0, 1, 5, 39] (.cond (.t 39)
 (.seq (.reg false [] [
 ⟨.mv (.t 5), some 40, none⟩,
 ⟨.bin .mul .plain (.c (vi .i64 256)) (.t 40), some 41, none⟩,
 ⟨.mv (.t 0), some 42, none⟩,
 ⟨.call i_draw_Codes_Next [(.t 42), (.c (vi .i64 256))] 0, some 43, none⟩,
 ⟨.bin .add .plain (.t 41) (.t 43), some 44, none⟩,
 ⟨.mv (.t 1), some 45, none⟩,
 ⟨.bin .rem .plain (.t 44) (.t 45), some 46, none⟩,
 ⟨.mv (.t 46), some 4, none⟩])
 (.ret))
 (.skip))))
 (.keep [1, 5] (.seq (.reg false [] [
 ⟨.mv (.t 5), some 47, none⟩,
 ⟨.mv (.t 1), some 48, none⟩,
 ⟨.bin .rem .plain (.t 47) (.t 48), some 49, none⟩,
 ⟨.mv (.t 49), some 4, none⟩])
 (.ret)))))))))))
def J10 : TFn := ⟨2, 50, J63, [.tmp 4], false⟩
def Jcu : TCo := .seq (.reg false [] [
 ⟨.mv (.c (vs [])), some 2, none⟩])
 (.keep [0] (.seq (.reg false [] [
 ⟨.mkslice true (.i .u8) 1 (.c (vi .i64 256)) (.c (vi .i64 256)), some 6, none⟩,
 ⟨.mv (.t 6), some 3, none⟩])
 (.keep [0, 3] (.seq (.reg false [] [
 ⟨.mv (.t 0), some 7, none⟩,
 ⟨.call i_draw_Codes_Next [(.t 7), (.c (vi .i64 256))] 0, some 8, none⟩,
 ⟨.conv (.int .u8) (.t 8), some 9, none⟩,
 ⟨.mv (.t 9), some 4, none⟩])
 (.keep [0, 3, 4] (.seq (.seq (.reg false [] [
 ⟨.mv (.c (vi .i64 0)), some 5, none⟩])
 (.keep [0, 3, 4, 5] (.block 0 (.loop [0, 3, 4, 5] (.seq (.seq (.reg false [] [
 ⟨.mv (.t 5), some 10, none⟩,
 ⟨.mv (.t 3), some 11, none⟩,
 ⟨.len false (.t 11), some 12, none⟩,
 ⟨.bin .lss .plain (.t 10) (.t 12), some 13, none⟩])
 (.keep [0, 3, 4, 5, 13] (.cond (.t 13)
 (.skip)
 (.exit 0))))
 (.keep [0, 3, 4, 5] (.seq (.block 1 (.reg false [] [
 ⟨.mv (.t 3), some 16, none⟩,
 ⟨.mv (.t 5), some 17, none⟩,
 ⟨.mv (.t 4), some 18, none⟩,
 ⟨.iaddr (.i .u8) (.t 16) (.t 17), some 19, none⟩,
 ⟨.store (.i .u8) (.t 19) (.t 18), none, none⟩]))
 (.keep [0, 3, 4, 5] (.reg false [] [
 ⟨.mv (.t 5), some 14, none⟩,
 ⟨.bin .add .plain (.t 14) (.c (vi .i64 1)), some 15, none⟩,
 ⟨.mv (.t 15), some 5, none⟩])))))))))
 (.keep [0, 3] (.seq (.reg false [] [
 ⟨.mv (.t 3), some 20, none⟩,
 ⟨.mv (.t 0), some 21, none⟩,
 ⟨.call i_draw_Codes_Next [(.t 21), (.c (vi .i64 256))] 0, some 22, none⟩,
 ⟨.mv (.t 0), some 23, none⟩,
 ⟨.call i_draw_Codes_Next [(.t 23), (.c (vi .i64 256))] 0, some 24, none⟩,
 ⟨.conv (.int .u8) (.t 24), some 25, none⟩,
 ⟨.iaddr (.i .u8) (.t 20) (.t 22), some 26, none⟩,
 ⟨.store (.i .u8) (.t 26) (.t 25), none, none⟩])
 (.keep [3] (.seq (.reg false [] [
 ⟨.mv (.t 3), some 27, none⟩,
 ⟨.conv .toStr (.t 27), some 28, none⟩,
 ⟨.mv (.t 28), some 2, none⟩])
 (.ret)))))))))))
def J46 : TFn := ⟨1, 29, Jcu, [.tmp 2], false⟩
def J6P : TCo := .seq (.reg false [] [
 ⟨.mv (.c (vi .i64 0)), some 2, none⟩])
 (.keep [0] (.seq (.seq (.reg false [] [
 ⟨.mv (.t 0), some 3, none⟩,
 ⟨.call i_draw_Codes_Next [(.t 3), (.c (vi .i64 10))] 0, some 4, none⟩])
 (.keep [0, 4] (.block 0 (.seq (.reg false [] [
 ⟨.bin .eql .plain (.t 4) (.c (vi .i64 0)), some 6, none⟩,
 ⟨.mv (.t 6), some 5, none⟩])
 (.keep [0, 4, 5] (.cond (.t 5)
 (.seq (.reg false [] [
 ⟨.mv (.t 0), some 7, none⟩,
 ⟨.call i_draw_Codes_Next [(.t 7), (.c (vi .i64 3))] 0, some 8, none⟩,
 ⟨.bin .sub .plain (.c (vi .i64 (-1))) (.t 8), some 9, none⟩,
 ⟨.mv (.t 9), some 2, none⟩])
 (.ret))
 (.seq (.reg false [] [
 ⟨.bin .eql .plain (.t 4) (.c (vi .i64 1)), some 11, none⟩,
 ⟨.mv (.t 11), some 10, none⟩])
 (.keep [0, 10] (.cond (.t 10)
 (.seq (.reg false [] [
 ⟨.lits false (.i .i64) 16 [(0, (.c (vi .i64 9223372036854775807))), (1, (.c (vi .i64 (-9223372036854775808)))), (2, (.c (vi .i64 1099511627776))), (3, (.c (vi .i64 1099511627777))), (4, (.c (vi .i64 1073741824))), (5, (.c (vi .i64 1073741825))), (6, (.c (vi .i64 64))), (7, (.c (vi .i64 63))), (8, (.c (vi .i64 16))), (9, (.c (vi .i64 15))), (10, (.c (vi .i64 256))), (11, (.c (vi .i64 255))), (12, (.c (vi .i64 4294967296))), (13, (.c (vi .i64 65536))), (14, (.c (vi .i64 256))), (15, (.c (vi .i64 255)))], some 12, none⟩,
 ⟨.mv (.t 0), some 13, none⟩,
 ⟨.call i_draw_Codes_Next [(.t 13), (.c (vi .i64 16))] 0, some 14, none⟩,
 ⟨.iaddr (.i .i64) (.t 12) (.t 14), some 15, none⟩,
 ⟨.load false (.i .i64) (.t 15), some 16, none⟩,
 ⟨.mv (.t 16), some 2, none⟩])
 (.ret))
 (.skip))))))))))
 (.keep [0] (.seq (.reg false [] [
 ⟨.mv (.t 0), some 17, none⟩,
 ⟨.call i_draw_Codes_Next [(.t 17), (.c (vi .i64 20))] 0, some 18, none⟩,
 ⟨.mv (.t 18), some 2, none⟩])
 (.ret)))))
def J1g : TFn := ⟨1, 19, J6P, [.tmp 2], false⟩
def J5p : TCo := .seq (.reg false [] [
 ⟨.newbox J4, some 6, none⟩])
 (.keep [0, 1, 2, 6] (.seq (.reg false [] [
 ⟨.mv (.t 0), some 8, none⟩,
 ⟨.call i_draw_Codes_Next [(.t 8), (.c (vi .i64 6))] 0, some 9, none⟩,
 ⟨.bin .add .plain (.c (vi .i64 1)) (.t 9), some 10, none⟩,
 ⟨.mv (.t 2), some 11, none⟩,
 ⟨.bin .add .plain (.t 11) (.c (vi .i64 1)), some 12, none⟩,
 ⟨.mv (.t 0), some 13, none⟩,
 ⟨.call i_draw_Codes_Next [(.t 13), (.c (vi .i64 6))] 0, some 14, none⟩,
 ⟨.bin .add .plain (.t 12) (.t 14), some 15, none⟩,
 ⟨.build J4 [(0, (.i .i64), (.t 10)), (1, (.i .i64), (.t 15))], some 16, none⟩,
 ⟨.newbox J4, some 7, none⟩,
 ⟨.store J4 (.t 7) (.t 16), none, none⟩])
 (.keep [0, 1, 6, 7] (.seq (.seq (.reg false [] [
 ⟨.faddr 0 (.t 7), some 17, none⟩,
 ⟨.load false (.i .i64) (.t 17), some 18, none⟩])
 (.keep [0, 1, 6, 7, 18] (.block 0 (.seq (.reg false [] [
 ⟨.bin .eql .plain (.t 18) (.c (vi .i64 2)), some 20, none⟩,
 ⟨.mv (.t 20), some 19, none⟩])
 (.keep [0, 1, 6, 7, 18, 19] (.cond (.t 19)
 (.reg false [] [
 ⟨.mv (.t 0), some 21, none⟩,
 ⟨.mv (.t 1), some 22, none⟩,
 ⟨.call i_draw_Codes_Next [(.t 21), (.t 22)] 0, some 23, none⟩,
 ⟨.faddr 3 (.t 7), some 24, none⟩,
 ⟨.store (.i .i64) (.t 24) (.t 23), none, none⟩])
 (.seq (.reg false [] [
 ⟨.bin .eql .plain (.t 18) (.c (vi .i64 3)), some 26, none⟩,
 ⟨.mv (.t 26), some 25, none⟩])
 (.keep [0, 1, 6, 7, 18, 25] (.cond (.t 25)
 (.reg false [] [
 ⟨.mv (.t 0), some 27, none⟩,
 ⟨.call i_draw_Codes_Next [(.t 27), (.c (vi .i64 256))] 0, some 28, none⟩,
 ⟨.faddr 4 (.t 7), some 29, none⟩,
 ⟨.store (.i .i64) (.t 29) (.t 28), none, none⟩])
 (.seq (.reg false [] [
 ⟨.bin .eql .plain (.t 18) (.c (vi .i64 4)), some 31, none⟩,
 ⟨.mv (.t 31), some 30, none⟩])
 (.keep [0, 1, 6, 7, 18, 30] (.cond (.t 30)
 (.reg false [] [
 ⟨.mv (.t 0), some 32, none⟩,
 ⟨.mv (.t 1), some 33, none⟩,
 ⟨.call i_draw_Codes_Next [(.t 32), (.t 33)] 0, some 34, none⟩,
 ⟨.mv (.t 0), some 35, none⟩,
 ⟨.call i_draw_Codes_Next [(.t 35), (.c (vi .i64 256))] 0, some 36, none⟩,
 ⟨.mv (.t 0), some 37, none⟩,
 ⟨.call i_draw_Codes_Next [(.t 37), (.c (vi .i64 255))] 0, some 38, none⟩,
 ⟨.bin .add .plain (.c (vi .i64 1)) (.t 38), some 39, none⟩,
 ⟨.conv (.int .u8) (.t 39), some 40, none⟩,
 ⟨.faddr 2 (.t 7), some 41, none⟩,
 ⟨.store (.i .i64) (.t 41) (.t 34), none, none⟩,
 ⟨.faddr 4 (.t 7), some 42, none⟩,
 ⟨.store (.i .i64) (.t 42) (.t 36), none, none⟩,
 ⟨.faddr 5 (.t 7), some 43, none⟩,
 ⟨.store (.i .u8) (.t 43) (.t 40), none, none⟩])
 (.seq (.reg false [] [
 ⟨.bin .eql .plain (.t 18) (.c (vi .i64 5)), some 45, none⟩,
 ⟨.mv (.t 45), some 44, none⟩])
 (.keep [0, 1, 6, 7, 44] (.cond (.t 44)
 (.reg false [] [
 ⟨.mv (.t 0), some 46, none⟩,
 ⟨.mv (.t 1), some 47, none⟩,
 ⟨.call i_draw_Codes_Next [(.t 46), (.t 47)] 0, some 48, none⟩,
 ⟨.faddr 2 (.t 7), some 49, none⟩,
 ⟨.store (.i .i64) (.t 49) (.t 48), none, none⟩])
 (.skip))))))))))))))))
 (.keep [0, 6, 7] (.seq (.seq (.reg false [] [
 ⟨.mv (.t 0), some 50, none⟩,
 ⟨.call i_draw_Codes_Next [(.t 50), (.c (vi .i64 16))] 0, some 51, none⟩])
 (.keep [0, 6, 7, 51] (.block 1 (.seq (.reg false [] [
 ⟨.bin .eql .plain (.t 51) (.c (vi .i64 12)), some 53, none⟩,
 ⟨.mv (.t 53), some 52, none⟩])
 (.keep [0, 6, 7, 51, 52] (.cond (.t 52)
 (.reg false [] [
 ⟨.mv (.t 0), some 54, none⟩,
 ⟨.call Jo [(.t 54)] 0, some 55, none⟩,
 ⟨.faddr 1 (.t 7), some 56, none⟩,
 ⟨.store (.i .i64) (.t 56) (.t 55), none, none⟩])
 (.seq (.reg false [] [
 ⟨.bin .eql .plain (.t 51) (.c (vi .i64 13)), some 58, none⟩,
 ⟨.mv (.t 58), some 57, none⟩])
 (.keep [0, 6, 7, 51, 57] (.cond (.t 57)
 (.reg false [] [
 ⟨.mv (.t 0), some 59, none⟩,
 ⟨.call Jo [(.t 59)] 0, some 60, none⟩,
 ⟨.faddr 2 (.t 7), some 61, none⟩,
 ⟨.store (.i .i64) (.t 61) (.t 60), none, none⟩,
 ⟨.faddr 5 (.t 7), some 62, none⟩,
 ⟨.store (.i .u8) (.t 62) (.c (vi .u8 0)), none, none⟩])
 (.seq (.reg false [] [
 ⟨.bin .eql .plain (.t 51) (.c (vi .i64 14)), some 64, none⟩,
 ⟨.mv (.t 64), some 63, none⟩])
 (.keep [0, 6, 7, 51, 63] (.cond (.t 63)
 (.reg false [] [
 ⟨.mv (.t 0), some 65, none⟩,
 ⟨.call Jo [(.t 65)] 0, some 66, none⟩,
 ⟨.mv (.t 0), some 67, none⟩,
 ⟨.call Jo [(.t 67)] 0, some 68, none⟩,
 ⟨.faddr 3 (.t 7), some 69, none⟩,
 ⟨.store (.i .i64) (.t 69) (.t 66), none, none⟩,
 ⟨.faddr 4 (.t 7), some 70, none⟩,
 ⟨.store (.i .i64) (.t 70) (.t 68), none, none⟩])
 (.seq (.reg false [] [
 ⟨.bin .eql .plain (.t 51) (.c (vi .i64 15)), some 72, none⟩,
 ⟨.mv (.t 72), some 71, none⟩])
 (.keep [0, 6, 7, 71] (.cond (.t 71)
 (.reg false [] [
 ⟨.mv (.t 0), some 73, none⟩,
 ⟨.call i_draw_Codes_Next [(.t 73), (.c (vi .i64 9))] 0, some 74, none⟩,
 ⟨.bin .sub .plain (.t 74) (.c (vi .i64 1)), some 75, none⟩,
 ⟨.faddr 0 (.t 7), some 76, none⟩,
 ⟨.store (.i .i64) (.t 76) (.t 75), none, none⟩])
 (.skip))))))))))))))))
 (.keep [6, 7] (.seq (.reg false [] [
 ⟨.load true J4 (.t 7), some 77, none⟩,
 ⟨.store J4 (.t 6) (.t 77), none, none⟩])
 (.ret)))))))))
def J0R : TFn := ⟨3, 78, J5p, [.cell 6 true J4], false⟩
def Jdb : TCo := .seq (.reg false [] [
 ⟨.mv (.c (vi .i64 0)), some 2, none⟩])
 (.keep [0] (.seq (.reg true [] [
 ⟨.mv (.t 0), some 3, none⟩,
 ⟨.nilchk (.t 3), some 4, none⟩,
 ⟨.faddr 0 (.t 4), some 5, none⟩,
 ⟨.load false (.l (.i .u8)) (.t 5), some 6, none⟩,
 ⟨.len false (.t 6), some 7, none⟩,
 ⟨.mv (.t 0), some 8, none⟩,
 ⟨.nilchk (.t 8), some 9, none⟩,
 ⟨.faddr 1 (.t 9), some 10, none⟩,
 ⟨.load false (.i .i64) (.t 10), some 11, none⟩,
 ⟨.bin .sub .plain (.t 7) (.t 11), some 12, none⟩,
 ⟨.mv (.t 12), some 2, none⟩])
 (.ret)))
def J8o : TFn := ⟨1, 13, Jdb, [.tmp 2], false⟩
def Jml : TCo := .seq (.reg false [] [
 ⟨.mv (.c (.a (.c .np))), some 4, none⟩])
 (.keep [0, 1] (.seq (.seq (.reg false [] [
 ⟨.mv (.t 0), some 5, none⟩,
 ⟨.len false (.t 5), some 6, none⟩,
 ⟨.mv (.t 1), some 7, none⟩,
 ⟨.bin .gtr .plain (.t 6) (.t 7), some 8, none⟩])
 (.keep [0, 1, 8] (.cond (.t 8)
 (.reg false [] [
 ⟨.mv (.t 0), some 9, none⟩,
 ⟨.mv (.t 1), some 10, none⟩,
 ⟨.slice (.sl (.i .u8)) (.t 9) none (some (.t 10)) none, some 11, none⟩,
 ⟨.mv (.t 11), some 0, none⟩])
 (.skip))))
 (.keep [0] (.seq (.reg false [] [
 ⟨.mv (.t 0), some 12, none⟩,
 ⟨.build J7 [(0, (.l (.i .u8)), (.t 12))], some 13, none⟩,
 ⟨.box J7 (.t 13), some 14, none⟩,
 ⟨.mv (.t 14), some 4, none⟩])
 (.ret)))))
def J8z : TFn := ⟨2, 15, Jml, [.tmp 4], false⟩
def JhO : TCo := .seq (.reg false [] [
 ⟨.mv (.c (vb false)), some 0, none⟩])
 (.keep [] (.seq (.reg false [] [
 ⟨.call J25 [(.c (vi .i64 1))] 0, some 11, none⟩,
 ⟨.mv (.t 11), some 10, none⟩,
 ⟨.extr (.t 10) 0, some 12, none⟩,
 ⟨.extr (.t 10) 1, some 13, none⟩,
 ⟨.newbox J3, some 1, none⟩,
 ⟨.store J3 (.t 1) (.t 12), none, none⟩,
 ⟨.mv (.t 13), some 2, none⟩])
 (.keep [1, 2] (.seq (.reg false [] [
 ⟨.load true J3 (.t 1), some 15, none⟩,
 ⟨.build J4 [(0, (.i .i64), (.c (vi .i64 1))), (1, (.i .i64), (.c (vi .i64 2)))], some 16, none⟩,
 ⟨.call J1b [(.t 15), (.t 16)] 0, some 17, none⟩,
 ⟨.mv (.t 17), some 14, none⟩,
 ⟨.extr (.t 14) 0, some 18, none⟩,
 ⟨.extr (.t 14) 1, some 19, none⟩,
 ⟨.store J3 (.t 1) (.t 18), none, none⟩,
 ⟨.mv (.t 19), some 3, none⟩])
 (.keep [1, 2, 3] (.seq (.reg true [(0, 3), (1, 3), (0, 4)] [
 ⟨.mkslice false (.i .u8) 1 (.c (vi .i64 255)) (.c (vi .i64 255)), some 20, none⟩,
 ⟨.conv .toStr (.t 20), some 21, none⟩,
 ⟨.bin .add .plain (.t 21) (.c (vs [97])), some 22, none⟩,
 ⟨.mkslice false (.i .u8) 1 (.c (vi .i64 255)) (.c (vi .i64 255)), some 23, none⟩,
 ⟨.conv .toStr (.t 23), some 24, none⟩,
 ⟨.bin .add .plain (.t 24) (.c (vs [98])), some 25, none⟩,
 ⟨.mv (.t 22), some 4, none⟩,
 ⟨.mv (.t 25), some 5, none⟩])
 (.keep [1, 2, 3, 4, 5] (.seq (.reg false [] [
 ⟨.load true J3 (.t 1), some 27, none⟩,
 ⟨.mv (.t 4), some 28, none⟩,
 ⟨.call J1p [(.t 27), (.c (vi .i64 0)), (.t 28)] 0, some 29, none⟩,
 ⟨.mv (.t 29), some 26, none⟩,
 ⟨.extr (.t 26) 0, some 30, none⟩,
 ⟨.extr (.t 26) 1, some 31, none⟩,
 ⟨.store J3 (.t 1) (.t 30), none, none⟩,
 ⟨.mv (.t 31), some 6, none⟩])
 (.keep [1, 2, 3, 4, 5, 6] (.seq (.reg false [] [
 ⟨.load true J3 (.t 1), some 33, none⟩,
 ⟨.mv (.t 5), some 34, none⟩,
 ⟨.call J1p [(.t 33), (.c (vi .i64 0)), (.t 34)] 0, some 35, none⟩,
 ⟨.mv (.t 35), some 32, none⟩,
 ⟨.extr (.t 32) 0, some 36, none⟩,
 ⟨.extr (.t 32) 1, some 37, none⟩,
 ⟨.store J3 (.t 1) (.t 36), none, none⟩,
 ⟨.mv (.t 37), some 7, none⟩])
 (.keep [1, 2, 3, 4, 6, 7] (.seq (.reg false [] [
 ⟨.load true J3 (.t 1), some 39, none⟩,
 ⟨.call J1H [(.t 39), (.c (vi .i64 0))] 0, some 40, none⟩,
 ⟨.mv (.t 40), some 38, none⟩,
 ⟨.extr (.t 38) 0, some 41, none⟩,
 ⟨.extr (.t 38) 1, some 42, none⟩,
 ⟨.mv (.t 41), some 8, none⟩,
 ⟨.mv (.t 42), some 9, none⟩])
 (.keep [2, 3, 4, 6, 7, 8, 9] (.seq (.reg false [] [
 ⟨.mv (.t 2), some 43, none⟩,
 ⟨.bin .eql .plain (.t 43) (.c (vi .i64 0)), some 44, none⟩,
 ⟨.mv (.t 44), some 45, none⟩,
 ⟨.mv (.t 3), some 46, some (45, true)⟩,
 ⟨.bin .eql .plain (.t 46) (.c (vi .i64 0)), some 47, some (45, true)⟩,
 ⟨.pick (.t 45) (.t 47) (.c (vb false)), some 48, none⟩,
 ⟨.mv (.t 48), some 49, none⟩,
 ⟨.mv (.t 6), some 50, some (49, true)⟩,
 ⟨.bin .eql .plain (.t 50) (.c (vi .i64 0)), some 51, some (49, true)⟩,
 ⟨.pick (.t 49) (.t 51) (.c (vb false)), some 52, none⟩,
 ⟨.mv (.t 52), some 53, none⟩,
 ⟨.mv (.t 7), some 54, some (53, true)⟩,
 ⟨.bin .eql .plain (.t 54) (.c (vi .i64 0)), some 55, some (53, true)⟩,
 ⟨.pick (.t 53) (.t 55) (.c (vb false)), some 56, none⟩,
 ⟨.mv (.t 56), some 57, none⟩,
 ⟨.mv (.t 9), some 58, some (57, true)⟩,
 ⟨.bin .eql .plain (.t 58) (.c (vi .i64 0)), some 59, some (57, true)⟩,
 ⟨.pick (.t 57) (.t 59) (.c (vb false)), some 60, none⟩,
 ⟨.mv (.t 60), some 61, none⟩,
 ⟨.mv (.t 8), some 62, some (61, true)⟩,
 ⟨.mv (.t 4), some 63, some (61, true)⟩,
 ⟨.bin .eql .plain (.t 62) (.t 63), some 64, some (61, true)⟩,
 ⟨.pick (.t 61) (.t 64) (.c (vb false)), some 65, none⟩,
 ⟨.mv (.t 65), some 0, none⟩])
 (.ret)))))))))))))))
def J6D : TFn := ⟨0, 66, JhO, [.tmp 0], false⟩
def J95 : TCo := .seq (.reg false [] [
 ⟨.box J3 (.t 0), some 1, none⟩,
 ⟨.newbox J3, some 2, none⟩])
 (.keep [1, 2] (.seq (.reg false [] [
 ⟨.faddr 0 (.t 1), some 3, none⟩,
 ⟨.load false (.l .s) (.t 3), some 4, none⟩,
 ⟨.appn .s 16 (.t 4), some 5, none⟩,
 ⟨.faddr 0 (.t 1), some 6, none⟩,
 ⟨.store (.l .s) (.t 6) (.t 5), none, none⟩])
 (.keep [1, 2] (.seq (.tidy [1, 2] (.reg false [] [
 ⟨.faddr 2 (.t 1), some 7, none⟩,
 ⟨.load false (.l (.i .i64)) (.t 7), some 8, none⟩,
 ⟨.appn (.i .i64) 8 (.t 8), some 9, none⟩,
 ⟨.faddr 2 (.t 1), some 10, none⟩,
 ⟨.store (.l (.i .i64)) (.t 10) (.t 9), none, none⟩]))
 (.keep [1, 2] (.seq (.reg false [] [
 ⟨.faddr 4 (.t 1), some 11, none⟩,
 ⟨.load false (.l J4) (.t 11), some 12, none⟩,
 ⟨.appn J4 48 (.t 12), some 13, none⟩,
 ⟨.faddr 4 (.t 1), some 14, none⟩,
 ⟨.store (.l J4) (.t 14) (.t 13), none, none⟩])
 (.keep [1, 2] (.seq (.reg false [] [
 ⟨.load true J3 (.t 1), some 15, none⟩,
 ⟨.store J3 (.t 2) (.t 15), none, none⟩])
 (.ret)))))))))
def J2v : TFn := ⟨1, 16, J95, [.cell 2 true J3], true⟩
def JhY : TCo := .seq (.reg false [] [
 ⟨.box J3 (.t 0), some 2, none⟩,
 ⟨.box J4 (.t 1), some 3, none⟩,
 ⟨.mv (.c (vb false)), some 4, none⟩])
 (.keep [2, 3] (.seq (.seq (.reg false [] [
 ⟨.faddr 1 (.t 3), some 6, none⟩,
 ⟨.load false (.i .i64) (.t 6), some 7, none⟩,
 ⟨.faddr 1 (.t 2), some 8, none⟩,
 ⟨.load false (.i .i64) (.t 8), some 9, none⟩,
 ⟨.bin .leq .plain (.t 7) (.t 9), some 10, none⟩,
 ⟨.mv (.t 10), some 11, none⟩,
 ⟨.faddr 1 (.t 3), some 12, some (11, false)⟩,
 ⟨.load false (.i .i64) (.t 12), some 13, some (11, false)⟩,
 ⟨.bin .gtr .plain (.t 13) (.c (vi .i64 1099511627776)), some 14, some (11, false)⟩,
 ⟨.pick (.t 11) (.c (vb true)) (.t 14), some 15, none⟩,
 ⟨.mv (.t 15), some 16, none⟩,
 ⟨.faddr 2 (.t 3), some 17, some (16, false)⟩,
 ⟨.load false (.i .i64) (.t 17), some 18, some (16, false)⟩,
 ⟨.bin .lss .plain (.t 18) (.c (vi .i64 0)), some 19, some (16, false)⟩,
 ⟨.pick (.t 16) (.c (vb true)) (.t 19), some 20, none⟩,
 ⟨.mv (.t 20), some 21, none⟩,
 ⟨.faddr 2 (.t 3), some 22, some (21, false)⟩,
 ⟨.load false (.i .i64) (.t 22), some 23, some (21, false)⟩,
 ⟨.faddr 0 (.t 2), some 24, some (21, false)⟩,
 ⟨.load false (.l .s) (.t 24), some 25, some (21, false)⟩,
 ⟨.len false (.t 25), some 26, some (21, false)⟩,
 ⟨.bin .geq .plain (.t 23) (.t 26), some 27, some (21, false)⟩,
 ⟨.pick (.t 21) (.c (vb true)) (.t 27), some 28, none⟩,
 ⟨.mv (.t 28), some 29, none⟩,
 ⟨.faddr 3 (.t 3), some 30, some (29, false)⟩,
 ⟨.load false (.i .i64) (.t 30), some 31, some (29, false)⟩,
 ⟨.bin .lss .plain (.t 31) (.c (vi .i64 0)), some 32, some (29, false)⟩,
 ⟨.pick (.t 29) (.c (vb true)) (.t 32), some 33, none⟩,
 ⟨.mv (.t 33), some 34, none⟩,
 ⟨.faddr 3 (.t 3), some 35, some (34, false)⟩,
 ⟨.load false (.i .i64) (.t 35), some 36, some (34, false)⟩,
 ⟨.faddr 0 (.t 2), some 37, some (34, false)⟩,
 ⟨.load false (.l .s) (.t 37), some 38, some (34, false)⟩,
 ⟨.len false (.t 38), some 39, some (34, false)⟩,
 ⟨.bin .geq .plain (.t 36) (.t 39), some 40, some (34, false)⟩,
 ⟨.pick (.t 34) (.c (vb true)) (.t 40), some 41, none⟩,
 ⟨.mv (.t 41), some 42, none⟩,
 ⟨.faddr 4 (.t 3), some 43, some (42, false)⟩,
 ⟨.load false (.i .i64) (.t 43), some 44, some (42, false)⟩,
 ⟨.bin .lss .plain (.t 44) (.c (vi .i64 0)), some 45, some (42, false)⟩,
 ⟨.pick (.t 42) (.c (vb true)) (.t 45), some 46, none⟩,
 ⟨.mv (.t 46), some 47, none⟩,
 ⟨.faddr 4 (.t 3), some 48, some (47, false)⟩,
 ⟨.load false (.i .i64) (.t 48), some 49, some (47, false)⟩,
 ⟨.bin .geq .plain (.t 49) (.c (vi .i64 256)), some 50, some (47, false)⟩,
 ⟨.pick (.t 47) (.c (vb true)) (.t 50), some 51, none⟩])
 (.keep [3, 51] (.cond (.t 51)
 (.seq (.reg false [] [
 ⟨.mv (.c (vb false)), some 4, none⟩])
 (.ret))
 (.skip))))
 (.keep [3] (.seq (.reg false [] [
 ⟨.faddr 0 (.t 3), some 52, none⟩,
 ⟨.load false (.i .i64) (.t 52), some 53, none⟩,
 ⟨.faddr 1 (.t 3), some 54, none⟩,
 ⟨.load false (.i .i64) (.t 54), some 55, none⟩,
 ⟨.build J4 [(0, (.i .i64), (.t 53)), (1, (.i .i64), (.t 55))], some 56, none⟩,
 ⟨.newbox J4, some 5, none⟩,
 ⟨.store J4 (.t 5) (.t 56), none, none⟩])
 (.keep [3, 5] (.seq (.seq (.reg false [] [
 ⟨.faddr 0 (.t 3), some 57, none⟩,
 ⟨.load false (.i .i64) (.t 57), some 58, none⟩])
 (.keep [3, 5, 58] (.block 0 (.seq (.seq (.reg false [] [
 ⟨.bin .eql .plain (.t 58) (.c (vi .i64 1)), some 60, none⟩,
 ⟨.mv (.t 60), some 59, none⟩])
 (.keep [3, 5, 58, 59] (.cond (.t 59)
 (.skip)
 (.reg false [] [
 ⟨.bin .eql .plain (.t 58) (.c (vi .i64 6)), some 61, none⟩,
 ⟨.mv (.t 61), some 59, none⟩]))))
 (.keep [3, 5, 58, 59] (.cond (.t 59)
 (.skip)
 (.seq (.reg false [] [
 ⟨.bin .eql .plain (.t 58) (.c (vi .i64 2)), some 63, none⟩,
 ⟨.mv (.t 63), some 62, none⟩])
 (.keep [3, 5, 58, 62] (.cond (.t 62)
 (.reg false [] [
 ⟨.faddr 3 (.t 3), some 64, none⟩,
 ⟨.load false (.i .i64) (.t 64), some 65, none⟩,
 ⟨.faddr 3 (.t 5), some 66, none⟩,
 ⟨.store (.i .i64) (.t 66) (.t 65), none, none⟩])
 (.seq (.reg false [] [
 ⟨.bin .eql .plain (.t 58) (.c (vi .i64 3)), some 68, none⟩,
 ⟨.mv (.t 68), some 67, none⟩])
 (.keep [3, 5, 58, 67] (.cond (.t 67)
 (.reg false [] [
 ⟨.faddr 4 (.t 3), some 69, none⟩,
 ⟨.load false (.i .i64) (.t 69), some 70, none⟩,
 ⟨.faddr 4 (.t 5), some 71, none⟩,
 ⟨.store (.i .i64) (.t 71) (.t 70), none, none⟩])
 (.seq (.reg false [] [
 ⟨.bin .eql .plain (.t 58) (.c (vi .i64 4)), some 73, none⟩,
 ⟨.mv (.t 73), some 72, none⟩])
 (.keep [3, 5, 58, 72] (.cond (.t 72)
 (.seq (.reg true [(3, 7), (5, 7), (5, 9)] [
 ⟨.faddr 2 (.t 3), some 74, none⟩,
 ⟨.load false (.i .i64) (.t 74), some 75, none⟩,
 ⟨.faddr 4 (.t 3), some 76, none⟩,
 ⟨.load false (.i .i64) (.t 76), some 77, none⟩,
 ⟨.faddr 5 (.t 3), some 78, none⟩,
 ⟨.load false (.i .u8) (.t 78), some 79, none⟩,
 ⟨.faddr 2 (.t 5), some 80, none⟩,
 ⟨.store (.i .i64) (.t 80) (.t 75), none, none⟩,
 ⟨.faddr 4 (.t 5), some 81, none⟩,
 ⟨.store (.i .i64) (.t 81) (.t 77), none, none⟩,
 ⟨.faddr 5 (.t 5), some 82, none⟩,
 ⟨.store (.i .u8) (.t 82) (.t 79), none, none⟩])
 (.keep [3, 5] (.seq (.reg false [] [
 ⟨.faddr 5 (.t 3), some 83, none⟩,
 ⟨.load false (.i .u8) (.t 83), some 84, none⟩,
 ⟨.bin .eql .plain (.t 84) (.c (vi .u8 0)), some 85, none⟩])
 (.keep [3, 5, 85] (.cond (.t 85)
 (.seq (.reg false [] [
 ⟨.mv (.c (vb false)), some 4, none⟩])
 (.ret))
 (.skip))))))
 (.seq (.reg false [] [
 ⟨.bin .eql .plain (.t 58) (.c (vi .i64 5)), some 87, none⟩,
 ⟨.mv (.t 87), some 86, none⟩])
 (.keep [3, 5, 86] (.cond (.t 86)
 (.reg false [] [
 ⟨.faddr 2 (.t 3), some 88, none⟩,
 ⟨.load false (.i .i64) (.t 88), some 89, none⟩,
 ⟨.faddr 2 (.t 5), some 90, none⟩,
 ⟨.store (.i .i64) (.t 90) (.t 89), none, none⟩])
 (.seq (.reg false [] [
 ⟨.mv (.c (vb false)), some 4, none⟩])
 (.ret))))))))))))))))))))
 (.keep [3, 5] (.seq (.reg false [] [
 ⟨.load true J4 (.t 3), some 91, none⟩,
 ⟨.load true J4 (.t 5), some 92, none⟩,
 ⟨.bin .eql (.flat J4) (.t 91) (.t 92), some 93, none⟩,
 ⟨.mv (.t 93), some 4, none⟩])
 (.ret)))))))))
def J6t : TFn := ⟨2, 94, JhY, [.tmp 4], false⟩
def JhD : TCo := .seq (.reg false [] [
 ⟨.box J3 (.t 0), some 1, none⟩,
 ⟨.mv (.c (vb false)), some 2, none⟩])
 (.keep [1] (.seq (.reg false [] [
 ⟨.faddr 0 (.t 1), some 7, none⟩,
 ⟨.load false (.l .s) (.t 7), some 8, none⟩,
 ⟨.len false (.t 8), some 9, none⟩,
 ⟨.mv (.t 9), some 3, none⟩])
 (.keep [1, 3] (.seq (.seq (.reg false [] [
 ⟨.mv (.t 3), some 10, none⟩,
 ⟨.bin .lss .plain (.t 10) (.c (vi .i64 1)), some 11, none⟩,
 ⟨.mv (.t 11), some 12, none⟩,
 ⟨.mv (.t 3), some 13, some (12, false)⟩,
 ⟨.bin .gtr .plain (.t 13) (.c (vi .i64 64)), some 14, some (12, false)⟩,
 ⟨.pick (.t 12) (.c (vb true)) (.t 14), some 15, none⟩,
 ⟨.mv (.t 15), some 16, none⟩,
 ⟨.faddr 1 (.t 1), some 17, some (16, false)⟩,
 ⟨.load false (.i .i64) (.t 17), some 18, some (16, false)⟩,
 ⟨.bin .lss .plain (.t 18) (.c (vi .i64 0)), some 19, some (16, false)⟩,
 ⟨.pick (.t 16) (.c (vb true)) (.t 19), some 20, none⟩,
 ⟨.mv (.t 20), some 21, none⟩,
 ⟨.faddr 1 (.t 1), some 22, some (21, false)⟩,
 ⟨.load false (.i .i64) (.t 22), some 23, some (21, false)⟩,
 ⟨.bin .gtr .plain (.t 23) (.c (vi .i64 1099511627776)), some 24, some (21, false)⟩,
 ⟨.pick (.t 21) (.c (vb true)) (.t 24), some 25, none⟩,
 ⟨.mv (.t 25), some 26, none⟩,
 ⟨.faddr 4 (.t 1), some 27, some (26, false)⟩,
 ⟨.load false (.l J4) (.t 27), some 28, some (26, false)⟩,
 ⟨.len false (.t 28), some 29, some (26, false)⟩,
 ⟨.bin .gtr .plain (.t 29) (.c (vi .i64 64)), some 30, some (26, false)⟩,
 ⟨.pick (.t 26) (.c (vb true)) (.t 30), some 31, none⟩])
 (.keep [1, 3, 31] (.cond (.t 31)
 (.seq (.reg false [] [
 ⟨.mv (.c (vb false)), some 2, none⟩])
 (.ret))
 (.skip))))
 (.keep [1, 3] (.seq (.seq (.reg false [] [
 ⟨.mv (.c (vi .i64 0)), some 4, none⟩])
 (.keep [1, 3, 4] (.block 0 (.loop [1, 3, 4] (.seq (.seq (.reg false [] [
 ⟨.mv (.t 4), some 32, none⟩,
 ⟨.mv (.t 3), some 33, none⟩,
 ⟨.bin .lss .plain (.t 32) (.t 33), some 34, none⟩])
 (.keep [1, 3, 4, 34] (.cond (.t 34)
 (.skip)
 (.exit 0))))
 (.keep [1, 3, 4] (.seq (.block 1 (.seq (.reg false [] [
 ⟨.faddr 0 (.t 1), some 37, none⟩,
 ⟨.load false (.l .s) (.t 37), some 38, none⟩,
 ⟨.mv (.t 4), some 39, none⟩,
 ⟨.iaddr .s (.t 38) (.t 39), some 40, none⟩,
 ⟨.load false .s (.t 40), some 41, none⟩,
 ⟨.len true (.t 41), some 42, none⟩,
 ⟨.bin .neq .plain (.t 42) (.c (vi .i64 256)), some 43, none⟩])
 (.keep [1, 3, 4, 43] (.cond (.t 43)
 (.seq (.reg false [] [
 ⟨.mv (.c (vb false)), some 2, none⟩])
 (.ret))
 (.skip)))))
 (.keep [1, 3, 4] (.reg false [] [
 ⟨.mv (.t 4), some 35, none⟩,
 ⟨.bin .add .plain (.t 35) (.c (vi .i64 1)), some 36, none⟩,
 ⟨.mv (.t 36), some 4, none⟩])))))))))
 (.keep [1, 3] (.seq (.seq (.reg false [] [
 ⟨.mv (.c (vi .i64 0)), some 5, none⟩])
 (.keep [1, 3, 5] (.block 2 (.loop [1, 3, 5] (.seq (.seq (.reg false [] [
 ⟨.mv (.t 5), some 44, none⟩,
 ⟨.faddr 2 (.t 1), some 45, none⟩,
 ⟨.load false (.l (.i .i64)) (.t 45), some 46, none⟩,
 ⟨.len false (.t 46), some 47, none⟩,
 ⟨.bin .lss .plain (.t 44) (.t 47), some 48, none⟩])
 (.keep [1, 3, 5, 48] (.cond (.t 48)
 (.skip)
 (.exit 2))))
 (.keep [1, 3, 5] (.seq (.block 3 (.seq (.reg true [] [
 ⟨.faddr 2 (.t 1), some 51, none⟩,
 ⟨.load false (.l (.i .i64)) (.t 51), some 52, none⟩,
 ⟨.mv (.t 5), some 53, none⟩,
 ⟨.iaddr (.i .i64) (.t 52) (.t 53), some 54, none⟩,
 ⟨.load false (.i .i64) (.t 54), some 55, none⟩,
 ⟨.bin .lss .plain (.t 55) (.c (vi .i64 0)), some 56, none⟩,
 ⟨.mv (.t 56), some 57, none⟩,
 ⟨.faddr 2 (.t 1), some 58, some (57, false)⟩,
 ⟨.load false (.l (.i .i64)) (.t 58), some 59, some (57, false)⟩,
 ⟨.mv (.t 5), some 60, some (57, false)⟩,
 ⟨.iaddr (.i .i64) (.t 59) (.t 60), some 61, some (57, false)⟩,
 ⟨.load false (.i .i64) (.t 61), some 62, some (57, false)⟩,
 ⟨.mv (.t 3), some 63, some (57, false)⟩,
 ⟨.bin .geq .plain (.t 62) (.t 63), some 64, some (57, false)⟩,
 ⟨.pick (.t 57) (.c (vb true)) (.t 64), some 65, none⟩,
 ⟨.mv (.t 65), some 66, none⟩,
 ⟨.mv (.t 5), some 67, some (66, false)⟩,
 ⟨.bin .gtr .plain (.t 67) (.c (vi .i64 0)), some 68, some (66, false)⟩,
 ⟨.mv (.t 68), some 69, some (66, false)⟩,
 ⟨.faddr 2 (.t 1), some 70, some (69, true)⟩,
 ⟨.load false (.l (.i .i64)) (.t 70), some 71, some (69, true)⟩,
 ⟨.mv (.t 5), some 72, some (69, true)⟩,
 ⟨.bin .sub .plain (.t 72) (.c (vi .i64 1)), some 73, some (69, true)⟩,
 ⟨.iaddr (.i .i64) (.t 71) (.t 73), some 74, some (69, true)⟩,
 ⟨.load false (.i .i64) (.t 74), some 75, some (69, true)⟩,
 ⟨.faddr 2 (.t 1), some 76, some (69, true)⟩,
 ⟨.load false (.l (.i .i64)) (.t 76), some 77, some (69, true)⟩,
 ⟨.mv (.t 5), some 78, some (69, true)⟩,
 ⟨.iaddr (.i .i64) (.t 77) (.t 78), some 79, some (69, true)⟩,
 ⟨.load false (.i .i64) (.t 79), some 80, some (69, true)⟩,
 ⟨.bin .geq .plain (.t 75) (.t 80), some 81, some (69, true)⟩,
 ⟨.pick (.t 69) (.t 81) (.c (vb false)), some 82, some (66, false)⟩,
 ⟨.pick (.t 66) (.c (vb true)) (.t 82), some 83, none⟩])
 (.keep [1, 3, 5, 83] (.cond (.t 83)
 (.seq (.reg false [] [
 ⟨.mv (.c (vb false)), some 2, none⟩])
 (.ret))
 (.skip)))))
 (.keep [1, 3, 5] (.reg false [] [
 ⟨.mv (.t 5), some 49, none⟩,
 ⟨.bin .add .plain (.t 49) (.c (vi .i64 1)), some 50, none⟩,
 ⟨.mv (.t 50), some 5, none⟩])))))))))
 (.keep [1] (.seq (.seq (.reg false [] [
 ⟨.mv (.c (vi .i64 0)), some 6, none⟩])
 (.keep [1, 6] (.block 4 (.loop [1, 6] (.seq (.seq (.reg false [] [
 ⟨.mv (.t 6), some 84, none⟩,
 ⟨.faddr 4 (.t 1), some 85, none⟩,
 ⟨.load false (.l J4) (.t 85), some 86, none⟩,
 ⟨.len false (.t 86), some 87, none⟩,
 ⟨.bin .lss .plain (.t 84) (.t 87), some 88, none⟩])
 (.keep [1, 6, 88] (.cond (.t 88)
 (.skip)
 (.exit 4))))
 (.keep [1, 6] (.seq (.block 5 (.seq (.reg true [] [
 ⟨.load true J3 (.t 1), some 91, none⟩,
 ⟨.faddr 4 (.t 1), some 92, none⟩,
 ⟨.load false (.l J4) (.t 92), some 93, none⟩,
 ⟨.mv (.t 6), some 94, none⟩,
 ⟨.iaddr J4 (.t 93) (.t 94), some 95, none⟩,
 ⟨.load true J4 (.t 95), some 96, none⟩,
 ⟨.call J1G [(.t 91), (.t 96)] 0, some 97, none⟩,
 ⟨.un .not (.t 97), some 98, none⟩])
 (.keep [1, 6, 98] (.cond (.t 98)
 (.seq (.reg false [] [
 ⟨.mv (.c (vb false)), some 2, none⟩])
 (.ret))
 (.skip)))))
 (.keep [1, 6] (.reg false [] [
 ⟨.mv (.t 6), some 89, none⟩,
 ⟨.bin .add .plain (.t 89) (.c (vi .i64 1)), some 90, none⟩,
 ⟨.mv (.t 90), some 6, none⟩])))))))))
 (.keep [] (.seq (.reg false [] [
 ⟨.mv (.c (vb true)), some 2, none⟩])
 (.ret)))))))))))))
def J6y : TFn := ⟨1, 99, JhD, [.tmp 2], false⟩
def Jg0 : TCo := .seq (.reg false [] [
 ⟨.box J3 (.t 0), some 2, none⟩,
 ⟨.box J4 (.t 1), some 3, none⟩,
 ⟨.newboxo J3 [(4, J4)], some 4, none⟩,
 ⟨.mv (.c (vi .i64 0)), some 5, none⟩])
 (.keep [2, 3, 4] (.seq (.block 0 (.seq (.reg false [] [
 ⟨.load true J3 (.t 2), some 8, none⟩,
 ⟨.call J0f [(.t 8)] 0, some 9, none⟩,
 ⟨.un .not (.t 9), some 10, none⟩,
 ⟨.mv (.t 10), some 7, none⟩])
 (.keep [2, 3, 4, 7] (.cond (.t 7)
 (.seq (.reg false [] [
 ⟨.buildo J3 [] [(4, J4)], some 11, none⟩,
 ⟨.store J3 (.t 4) (.t 11), none, none⟩,
 ⟨.mv (.c (vi .i64 15)), some 5, none⟩])
 (.ret))
 (.seq (.reg false [] [
 ⟨.load true J3 (.t 2), some 13, none⟩,
 ⟨.load true J4 (.t 3), some 14, none⟩,
 ⟨.call J1G [(.t 13), (.t 14)] 0, some 15, none⟩,
 ⟨.un .not (.t 15), some 16, none⟩,
 ⟨.mv (.t 16), some 12, none⟩])
 (.keep [2, 3, 4, 12] (.cond (.t 12)
 (.seq (.reg false [] [
 ⟨.buildo J3 [] [(4, J4)], some 17, none⟩,
 ⟨.store J3 (.t 4) (.t 17), none, none⟩,
 ⟨.mv (.c (vi .i64 1)), some 5, none⟩])
 (.ret))
 (.seq (.reg false [] [
 ⟨.faddr 4 (.t 2), some 19, none⟩,
 ⟨.load false (.l J4) (.t 19), some 20, none⟩,
 ⟨.len false (.t 20), some 21, none⟩,
 ⟨.bin .eql .plain (.t 21) (.c (vi .i64 64)), some 22, none⟩,
 ⟨.mv (.t 22), some 18, none⟩])
 (.keep [2, 3, 4, 18] (.cond (.t 18)
 (.seq (.reg false [] [
 ⟨.buildo J3 [] [(4, J4)], some 23, none⟩,
 ⟨.store J3 (.t 4) (.t 23), none, none⟩,
 ⟨.mv (.c (vi .i64 21)), some 5, none⟩])
 (.ret))
 (.skip)))))))))))
 (.keep [2, 3, 4] (.seq (.reg false [] [
 ⟨.load true J3 (.t 2), some 24, none⟩,
 ⟨.callo JR [((.t 24), false)] 2, some 25, none⟩,
 ⟨.newboxo J3 [(4, J4)], some 6, none⟩,
 ⟨.store J3 (.t 6) (.t 25), none, none⟩])
 (.keep [3, 4, 6] (.seq (.reg false [] [
 ⟨.faddr 4 (.t 6), some 26, none⟩,
 ⟨.load false (.l J4) (.t 26), some 27, none⟩,
 ⟨.load true J4 (.t 3), some 28, none⟩,
 ⟨.lits false J4 1 [(0, (.t 28))], some 29, none⟩,
 ⟨.app J4 48 (.t 27) (.t 29), some 30, none⟩,
 ⟨.faddr 4 (.t 6), some 31, none⟩,
 ⟨.store (.l J4) (.t 31) (.t 30), none, none⟩])
 (.keep [4, 6] (.seq (.reg false [] [
 ⟨.load true J3 (.t 6), some 32, none⟩,
 ⟨.store J3 (.t 4) (.t 32), none, none⟩,
 ⟨.mv (.c (vi .i64 0)), some 5, none⟩])
 (.ret)))))))))
def J5M : TFn := ⟨2, 33, Jg0, [.cell 4 true J3, .tmp 5], false⟩
def Jgd : TCo := .seq (.reg false [] [
 ⟨.mv (.c (vl .s [])), some 2, none⟩])
 (.keep [0] (.seq (.reg false [] [
 ⟨.mkarr .s (.c (vl .s [])), some 3, none⟩])
 (.keep [0, 3] (.seq (.seq (.reg false [] [
 ⟨.mv (.c (vi .i64 0)), some 4, none⟩])
 (.keep [0, 3, 4] (.block 0 (.loop [0, 3, 4] (.seq (.seq (.reg false [] [
 ⟨.mv (.t 4), some 5, none⟩,
 ⟨.mv (.t 0), some 6, none⟩,
 ⟨.bin .lss .plain (.t 5) (.t 6), some 7, none⟩])
 (.keep [0, 3, 4, 7] (.cond (.t 7)
 (.skip)
 (.exit 0))))
 (.keep [0, 3, 4] (.seq (.block 1 (.reg false [] [
 ⟨.mv (.t 3), some 10, none⟩,
 ⟨.mkslice false (.i .u8) 1 (.c (vi .i64 256)) (.c (vi .i64 256)), some 11, none⟩,
 ⟨.conv .toStr (.t 11), some 12, none⟩,
 ⟨.lits false .s 1 [(0, (.t 12))], some 13, none⟩,
 ⟨.app .s 16 (.t 10) (.t 13), some 14, none⟩,
 ⟨.mv (.t 14), some 3, none⟩]))
 (.keep [0, 3, 4] (.reg false [] [
 ⟨.mv (.t 4), some 8, none⟩,
 ⟨.bin .add .plain (.t 8) (.c (vi .i64 1)), some 9, none⟩,
 ⟨.mv (.t 9), some 4, none⟩])))))))))
 (.keep [3] (.seq (.reg false [] [
 ⟨.mv (.t 3), some 15, none⟩,
 ⟨.mv (.t 15), some 2, none⟩])
 (.ret)))))))
def J5H : TFn := ⟨1, 16, Jgd, [.tmp 2], false⟩
def JkJ : TCo := .seq (.reg false [] [
 ⟨.newbox J3, some 2, none⟩,
 ⟨.mv (.c (vi .i64 0)), some 3, none⟩])
 (.keep [0, 2] (.seq (.seq (.reg false [] [
 ⟨.mv (.t 0), some 4, none⟩,
 ⟨.bin .lss .plain (.t 4) (.c (vi .i64 1)), some 5, none⟩,
 ⟨.mv (.t 5), some 6, none⟩,
 ⟨.mv (.t 0), some 7, some (6, false)⟩,
 ⟨.bin .gtr .plain (.t 7) (.c (vi .i64 64)), some 8, some (6, false)⟩,
 ⟨.pick (.t 6) (.c (vb true)) (.t 8), some 9, none⟩])
 (.keep [0, 2, 9] (.cond (.t 9)
 (.seq (.reg false [] [
 ⟨.build J3 [], some 10, none⟩,
 ⟨.store J3 (.t 2) (.t 10), none, none⟩,
 ⟨.mv (.c (vi .i64 1)), some 3, none⟩])
 (.ret))
 (.skip))))
 (.keep [0, 2] (.seq (.reg false [] [
 ⟨.mv (.t 0), some 11, none⟩,
 ⟨.call J1s [(.t 11)] 0, some 12, none⟩,
 ⟨.build J3 [(0, (.l .s), (.t 12))], some 13, none⟩,
 ⟨.store J3 (.t 2) (.t 13), none, none⟩,
 ⟨.mv (.c (vi .i64 0)), some 3, none⟩])
 (.ret)))))
def J85 : TFn := ⟨1, 14, JkJ, [.cell 2 true J3, .tmp 3], false⟩
def JkF : TCo := .seq (.reg false [] [
 ⟨.mv (.c (vb false)), some 4, none⟩])
 (.keep [0, 1] (.seq (.seq (.reg false [] [
 ⟨.mv (.c (vi .i64 0)), some 5, none⟩])
 (.keep [0, 1, 5] (.block 0 (.loop [0, 1, 5] (.seq (.seq (.reg false [] [
 ⟨.mv (.t 5), some 6, none⟩,
 ⟨.mv (.t 0), some 7, none⟩,
 ⟨.len false (.t 7), some 8, none⟩,
 ⟨.bin .lss .plain (.t 6) (.t 8), some 9, none⟩])
 (.keep [0, 1, 5, 9] (.cond (.t 9)
 (.skip)
 (.exit 0))))
 (.keep [0, 1, 5] (.seq (.block 1 (.seq (.reg false [] [
 ⟨.mv (.t 0), some 12, none⟩,
 ⟨.mv (.t 5), some 13, none⟩,
 ⟨.iaddr (.i .i64) (.t 12) (.t 13), some 14, none⟩,
 ⟨.load false (.i .i64) (.t 14), some 15, none⟩,
 ⟨.mv (.t 1), some 16, none⟩,
 ⟨.bin .eql .plain (.t 15) (.t 16), some 17, none⟩])
 (.keep [0, 1, 5, 17] (.cond (.t 17)
 (.seq (.reg false [] [
 ⟨.mv (.c (vb true)), some 4, none⟩])
 (.ret))
 (.skip)))))
 (.keep [0, 1, 5] (.reg false [] [
 ⟨.mv (.t 5), some 10, none⟩,
 ⟨.bin .add .plain (.t 10) (.c (vi .i64 1)), some 11, none⟩,
 ⟨.mv (.t 11), some 5, none⟩])))))))))
 (.keep [] (.seq (.reg false [] [
 ⟨.mv (.c (vb false)), some 4, none⟩])
 (.ret)))))
def J82 : TFn := ⟨2, 18, JkF, [.tmp 4], false⟩
def Jgp : TCo := .seq (.reg false [] [
 ⟨.box J3 (.t 0), some 2, none⟩,
 ⟨.mv (.c (vi .i64 0)), some 4, none⟩])
 (.keep [1, 2] (.seq (.block 0 (.seq (.reg false [] [
 ⟨.load true J3 (.t 2), some 6, none⟩,
 ⟨.call J0f [(.t 6)] 0, some 7, none⟩,
 ⟨.un .not (.t 7), some 8, none⟩,
 ⟨.mv (.t 8), some 5, none⟩])
 (.keep [1, 2, 5] (.cond (.t 5)
 (.seq (.reg false [] [
 ⟨.mv (.c (vi .i64 15)), some 4, none⟩])
 (.ret))
 (.seq (.reg false [] [
 ⟨.faddr 3 (.t 2), some 10, none⟩,
 ⟨.load false .b (.t 10), some 11, none⟩,
 ⟨.mv (.t 11), some 9, none⟩])
 (.keep [1, 2, 9] (.cond (.t 9)
 (.seq (.reg false [] [
 ⟨.mv (.c (vi .i64 10)), some 4, none⟩])
 (.ret))
 (.seq (.reg false [] [
 ⟨.mv (.t 1), some 13, none⟩,
 ⟨.bin .lss .plain (.t 13) (.c (vi .i64 0)), some 14, none⟩,
 ⟨.mv (.t 14), some 15, none⟩,
 ⟨.mv (.t 1), some 16, some (15, false)⟩,
 ⟨.faddr 0 (.t 2), some 17, some (15, false)⟩,
 ⟨.load false (.l .s) (.t 17), some 18, some (15, false)⟩,
 ⟨.len false (.t 18), some 19, some (15, false)⟩,
 ⟨.bin .geq .plain (.t 16) (.t 19), some 20, some (15, false)⟩,
 ⟨.pick (.t 15) (.c (vb true)) (.t 20), some 21, none⟩,
 ⟨.mv (.t 21), some 12, none⟩])
 (.keep [12] (.cond (.t 12)
 (.seq (.reg false [] [
 ⟨.mv (.c (vi .i64 1)), some 4, none⟩])
 (.ret))
 (.skip)))))))))))
 (.keep [] (.seq (.reg false [] [
 ⟨.mv (.c (vi .i64 0)), some 4, none⟩])
 (.ret)))))
def J5S : TFn := ⟨2, 22, Jgp, [.tmp 4], false⟩
def Jj6 : TCo := .seq (.reg false [] [
 ⟨.box J3 (.t 0), some 2, none⟩,
 ⟨.mv (.c (vs [])), some 4, none⟩,
 ⟨.mv (.c (vi .i64 0)), some 5, none⟩])
 (.keep [1, 2] (.seq (.seq (.reg false [] [
 ⟨.load true J3 (.t 2), some 7, none⟩,
 ⟨.mv (.t 1), some 8, none⟩,
 ⟨.call J0y [(.t 7), (.t 8)] 0, some 9, none⟩,
 ⟨.mv (.t 9), some 6, none⟩])
 (.keep [1, 2, 6] (.seq (.reg false [] [
 ⟨.mv (.t 6), some 10, none⟩,
 ⟨.bin .neq .plain (.t 10) (.c (vi .i64 0)), some 11, none⟩])
 (.keep [1, 2, 6, 11] (.cond (.t 11)
 (.seq (.reg false [] [
 ⟨.mv (.t 6), some 12, none⟩,
 ⟨.mv (.c (vs [])), some 4, none⟩,
 ⟨.mv (.t 12), some 5, none⟩])
 (.ret))
 (.skip))))))
 (.keep [1, 2] (.seq (.seq (.reg false [] [
 ⟨.faddr 2 (.t 2), some 13, none⟩,
 ⟨.load false (.l (.i .i64)) (.t 13), some 14, none⟩,
 ⟨.mv (.t 1), some 15, none⟩,
 ⟨.call J4j [(.t 14), (.t 15)] 0, some 16, none⟩])
 (.keep [1, 2, 16] (.cond (.t 16)
 (.seq (.reg false [] [
 ⟨.mv (.c (vs [])), some 4, none⟩,
 ⟨.mv (.c (vi .i64 11)), some 5, none⟩])
 (.ret))
 (.skip))))
 (.keep [1, 2] (.seq (.reg false [] [
 ⟨.faddr 0 (.t 2), some 17, none⟩,
 ⟨.load false (.l .s) (.t 17), some 18, none⟩,
 ⟨.mv (.t 1), some 19, none⟩,
 ⟨.iaddr .s (.t 18) (.t 19), some 20, none⟩,
 ⟨.load false .s (.t 20), some 21, none⟩,
 ⟨.mv (.t 21), some 4, none⟩,
 ⟨.mv (.c (vi .i64 0)), some 5, none⟩])
 (.ret)))))))
def J7m : TFn := ⟨2, 22, Jj6, [.tmp 4, .tmp 5], false⟩
def Jfy : TCo := .seq (.reg false [] [
 ⟨.mv (.c (vl (.i .i64) [])), some 4, none⟩])
 (.keep [0, 1] (.seq (.reg false [] [
 ⟨.mkarr (.i .i64) (.c (vl (.i .i64) [])), some 5, none⟩])
 (.keep [0, 1, 5] (.seq (.seq (.reg false [] [
 ⟨.mv (.c (vi .i64 0)), some 6, none⟩])
 (.keep [0, 1, 5, 6] (.block 0 (.loop [0, 1, 5, 6] (.seq (.seq (.reg false [] [
 ⟨.mv (.t 6), some 7, none⟩,
 ⟨.mv (.t 0), some 8, none⟩,
 ⟨.len false (.t 8), some 9, none⟩,
 ⟨.bin .lss .plain (.t 7) (.t 9), some 10, none⟩])
 (.keep [0, 1, 5, 6, 10] (.cond (.t 10)
 (.skip)
 (.exit 0))))
 (.keep [0, 1, 5, 6] (.seq (.block 1 (.seq (.reg false [] [
 ⟨.mv (.t 0), some 13, none⟩,
 ⟨.mv (.t 6), some 14, none⟩,
 ⟨.iaddr (.i .i64) (.t 13) (.t 14), some 15, none⟩,
 ⟨.load false (.i .i64) (.t 15), some 16, none⟩,
 ⟨.mv (.t 1), some 17, none⟩,
 ⟨.bin .neq .plain (.t 16) (.t 17), some 18, none⟩])
 (.keep [0, 1, 5, 6, 18] (.cond (.t 18)
 (.reg false [] [
 ⟨.mv (.t 5), some 19, none⟩,
 ⟨.mv (.t 0), some 20, none⟩,
 ⟨.mv (.t 6), some 21, none⟩,
 ⟨.iaddr (.i .i64) (.t 20) (.t 21), some 22, none⟩,
 ⟨.load false (.i .i64) (.t 22), some 23, none⟩,
 ⟨.lits false (.i .i64) 1 [(0, (.t 23))], some 24, none⟩,
 ⟨.app (.i .i64) 8 (.t 19) (.t 24), some 25, none⟩,
 ⟨.mv (.t 25), some 5, none⟩])
 (.skip)))))
 (.keep [0, 1, 5, 6] (.reg false [] [
 ⟨.mv (.t 6), some 11, none⟩,
 ⟨.bin .add .plain (.t 11) (.c (vi .i64 1)), some 12, none⟩,
 ⟨.mv (.t 12), some 6, none⟩])))))))))
 (.keep [5] (.seq (.reg false [] [
 ⟨.mv (.t 5), some 26, none⟩,
 ⟨.mv (.t 26), some 4, none⟩])
 (.ret)))))))
def J5f : TFn := ⟨2, 27, Jfy, [.tmp 4], false⟩
def JhM : TCo := .seq (.reg false [] [
 ⟨.box J3 (.t 0), some 4, none⟩,
 ⟨.newbox J3, some 8, none⟩])
 (.keep [1, 2, 3, 4, 8] (.seq (.reg true [] [
 ⟨.faddr 0 (.t 4), some 9, none⟩,
 ⟨.load false (.l .s) (.t 9), some 10, none⟩,
 ⟨.mv (.t 1), some 11, none⟩,
 ⟨.mv (.t 2), some 12, none⟩,
 ⟨.mv (.t 3), some 13, none⟩,
 ⟨.slice .str (.t 12) none (some (.t 13)) none, some 14, none⟩,
 ⟨.faddr 0 (.t 4), some 15, none⟩,
 ⟨.load false (.l .s) (.t 15), some 16, none⟩,
 ⟨.mv (.t 1), some 17, none⟩,
 ⟨.iaddr .s (.t 16) (.t 17), some 18, none⟩,
 ⟨.load false .s (.t 18), some 19, none⟩,
 ⟨.mv (.t 3), some 20, none⟩,
 ⟨.slice .str (.t 19) (some (.t 20)) none none, some 21, none⟩,
 ⟨.bin .add .plain (.t 14) (.t 21), some 22, none⟩,
 ⟨.iaddr .s (.t 10) (.t 11), some 23, none⟩,
 ⟨.store .s (.t 23) (.t 22), none, none⟩])
 (.keep [1, 4, 8] (.seq (.reg false [] [
 ⟨.faddr 2 (.t 4), some 24, none⟩,
 ⟨.load false (.l (.i .i64)) (.t 24), some 25, none⟩,
 ⟨.mv (.t 1), some 26, none⟩,
 ⟨.call J2m [(.t 25), (.t 26)] 0, some 27, none⟩,
 ⟨.faddr 2 (.t 4), some 28, none⟩,
 ⟨.store (.l (.i .i64)) (.t 28) (.t 27), none, none⟩])
 (.keep [4, 8] (.seq (.reg false [] [
 ⟨.load true J3 (.t 4), some 29, none⟩,
 ⟨.store J3 (.t 8) (.t 29), none, none⟩])
 (.ret)))))))
def J6E : TFn := ⟨4, 30, JhM, [.cell 8 true J3], true⟩
def JjC : TCo := .seq (.reg false [] [
 ⟨.mv (.c (vl (.i .i64) [])), some 4, none⟩])
 (.keep [0, 1] (.seq (.reg false [] [
 ⟨.mkarr (.i .i64) (.c (vl (.i .i64) [])), some 5, none⟩])
 (.keep [0, 1, 5] (.seq (.reg false [] [
 ⟨.mv (.c (vb false)), some 6, none⟩])
 (.keep [0, 1, 5, 6] (.seq (.seq (.reg false [] [
 ⟨.mv (.c (vi .i64 0)), some 7, none⟩])
 (.keep [0, 1, 5, 6, 7] (.block 0 (.loop [0, 1, 5, 6, 7] (.seq (.seq (.reg false [] [
 ⟨.mv (.t 7), some 8, none⟩,
 ⟨.mv (.t 0), some 9, none⟩,
 ⟨.len false (.t 9), some 10, none⟩,
 ⟨.bin .lss .plain (.t 8) (.t 10), some 11, none⟩])
 (.keep [0, 1, 5, 6, 7, 11] (.cond (.t 11)
 (.skip)
 (.exit 0))))
 (.keep [0, 1, 5, 6, 7] (.seq (.block 1 (.seq (.seq (.reg false [] [
 ⟨.mv (.t 6), some 14, none⟩,
 ⟨.un .not (.t 14), some 15, none⟩,
 ⟨.mv (.t 15), some 16, none⟩,
 ⟨.mv (.t 0), some 17, some (16, true)⟩,
 ⟨.mv (.t 7), some 18, some (16, true)⟩,
 ⟨.iaddr (.i .i64) (.t 17) (.t 18), some 19, some (16, true)⟩,
 ⟨.load false (.i .i64) (.t 19), some 20, some (16, true)⟩,
 ⟨.mv (.t 1), some 21, some (16, true)⟩,
 ⟨.bin .geq .plain (.t 20) (.t 21), some 22, some (16, true)⟩,
 ⟨.pick (.t 16) (.t 22) (.c (vb false)), some 23, none⟩])
 (.keep [0, 1, 5, 6, 7, 23] (.cond (.t 23)
 (.seq (.reg false [] [
 ⟨.mv (.t 5), some 24, none⟩,
 ⟨.mv (.t 1), some 25, none⟩,
 ⟨.lits false (.i .i64) 1 [(0, (.t 25))], some 26, none⟩,
 ⟨.app (.i .i64) 8 (.t 24) (.t 26), some 27, none⟩,
 ⟨.mv (.t 27), some 5, none⟩])
 (.keep [0, 1, 5, 7] (.reg false [] [
 ⟨.mv (.c (vb true)), some 6, none⟩])))
 (.skip))))
 (.keep [0, 1, 5, 6, 7] (.seq (.reg false [] [
 ⟨.mv (.t 0), some 28, none⟩,
 ⟨.mv (.t 7), some 29, none⟩,
 ⟨.iaddr (.i .i64) (.t 28) (.t 29), some 30, none⟩,
 ⟨.load false (.i .i64) (.t 30), some 31, none⟩,
 ⟨.mv (.t 1), some 32, none⟩,
 ⟨.bin .neq .plain (.t 31) (.t 32), some 33, none⟩])
 (.keep [0, 1, 5, 6, 7, 33] (.cond (.t 33)
 (.reg false [] [
 ⟨.mv (.t 5), some 34, none⟩,
 ⟨.mv (.t 0), some 35, none⟩,
 ⟨.mv (.t 7), some 36, none⟩,
 ⟨.iaddr (.i .i64) (.t 35) (.t 36), some 37, none⟩,
 ⟨.load false (.i .i64) (.t 37), some 38, none⟩,
 ⟨.lits false (.i .i64) 1 [(0, (.t 38))], some 39, none⟩,
 ⟨.app (.i .i64) 8 (.t 34) (.t 39), some 40, none⟩,
 ⟨.mv (.t 40), some 5, none⟩])
 (.skip)))))))
 (.keep [0, 1, 5, 6, 7] (.reg false [] [
 ⟨.mv (.t 7), some 12, none⟩,
 ⟨.bin .add .plain (.t 12) (.c (vi .i64 1)), some 13, none⟩,
 ⟨.mv (.t 13), some 7, none⟩])))))))))
 (.keep [1, 5, 6] (.seq (.seq (.reg false [] [
 ⟨.mv (.t 6), some 41, none⟩,
 ⟨.un .not (.t 41), some 42, none⟩])
 (.keep [1, 5, 42] (.cond (.t 42)
 (.reg false [] [
 ⟨.mv (.t 5), some 43, none⟩,
 ⟨.mv (.t 1), some 44, none⟩,
 ⟨.lits false (.i .i64) 1 [(0, (.t 44))], some 45, none⟩,
 ⟨.app (.i .i64) 8 (.t 43) (.t 45), some 46, none⟩,
 ⟨.mv (.t 46), some 5, none⟩])
 (.skip))))
 (.keep [5] (.seq (.reg false [] [
 ⟨.mv (.t 5), some 47, none⟩,
 ⟨.mv (.t 47), some 4, none⟩])
 (.ret)))))))))))
def J7l : TFn := ⟨2, 48, JjC, [.tmp 4], false⟩
def JhA : TCo := .seq (.reg false [] [
 ⟨.box J3 (.t 0), some 3, none⟩,
 ⟨.newboxo J3 [(4, J4)], some 6, none⟩,
 ⟨.mv (.c (vi .i64 0)), some 7, none⟩])
 (.keep [1, 2, 3, 6] (.seq (.seq (.reg false [] [
 ⟨.load true J3 (.t 3), some 17, none⟩,
 ⟨.mv (.t 1), some 18, none⟩,
 ⟨.call J0y [(.t 17), (.t 18)] 0, some 19, none⟩,
 ⟨.mv (.t 19), some 8, none⟩])
 (.keep [1, 2, 3, 6, 8] (.seq (.reg false [] [
 ⟨.mv (.t 8), some 20, none⟩,
 ⟨.bin .neq .plain (.t 20) (.c (vi .i64 0)), some 21, none⟩])
 (.keep [1, 2, 3, 6, 8, 21] (.cond (.t 21)
 (.seq (.reg false [] [
 ⟨.buildo J3 [] [(4, J4)], some 22, none⟩,
 ⟨.mv (.t 8), some 23, none⟩,
 ⟨.store J3 (.t 6) (.t 22), none, none⟩,
 ⟨.mv (.t 23), some 7, none⟩])
 (.ret))
 (.skip))))))
 (.keep [1, 2, 3, 6] (.seq (.seq (.reg false [] [
 ⟨.mv (.t 2), some 24, none⟩,
 ⟨.len true (.t 24), some 25, none⟩,
 ⟨.bin .neq .plain (.t 25) (.c (vi .i64 256)), some 26, none⟩])
 (.keep [1, 2, 3, 6, 26] (.cond (.t 26)
 (.seq (.reg false [] [
 ⟨.buildo J3 [] [(4, J4)], some 27, none⟩,
 ⟨.store J3 (.t 6) (.t 27), none, none⟩,
 ⟨.mv (.c (vi .i64 2)), some 7, none⟩])
 (.ret))
 (.skip))))
 (.keep [1, 2, 3, 6] (.seq (.seq (.reg false [] [
 ⟨.faddr 1 (.t 3), some 28, none⟩,
 ⟨.load false (.i .i64) (.t 28), some 29, none⟩,
 ⟨.bin .eql .plain (.t 29) (.c (vi .i64 1099511627776)), some 30, none⟩])
 (.keep [1, 2, 3, 6, 30] (.cond (.t 30)
 (.seq (.reg false [] [
 ⟨.buildo J3 [] [(4, J4)], some 31, none⟩,
 ⟨.store J3 (.t 6) (.t 31), none, none⟩,
 ⟨.mv (.c (vi .i64 21)), some 7, none⟩])
 (.ret))
 (.skip))))
 (.keep [1, 2, 3, 6] (.seq (.reg false [] [
 ⟨.load true J3 (.t 3), some 32, none⟩,
 ⟨.callo JR [((.t 32), false)] 2, some 33, none⟩,
 ⟨.newboxo J3 [(4, J4)], some 9, none⟩,
 ⟨.store J3 (.t 9) (.t 33), none, none⟩])
 (.keep [1, 2, 3, 6, 9] (.seq (.reg false [] [
 ⟨.faddr 1 (.t 9), some 34, none⟩,
 ⟨.load false (.i .i64) (.t 34), some 35, none⟩,
 ⟨.bin .add .plain (.t 35) (.c (vi .i64 1)), some 36, none⟩,
 ⟨.faddr 1 (.t 9), some 37, none⟩,
 ⟨.store (.i .i64) (.t 37) (.t 36), none, none⟩])
 (.keep [1, 2, 3, 6, 9] (.seq (.reg false [] [
 ⟨.mkarr J4 (.c (vl J4 [])), some 10, none⟩])
 (.keep [1, 2, 3, 6, 9, 10] (.seq (.reg false [] [
 ⟨.faddr 4 (.t 9), some 38, none⟩,
 ⟨.storen J4 (.t 38), none, none⟩])
 (.keep [1, 2, 3, 6, 9, 10] (.seq (.seq (.reg false [] [
 ⟨.mv (.c (vi .i64 0)), some 11, none⟩])
 (.keep [1, 2, 3, 6, 9, 10, 11] (.block 0 (.loop [1, 2, 3, 6, 9, 10, 11] (.seq (.seq (.reg false [] [
 ⟨.mv (.t 11), some 39, none⟩,
 ⟨.faddr 4 (.t 3), some 40, none⟩,
 ⟨.load false (.l J4) (.t 40), some 41, none⟩,
 ⟨.len false (.t 41), some 42, none⟩,
 ⟨.bin .lss .plain (.t 39) (.t 42), some 43, none⟩])
 (.keep [1, 2, 3, 6, 9, 10, 11, 43] (.cond (.t 43)
 (.skip)
 (.exit 0))))
 (.keep [1, 2, 3, 6, 9, 10, 11] (.seq (.block 1 (.seq (.reg true [] [
 ⟨.faddr 4 (.t 3), some 46, none⟩,
 ⟨.load false (.l J4) (.t 46), some 47, none⟩,
 ⟨.mv (.t 11), some 48, none⟩,
 ⟨.iaddr J4 (.t 47) (.t 48), some 49, none⟩,
 ⟨.faddr 1 (.t 49), some 50, none⟩,
 ⟨.load false (.i .i64) (.t 50), some 51, none⟩,
 ⟨.faddr 1 (.t 9), some 52, none⟩,
 ⟨.load false (.i .i64) (.t 52), some 53, none⟩,
 ⟨.bin .eql .plain (.t 51) (.t 53), some 54, none⟩])
 (.keep [1, 2, 3, 6, 9, 10, 11, 54] (.cond (.t 54)
 (.reg false [] [
 ⟨.mv (.t 10), some 55, none⟩,
 ⟨.faddr 4 (.t 3), some 56, none⟩,
 ⟨.load false (.l J4) (.t 56), some 57, none⟩,
 ⟨.mv (.t 11), some 58, none⟩,
 ⟨.iaddr J4 (.t 57) (.t 58), some 59, none⟩,
 ⟨.load true J4 (.t 59), some 60, none⟩,
 ⟨.lits false J4 1 [(0, (.t 60))], some 61, none⟩,
 ⟨.app J4 48 (.t 55) (.t 61), some 62, none⟩,
 ⟨.mv (.t 62), some 10, none⟩])
 (.reg true [(1, 7)] [
 ⟨.faddr 4 (.t 9), some 63, none⟩,
 ⟨.load false (.l J4) (.t 63), some 64, none⟩,
 ⟨.faddr 4 (.t 3), some 65, none⟩,
 ⟨.load false (.l J4) (.t 65), some 66, none⟩,
 ⟨.mv (.t 11), some 67, none⟩,
 ⟨.iaddr J4 (.t 66) (.t 67), some 68, none⟩,
 ⟨.load true J4 (.t 68), some 69, none⟩,
 ⟨.lits false J4 1 [(0, (.t 69))], some 70, none⟩,
 ⟨.app J4 48 (.t 64) (.t 70), some 71, none⟩,
 ⟨.faddr 4 (.t 9), some 72, none⟩,
 ⟨.store (.l J4) (.t 72) (.t 71), none, none⟩])))))
 (.keep [1, 2, 3, 6, 9, 10, 11] (.reg false [] [
 ⟨.mv (.t 11), some 44, none⟩,
 ⟨.bin .add .plain (.t 44) (.c (vi .i64 1)), some 45, none⟩,
 ⟨.mv (.t 45), some 11, none⟩])))))))))
 (.keep [1, 2, 6, 9, 10] (.seq (.reg false [] [
 ⟨.mv (.c (vb false)), some 12, none⟩])
 (.keep [1, 2, 6, 9, 10, 12] (.seq (.seq (.reg false [] [
 ⟨.mv (.c (vi .i64 0)), some 13, none⟩])
 (.keep [1, 2, 6, 9, 10, 12, 13] (.block 2 (.loop [1, 2, 6, 9, 10, 12, 13] (.seq (.seq (.reg false [] [
 ⟨.mv (.t 13), some 73, none⟩,
 ⟨.mv (.t 10), some 74, none⟩,
 ⟨.len false (.t 74), some 75, none⟩,
 ⟨.bin .lss .plain (.t 73) (.t 75), some 76, none⟩,
 ⟨.mv (.t 76), some 77, none⟩,
 ⟨.mv (.t 12), some 78, some (77, true)⟩,
 ⟨.un .not (.t 78), some 79, some (77, true)⟩,
 ⟨.pick (.t 77) (.t 79) (.c (vb false)), some 80, none⟩])
 (.keep [1, 2, 6, 9, 10, 12, 13, 80] (.cond (.t 80)
 (.skip)
 (.exit 2))))
 (.keep [1, 2, 6, 9, 10, 12, 13] (.seq (.block 3 (.seq (.reg false [] [
 ⟨.mv (.t 10), some 83, none⟩,
 ⟨.mv (.t 13), some 84, none⟩,
 ⟨.iaddr J4 (.t 83) (.t 84), some 85, none⟩,
 ⟨.faddr 0 (.t 85), some 86, none⟩,
 ⟨.load false (.i .i64) (.t 86), some 87, none⟩])
 (.keep [1, 2, 6, 9, 10, 12, 13, 87] (.block 4 (.seq (.reg false [] [
 ⟨.bin .eql .plain (.t 87) (.c (vi .i64 1)), some 89, none⟩,
 ⟨.mv (.t 89), some 88, none⟩])
 (.keep [1, 2, 6, 9, 10, 12, 13, 87, 88] (.cond (.t 88)
 (.reg false [] [
 ⟨.mv (.c (vb true)), some 12, none⟩])
 (.seq (.reg false [] [
 ⟨.bin .eql .plain (.t 87) (.c (vi .i64 2)), some 91, none⟩,
 ⟨.mv (.t 91), some 90, none⟩])
 (.keep [1, 2, 6, 9, 10, 12, 13, 87, 90] (.cond (.t 90)
 (.seq (.reg true [] [
 ⟨.load true J3 (.t 9), some 92, none⟩,
 ⟨.mv (.t 10), some 93, none⟩,
 ⟨.mv (.t 13), some 94, none⟩,
 ⟨.iaddr J4 (.t 93) (.t 94), some 95, none⟩,
 ⟨.faddr 3 (.t 95), some 96, none⟩,
 ⟨.load false (.i .i64) (.t 96), some 97, none⟩,
 ⟨.mv (.t 2), some 98, none⟩,
 ⟨.callo J13 [((.t 92), true), ((.t 97), false), ((.t 98), false), ((.c (vi .i64 256)), false)] 0, some 99, none⟩,
 ⟨.store J3 (.t 9) (.t 99), none, none⟩])
 (.keep [1, 2, 6, 9, 10, 13] (.reg false [] [
 ⟨.mv (.c (vb true)), some 12, none⟩])))
 (.seq (.reg false [] [
 ⟨.bin .eql .plain (.t 87) (.c (vi .i64 3)), some 101, none⟩,
 ⟨.mv (.t 101), some 100, none⟩])
 (.keep [1, 2, 6, 9, 10, 12, 13, 100] (.cond (.t 100)
 (.seq (.reg true [] [
 ⟨.load true J3 (.t 9), some 102, none⟩,
 ⟨.mv (.t 1), some 103, none⟩,
 ⟨.mv (.t 2), some 104, none⟩,
 ⟨.mv (.t 10), some 105, none⟩,
 ⟨.mv (.t 13), some 106, none⟩,
 ⟨.iaddr J4 (.t 105) (.t 106), some 107, none⟩,
 ⟨.faddr 4 (.t 107), some 108, none⟩,
 ⟨.load false (.i .i64) (.t 108), some 109, none⟩,
 ⟨.callo J13 [((.t 102), true), ((.t 103), false), ((.t 104), false), ((.t 109), false)] 0, some 110, none⟩,
 ⟨.store J3 (.t 9) (.t 110), none, none⟩])
 (.keep [1, 2, 6, 9, 10, 13] (.reg false [] [
 ⟨.mv (.c (vb true)), some 12, none⟩])))
 (.skip))))))))))))))
 (.keep [1, 2, 6, 9, 10, 12, 13] (.reg false [] [
 ⟨.mv (.t 13), some 81, none⟩,
 ⟨.bin .add .plain (.t 81) (.c (vi .i64 1)), some 82, none⟩,
 ⟨.mv (.t 82), some 13, none⟩])))))))))
 (.keep [1, 2, 6, 9, 10, 12] (.seq (.seq (.reg false [] [
 ⟨.mv (.t 12), some 111, none⟩,
 ⟨.un .not (.t 111), some 112, none⟩])
 (.keep [1, 2, 6, 9, 10, 112] (.cond (.t 112)
 (.reg false [] [
 ⟨.load true J3 (.t 9), some 113, none⟩,
 ⟨.mv (.t 1), some 114, none⟩,
 ⟨.mv (.t 2), some 115, none⟩,
 ⟨.callo J13 [((.t 113), true), ((.t 114), false), ((.t 115), false), ((.c (vi .i64 256)), false)] 0, some 116, none⟩,
 ⟨.store J3 (.t 9) (.t 116), none, none⟩])
 (.skip))))
 (.keep [6, 9, 10] (.seq (.tidy [6, 7, 9] (.seq (.reg false [] [
 ⟨.mv (.c (vi .i64 0)), some 14, none⟩])
 (.keep [6, 9, 10, 14] (.block 5 (.loop [6, 9, 10, 14] (.seq (.seq (.reg false [] [
 ⟨.mv (.t 14), some 117, none⟩,
 ⟨.mv (.t 10), some 118, none⟩,
 ⟨.len false (.t 118), some 119, none⟩,
 ⟨.bin .lss .plain (.t 117) (.t 119), some 120, none⟩])
 (.keep [6, 9, 10, 14, 120] (.cond (.t 120)
 (.skip)
 (.exit 5))))
 (.keep [6, 9, 10, 14] (.seq (.tidy [6, 7, 9, 10, 14] (.block 6 (.seq (.reg false [] [
 ⟨.mv (.t 10), some 123, none⟩,
 ⟨.mv (.t 14), some 124, none⟩,
 ⟨.iaddr J4 (.t 123) (.t 124), some 125, none⟩,
 ⟨.load true J4 (.t 125), some 126, none⟩,
 ⟨.newbox J4, some 15, none⟩,
 ⟨.store J4 (.t 15) (.t 126), none, none⟩])
 (.keep [6, 9, 10, 14, 15] (.seq (.reg false [] [
 ⟨.faddr 0 (.t 15), some 127, none⟩,
 ⟨.load false (.i .i64) (.t 127), some 128, none⟩])
 (.keep [6, 9, 10, 14, 15, 128] (.block 7 (.seq (.reg false [] [
 ⟨.bin .eql .plain (.t 128) (.c (vi .i64 4)), some 130, none⟩,
 ⟨.mv (.t 130), some 129, none⟩])
 (.keep [6, 9, 10, 14, 15, 128, 129] (.cond (.t 129)
 (.seq (.reg false [] [
 ⟨.faddr 0 (.t 9), some 131, none⟩,
 ⟨.load false (.l .s) (.t 131), some 132, none⟩,
 ⟨.faddr 2 (.t 15), some 133, none⟩,
 ⟨.load false (.i .i64) (.t 133), some 134, none⟩,
 ⟨.iaddr .s (.t 132) (.t 134), some 135, none⟩,
 ⟨.load false .s (.t 135), some 136, none⟩,
 ⟨.conv (.toBytes true) (.t 136), some 137, none⟩,
 ⟨.mv (.t 137), some 16, none⟩])
 (.keep [6, 9, 10, 14, 15, 16] (.seq (.reg true [] [
 ⟨.mv (.t 16), some 138, none⟩,
 ⟨.faddr 4 (.t 15), some 139, none⟩,
 ⟨.load false (.i .i64) (.t 139), some 140, none⟩,
 ⟨.iaddr (.i .u8) (.t 138) (.t 140), some 141, none⟩,
 ⟨.load false (.i .u8) (.t 141), some 142, none⟩,
 ⟨.faddr 5 (.t 15), some 143, none⟩,
 ⟨.load false (.i .u8) (.t 143), some 144, none⟩,
 ⟨.bin .xor .plain (.t 142) (.t 144), some 145, none⟩,
 ⟨.iaddr (.i .u8) (.t 138) (.t 140), some 146, none⟩,
 ⟨.store (.i .u8) (.t 146) (.t 145), none, none⟩])
 (.keep [6, 9, 10, 14, 15, 16] (.reg false [] [
 ⟨.faddr 0 (.t 9), some 147, none⟩,
 ⟨.load false (.l .s) (.t 147), some 148, none⟩,
 ⟨.faddr 2 (.t 15), some 149, none⟩,
 ⟨.load false (.i .i64) (.t 149), some 150, none⟩,
 ⟨.mv (.t 16), some 151, none⟩,
 ⟨.conv .toStr (.t 151), some 152, none⟩,
 ⟨.iaddr .s (.t 148) (.t 150), some 153, none⟩,
 ⟨.store .s (.t 153) (.t 152), none, none⟩])))))
 (.seq (.reg false [] [
 ⟨.bin .eql .plain (.t 128) (.c (vi .i64 5)), some 155, none⟩,
 ⟨.mv (.t 155), some 154, none⟩])
 (.keep [6, 9, 10, 14, 15, 128, 154] (.cond (.t 154)
 (.reg false [] [
 ⟨.faddr 2 (.t 9), some 156, none⟩,
 ⟨.load false (.l (.i .i64)) (.t 156), some 157, none⟩,
 ⟨.faddr 2 (.t 15), some 158, none⟩,
 ⟨.load false (.i .i64) (.t 158), some 159, none⟩,
 ⟨.call J3u [(.t 157), (.t 159)] 0, some 160, none⟩,
 ⟨.faddr 2 (.t 9), some 161, none⟩,
 ⟨.store (.l (.i .i64)) (.t 161) (.t 160), none, none⟩])
 (.seq (.reg false [] [
 ⟨.bin .eql .plain (.t 128) (.c (vi .i64 6)), some 163, none⟩,
 ⟨.mv (.t 163), some 162, none⟩])
 (.keep [6, 9, 10, 14, 162] (.cond (.t 162)
 (.reg false [] [
 ⟨.faddr 3 (.t 9), some 164, none⟩,
 ⟨.store .b (.t 164) (.c (vb true)), none, none⟩])
 (.skip)))))))))))))))))
 (.keep [6, 9, 10, 14] (.reg false [] [
 ⟨.mv (.t 14), some 121, none⟩,
 ⟨.bin .add .plain (.t 121) (.c (vi .i64 1)), some 122, none⟩,
 ⟨.mv (.t 122), some 14, none⟩]))))))))))
 (.keep [6, 9] (.seq (.reg false [] [
 ⟨.load true J3 (.t 9), some 165, none⟩,
 ⟨.store J3 (.t 6) (.t 165), none, none⟩,
 ⟨.mv (.c (vi .i64 0)), some 7, none⟩])
 (.ret)))))))))))))))))))))))))))
def J6B : TFn := ⟨3, 166, JhA, [.cell 6 true J3, .tmp 7], false⟩
def JdV : TCo := .seq (.reg false [] [
 ⟨.box J3 (.t 0), some 1, none⟩,
 ⟨.newbox J3, some 2, none⟩,
 ⟨.mv (.c (vi .i64 0)), some 3, none⟩])
 (.keep [1, 2] (.seq (.seq (.reg false [] [
 ⟨.load true J3 (.t 1), some 4, none⟩,
 ⟨.call J05 [(.t 4)] 0, some 5, none⟩,
 ⟨.un .not (.t 5), some 6, none⟩])
 (.keep [1, 2, 6] (.cond (.t 6)
 (.seq (.reg false [] [
 ⟨.build J3 [], some 7, none⟩,
 ⟨.store J3 (.t 2) (.t 7), none, none⟩,
 ⟨.mv (.c (vi .i64 15)), some 3, none⟩])
 (.ret))
 (.skip))))
 (.keep [1, 2] (.seq (.reg true [(3, 5), (3, 7), (5, 8)] [
 ⟨.faddr 0 (.t 1), some 8, none⟩,
 ⟨.load false (.l .s) (.t 8), some 9, none⟩,
 ⟨.len false (.t 9), some 10, none⟩,
 ⟨.call J1o [(.t 10)] 0, some 11, none⟩,
 ⟨.faddr 1 (.t 1), some 12, none⟩,
 ⟨.load false (.i .i64) (.t 12), some 13, none⟩,
 ⟨.faddr 4 (.t 1), some 14, none⟩,
 ⟨.load false (.l J4) (.t 14), some 15, none⟩,
 ⟨.call Jq [(.t 15)] 1, some 16, none⟩,
 ⟨.build J3 [(0, (.l .s), (.t 11)), (1, (.i .i64), (.t 13)), (4, (.l J4), (.t 16))], some 17, none⟩,
 ⟨.store J3 (.t 2) (.t 17), none, none⟩,
 ⟨.mv (.c (vi .i64 0)), some 3, none⟩])
 (.ret)))))
def J4O : TFn := ⟨1, 18, JdV, [.cell 2 true J3, .tmp 3], false⟩
def JhU : TCo := .seq (.reg false [] [
 ⟨.box J3 (.t 0), some 4, none⟩,
 ⟨.newbox J3, some 8, none⟩,
 ⟨.mv (.c (vi .i64 0)), some 9, none⟩])
 (.keep [1, 2, 3, 4, 8] (.seq (.reg false [] [
 ⟨.load true J3 (.t 4), some 11, none⟩,
 ⟨.mv (.t 1), some 12, none⟩,
 ⟨.call J1a [(.t 11), (.t 12)] 0, some 13, none⟩,
 ⟨.mv (.t 13), some 10, none⟩])
 (.keep [1, 2, 3, 4, 8, 10] (.seq (.block 0 (.seq (.reg false [] [
 ⟨.mv (.t 10), some 15, none⟩,
 ⟨.bin .neq .plain (.t 15) (.c (vi .i64 0)), some 16, none⟩,
 ⟨.mv (.t 16), some 14, none⟩])
 (.keep [1, 2, 3, 4, 8, 10, 14] (.cond (.t 14)
 (.seq (.reg false [] [
 ⟨.build J3 [], some 17, none⟩,
 ⟨.mv (.t 10), some 18, none⟩,
 ⟨.store J3 (.t 8) (.t 17), none, none⟩,
 ⟨.mv (.t 18), some 9, none⟩])
 (.ret))
 (.seq (.reg false [] [
 ⟨.mv (.t 3), some 20, none⟩,
 ⟨.bin .lss .plain (.t 20) (.c (vi .i64 0)), some 21, none⟩,
 ⟨.mv (.t 21), some 22, none⟩,
 ⟨.mv (.t 3), some 23, some (22, false)⟩,
 ⟨.bin .gtr .plain (.t 23) (.c (vi .i64 256)), some 24, some (22, false)⟩,
 ⟨.pick (.t 22) (.c (vb true)) (.t 24), some 25, none⟩,
 ⟨.mv (.t 25), some 19, none⟩])
 (.keep [1, 2, 3, 4, 8, 19] (.cond (.t 19)
 (.seq (.reg false [] [
 ⟨.build J3 [], some 26, none⟩,
 ⟨.store J3 (.t 8) (.t 26), none, none⟩,
 ⟨.mv (.c (vi .i64 1)), some 9, none⟩])
 (.ret))
 (.seq (.reg false [] [
 ⟨.mv (.t 2), some 28, none⟩,
 ⟨.len true (.t 28), some 29, none⟩,
 ⟨.bin .neq .plain (.t 29) (.c (vi .i64 256)), some 30, none⟩,
 ⟨.mv (.t 30), some 27, none⟩])
 (.keep [1, 2, 3, 4, 8, 27] (.cond (.t 27)
 (.seq (.reg false [] [
 ⟨.build J3 [], some 31, none⟩,
 ⟨.store J3 (.t 8) (.t 31), none, none⟩,
 ⟨.mv (.c (vi .i64 2)), some 9, none⟩])
 (.ret))
 (.skip)))))))))))
 (.keep [1, 2, 3, 4, 8] (.seq (.reg true [] [
 ⟨.load true J3 (.t 4), some 32, none⟩,
 ⟨.mv (.t 1), some 33, none⟩,
 ⟨.mv (.t 2), some 34, none⟩,
 ⟨.mv (.t 3), some 35, none⟩,
 ⟨.slice .str (.t 34) none (some (.t 35)) none, some 36, none⟩,
 ⟨.faddr 0 (.t 4), some 37, none⟩,
 ⟨.load false (.l .s) (.t 37), some 38, none⟩,
 ⟨.mv (.t 1), some 39, none⟩,
 ⟨.iaddr .s (.t 38) (.t 39), some 40, none⟩,
 ⟨.load false .s (.t 40), some 41, none⟩,
 ⟨.mv (.t 3), some 42, none⟩,
 ⟨.slice .str (.t 41) (some (.t 42)) none none, some 43, none⟩,
 ⟨.bin .add .plain (.t 36) (.t 43), some 44, none⟩,
 ⟨.call J4r [(.t 32), (.t 33), (.t 44)] 0, some 45, none⟩,
 ⟨.store J3 (.t 8) (.t 45), none, none⟩,
 ⟨.mv (.c (vi .i64 0)), some 9, none⟩])
 (.ret)))))))
def J6v : TFn := ⟨4, 46, JhU, [.cell 8 true J3, .tmp 9], false⟩
def J65 : TCo := .seq (.reg false [] [
 ⟨.mv (.c (vs [])), some 2, none⟩])
 (.keep [0] (.seq (.reg false [] [
 ⟨.mv (.t 0), some 6, none⟩,
 ⟨.call i_draw_Codes_Next [(.t 6), (.c (vi .i64 5))] 0, some 7, none⟩,
 ⟨.mv (.t 7), some 3, none⟩])
 (.keep [0, 3] (.seq (.seq (.reg false [] [
 ⟨.mv (.t 0), some 8, none⟩,
 ⟨.call i_draw_Codes_Next [(.t 8), (.c (vi .i64 6))] 0, some 9, none⟩,
 ⟨.bin .eql .plain (.t 9) (.c (vi .i64 0)), some 10, none⟩])
 (.keep [0, 3, 10] (.cond (.t 10)
 (.reg false [] [
 ⟨.mv (.t 0), some 11, none⟩,
 ⟨.call i_draw_Codes_Next [(.t 11), (.c (vi .i64 14))] 0, some 12, none⟩,
 ⟨.mv (.t 12), some 3, none⟩])
 (.skip))))
 (.keep [0, 3] (.seq (.reg false [] [
 ⟨.mv (.t 3), some 13, none⟩,
 ⟨.mkslice true (.i .u8) 1 (.c (vi .i64 0)) (.t 13), some 14, none⟩,
 ⟨.mv (.t 14), some 4, none⟩])
 (.keep [0, 3, 4] (.seq (.seq (.reg false [] [
 ⟨.mv (.c (vi .i64 0)), some 5, none⟩])
 (.keep [0, 3, 4, 5] (.block 0 (.loop [0, 3, 4, 5] (.seq (.seq (.reg false [] [
 ⟨.mv (.t 5), some 15, none⟩,
 ⟨.mv (.t 3), some 16, none⟩,
 ⟨.bin .lss .plain (.t 15) (.t 16), some 17, none⟩])
 (.keep [0, 3, 4, 5, 17] (.cond (.t 17)
 (.skip)
 (.exit 0))))
 (.keep [0, 3, 4, 5] (.seq (.block 1 (.reg false [] [
 ⟨.mv (.t 4), some 20, none⟩,
 ⟨.mv (.t 0), some 21, none⟩,
 ⟨.call i_draw_Codes_Next [(.t 21), (.c (vi .i64 3))] 0, some 22, none⟩,
 ⟨.bin .add .plain (.c (vi .i64 97)) (.t 22), some 23, none⟩,
 ⟨.conv (.int .u8) (.t 23), some 24, none⟩,
 ⟨.lits false (.i .u8) 1 [(0, (.t 24))], some 25, none⟩,
 ⟨.app (.i .u8) 1 (.t 20) (.t 25), some 26, none⟩,
 ⟨.mv (.t 26), some 4, none⟩]))
 (.keep [0, 3, 4, 5] (.reg false [] [
 ⟨.mv (.t 5), some 18, none⟩,
 ⟨.bin .add .plain (.t 18) (.c (vi .i64 1)), some 19, none⟩,
 ⟨.mv (.t 19), some 5, none⟩])))))))))
 (.keep [4] (.seq (.reg false [] [
 ⟨.mv (.t 4), some 27, none⟩,
 ⟨.conv .toStr (.t 27), some 28, none⟩,
 ⟨.mv (.t 28), some 2, none⟩])
 (.ret)))))))))))
def J12 : TFn := ⟨1, 29, J65, [.tmp 2], false⟩
def JbB : TCo := .seq (.reg false [] [
 ⟨.newbox J3, some 2, none⟩])
 (.keep [0, 2] (.seq (.reg false [] [
 ⟨.mv (.t 0), some 11, none⟩,
 ⟨.call i_draw_Codes_Next [(.t 11), (.c (vi .i64 4))] 0, some 12, none⟩,
 ⟨.bin .add .plain (.c (vi .i64 1)) (.t 12), some 13, none⟩,
 ⟨.call J2k [(.t 13)] 0, some 14, none⟩,
 ⟨.mv (.t 14), some 10, none⟩,
 ⟨.extr (.t 10) 0, some 15, none⟩,
 ⟨.extr (.t 10) 1, some 16, none⟩,
 ⟨.newbox J3, some 3, none⟩,
 ⟨.store J3 (.t 3) (.t 15), none, none⟩,
 ⟨.mv (.t 16), some 4, none⟩])
 (.keep [0, 2, 3] (.seq (.tidy [2, 3] (.seq (.reg false [] [
 ⟨.mv (.t 0), some 17, none⟩,
 ⟨.call i_draw_Codes_Next [(.t 17), (.c (vi .i64 6))] 0, some 18, none⟩,
 ⟨.mv (.t 18), some 5, none⟩])
 (.keep [0, 2, 3, 5] (.block 0 (.loop [0, 2, 3, 5] (.seq (.seq (.reg false [] [
 ⟨.mv (.t 5), some 19, none⟩,
 ⟨.bin .gtr .plain (.t 19) (.c (vi .i64 0)), some 20, none⟩])
 (.keep [0, 2, 3, 5, 20] (.cond (.t 20)
 (.skip)
 (.exit 0))))
 (.keep [0, 2, 3, 5] (.seq (.tidy [0, 2, 3, 5] (.block 1 (.seq (.tidy [0, 2, 3, 5] (.seq (.reg true [(0, 7), (0, 12), (3, 12), (6, 12), (7, 12), (8, 12)] [
 ⟨.load true J3 (.t 3), some 24, none⟩,
 ⟨.mv (.t 0), some 25, none⟩,
 ⟨.faddr 0 (.t 3), some 26, none⟩,
 ⟨.load false (.l .s) (.t 26), some 27, none⟩,
 ⟨.len false (.t 27), some 28, none⟩,
 ⟨.faddr 1 (.t 3), some 29, none⟩,
 ⟨.load false (.i .i64) (.t 29), some 30, none⟩,
 ⟨.call Jy [(.t 25), (.t 28), (.t 30)] 0, some 31, none⟩,
 ⟨.call J1q [(.t 24), (.t 31)] 0, some 32, none⟩,
 ⟨.mv (.t 32), some 23, none⟩,
 ⟨.extr (.t 23) 0, some 33, none⟩,
 ⟨.extr (.t 23) 1, some 34, none⟩,
 ⟨.newbox J3, some 6, none⟩,
 ⟨.store J3 (.t 6) (.t 33), none, none⟩,
 ⟨.mv (.t 34), some 7, none⟩])
 (.keep [0, 2, 3, 5, 6, 7] (.seq (.reg false [] [
 ⟨.mv (.t 7), some 35, none⟩,
 ⟨.bin .eql .plain (.t 35) (.c (vi .i64 0)), some 36, none⟩,
 ⟨.mv (.t 36), some 37, none⟩,
 ⟨.mv (.t 0), some 38, some (37, true)⟩,
 ⟨.call i_draw_Codes_Next [(.t 38), (.c (vi .i64 2))] 0, some 39, some (37, true)⟩,
 ⟨.bin .eql .plain (.t 39) (.c (vi .i64 0)), some 40, some (37, true)⟩,
 ⟨.pick (.t 37) (.t 40) (.c (vb false)), some 41, none⟩])
 (.keep [0, 2, 3, 5, 6, 41] (.cond (.t 41)
 (.reg false [] [
 ⟨.load true J3 (.t 6), some 42, none⟩,
 ⟨.store J3 (.t 3) (.t 42), none, none⟩])
 (.skip)))))))
 (.keep [0, 2, 3, 5] (.seq (.reg true [(0, 5), (0, 7), (0, 12), (3, 12), (5, 12), (7, 12), (8, 12)] [
 ⟨.load true J3 (.t 3), some 44, none⟩,
 ⟨.mv (.t 0), some 45, none⟩,
 ⟨.faddr 0 (.t 3), some 46, none⟩,
 ⟨.load false (.l .s) (.t 46), some 47, none⟩,
 ⟨.len false (.t 47), some 48, none⟩,
 ⟨.call i_draw_Codes_Next [(.t 45), (.t 48)] 0, some 49, none⟩,
 ⟨.mv (.t 0), some 50, none⟩,
 ⟨.call J0x [(.t 50)] 0, some 51, none⟩,
 ⟨.call J1J [(.t 44), (.t 49), (.t 51)] 0, some 52, none⟩,
 ⟨.mv (.t 52), some 43, none⟩,
 ⟨.extr (.t 43) 0, some 53, none⟩,
 ⟨.extr (.t 43) 1, some 54, none⟩,
 ⟨.newbox J3, some 8, none⟩,
 ⟨.store J3 (.t 8) (.t 53), none, none⟩,
 ⟨.mv (.t 54), some 9, none⟩])
 (.keep [0, 2, 3, 5, 8, 9] (.seq (.reg false [] [
 ⟨.mv (.t 9), some 55, none⟩,
 ⟨.bin .eql .plain (.t 55) (.c (vi .i64 0)), some 56, none⟩])
 (.keep [0, 2, 3, 5, 8, 56] (.cond (.t 56)
 (.reg false [] [
 ⟨.load true J3 (.t 8), some 57, none⟩,
 ⟨.store J3 (.t 3) (.t 57), none, none⟩])
 (.skip))))))))))
 (.keep [0, 2, 3, 5] (.reg false [] [
 ⟨.mv (.t 5), some 21, none⟩,
 ⟨.bin .sub .plain (.t 21) (.c (vi .i64 1)), some 22, none⟩,
 ⟨.mv (.t 22), some 5, none⟩]))))))))))
 (.keep [2, 3] (.seq (.reg false [] [
 ⟨.load true J3 (.t 3), some 58, none⟩,
 ⟨.store J3 (.t 2) (.t 58), none, none⟩])
 (.ret)))))))
def J3G : TFn := ⟨1, 59, JbB, [.cell 2 true J3], false⟩
def JhP : TCo := .seq (.reg false [] [
 ⟨.box J3 (.t 0), some 1, none⟩,
 ⟨.mv (.c (vb false)), some 2, none⟩])
 (.keep [1] (.seq (.reg false [] [
 ⟨.faddr 0 (.t 1), some 3, none⟩,
 ⟨.load false (.l .s) (.t 3), some 4, none⟩,
 ⟨.len false (.t 4), some 5, none⟩,
 ⟨.bin .leq .plain (.t 5) (.c (vi .i64 70)), some 6, none⟩,
 ⟨.mv (.t 6), some 7, none⟩,
 ⟨.faddr 2 (.t 1), some 8, some (7, true)⟩,
 ⟨.load false (.l (.i .i64)) (.t 8), some 9, some (7, true)⟩,
 ⟨.len false (.t 9), some 10, some (7, true)⟩,
 ⟨.bin .leq .plain (.t 10) (.c (vi .i64 70)), some 11, some (7, true)⟩,
 ⟨.pick (.t 7) (.t 11) (.c (vb false)), some 12, none⟩,
 ⟨.mv (.t 12), some 13, none⟩,
 ⟨.faddr 4 (.t 1), some 14, some (13, true)⟩,
 ⟨.load false (.l J4) (.t 14), some 15, some (13, true)⟩,
 ⟨.len false (.t 15), some 16, some (13, true)⟩,
 ⟨.bin .leq .plain (.t 16) (.c (vi .i64 70)), some 17, some (13, true)⟩,
 ⟨.pick (.t 13) (.t 17) (.c (vb false)), some 18, none⟩,
 ⟨.mv (.t 18), some 2, none⟩])
 (.ret)))
def J6x : TFn := ⟨1, 19, JhP, [.tmp 2], false⟩
def Jfd : TCo := .seq (.reg false [] [
 ⟨.box J3 (.t 0), some 1, none⟩,
 ⟨.newbox J3, some 2, none⟩,
 ⟨.mv (.c (vi .i64 0)), some 3, none⟩])
 (.keep [1, 2] (.seq (.seq (.reg false [] [
 ⟨.load true J3 (.t 1), some 4, none⟩,
 ⟨.call J0f [(.t 4)] 0, some 5, none⟩,
 ⟨.un .not (.t 5), some 6, none⟩])
 (.keep [1, 2, 6] (.cond (.t 6)
 (.seq (.reg false [] [
 ⟨.build J3 [], some 7, none⟩,
 ⟨.store J3 (.t 2) (.t 7), none, none⟩,
 ⟨.mv (.c (vi .i64 15)), some 3, none⟩])
 (.ret))
 (.skip))))
 (.keep [1, 2] (.seq (.reg true [(3, 5), (3, 7), (5, 8)] [
 ⟨.faddr 0 (.t 1), some 8, none⟩,
 ⟨.load false (.l .s) (.t 8), some 9, none⟩,
 ⟨.len false (.t 9), some 10, none⟩,
 ⟨.call J1s [(.t 10)] 0, some 11, none⟩,
 ⟨.faddr 1 (.t 1), some 12, none⟩,
 ⟨.load false (.i .i64) (.t 12), some 13, none⟩,
 ⟨.faddr 4 (.t 1), some 14, none⟩,
 ⟨.load false (.l J4) (.t 14), some 15, none⟩,
 ⟨.appn J4 48 (.t 15), some 16, none⟩,
 ⟨.build J3 [(0, (.l .s), (.t 11)), (1, (.i .i64), (.t 13)), (4, (.l J4), (.t 16))], some 17, none⟩,
 ⟨.store J3 (.t 2) (.t 17), none, none⟩,
 ⟨.mv (.c (vi .i64 0)), some 3, none⟩])
 (.ret)))))
def J5c : TFn := ⟨1, 18, Jfd, [.cell 2 true J3, .tmp 3], false⟩
def Jk9 : TCo := .seq (.reg false [] [
 ⟨.box J3 (.t 0), some 2, none⟩,
 ⟨.box J3 (.t 1), some 3, none⟩,
 ⟨.mv (.c (vb false)), some 4, none⟩])
 (.keep [2, 3] (.seq (.seq (.reg false [] [
 ⟨.faddr 0 (.t 2), some 8, none⟩,
 ⟨.load false (.l .s) (.t 8), some 9, none⟩,
 ⟨.len false (.t 9), some 10, none⟩,
 ⟨.faddr 0 (.t 3), some 11, none⟩,
 ⟨.load false (.l .s) (.t 11), some 12, none⟩,
 ⟨.len false (.t 12), some 13, none⟩,
 ⟨.bin .neq .plain (.t 10) (.t 13), some 14, none⟩,
 ⟨.mv (.t 14), some 15, none⟩,
 ⟨.faddr 1 (.t 2), some 16, some (15, false)⟩,
 ⟨.load false (.i .i64) (.t 16), some 17, some (15, false)⟩,
 ⟨.faddr 1 (.t 3), some 18, some (15, false)⟩,
 ⟨.load false (.i .i64) (.t 18), some 19, some (15, false)⟩,
 ⟨.bin .neq .plain (.t 17) (.t 19), some 20, some (15, false)⟩,
 ⟨.pick (.t 15) (.c (vb true)) (.t 20), some 21, none⟩,
 ⟨.mv (.t 21), some 22, none⟩,
 ⟨.faddr 3 (.t 2), some 23, some (22, false)⟩,
 ⟨.load false .b (.t 23), some 24, some (22, false)⟩,
 ⟨.faddr 3 (.t 3), some 25, some (22, false)⟩,
 ⟨.load false .b (.t 25), some 26, some (22, false)⟩,
 ⟨.bin .neq .bool (.t 24) (.t 26), some 27, some (22, false)⟩,
 ⟨.pick (.t 22) (.c (vb true)) (.t 27), some 28, none⟩,
 ⟨.mv (.t 28), some 29, none⟩,
 ⟨.faddr 2 (.t 2), some 30, some (29, false)⟩,
 ⟨.load false (.l (.i .i64)) (.t 30), some 31, some (29, false)⟩,
 ⟨.len false (.t 31), some 32, some (29, false)⟩,
 ⟨.faddr 2 (.t 3), some 33, some (29, false)⟩,
 ⟨.load false (.l (.i .i64)) (.t 33), some 34, some (29, false)⟩,
 ⟨.len false (.t 34), some 35, some (29, false)⟩,
 ⟨.bin .neq .plain (.t 32) (.t 35), some 36, some (29, false)⟩,
 ⟨.pick (.t 29) (.c (vb true)) (.t 36), some 37, none⟩,
 ⟨.mv (.t 37), some 38, none⟩,
 ⟨.faddr 4 (.t 2), some 39, some (38, false)⟩,
 ⟨.load false (.l J4) (.t 39), some 40, some (38, false)⟩,
 ⟨.len false (.t 40), some 41, some (38, false)⟩,
 ⟨.faddr 4 (.t 3), some 42, some (38, false)⟩,
 ⟨.load false (.l J4) (.t 42), some 43, some (38, false)⟩,
 ⟨.len false (.t 43), some 44, some (38, false)⟩,
 ⟨.bin .neq .plain (.t 41) (.t 44), some 45, some (38, false)⟩,
 ⟨.pick (.t 38) (.c (vb true)) (.t 45), some 46, none⟩])
 (.keep [2, 3, 46] (.cond (.t 46)
 (.seq (.reg false [] [
 ⟨.mv (.c (vb false)), some 4, none⟩])
 (.ret))
 (.skip))))
 (.keep [2, 3] (.seq (.seq (.reg false [] [
 ⟨.mv (.c (vi .i64 0)), some 5, none⟩])
 (.keep [2, 3, 5] (.block 0 (.loop [2, 3, 5] (.seq (.seq (.reg false [] [
 ⟨.mv (.t 5), some 47, none⟩,
 ⟨.faddr 0 (.t 2), some 48, none⟩,
 ⟨.load false (.l .s) (.t 48), some 49, none⟩,
 ⟨.len false (.t 49), some 50, none⟩,
 ⟨.bin .lss .plain (.t 47) (.t 50), some 51, none⟩])
 (.keep [2, 3, 5, 51] (.cond (.t 51)
 (.skip)
 (.exit 0))))
 (.keep [2, 3, 5] (.seq (.block 1 (.seq (.reg true [] [
 ⟨.faddr 0 (.t 2), some 54, none⟩,
 ⟨.load false (.l .s) (.t 54), some 55, none⟩,
 ⟨.mv (.t 5), some 56, none⟩,
 ⟨.iaddr .s (.t 55) (.t 56), some 57, none⟩,
 ⟨.load false .s (.t 57), some 58, none⟩,
 ⟨.faddr 0 (.t 3), some 59, none⟩,
 ⟨.load false (.l .s) (.t 59), some 60, none⟩,
 ⟨.mv (.t 5), some 61, none⟩,
 ⟨.iaddr .s (.t 60) (.t 61), some 62, none⟩,
 ⟨.load false .s (.t 62), some 63, none⟩,
 ⟨.bin .neq .plain (.t 58) (.t 63), some 64, none⟩])
 (.keep [2, 3, 5, 64] (.cond (.t 64)
 (.seq (.reg false [] [
 ⟨.mv (.c (vb false)), some 4, none⟩])
 (.ret))
 (.skip)))))
 (.keep [2, 3, 5] (.reg false [] [
 ⟨.mv (.t 5), some 52, none⟩,
 ⟨.bin .add .plain (.t 52) (.c (vi .i64 1)), some 53, none⟩,
 ⟨.mv (.t 53), some 5, none⟩])))))))))
 (.keep [2, 3] (.seq (.seq (.reg false [] [
 ⟨.mv (.c (vi .i64 0)), some 6, none⟩])
 (.keep [2, 3, 6] (.block 2 (.loop [2, 3, 6] (.seq (.seq (.reg false [] [
 ⟨.mv (.t 6), some 65, none⟩,
 ⟨.faddr 2 (.t 2), some 66, none⟩,
 ⟨.load false (.l (.i .i64)) (.t 66), some 67, none⟩,
 ⟨.len false (.t 67), some 68, none⟩,
 ⟨.bin .lss .plain (.t 65) (.t 68), some 69, none⟩])
 (.keep [2, 3, 6, 69] (.cond (.t 69)
 (.skip)
 (.exit 2))))
 (.keep [2, 3, 6] (.seq (.block 3 (.seq (.reg true [] [
 ⟨.faddr 2 (.t 2), some 72, none⟩,
 ⟨.load false (.l (.i .i64)) (.t 72), some 73, none⟩,
 ⟨.mv (.t 6), some 74, none⟩,
 ⟨.iaddr (.i .i64) (.t 73) (.t 74), some 75, none⟩,
 ⟨.load false (.i .i64) (.t 75), some 76, none⟩,
 ⟨.faddr 2 (.t 3), some 77, none⟩,
 ⟨.load false (.l (.i .i64)) (.t 77), some 78, none⟩,
 ⟨.mv (.t 6), some 79, none⟩,
 ⟨.iaddr (.i .i64) (.t 78) (.t 79), some 80, none⟩,
 ⟨.load false (.i .i64) (.t 80), some 81, none⟩,
 ⟨.bin .neq .plain (.t 76) (.t 81), some 82, none⟩])
 (.keep [2, 3, 6, 82] (.cond (.t 82)
 (.seq (.reg false [] [
 ⟨.mv (.c (vb false)), some 4, none⟩])
 (.ret))
 (.skip)))))
 (.keep [2, 3, 6] (.reg false [] [
 ⟨.mv (.t 6), some 70, none⟩,
 ⟨.bin .add .plain (.t 70) (.c (vi .i64 1)), some 71, none⟩,
 ⟨.mv (.t 71), some 6, none⟩])))))))))
 (.keep [2, 3] (.seq (.seq (.reg false [] [
 ⟨.mv (.c (vi .i64 0)), some 7, none⟩])
 (.keep [2, 3, 7] (.block 4 (.loop [2, 3, 7] (.seq (.seq (.reg false [] [
 ⟨.mv (.t 7), some 83, none⟩,
 ⟨.faddr 4 (.t 2), some 84, none⟩,
 ⟨.load false (.l J4) (.t 84), some 85, none⟩,
 ⟨.len false (.t 85), some 86, none⟩,
 ⟨.bin .lss .plain (.t 83) (.t 86), some 87, none⟩])
 (.keep [2, 3, 7, 87] (.cond (.t 87)
 (.skip)
 (.exit 4))))
 (.keep [2, 3, 7] (.seq (.block 5 (.seq (.reg true [] [
 ⟨.faddr 4 (.t 2), some 90, none⟩,
 ⟨.load false (.l J4) (.t 90), some 91, none⟩,
 ⟨.mv (.t 7), some 92, none⟩,
 ⟨.iaddr J4 (.t 91) (.t 92), some 93, none⟩,
 ⟨.load true J4 (.t 93), some 94, none⟩,
 ⟨.faddr 4 (.t 3), some 95, none⟩,
 ⟨.load false (.l J4) (.t 95), some 96, none⟩,
 ⟨.mv (.t 7), some 97, none⟩,
 ⟨.iaddr J4 (.t 96) (.t 97), some 98, none⟩,
 ⟨.load true J4 (.t 98), some 99, none⟩,
 ⟨.bin .neq (.flat J4) (.t 94) (.t 99), some 100, none⟩])
 (.keep [2, 3, 7, 100] (.cond (.t 100)
 (.seq (.reg false [] [
 ⟨.mv (.c (vb false)), some 4, none⟩])
 (.ret))
 (.skip)))))
 (.keep [2, 3, 7] (.reg false [] [
 ⟨.mv (.t 7), some 88, none⟩,
 ⟨.bin .add .plain (.t 88) (.c (vi .i64 1)), some 89, none⟩,
 ⟨.mv (.t 89), some 7, none⟩])))))))))
 (.keep [] (.seq (.reg false [] [
 ⟨.mv (.c (vb true)), some 4, none⟩])
 (.ret)))))))))))
def J7b : TFn := ⟨2, 101, Jk9, [.tmp 4], false⟩
def Jk8 : TCo := .seq (.reg false [] [
 ⟨.box J3 (.t 0), some 4, none⟩,
 ⟨.newbox J3, some 8, none⟩,
 ⟨.mv (.c (vi .i64 0)), some 9, none⟩])
 (.keep [1, 2, 3, 4, 8] (.seq (.seq (.reg false [] [
 ⟨.load true J3 (.t 4), some 11, none⟩,
 ⟨.mv (.t 1), some 12, none⟩,
 ⟨.call J0y [(.t 11), (.t 12)] 0, some 13, none⟩,
 ⟨.mv (.t 13), some 10, none⟩])
 (.keep [1, 2, 3, 4, 8, 10] (.seq (.reg false [] [
 ⟨.mv (.t 10), some 14, none⟩,
 ⟨.bin .neq .plain (.t 14) (.c (vi .i64 0)), some 15, none⟩])
 (.keep [1, 2, 3, 4, 8, 10, 15] (.cond (.t 15)
 (.seq (.reg false [] [
 ⟨.build J3 [], some 16, none⟩,
 ⟨.mv (.t 10), some 17, none⟩,
 ⟨.store J3 (.t 8) (.t 16), none, none⟩,
 ⟨.mv (.t 17), some 9, none⟩])
 (.ret))
 (.skip))))))
 (.keep [1, 2, 3, 4, 8] (.seq (.seq (.reg false [] [
 ⟨.mv (.t 3), some 18, none⟩,
 ⟨.bin .lss .plain (.t 18) (.c (vi .i64 0)), some 19, none⟩,
 ⟨.mv (.t 19), some 20, none⟩,
 ⟨.mv (.t 3), some 21, some (20, false)⟩,
 ⟨.bin .gtr .plain (.t 21) (.c (vi .i64 256)), some 22, some (20, false)⟩,
 ⟨.pick (.t 20) (.c (vb true)) (.t 22), some 23, none⟩])
 (.keep [1, 2, 3, 4, 8, 23] (.cond (.t 23)
 (.seq (.reg false [] [
 ⟨.build J3 [], some 24, none⟩,
 ⟨.store J3 (.t 8) (.t 24), none, none⟩,
 ⟨.mv (.c (vi .i64 1)), some 9, none⟩])
 (.ret))
 (.skip))))
 (.keep [1, 2, 3, 4, 8] (.seq (.seq (.reg false [] [
 ⟨.mv (.t 2), some 25, none⟩,
 ⟨.len true (.t 25), some 26, none⟩,
 ⟨.bin .neq .plain (.t 26) (.c (vi .i64 256)), some 27, none⟩])
 (.keep [1, 2, 3, 4, 8, 27] (.cond (.t 27)
 (.seq (.reg false [] [
 ⟨.build J3 [], some 28, none⟩,
 ⟨.store J3 (.t 8) (.t 28), none, none⟩,
 ⟨.mv (.c (vi .i64 2)), some 9, none⟩])
 (.ret))
 (.skip))))
 (.keep [1, 2, 3, 4, 8] (.seq (.reg false [] [
 ⟨.load true J3 (.t 4), some 29, none⟩,
 ⟨.callo JR [((.t 29), false)] 2, some 30, none⟩,
 ⟨.mv (.t 1), some 31, none⟩,
 ⟨.mv (.t 2), some 32, none⟩,
 ⟨.mv (.t 3), some 33, none⟩,
 ⟨.callo J13 [((.t 30), true), ((.t 31), false), ((.t 32), false), ((.t 33), false)] 0, some 34, none⟩,
 ⟨.store J3 (.t 8) (.t 34), none, none⟩,
 ⟨.mv (.c (vi .i64 0)), some 9, none⟩])
 (.ret)))))))))
def J7y : TFn := ⟨4, 35, Jk8, [.cell 8 true J3, .tmp 9], false⟩
def Jbw : TCo := .seq (.reg false [] [
 ⟨.box J3 (.t 1), some 6, none⟩,
 ⟨.box J4 (.t 4), some 9, none⟩,
 ⟨.mv (.c (vb false)), some 10, none⟩])
 (.keep [0, 2, 3, 6, 9] (.seq (.seq (.reg false [] [
 ⟨.call J30 [] 0, some 33, none⟩,
 ⟨.un .not (.t 33), some 34, none⟩,
 ⟨.mv (.t 34), some 35, none⟩,
 ⟨.load true J3 (.t 6), some 36, some (35, false)⟩,
 ⟨.call J2D [(.t 36)] 0, some 37, some (35, false)⟩,
 ⟨.un .not (.t 37), some 38, some (35, false)⟩,
 ⟨.pick (.t 35) (.c (vb true)) (.t 38), some 39, none⟩])
 (.keep [0, 2, 3, 6, 9, 39] (.cond (.t 39)
 (.seq (.reg false [] [
 ⟨.load true J3 (.t 6), some 40, none⟩,
 ⟨.call J2D [(.t 40)] 0, some 41, none⟩,
 ⟨.un .not (.t 41), some 42, none⟩,
 ⟨.mv (.t 42), some 10, none⟩])
 (.ret))
 (.skip))))
 (.keep [0, 2, 3, 6, 9] (.seq (.reg false [] [
 ⟨.mv (.t 0), some 43, none⟩,
 ⟨.call J4K [(.t 43), (.c (vi .i64 300))] 1, some 44, none⟩,
 ⟨.mv (.t 44), some 11, none⟩])
 (.keep [2, 3, 6, 9, 11] (.seq (.reg false [] [
 ⟨.mv (.t 11), some 45, none⟩,
 ⟨.call J1v [(.t 45)] 0, some 46, none⟩,
 ⟨.newbox J3, some 12, none⟩,
 ⟨.store J3 (.t 12) (.t 46), none, none⟩])
 (.keep [2, 3, 6, 9, 11, 12] (.seq (.reg false [] [
 ⟨.mv (.t 2), some 48, none⟩,
 ⟨.call J25 [(.t 48)] 0, some 49, none⟩,
 ⟨.mv (.t 49), some 47, none⟩,
 ⟨.extr (.t 47) 0, some 50, none⟩,
 ⟨.extr (.t 47) 1, some 51, none⟩,
 ⟨.newbox J3, some 13, none⟩,
 ⟨.store J3 (.t 13) (.t 50), none, none⟩,
 ⟨.mv (.t 51), some 14, none⟩])
 (.keep [2, 3, 6, 9, 11, 12, 13, 14] (.seq (.reg false [] [
 ⟨.mv (.t 2), some 53, none⟩,
 ⟨.call J2k [(.t 53)] 0, some 54, none⟩,
 ⟨.mv (.t 54), some 52, none⟩,
 ⟨.extr (.t 52) 0, some 55, none⟩,
 ⟨.extr (.t 52) 1, some 56, none⟩,
 ⟨.newbox J3, some 15, none⟩,
 ⟨.store J3 (.t 15) (.t 55), none, none⟩,
 ⟨.mv (.t 56), some 16, none⟩])
 (.keep [3, 6, 9, 11, 12, 13, 14, 15, 16] (.seq (.seq (.reg false [] [
 ⟨.mv (.t 14), some 57, none⟩,
 ⟨.mv (.t 16), some 58, none⟩,
 ⟨.bin .neq .plain (.t 57) (.t 58), some 59, none⟩,
 ⟨.mv (.t 59), some 60, none⟩,
 ⟨.load true J3 (.t 13), some 61, some (60, false)⟩,
 ⟨.load true J3 (.t 15), some 62, some (60, false)⟩,
 ⟨.call J1C [(.t 61), (.t 62)] 0, some 63, some (60, false)⟩,
 ⟨.un .not (.t 63), some 64, some (60, false)⟩,
 ⟨.pick (.t 60) (.c (vb true)) (.t 64), some 65, none⟩])
 (.keep [3, 6, 9, 11, 12, 65] (.cond (.t 65)
 (.seq (.reg false [] [
 ⟨.mv (.c (vb false)), some 10, none⟩])
 (.ret))
 (.skip))))
 (.keep [3, 6, 9, 11, 12] (.seq (.tidy [10] (.seq (.reg true [(0, 4), (1, 4)] [
 ⟨.load true J3 (.t 6), some 66, none⟩,
 ⟨.load true J3 (.t 12), some 67, none⟩,
 ⟨.mv (.t 11), some 68, none⟩,
 ⟨.load true J3 (.t 12), some 69, none⟩,
 ⟨.call i_law04_odd [(.t 68), (.t 69)] 0, some 70, none⟩,
 ⟨.lits false J3 3 [(0, (.t 66)), (1, (.t 67)), (2, (.t 70))], some 71, none⟩,
 ⟨.len false (.t 71), some 72, none⟩,
 ⟨.mv (.c (vi .i64 0)), some 73, none⟩])
 (.keep [3, 9, 11, 71, 72, 73] (.block 0 (.loop [3, 9, 11, 71, 72, 73] (.seq (.reg false [] [
 ⟨.bin .lss .plain (.t 73) (.t 72), some 74, none⟩])
 (.keep [3, 9, 11, 71, 72, 73, 74] (.seq (.cond (.t 74)
 (.skip)
 (.exit 0))
 (.keep [3, 9, 11, 71, 72, 73] (.seq (.tidy [3, 9, 10, 11, 71, 72, 73] (.block 1 (.seq (.reg false [] [
 ⟨.iaddr J3 (.t 71) (.t 73), some 75, none⟩,
 ⟨.load true J3 (.t 75), some 76, none⟩,
 ⟨.newbox J3, some 18, none⟩,
 ⟨.store J3 (.t 18) (.t 76), none, none⟩])
 (.keep [3, 9, 11, 18, 71, 72, 73] (.seq (.reg false [] [
 ⟨.mv (.t 11), some 77, none⟩,
 ⟨.call i_draw_Codes_Next [(.t 77), (.c (vi .i64 6))] 0, some 78, none⟩,
 ⟨.bin .sub .plain (.t 78) (.c (vi .i64 1)), some 79, none⟩,
 ⟨.mv (.t 11), some 80, none⟩,
 ⟨.call J0x [(.t 80)] 0, some 81, none⟩,
 ⟨.mv (.t 79), some 19, none⟩,
 ⟨.mv (.t 81), some 20, none⟩])
 (.keep [3, 9, 11, 18, 19, 20, 71, 72, 73] (.seq (.seq (.reg false [] [
 ⟨.mv (.t 11), some 82, none⟩,
 ⟨.call i_draw_Codes_Next [(.t 82), (.c (vi .i64 8))] 0, some 83, none⟩,
 ⟨.bin .eql .plain (.t 83) (.c (vi .i64 0)), some 84, none⟩])
 (.keep [3, 9, 11, 18, 19, 20, 71, 72, 73, 84] (.cond (.t 84)
 (.reg false [] [
 ⟨.mv (.t 11), some 85, none⟩,
 ⟨.call JP [(.t 85)] 0, some 86, none⟩,
 ⟨.mv (.t 86), some 20, none⟩])
 (.skip))))
 (.keep [3, 9, 11, 18, 19, 20, 71, 72, 73] (.seq (.reg false [] [
 ⟨.load true J3 (.t 18), some 88, none⟩,
 ⟨.mv (.t 19), some 89, none⟩,
 ⟨.mv (.t 20), some 90, none⟩,
 ⟨.call J1p [(.t 88), (.t 89), (.t 90)] 0, some 91, none⟩,
 ⟨.mv (.t 91), some 87, none⟩,
 ⟨.extr (.t 87) 0, some 92, none⟩,
 ⟨.extr (.t 87) 1, some 93, none⟩,
 ⟨.newbox J3, some 21, none⟩,
 ⟨.store J3 (.t 21) (.t 92), none, none⟩,
 ⟨.mv (.t 93), some 22, none⟩])
 (.keep [3, 9, 11, 18, 19, 20, 21, 22, 71, 72, 73] (.seq (.reg false [] [
 ⟨.load true J3 (.t 18), some 95, none⟩,
 ⟨.mv (.t 19), some 96, none⟩,
 ⟨.mv (.t 20), some 97, none⟩,
 ⟨.call J1J [(.t 95), (.t 96), (.t 97)] 0, some 98, none⟩,
 ⟨.mv (.t 98), some 94, none⟩,
 ⟨.extr (.t 94) 0, some 99, none⟩,
 ⟨.extr (.t 94) 1, some 100, none⟩,
 ⟨.newbox J3, some 23, none⟩,
 ⟨.store J3 (.t 23) (.t 99), none, none⟩,
 ⟨.mv (.t 100), some 24, none⟩])
 (.keep [3, 9, 11, 18, 19, 20, 21, 22, 23, 24, 71, 72, 73] (.seq (.seq (.reg true [(11, 12)] [
 ⟨.mv (.t 22), some 101, none⟩,
 ⟨.mv (.t 24), some 102, none⟩,
 ⟨.bin .neq .plain (.t 101) (.t 102), some 103, none⟩,
 ⟨.mv (.t 103), some 104, none⟩,
 ⟨.load true J3 (.t 21), some 105, some (104, false)⟩,
 ⟨.load true J3 (.t 23), some 106, some (104, false)⟩,
 ⟨.call J1C [(.t 105), (.t 106)] 0, some 107, some (104, false)⟩,
 ⟨.un .not (.t 107), some 108, some (104, false)⟩,
 ⟨.pick (.t 104) (.c (vb true)) (.t 108), some 109, none⟩,
 ⟨.mv (.t 109), some 110, none⟩,
 ⟨.load true J3 (.t 18), some 111, some (110, false)⟩,
 ⟨.call J05 [(.t 111)] 0, some 112, some (110, false)⟩,
 ⟨.load true J3 (.t 18), some 113, some (110, false)⟩,
 ⟨.call J0f [(.t 113)] 0, some 114, some (110, false)⟩,
 ⟨.bin .neq .bool (.t 112) (.t 114), some 115, some (110, false)⟩,
 ⟨.pick (.t 110) (.c (vb true)) (.t 115), some 116, none⟩])
 (.keep [3, 9, 11, 18, 19, 20, 21, 23, 71, 72, 73, 116] (.cond (.t 116)
 (.seq (.reg false [] [
 ⟨.mv (.c (vb false)), some 10, none⟩])
 (.ret))
 (.skip))))
 (.keep [3, 9, 11, 18, 19, 20, 21, 23, 71, 72, 73] (.seq (.tidy [3, 9, 10, 11, 18, 19, 20, 21, 23, 71, 72, 73] (.seq (.reg true [(0, 7)] [
 ⟨.load true J4 (.t 9), some 117, none⟩,
 ⟨.mv (.t 11), some 118, none⟩,
 ⟨.faddr 0 (.t 18), some 119, none⟩,
 ⟨.load false (.l .s) (.t 119), some 120, none⟩,
 ⟨.len false (.t 120), some 121, none⟩,
 ⟨.faddr 1 (.t 18), some 122, none⟩,
 ⟨.load false (.i .i64) (.t 122), some 123, none⟩,
 ⟨.call Jy [(.t 118), (.t 121), (.t 123)] 0, some 124, none⟩,
 ⟨.lits false J4 2 [(0, (.t 117)), (1, (.t 124))], some 125, none⟩,
 ⟨.len false (.t 125), some 126, none⟩,
 ⟨.mv (.c (vi .i64 0)), some 127, none⟩])
 (.keep [3, 9, 11, 18, 19, 20, 21, 23, 71, 72, 73, 125, 126, 127] (.block 2 (.loop [3, 9, 11, 18, 19, 20, 21, 23, 71, 72, 73, 125, 126, 127] (.seq (.reg false [] [
 ⟨.bin .lss .plain (.t 127) (.t 126), some 128, none⟩])
 (.keep [3, 9, 11, 18, 19, 20, 21, 23, 71, 72, 73, 125, 126, 127, 128] (.seq (.cond (.t 128)
 (.skip)
 (.exit 2))
 (.keep [3, 9, 11, 18, 19, 20, 21, 23, 71, 72, 73, 125, 126, 127] (.seq (.block 3 (.seq (.reg false [] [
 ⟨.iaddr J4 (.t 125) (.t 127), some 129, none⟩,
 ⟨.load true J4 (.t 129), some 130, none⟩,
 ⟨.newbox J4, some 26, none⟩,
 ⟨.store J4 (.t 26) (.t 130), none, none⟩])
 (.keep [3, 9, 11, 18, 19, 20, 21, 23, 26, 71, 72, 73, 125, 126, 127] (.seq (.reg false [] [
 ⟨.load true J3 (.t 18), some 132, none⟩,
 ⟨.load true J4 (.t 26), some 133, none⟩,
 ⟨.call J1b [(.t 132), (.t 133)] 0, some 134, none⟩,
 ⟨.mv (.t 134), some 131, none⟩,
 ⟨.extr (.t 131) 0, some 135, none⟩,
 ⟨.extr (.t 131) 1, some 136, none⟩,
 ⟨.store J3 (.t 21) (.t 135), none, none⟩,
 ⟨.mv (.t 136), some 22, none⟩])
 (.keep [3, 9, 11, 18, 19, 20, 21, 22, 23, 26, 71, 72, 73, 125, 126, 127] (.seq (.reg false [] [
 ⟨.load true J3 (.t 18), some 138, none⟩,
 ⟨.load true J4 (.t 26), some 139, none⟩,
 ⟨.call J1q [(.t 138), (.t 139)] 0, some 140, none⟩,
 ⟨.mv (.t 140), some 137, none⟩,
 ⟨.extr (.t 137) 0, some 141, none⟩,
 ⟨.extr (.t 137) 1, some 142, none⟩,
 ⟨.store J3 (.t 23) (.t 141), none, none⟩,
 ⟨.mv (.t 142), some 24, none⟩])
 (.keep [3, 9, 11, 18, 19, 20, 21, 22, 23, 24, 71, 72, 73, 125, 126, 127] (.seq (.reg false [] [
 ⟨.mv (.t 22), some 143, none⟩,
 ⟨.mv (.t 24), some 144, none⟩,
 ⟨.bin .neq .plain (.t 143) (.t 144), some 145, none⟩,
 ⟨.mv (.t 145), some 146, none⟩,
 ⟨.load true J3 (.t 21), some 147, some (146, false)⟩,
 ⟨.load true J3 (.t 23), some 148, some (146, false)⟩,
 ⟨.call J1C [(.t 147), (.t 148)] 0, some 149, some (146, false)⟩,
 ⟨.un .not (.t 149), some 150, some (146, false)⟩,
 ⟨.pick (.t 146) (.c (vb true)) (.t 150), some 151, none⟩])
 (.keep [3, 9, 11, 18, 19, 20, 21, 23, 71, 72, 73, 125, 126, 127, 151] (.cond (.t 151)
 (.seq (.reg false [] [
 ⟨.mv (.c (vb false)), some 10, none⟩])
 (.ret))
 (.skip)))))))))))
 (.keep [3, 9, 11, 18, 19, 20, 21, 23, 71, 72, 73, 125, 126, 127] (.reg false [] [
 ⟨.bin .add .plain (.t 127) (.c (vi .i64 1)), some 152, none⟩,
 ⟨.mv (.t 152), some 127, none⟩]))))))))))))
 (.keep [3, 9, 11, 18, 19, 20, 21, 23, 71, 72, 73] (.seq (.seq (.reg false [] [
 ⟨.mv (.t 3), some 153, none⟩,
 ⟨.mv (.t 11), some 154, none⟩,
 ⟨.call i_draw_Codes_Next [(.t 154), (.c (vi .i64 257))] 0, some 155, none⟩,
 ⟨.lits false (.i .i64) 2 [(0, (.t 153)), (1, (.t 155))], some 156, none⟩,
 ⟨.len false (.t 156), some 157, none⟩,
 ⟨.mv (.c (vi .i64 0)), some 158, none⟩])
 (.keep [3, 9, 11, 18, 19, 20, 21, 23, 71, 72, 73, 156, 157, 158] (.block 4 (.loop [3, 9, 11, 18, 19, 20, 21, 23, 71, 72, 73, 156, 157, 158] (.seq (.reg false [] [
 ⟨.bin .lss .plain (.t 158) (.t 157), some 159, none⟩])
 (.keep [3, 9, 11, 18, 19, 20, 21, 23, 71, 72, 73, 156, 157, 158, 159] (.seq (.cond (.t 159)
 (.skip)
 (.exit 4))
 (.keep [3, 9, 11, 18, 19, 20, 21, 23, 71, 72, 73, 156, 157, 158] (.seq (.block 5 (.seq (.reg false [] [
 ⟨.iaddr (.i .i64) (.t 156) (.t 158), some 160, none⟩,
 ⟨.load false (.i .i64) (.t 160), some 161, none⟩,
 ⟨.mv (.t 161), some 28, none⟩])
 (.keep [3, 9, 11, 18, 19, 20, 21, 23, 28, 71, 72, 73, 156, 157, 158] (.seq (.reg false [] [
 ⟨.load true J3 (.t 18), some 163, none⟩,
 ⟨.mv (.t 19), some 164, none⟩,
 ⟨.mv (.t 20), some 165, none⟩,
 ⟨.mv (.t 28), some 166, none⟩,
 ⟨.call J36 [(.t 163), (.t 164), (.t 165), (.t 166)] 0, some 167, none⟩,
 ⟨.mv (.t 167), some 162, none⟩,
 ⟨.extr (.t 162) 0, some 168, none⟩,
 ⟨.extr (.t 162) 1, some 169, none⟩,
 ⟨.store J3 (.t 21) (.t 168), none, none⟩,
 ⟨.mv (.t 169), some 22, none⟩])
 (.keep [3, 9, 11, 18, 19, 20, 21, 22, 23, 28, 71, 72, 73, 156, 157, 158] (.seq (.reg false [] [
 ⟨.load true J3 (.t 18), some 171, none⟩,
 ⟨.mv (.t 19), some 172, none⟩,
 ⟨.mv (.t 20), some 173, none⟩,
 ⟨.mv (.t 28), some 174, none⟩,
 ⟨.call J3y [(.t 171), (.t 172), (.t 173), (.t 174)] 0, some 175, none⟩,
 ⟨.mv (.t 175), some 170, none⟩,
 ⟨.extr (.t 170) 0, some 176, none⟩,
 ⟨.extr (.t 170) 1, some 177, none⟩,
 ⟨.store J3 (.t 23) (.t 176), none, none⟩,
 ⟨.mv (.t 177), some 24, none⟩])
 (.keep [3, 9, 11, 18, 19, 20, 21, 22, 23, 24, 71, 72, 73, 156, 157, 158] (.seq (.reg false [] [
 ⟨.mv (.t 22), some 178, none⟩,
 ⟨.mv (.t 24), some 179, none⟩,
 ⟨.bin .neq .plain (.t 178) (.t 179), some 180, none⟩,
 ⟨.mv (.t 180), some 181, none⟩,
 ⟨.load true J3 (.t 21), some 182, some (181, false)⟩,
 ⟨.load true J3 (.t 23), some 183, some (181, false)⟩,
 ⟨.call J1C [(.t 182), (.t 183)] 0, some 184, some (181, false)⟩,
 ⟨.un .not (.t 184), some 185, some (181, false)⟩,
 ⟨.pick (.t 181) (.c (vb true)) (.t 185), some 186, none⟩])
 (.keep [3, 9, 11, 18, 19, 20, 21, 23, 71, 72, 73, 156, 157, 158, 186] (.cond (.t 186)
 (.seq (.reg false [] [
 ⟨.mv (.c (vb false)), some 10, none⟩])
 (.ret))
 (.skip)))))))))))
 (.keep [3, 9, 11, 18, 19, 20, 21, 23, 71, 72, 73, 156, 157, 158] (.reg false [] [
 ⟨.bin .add .plain (.t 158) (.c (vi .i64 1)), some 187, none⟩,
 ⟨.mv (.t 187), some 158, none⟩])))))))))))
 (.keep [3, 9, 11, 18, 19, 21, 23, 71, 72, 73] (.seq (.reg false [] [
 ⟨.load true J3 (.t 18), some 189, none⟩,
 ⟨.call J2b [(.t 189)] 0, some 190, none⟩,
 ⟨.mv (.t 190), some 188, none⟩,
 ⟨.extr (.t 188) 0, some 191, none⟩,
 ⟨.extr (.t 188) 1, some 192, none⟩,
 ⟨.store J3 (.t 21) (.t 191), none, none⟩,
 ⟨.mv (.t 192), some 22, none⟩])
 (.keep [3, 9, 11, 18, 19, 21, 22, 23, 71, 72, 73] (.seq (.reg false [] [
 ⟨.load true J3 (.t 18), some 194, none⟩,
 ⟨.call J2l [(.t 194)] 0, some 195, none⟩,
 ⟨.mv (.t 195), some 193, none⟩,
 ⟨.extr (.t 193) 0, some 196, none⟩,
 ⟨.extr (.t 193) 1, some 197, none⟩,
 ⟨.store J3 (.t 23) (.t 196), none, none⟩,
 ⟨.mv (.t 197), some 24, none⟩])
 (.keep [3, 9, 11, 18, 19, 21, 22, 23, 24, 71, 72, 73] (.seq (.reg false [] [
 ⟨.load true J3 (.t 18), some 199, none⟩,
 ⟨.mv (.t 19), some 200, none⟩,
 ⟨.call J1H [(.t 199), (.t 200)] 0, some 201, none⟩,
 ⟨.mv (.t 201), some 198, none⟩,
 ⟨.extr (.t 198) 0, some 202, none⟩,
 ⟨.extr (.t 198) 1, some 203, none⟩,
 ⟨.mv (.t 202), some 29, none⟩,
 ⟨.mv (.t 203), some 30, none⟩])
 (.keep [3, 9, 11, 18, 19, 21, 22, 23, 24, 29, 30, 71, 72, 73] (.seq (.reg false [] [
 ⟨.load true J3 (.t 18), some 205, none⟩,
 ⟨.mv (.t 19), some 206, none⟩,
 ⟨.call J3s [(.t 205), (.t 206)] 0, some 207, none⟩,
 ⟨.mv (.t 207), some 204, none⟩,
 ⟨.extr (.t 204) 0, some 208, none⟩,
 ⟨.extr (.t 204) 1, some 209, none⟩,
 ⟨.mv (.t 208), some 31, none⟩,
 ⟨.mv (.t 209), some 32, none⟩])
 (.keep [3, 9, 11, 21, 22, 23, 24, 29, 30, 31, 32, 71, 72, 73] (.seq (.reg false [] [
 ⟨.mv (.t 22), some 210, none⟩,
 ⟨.mv (.t 24), some 211, none⟩,
 ⟨.bin .neq .plain (.t 210) (.t 211), some 212, none⟩,
 ⟨.mv (.t 212), some 213, none⟩,
 ⟨.load true J3 (.t 21), some 214, some (213, false)⟩,
 ⟨.load true J3 (.t 23), some 215, some (213, false)⟩,
 ⟨.call J1C [(.t 214), (.t 215)] 0, some 216, some (213, false)⟩,
 ⟨.un .not (.t 216), some 217, some (213, false)⟩,
 ⟨.pick (.t 213) (.c (vb true)) (.t 217), some 218, none⟩,
 ⟨.mv (.t 218), some 219, none⟩,
 ⟨.mv (.t 29), some 220, some (219, false)⟩,
 ⟨.mv (.t 31), some 221, some (219, false)⟩,
 ⟨.bin .neq .plain (.t 220) (.t 221), some 222, some (219, false)⟩,
 ⟨.pick (.t 219) (.c (vb true)) (.t 222), some 223, none⟩,
 ⟨.mv (.t 223), some 224, none⟩,
 ⟨.mv (.t 30), some 225, some (224, false)⟩,
 ⟨.mv (.t 32), some 226, some (224, false)⟩,
 ⟨.bin .neq .plain (.t 225) (.t 226), some 227, some (224, false)⟩,
 ⟨.pick (.t 224) (.c (vb true)) (.t 227), some 228, none⟩])
 (.keep [3, 9, 11, 71, 72, 73, 228] (.cond (.t 228)
 (.seq (.reg false [] [
 ⟨.mv (.c (vb false)), some 10, none⟩])
 (.ret))
 (.skip))))))))))))))))))))))))))))))
 (.keep [3, 9, 11, 71, 72, 73] (.reg false [] [
 ⟨.bin .add .plain (.t 73) (.c (vi .i64 1)), some 229, none⟩,
 ⟨.mv (.t 229), some 73, none⟩]))))))))))))
 (.keep [] (.seq (.reg false [] [
 ⟨.mv (.c (vb true)), some 10, none⟩])
 (.ret)))))))))))))))))
def J3E : TFn := ⟨5, 230, Jbw, [.tmp 10], false⟩
end Go.Am
end
