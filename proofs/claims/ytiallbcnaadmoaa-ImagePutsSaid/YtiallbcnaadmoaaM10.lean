/-
  Parts of a proof.
-/
import Derived.Test.YtiallbcnaadmoaaM9
open Nat (reduceEqDiff reduceAdd reduceLT reduceMul)
set_option linter.unusedSimpArgs false
set_option linter.unusedVariables false
section
namespace Go.Am
set_option maxRecDepth 8000
set_option maxHeartbeats 4000000
set_option linter.unusedSimpArgs false
set_option linter.unusedVariables false
noncomputable section
variable (p : FuncId → Option (List AV → List Blk → Option Res))
def JbG (r : List UInt8) : Option Res := some (.p (.s r), [])
def J3A (x0 : List UInt8) (x1 : Int) : Option (List UInt8) := Jjd x0 x1
theorem JhB {x0 : List UInt8} {x1 : Int} {o : List UInt8} (h : J3A x0 x1 = some o) : AF (J2 p) J2f [.p (.s x0), .p (.i .i64 x1)] [] = JbG o := by
 rw [Jfz (Jhv p)]
 have h' : Jjd x0 x1 = some o := h
 simp only [JlX, h', Option.map_some, JbG]
theorem J9y {x0 : List UInt8} {x1 : Int} {o : List UInt8} (h : J3A x0 x1 = some o) : ∀ ws new st, (Jj (AF (J2 p)) J2f ([.p (.s x0), .p (.i .i64 x1)], ws) 0 new).run st = some ⟨.p (.s o), ws⟩ := Jx rfl (JhB p h) rfl
def J0I  (r : Bool) : Option Res := some (.p (.b r), [])
def J8R (x0 x1 : List T_api_Copy) (x12 : Int) (o : (Int) ⊕ (Bool)) : Option Res := match o with
 | .inl s => rk (J2 p) JK 0 [.bl 0, .sq (.keep [] J0d)] (X (J2 p) (.lp 0 [0, 1, 12, 13] JP) ⟨[(0, .p (.sl 3 (List.map J6 x0))), (1, .p (.sl 3 (List.map J6 x1))), (12, .p (.i .i64 x12)), (13, .p (.i .i64 s))], []⟩)
 | .inr o => J0I o
def J2V  : Option (Bool) :=
 some true
theorem J8P  {o : Bool} (h : J2V = some o) :
  rk (J2 p) JK 0 [] (X (J2 p) J0d ⟨[], []⟩) = J0I o := by
 unfold J2V at h
 obtain rfl := sj h
 try simp only [↓Da, Ua, J0d, J3C, ↓reduceIte, reduceEqDiff, reduceAdd, reduceLT, reduceMul]
 rfl
def J0x (x0 x1 : List T_api_Copy) (x12 x13 : Int) : Option (((Int) ⊕ (Bool))) :=
 if (decide (x13 < x12)) then
  Option.bind (idx x0 x13) fun y2 =>
  Option.bind (idx x1 x13) fun y5 =>
  if (y2 == y5) then
   some (.inl (IntKind.wrap .i64 (x13 + 1)))
  else
   some (.inr false)
 else
  Option.map (fun o => .inr o) (J2V)
theorem J5n {x0 x1 : List T_api_Copy} {x12 x13 : Int} {o : ((Int) ⊕ (Bool))} (h : J0x x0 x1 x12 x13 = some o) :
  rk (J2 p) JK 0 [.lo 0 [0, 1, 12, 13] JP, .bl 0, .sq (.keep [] J0d)] (X (J2 p) JP ⟨[(0, .p (.sl 3 (List.map J6 x0))), (1, .p (.sl 3 (List.map J6 x1))), (12, .p (.i .i64 x12)), (13, .p (.i .i64 x13))], []⟩) = (J8R p x0 x1 x12) o := by
 unfold J0x at h
 rcases Jb h with ⟨h1, h⟩ | ⟨h1, h⟩
 ·obtain ⟨y2, h3, h⟩ := bi h
  have f4 := J4t (r := J6) h3
  try simp only [Nf] at f4
  obtain ⟨y5, h6, h⟩ := bi h
  have f7 := J4t (r := J6) h6
  try simp only [Nf] at f7
  try simp only [↓Da, Ua, JP, J8, J4W, *, ↓reduceIte, reduceEqDiff, reduceAdd, reduceLT, reduceMul]
  rcases Jb h with ⟨h9, h⟩ | ⟨h9, h⟩
  ·obtain rfl := sj h
   try simp only [↓Da, Ua, JP, J8, J4W, *, ↓reduceIte, reduceEqDiff, reduceAdd, reduceLT, reduceMul]
   rfl
  ·obtain rfl := sj h
   try simp only [↓Da, Ua, JP, J8, J4W, J3C, *, ↓reduceIte, reduceEqDiff, reduceAdd, reduceLT, reduceMul]
   rfl
 ·obtain ⟨o', h', rfl⟩ := mi h
  try simp only [↓Da, Ua, JP, J8, *, ↓reduceIte, reduceEqDiff, reduceAdd, reduceLT, reduceMul]
  have e0 := J8P p h'
  exact e0
def J2U (x0 x1 : List T_api_Copy) (x12 s : Int) : Option (Bool) :=
 Ju (fun s => J0x x0 x1 x12 s) s
theorem J8l {x0 x1 : List T_api_Copy} {x12 s : Int} {o : Bool} (h : J2U x0 x1 x12 s = some o) :
  rk (J2 p) JK 0 [.bl 0, .sq (.keep [] J0d)] (X (J2 p) (.lp 0 [0, 1, 12, 13] JP) ⟨[(0, .p (.sl 3 (List.map J6 x0))), (1, .p (.sl 3 (List.map J6 x1))), (12, .p (.i .i64 x12)), (13, .p (.i .i64 s))], []⟩) = J0I o := by
 have h0 : Ju (fun s => J0x x0 x1 x12 s) s = some o := h
 exact J0m (P := fun (s : Int) (o : Bool) => rk (J2 p) JK 0 [.bl 0, .sq (.keep [] J0d)] (X (J2 p) (.lp 0 [0, 1, 12, 13] JP) ⟨[(0, .p (.sl 3 (List.map J6 x0))), (1, .p (.sl 3 (List.map J6 x1))), (12, .p (.i .i64 x12)), (13, .p (.i .i64 s))], []⟩) = J0I o) (fun s r hs => by rw [J0q]; exact J5n p hs) (fun s s1 r hs ih => by rw [J0q]; exact (J5n p hs).trans ih) h0
def J0G (x0 x1 : List T_api_Copy) : Option (Bool) :=
 if ((((List.length x0 : Nat) : Int) : Int) != ((List.length x1 : Nat) : Int)) then
  some false
 else
  J2U x0 x1 ((List.length x0 : Nat) : Int) 0
theorem J8o {x0 x1 : List T_api_Copy} {o : Bool} (h : J0G x0 x1 = some o) :
  rk (J2 p) JK 0 [] (X (J2 p) J0F ⟨[(0, .p (.sl 3 (List.map J6 x0))), (1, .p (.sl 3 (List.map J6 x1)))], []⟩) = J0I o := by
 unfold J0G at h
 rcases Jb h with ⟨h1, h⟩ | ⟨h1, h⟩
 ·obtain rfl := sj h
  try simp only [↓Da, Ua, J0F, J8, J3C, *, ↓reduceIte, reduceEqDiff, reduceAdd, reduceLT, reduceMul]
  rfl
 ·try simp only [↓Da, Ua, J0F, J8, *, ↓reduceIte, reduceEqDiff, reduceAdd, reduceLT, reduceMul]
  have e0 := J8l p h
  exact e0
theorem J9t {x0 x1 : List T_api_Copy} {o : Bool} (h : J0G x0 x1 = some o) : AF (J2 p) J0H [.p (.sl 3 (List.map J6 x0)), .p (.sl 3 (List.map J6 x1))] [] = J0I o :=
 (J0r (J2 p) (J9r p) rfl).trans (J8o p h)
theorem J9n {x0 x1 : List T_api_Copy} {o : Bool} (h : J0G x0 x1 = some o) : ∀ ws new st, (Jj (AF (J2 p)) J0H ([.p (.sl 3 (List.map J6 x0)), .p (.sl 3 (List.map J6 x1))], ws) 0 new).run st = some ⟨.p (.b o), ws⟩ := Jx rfl (J9t p h) rfl
def J1l (x0 : List T_api_Copy) : Option (List T_api_Copy) := if (2 * x0.length + 512) * 32 ≤ 281474976710656 then some x0 else none
theorem J9w {x0 o : List T_api_Copy} (h : J1l x0 = some o) : AF (J2 p) J0E [.p (.sl 3 (List.map J6 x0))] [] = some (.slr 0 0 o.length, [.arr true 3 (List.map J6 o)]) := by
 unfold J1l at h
 split at h
 ·rename_i h2
  injection h with h; subst h
  rw [JtD _ (J9q p)]
  cases x0 with
  | nil => simp [J1m, Jbe, JdM, Jad.af]
  | cons a r =>
   simp at h2
   simp [J1m, Jbe, JdM, Jad.af, h2]
 ·cases h
def J1b (x0 : List T_api_Copy) (x1 : Int) (x2 : List T_api_Copy) : Option (List T_api_Copy) := match x2 with
 | [v] => JeU 32 x0 x1 v
 | _ => none
theorem J94 {x0 x2 : List T_api_Copy} {x1 : Int} {o : List T_api_Copy} (h : J1b x0 x1 x2 = some o) : AF (J2 p) J19 [.slr 0 0 (List.length x0), .p (.i .i64 x1), .slr 1 0 (List.length x2)] [.arr true 3 (List.map J6 x0), .arr true 3 (List.map J6 x2)] = some (.slr 0 0 (List.length o), [.arr true 3 (List.map J6 o), .arr true 3 (List.map J6 x2)]) := by
 rw [Jfz (J90 p)]
 unfold J1b at h
 split at h
 ·exact JtW J6 h
 ·cases h
def Jcp  (r : Bool) : Option Res := some (.p (.b r), [])
def J41 (x0 : T_api_Page) : Option (Bool) :=
 if (decide (x0.ID ≥ 0)) then
  if (decide (x0.ID < 64)) then
   if (decide (x0.LSN ≥ 0)) then
    some (decide (x0.LSN ≤ 1099511627776))
   else
    some false
  else
   some false
 else
  some false
theorem Jep {x0 : T_api_Page} {o : Bool} (h : J41 x0 = some o) :
  rk (J2 p) J53 0 [] (X (J2 p) J22 ⟨[(0, .data (J4 x0))], []⟩) = Jcp o := by
 unfold J41 at h
 rcases Jb h with ⟨h1, h⟩ | ⟨h1, h⟩
 ·try simp only [↓Da, Ua, J22, J5, J1, J3, *, ↓reduceIte, reduceEqDiff, reduceAdd, reduceLT, reduceMul]
  rcases Jb h with ⟨h2, h⟩ | ⟨h2, h⟩
  ·try simp only [↓Da, Ua, J22, J5, J1, J3, *, ↓reduceIte, reduceEqDiff, reduceAdd, reduceLT, reduceMul]
   rcases Jb h with ⟨h3, h⟩ | ⟨h3, h⟩
   ·obtain rfl := sj h
    try simp only [↓Da, Ua, J22, J5, J1, J3, J83, *, ↓reduceIte, reduceEqDiff, reduceAdd, reduceLT, reduceMul]
    rfl
   ·obtain rfl := sj h
    try simp only [↓Da, Ua, J22, J5, J1, J3, J83, *, ↓reduceIte, reduceEqDiff, reduceAdd, reduceLT, reduceMul]
    rfl
  ·obtain rfl := sj h
   try simp only [↓Da, Ua, J22, J5, J1, J3, J83, *, ↓reduceIte, reduceEqDiff, reduceAdd, reduceLT, reduceMul]
   rfl
 ·obtain rfl := sj h
  try simp only [↓Da, Ua, J22, J5, J1, J3, J83, *, ↓reduceIte, reduceEqDiff, reduceAdd, reduceLT, reduceMul]
  rfl
theorem Jiv {x0 : T_api_Page} {o : Bool} (h : J41 x0 = some o) : AF (J2 p) J51 [.data (J4 x0)] [] = Jcp o :=
 (J0r (J2 p) (Ji9 p) rfl).trans (Jep p h)
theorem JhM {x0 : T_api_Page} {o : Bool} (h : J41 x0 = some o) : ∀ ws new st, (Jj (AF (J2 p)) J51 ([.data (J4 x0)], ws) 0 new).run st = some ⟨.p (.b o), ws⟩ := Jx rfl (Jiv p h) rfl
def J7R  (r : Int × Int) : Option Res := some (.tup [.p (.i .i64 r.1), .p (.i .i64 r.2)], [])
def Jkn (x0 : List UInt8) (x1 x2 : Int) (o : (Int × Int) ⊕ (Int × Int)) : Option Res := match o with
 | .inl s => rk (J2 p) J3k 0 [.bl 0, .sq (.keep [8] J5d)] (X (J2 p) (.lp 0 [0, 1, 2, 8, 9] J4p) ⟨[(0, .p (.s x0)), (1, .p (.i .i64 x1)), (2, .p (.i .i64 x2)), (8, .p (.i .u64 s.1)), (9, .p (.i .i64 s.2))], []⟩)
 | .inr o => J7R o
def J98 (x8 : Int) : Option (Int × Int) :=
 some ((IntKind.wrap .i64 x8), 0)
theorem Jl6 {x8 : Int} {o : Int × Int} (h : J98 x8 = some o) :
  rk (J2 p) J3k 0 [] (X (J2 p) J5d ⟨[(8, .p (.i .u64 x8))], []⟩) = J7R o := by
 unfold J98 at h
 obtain rfl := sj h
 try simp only [↓Da, Ua, J5d, J7M, ↓reduceIte, reduceEqDiff, reduceAdd, reduceLT, reduceMul]
 rfl
def J63 (x0 : List UInt8) (x1 x2 : Int) (x8 x9 : Int) : Option (((Int × Int) ⊕ (Int × Int))) :=
 if (decide (x9 < x2)) then
  Option.bind (Jcu x0 (IntKind.wrap .i64 (x1 + x9))) fun c2 =>
  Option.bind (JcF .u64 (IntKind.wrap .u64 c2) (IntKind.wrap .u64 (IntKind.wrap .i64 (8 * x9)))) fun q4 =>
  some (.inl ((orI .u64 x8 q4), (IntKind.wrap .i64 (x9 + 1))))
 else
  Option.map (fun o => .inr o) (J98 x8)
theorem Je7 {x0 : List UInt8} {x1 x2 : Int} {x8 x9 : Int} {o : ((Int × Int) ⊕ (Int × Int))} (h : J63 x0 x1 x2 x8 x9 = some o) :
  rk (J2 p) J3k 0 [.lo 0 [0, 1, 2, 8, 9] J4p, .bl 0, .sq (.keep [8] J5d)] (X (J2 p) J4p ⟨[(0, .p (.s x0)), (1, .p (.i .i64 x1)), (2, .p (.i .i64 x2)), (8, .p (.i .u64 x8)), (9, .p (.i .i64 x9))], []⟩) = (Jkn p x0 x1 x2) o := by
 unfold J63 at h
 rcases Jb h with ⟨h1, h⟩ | ⟨h1, h⟩
 ·obtain ⟨c2, h3, h⟩ := bi h
  obtain ⟨q4, h5, h⟩ := bi h
  obtain rfl := sj h
  try simp only [↓Da, Ua, J4p, *, ↓reduceIte, reduceEqDiff, reduceAdd, reduceLT, reduceMul]
  rfl
 ·obtain ⟨o', h', rfl⟩ := mi h
  try simp only [↓Da, Ua, J4p, *, ↓reduceIte, reduceEqDiff, reduceAdd, reduceLT, reduceMul]
  have e0 := Jl6 p h'
  exact e0
def JaS (x0 : List UInt8) (x1 x2 : Int) (s : Int × Int) : Option (Int × Int) :=
 Ju (fun s => J63 x0 x1 x2 s.1 s.2) s
theorem Jiq {x0 : List UInt8} {x1 x2 : Int} {s o : Int × Int} (h : JaS x0 x1 x2 s = some o) :
  rk (J2 p) J3k 0 [.bl 0, .sq (.keep [8] J5d)] (X (J2 p) (.lp 0 [0, 1, 2, 8, 9] J4p) ⟨[(0, .p (.s x0)), (1, .p (.i .i64 x1)), (2, .p (.i .i64 x2)), (8, .p (.i .u64 s.1)), (9, .p (.i .i64 s.2))], []⟩) = J7R o := by
 have h0 : Ju (fun s => J63 x0 x1 x2 s.1 s.2) s = some o := h
 exact J0m (P := fun (s : Int × Int) (o : Int × Int) => rk (J2 p) J3k 0 [.bl 0, .sq (.keep [8] J5d)] (X (J2 p) (.lp 0 [0, 1, 2, 8, 9] J4p) ⟨[(0, .p (.s x0)), (1, .p (.i .i64 x1)), (2, .p (.i .i64 x2)), (8, .p (.i .u64 s.1)), (9, .p (.i .i64 s.2))], []⟩) = J7R o) (fun s r hs => by rw [J0q]; exact Je7 p hs) (fun s s1 r hs ih => by rw [J0q]; exact (Je7 p hs).trans ih) h0
def J2K (x0 : List UInt8) (x1 x2 : Int) : Option (Int × Int) :=
 if (decide (x2 < 1)) then
  some (0, 1)
 else
  if (decide (x2 > 8)) then
   some (0, 1)
  else
   if (decide (x1 < 0)) then
    some (0, 1)
   else
    if (decide (x1 > ((List.length x0 : Nat) : Int))) then
     some (0, 5)
    else
     if (decide ((IntKind.wrap .i64 (((List.length x0 : Nat) : Int) - x1)) < x2)) then
      some (0, 5)
     else
      JaS x0 x1 x2 (0, 0)
theorem Jiz {x0 : List UInt8} {x1 x2 : Int} {o : Int × Int} (h : J2K x0 x1 x2 = some o) :
  rk (J2 p) J3k 0 [] (X (J2 p) J23 ⟨[(0, .p (.s x0)), (1, .p (.i .i64 x1)), (2, .p (.i .i64 x2))], []⟩) = J7R o := by
 unfold J2K at h
 rcases Jb h with ⟨h1, h⟩ | ⟨h1, h⟩
 ·obtain rfl := sj h
  try simp only [↓Da, Ua, J23, J7M, *, ↓reduceIte, reduceEqDiff, reduceAdd, reduceLT, reduceMul]
  rfl
 ·try simp only [↓Da, Ua, J23, *, ↓reduceIte, reduceEqDiff, reduceAdd, reduceLT, reduceMul]
  rcases Jb h with ⟨h2, h⟩ | ⟨h2, h⟩
  ·obtain rfl := sj h
   try simp only [↓Da, Ua, J23, J7M, *, ↓reduceIte, reduceEqDiff, reduceAdd, reduceLT, reduceMul]
   rfl
  ·try simp only [↓Da, Ua, J23, *, ↓reduceIte, reduceEqDiff, reduceAdd, reduceLT, reduceMul]
   rcases Jb h with ⟨h3, h⟩ | ⟨h3, h⟩
   ·obtain rfl := sj h
    try simp only [↓Da, Ua, J23, J7M, *, ↓reduceIte, reduceEqDiff, reduceAdd, reduceLT, reduceMul]
    rfl
   ·try simp only [↓Da, Ua, J23, *, ↓reduceIte, reduceEqDiff, reduceAdd, reduceLT, reduceMul]
    rcases Jb h with ⟨h4, h⟩ | ⟨h4, h⟩
    ·obtain rfl := sj h
     try simp only [↓Da, Ua, J23, J7M, *, ↓reduceIte, reduceEqDiff, reduceAdd, reduceLT, reduceMul]
     rfl
    ·try simp only [↓Da, Ua, J23, *, ↓reduceIte, reduceEqDiff, reduceAdd, reduceLT, reduceMul]
     rcases Jb h with ⟨h5, h⟩ | ⟨h5, h⟩
     ·obtain rfl := sj h
      try simp only [↓Da, Ua, J23, J7M, *, ↓reduceIte, reduceEqDiff, reduceAdd, reduceLT, reduceMul]
      rfl
     ·try simp only [↓Da, Ua, J23, *, ↓reduceIte, reduceEqDiff, reduceAdd, reduceLT, reduceMul]
      have e0 := Jiq p h
      exact e0
theorem JnA {x0 : List UInt8} {x1 x2 : Int} {o : Int × Int} (h : J2K x0 x1 x2 = some o) : AF (J2 p) J5y [.p (.s x0), .p (.i .i64 x1), .p (.i .i64 x2)] [] = J7R o :=
 (J0r (J2 p) (Jnn p) rfl).trans (Jiz p h)
theorem JcK {x0 : List UInt8} {x1 x2 : Int} {o : Int × Int} (h : J2K x0 x1 x2 = some o) : ∀ ws new st, (Jj (AF (J2 p)) J5y ([.p (.s x0), .p (.i .i64 x1), .p (.i .i64 x2)], ws) 0 new).run st = some ⟨.tup [.p (.i .i64 o.1), .p (.i .i64 o.2)], ws⟩ := Jx rfl (JnA p h) rfl
def Jgv  (r : T_api_Page) : Option Res := some (.data (J4 r), [])
def J7F (x0 : Int) : Option (T_api_Page) :=
 some (⟨x0, 0, (Vector.replicate 16 (⟨false, []⟩ : Jc))⟩ : T_api_Page)
theorem JiA {x0 : Int} {o : T_api_Page} (h : J7F x0 = some o) :
  rk (J2 p) J7E 0 [] (X (J2 p) J8V ⟨[(0, .p (.i .i64 x0))], []⟩) = Jgv o := by
 unfold J7F at h
 obtain rfl := sj h
 try simp only [↓Da, Ua, J8V, J5, J1, J3, Jny, ↓reduceIte, reduceEqDiff, reduceAdd, reduceLT, reduceMul]
 rfl
theorem Jn1 {x0 : Int} {o : T_api_Page} (h : J7F x0 = some o) : AF (J2 p) J7S [.p (.i .i64 x0)] [] = Jgv o :=
 (J0r (J2 p) (Jnb p) rfl).trans (JiA p h)
theorem Jnc {x0 : Int} {o : T_api_Page} (h : J7F x0 = some o) : ∀ ws new st, (Jj (AF (J2 p)) J7S ([.p (.i .i64 x0)], ws) 0 new).run st = some ⟨.data (J4 o), ws⟩ := Jx rfl (Jn1 p h) rfl
def Jfe  (r : Bool) : Option Res := some (.p (.b r), [])
def J16 (x0 : Int) : Option (Bool) :=
 if (decide (x0 ≥ 0)) then
  some (decide (x0 < 64))
 else
  some false
theorem JgL {x0 : Int} {o : Bool} (h : J16 x0 = some o) :
  rk (J2 p) J73 0 [] (X (J2 p) J72 ⟨[(0, .p (.i .i64 x0))], []⟩) = Jfe o := by
 unfold J16 at h
 rcases Jb h with ⟨h1, h⟩ | ⟨h1, h⟩
 ·obtain rfl := sj h
  try simp only [↓Da, Ua, J72, JeA, *, ↓reduceIte, reduceEqDiff, reduceAdd, reduceLT, reduceMul]
  rfl
 ·obtain rfl := sj h
  try simp only [↓Da, Ua, J72, JeA, *, ↓reduceIte, reduceEqDiff, reduceAdd, reduceLT, reduceMul]
  rfl
theorem JmL {x0 : Int} {o : Bool} (h : J16 x0 = some o) : AF (J2 p) J5K [.p (.i .i64 x0)] [] = Jfe o :=
 (J0r (J2 p) (Jmi p) rfl).trans (JgL p h)
theorem JeK {x0 : Int} {o : Bool} (h : J16 x0 = some o) : ∀ ws new st, (Jj (AF (J2 p)) J5K ([.p (.i .i64 x0)], ws) 0 new).run st = some ⟨.p (.b o), ws⟩ := Jx rfl (JmL p h) rfl
def Jig  (r : T_api_Page) : Option Res := some (.data (J4 r), [])
def J8t (x0 : Int) : Option (T_api_Page) :=
 some (⟨x0, 0, (Vector.replicate 16 (⟨false, []⟩ : Jc))⟩ : T_api_Page)
theorem Jj8 {x0 : Int} {o : T_api_Page} (h : J8t x0 = some o) :
  rk (J2 p) J8A 0 [] (X (J2 p) Ja0 ⟨[(0, .p (.i .i64 x0))], []⟩) = Jig o := by
 unfold J8t at h
 obtain rfl := sj h
 try simp only [↓Da, Ua, Ja0, J5, J1, J3, Jor, ↓reduceIte, reduceEqDiff, reduceAdd, reduceLT, reduceMul]
 rfl
theorem Joz {x0 : Int} {o : T_api_Page} (h : J8t x0 = some o) : AF (J2 p) J8B [.p (.i .i64 x0)] [] = Jig o :=
 (J0r (J2 p) (Jpc p) rfl).trans (Jj8 p h)
theorem Jow {x0 : Int} {o : T_api_Page} (h : J8t x0 = some o) : ∀ ws new st, (Jj (AF (J2 p)) J8B ([.p (.i .i64 x0)], ws) 0 new).run st = some ⟨.data (J4 o), ws⟩ := Jx rfl (Joz p h) rfl
def J3K  (r : (Vector Int 16)) : Option Res := some (.data ((J06 (r_i .u32)) r), [])
def J2R (b0 : Vector Int 16) (o : (Int × (Vector Int 16)) ⊕ ((Vector Int 16))) : Option Res := match o with
 | .inl s => rk (J2 p) J00 0 [.bl 0, .sq (.keep [0, 1] J0c)] (X (J2 p) (.lp 2 [0, 1, 4] J08) ⟨[(0, .ptr 0 0), (1, .ptr 1 0), (4, .p (.i .i64 s.1))], [.box (List.map AV.p ((J06 (r_i .u32)) b0)), .box (List.map AV.p ((J06 (r_i .u32)) s.2))]⟩)
 | .inr o => J3K o
def Jdu (x2 x4 : Int) (b0 b1 : Vector Int 16) (o : (Int × Int) ⊕ (((Int × (Vector Int 16)) ⊕ ((Vector Int 16))))) : Option Res := match o with
 | .inl s => rk (J2 p) J00 0 [.bl 2, .sq (.keep [0, 1, 2, 3, 4] J2a), .bl 1, .sq (.keep [0, 1, 4] J1B), .lo 2 [0, 1, 4] J08, .bl 0, .sq (.keep [0, 1] J0c)] (X (J2 p) (.lp 2 [0, 1, 2, 3, 4, 9] J0R) ⟨[(0, .ptr 0 0), (1, .ptr 1 0), (2, .p (.i .i64 x2)), (3, .p (.i .u32 s.1)), (4, .p (.i .i64 x4)), (9, .p (.i .i64 s.2))], [.box (List.map AV.p ((J06 (r_i .u32)) b0)), .box (List.map AV.p ((J06 (r_i .u32)) b1))]⟩)
 | .inr o => (J2R p b0) o
def J3T (x4 : Int) (b0 b1 : Vector Int 16) : Option (((Int × (Vector Int 16)) ⊕ ((Vector Int 16)))) :=
 some (.inl ((IntKind.wrap .i64 (x4 + 1)), b1))
theorem Jdq {x4 : Int} {b0 b1 : Vector Int 16} {o : ((Int × (Vector Int 16)) ⊕ ((Vector Int 16)))} (h : J3T x4 b0 b1 = some o) :
  rk (J2 p) J00 0 [.lo 2 [0, 1, 4] J08, .bl 0, .sq (.keep [0, 1] J0c)] (X (J2 p) J1B ⟨[(0, .ptr 0 0), (1, .ptr 1 0), (4, .p (.i .i64 x4))], [.box (List.map AV.p ((J06 (r_i .u32)) b0)), .box (List.map AV.p ((J06 (r_i .u32)) b1))]⟩) = (J2R p b0) o := by
 unfold J3T at h
 obtain rfl := sj h
 try simp only [↓Da, Ua, J1B, ↓reduceIte, reduceEqDiff, reduceAdd, reduceLT, reduceMul]
 rfl
def J42 (x2 x3 x4 : Int) (b0 b1 : Vector Int 16) : Option (((Int × (Vector Int 16)) ⊕ ((Vector Int 16)))) :=
 Option.bind (inb 16 x2) fun u1 =>
 Option.bind (J80 b1 x2) fun y4 =>
 J3T x4 b0 (J7Z b1 x2 x3)
theorem JdP {x2 x3 x4 : Int} {b0 b1 : Vector Int 16} {o : ((Int × (Vector Int 16)) ⊕ ((Vector Int 16)))} (h : J42 x2 x3 x4 b0 b1 = some o) :
  rk (J2 p) J00 0 [.bl 1, .sq (.keep [0, 1, 4] J1B), .lo 2 [0, 1, 4] J08, .bl 0, .sq (.keep [0, 1] J0c)] (X (J2 p) J2a ⟨[(0, .ptr 0 0), (1, .ptr 1 0), (2, .p (.i .i64 x2)), (3, .p (.i .u32 x3)), (4, .p (.i .i64 x4))], [.box (List.map AV.p ((J06 (r_i .u32)) b0)), .box (List.map AV.p ((J06 (r_i .u32)) b1))]⟩) = (J2R p b0) o := by
 unfold J42 at h
 obtain ⟨u1, h2, h⟩ := bi h
 have f3 : (0 ≤ (x2 : Int) ∧ (x2 : Int) < ((16 : Nat) : Int)) = True := eq_true (J8x h2)
 obtain ⟨y4, h5, h⟩ := bi h
 have f6 : spl ((J06 (r_i .u32)) b1) (Int.toNat x2 * 1) ((r_i .u32) x3) = some ((J06 (r_i .u32)) (J7Z b1 x2 x3)) := by
  have e0 := (Jic (v := b1) (Jan .u32) (JfI h5) x3)
  exact e0
 try simp only [Nf] at f6
 try simp only [↓Da, Ua, J2a, *, ↓reduceIte, reduceEqDiff, reduceAdd, reduceLT, reduceMul]
 have e0 := Jdq p h
 exact e0
def J0u (x2 x4 : Int) (b0 b1 : Vector Int 16) (x3 x9 : Int) : Option (((Int × Int) ⊕ (((Int × (Vector Int 16)) ⊕ ((Vector Int 16)))))) :=
 if (decide (x9 < 4)) then
  if (((J4G .u32 x3 1) : Int) == 1) then
   Option.bind (J7V .u32 x3 1) fun q3 =>
   some (.inl ((J5S .u32 q3 2197175160), (IntKind.wrap .i64 (x9 + 1))))
  else
   Option.bind (J7V .u32 x3 1) fun q5 =>
   some (.inl (q5, (IntKind.wrap .i64 (x9 + 1))))
 else
  Option.map (fun o => .inr o) (J42 x2 x3 x4 b0 b1)
theorem Ja8 {x2 x4 : Int} {b0 b1 : Vector Int 16} {x3 x9 : Int} {o : ((Int × Int) ⊕ (((Int × (Vector Int 16)) ⊕ ((Vector Int 16)))))} (h : J0u x2 x4 b0 b1 x3 x9 = some o) :
  rk (J2 p) J00 0 [.lo 2 [0, 1, 2, 3, 4, 9] J0R, .bl 2, .sq (.keep [0, 1, 2, 3, 4] J2a), .bl 1, .sq (.keep [0, 1, 4] J1B), .lo 2 [0, 1, 4] J08, .bl 0, .sq (.keep [0, 1] J0c)] (X (J2 p) J0R ⟨[(0, .ptr 0 0), (1, .ptr 1 0), (2, .p (.i .i64 x2)), (3, .p (.i .u32 x3)), (4, .p (.i .i64 x4)), (9, .p (.i .i64 x9))], [.box (List.map AV.p ((J06 (r_i .u32)) b0)), .box (List.map AV.p ((J06 (r_i .u32)) b1))]⟩) = (Jdu p x2 x4 b0 b1) o := by
 unfold J0u at h
 rcases Jb h with ⟨h1, h⟩ | ⟨h1, h⟩
 ·try simp only [↓Da, Ua, J0R, *, ↓reduceIte, reduceEqDiff, reduceAdd, reduceLT, reduceMul]
  rcases Jb h with ⟨h2, h⟩ | ⟨h2, h⟩
  ·have h2n : (((J4G .u32 x3 1) : Int) != 1) = false := by rw [bne, h2]; rfl
   obtain ⟨q3, h4, h⟩ := bi h
   obtain rfl := sj h
   try simp only [↓Da, Ua, J0R, *, ↓reduceIte, reduceEqDiff, reduceAdd, reduceLT, reduceMul]
   rfl
  ·have h2n : (((J4G .u32 x3 1) : Int) != 1) = true := by rw [bne, h2]; rfl
   obtain ⟨q5, h6, h⟩ := bi h
   obtain rfl := sj h
   try simp only [↓Da, Ua, J0R, *, ↓reduceIte, reduceEqDiff, reduceAdd, reduceLT, reduceMul]
   rfl
 ·obtain ⟨o', h', rfl⟩ := mi h
  try simp only [↓Da, Ua, J0R, *, ↓reduceIte, reduceEqDiff, reduceAdd, reduceLT, reduceMul]
  have e0 := JdP p h'
  exact e0
def J7k (x2 x4 : Int) (b0 b1 : Vector Int 16) (s : Int × Int) : Option (((Int × (Vector Int 16)) ⊕ ((Vector Int 16)))) :=
 Ju (fun s => J0u x2 x4 b0 b1 s.1 s.2) s
theorem JcG {x2 x4 : Int} {b0 b1 : Vector Int 16} {s : Int × Int} {o : ((Int × (Vector Int 16)) ⊕ ((Vector Int 16)))} (h : J7k x2 x4 b0 b1 s = some o) :
  rk (J2 p) J00 0 [.bl 2, .sq (.keep [0, 1, 2, 3, 4] J2a), .bl 1, .sq (.keep [0, 1, 4] J1B), .lo 2 [0, 1, 4] J08, .bl 0, .sq (.keep [0, 1] J0c)] (X (J2 p) (.lp 2 [0, 1, 2, 3, 4, 9] J0R) ⟨[(0, .ptr 0 0), (1, .ptr 1 0), (2, .p (.i .i64 x2)), (3, .p (.i .u32 s.1)), (4, .p (.i .i64 x4)), (9, .p (.i .i64 s.2))], [.box (List.map AV.p ((J06 (r_i .u32)) b0)), .box (List.map AV.p ((J06 (r_i .u32)) b1))]⟩) = (J2R p b0) o := by
 have h0 : Ju (fun s => J0u x2 x4 b0 b1 s.1 s.2) s = some o := h
 exact J0m (P := fun (s : Int × Int) (o : ((Int × (Vector Int 16)) ⊕ ((Vector Int 16)))) => rk (J2 p) J00 0 [.bl 2, .sq (.keep [0, 1, 2, 3, 4] J2a), .bl 1, .sq (.keep [0, 1, 4] J1B), .lo 2 [0, 1, 4] J08, .bl 0, .sq (.keep [0, 1] J0c)] (X (J2 p) (.lp 2 [0, 1, 2, 3, 4, 9] J0R) ⟨[(0, .ptr 0 0), (1, .ptr 1 0), (2, .p (.i .i64 x2)), (3, .p (.i .u32 s.1)), (4, .p (.i .i64 x4)), (9, .p (.i .i64 s.2))], [.box (List.map AV.p ((J06 (r_i .u32)) b0)), .box (List.map AV.p ((J06 (r_i .u32)) b1))]⟩) = (J2R p b0) o) (fun s r hs => by rw [J0q]; exact Ja8 p hs) (fun s s1 r hs ih => by rw [J0q]; exact (Ja8 p hs).trans ih) h0
def J44 (b0 b1 : Vector Int 16) : Option ((Vector Int 16)) :=
 some b1
theorem JdJ {b0 b1 : Vector Int 16} {o : (Vector Int 16)} (h : J44 b0 b1 = some o) :
  rk (J2 p) J00 0 [] (X (J2 p) J0c ⟨[(0, .ptr 0 0), (1, .ptr 1 0)], [.box (List.map AV.p ((J06 (r_i .u32)) b0)), .box (List.map AV.p ((J06 (r_i .u32)) b1))]⟩) = J3K o := by
 unfold J44 at h
 obtain rfl := sj h
 try simp only [↓Da, Ua, J0c, J6y, JeY, ↓reduceIte, reduceEqDiff, reduceAdd, reduceLT, reduceMul]
 rfl
def J0S (b0 : Vector Int 16) (x4 : Int) (b1 : Vector Int 16) : Option (((Int × (Vector Int 16)) ⊕ ((Vector Int 16)))) :=
 if (decide (x4 < 16)) then
  J7k x4 x4 b0 b1 ((IntKind.wrap .u32 x4), 0)
 else
  Option.map (fun o => .inr o) (J44 b0 b1)
theorem Jaa {b0 : Vector Int 16} {x4 : Int} {b1 : Vector Int 16} {o : ((Int × (Vector Int 16)) ⊕ ((Vector Int 16)))} (h : J0S b0 x4 b1 = some o) :
  rk (J2 p) J00 0 [.lo 2 [0, 1, 4] J08, .bl 0, .sq (.keep [0, 1] J0c)] (X (J2 p) J08 ⟨[(0, .ptr 0 0), (1, .ptr 1 0), (4, .p (.i .i64 x4))], [.box (List.map AV.p ((J06 (r_i .u32)) b0)), .box (List.map AV.p ((J06 (r_i .u32)) b1))]⟩) = (J2R p b0) o := by
 unfold J0S at h
 rcases Jb h with ⟨h1, h⟩ | ⟨h1, h⟩
 ·try simp only [↓Da, Ua, J08, *, ↓reduceIte, reduceEqDiff, reduceAdd, reduceLT, reduceMul]
  have e0 := JcG p h
  exact e0
 ·obtain ⟨o', h', rfl⟩ := mi h
  try simp only [↓Da, Ua, J08, *, ↓reduceIte, reduceEqDiff, reduceAdd, reduceLT, reduceMul]
  have e0 := JdJ p h'
  exact e0
def J9F (b0 : Vector Int 16) (s : Int × (Vector Int 16)) : Option ((Vector Int 16)) :=
 Ju (fun s => J0S b0 s.1 s.2) s
theorem JcD {b0 : Vector Int 16} {s : Int × (Vector Int 16)} {o : (Vector Int 16)} (h : J9F b0 s = some o) :
  rk (J2 p) J00 0 [.bl 0, .sq (.keep [0, 1] J0c)] (X (J2 p) (.lp 2 [0, 1, 4] J08) ⟨[(0, .ptr 0 0), (1, .ptr 1 0), (4, .p (.i .i64 s.1))], [.box (List.map AV.p ((J06 (r_i .u32)) b0)), .box (List.map AV.p ((J06 (r_i .u32)) s.2))]⟩) = J3K o := by
 have h0 : Ju (fun s => J0S b0 s.1 s.2) s = some o := h
 exact J0m (P := fun (s : Int × (Vector Int 16)) (o : (Vector Int 16)) => rk (J2 p) J00 0 [.bl 0, .sq (.keep [0, 1] J0c)] (X (J2 p) (.lp 2 [0, 1, 4] J08) ⟨[(0, .ptr 0 0), (1, .ptr 1 0), (4, .p (.i .i64 s.1))], [.box (List.map AV.p ((J06 (r_i .u32)) b0)), .box (List.map AV.p ((J06 (r_i .u32)) s.2))]⟩) = J3K o) (fun s r hs => by rw [J0q]; exact Jaa p hs) (fun s s1 r hs ih => by rw [J0q]; exact (Jaa p hs).trans ih) h0
def J2F  : Option ((Vector Int 16)) :=
 J9F (Vector.replicate 16 0) (0, (Vector.replicate 16 0))
theorem JcJ  {o : (Vector Int 16)} (h : J2F = some o) :
  rk (J2 p) J00 0 [] (X (J2 p) J4U ⟨[], []⟩) = J3K o := by
 unfold J2F at h
 try simp only [↓Da, Ua, J4U, J6y, ↓reduceIte, reduceEqDiff, reduceAdd, reduceLT, reduceMul]
 have e0 := JcD p h
 exact e0
theorem JeG  {o : (Vector Int 16)} (h : J2F = some o) : AF (J2 p) J3D [] [] = J3K o :=
 (J0r (J2 p) (JeH p) rfl).trans (JcJ p h)
theorem Jfb  {o : (Vector Int 16)} (h : J2F = some o) : ∀ ws new st, (Jj (AF (J2 p)) J3D ([], ws) 0 new).run st = some ⟨.data ((J06 (r_i .u32)) o), ws⟩ := Jx rfl (JeG p h) rfl
def JbV  (r : Int) : Option Res := some (.p (.i .i64 r), [])
def J2J (x0 : T_api_Copy) (x1 : Int) : Option (Int) :=
 some (IntKind.wrap .i64 (x0.Page - x1))
theorem JdL {x0 : T_api_Copy} {x1 o : Int} (h : J2J x0 x1 = some o) :
  rk (J2 p) J4J 0 [] (X (J2 p) J5G ⟨[(0, .data (J6 x0)), (1, .p (.i .i64 x1))], []⟩) = JbV o := by
 unfold J2J at h
 obtain rfl := sj h
 try simp only [↓Da, Ua, J5G, J8, Jh7, ↓reduceIte, reduceEqDiff, reduceAdd, reduceLT, reduceMul]
 rfl
theorem JgQ {x0 : T_api_Copy} {x1 o : Int} (h : J2J x0 x1 = some o) : AF (J2 p) J0i [.data (J6 x0), .p (.i .i64 x1)] [] = JbV o :=
 (J0r (J2 p) (Jh4 p) rfl).trans (JdL p h)
theorem Jc0 {x0 : T_api_Copy} {x1 o : Int} (h : J2J x0 x1 = some o) : ∀ ws new st, (Jj (AF (J2 p)) J0i ([.data (J6 x0), .p (.i .i64 x1)], ws) 0 new).run st = some ⟨.p (.i .i64 o), ws⟩ := Jx rfl (JgQ p h) rfl
def Jb7  (r : Bool) : Option Res := some (.p (.b r), [])
def J0y (x0 : Jc) : Option (Bool) :=
 if (decide (((List.length x0.Data : Nat) : Int) ≤ 12)) then
  if x0.Set then
   some true
  else
   some (x0.Data == [])
 else
  some false
theorem Jd1 {x0 : Jc} {o : Bool} (h : J0y x0 = some o) :
  rk (J2 p) J4f 0 [] (X (J2 p) J2s ⟨[(0, .data (Jg x0))], []⟩) = Jb7 o := by
 unfold J0y at h
 rcases Jb h with ⟨h1, h⟩ | ⟨h1, h⟩
 ·try simp only [↓Da, Ua, J2s, J5, *, ↓reduceIte, reduceEqDiff, reduceAdd, reduceLT, reduceMul]
  rcases Jb h with ⟨h2, h⟩ | ⟨h2, h⟩
  ·obtain rfl := sj h
   try simp only [↓Da, Ua, J2s, J5, J8N, *, ↓reduceIte, reduceEqDiff, reduceAdd, reduceLT, reduceMul]
   rfl
  ·obtain rfl := sj h
   try simp only [↓Da, Ua, J2s, J5, J8N, *, ↓reduceIte, reduceEqDiff, reduceAdd, reduceLT, reduceMul]
   rfl
 ·obtain rfl := sj h
  try simp only [↓Da, Ua, J2s, J5, J8N, *, ↓reduceIte, reduceEqDiff, reduceAdd, reduceLT, reduceMul]
  rfl
theorem JfR {x0 : Jc} {o : Bool} (h : J0y x0 = some o) : AF (J2 p) J4d [.data (Jg x0)] [] = Jb7 o :=
 (J0r (J2 p) (Jg8 p) rfl).trans (Jd1 p h)
theorem Jg7 {x0 : Jc} {o : Bool} (h : J0y x0 = some o) : ∀ ws new st, (Jj (AF (J2 p)) J4d ([.data (Jg x0)], ws) 0 new).run st = some ⟨.p (.b o), ws⟩ := Jx rfl (JfR p h) rfl
def JdW  (r : Int) : Option Res := some (.p (.i .i64 r), [])
def JC (x0 : List UInt8) (x1 x2 : Int) : Option (Int) :=
 Option.bind (J0g x0 x1 x2) fun r1 =>
 some r1.1
theorem Jgd {x0 : List UInt8} {x1 x2 o : Int} (h : JC x0 x1 x2 = some o) :
  rk (J2 p) J67 0 [] (X (J2 p) J7D ⟨[(0, .p (.s x0)), (1, .p (.i .i64 x1)), (2, .p (.i .i64 x2))], []⟩) = JdW o := by
 unfold JC at h
 obtain ⟨r1, h2, h⟩ := bi h
 have f3 := Jnj p h2
 try simp only [Nf] at f3
 obtain rfl := sj h
 try simp only [↓Da, Ua, J7D, JkQ, *, ↓reduceIte, reduceEqDiff, reduceAdd, reduceLT, reduceMul]
 rfl
theorem JkL {x0 : List UInt8} {x1 x2 o : Int} (h : JC x0 x1 x2 = some o) : AF (J2 p) J3s [.p (.s x0), .p (.i .i64 x1), .p (.i .i64 x2)] [] = JdW o :=
 (J0r (J2 p) (JkG p) rfl).trans (Jgd p h)
theorem J9d {x0 : List UInt8} {x1 x2 o : Int} (h : JC x0 x1 x2 = some o) : ∀ ws new st, (Jj (AF (J2 p)) J3s ([.p (.s x0), .p (.i .i64 x1), .p (.i .i64 x2)], ws) 0 new).run st = some ⟨.p (.i .i64 o), ws⟩ := Jx rfl (JkL p h) rfl
def J7O  (r : T_api_Page × Bool) : Option Res := some (.tup [.data (J4 r.1), .p (.b r.2)], [])
def Jl8 (x0 : List UInt8) (b0 : T_api_Page) (o : (Int × T_api_Page) ⊕ (T_api_Page × Bool)) : Option Res := match o with
 | .inl s => rk (J2 p) J3j 0 [.bl 0, .sq (.keep [2, 4] J5i)] (X (J2 p) (.lp 2 [0, 2, 4, 13] J1S) ⟨[(0, .p (.s x0)), (2, .ptr 0 0), (4, .ptr 1 0), (13, .p (.i .i64 s.1))], [.box (List.map AV.p (J4 b0)), .box (List.map AV.p (J4 s.2))]⟩)
 | .inr o => J7O o
def J57 (b0 b1 : T_api_Page) : Option (T_api_Page × Bool) :=
 some (b1, true)
theorem JkO {b0 b1 : T_api_Page} {o : T_api_Page × Bool} (h : J57 b0 b1 = some o) :
  rk (J2 p) J3j 0 [] (X (J2 p) J5i ⟨[(2, .ptr 0 0), (4, .ptr 1 0)], [.box (List.map AV.p (J4 b0)), .box (List.map AV.p (J4 b1))]⟩) = J7O o := by
 unfold J57 at h
 obtain rfl := sj h
 try simp only [↓Da, Ua, J5i, J5, J1, J3, Jgs, ↓reduceIte, reduceEqDiff, reduceAdd, reduceLT, reduceMul]
 rfl
def J0o (x0 : List UInt8) (b0 : T_api_Page) (x13 : Int) (b1 : T_api_Page) : Option (((Int × T_api_Page) ⊕ (T_api_Page × Bool))) :=
 if (decide (x13 < 16)) then
  Option.bind (JC x0 (IntKind.wrap .i64 (12 + (IntKind.wrap .i64 (x13 * 13)))) 1) fun r2 =>
  if ((r2 : Int) == 255) then
   some (.inl ((IntKind.wrap .i64 (x13 + 1)), b1))
  else
   if (decide (r2 > 12)) then
    some (.inr ((⟨0, 0, (Vector.replicate 16 (⟨false, []⟩ : Jc))⟩ : T_api_Page), false))
   else
    Option.bind (J2H x0 (some (IntKind.wrap .i64 ((IntKind.wrap .i64 (12 + (IntKind.wrap .i64 (x13 * 13)))) + 1))) (some (IntKind.wrap .i64 ((IntKind.wrap .i64 ((IntKind.wrap .i64 (12 + (IntKind.wrap .i64 (x13 * 13)))) + 1)) + r2)))) fun m7 =>
    Option.bind (inb 16 x13) fun u10 =>
    Option.bind (J80 b1.Cells x13) fun y13 =>
    some (.inl ((IntKind.wrap .i64 (x13 + 1)), (⟨b1.ID, b1.LSN, (J7Z b1.Cells x13 (⟨true, m7⟩ : Jc))⟩ : T_api_Page)))
 else
  Option.map (fun o => .inr o) (J57 b0 b1)
theorem Je1 {x0 : List UInt8} {b0 : T_api_Page} {x13 : Int} {b1 : T_api_Page} {o : ((Int × T_api_Page) ⊕ (T_api_Page × Bool))} (h : J0o x0 b0 x13 b1 = some o) :
  rk (J2 p) J3j 0 [.lo 2 [0, 2, 4, 13] J1S, .bl 0, .sq (.keep [2, 4] J5i)] (X (J2 p) J1S ⟨[(0, .p (.s x0)), (2, .ptr 0 0), (4, .ptr 1 0), (13, .p (.i .i64 x13))], [.box (List.map AV.p (J4 b0)), .box (List.map AV.p (J4 b1))]⟩) = (Jl8 p x0 b0) o := by
 unfold J0o at h
 rcases Jb h with ⟨h1, h⟩ | ⟨h1, h⟩
 ·obtain ⟨r2, h3, h⟩ := bi h
  have f4 := J9d p h3
  try simp only [Nf] at f4
  try simp only [↓Da, Ua, J1S, J5, J1, J3, *, ↓reduceIte, reduceEqDiff, reduceAdd, reduceLT, reduceMul]
  rcases Jb h with ⟨h5, h⟩ | ⟨h5, h⟩
  ·have h5n : ((r2 : Int) != 255) = false := by rw [bne, h5]; rfl
   obtain rfl := sj h
   try simp only [↓Da, Ua, J1S, J5, J1, J3, *, ↓reduceIte, reduceEqDiff, reduceAdd, reduceLT, reduceMul]
   rfl
  ·have h5n : ((r2 : Int) != 255) = true := by rw [bne, h5]; rfl
   try simp only [↓Da, Ua, J1S, J5, J1, J3, *, ↓reduceIte, reduceEqDiff, reduceAdd, reduceLT, reduceMul]
   rcases Jb h with ⟨h6, h⟩ | ⟨h6, h⟩
   ·obtain rfl := sj h
    try simp only [↓Da, Ua, J1S, J5, J1, J3, Jgs, *, ↓reduceIte, reduceEqDiff, reduceAdd, reduceLT, reduceMul]
    rfl
   ·obtain ⟨m7, h8, h⟩ := bi h
    have f9 : J3Y (.p (.s x0)) (some (.p (.i .i64 (IntKind.wrap .i64 ((IntKind.wrap .i64 (12 + (IntKind.wrap .i64 (x13 * 13)))) + 1))))) (some (.p (.i .i64 (IntKind.wrap .i64 ((IntKind.wrap .i64 ((IntKind.wrap .i64 (12 + (IntKind.wrap .i64 (x13 * 13)))) + 1)) + r2))))) = some (.p (.s m7)) := J6r (k := .i64) (lo := (some (IntKind.wrap .i64 ((IntKind.wrap .i64 (12 + (IntKind.wrap .i64 (x13 * 13)))) + 1)))) (hi := (some (IntKind.wrap .i64 ((IntKind.wrap .i64 ((IntKind.wrap .i64 (12 + (IntKind.wrap .i64 (x13 * 13)))) + 1)) + r2)))) h8
    try simp only [Nf] at f9
    obtain ⟨u10, h11, h⟩ := bi h
    have f12 : (0 ≤ (x13 : Int) ∧ (x13 : Int) < ((16 : Nat) : Int)) = True := eq_true (J8x h11)
    obtain ⟨y13, h14, h⟩ := bi h
    have f15 : spl (J4 b1) (2 + Int.toNat x13 * 2) (Jg (⟨true, m7⟩ : Jc)) = some (J4 (⟨b1.ID, b1.LSN, (J7Z b1.Cells x13 (⟨true, m7⟩ : Jc))⟩ : T_api_Page)) := by
     have e0 := (JiT (J1c b1) (Jic (v := b1.Cells) JV (JfI h14) (⟨true, m7⟩ : Jc)) (J6q b1 _))
     exact e0
    try simp only [Nf] at f15
    obtain rfl := sj h
    try simp only [↓Da, Ua, J1S, J5, J1, J3, *, ↓reduceIte, reduceEqDiff, reduceAdd, reduceLT, reduceMul]
    rfl
 ·obtain ⟨o', h', rfl⟩ := mi h
  try simp only [↓Da, Ua, J1S, J5, J1, J3, *, ↓reduceIte, reduceEqDiff, reduceAdd, reduceLT, reduceMul]
  have e0 := JkO p h'
  exact e0
def J9g (x0 : List UInt8) (b0 : T_api_Page) (s : Int × T_api_Page) : Option (T_api_Page × Bool) :=
 Ju (fun s => J0o x0 b0 s.1 s.2) s
theorem JhU {x0 : List UInt8} {b0 : T_api_Page} {s : Int × T_api_Page} {o : T_api_Page × Bool} (h : J9g x0 b0 s = some o) :
  rk (J2 p) J3j 0 [.bl 0, .sq (.keep [2, 4] J5i)] (X (J2 p) (.lp 2 [0, 2, 4, 13] J1S) ⟨[(0, .p (.s x0)), (2, .ptr 0 0), (4, .ptr 1 0), (13, .p (.i .i64 s.1))], [.box (List.map AV.p (J4 b0)), .box (List.map AV.p (J4 s.2))]⟩) = J7O o := by
 have h0 : Ju (fun s => J0o x0 b0 s.1 s.2) s = some o := h
 exact J0m (P := fun (s : Int × T_api_Page) (o : T_api_Page × Bool) => rk (J2 p) J3j 0 [.bl 0, .sq (.keep [2, 4] J5i)] (X (J2 p) (.lp 2 [0, 2, 4, 13] J1S) ⟨[(0, .p (.s x0)), (2, .ptr 0 0), (4, .ptr 1 0), (13, .p (.i .i64 s.1))], [.box (List.map AV.p (J4 b0)), .box (List.map AV.p (J4 s.2))]⟩) = J7O o) (fun s r hs => by rw [J0q]; exact Je1 p hs) (fun s s1 r hs ih => by rw [J0q]; exact (Je1 p hs).trans ih) h0
def J3g (x0 : List UInt8) : Option (T_api_Page × Bool) :=
 Option.bind (JC x0 8 4) fun r1 =>
 Option.bind (JC x0 0 8) fun r4 =>
 J9g x0 (⟨0, 0, (Vector.replicate 16 (⟨false, []⟩ : Jc))⟩ : T_api_Page) (0, (⟨r1, r4, (Vector.replicate 16 (⟨false, []⟩ : Jc))⟩ : T_api_Page))
theorem Jid {x0 : List UInt8} {o : T_api_Page × Bool} (h : J3g x0 = some o) :
  rk (J2 p) J3j 0 [] (X (J2 p) J93 ⟨[(0, .p (.s x0))], []⟩) = J7O o := by
 unfold J3g at h
 obtain ⟨r1, h2, h⟩ := bi h
 have f3 := J9d p h2
 try simp only [Nf] at f3
 obtain ⟨r4, h5, h⟩ := bi h
 have f6 := J9d p h5
 try simp only [Nf] at f6
 try simp only [↓Da, Ua, J93, J5, J1, J3, *, ↓reduceIte, reduceEqDiff, reduceAdd, reduceLT, reduceMul]
 have e0 := JhU p h
 exact e0
theorem Jnd {x0 : List UInt8} {o : T_api_Page × Bool} (h : J3g x0 = some o) : AF (J2 p) J7T [.p (.s x0)] [] = J7O o :=
 (J0r (J2 p) (JnF p) rfl).trans (Jid p h)
theorem JnD {x0 : List UInt8} {o : T_api_Page × Bool} (h : J3g x0 = some o) : ∀ ws new st, (Jj (AF (J2 p)) J7T ([.p (.s x0)], ws) 0 new).run st = some ⟨.tup [.data (J4 o.1), .p (.b o.2)], ws⟩ := Jx rfl (Jnd p h) rfl
def J2Z  (r : T_api_Page × T_pagemenddraw_Codes) : Option Res := some (.data (J4 r.1), [.box (List.map AV.p (J0 r.2))])
def Jeq (b1 : T_api_Page) (o : (Int × T_pagemenddraw_Codes × T_api_Page) ⊕ (T_api_Page × T_pagemenddraw_Codes)) : Option Res := match o with
 | .inl s => rk (J2 p) J0O 1 [.bl 0, .sq (.keep [4, 5] J2x)] (X (J2 p) (.lp 3 [0, 4, 5, 6] J1Q) ⟨[(0, .ptr 0 0), (4, .ptr 1 0), (5, .ptr 2 0), (6, .p (.i .i64 s.1))], [.box (List.map AV.p (J0 s.2.1)), .box (List.map AV.p (J4 b1)), .box (List.map AV.p (J4 s.2.2))]⟩)
 | .inr o => J2Z o
def J3c (b0 : T_pagemenddraw_Codes) (b1 b2 : T_api_Page) : Option (T_api_Page × T_pagemenddraw_Codes) :=
 some (b2, b0)
theorem Jai {b0 : T_pagemenddraw_Codes} {b1 b2 : T_api_Page} {o : T_api_Page × T_pagemenddraw_Codes} (h : J3c b0 b1 b2 = some o) :
  rk (J2 p) J0O 1 [] (X (J2 p) J2x ⟨[(4, .ptr 1 0), (5, .ptr 2 0)], [.box (List.map AV.p (J0 b0)), .box (List.map AV.p (J4 b1)), .box (List.map AV.p (J4 b2))]⟩) = J2Z o := by
 unfold J3c at h
 obtain rfl := sj h
 try simp only [↓Da, Ua, J2x, J5, J1, J3, JfV, ↓reduceIte, reduceEqDiff, reduceAdd, reduceLT, reduceMul]
 rfl
def J2u (b1 : T_api_Page) (x6 : Int) (b0 : T_pagemenddraw_Codes) (b2 : T_api_Page) : Option (((Int × T_pagemenddraw_Codes × T_api_Page) ⊕ (T_api_Page × T_pagemenddraw_Codes))) :=
 if (decide (x6 > 0)) then
  Option.bind (JI b0 16) fun r2 =>
  Option.bind (J4h r2.2) fun r5 =>
  Option.bind (inb 16 r2.1) fun u8 =>
  Option.bind (J80 b2.Cells r2.1) fun y11 =>
  some (.inl ((IntKind.wrap .i64 (x6 - 1)), r5.2, (⟨b2.ID, b2.LSN, (J7Z b2.Cells r2.1 r5.1)⟩ : T_api_Page)))
 else
  Option.map (fun o => .inr o) (J3c b0 b1 b2)
theorem Jae {b1 : T_api_Page} {x6 : Int} {b0 : T_pagemenddraw_Codes} {b2 : T_api_Page} {o : ((Int × T_pagemenddraw_Codes × T_api_Page) ⊕ (T_api_Page × T_pagemenddraw_Codes))} (h : J2u b1 x6 b0 b2 = some o) :
  rk (J2 p) J0O 1 [.lo 3 [0, 4, 5, 6] J1Q, .bl 0, .sq (.keep [4, 5] J2x)] (X (J2 p) J1Q ⟨[(0, .ptr 0 0), (4, .ptr 1 0), (5, .ptr 2 0), (6, .p (.i .i64 x6))], [.box (List.map AV.p (J0 b0)), .box (List.map AV.p (J4 b1)), .box (List.map AV.p (J4 b2))]⟩) = (Jeq p b1) o := by
 unfold J2u at h
 rcases Jb h with ⟨h1, h⟩ | ⟨h1, h⟩
 ·obtain ⟨r2, h3, h⟩ := bi h
  have f4 : ∀ ws new s, J07 ws s [0] [List.map AV.p (J0 b0)] → (Jj (AF (J2 p)) Jh ([.ptr 0 0, .p (.i .i64 16)], ws) 0 new).run s = some ⟨.p (.i .i64 r2.1), ws ++ [(0, .box (List.map AV.p (J0 r2.2)))]⟩ := JT (args' := [.ptr 0 0, .p (.i .i64 16)]) (bs := [0]) (css := [List.map AV.p (J0 b0)]) (css' := [List.map AV.p (J0 r2.2)]) rfl rfl rfl (by simp [Jm, Jf]) (JU p h3) rfl rfl (by simp [Jm, Jf])
  try simp only [Nf] at f4
  obtain ⟨r5, h6, h⟩ := bi h
  have f7 : ∀ ws new s, J07 ws s [0] [List.map AV.p (J0 r2.2)] → (Jj (AF (J2 p)) J4c ([.ptr 0 0], ws) 0 new).run s = some ⟨.data (Jg r5.1), ws ++ [(0, .box (List.map AV.p (J0 r5.2)))]⟩ := JT (args' := [.ptr 0 0]) (bs := [0]) (css := [List.map AV.p (J0 r2.2)]) (css' := [List.map AV.p (J0 r5.2)]) rfl rfl rfl (by simp [Jm, Jf]) (Jgi p h6) rfl rfl (by simp [Jm, Jf])
  try simp only [Nf] at f7
  obtain ⟨u8, h9, h⟩ := bi h
  have f10 : (0 ≤ (r2.1 : Int) ∧ (r2.1 : Int) < ((16 : Nat) : Int)) = True := eq_true (J8x h9)
  obtain ⟨y11, h12, h⟩ := bi h
  have f13 : spl (J4 b2) (2 + Int.toNat r2.1 * 2) (Jg r5.1) = some (J4 (⟨b2.ID, b2.LSN, (J7Z b2.Cells r2.1 r5.1)⟩ : T_api_Page)) := by
   have e0 := (JiT (J1c b2) (Jic (v := b2.Cells) JV (JfI h12) r5.1) (J6q b2 _))
   exact e0
  try simp only [Nf] at f13
  obtain rfl := sj h
  try simp only [↓Da, Ua, J1Q, J5, Ja, *, ↓reduceIte, reduceEqDiff, reduceAdd, reduceLT, reduceMul]
  rfl
 ·obtain ⟨o', h', rfl⟩ := mi h
  try simp only [↓Da, Ua, J1Q, J5, Ja, *, ↓reduceIte, reduceEqDiff, reduceAdd, reduceLT, reduceMul]
  have e0 := Jai p h'
  exact e0
def Jak (b1 : T_api_Page) (s : Int × T_pagemenddraw_Codes × T_api_Page) : Option (T_api_Page × T_pagemenddraw_Codes) :=
 Ju (fun s => J2u b1 s.1 s.2.1 s.2.2) s
theorem Jd9 {b1 : T_api_Page} {s : Int × T_pagemenddraw_Codes × T_api_Page} {o : T_api_Page × T_pagemenddraw_Codes} (h : Jak b1 s = some o) :
  rk (J2 p) J0O 1 [.bl 0, .sq (.keep [4, 5] J2x)] (X (J2 p) (.lp 3 [0, 4, 5, 6] J1Q) ⟨[(0, .ptr 0 0), (4, .ptr 1 0), (5, .ptr 2 0), (6, .p (.i .i64 s.1))], [.box (List.map AV.p (J0 s.2.1)), .box (List.map AV.p (J4 b1)), .box (List.map AV.p (J4 s.2.2))]⟩) = J2Z o := by
 have h0 : Ju (fun s => J2u b1 s.1 s.2.1 s.2.2) s = some o := h
 exact J0m (P := fun (s : Int × T_pagemenddraw_Codes × T_api_Page) (o : T_api_Page × T_pagemenddraw_Codes) => rk (J2 p) J0O 1 [.bl 0, .sq (.keep [4, 5] J2x)] (X (J2 p) (.lp 3 [0, 4, 5, 6] J1Q) ⟨[(0, .ptr 0 0), (4, .ptr 1 0), (5, .ptr 2 0), (6, .p (.i .i64 s.1))], [.box (List.map AV.p (J0 s.2.1)), .box (List.map AV.p (J4 b1)), .box (List.map AV.p (J4 s.2.2))]⟩) = J2Z o) (fun s r hs => by rw [J0q]; exact Jae p hs) (fun s s1 r hs ih => by rw [J0q]; exact (Jae p hs).trans ih) h0
def J3a (b0 : T_pagemenddraw_Codes) (b1 b2 : T_api_Page) : Option (T_api_Page × T_pagemenddraw_Codes) :=
 if (decide (b2.LSN > 0)) then
  Option.bind (JI b0 6) fun r2 =>
  Jak b1 (r2.1, r2.2, b2)
 else
  J3c b0 b1 b2
theorem Jaj {b0 : T_pagemenddraw_Codes} {b1 b2 : T_api_Page} {o : T_api_Page × T_pagemenddraw_Codes} (h : J3a b0 b1 b2 = some o) :
  rk (J2 p) J0O 1 [] (X (J2 p) J5N ⟨[(0, .ptr 0 0), (4, .ptr 1 0), (5, .ptr 2 0)], [.box (List.map AV.p (J0 b0)), .box (List.map AV.p (J4 b1)), .box (List.map AV.p (J4 b2))]⟩) = J2Z o := by
 unfold J3a at h
 rcases Jb h with ⟨h1, h⟩ | ⟨h1, h⟩
 ·obtain ⟨r2, h3, h⟩ := bi h
  have f4 : ∀ ws new s, J07 ws s [0] [List.map AV.p (J0 b0)] → (Jj (AF (J2 p)) Jh ([.ptr 0 0, .p (.i .i64 6)], ws) 0 new).run s = some ⟨.p (.i .i64 r2.1), ws ++ [(0, .box (List.map AV.p (J0 r2.2)))]⟩ := JT (args' := [.ptr 0 0, .p (.i .i64 6)]) (bs := [0]) (css := [List.map AV.p (J0 b0)]) (css' := [List.map AV.p (J0 r2.2)]) rfl rfl rfl (by simp [Jm, Jf]) (JU p h3) rfl rfl (by simp [Jm, Jf])
  try simp only [Nf] at f4
  try simp only [↓Da, Ua, J5N, J5, J1, J3, Ja, *, ↓reduceIte, reduceEqDiff, reduceAdd, reduceLT, reduceMul]
  have e0 := Jd9 p h
  exact e0
 ·try simp only [↓Da, Ua, J5N, J5, J1, J3, Ja, *, ↓reduceIte, reduceEqDiff, reduceAdd, reduceLT, reduceMul]
  have e0 := Jai p h
  exact e0
def J1R (b0 : T_pagemenddraw_Codes) (x1 : Int) : Option (T_api_Page × T_pagemenddraw_Codes) :=
 Option.bind (JI b0 50) fun r1 =>
 Option.bind (JI r1.2 10) fun r4 =>
 if ((r4.1 : Int) == 9) then
  Option.bind (JI r4.2 2) fun r8 =>
  J3a r8.2 (⟨0, 0, (Vector.replicate 16 (⟨false, []⟩ : Jc))⟩ : T_api_Page) (⟨x1, (IntKind.wrap .i64 (1099511627776 - r8.1)), (Vector.replicate 16 (⟨false, []⟩ : Jc))⟩ : T_api_Page)
 else
  J3a r4.2 (⟨0, 0, (Vector.replicate 16 (⟨false, []⟩ : Jc))⟩ : T_api_Page) (⟨x1, r1.1, (Vector.replicate 16 (⟨false, []⟩ : Jc))⟩ : T_api_Page)
theorem Jd3 {b0 : T_pagemenddraw_Codes} {x1 : Int} {o : T_api_Page × T_pagemenddraw_Codes} (h : J1R b0 x1 = some o) :
  rk (J2 p) J0O 1 [] (X (J2 p) J30 ⟨[(0, .ptr 0 0), (1, .p (.i .i64 x1))], [.box (List.map AV.p (J0 b0))]⟩) = J2Z o := by
 unfold J1R at h
 obtain ⟨r1, h2, h⟩ := bi h
 have f3 : ∀ ws new s, J07 ws s [0] [List.map AV.p (J0 b0)] → (Jj (AF (J2 p)) Jh ([.ptr 0 0, .p (.i .i64 50)], ws) 0 new).run s = some ⟨.p (.i .i64 r1.1), ws ++ [(0, .box (List.map AV.p (J0 r1.2)))]⟩ := JT (args' := [.ptr 0 0, .p (.i .i64 50)]) (bs := [0]) (css := [List.map AV.p (J0 b0)]) (css' := [List.map AV.p (J0 r1.2)]) rfl rfl rfl (by simp [Jm, Jf]) (JU p h2) rfl rfl (by simp [Jm, Jf])
 try simp only [Nf] at f3
 obtain ⟨r4, h5, h⟩ := bi h
 have f6 : ∀ ws new s, J07 ws s [0] [List.map AV.p (J0 r1.2)] → (Jj (AF (J2 p)) Jh ([.ptr 0 0, .p (.i .i64 10)], ws) 0 new).run s = some ⟨.p (.i .i64 r4.1), ws ++ [(0, .box (List.map AV.p (J0 r4.2)))]⟩ := JT (args' := [.ptr 0 0, .p (.i .i64 10)]) (bs := [0]) (css := [List.map AV.p (J0 r1.2)]) (css' := [List.map AV.p (J0 r4.2)]) rfl rfl rfl (by simp [Jm, Jf]) (JU p h5) rfl rfl (by simp [Jm, Jf])
 try simp only [Nf] at f6
 try simp only [↓Da, Ua, J30, J5, J1, J3, Ja, *, ↓reduceIte, reduceEqDiff, reduceAdd, reduceLT, reduceMul]
 rcases Jb h with ⟨h7, h⟩ | ⟨h7, h⟩
 ·have h7n : ((r4.1 : Int) != 9) = false := by rw [bne, h7]; rfl
  obtain ⟨r8, h9, h⟩ := bi h
  have f10 : ∀ ws new s, J07 ws s [0] [List.map AV.p (J0 r4.2)] → (Jj (AF (J2 p)) Jh ([.ptr 0 0, .p (.i .i64 2)], ws) 0 new).run s = some ⟨.p (.i .i64 r8.1), ws ++ [(0, .box (List.map AV.p (J0 r8.2)))]⟩ := JT (args' := [.ptr 0 0, .p (.i .i64 2)]) (bs := [0]) (css := [List.map AV.p (J0 r4.2)]) (css' := [List.map AV.p (J0 r8.2)]) rfl rfl rfl (by simp [Jm, Jf]) (JU p h9) rfl rfl (by simp [Jm, Jf])
  try simp only [Nf] at f10
  try simp only [↓Da, Ua, J30, J5, J1, J3, Ja, *, ↓reduceIte, reduceEqDiff, reduceAdd, reduceLT, reduceMul]
  have e0 := Jaj p h
  exact e0
 ·have h7n : ((r4.1 : Int) != 9) = true := by rw [bne, h7]; rfl
  try simp only [↓Da, Ua, J30, J5, J1, J3, Ja, *, ↓reduceIte, reduceEqDiff, reduceAdd, reduceLT, reduceMul]
  have e0 := Jaj p h
  exact e0
theorem J8L {b0 : T_pagemenddraw_Codes} {x1 : Int} {o : T_api_Page × T_pagemenddraw_Codes} (h : J1R b0 x1 = some o) : AF (J2 p) J1r [.ptr 0 0, .p (.i .i64 x1)] [.box (List.map AV.p (J0 b0))] = J2Z o :=
 (J0r (J2 p) (JfU p) rfl).trans (Jd3 p h)
def Jef  (r : (List UInt8)) : Option Res := some (.p (.s r), [])
def J4o  : Option ((List UInt8)) :=
 Option.bind (J2h 256) fun r1 =>
 some r1
theorem Jg3  {o : (List UInt8)} (h : J4o = some o) :
  rk (J2 p) J6i 0 [] (X (J2 p) J7w ⟨[], []⟩) = Jef o := by
 unfold J4o at h
 obtain ⟨r1, h2, h⟩ := bi h
 have f3 := Jb4 p h2
 try simp only [Nf] at f3
 obtain rfl := sj h
 try simp only [↓Da, Ua, J7w, JkR, *, ↓reduceIte, reduceEqDiff, reduceAdd, reduceLT, reduceMul]
 rfl
theorem Jks  {o : (List UInt8)} (h : J4o = some o) : AF (J2 p) J5l [] [] = Jef o :=
 (J0r (J2 p) (JkD p) rfl).trans (Jg3 p h)
theorem JdY  {o : (List UInt8)} (h : J4o = some o) : ∀ ws new st, (Jj (AF (J2 p)) J5l ([], ws) 0 new).run st = some ⟨.p (.s o), ws⟩ := Jx rfl (Jks p h) rfl
end
end Go.Am
end
section
namespace Go.Am
set_option maxRecDepth 8000
set_option maxHeartbeats 4000000
set_option linter.unusedSimpArgs false
set_option linter.unusedVariables false
noncomputable section
variable (p : FuncId → Option (List AV → List Blk → Option Res))
def Jey  (r : (List UInt8)) : Option Res := some (.p (.s r), [])
def J5I  : Option ((List UInt8)) :=
 Option.bind (J3A ([0]) 256) fun r1 =>
 some r1
theorem Jhe  {o : (List UInt8)} (h : J5I = some o) :
  rk (J2 p) J6W 0 [] (X (J2 p) J8m ⟨[], []⟩) = Jey o := by
 unfold J5I at h
 obtain ⟨r1, h2, h⟩ := bi h
 have f3 := J9y p h2
 try simp only [Nf] at f3
 obtain rfl := sj h
 try simp only [↓Da, Ua, J8m, Jm5, *, ↓reduceIte, reduceEqDiff, reduceAdd, reduceLT, reduceMul]
 rfl
theorem JmR  {o : (List UInt8)} (h : J5I = some o) : AF (J2 p) J6U [] [] = Jey o :=
 (J0r (J2 p) (Jmq p) rfl).trans (Jhe p h)
theorem JlL  {o : (List UInt8)} (h : J5I = some o) : ∀ ws new st, (Jj (AF (J2 p)) J6U ([], ws) 0 new).run st = some ⟨.p (.s o), ws⟩ := Jx rfl (JmR p h) rfl
def JeD  (r : Bool) : Option Res := some (.p (.b r), [])
def J5H (x0 x1 : T_api_Image) : Option (Bool) :=
 if ((x0.ID : Int) == x1.ID) then
  if ((x0.Pages : Int) == x1.Pages) then
   Option.bind (J0G x0.Copies x1.Copies) fun r3 =>
   some r3
  else
   some false
 else
  some false
theorem JgY {x0 x1 : T_api_Image} {o : Bool} (h : J5H x0 x1 = some o) :
  rk (J2 p) J6Z 0 [] (X (J2 p) J4R ⟨[(0, .data (J7 x0)), (1, .data (J7 x1))], []⟩) = JeD o := by
 unfold J5H at h
 rcases Jb h with ⟨h1, h⟩ | ⟨h1, h⟩
 ·try simp only [↓Da, Ua, J4R, J9, J8, *, ↓reduceIte, reduceEqDiff, reduceAdd, reduceLT, reduceMul]
  rcases Jb h with ⟨h2, h⟩ | ⟨h2, h⟩
  ·obtain ⟨r3, h4, h⟩ := bi h
   have f5 := J9n p h4
   try simp only [Nf] at f5
   obtain rfl := sj h
   try simp only [↓Da, Ua, J4R, J9, J8, JbN, *, ↓reduceIte, reduceEqDiff, reduceAdd, reduceLT, reduceMul]
   rfl
  ·obtain rfl := sj h
   try simp only [↓Da, Ua, J4R, J9, J8, JbN, *, ↓reduceIte, reduceEqDiff, reduceAdd, reduceLT, reduceMul]
   rfl
 ·obtain rfl := sj h
  try simp only [↓Da, Ua, J4R, J9, J8, JbN, *, ↓reduceIte, reduceEqDiff, reduceAdd, reduceLT, reduceMul]
  rfl
theorem Jly {x0 x1 : T_api_Image} {o : Bool} (h : J5H x0 x1 = some o) : AF (J2 p) J78 [.data (J7 x0), .data (J7 x1)] [] = JeD o :=
 (J0r (J2 p) (JmE p) rfl).trans (JgY p h)
theorem JlJ {x0 x1 : T_api_Image} {o : Bool} (h : J5H x0 x1 = some o) : ∀ ws new st, (Jj (AF (J2 p)) J78 ([.data (J7 x0), .data (J7 x1)], ws) 0 new).run st = some ⟨.p (.b o), ws⟩ := Jx rfl (Jly p h) rfl
def Jea  (r : Bool) : Option Res := some (.p (.b r), [])
def J1A (x0 : T_api_Page) : Option (Bool) :=
 Option.bind (J16 x0.ID) fun r1 =>
 if r1 then
  if (decide (x0.LSN ≥ 0)) then
   some (decide (x0.LSN ≤ 1099511627776))
  else
   some false
 else
  some false
theorem Jgk {x0 : T_api_Page} {o : Bool} (h : J1A x0 = some o) :
  rk (J2 p) J6f 0 [] (X (J2 p) J3t ⟨[(0, .data (J4 x0))], []⟩) = Jea o := by
 unfold J1A at h
 obtain ⟨r1, h2, h⟩ := bi h
 have f3 := JeK p h2
 try simp only [Nf] at f3
 try simp only [↓Da, Ua, J3t, J5, J1, J3, *, ↓reduceIte, reduceEqDiff, reduceAdd, reduceLT, reduceMul]
 rcases Jb h with ⟨h4, h⟩ | ⟨h4, h⟩
 ·try simp only [↓Da, Ua, J3t, J5, J1, J3, *, ↓reduceIte, reduceEqDiff, reduceAdd, reduceLT, reduceMul]
  rcases Jb h with ⟨h5, h⟩ | ⟨h5, h⟩
  ·obtain rfl := sj h
   try simp only [↓Da, Ua, J3t, J5, J1, J3, JaQ, *, ↓reduceIte, reduceEqDiff, reduceAdd, reduceLT, reduceMul]
   rfl
  ·obtain rfl := sj h
   try simp only [↓Da, Ua, J3t, J5, J1, J3, JaQ, *, ↓reduceIte, reduceEqDiff, reduceAdd, reduceLT, reduceMul]
   rfl
 ·obtain rfl := sj h
  try simp only [↓Da, Ua, J3t, J5, J1, J3, JaQ, *, ↓reduceIte, reduceEqDiff, reduceAdd, reduceLT, reduceMul]
  rfl
theorem Jl3 {x0 : T_api_Page} {o : Bool} (h : J1A x0 = some o) : AF (J2 p) J6g [.data (J4 x0)] [] = Jea o :=
 (J0r (J2 p) (Jl1 p) rfl).trans (Jgk p h)
theorem Jl0 {x0 : T_api_Page} {o : Bool} (h : J1A x0 = some o) : ∀ ws new st, (Jj (AF (J2 p)) J6g ([.data (J4 x0)], ws) 0 new).run st = some ⟨.p (.b o), ws⟩ := Jx rfl (Jl3 p h) rfl
def J7W  (r : T_page_builder) : Option Res := some (.tup [], [.box (List.map AV.p (J0J r))])
def J1p (x4 : Int) (b0 : T_page_builder) (b1 : Jc) : Option (T_page_builder) :=
 Option.bind (J0s b0.s_ x4 1) fun r1 =>
 Option.bind (J46 r1 b1.Data) fun s5 =>
 Option.bind (J3A ([0]) (IntKind.wrap .i64 (12 - ((List.length b1.Data : Nat) : Int)))) fun r7 =>
 Option.bind (J46 s5 r7) fun s11 =>
 some (⟨s11⟩ : T_page_builder)
theorem J9A {x4 : Int} {b0 : T_page_builder} {b1 : Jc} {o : T_page_builder} (h : J1p x4 b0 b1 = some o) :
  rk (J2 p) J2t 1 [] (X (J2 p) J75 ⟨[(0, .ptr 0 0), (3, .ptr 1 0), (4, .p (.i .i64 x4))], [.box (List.map AV.p (J0J b0)), .box (List.map AV.p (Jg b1))]⟩) = J7W o := by
 unfold J1p at h
 obtain ⟨r1, h2, h⟩ := bi h
 have f3 := J6J p h2
 try simp only [Nf, JA] at f3
 have f4 : ∀ ws k new s, Je ((Jj (AF (J2 p)) J1q ([.p (.s b0.s_), .p (.i .i64 x4), .p (.i .i64 1)], ws) k new).reads s) = [] := J18 rfl
 try simp only [Nf, JA] at f4
 obtain ⟨s5, h6, h⟩ := bi h
 obtain ⟨r7, h8, h⟩ := bi h
 have f9 := J9y p h8
 try simp only [Nf, JA] at f9
 have f10 : ∀ ws k new s, Je ((Jj (AF (J2 p)) J2f ([.p (.s [0]), .p (.i .i64 (IntKind.wrap .i64 (12 - ((List.length b1.Data : Nat) : Int))))], ws) k new).reads s) = [] := J18 rfl
 try simp only [Nf, JA] at f10
 obtain ⟨s11, h12, h⟩ := bi h
 obtain rfl := sj h
 try simp only [↓Da, Ua, Ra, J75, J5, JA, Jev, *, ↓reduceIte, reduceEqDiff, reduceAdd, reduceLT, reduceMul, Nat.reduceBEq]
 rfl
def J1P (b0 : T_page_builder) (x1 : Jc) : Option (T_page_builder) :=
 if x1.Set then
  J1p ((List.length x1.Data : Nat) : Int) b0 x1
 else
  J1p 255 b0 x1
theorem Jc2 {b0 : T_page_builder} {x1 : Jc} {o : T_page_builder} (h : J1P b0 x1 = some o) :
  rk (J2 p) J2t 1 [] (X (J2 p) J3b ⟨[(0, .ptr 0 0), (1, .data (Jg x1))], [.box (List.map AV.p (J0J b0))]⟩) = J7W o := by
 unfold J1P at h
 rcases Jb h with ⟨h1, h⟩ | ⟨h1, h⟩
 ·try simp only [↓Da, Ua, J3b, J5, JA, *, ↓reduceIte, reduceEqDiff, reduceAdd, reduceLT, reduceMul]
  have e0 := J9A p h
  first | exact e0 | (simp only [*] at e0; exact e0)
 ·try simp only [↓Da, Ua, J3b, J5, JA, *, ↓reduceIte, reduceEqDiff, reduceAdd, reduceLT, reduceMul]
  have e0 := J9A p h
  first | exact e0 | (simp only [*] at e0; exact e0)
theorem Jeo {b0 : T_page_builder} {x1 : Jc} {o : T_page_builder} (h : J1P b0 x1 = some o) : AF (J2 p) J10 [.ptr 0 0, .data (Jg x1)] [.box (List.map AV.p (J0J b0))] = J7W o :=
 (J0r (J2 p) (Jem p) rfl).trans (Jc2 p h)
def J7N  (r : Int) : Option Res := some (.p (.i .u32 r), [])
def JkI (x0 : List UInt8) (x8 : Int) (b0 : Vector Int 16) (o : (Int × Int) ⊕ (Int)) : Option Res := match o with
 | .inl s => rk (J2 p) J3i 0 [.bl 0, .sq (.keep [4] J5c)] (X (J2 p) (.lp 1 [0, 3, 4, 8, 9] J4s) ⟨[(0, .p (.s x0)), (3, .ptr 0 0), (4, .p (.i .u32 s.1)), (8, .p (.i .i64 x8)), (9, .p (.i .i64 s.2))], [.box (List.map AV.p ((J06 (r_i .u32)) b0))]⟩)
 | .inr o => J7N o
def J5W (x4 : Int) : Option (Int) :=
 some (Jjy .u32 x4)
theorem Jkr {x4 : Int} {B0 : List PV} {o : Int} (h : J5W x4 = some o) :
  rk (J2 p) J3i 0 [] (X (J2 p) J5c ⟨[(4, .p (.i .u32 x4))], [.box (List.map AV.p B0)]⟩) = J7N o := by
 unfold J5W at h
 obtain rfl := sj h
 try simp only [↓Da, Ua, J5c, JmW, ↓reduceIte, reduceEqDiff, reduceAdd, reduceLT, reduceMul]
 rfl
def J1T (x0 : List UInt8) (x8 : Int) (b0 : Vector Int 16) (x4 x9 : Int) : Option (((Int × Int) ⊕ (Int))) :=
 if (decide (x9 < x8)) then
  Option.bind (Jcu x0 x9) fun c2 =>
  Option.bind (J7V .u32 (J5S .u32 x4 (IntKind.wrap .u32 c2)) 4) fun q4 =>
  Option.bind (inb 16 (J4G .u32 (J5S .u32 x4 (IntKind.wrap .u32 c2)) 15)) fun u6 =>
  Option.bind (J80 b0 (J4G .u32 (J5S .u32 x4 (IntKind.wrap .u32 c2)) 15)) fun y9 =>
  Option.bind (J7V .u32 (J5S .u32 q4 y9) 4) fun q12 =>
  Option.bind (inb 16 (J4G .u32 (J5S .u32 q4 y9) 15)) fun u14 =>
  Option.bind (J80 b0 (J4G .u32 (J5S .u32 q4 y9) 15)) fun y17 =>
  some (.inl ((J5S .u32 q12 y17), (IntKind.wrap .i64 (x9 + 1))))
 else
  Option.map (fun o => .inr o) (J5W x4)
theorem JdZ {x0 : List UInt8} {x8 : Int} {b0 : Vector Int 16} {x4 x9 : Int} {o : ((Int × Int) ⊕ (Int))} (h : J1T x0 x8 b0 x4 x9 = some o) :
  rk (J2 p) J3i 0 [.lo 1 [0, 3, 4, 8, 9] J4s, .bl 0, .sq (.keep [4] J5c)] (X (J2 p) J4s ⟨[(0, .p (.s x0)), (3, .ptr 0 0), (4, .p (.i .u32 x4)), (8, .p (.i .i64 x8)), (9, .p (.i .i64 x9))], [.box (List.map AV.p ((J06 (r_i .u32)) b0))]⟩) = (JkI p x0 x8 b0) o := by
 unfold J1T at h
 rcases Jb h with ⟨h1, h⟩ | ⟨h1, h⟩
 ·obtain ⟨c2, h3, h⟩ := bi h
  obtain ⟨q4, h5, h⟩ := bi h
  obtain ⟨u6, h7, h⟩ := bi h
  have f8 : (0 ≤ ((J4G .u32 (J5S .u32 x4 (IntKind.wrap .u32 c2)) 15) : Int) ∧ ((J4G .u32 (J5S .u32 x4 (IntKind.wrap .u32 c2)) 15) : Int) < ((16 : Nat) : Int)) = True := eq_true (J8x h7)
  obtain ⟨y9, h10, h⟩ := bi h
  have f11 : sub ((J06 (r_i .u32)) b0) (Int.toNat (J4G .u32 (J5S .u32 x4 (IntKind.wrap .u32 c2)) 15) * 1) 1 = some ((r_i .u32) y9) := by
   have e0 := (J8T (v := b0) (Jan .u32) (J4D h10).2)
   exact e0
  try simp only [Nf] at f11
  obtain ⟨q12, h13, h⟩ := bi h
  obtain ⟨u14, h15, h⟩ := bi h
  have f16 : (0 ≤ ((J4G .u32 (J5S .u32 q4 y9) 15) : Int) ∧ ((J4G .u32 (J5S .u32 q4 y9) 15) : Int) < ((16 : Nat) : Int)) = True := eq_true (J8x h15)
  obtain ⟨y17, h18, h⟩ := bi h
  have f19 : sub ((J06 (r_i .u32)) b0) (Int.toNat (J4G .u32 (J5S .u32 q4 y9) 15) * 1) 1 = some ((r_i .u32) y17) := by
   have e0 := (J8T (v := b0) (Jan .u32) (J4D h18).2)
   exact e0
  try simp only [Nf] at f19
  obtain rfl := sj h
  try simp only [↓Da, Ua, J4s, J6y, *, ↓reduceIte, reduceEqDiff, reduceAdd, reduceLT, reduceMul]
  rfl
 ·obtain ⟨o', h', rfl⟩ := mi h
  try simp only [↓Da, Ua, J4s, J6y, *, ↓reduceIte, reduceEqDiff, reduceAdd, reduceLT, reduceMul]
  have e0 := Jkr p (B0 := ((J06 (r_i .u32)) b0)) h'
  exact e0
def Jed (x0 : List UInt8) (x8 : Int) (b0 : Vector Int 16) (s : Int × Int) : Option (Int) :=
 Ju (fun s => J1T x0 x8 b0 s.1 s.2) s
theorem Jiu {x0 : List UInt8} {x8 : Int} {b0 : Vector Int 16} {s : Int × Int} {o : Int} (h : Jed x0 x8 b0 s = some o) :
  rk (J2 p) J3i 0 [.bl 0, .sq (.keep [4] J5c)] (X (J2 p) (.lp 1 [0, 3, 4, 8, 9] J4s) ⟨[(0, .p (.s x0)), (3, .ptr 0 0), (4, .p (.i .u32 s.1)), (8, .p (.i .i64 x8)), (9, .p (.i .i64 s.2))], [.box (List.map AV.p ((J06 (r_i .u32)) b0))]⟩) = J7N o := by
 have h0 : Ju (fun s => J1T x0 x8 b0 s.1 s.2) s = some o := h
 exact J0m (P := fun (s : Int × Int) (o : Int) => rk (J2 p) J3i 0 [.bl 0, .sq (.keep [4] J5c)] (X (J2 p) (.lp 1 [0, 3, 4, 8, 9] J4s) ⟨[(0, .p (.s x0)), (3, .ptr 0 0), (4, .p (.i .u32 s.1)), (8, .p (.i .i64 x8)), (9, .p (.i .i64 s.2))], [.box (List.map AV.p ((J06 (r_i .u32)) b0))]⟩) = J7N o) (fun s r hs => by rw [J0q]; exact JdZ p hs) (fun s s1 r hs ih => by rw [J0q]; exact (JdZ p hs).trans ih) h0
def J1G (x0 : List UInt8) : Option (Int) :=
 Option.bind (J2F) fun r1 =>
 Jed x0 ((List.length x0 : Nat) : Int) r1 (4294967295, 0)
theorem JiM {x0 : List UInt8} {o : Int} (h : J1G x0 = some o) :
  rk (J2 p) J3i 0 [] (X (J2 p) J8W ⟨[(0, .p (.s x0))], []⟩) = J7N o := by
 unfold J1G at h
 obtain ⟨r1, h2, h⟩ := bi h
 have f3 := Jfb p h2
 try simp only [Nf] at f3
 try simp only [↓Da, Ua, J8W, J6y, *, ↓reduceIte, reduceEqDiff, reduceAdd, reduceLT, reduceMul]
 have e0 := Jiu p h
 exact e0
theorem JnB {x0 : List UInt8} {o : Int} (h : J1G x0 = some o) : AF (J2 p) J4O [.p (.s x0)] [] = J7N o :=
 (J0r (J2 p) (Jn4 p) rfl).trans (JiM p h)
theorem JcA {x0 : List UInt8} {o : Int} (h : J1G x0 = some o) : ∀ ws new st, (Jj (AF (J2 p)) J4O ([.p (.s x0)], ws) 0 new).run st = some ⟨.p (.i .u32 o), ws⟩ := Jx rfl (JnB p h) rfl
def JE  (r : Int × Bool) : Option Res := some (.tup [.p (.i .i64 r.1), .p (.b r.2)], [])
def J3n (x0 : List T_api_Copy) (x1 x8 : Int) (o : (Int × Int) ⊕ (Int × Bool)) : Option Res := match o with
 | .inl s => rk (J2 p) Jp 0 [.bl 0, .sq (.keep [0, 1, 2, 8, 9] JD)] (X (J2 p) (.lp 0 [0, 1, 2, 8, 9, 10] Js) ⟨[(0, .p (.sl 3 (List.map J6 x0))), (1, .p (.i .i64 x1)), (2, .fn J0i [] []), (8, .p (.i .i64 x8)), (9, .p (.i .i64 s.1)), (10, .p (.i .i64 s.2))], []⟩)
 | .inr o => JE o
def JZ (x0 : List T_api_Copy) (x1 x8 x9 : Int) : Option (Int × Bool) :=
 if (decide (x9 < x8)) then
  Option.bind (idx x0 x9) fun y2 =>
  Option.bind (J2J y2 x1) fun r5 =>
  some (x9, ((r5 : Int) == 0))
 else
  some (x9, false)
theorem J3x {x0 : List T_api_Copy} {x1 x8 x9 : Int} {o : Int × Bool} (h : JZ x0 x1 x8 x9 = some o) :
  rk (J2 p) Jp 0 [] (X (J2 p) JD ⟨[(0, .p (.sl 3 (List.map J6 x0))), (1, .p (.i .i64 x1)), (2, .fn J0i [] []), (8, .p (.i .i64 x8)), (9, .p (.i .i64 x9))], []⟩) = JE o := by
 unfold JZ at h
 rcases Jb h with ⟨h1, h⟩ | ⟨h1, h⟩
 ·obtain ⟨y2, h3, h⟩ := bi h
  have f4 := J4t (r := J6) h3
  try simp only [Nf] at f4
  obtain ⟨r5, h6, h⟩ := bi h
  have f7 := Jc0 p h6
  try simp only [Nf] at f7
  obtain rfl := sj h
  try simp only [↓Da, Ua, JD, J8, J2N, *, ↓reduceIte, reduceEqDiff, reduceAdd, reduceLT, reduceMul]
  rfl
 ·obtain rfl := sj h
  try simp only [↓Da, Ua, JD, J8, J2N, *, ↓reduceIte, reduceEqDiff, reduceAdd, reduceLT, reduceMul]
  rfl
def JJ (x0 : List T_api_Copy) (x1 x8 : Int) (x9 x10 : Int) : Option (((Int × Int) ⊕ (Int × Bool))) :=
 if (decide (x9 < x10)) then
  Option.bind (J7V .u64 (IntKind.wrap .u64 (IntKind.wrap .i64 (x9 + x10))) 1) fun q2 =>
  Option.bind (idx x0 (IntKind.wrap .i64 q2)) fun y4 =>
  Option.bind (J2J y4 x1) fun r7 =>
  if (decide (r7 < 0)) then
   some (.inl ((IntKind.wrap .i64 ((IntKind.wrap .i64 q2) + 1)), x10))
  else
   some (.inl (x9, (IntKind.wrap .i64 q2)))
 else
  Option.map (fun o => .inr o) (JZ x0 x1 x8 x9)
theorem J1h {x0 : List T_api_Copy} {x1 x8 : Int} {x9 x10 : Int} {o : ((Int × Int) ⊕ (Int × Bool))} (h : JJ x0 x1 x8 x9 x10 = some o) :
  rk (J2 p) Jp 0 [.lo 0 [0, 1, 2, 8, 9, 10] Js, .bl 0, .sq (.keep [0, 1, 2, 8, 9] JD)] (X (J2 p) Js ⟨[(0, .p (.sl 3 (List.map J6 x0))), (1, .p (.i .i64 x1)), (2, .fn J0i [] []), (8, .p (.i .i64 x8)), (9, .p (.i .i64 x9)), (10, .p (.i .i64 x10))], []⟩) = (J3n p x0 x1 x8) o := by
 unfold JJ at h
 rcases Jb h with ⟨h1, h⟩ | ⟨h1, h⟩
 ·obtain ⟨q2, h3, h⟩ := bi h
  obtain ⟨y4, h5, h⟩ := bi h
  have f6 := J4t (r := J6) h5
  try simp only [Nf] at f6
  obtain ⟨r7, h8, h⟩ := bi h
  have f9 := Jc0 p h8
  try simp only [Nf] at f9
  try simp only [↓Da, Ua, Js, J8, *, ↓reduceIte, reduceEqDiff, reduceAdd, reduceLT, reduceMul]
  rcases Jb h with ⟨h10, h⟩ | ⟨h10, h⟩
  ·obtain rfl := sj h
   try simp only [↓Da, Ua, Js, J8, *, ↓reduceIte, reduceEqDiff, reduceAdd, reduceLT, reduceMul]
   rfl
  ·obtain rfl := sj h
   try simp only [↓Da, Ua, Js, J8, *, ↓reduceIte, reduceEqDiff, reduceAdd, reduceLT, reduceMul]
   rfl
 ·obtain ⟨o', h', rfl⟩ := mi h
  try simp only [↓Da, Ua, Js, J8, *, ↓reduceIte, reduceEqDiff, reduceAdd, reduceLT, reduceMul]
  have e0 := J3x p h'
  exact e0
def JY (x0 : List T_api_Copy) (x1 x8 : Int) (s : Int × Int) : Option (Int × Bool) :=
 Ju (fun s => JJ x0 x1 x8 s.1 s.2) s
theorem J38 {x0 : List T_api_Copy} {x1 x8 : Int} {s : Int × Int} {o : Int × Bool} (h : JY x0 x1 x8 s = some o) :
  rk (J2 p) Jp 0 [.bl 0, .sq (.keep [0, 1, 2, 8, 9] JD)] (X (J2 p) (.lp 0 [0, 1, 2, 8, 9, 10] Js) ⟨[(0, .p (.sl 3 (List.map J6 x0))), (1, .p (.i .i64 x1)), (2, .fn J0i [] []), (8, .p (.i .i64 x8)), (9, .p (.i .i64 s.1)), (10, .p (.i .i64 s.2))], []⟩) = JE o := by
 have h0 : Ju (fun s => JJ x0 x1 x8 s.1 s.2) s = some o := h
 exact J0m (P := fun (s : Int × Int) (o : Int × Bool) => rk (J2 p) Jp 0 [.bl 0, .sq (.keep [0, 1, 2, 8, 9] JD)] (X (J2 p) (.lp 0 [0, 1, 2, 8, 9, 10] Js) ⟨[(0, .p (.sl 3 (List.map J6 x0))), (1, .p (.i .i64 x1)), (2, .fn J0i [] []), (8, .p (.i .i64 x8)), (9, .p (.i .i64 s.1)), (10, .p (.i .i64 s.2))], []⟩) = JE o) (fun s r hs => by rw [J0q]; exact J1h p hs) (fun s s1 r hs ih => by rw [J0q]; exact (J1h p hs).trans ih) h0
def JN (x0 : List T_api_Copy) (x1 : Int) : Option (Int × Bool) :=
 JY x0 x1 ((List.length x0 : Nat) : Int) (0, ((List.length x0 : Nat) : Int))
theorem J39 {x0 : List T_api_Copy} {x1 : Int} {o : Int × Bool} (h : JN x0 x1 = some o) :
  rk (J2 p) Jp 0 [] (X (J2 p) J0b ⟨[(0, .p (.sl 3 (List.map J6 x0))), (1, .p (.i .i64 x1)), (2, .fn J0i [] [])], []⟩) = JE o := by
 unfold JN at h
 try simp only [↓Da, Ua, J0b, J8, ↓reduceIte, reduceEqDiff, reduceAdd, reduceLT, reduceMul]
 have e0 := J38 p h
 exact e0
theorem J3J {x0 : List T_api_Copy} {x1 : Int} {o : Int × Bool} (h : JN x0 x1 = some o) : AF (J2 p) JX [.p (.sl 3 (List.map J6 x0)), .p (.i .i64 x1), .fn J0i [] []] [] = JE o :=
 (J0r (J2 p) (J5R p) rfl).trans (J39 p h)
def Jek  (r : Int × Bool) : Option Res := some (.tup [.p (.i .i64 r.1), .p (.b r.2)], [])
def J4k (x0 : T_api_Image) (x1 : Int) : Option (Int × Bool) :=
 Option.bind (JN x0.Copies x1) fun r1 =>
 some (r1.1, r1.2)
theorem Jgj {x0 : T_api_Image} {x1 : Int} {o : Int × Bool} (h : J4k x0 x1 = some o) :
  rk (J2 p) J6k 0 [] (X (J2 p) J7v ⟨[(0, .data (J7 x0)), (1, .p (.i .i64 x1))], []⟩) = Jek o := by
 unfold J4k at h
 obtain ⟨r1, h2, h⟩ := bi h
 have f3 : ∀ ws new s, (Jj (AF (J2 p)) JX ([.p (.sl 3 (List.map J6 x0.Copies)), .p (.i .i64 x1), .fn J0i [] []], ws) 0 new).run s = some ⟨.tup [.p (.i .i64 r1.1), .p (.b r1.2)], ws⟩ := fun ws new s => (JT (args' := [.p (.sl 3 (List.map J6 x0.Copies)), .p (.i .i64 x1), .fn J0i [] []]) (bs := []) (css := []) (css' := []) rfl rfl rfl rfl (J3J p h2) rfl rfl rfl ws new s trivial).trans (by simp)
 try simp only [Nf] at f3
 obtain rfl := sj h
 try simp only [↓Da, Ua, J7v, J9, J8, JkB, *, ↓reduceIte, reduceEqDiff, reduceAdd, reduceLT, reduceMul]
 rfl
theorem JkS {x0 : T_api_Image} {x1 : Int} {o : Int × Bool} (h : J4k x0 x1 = some o) : AF (J2 p) J5h [.data (J7 x0), .p (.i .i64 x1)] [] = Jek o :=
 (J0r (J2 p) (JkU p) rfl).trans (Jgj p h)
theorem Je8 {x0 : T_api_Image} {x1 : Int} {o : Int × Bool} (h : J4k x0 x1 = some o) : ∀ ws new st, (Jj (AF (J2 p)) J5h ([.data (J7 x0), .p (.i .i64 x1)], ws) 0 new).run st = some ⟨.tup [.p (.i .i64 o.1), .p (.b o.2)], ws⟩ := Jx rfl (JkS p h) rfl
def J6h  (r : Bool) : Option Res := some (.p (.b r), [])
def Ji0 (b0 : T_api_Page) (o : (Int) ⊕ (Bool)) : Option Res := match o with
 | .inl s => rk (J2 p) J2j 0 [.bl 0, .sq (.keep [] J3R)] (X (J2 p) (.lp 1 [1, 3] J0D) ⟨[(1, .ptr 0 0), (3, .p (.i .i64 s))], [.box (List.map AV.p (J4 b0))]⟩)
 | .inr o => J6h o
def J86  : Option (Bool) :=
 some true
theorem JiE {B0 : List PV} {o : Bool} (h : J86 = some o) :
  rk (J2 p) J2j 0 [] (X (J2 p) J3R ⟨[], [.box (List.map AV.p B0)]⟩) = J6h o := by
 unfold J86 at h
 obtain rfl := sj h
 try simp only [↓Da, Ua, J3R, Jb3, ↓reduceIte, reduceEqDiff, reduceAdd, reduceLT, reduceMul]
 rfl
def J1F (b0 : T_api_Page) (x3 : Int) : Option (((Int) ⊕ (Bool))) :=
 if (decide (x3 < 16)) then
  Option.bind (inb 16 x3) fun u2 =>
  Option.bind (J80 b0.Cells x3) fun y5 =>
  Option.bind (J0y y5) fun r8 =>
  if r8 then
   if ((b0.LSN : Int) == 0) then
    if y5.Set then
     some (.inr false)
    else
     some (.inl (IntKind.wrap .i64 (x3 + 1)))
   else
    some (.inl (IntKind.wrap .i64 (x3 + 1)))
  else
   some (.inr false)
 else
  Option.map (fun o => .inr o) (J86)
theorem Jcj {b0 : T_api_Page} {x3 : Int} {o : ((Int) ⊕ (Bool))} (h : J1F b0 x3 = some o) :
  rk (J2 p) J2j 0 [.lo 1 [1, 3] J0D, .bl 0, .sq (.keep [] J3R)] (X (J2 p) J0D ⟨[(1, .ptr 0 0), (3, .p (.i .i64 x3))], [.box (List.map AV.p (J4 b0))]⟩) = (Ji0 p b0) o := by
 unfold J1F at h
 rcases Jb h with ⟨h1, h⟩ | ⟨h1, h⟩
 ·obtain ⟨u2, h3, h⟩ := bi h
  have f4 : (0 ≤ (x3 : Int) ∧ (x3 : Int) < ((16 : Nat) : Int)) = True := eq_true (J8x h3)
  obtain ⟨y5, h6, h⟩ := bi h
  have f7 : sub (J4 b0) (2 + Int.toNat x3 * 2) 2 = some (Jg y5) := by
   have e0 := (J77 (J1c b0) (J8T (v := b0.Cells) JV (J4D h6).2))
   exact e0
  try simp only [Nf] at f7
  obtain ⟨r8, h9, h⟩ := bi h
  have f10 := Jg7 p h9
  try simp only [Nf] at f10
  try simp only [↓Da, Ua, J0D, J5, J1, J3, *, ↓reduceIte, reduceEqDiff, reduceAdd, reduceLT, reduceMul]
  rcases Jb h with ⟨h11, h⟩ | ⟨h11, h⟩
  ·try simp only [↓Da, Ua, J0D, J5, J1, J3, *, ↓reduceIte, reduceEqDiff, reduceAdd, reduceLT, reduceMul]
   rcases Jb h with ⟨h12, h⟩ | ⟨h12, h⟩
   ·have h12n : ((b0.LSN : Int) != 0) = false := by rw [bne, h12]; rfl
    have f13 : sub (J4 b0) (2 + Int.toNat x3 * 2) 1 = some (r_b y5.Set) := by
     have e0 := (J77 (J77 (J1c b0) (J8T (v := b0.Cells) JV (J4D h6).2)) (J9x y5))
     exact e0
    try simp only [Nf] at f13
    try simp only [↓Da, Ua, J0D, J5, J1, J3, *, ↓reduceIte, reduceEqDiff, reduceAdd, reduceLT, reduceMul]
    rcases Jb h with ⟨h14, h⟩ | ⟨h14, h⟩
    ·obtain rfl := sj h
     try simp only [↓Da, Ua, J0D, J5, J1, J3, Jb3, *, ↓reduceIte, reduceEqDiff, reduceAdd, reduceLT, reduceMul]
     rfl
    ·obtain rfl := sj h
     try simp only [↓Da, Ua, J0D, J5, J1, J3, *, ↓reduceIte, reduceEqDiff, reduceAdd, reduceLT, reduceMul]
     rfl
   ·have h12n : ((b0.LSN : Int) != 0) = true := by rw [bne, h12]; rfl
    obtain rfl := sj h
    try simp only [↓Da, Ua, J0D, J5, J1, J3, *, ↓reduceIte, reduceEqDiff, reduceAdd, reduceLT, reduceMul]
    rfl
  ·obtain rfl := sj h
   try simp only [↓Da, Ua, J0D, J5, J1, J3, Jb3, *, ↓reduceIte, reduceEqDiff, reduceAdd, reduceLT, reduceMul]
   rfl
 ·obtain ⟨o', h', rfl⟩ := mi h
  try simp only [↓Da, Ua, J0D, J5, J1, J3, *, ↓reduceIte, reduceEqDiff, reduceAdd, reduceLT, reduceMul]
  have e0 := JiE p (B0 := (J4 b0)) h'
  first | exact e0 | (simp only [*] at e0; exact e0)
def Jcb (b0 : T_api_Page) (s : Int) : Option (Bool) :=
 Ju (fun s => J1F b0 s) s
theorem Jg9 {b0 : T_api_Page} {s : Int} {o : Bool} (h : Jcb b0 s = some o) :
  rk (J2 p) J2j 0 [.bl 0, .sq (.keep [] J3R)] (X (J2 p) (.lp 1 [1, 3] J0D) ⟨[(1, .ptr 0 0), (3, .p (.i .i64 s))], [.box (List.map AV.p (J4 b0))]⟩) = J6h o := by
 have h0 : Ju (fun s => J1F b0 s) s = some o := h
 exact J0m (P := fun (s : Int) (o : Bool) => rk (J2 p) J2j 0 [.bl 0, .sq (.keep [] J3R)] (X (J2 p) (.lp 1 [1, 3] J0D) ⟨[(1, .ptr 0 0), (3, .p (.i .i64 s))], [.box (List.map AV.p (J4 b0))]⟩) = J6h o) (fun s r hs => by rw [J0q]; exact Jcj p hs) (fun s s1 r hs ih => by rw [J0q]; exact (Jcj p hs).trans ih) h0
def J56 (x0 : T_api_Page) : Option (Bool) :=
 Jcb x0 0
theorem Jgf {x0 : T_api_Page} {o : Bool} (h : J56 x0 = some o) :
  rk (J2 p) J2j 0 [] (X (J2 p) J7x ⟨[(0, .data (J4 x0))], []⟩) = J6h o := by
 unfold J56 at h
 try simp only [↓Da, Ua, J7x, J5, J1, J3, ↓reduceIte, reduceEqDiff, reduceAdd, reduceLT, reduceMul]
 have e0 := Jg9 p h
 first | exact e0 | (simp only [*] at e0; exact e0)
theorem Jl5 {x0 : T_api_Page} {o : Bool} (h : J56 x0 = some o) : AF (J2 p) J6j [.data (J4 x0)] [] = J6h o :=
 (J0r (J2 p) (JkN p) rfl).trans (Jgf p h)
theorem Jku {x0 : T_api_Page} {o : Bool} (h : J56 x0 = some o) : ∀ ws new st, (Jj (AF (J2 p)) J6j ([.data (J4 x0)], ws) 0 new).run st = some ⟨.p (.b o), ws⟩ := Jx rfl (Jl5 p h) rfl
def J6d  (r : (List UInt8) × Int) : Option Res := some (.tup [.p (.s r.1), .p (.i .i64 r.2)], [])
def Ji2 (x28 : Vector Jc 16) (b0 : T_api_Page) (o : (Int × T_page_builder) ⊕ ((List UInt8) × Int)) : Option Res := match o with
 | .inl s => rk (J2 p) J2l 0 [.bl 1, .td 2 [1, 2, 3, 4], .sq (.keep [1, 4] J3W)] (X (J2 p) (.lp 2 [1, 4, 5, 28, 29] J36) ⟨[(1, .ptr 0 0), (4, .ptr 1 0), (5, .fn J10 [.ptr 1 0] []), (28, .data ((J06 Jg) x28)), (29, .p (.i .i64 s.1))], [.box (List.map AV.p (J4 b0)), .box (List.map AV.p (J0J s.2))]⟩)
 | .inr o => J6d o
def J6n (b0 : T_api_Page) (b1 : T_page_builder) : Option ((List UInt8) × Int) :=
 Option.bind (J3A ([0]) (IntKind.wrap .i64 (244 - ((List.length b1.s_ : Nat) : Int)))) fun r1 =>
 Option.bind (J46 b1.s_ r1) fun s5 =>
 Option.bind (J1G s5) fun r7 =>
 Option.bind (J0s s5 (IntKind.wrap .i64 r7) 4) fun r11 =>
 Option.bind (J0s r11 b0.LSN 8) fun r15 =>
 some (r15, 0)
theorem Ji3 {b0 : T_api_Page} {b1 : T_page_builder} {o : (List UInt8) × Int} (h : J6n b0 b1 = some o) :
  rk (J2 p) J2l 0 [] (X (J2 p) J3W ⟨[(1, .ptr 0 0), (4, .ptr 1 0)], [.box (List.map AV.p (J4 b0)), .box (List.map AV.p (J0J b1))]⟩) = J6d o := by
 unfold J6n at h
 obtain ⟨r1, h2, h⟩ := bi h
 have f3 := J9y p h2
 try simp only [Nf, JA] at f3
 have f4 : ∀ ws k new s, Je ((Jj (AF (J2 p)) J2f ([.p (.s [0]), .p (.i .i64 (IntKind.wrap .i64 (244 - ((List.length b1.s_ : Nat) : Int))))], ws) k new).reads s) = [] := J18 rfl
 try simp only [Nf, JA] at f4
 obtain ⟨s5, h6, h⟩ := bi h
 obtain ⟨r7, h8, h⟩ := bi h
 have f9 := JcA p h8
 try simp only [Nf, JA] at f9
 have f10 : ∀ ws k new s, Je ((Jj (AF (J2 p)) J4O ([.p (.s s5)], ws) k new).reads s) = [] := J18 rfl
 try simp only [Nf, JA] at f10
 obtain ⟨r11, h12, h⟩ := bi h
 have f13 := J6J p h12
 try simp only [Nf, JA] at f13
 have f14 : ∀ ws k new s, Je ((Jj (AF (J2 p)) J1q ([.p (.s s5), .p (.i .i64 (IntKind.wrap .i64 r7)), .p (.i .i64 4)], ws) k new).reads s) = [] := J18 rfl
 try simp only [Nf, JA] at f14
 obtain ⟨r15, h16, h⟩ := bi h
 have f17 := J6J p h16
 try simp only [Nf, JA] at f17
 have f18 : ∀ ws k new s, Je ((Jj (AF (J2 p)) J1q ([.p (.s r11), .p (.i .i64 b0.LSN), .p (.i .i64 8)], ws) k new).reads s) = [] := J18 rfl
 try simp only [Nf, JA] at f18
 obtain rfl := sj h
 try simp only [↓Da, Ua, Ra, J3W, J5, J1, J3, JA, JaZ, *, ↓reduceIte, reduceEqDiff, reduceAdd, reduceLT, reduceMul, Nat.reduceBEq]
 rfl
def J26 (x28 : Vector Jc 16) (b0 : T_api_Page) (x29 : Int) (b1 : T_page_builder) : Option (((Int × T_page_builder) ⊕ ((List UInt8) × Int))) :=
 if (decide (x29 < 16)) then
  Option.bind (J80 x28 x29) fun y2 =>
  Option.bind (J1P b1 y2) fun r6 =>
  some (.inl ((IntKind.wrap .i64 (x29 + 1)), r6))
 else
  Option.map (fun o => .inr o) (J6n b0 b1)
theorem Jc8 {x28 : Vector Jc 16} {b0 : T_api_Page} {x29 : Int} {b1 : T_page_builder} {o : ((Int × T_page_builder) ⊕ ((List UInt8) × Int))} (h : J26 x28 b0 x29 b1 = some o) :
  rk (J2 p) J2l 0 [.lo 2 [1, 4, 5, 28, 29] J36, .bl 1, .td 2 [1, 2, 3, 4], .sq (.keep [1, 4] J3W)] (X (J2 p) J36 ⟨[(1, .ptr 0 0), (4, .ptr 1 0), (5, .fn J10 [.ptr 1 0] []), (28, .data ((J06 Jg) x28)), (29, .p (.i .i64 x29))], [.box (List.map AV.p (J4 b0)), .box (List.map AV.p (J0J b1))]⟩) = (Ji2 p x28 b0) o := by
 unfold J26 at h
 rcases Jb h with ⟨h1, h⟩ | ⟨h1, h⟩
 ·obtain ⟨y2, h3, h⟩ := bi h
  have f4 : (0 ≤ (x29 : Int) ∧ (x29 : Int) < ((16 : Nat) : Int)) = True := eq_true (J4D h3).1
  have f5 : sub (J06 Jg x28) (Int.toNat x29 * 2) 2 = some (Jg y2) := J8T JV (J4D h3).2
  try simp only [Nf, JA] at f5
  obtain ⟨r6, h7, h⟩ := bi h
  have f8 : ∀ ws new s, J07 ws s [1] [List.map AV.p (J0J b1)] → (Jj (AF (J2 p)) J10 ([.ptr 1 0, .data (Jg y2)], ws) 0 new).run s = some ⟨.tup [], ws ++ [(1, .box (List.map AV.p (J0J r6)))]⟩ := JT (args' := [.ptr 0 0, .data (Jg y2)]) (bs := [1]) (css := [List.map AV.p (J0J b1)]) (css' := [List.map AV.p (J0J r6)]) rfl rfl rfl (by simp [Jm, Jf]) (Jeo p h7) rfl rfl (by simp [Jm, Jf])
  try simp only [Nf, JA] at f8
  obtain rfl := sj h
  try simp only [↓Da, Ua, J36, J5, JA, *, ↓reduceIte, reduceEqDiff, reduceAdd, reduceLT, reduceMul]
  rfl
 ·obtain ⟨o', h', rfl⟩ := mi h
  try simp only [↓Da, Ua, J36, J5, JA, *, ↓reduceIte, reduceEqDiff, reduceAdd, reduceLT, reduceMul]
  have e0 := Ji3 p h'
  exact e0
def J9P (x28 : Vector Jc 16) (b0 : T_api_Page) (s : Int × T_page_builder) : Option ((List UInt8) × Int) :=
 Ju (fun s => J26 x28 b0 s.1 s.2) s
theorem JfY {x28 : Vector Jc 16} {b0 : T_api_Page} {s : Int × T_page_builder} {o : (List UInt8) × Int} (h : J9P x28 b0 s = some o) :
  rk (J2 p) J2l 0 [.bl 1, .td 2 [1, 2, 3, 4], .sq (.keep [1, 4] J3W)] (X (J2 p) (.lp 2 [1, 4, 5, 28, 29] J36) ⟨[(1, .ptr 0 0), (4, .ptr 1 0), (5, .fn J10 [.ptr 1 0] []), (28, .data ((J06 Jg) x28)), (29, .p (.i .i64 s.1))], [.box (List.map AV.p (J4 b0)), .box (List.map AV.p (J0J s.2))]⟩) = J6d o := by
 have h0 : Ju (fun s => J26 x28 b0 s.1 s.2) s = some o := h
 exact J0m (P := fun (s : Int × T_page_builder) (o : (List UInt8) × Int) => rk (J2 p) J2l 0 [.bl 1, .td 2 [1, 2, 3, 4], .sq (.keep [1, 4] J3W)] (X (J2 p) (.lp 2 [1, 4, 5, 28, 29] J36) ⟨[(1, .ptr 0 0), (4, .ptr 1 0), (5, .fn J10 [.ptr 1 0] []), (28, .data ((J06 Jg) x28)), (29, .p (.i .i64 s.1))], [.box (List.map AV.p (J4 b0)), .box (List.map AV.p (J0J s.2))]⟩) = J6d o) (fun s r hs => by rw [J0q]; exact Jc8 p hs) (fun s s1 r hs ih => by rw [J0q]; exact (Jc8 p hs).trans ih) h0
def J0M (x0 : T_api_Page) : Option ((List UInt8) × Int) :=
 Option.bind (J1A x0) fun r1 =>
 if r1 then
  Option.bind (J4X x0) fun r5 =>
  if r5 then
   Option.bind (J0s ([]) x0.LSN 8) fun r9 =>
   Option.bind (J0s r9 x0.ID 4) fun r13 =>
   J9P x0.Cells x0 (0, (⟨r13⟩ : T_page_builder))
  else
   some (([] : List UInt8), 22)
 else
  some (([] : List UInt8), 1)
theorem Jg5 {x0 : T_api_Page} {o : (List UInt8) × Int} (h : J0M x0 = some o) :
  rk (J2 p) J2l 0 [] (X (J2 p) J3r ⟨[(0, .data (J4 x0))], []⟩) = J6d o := by
 unfold J0M at h
 obtain ⟨r1, h2, h⟩ := bi h
 have f3 := Jl0 p h2
 try simp only [Nf, JA] at f3
 try simp only [↓Da, Ua, Ra, J3r, J5, J1, J3, JA, *, ↓reduceIte, reduceEqDiff, reduceAdd, reduceLT, reduceMul, Nat.reduceBEq]
 rcases Jb h with ⟨h4, h⟩ | ⟨h4, h⟩
 ·obtain ⟨r5, h6, h⟩ := bi h
  have f7 := JlA p h6
  try simp only [Nf, JA] at f7
  try simp only [↓Da, Ua, Ra, J3r, J5, J1, J3, JA, *, ↓reduceIte, reduceEqDiff, reduceAdd, reduceLT, reduceMul, Nat.reduceBEq]
  rcases Jb h with ⟨h8, h⟩ | ⟨h8, h⟩
  ·obtain ⟨r9, h10, h⟩ := bi h
   have f11 := J6J p h10
   try simp only [Nf, JA] at f11
   have f12 : ∀ ws k new s, Je ((Jj (AF (J2 p)) J1q ([.p (.s []), .p (.i .i64 x0.LSN), .p (.i .i64 8)], ws) k new).reads s) = [] := J18 rfl
   try simp only [Nf, JA] at f12
   obtain ⟨r13, h14, h⟩ := bi h
   have f15 := J6J p h14
   try simp only [Nf, JA] at f15
   have f16 : ∀ ws k new s, Je ((Jj (AF (J2 p)) J1q ([.p (.s r9), .p (.i .i64 x0.ID), .p (.i .i64 4)], ws) k new).reads s) = [] := J18 rfl
   try simp only [Nf, JA] at f16
   try simp only [↓Da, Ua, Ra, J3r, J5, J1, J3, JA, *, ↓reduceIte, reduceEqDiff, reduceAdd, reduceLT, reduceMul, Nat.reduceBEq]
   have e0 := JfY p h
   exact e0
  ·obtain rfl := sj h
   try simp only [↓Da, Ua, Ra, J3r, J5, J1, J3, JA, JaZ, *, ↓reduceIte, reduceEqDiff, reduceAdd, reduceLT, reduceMul, Nat.reduceBEq]
   rfl
 ·obtain rfl := sj h
  try simp only [↓Da, Ua, Ra, J3r, J5, J1, J3, JA, JaZ, *, ↓reduceIte, reduceEqDiff, reduceAdd, reduceLT, reduceMul, Nat.reduceBEq]
  rfl
theorem Jkp {x0 : T_api_Page} {o : (List UInt8) × Int} (h : J0M x0 = some o) : AF (J2 p) J6c [.data (J4 x0)] [] = J6d o :=
 (J0r (J2 p) (JkP p) rfl).trans (Jg5 p h)
theorem Jlf {x0 : T_api_Page} {o : (List UInt8) × Int} (h : J0M x0 = some o) : ∀ ws new st, (Jj (AF (J2 p)) J6c ([.data (J4 x0)], ws) 0 new).run st = some ⟨.tup [.p (.s o.1), .p (.i .i64 o.2)], ws⟩ := Jx rfl (Jkp p h) rfl
def JdV  (r : (List UInt8)) : Option Res := some (.p (.s r), [])
def J2M (x0 : List UInt8) : Option ((List UInt8)) :=
 if (decide (((List.length x0 : Nat) : Int) > 8392)) then
  some ([] : List UInt8)
 else
  Option.bind (J0s ([]) ((List.length x0 : Nat) : Int) 4) fun r2 =>
  Option.bind (J46 r2 x0) fun s5 =>
  Option.bind (J1G s5) fun r7 =>
  Option.bind (J0s s5 (IntKind.wrap .i64 r7) 4) fun r10 =>
  some r10
theorem JfK {x0 : List UInt8} {o : (List UInt8)} (h : J2M x0 = some o) :
  rk (J2 p) J6a 0 [] (X (J2 p) J66 ⟨[(0, .p (.s x0))], []⟩) = JdV o := by
 unfold J2M at h
 rcases Jb h with ⟨h1, h⟩ | ⟨h1, h⟩
 ·obtain rfl := sj h
  try simp only [↓Da, Ua, J66, JdT, *, ↓reduceIte, reduceEqDiff, reduceAdd, reduceLT, reduceMul]
  rfl
 ·obtain ⟨r2, h3, h⟩ := bi h
  have f4 := J6J p h3
  try simp only [Nf] at f4
  obtain ⟨s5, h6, h⟩ := bi h
  obtain ⟨r7, h8, h⟩ := bi h
  have f9 := JcA p h8
  try simp only [Nf] at f9
  obtain ⟨r10, h11, h⟩ := bi h
  have f12 := J6J p h11
  try simp only [Nf] at f12
  obtain rfl := sj h
  try simp only [↓Da, Ua, J66, JdT, *, ↓reduceIte, reduceEqDiff, reduceAdd, reduceLT, reduceMul]
  rfl
theorem Jl7 {x0 : List UInt8} {o : (List UInt8)} (h : J2M x0 = some o) : AF (J2 p) J9f [.p (.s x0)] [] = JdV o :=
 (J0r (J2 p) (Jlh p) rfl).trans (JfK p h)
def Jej  (r : Int) : Option Res := some (.p (.i .i64 r), [])
def J5m (x0 : T_api_Page) : Option (Int) :=
 Option.bind (J41 x0) fun r1 =>
 if r1 then
  Option.bind (J56 x0) fun r5 =>
  if r5 then
   some 0
  else
   some 22
 else
  some 1
theorem JfT {x0 : T_api_Page} {o : Int} (h : J5m x0 = some o) :
  rk (J2 p) J62 0 [] (X (J2 p) J3u ⟨[(0, .data (J4 x0))], []⟩) = Jej o := by
 unfold J5m at h
 obtain ⟨r1, h2, h⟩ := bi h
 have f3 := JhM p h2
 try simp only [Nf] at f3
 try simp only [↓Da, Ua, J3u, J5, J1, J3, *, ↓reduceIte, reduceEqDiff, reduceAdd, reduceLT, reduceMul]
 rcases Jb h with ⟨h4, h⟩ | ⟨h4, h⟩
 ·obtain ⟨r5, h6, h⟩ := bi h
  have f7 := Jku p h6
  try simp only [Nf] at f7
  try simp only [↓Da, Ua, J3u, J5, J1, J3, *, ↓reduceIte, reduceEqDiff, reduceAdd, reduceLT, reduceMul]
  rcases Jb h with ⟨h8, h⟩ | ⟨h8, h⟩
  ·obtain rfl := sj h
   try simp only [↓Da, Ua, J3u, J5, J1, J3, JaV, *, ↓reduceIte, reduceEqDiff, reduceAdd, reduceLT, reduceMul]
   rfl
  ·obtain rfl := sj h
   try simp only [↓Da, Ua, J3u, J5, J1, J3, JaV, *, ↓reduceIte, reduceEqDiff, reduceAdd, reduceLT, reduceMul]
   rfl
 ·obtain rfl := sj h
  try simp only [↓Da, Ua, J3u, J5, J1, J3, JaV, *, ↓reduceIte, reduceEqDiff, reduceAdd, reduceLT, reduceMul]
  rfl
theorem Jkq {x0 : T_api_Page} {o : Int} (h : J5m x0 = some o) : AF (J2 p) J6b [.data (J4 x0)] [] = Jej o :=
 (J0r (J2 p) (JkJ p) rfl).trans (JfT p h)
theorem JkF {x0 : T_api_Page} {o : Int} (h : J5m x0 = some o) : ∀ ws new st, (Jj (AF (J2 p)) J6b ([.data (J4 x0)], ws) 0 new).run st = some ⟨.p (.i .i64 o), ws⟩ := Jx rfl (Jkq p h) rfl
def Je6  (r : T_api_Page × Int) : Option Res := some (.tup [.data (J4 r.1), .p (.i .i64 r.2)], [])
def J0L (x0 : List UInt8) : Option (T_api_Page × Int) :=
 if ((((List.length x0 : Nat) : Int) : Int) != 256) then
  some ((⟨0, 0, (Vector.replicate 16 (⟨false, []⟩ : Jc))⟩ : T_api_Page), 2)
 else
  Option.bind (J5I) fun r2 =>
  if (x0 == r2) then
   some ((⟨0, 0, (Vector.replicate 16 (⟨false, []⟩ : Jc))⟩ : T_api_Page), 7)
  else
   Option.bind (J2H x0 none (some 8)) fun m6 =>
   Option.bind (J2H x0 (some 248) none) fun m9 =>
   if (m6 == m9) then
    Option.bind (JC x0 244 4) fun r13 =>
    Option.bind (J2H x0 none (some 244)) fun m16 =>
    Option.bind (J1G m16) fun r19 =>
    if ((r13 : Int) != (IntKind.wrap .i64 r19)) then
     some ((⟨0, 0, (Vector.replicate 16 (⟨false, []⟩ : Jc))⟩ : T_api_Page), 3)
    else
     Option.bind (J3g x0) fun r23 =>
     Option.bind (J0M r23.1) fun r26 =>
     if r23.2 then
      if ((r26.2 : Int) != 0) then
       some ((⟨0, 0, (Vector.replicate 16 (⟨false, []⟩ : Jc))⟩ : T_api_Page), 4)
      else
       if (r26.1 == x0) then
        some (r23.1, 0)
       else
        some ((⟨0, 0, (Vector.replicate 16 (⟨false, []⟩ : Jc))⟩ : T_api_Page), 4)
     else
      some ((⟨0, 0, (Vector.replicate 16 (⟨false, []⟩ : Jc))⟩ : T_api_Page), 4)
   else
    some ((⟨0, 0, (Vector.replicate 16 (⟨false, []⟩ : Jc))⟩ : T_api_Page), 27)
theorem Jg0 {x0 : List UInt8} {o : T_api_Page × Int} (h : J0L x0 = some o) :
  rk (J2 p) J6e 0 [] (X (J2 p) J0n ⟨[(0, .p (.s x0))], []⟩) = Je6 o := by
 unfold J0L at h
 rcases Jb h with ⟨h1, h⟩ | ⟨h1, h⟩
 ·obtain rfl := sj h
  try simp only [↓Da, Ua, J0n, J5, J1, J3, J4l, *, ↓reduceIte, reduceEqDiff, reduceAdd, reduceLT, reduceMul]
  rfl
 ·obtain ⟨r2, h3, h⟩ := bi h
  have f4 := JlL p h3
  try simp only [Nf] at f4
  try simp only [↓Da, Ua, J0n, J5, J1, J3, *, ↓reduceIte, reduceEqDiff, reduceAdd, reduceLT, reduceMul]
  rcases Jb h with ⟨h5, h⟩ | ⟨h5, h⟩
  ·obtain rfl := sj h
   try simp only [↓Da, Ua, J0n, J5, J1, J3, J4l, *, ↓reduceIte, reduceEqDiff, reduceAdd, reduceLT, reduceMul]
   rfl
  ·obtain ⟨m6, h7, h⟩ := bi h
   have f8 : J3Y (.p (.s x0)) none (some (.p (.i .i64 8))) = some (.p (.s m6)) := J6r (k := .i64) (lo := none) (hi := (some 8)) h7
   try simp only [Nf] at f8
   obtain ⟨m9, h10, h⟩ := bi h
   have f11 : J3Y (.p (.s x0)) (some (.p (.i .i64 248))) none = some (.p (.s m9)) := J6r (k := .i64) (lo := (some 248)) (hi := none) h10
   try simp only [Nf] at f11
   try simp only [↓Da, Ua, J0n, J5, J1, J3, *, ↓reduceIte, reduceEqDiff, reduceAdd, reduceLT, reduceMul]
   rcases Jb h with ⟨h12, h⟩ | ⟨h12, h⟩
   ·obtain ⟨r13, h14, h⟩ := bi h
    have f15 := J9d p h14
    try simp only [Nf] at f15
    obtain ⟨m16, h17, h⟩ := bi h
    have f18 : J3Y (.p (.s x0)) none (some (.p (.i .i64 244))) = some (.p (.s m16)) := J6r (k := .i64) (lo := none) (hi := (some 244)) h17
    try simp only [Nf] at f18
    obtain ⟨r19, h20, h⟩ := bi h
    have f21 := JcA p h20
    try simp only [Nf] at f21
    try simp only [↓Da, Ua, J0n, J5, J1, J3, *, ↓reduceIte, reduceEqDiff, reduceAdd, reduceLT, reduceMul]
    rcases Jb h with ⟨h22, h⟩ | ⟨h22, h⟩
    ·obtain rfl := sj h
     try simp only [↓Da, Ua, J0n, J5, J1, J3, J4l, *, ↓reduceIte, reduceEqDiff, reduceAdd, reduceLT, reduceMul]
     rfl
    ·obtain ⟨r23, h24, h⟩ := bi h
     have f25 := JnD p h24
     try simp only [Nf] at f25
     obtain ⟨r26, h27, h⟩ := bi h
     have f28 := Jlf p h27
     try simp only [Nf] at f28
     try simp only [↓Da, Ua, J0n, J5, J1, J3, *, ↓reduceIte, reduceEqDiff, reduceAdd, reduceLT, reduceMul]
     rcases Jb h with ⟨h29, h⟩ | ⟨h29, h⟩
     ·try simp only [↓Da, Ua, J0n, J5, J1, J3, *, ↓reduceIte, reduceEqDiff, reduceAdd, reduceLT, reduceMul]
      rcases Jb h with ⟨h30, h⟩ | ⟨h30, h⟩
      ·obtain rfl := sj h
       try simp only [↓Da, Ua, J0n, J5, J1, J3, J4l, *, ↓reduceIte, reduceEqDiff, reduceAdd, reduceLT, reduceMul]
       rfl
      ·try simp only [↓Da, Ua, J0n, J5, J1, J3, *, ↓reduceIte, reduceEqDiff, reduceAdd, reduceLT, reduceMul]
       rcases Jb h with ⟨h31, h⟩ | ⟨h31, h⟩
       ·obtain rfl := sj h
        try simp only [↓Da, Ua, J0n, J5, J1, J3, J4l, *, ↓reduceIte, reduceEqDiff, reduceAdd, reduceLT, reduceMul]
        rfl
       ·obtain rfl := sj h
        try simp only [↓Da, Ua, J0n, J5, J1, J3, J4l, *, ↓reduceIte, reduceEqDiff, reduceAdd, reduceLT, reduceMul]
        rfl
     ·obtain rfl := sj h
      try simp only [↓Da, Ua, J0n, J5, J1, J3, J4l, *, ↓reduceIte, reduceEqDiff, reduceAdd, reduceLT, reduceMul]
      rfl
   ·obtain rfl := sj h
    try simp only [↓Da, Ua, J0n, J5, J1, J3, J4l, *, ↓reduceIte, reduceEqDiff, reduceAdd, reduceLT, reduceMul]
    rfl
theorem Jl9 {x0 : List UInt8} {o : T_api_Page × Int} (h : J0L x0 = some o) : AF (J2 p) J68 [.p (.s x0)] [] = Je6 o :=
 (J0r (J2 p) (JkT p) rfl).trans (Jg0 p h)
theorem JkZ {x0 : List UInt8} {o : T_api_Page × Int} (h : J0L x0 = some o) : ∀ ws new st, (Jj (AF (J2 p)) J68 ([.p (.s x0)], ws) 0 new).run st = some ⟨.tup [.data (J4 o.1), .p (.i .i64 o.2)], ws⟩ := Jx rfl (Jl9 p h) rfl
def J5D  (r : (List UInt8) × Int) : Option Res := some (.tup [.p (.s r.1), .p (.i .i64 r.2)], [])
def J9u (b0 : T_api_Page) (o : ((List UInt8) × Int) ⊕ ((List UInt8) × Int)) : Option Res := match o with
 | .inl s => rk (J2 p) J1f 0 [.bl 0, .sq (.keep [1, 5] J2d)] (X (J2 p) (.lp 1 [1, 5, 6] J11) ⟨[(1, .ptr 0 0), (5, .p (.s s.1)), (6, .p (.i .i64 s.2))], [.box (List.map AV.p (J4 b0))]⟩)
 | .inr o => J5D o
def J7m (x5 : List UInt8) (x6 : Int) (b0 : T_api_Page) : Option ((((List UInt8) × Int) ⊕ ((List UInt8) × Int))) :=
 some (.inl (x5, (IntKind.wrap .i64 (x6 + 1))))
theorem Jhb {x5 : List UInt8} {x6 : Int} {b0 : T_api_Page} {o : (((List UInt8) × Int) ⊕ ((List UInt8) × Int))} (h : J7m x5 x6 b0 = some o) :
  rk (J2 p) J1f 0 [.lo 1 [1, 5, 6] J11, .bl 0, .sq (.keep [1, 5] J2d)] (X (J2 p) J7i ⟨[(1, .ptr 0 0), (5, .p (.s x5)), (6, .p (.i .i64 x6))], [.box (List.map AV.p (J4 b0))]⟩) = (J9u p b0) o := by
 unfold J7m at h
 obtain rfl := sj h
 try simp only [↓Da, Ua, J7i, ↓reduceIte, reduceEqDiff, reduceAdd, reduceLT, reduceMul]
 rfl
def J4M (x5 : List UInt8) (x6 x7 : Int) (b0 : T_api_Page) : Option ((((List UInt8) × Int) ⊕ ((List UInt8) × Int))) :=
 Option.bind (J1t x5 x7 1) fun r1 =>
 Option.bind (inb 16 x6) fun u4 =>
 Option.bind (J80 b0.Cells x6) fun y7 =>
 Option.bind (J2h (IntKind.wrap .i64 (12 - ((List.length y7.Data : Nat) : Int)))) fun r11 =>
 Option.bind (J46 y7.Data r11) fun s15 =>
 Option.bind (J46 r1 s15) fun s17 =>
 J7m s17 x6 b0
theorem JbB {x5 : List UInt8} {x6 x7 : Int} {b0 : T_api_Page} {o : (((List UInt8) × Int) ⊕ ((List UInt8) × Int))} (h : J4M x5 x6 x7 b0 = some o) :
  rk (J2 p) J1f 0 [.bl 1, .sq (.keep [1, 5, 6] J7i), .lo 1 [1, 5, 6] J11, .bl 0, .sq (.keep [1, 5] J2d)] (X (J2 p) J9m ⟨[(1, .ptr 0 0), (5, .p (.s x5)), (6, .p (.i .i64 x6)), (7, .p (.i .i64 x7))], [.box (List.map AV.p (J4 b0))]⟩) = (J9u p b0) o := by
 unfold J4M at h
 obtain ⟨r1, h2, h⟩ := bi h
 have f3 := J92 p h2
 try simp only [Nf] at f3
 obtain ⟨u4, h5, h⟩ := bi h
 have f6 : (0 ≤ (x6 : Int) ∧ (x6 : Int) < ((16 : Nat) : Int)) = True := eq_true (J8x h5)
 obtain ⟨y7, h8, h⟩ := bi h
 have f9 : sub (J4 b0) ((2 + Int.toNat x6 * 2) + 1) 1 = some (r_s y7.Data) := by
  have e0 := (J77 (J77 (J1c b0) (J8T (v := b0.Cells) JV (J4D h8).2)) (J6Q y7))
  exact e0
 try simp only [Nf] at f9
 have f10 : sub (J4 b0) ((2 + Int.toNat x6 * 2) + 1) 1 = some (r_s y7.Data) := by
  have e0 := (J77 (J77 (J1c b0) (J8T (v := b0.Cells) JV (J4D h8).2)) (J6Q y7))
  exact e0
 try simp only [Nf] at f10
 obtain ⟨r11, h12, h⟩ := bi h
 have f13 := Jb4 p h12
 try simp only [Nf] at f13
 have f14 : ∀ ws k new s, Je ((Jj (AF (J2 p)) J3y ([.p (.i .i64 (IntKind.wrap .i64 (12 - ((List.length y7.Data : Nat) : Int))))], ws) k new).reads s) = [] := J18 rfl
 try simp only [Nf] at f14
 obtain ⟨s15, h16, h⟩ := bi h
 obtain ⟨s17, h18, h⟩ := bi h
 try simp only [↓Da, Ua, Ra, J9m, J5, J1, J3, *, ↓reduceIte, reduceEqDiff, reduceAdd, reduceLT, reduceMul, Nat.reduceBEq]
 have e0 := Jhb p h
 first | exact e0 | (simp only [*] at e0; exact e0)
def J7r (x5 : List UInt8) (b0 : T_api_Page) : Option ((List UInt8) × Int) :=
 Option.bind (J2h (IntKind.wrap .i64 (244 - ((List.length x5 : Nat) : Int)))) fun r1 =>
 Option.bind (J46 x5 r1) fun s4 =>
 Option.bind (J6I s4) fun r6 =>
 Option.bind (J1t s4 (IntKind.wrap .i64 r6) 4) fun r9 =>
 Option.bind (J1t r9 b0.LSN 8) fun r12 =>
 some (r12, 0)
theorem Jhd {x5 : List UInt8} {b0 : T_api_Page} {o : (List UInt8) × Int} (h : J7r x5 b0 = some o) :
  rk (J2 p) J1f 0 [] (X (J2 p) J2d ⟨[(1, .ptr 0 0), (5, .p (.s x5))], [.box (List.map AV.p (J4 b0))]⟩) = J5D o := by
 unfold J7r at h
 obtain ⟨r1, h2, h⟩ := bi h
 have f3 := Jb4 p h2
 try simp only [Nf] at f3
 obtain ⟨s4, h5, h⟩ := bi h
 obtain ⟨r6, h7, h⟩ := bi h
 have f8 := JgD p h7
 try simp only [Nf] at f8
 obtain ⟨r9, h10, h⟩ := bi h
 have f11 := J92 p h10
 try simp only [Nf] at f11
 obtain ⟨r12, h13, h⟩ := bi h
 have f14 := J92 p h13
 try simp only [Nf] at f14
 obtain rfl := sj h
 try simp only [↓Da, Ua, J2d, J5, J1, J3, Jda, *, ↓reduceIte, reduceEqDiff, reduceAdd, reduceLT, reduceMul]
 rfl
def J3B (b0 : T_api_Page) (x5 : List UInt8) (x6 : Int) : Option ((((List UInt8) × Int) ⊕ ((List UInt8) × Int))) :=
 if (decide (x6 < 16)) then
  Option.bind (inb 16 x6) fun u2 =>
  Option.bind (J80 b0.Cells x6) fun y5 =>
  if y5.Set then
   J4M x5 x6 ((List.length y5.Data : Nat) : Int) b0
  else
   J4M x5 x6 255 b0
 else
  Option.map (fun o => .inr o) (J7r x5 b0)
theorem Jbz {b0 : T_api_Page} {x5 : List UInt8} {x6 : Int} {o : (((List UInt8) × Int) ⊕ ((List UInt8) × Int))} (h : J3B b0 x5 x6 = some o) :
  rk (J2 p) J1f 0 [.lo 1 [1, 5, 6] J11, .bl 0, .sq (.keep [1, 5] J2d)] (X (J2 p) J11 ⟨[(1, .ptr 0 0), (5, .p (.s x5)), (6, .p (.i .i64 x6))], [.box (List.map AV.p (J4 b0))]⟩) = (J9u p b0) o := by
 unfold J3B at h
 rcases Jb h with ⟨h1, h⟩ | ⟨h1, h⟩
 ·obtain ⟨u2, h3, h⟩ := bi h
  have f4 : (0 ≤ (x6 : Int) ∧ (x6 : Int) < ((16 : Nat) : Int)) = True := eq_true (J8x h3)
  obtain ⟨y5, h6, h⟩ := bi h
  have f7 : sub (J4 b0) (2 + Int.toNat x6 * 2) 1 = some (r_b y5.Set) := by
   have e0 := (J77 (J77 (J1c b0) (J8T (v := b0.Cells) JV (J4D h6).2)) (J9x y5))
   exact e0
  try simp only [Nf] at f7
  try simp only [↓Da, Ua, J11, J5, J1, J3, *, ↓reduceIte, reduceEqDiff, reduceAdd, reduceLT, reduceMul]
  rcases Jb h with ⟨h8, h⟩ | ⟨h8, h⟩
  ·have f9 : sub (J4 b0) ((2 + Int.toNat x6 * 2) + 1) 1 = some (r_s y5.Data) := by
    have e0 := (J77 (J77 (J1c b0) (J8T (v := b0.Cells) JV (J4D h6).2)) (J6Q y5))
    exact e0
   try simp only [Nf] at f9
   try simp only [↓Da, Ua, J11, J5, J1, J3, *, ↓reduceIte, reduceEqDiff, reduceAdd, reduceLT, reduceMul]
   have e0 := JbB p h
   first | exact e0 | (simp only [*] at e0; exact e0)
  ·try simp only [↓Da, Ua, J11, J5, J1, J3, *, ↓reduceIte, reduceEqDiff, reduceAdd, reduceLT, reduceMul]
   have e0 := JbB p h
   first | exact e0 | (simp only [*] at e0; exact e0)
 ·obtain ⟨o', h', rfl⟩ := mi h
  try simp only [↓Da, Ua, J11, J5, J1, J3, *, ↓reduceIte, reduceEqDiff, reduceAdd, reduceLT, reduceMul]
  have e0 := Jhd p h'
  first | exact e0 | (simp only [*] at e0; exact e0)
def JbE (b0 : T_api_Page) (s : (List UInt8) × Int) : Option ((List UInt8) × Int) :=
 Ju (fun s => J3B b0 s.1 s.2) s
theorem Jf5 {b0 : T_api_Page} {s : (List UInt8) × Int} {o : (List UInt8) × Int} (h : JbE b0 s = some o) :
  rk (J2 p) J1f 0 [.bl 0, .sq (.keep [1, 5] J2d)] (X (J2 p) (.lp 1 [1, 5, 6] J11) ⟨[(1, .ptr 0 0), (5, .p (.s s.1)), (6, .p (.i .i64 s.2))], [.box (List.map AV.p (J4 b0))]⟩) = J5D o := by
 have h0 : Ju (fun s => J3B b0 s.1 s.2) s = some o := h
 exact J0m (P := fun (s : (List UInt8) × Int) (o : (List UInt8) × Int) => rk (J2 p) J1f 0 [.bl 0, .sq (.keep [1, 5] J2d)] (X (J2 p) (.lp 1 [1, 5, 6] J11) ⟨[(1, .ptr 0 0), (5, .p (.s s.1)), (6, .p (.i .i64 s.2))], [.box (List.map AV.p (J4 b0))]⟩) = J5D o) (fun s r hs => by rw [J0q]; exact Jbz p hs) (fun s s1 r hs ih => by rw [J0q]; exact (Jbz p hs).trans ih) h0
def J1Y (x0 : T_api_Page) : Option ((List UInt8) × Int) :=
 Option.bind (J5m x0) fun r1 =>
 if ((r1 : Int) != 0) then
  some (([] : List UInt8), r1)
 else
  Option.bind (J1t ([]) x0.LSN 8) fun r5 =>
  Option.bind (J1t r5 x0.ID 4) fun r8 =>
  JbE x0 (r8, 0)
theorem Jfg {x0 : T_api_Page} {o : (List UInt8) × Int} (h : J1Y x0 = some o) :
  rk (J2 p) J1f 0 [] (X (J2 p) J4C ⟨[(0, .data (J4 x0))], []⟩) = J5D o := by
 unfold J1Y at h
 obtain ⟨r1, h2, h⟩ := bi h
 have f3 := JkF p h2
 try simp only [Nf] at f3
 try simp only [↓Da, Ua, J4C, J5, J1, J3, *, ↓reduceIte, reduceEqDiff, reduceAdd, reduceLT, reduceMul]
 rcases Jb h with ⟨h4, h⟩ | ⟨h4, h⟩
 ·obtain rfl := sj h
  try simp only [↓Da, Ua, J4C, J5, J1, J3, Jda, *, ↓reduceIte, reduceEqDiff, reduceAdd, reduceLT, reduceMul]
  rfl
 ·obtain ⟨r5, h6, h⟩ := bi h
  have f7 := J92 p h6
  try simp only [Nf] at f7
  obtain ⟨r8, h9, h⟩ := bi h
  have f10 := J92 p h9
  try simp only [Nf] at f10
  try simp only [↓Da, Ua, J4C, J5, J1, J3, *, ↓reduceIte, reduceEqDiff, reduceAdd, reduceLT, reduceMul]
  have e0 := Jf5 p h
  first | exact e0 | (simp only [*] at e0; exact e0)
theorem Jjv {x0 : T_api_Page} {o : (List UInt8) × Int} (h : J1Y x0 = some o) : AF (J2 p) J2Q [.data (J4 x0)] [] = J5D o :=
 (J0r (J2 p) (JiQ p) rfl).trans (Jfg p h)
theorem J8G {x0 : T_api_Page} {o : (List UInt8) × Int} (h : J1Y x0 = some o) : ∀ ws new st, (Jj (AF (J2 p)) J2Q ([.data (J4 x0)], ws) 0 new).run st = some ⟨.tup [.p (.s o.1), .p (.i .i64 o.2)], ws⟩ := Jx rfl (Jjv p h) rfl
end
end Go.Am
end
section
namespace Go.Am
set_option maxRecDepth 8000
set_option maxHeartbeats 4000000
set_option linter.unusedSimpArgs false
set_option linter.unusedVariables false
noncomputable section
variable (p : FuncId → Option (List AV → List Blk → Option Res))
def JeO  (r : (List UInt8) × T_pagemenddraw_Codes) : Option Res := some (.p (.s r.1), [.box (List.map AV.p (J0 r.2))])
def J7a (b0 : T_pagemenddraw_Codes) (x1 : Int) : Option ((List UInt8) × T_pagemenddraw_Codes) :=
 Option.bind (JI b0 6) fun r1 =>
 if ((r1.1 : Int) == 0) then
  Option.bind (J4o) fun r5 =>
  some (r5, r1.2)
 else
  if ((r1.1 : Int) == 1) then
   Option.bind (J2D r1.2) fun r9 =>
   some (r9.1, r9.2)
  else
   Option.bind (J1R r1.2 x1) fun r12 =>
   Option.bind (J1Y r12.1) fun r15 =>
   some (r15.1, r12.2)
theorem Jhj {b0 : T_pagemenddraw_Codes} {x1 : Int} {o : (List UInt8) × T_pagemenddraw_Codes} (h : J7a b0 x1 = some o) :
  rk (J2 p) J71 1 [] (X (J2 p) J47 ⟨[(0, .ptr 0 0), (1, .p (.i .i64 x1))], [.box (List.map AV.p (J0 b0))]⟩) = JeO o := by
 unfold J7a at h
 obtain ⟨r1, h2, h⟩ := bi h
 have f3 : ∀ ws new s, J07 ws s [0] [List.map AV.p (J0 b0)] → (Jj (AF (J2 p)) Jh ([.ptr 0 0, .p (.i .i64 6)], ws) 0 new).run s = some ⟨.p (.i .i64 r1.1), ws ++ [(0, .box (List.map AV.p (J0 r1.2)))]⟩ := JT (args' := [.ptr 0 0, .p (.i .i64 6)]) (bs := [0]) (css := [List.map AV.p (J0 b0)]) (css' := [List.map AV.p (J0 r1.2)]) rfl rfl rfl (by simp [Jm, Jf]) (JU p h2) rfl rfl (by simp [Jm, Jf])
 try simp only [Nf] at f3
 try simp only [↓Da, Ua, J47, J5, J1, J3, Ja, *, ↓reduceIte, reduceEqDiff, reduceAdd, reduceLT, reduceMul]
 rcases Jb h with ⟨h4, h⟩ | ⟨h4, h⟩
 ·have h4n : ((r1.1 : Int) != 0) = false := by rw [bne, h4]; rfl
  obtain ⟨r5, h6, h⟩ := bi h
  have f7 := JdY p h6
  try simp only [Nf] at f7
  obtain rfl := sj h
  try simp only [↓Da, Ua, J47, J5, J1, J3, Ja, JbS, *, ↓reduceIte, reduceEqDiff, reduceAdd, reduceLT, reduceMul]
  rfl
 ·have h4n : ((r1.1 : Int) != 0) = true := by rw [bne, h4]; rfl
  try simp only [↓Da, Ua, J47, J5, J1, J3, Ja, *, ↓reduceIte, reduceEqDiff, reduceAdd, reduceLT, reduceMul]
  rcases Jb h with ⟨h8, h⟩ | ⟨h8, h⟩
  ·have h8n : ((r1.1 : Int) != 1) = false := by rw [bne, h8]; rfl
   obtain ⟨r9, h10, h⟩ := bi h
   have f11 : ∀ ws new s, J07 ws s [0] [List.map AV.p (J0 r1.2)] → (Jj (AF (J2 p)) J3F ([.ptr 0 0], ws) 0 new).run s = some ⟨.p (.s r9.1), ws ++ [(0, .box (List.map AV.p (J0 r9.2)))]⟩ := JT (args' := [.ptr 0 0]) (bs := [0]) (css := [List.map AV.p (J0 r1.2)]) (css' := [List.map AV.p (J0 r9.2)]) rfl rfl rfl (by simp [Jm, Jf]) (JeE p h10) rfl rfl (by simp [Jm, Jf])
   try simp only [Nf] at f11
   obtain rfl := sj h
   try simp only [↓Da, Ua, J47, J5, J1, J3, Ja, JbS, *, ↓reduceIte, reduceEqDiff, reduceAdd, reduceLT, reduceMul]
   rfl
  ·have h8n : ((r1.1 : Int) != 1) = true := by rw [bne, h8]; rfl
   obtain ⟨r12, h13, h⟩ := bi h
   have f14 : ∀ ws new s, J07 ws s [0] [List.map AV.p (J0 r1.2)] → (Jj (AF (J2 p)) J1r ([.ptr 0 0, .p (.i .i64 x1)], ws) 0 new).run s = some ⟨.data (J4 r12.1), ws ++ [(0, .box (List.map AV.p (J0 r12.2)))]⟩ := JT (args' := [.ptr 0 0, .p (.i .i64 x1)]) (bs := [0]) (css := [List.map AV.p (J0 r1.2)]) (css' := [List.map AV.p (J0 r12.2)]) rfl rfl rfl (by simp [Jm, Jf]) (J8L p h13) rfl rfl (by simp [Jm, Jf])
   try simp only [Nf] at f14
   obtain ⟨r15, h16, h⟩ := bi h
   have f17 := J8G p h16
   try simp only [Nf] at f17
   obtain rfl := sj h
   try simp only [↓Da, Ua, J47, J5, J1, J3, Ja, JbS, *, ↓reduceIte, reduceEqDiff, reduceAdd, reduceLT, reduceMul]
   rfl
theorem JlU {b0 : T_pagemenddraw_Codes} {x1 : Int} {o : (List UInt8) × T_pagemenddraw_Codes} (h : J7a b0 x1 = some o) : AF (J2 p) J5L [.ptr 0 0, .p (.i .i64 x1)] [.box (List.map AV.p (J0 b0))] = JeO o :=
 (J0r (J2 p) (Jmx p) rfl).trans (Jhj p h)
def Jcl  (r : T_api_Page × Int) : Option Res := some (.tup [.data (J4 r.1), .p (.i .i64 r.2)], [])
def J0v (x0 : List UInt8) (x1 : Int) : Option (T_api_Page × Int) :=
 Option.bind (J16 x1) fun r1 =>
 if r1 then
  Option.bind (J0L x0) fun r5 =>
  if ((r5.2 : Int) == 7) then
   Option.bind (J8t x1) fun r9 =>
   some (r9, 0)
  else
   if ((r5.2 : Int) != 0) then
    some ((⟨0, 0, (Vector.replicate 16 (⟨false, []⟩ : Jc))⟩ : T_api_Page), r5.2)
   else
    if ((r5.1.ID : Int) != x1) then
     some ((⟨0, 0, (Vector.replicate 16 (⟨false, []⟩ : Jc))⟩ : T_api_Page), 6)
    else
     some (r5.1, 0)
 else
  some ((⟨0, 0, (Vector.replicate 16 (⟨false, []⟩ : Jc))⟩ : T_api_Page), 1)
theorem Jel {x0 : List UInt8} {x1 : Int} {o : T_api_Page × Int} (h : J0v x0 x1 = some o) :
  rk (J2 p) J55 0 [] (X (J2 p) J0Z ⟨[(0, .p (.s x0)), (1, .p (.i .i64 x1))], []⟩) = Jcl o := by
 unfold J0v at h
 obtain ⟨r1, h2, h⟩ := bi h
 have f3 := JeK p h2
 try simp only [Nf] at f3
 try simp only [↓Da, Ua, J0Z, J5, J1, J3, *, ↓reduceIte, reduceEqDiff, reduceAdd, reduceLT, reduceMul]
 rcases Jb h with ⟨h4, h⟩ | ⟨h4, h⟩
 ·obtain ⟨r5, h6, h⟩ := bi h
  have f7 := JkZ p h6
  try simp only [Nf] at f7
  try simp only [↓Da, Ua, J0Z, J5, J1, J3, *, ↓reduceIte, reduceEqDiff, reduceAdd, reduceLT, reduceMul]
  rcases Jb h with ⟨h8, h⟩ | ⟨h8, h⟩
  ·have h8n : ((r5.2 : Int) != 7) = false := by rw [bne, h8]; rfl
   obtain ⟨r9, h10, h⟩ := bi h
   have f11 := Jow p h10
   try simp only [Nf] at f11
   obtain rfl := sj h
   try simp only [↓Da, Ua, J0Z, J5, J1, J3, J6s, *, ↓reduceIte, reduceEqDiff, reduceAdd, reduceLT, reduceMul]
   rfl
  ·have h8n : ((r5.2 : Int) != 7) = true := by rw [bne, h8]; rfl
   try simp only [↓Da, Ua, J0Z, J5, J1, J3, *, ↓reduceIte, reduceEqDiff, reduceAdd, reduceLT, reduceMul]
   rcases Jb h with ⟨h12, h⟩ | ⟨h12, h⟩
   ·obtain rfl := sj h
    try simp only [↓Da, Ua, J0Z, J5, J1, J3, J6s, *, ↓reduceIte, reduceEqDiff, reduceAdd, reduceLT, reduceMul]
    rfl
   ·try simp only [↓Da, Ua, J0Z, J5, J1, J3, *, ↓reduceIte, reduceEqDiff, reduceAdd, reduceLT, reduceMul]
    rcases Jb h with ⟨h13, h⟩ | ⟨h13, h⟩
    ·obtain rfl := sj h
     try simp only [↓Da, Ua, J0Z, J5, J1, J3, J6s, *, ↓reduceIte, reduceEqDiff, reduceAdd, reduceLT, reduceMul]
     rfl
    ·obtain rfl := sj h
     try simp only [↓Da, Ua, J0Z, J5, J1, J3, J6s, *, ↓reduceIte, reduceEqDiff, reduceAdd, reduceLT, reduceMul]
     rfl
 ·obtain rfl := sj h
  try simp only [↓Da, Ua, J0Z, J5, J1, J3, J6s, *, ↓reduceIte, reduceEqDiff, reduceAdd, reduceLT, reduceMul]
  rfl
theorem Jip {x0 : List UInt8} {x1 : Int} {o : T_api_Page × Int} (h : J0v x0 x1 = some o) : AF (J2 p) J3Q [.p (.s x0), .p (.i .i64 x1)] [] = Jcl o :=
 (J0r (J2 p) (JhE p) rfl).trans (Jel p h)
theorem Ja4 {x0 : List UInt8} {x1 : Int} {o : T_api_Page × Int} (h : J0v x0 x1 = some o) : ∀ ws new st, (Jj (AF (J2 p)) J3Q ([.p (.s x0), .p (.i .i64 x1)], ws) 0 new).run st = some ⟨.tup [.data (J4 o.1), .p (.i .i64 o.2)], ws⟩ := Jx rfl (Jip p h) rfl
def J5A  (r : T_api_Page × Int) : Option Res := some (.tup [.data (J4 r.1), .p (.i .i64 r.2)], [])
def JbC (x0 : List UInt8) (b0 : T_api_Page) (o : (Int × T_api_Page) ⊕ (T_api_Page × Int)) : Option Res := match o with
 | .inl s => rk (J2 p) J1x 0 [.bl 1, .sq (.keep [0, 2, 6] J13)] (X (J2 p) (.lp 2 [0, 2, 6, 7] J0K) ⟨[(0, .p (.s x0)), (2, .ptr 0 0), (6, .ptr 1 0), (7, .p (.i .i64 s.1))], [.box (List.map AV.p (J4 b0)), .box (List.map AV.p (J4 s.2))]⟩)
 | .inr o => J5A o
def J4K (x0 : List UInt8) (x7 : Int) (b0 b1 : T_api_Page) : Option (((Int × T_api_Page) ⊕ (T_api_Page × Int))) :=
 some (.inl ((IntKind.wrap .i64 (x7 + 1)), b1))
theorem Jbx {x0 : List UInt8} {x7 : Int} {b0 b1 : T_api_Page} {o : ((Int × T_api_Page) ⊕ (T_api_Page × Int))} (h : J4K x0 x7 b0 b1 = some o) :
  rk (J2 p) J1x 0 [.lo 2 [0, 2, 6, 7] J0K, .bl 1, .sq (.keep [0, 2, 6] J13)] (X (J2 p) J9z ⟨[(0, .p (.s x0)), (2, .ptr 0 0), (6, .ptr 1 0), (7, .p (.i .i64 x7))], [.box (List.map AV.p (J4 b0)), .box (List.map AV.p (J4 b1))]⟩) = (JbC p x0 b0) o := by
 unfold J4K at h
 obtain rfl := sj h
 try simp only [↓Da, Ua, J9z, ↓reduceIte, reduceEqDiff, reduceAdd, reduceLT, reduceMul]
 rfl
def J2I (x0 : List UInt8) (b0 b1 : T_api_Page) : Option (T_api_Page × Int) :=
 Option.bind (J1Y b1) fun r1 =>
 if ((r1.2 : Int) != 0) then
  some ((⟨0, 0, (Vector.replicate 16 (⟨false, []⟩ : Jc))⟩ : T_api_Page), 4)
 else
  if (r1.1 == x0) then
   some (b1, 0)
  else
   some ((⟨0, 0, (Vector.replicate 16 (⟨false, []⟩ : Jc))⟩ : T_api_Page), 4)
theorem JgW {x0 : List UInt8} {b0 b1 : T_api_Page} {o : T_api_Page × Int} (h : J2I x0 b0 b1 = some o) :
  rk (J2 p) J1x 0 [] (X (J2 p) J13 ⟨[(0, .p (.s x0)), (2, .ptr 0 0), (6, .ptr 1 0)], [.box (List.map AV.p (J4 b0)), .box (List.map AV.p (J4 b1))]⟩) = J5A o := by
 unfold J2I at h
 obtain ⟨r1, h2, h⟩ := bi h
 have f3 := J8G p h2
 try simp only [Nf] at f3
 try simp only [↓Da, Ua, J13, J5, J1, J3, *, ↓reduceIte, reduceEqDiff, reduceAdd, reduceLT, reduceMul]
 rcases Jb h with ⟨h4, h⟩ | ⟨h4, h⟩
 ·obtain rfl := sj h
  try simp only [↓Da, Ua, J13, J5, J1, J3, J3I, *, ↓reduceIte, reduceEqDiff, reduceAdd, reduceLT, reduceMul]
  rfl
 ·try simp only [↓Da, Ua, J13, J5, J1, J3, *, ↓reduceIte, reduceEqDiff, reduceAdd, reduceLT, reduceMul]
  rcases Jb h with ⟨h5, h⟩ | ⟨h5, h⟩
  ·obtain rfl := sj h
   try simp only [↓Da, Ua, J13, J5, J1, J3, J3I, *, ↓reduceIte, reduceEqDiff, reduceAdd, reduceLT, reduceMul]
   rfl
  ·obtain rfl := sj h
   try simp only [↓Da, Ua, J13, J5, J1, J3, J3I, *, ↓reduceIte, reduceEqDiff, reduceAdd, reduceLT, reduceMul]
   rfl
def J2E (x0 : List UInt8) (b0 : T_api_Page) (x7 : Int) (b1 : T_api_Page) : Option (((Int × T_api_Page) ⊕ (T_api_Page × Int))) :=
 if (decide (x7 < 16)) then
  Option.bind (Jcu x0 (IntKind.wrap .i64 (12 + (IntKind.wrap .i64 (x7 * 13))))) fun c2 =>
  if (((IntKind.wrap .i64 c2) : Int) == 255) then
   J4K x0 x7 b0 b1
  else
   if (decide ((IntKind.wrap .i64 c2) > 12)) then
    some (.inr ((⟨0, 0, (Vector.replicate 16 (⟨false, []⟩ : Jc))⟩ : T_api_Page), 4))
   else
    Option.bind (J2H x0 (some (IntKind.wrap .i64 ((IntKind.wrap .i64 (12 + (IntKind.wrap .i64 (x7 * 13)))) + 1))) (some (IntKind.wrap .i64 ((IntKind.wrap .i64 ((IntKind.wrap .i64 (12 + (IntKind.wrap .i64 (x7 * 13)))) + 1)) + (IntKind.wrap .i64 c2))))) fun m6 =>
    Option.bind (inb 16 x7) fun u9 =>
    Option.bind (J80 b1.Cells x7) fun y12 =>
    J4K x0 x7 b0 (⟨b1.ID, b1.LSN, (J7Z b1.Cells x7 (⟨true, m6⟩ : Jc))⟩ : T_api_Page)
 else
  Option.map (fun o => .inr o) (J2I x0 b0 b1)
theorem JbX {x0 : List UInt8} {b0 : T_api_Page} {x7 : Int} {b1 : T_api_Page} {o : ((Int × T_api_Page) ⊕ (T_api_Page × Int))} (h : J2E x0 b0 x7 b1 = some o) :
  rk (J2 p) J1x 0 [.lo 2 [0, 2, 6, 7] J0K, .bl 1, .sq (.keep [0, 2, 6] J13)] (X (J2 p) J0K ⟨[(0, .p (.s x0)), (2, .ptr 0 0), (6, .ptr 1 0), (7, .p (.i .i64 x7))], [.box (List.map AV.p (J4 b0)), .box (List.map AV.p (J4 b1))]⟩) = (JbC p x0 b0) o := by
 unfold J2E at h
 rcases Jb h with ⟨h1, h⟩ | ⟨h1, h⟩
 ·obtain ⟨c2, h3, h⟩ := bi h
  try simp only [↓Da, Ua, J0K, J5, J1, J3, *, ↓reduceIte, reduceEqDiff, reduceAdd, reduceLT, reduceMul]
  rcases Jb h with ⟨h4, h⟩ | ⟨h4, h⟩
  ·have h4n : (((IntKind.wrap .i64 c2) : Int) != 255) = false := by rw [bne, h4]; rfl
   try simp only [↓Da, Ua, J0K, J5, J1, J3, *, ↓reduceIte, reduceEqDiff, reduceAdd, reduceLT, reduceMul]
   have e0 := Jbx p h
   exact e0
  ·have h4n : (((IntKind.wrap .i64 c2) : Int) != 255) = true := by rw [bne, h4]; rfl
   try simp only [↓Da, Ua, J0K, J5, J1, J3, *, ↓reduceIte, reduceEqDiff, reduceAdd, reduceLT, reduceMul]
   rcases Jb h with ⟨h5, h⟩ | ⟨h5, h⟩
   ·obtain rfl := sj h
    try simp only [↓Da, Ua, J0K, J5, J1, J3, J3I, *, ↓reduceIte, reduceEqDiff, reduceAdd, reduceLT, reduceMul]
    rfl
   ·obtain ⟨m6, h7, h⟩ := bi h
    have f8 : J3Y (.p (.s x0)) (some (.p (.i .i64 (IntKind.wrap .i64 ((IntKind.wrap .i64 (12 + (IntKind.wrap .i64 (x7 * 13)))) + 1))))) (some (.p (.i .i64 (IntKind.wrap .i64 ((IntKind.wrap .i64 ((IntKind.wrap .i64 (12 + (IntKind.wrap .i64 (x7 * 13)))) + 1)) + (IntKind.wrap .i64 c2)))))) = some (.p (.s m6)) := J6r (k := .i64) (lo := (some (IntKind.wrap .i64 ((IntKind.wrap .i64 (12 + (IntKind.wrap .i64 (x7 * 13)))) + 1)))) (hi := (some (IntKind.wrap .i64 ((IntKind.wrap .i64 ((IntKind.wrap .i64 (12 + (IntKind.wrap .i64 (x7 * 13)))) + 1)) + (IntKind.wrap .i64 c2))))) h7
    try simp only [Nf] at f8
    obtain ⟨u9, h10, h⟩ := bi h
    have f11 : (0 ≤ (x7 : Int) ∧ (x7 : Int) < ((16 : Nat) : Int)) = True := eq_true (J8x h10)
    obtain ⟨y12, h13, h⟩ := bi h
    have f14 : spl (J4 b1) (2 + Int.toNat x7 * 2) (Jg (⟨true, m6⟩ : Jc)) = some (J4 (⟨b1.ID, b1.LSN, (J7Z b1.Cells x7 (⟨true, m6⟩ : Jc))⟩ : T_api_Page)) := by
     have e0 := (JiT (J1c b1) (Jic (v := b1.Cells) JV (JfI h13) (⟨true, m6⟩ : Jc)) (J6q b1 _))
     exact e0
    try simp only [Nf] at f14
    try simp only [↓Da, Ua, J0K, J5, J1, J3, *, ↓reduceIte, reduceEqDiff, reduceAdd, reduceLT, reduceMul]
    have e0 := Jbx p h
    exact e0
 ·obtain ⟨o', h', rfl⟩ := mi h
  try simp only [↓Da, Ua, J0K, J5, J1, J3, *, ↓reduceIte, reduceEqDiff, reduceAdd, reduceLT, reduceMul]
  have e0 := JgW p h'
  exact e0
def J9o (x0 : List UInt8) (b0 : T_api_Page) (s : Int × T_api_Page) : Option (T_api_Page × Int) :=
 Ju (fun s => J2E x0 b0 s.1 s.2) s
theorem JeN {x0 : List UInt8} {b0 : T_api_Page} {s : Int × T_api_Page} {o : T_api_Page × Int} (h : J9o x0 b0 s = some o) :
  rk (J2 p) J1x 0 [.bl 1, .sq (.keep [0, 2, 6] J13)] (X (J2 p) (.lp 2 [0, 2, 6, 7] J0K) ⟨[(0, .p (.s x0)), (2, .ptr 0 0), (6, .ptr 1 0), (7, .p (.i .i64 s.1))], [.box (List.map AV.p (J4 b0)), .box (List.map AV.p (J4 s.2))]⟩) = J5A o := by
 have h0 : Ju (fun s => J2E x0 b0 s.1 s.2) s = some o := h
 exact J0m (P := fun (s : Int × T_api_Page) (o : T_api_Page × Int) => rk (J2 p) J1x 0 [.bl 1, .sq (.keep [0, 2, 6] J13)] (X (J2 p) (.lp 2 [0, 2, 6, 7] J0K) ⟨[(0, .p (.s x0)), (2, .ptr 0 0), (6, .ptr 1 0), (7, .p (.i .i64 s.1))], [.box (List.map AV.p (J4 b0)), .box (List.map AV.p (J4 s.2))]⟩) = J5A o) (fun s r hs => by rw [J0q]; exact JbX p hs) (fun s s1 r hs ih => by rw [J0q]; exact (JbX p hs).trans ih) h0
def J4H (x0 : List UInt8) : Option (T_api_Page × Int) :=
 if ((((List.length x0 : Nat) : Int) : Int) != 256) then
  some ((⟨0, 0, (Vector.replicate 16 (⟨false, []⟩ : Jc))⟩ : T_api_Page), 2)
 else
  Option.bind (J4o) fun r2 =>
  if (x0 == r2) then
   some ((⟨0, 0, (Vector.replicate 16 (⟨false, []⟩ : Jc))⟩ : T_api_Page), 7)
  else
   Option.bind (J2H x0 none (some 8)) fun m6 =>
   Option.bind (J2H x0 (some 248) none) fun m9 =>
   if (m6 == m9) then
    Option.bind (J2K x0 244 4) fun r13 =>
    Option.bind (J2H x0 none (some 244)) fun m16 =>
    Option.bind (J6I m16) fun r19 =>
    if (((IntKind.wrap .u32 r13.1) : Int) != r19) then
     some ((⟨0, 0, (Vector.replicate 16 (⟨false, []⟩ : Jc))⟩ : T_api_Page), 3)
    else
     Option.bind (J2K x0 0 8) fun r23 =>
     Option.bind (J2K x0 8 4) fun r26 =>
     J9o x0 (⟨0, 0, (Vector.replicate 16 (⟨false, []⟩ : Jc))⟩ : T_api_Page) (0, (⟨r26.1, r23.1, (Vector.replicate 16 (⟨false, []⟩ : Jc))⟩ : T_api_Page))
   else
    some ((⟨0, 0, (Vector.replicate 16 (⟨false, []⟩ : Jc))⟩ : T_api_Page), 27)
theorem Jf1 {x0 : List UInt8} {o : T_api_Page × Int} (h : J4H x0 = some o) :
  rk (J2 p) J1x 0 [] (X (J2 p) J1z ⟨[(0, .p (.s x0))], []⟩) = J5A o := by
 unfold J4H at h
 rcases Jb h with ⟨h1, h⟩ | ⟨h1, h⟩
 ·obtain rfl := sj h
  try simp only [↓Da, Ua, J1z, J5, J1, J3, J3I, *, ↓reduceIte, reduceEqDiff, reduceAdd, reduceLT, reduceMul]
  rfl
 ·obtain ⟨r2, h3, h⟩ := bi h
  have f4 := JdY p h3
  try simp only [Nf] at f4
  try simp only [↓Da, Ua, J1z, J5, J1, J3, *, ↓reduceIte, reduceEqDiff, reduceAdd, reduceLT, reduceMul]
  rcases Jb h with ⟨h5, h⟩ | ⟨h5, h⟩
  ·obtain rfl := sj h
   try simp only [↓Da, Ua, J1z, J5, J1, J3, J3I, *, ↓reduceIte, reduceEqDiff, reduceAdd, reduceLT, reduceMul]
   rfl
  ·obtain ⟨m6, h7, h⟩ := bi h
   have f8 : J3Y (.p (.s x0)) none (some (.p (.i .i64 8))) = some (.p (.s m6)) := J6r (k := .i64) (lo := none) (hi := (some 8)) h7
   try simp only [Nf] at f8
   obtain ⟨m9, h10, h⟩ := bi h
   have f11 : J3Y (.p (.s x0)) (some (.p (.i .i64 248))) none = some (.p (.s m9)) := J6r (k := .i64) (lo := (some 248)) (hi := none) h10
   try simp only [Nf] at f11
   try simp only [↓Da, Ua, J1z, J5, J1, J3, *, ↓reduceIte, reduceEqDiff, reduceAdd, reduceLT, reduceMul]
   rcases Jb h with ⟨h12, h⟩ | ⟨h12, h⟩
   ·obtain ⟨r13, h14, h⟩ := bi h
    have f15 := JcK p h14
    try simp only [Nf] at f15
    obtain ⟨m16, h17, h⟩ := bi h
    have f18 : J3Y (.p (.s x0)) none (some (.p (.i .i64 244))) = some (.p (.s m16)) := J6r (k := .i64) (lo := none) (hi := (some 244)) h17
    try simp only [Nf] at f18
    obtain ⟨r19, h20, h⟩ := bi h
    have f21 := JgD p h20
    try simp only [Nf] at f21
    try simp only [↓Da, Ua, J1z, J5, J1, J3, *, ↓reduceIte, reduceEqDiff, reduceAdd, reduceLT, reduceMul]
    rcases Jb h with ⟨h22, h⟩ | ⟨h22, h⟩
    ·obtain rfl := sj h
     try simp only [↓Da, Ua, J1z, J5, J1, J3, J3I, *, ↓reduceIte, reduceEqDiff, reduceAdd, reduceLT, reduceMul]
     rfl
    ·obtain ⟨r23, h24, h⟩ := bi h
     have f25 := JcK p h24
     try simp only [Nf] at f25
     obtain ⟨r26, h27, h⟩ := bi h
     have f28 := JcK p h27
     try simp only [Nf] at f28
     try simp only [↓Da, Ua, J1z, J5, J1, J3, *, ↓reduceIte, reduceEqDiff, reduceAdd, reduceLT, reduceMul]
     have e0 := JeN p h
     exact e0
   ·obtain rfl := sj h
    try simp only [↓Da, Ua, J1z, J5, J1, J3, J3I, *, ↓reduceIte, reduceEqDiff, reduceAdd, reduceLT, reduceMul]
    rfl
theorem Jjf {x0 : List UInt8} {o : T_api_Page × Int} (h : J4H x0 = some o) : AF (J2 p) J5B [.p (.s x0)] [] = J5A o :=
 (J0r (J2 p) (Jjx p) rfl).trans (Jf1 p h)
theorem Jj2 {x0 : List UInt8} {o : T_api_Page × Int} (h : J4H x0 = some o) : ∀ ws new st, (Jj (AF (J2 p)) J5B ([.p (.s x0)], ws) 0 new).run st = some ⟨.tup [.data (J4 o.1), .p (.i .i64 o.2)], ws⟩ := Jx rfl (Jjf p h) rfl
def J60  (r : Bool) : Option Res := some (.p (.b r), [])
def JhO (x35 : Int) (b0 : T_api_Image) (o : (Int) ⊕ (Bool)) : Option Res := match o with
 | .inl s => rk (J2 p) J2k 0 [.bl 0, .td 1 [2], .sq (.keep [] J3S)] (X (J2 p) (.lp 1 [1, 35, 36] JS) ⟨[(1, .ptr 0 0), (35, .p (.i .i64 x35)), (36, .p (.i .i64 s))], [.box (List.map AV.p (J7 b0))]⟩)
 | .inr o => J60 o
def J9V  : Option (Bool) :=
 some true
theorem Jiy {B0 : List PV} {o : Bool} (h : J9V = some o) :
  rk (J2 p) J2k 0 [] (X (J2 p) J3S ⟨[], [.box (List.map AV.p B0)]⟩) = J60 o := by
 unfold J9V at h
 obtain rfl := sj h
 try simp only [↓Da, Ua, J3S, J1W, ↓reduceIte, reduceEqDiff, reduceAdd, reduceLT, reduceMul]
 rfl
def J35 (x35 : Int) (b0 : T_api_Image) (x36 : Int) : Option (((Int) ⊕ (Bool))) :=
 if (decide (x36 < x35)) then
  Option.bind (idx b0.Copies x36) fun y2 =>
  if (decide (y2.Page ≥ b0.Pages)) then
   some (.inr false)
  else
   if (decide (x36 > 0)) then
    Option.bind (idx b0.Copies (IntKind.wrap .i64 (x36 - 1))) fun y7 =>
    if (decide (y7.Page ≥ y2.Page)) then
     some (.inr false)
    else
     Option.bind (J0v y2.Data y2.Page) fun r11 =>
     if ((r11.2 : Int) != 0) then
      some (.inr false)
     else
      if ((r11.1.LSN : Int) != y2.LSN) then
       some (.inr false)
      else
       some (.inl (IntKind.wrap .i64 (x36 + 1)))
   else
    Option.bind (J0v y2.Data y2.Page) fun r16 =>
    if ((r16.2 : Int) != 0) then
     some (.inr false)
    else
     if ((r16.1.LSN : Int) != y2.LSN) then
      some (.inr false)
     else
      some (.inl (IntKind.wrap .i64 (x36 + 1)))
 else
  Option.map (fun o => .inr o) (J9V)
theorem Jcq {x35 : Int} {b0 : T_api_Image} {x36 : Int} {o : ((Int) ⊕ (Bool))} (h : J35 x35 b0 x36 = some o) :
  rk (J2 p) J2k 0 [.lo 1 [1, 35, 36] JS, .bl 0, .td 1 [2], .sq (.keep [] J3S)] (X (J2 p) JS ⟨[(1, .ptr 0 0), (35, .p (.i .i64 x35)), (36, .p (.i .i64 x36))], [.box (List.map AV.p (J7 b0))]⟩) = (JhO p x35 b0) o := by
 unfold J35 at h
 rcases Jb h with ⟨h1, h⟩ | ⟨h1, h⟩
 ·obtain ⟨y2, h3, h⟩ := bi h
  have f4 := J4t (r := J6) h3
  try simp only [Nf] at f4
  try simp only [↓Da, Ua, JS, J9, J5, J1, J3, J8, *, ↓reduceIte, reduceEqDiff, reduceAdd, reduceLT, reduceMul]
  rcases Jb h with ⟨h5, h⟩ | ⟨h5, h⟩
  ·obtain rfl := sj h
   try simp only [↓Da, Ua, JS, J9, J5, J1, J3, J8, J1W, *, ↓reduceIte, reduceEqDiff, reduceAdd, reduceLT, reduceMul]
   rfl
  ·try simp only [↓Da, Ua, JS, J9, J5, J1, J3, J8, *, ↓reduceIte, reduceEqDiff, reduceAdd, reduceLT, reduceMul]
   rcases Jb h with ⟨h6, h⟩ | ⟨h6, h⟩
   ·obtain ⟨y7, h8, h⟩ := bi h
    have f9 := J4t (r := J6) h8
    try simp only [Nf] at f9
    try simp only [↓Da, Ua, JS, J9, J5, J1, J3, J8, *, ↓reduceIte, reduceEqDiff, reduceAdd, reduceLT, reduceMul]
    rcases Jb h with ⟨h10, h⟩ | ⟨h10, h⟩
    ·obtain rfl := sj h
     try simp only [↓Da, Ua, JS, J9, J5, J1, J3, J8, J1W, *, ↓reduceIte, reduceEqDiff, reduceAdd, reduceLT, reduceMul]
     rfl
    ·obtain ⟨r11, h12, h⟩ := bi h
     have f13 := Ja4 p h12
     try simp only [Nf] at f13
     try simp only [↓Da, Ua, JS, J9, J5, J1, J3, J8, *, ↓reduceIte, reduceEqDiff, reduceAdd, reduceLT, reduceMul]
     rcases Jb h with ⟨h14, h⟩ | ⟨h14, h⟩
     ·obtain rfl := sj h
      try simp only [↓Da, Ua, JS, J9, J5, J1, J3, J8, J1W, *, ↓reduceIte, reduceEqDiff, reduceAdd, reduceLT, reduceMul]
      rfl
     ·try simp only [↓Da, Ua, JS, J9, J5, J1, J3, J8, *, ↓reduceIte, reduceEqDiff, reduceAdd, reduceLT, reduceMul]
      rcases Jb h with ⟨h15, h⟩ | ⟨h15, h⟩
      ·obtain rfl := sj h
       try simp only [↓Da, Ua, JS, J9, J5, J1, J3, J8, J1W, *, ↓reduceIte, reduceEqDiff, reduceAdd, reduceLT, reduceMul]
       rfl
      ·obtain rfl := sj h
       try simp only [↓Da, Ua, JS, J9, J5, J1, J3, J8, *, ↓reduceIte, reduceEqDiff, reduceAdd, reduceLT, reduceMul]
       rfl
   ·obtain ⟨r16, h17, h⟩ := bi h
    have f18 := Ja4 p h17
    try simp only [Nf] at f18
    try simp only [↓Da, Ua, JS, J9, J5, J1, J3, J8, *, ↓reduceIte, reduceEqDiff, reduceAdd, reduceLT, reduceMul]
    rcases Jb h with ⟨h19, h⟩ | ⟨h19, h⟩
    ·obtain rfl := sj h
     try simp only [↓Da, Ua, JS, J9, J5, J1, J3, J8, J1W, *, ↓reduceIte, reduceEqDiff, reduceAdd, reduceLT, reduceMul]
     rfl
    ·try simp only [↓Da, Ua, JS, J9, J5, J1, J3, J8, *, ↓reduceIte, reduceEqDiff, reduceAdd, reduceLT, reduceMul]
     rcases Jb h with ⟨h20, h⟩ | ⟨h20, h⟩
     ·obtain rfl := sj h
      try simp only [↓Da, Ua, JS, J9, J5, J1, J3, J8, J1W, *, ↓reduceIte, reduceEqDiff, reduceAdd, reduceLT, reduceMul]
      rfl
     ·obtain rfl := sj h
      try simp only [↓Da, Ua, JS, J9, J5, J1, J3, J8, *, ↓reduceIte, reduceEqDiff, reduceAdd, reduceLT, reduceMul]
      rfl
 ·obtain ⟨o', h', rfl⟩ := mi h
  try simp only [↓Da, Ua, JS, J9, J5, J1, J3, J8, *, ↓reduceIte, reduceEqDiff, reduceAdd, reduceLT, reduceMul]
  have e0 := Jiy p (B0 := (J7 b0)) h'
  exact e0
def J87 (x35 : Int) (b0 : T_api_Image) (s : Int) : Option (Bool) :=
 Ju (fun s => J35 x35 b0 s) s
theorem Jg4 {x35 : Int} {b0 : T_api_Image} {s : Int} {o : Bool} (h : J87 x35 b0 s = some o) :
  rk (J2 p) J2k 0 [.bl 0, .td 1 [2], .sq (.keep [] J3S)] (X (J2 p) (.lp 1 [1, 35, 36] JS) ⟨[(1, .ptr 0 0), (35, .p (.i .i64 x35)), (36, .p (.i .i64 s))], [.box (List.map AV.p (J7 b0))]⟩) = J60 o := by
 have h0 : Ju (fun s => J35 x35 b0 s) s = some o := h
 exact J0m (P := fun (s : Int) (o : Bool) => rk (J2 p) J2k 0 [.bl 0, .td 1 [2], .sq (.keep [] J3S)] (X (J2 p) (.lp 1 [1, 35, 36] JS) ⟨[(1, .ptr 0 0), (35, .p (.i .i64 x35)), (36, .p (.i .i64 s))], [.box (List.map AV.p (J7 b0))]⟩) = J60 o) (fun s r hs => by rw [J0q]; exact Jcq p hs) (fun s s1 r hs ih => by rw [J0q]; exact (Jcq p hs).trans ih) h0
def J12 (x0 : T_api_Image) : Option (Bool) :=
 if (decide (x0.ID < 1)) then
  some false
 else
  if (decide (x0.ID > 1073741824)) then
   some false
  else
   if (decide (x0.Pages < 1)) then
    some false
   else
    if (decide (x0.Pages > 64)) then
     some false
    else
     if (decide (((List.length x0.Copies : Nat) : Int) > x0.Pages)) then
      some false
     else
      J87 ((List.length x0.Copies : Nat) : Int) x0 0
theorem JfZ {x0 : T_api_Image} {o : Bool} (h : J12 x0 = some o) :
  rk (J2 p) J2k 0 [] (X (J2 p) J1i ⟨[(0, .data (J7 x0))], []⟩) = J60 o := by
 unfold J12 at h
 rcases Jb h with ⟨h1, h⟩ | ⟨h1, h⟩
 ·obtain rfl := sj h
  try simp only [↓Da, Ua, J1i, J9, J8, J1W, *, ↓reduceIte, reduceEqDiff, reduceAdd, reduceLT, reduceMul]
  rfl
 ·try simp only [↓Da, Ua, J1i, J9, J8, *, ↓reduceIte, reduceEqDiff, reduceAdd, reduceLT, reduceMul]
  rcases Jb h with ⟨h2, h⟩ | ⟨h2, h⟩
  ·obtain rfl := sj h
   try simp only [↓Da, Ua, J1i, J9, J8, J1W, *, ↓reduceIte, reduceEqDiff, reduceAdd, reduceLT, reduceMul]
   rfl
  ·try simp only [↓Da, Ua, J1i, J9, J8, *, ↓reduceIte, reduceEqDiff, reduceAdd, reduceLT, reduceMul]
   rcases Jb h with ⟨h3, h⟩ | ⟨h3, h⟩
   ·obtain rfl := sj h
    try simp only [↓Da, Ua, J1i, J9, J8, J1W, *, ↓reduceIte, reduceEqDiff, reduceAdd, reduceLT, reduceMul]
    rfl
   ·try simp only [↓Da, Ua, J1i, J9, J8, *, ↓reduceIte, reduceEqDiff, reduceAdd, reduceLT, reduceMul]
    rcases Jb h with ⟨h4, h⟩ | ⟨h4, h⟩
    ·obtain rfl := sj h
     try simp only [↓Da, Ua, J1i, J9, J8, J1W, *, ↓reduceIte, reduceEqDiff, reduceAdd, reduceLT, reduceMul]
     rfl
    ·try simp only [↓Da, Ua, J1i, J9, J8, *, ↓reduceIte, reduceEqDiff, reduceAdd, reduceLT, reduceMul]
     rcases Jb h with ⟨h5, h⟩ | ⟨h5, h⟩
     ·obtain rfl := sj h
      try simp only [↓Da, Ua, J1i, J9, J8, J1W, *, ↓reduceIte, reduceEqDiff, reduceAdd, reduceLT, reduceMul]
      rfl
     ·try simp only [↓Da, Ua, J1i, J9, J8, *, ↓reduceIte, reduceEqDiff, reduceAdd, reduceLT, reduceMul]
      have e0 := Jg4 p h
      exact e0
theorem JaM {x0 : T_api_Image} {o : Bool} (h : J12 x0 = some o) : AF (J2 p) J3w [.data (J7 x0)] [] = J60 o :=
 (J0r (J2 p) (JkX p) rfl).trans (JfZ p h)
theorem J9j {x0 : T_api_Image} {o : Bool} (h : J12 x0 = some o) : ∀ ws new st, (Jj (AF (J2 p)) J3w ([.data (J7 x0)], ws) 0 new).run st = some ⟨.p (.b o), ws⟩ := Jx rfl (JaM p h) rfl
def JbO  (r : T_api_Page × Int) : Option Res := some (.tup [.data (J4 r.1), .p (.i .i64 r.2)], [])
def J1H (x0 : List UInt8) (x1 : Int) : Option (T_api_Page × Int) :=
 if (decide (x1 < 0)) then
  some ((⟨0, 0, (Vector.replicate 16 (⟨false, []⟩ : Jc))⟩ : T_api_Page), 1)
 else
  if (decide (x1 ≥ 64)) then
   some ((⟨0, 0, (Vector.replicate 16 (⟨false, []⟩ : Jc))⟩ : T_api_Page), 1)
  else
   Option.bind (J4H x0) fun r3 =>
   if ((r3.2 : Int) == 7) then
    Option.bind (J7F x1) fun r7 =>
    some (r7, 0)
   else
    if ((r3.2 : Int) == 0) then
     if ((r3.1.ID : Int) != x1) then
      some ((⟨0, 0, (Vector.replicate 16 (⟨false, []⟩ : Jc))⟩ : T_api_Page), 6)
     else
      some (r3.1, r3.2)
    else
     some (r3.1, r3.2)
theorem JdD {x0 : List UInt8} {x1 : Int} {o : T_api_Page × Int} (h : J1H x0 x1 = some o) :
  rk (J2 p) J4E 0 [] (X (J2 p) J0t ⟨[(0, .p (.s x0)), (1, .p (.i .i64 x1))], []⟩) = JbO o := by
 unfold J1H at h
 rcases Jb h with ⟨h1, h⟩ | ⟨h1, h⟩
 ·obtain rfl := sj h
  try simp only [↓Da, Ua, J0t, J5, J1, J3, J4F, *, ↓reduceIte, reduceEqDiff, reduceAdd, reduceLT, reduceMul]
  rfl
 ·try simp only [↓Da, Ua, J0t, J5, J1, J3, *, ↓reduceIte, reduceEqDiff, reduceAdd, reduceLT, reduceMul]
  rcases Jb h with ⟨h2, h⟩ | ⟨h2, h⟩
  ·obtain rfl := sj h
   try simp only [↓Da, Ua, J0t, J5, J1, J3, J4F, *, ↓reduceIte, reduceEqDiff, reduceAdd, reduceLT, reduceMul]
   rfl
  ·obtain ⟨r3, h4, h⟩ := bi h
   have f5 := Jj2 p h4
   try simp only [Nf] at f5
   try simp only [↓Da, Ua, J0t, J5, J1, J3, *, ↓reduceIte, reduceEqDiff, reduceAdd, reduceLT, reduceMul]
   rcases Jb h with ⟨h6, h⟩ | ⟨h6, h⟩
   ·have h6n : ((r3.2 : Int) != 7) = false := by rw [bne, h6]; rfl
    obtain ⟨r7, h8, h⟩ := bi h
    have f9 := Jnc p h8
    try simp only [Nf] at f9
    obtain rfl := sj h
    try simp only [↓Da, Ua, J0t, J5, J1, J3, J4F, *, ↓reduceIte, reduceEqDiff, reduceAdd, reduceLT, reduceMul]
    rfl
   ·have h6n : ((r3.2 : Int) != 7) = true := by rw [bne, h6]; rfl
    try simp only [↓Da, Ua, J0t, J5, J1, J3, *, ↓reduceIte, reduceEqDiff, reduceAdd, reduceLT, reduceMul]
    rcases Jb h with ⟨h10, h⟩ | ⟨h10, h⟩
    ·have h10n : ((r3.2 : Int) != 0) = false := by rw [bne, h10]; rfl
     try simp only [↓Da, Ua, J0t, J5, J1, J3, *, ↓reduceIte, reduceEqDiff, reduceAdd, reduceLT, reduceMul]
     rcases Jb h with ⟨h11, h⟩ | ⟨h11, h⟩
     ·obtain rfl := sj h
      try simp only [↓Da, Ua, J0t, J5, J1, J3, J4F, *, ↓reduceIte, reduceEqDiff, reduceAdd, reduceLT, reduceMul]
      rfl
     ·obtain rfl := sj h
      try simp only [↓Da, Ua, J0t, J5, J1, J3, J4F, *, ↓reduceIte, reduceEqDiff, reduceAdd, reduceLT, reduceMul]
      rfl
    ·have h10n : ((r3.2 : Int) != 0) = true := by rw [bne, h10]; rfl
     obtain rfl := sj h
     try simp only [↓Da, Ua, J0t, J5, J1, J3, J4F, *, ↓reduceIte, reduceEqDiff, reduceAdd, reduceLT, reduceMul]
     rfl
theorem Jh1 {x0 : List UInt8} {x1 : Int} {o : T_api_Page × Int} (h : J1H x0 x1 = some o) : AF (J2 p) J3z [.p (.s x0), .p (.i .i64 x1)] [] = JbO o :=
 (J0r (J2 p) (JgN p) rfl).trans (JdD p h)
theorem J9l {x0 : List UInt8} {x1 : Int} {o : T_api_Page × Int} (h : J1H x0 x1 = some o) : ∀ ws new st, (Jj (AF (J2 p)) J3z ([.p (.s x0), .p (.i .i64 x1)], ws) 0 new).run st = some ⟨.tup [.data (J4 o.1), .p (.i .i64 o.2)], ws⟩ := Jx rfl (Jh1 p h) rfl
end
end Go.Am
end
section
end
section
namespace Go.Am
set_option maxRecDepth 8000
set_option linter.unusedSimpArgs false
set_option linter.unusedVariables false
noncomputable section
def JbP : List T_api_Copy → List UInt8 → Option (List UInt8)
 | [], s => some s
 | c :: r, s => Option.bind (J0s [] c.Page 2) fun b => Option.bind (J46 b c.Data) fun d => Option.bind (J2M d) fun f =>
  if s.length + f.length ≤ 140737488355328 then JbP r (s ++ f) else none
def J2S (x0 : T_api_Image) : Option (List UInt8 × Int) :=
 Option.bind (J12 x0) fun v =>
 if v then
  Option.bind (J0s [80, 77, 73, 77] x0.ID 4) fun h1 => Option.bind (J0s h1 x0.Pages 2) fun h2 => Option.bind (J0s h2 ((x0.Copies.length : Nat) : Int) 2) fun h3 => Option.bind (J2M h3) fun f =>
  if f.length ≤ 140737488355328 then Option.bind (JbP x0.Copies f) fun s => some (s, 0) else none
 else some ([], 43)
theorem JnN {α β : Type} {r : α → β} (h : ∀ x y, r x = r y → x = y) : ∀ {a b : List α}, a.map r = b.map r → a = b
 | [], [], _ => rfl
 | [], _ :: _, e => by simp at e
 | _ :: _, [], e => by simp at e
 | x :: a, y :: b, e => by
  simp only [List.map_cons, List.cons.injEq] at e
  rw [h x y e.1, JnN h e.2]
theorem JrF (x y : T_api_Copy) (h : J6 x = J6 y) : x = y := by
 cases x; cases y
 simp [J6, cat] at h
 simp [h]
theorem Jpv (x y : T_api_Image) (h : J7 x = J7 y) : x = y := by
 cases x; cases y
 simp only [J7, cat, List.cons_append, List.nil_append, List.cons.injEq, PV.i.injEq, PV.sl.injEq, true_and, and_true] at h
 obtain ⟨h1, h2, h3⟩ := h
 rw [h1, h2, JnN JrF h3]
open Classical in
def JcE : List AV → List Blk → Option Res := fun args blks =>
 if h : ∃ x o, args = [.data (J7 x)] ∧ J2S x = some o then some (.tup [.p (.s (Classical.choose (Classical.choose_spec h)).1), .p (.i .i64 (Classical.choose (Classical.choose_spec h)).2)], blks) else none
theorem JnP {args : List AV} {blks : List Blk} {r : Res} (h : JcE args blks = some r) : ∃ x o, args = [.data (J7 x)] ∧ J2S x = some o ∧ r = (.tup [.p (.s o.1), .p (.i .i64 o.2)], blks) := by
 unfold JcE at h
 split at h
 ·rename_i hx
  injection h with h
  have h2 := Classical.choose_spec (Classical.choose_spec hx)
  exact ⟨_, _, h2.1, h2.2, h.symm⟩
 ·cases h
theorem Jtf {x : T_api_Image} {o : List UInt8 × Int} (blks : List Blk) (h : J2S x = some o) : JcE [.data (J7 x)] blks = some (.tup [.p (.s o.1), .p (.i .i64 o.2)], blks) := by
 cases hr : JcE [.data (J7 x)] blks with
 | some r =>
  obtain ⟨x', o', h1, h2, h3⟩ := JnP hr
  simp only [List.cons.injEq, AV.data.injEq, and_true] at h1
  rw [Jpv _ _ h1, h2] at h
  injection h with h
  rw [h3, h]
 | none =>
  unfold JcE at hr
  rw [dif_pos ⟨x, o, rfl, h⟩] at hr
  cases hr
abbrev PS := { p : FuncId → Option (List AV → List Blk → Option Res) // p J1u = some JcE }
theorem Jjj (p : PS) : J2 p J1u = some (.prim JcE) := by
 show Jr6 (lkF J1u fns) (lkF J1u Ji6) (lkF J1u Ji8) (p.1 J1u) = _
 rw [p.2]
 rfl
theorem JjB (p : PS) {x0 : T_api_Image} {o : List UInt8 × Int} (h : J2S x0 = some o) : AF (J2 p) J1u [.data (J7 x0)] [] = some (.tup [.p (.s o.1), .p (.i .i64 o.2)], []) := by
 rw [Jfz (Jjj p)]
 exact Jtf [] h
end
end Go.Am
end
