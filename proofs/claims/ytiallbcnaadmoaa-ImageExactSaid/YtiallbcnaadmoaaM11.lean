/-
  Parts of a proof.
-/
import Derived.Test.YtiallbcnaadmoaaM10
open Nat (reduceEqDiff reduceAdd reduceLT reduceMul)
set_option linter.unusedSimpArgs false
set_option linter.unusedVariables false
section
namespace Go.Am
set_option maxRecDepth 8000
set_option maxHeartbeats 4000000
set_option linter.unusedSimpArgs false
set_option linter.unusedVariables false
noncomputable section
variable (p : FuncId → Option (List AV → List Blk → Option Res))
def Jfs  (r : (List UInt8)) : Option Res := some (.p (.s r), [])
def J34 (x0 : List UInt8) : Option ((List UInt8)) :=
 if (decide (((List.length x0 : Nat) : Int) > 8392)) then
  some ([] : List UInt8)
 else
  Option.bind (J0w ([]) ((List.length x0 : Nat) : Int) 4) fun r2 =>
  Option.bind (J2I r2 x0) fun s5 =>
  Option.bind (J2B s5) fun r7 =>
  Option.bind (J0w s5 (IntKind.wrap .i64 r7) 4) fun r10 =>
  some r10
theorem Jhg {x0 : List UInt8} {o : (List UInt8)} (h : J34 x0 = some o) :
  rk (J2 p) J76 0 [] (X (J2 p) J6N ⟨[(0, .p (.s x0))], []⟩) = Jfs o := by
 unfold J34 at h
 rcases Ja h with ⟨h1, h⟩ | ⟨h1, h⟩
 ·obtain rfl := sj h
  try simp only [↓Da, Ua, J6N, Jfm, *, ↓reduceIte, reduceEqDiff, reduceAdd, reduceLT, reduceMul]
  rfl
 ·obtain ⟨r2, h3, h⟩ := bi h
  have f4 := J7w p h3
  try simp only [Nf] at f4
  obtain ⟨s5, h6, h⟩ := bi h
  obtain ⟨r7, h8, h⟩ := bi h
  have f9 := JdD p h8
  try simp only [Nf] at f9
  obtain ⟨r10, h11, h⟩ := bi h
  have f12 := J7w p h11
  try simp only [Nf] at f12
  obtain rfl := sj h
  try simp only [↓Da, Ua, J6N, Jfm, *, ↓reduceIte, reduceEqDiff, reduceAdd, reduceLT, reduceMul]
  rfl
theorem Jmj {x0 : List UInt8} {o : (List UInt8)} (h : J34 x0 = some o) : AF (J2 p) Jad [.p (.s x0)] [] = Jfs o :=
 (J0f (J2 p) (Jmw p) rfl).trans (Jhg p h)
def Jfz  (r : Int) : Option Res := some (.p (.i .i64 r), [])
def J5T (x0 : T_api_Page) : Option (Int) :=
 Option.bind (J4D x0) fun r1 =>
 if r1 then
  Option.bind (J5X x0) fun r5 =>
  if r5 then
   some 0
  else
   some 22
 else
  some 1
theorem JhB {x0 : T_api_Page} {o : Int} (h : J5T x0 = some o) :
  rk (J2 p) J77 0 [] (X (J2 p) J3T ⟨[(0, .data (J5 x0))], []⟩) = Jfz o := by
 unfold J5T at h
 obtain ⟨r1, h2, h⟩ := bi h
 have f3 := Jke p h2
 try simp only [Nf] at f3
 try simp only [↓Da, Ua, J3T, J7, J1, J6, *, ↓reduceIte, reduceEqDiff, reduceAdd, reduceLT, reduceMul]
 rcases Ja h with ⟨h4, h⟩ | ⟨h4, h⟩
 ·obtain ⟨r5, h6, h⟩ := bi h
  have f7 := Jmi p h6
  try simp only [Nf] at f7
  try simp only [↓Da, Ua, J3T, J7, J1, J6, *, ↓reduceIte, reduceEqDiff, reduceAdd, reduceLT, reduceMul]
  rcases Ja h with ⟨h8, h⟩ | ⟨h8, h⟩
  ·obtain rfl := sj h
   try simp only [↓Da, Ua, J3T, J7, J1, J6, Jc8, *, ↓reduceIte, reduceEqDiff, reduceAdd, reduceLT, reduceMul]
   rfl
  ·obtain rfl := sj h
   try simp only [↓Da, Ua, J3T, J7, J1, J6, Jc8, *, ↓reduceIte, reduceEqDiff, reduceAdd, reduceLT, reduceMul]
   rfl
 ·obtain rfl := sj h
  try simp only [↓Da, Ua, J3T, J7, J1, J6, Jc8, *, ↓reduceIte, reduceEqDiff, reduceAdd, reduceLT, reduceMul]
  rfl
theorem Jn3 {x0 : T_api_Page} {o : Int} (h : J5T x0 = some o) : AF (J2 p) J74 [.data (J5 x0)] [] = Jfz o :=
 (J0f (J2 p) (JmP p) rfl).trans (JhB p h)
theorem Jmt {x0 : T_api_Page} {o : Int} (h : J5T x0 = some o) : ∀ ws new st, (Jj (AF (J2 p)) J74 ([.data (J5 x0)], ws) 0 new).run st = some ⟨.p (.i .i64 o), ws⟩ := Js rfl (Jn3 p h) rfl
def Jfq  (r : T_api_Page × Int) : Option Res := some (.tup [.data (J5 r.1), .p (.i .i64 r.2)], [])
def J1n (x0 : List UInt8) : Option (T_api_Page × Int) :=
 if ((((List.length x0 : Nat) : Int) : Int) != 256) then
  some ((⟨0, 0, (Vector.replicate 16 (⟨false, []⟩ : Je))⟩ : T_api_Page), 2)
 else
  Option.bind (J6q) fun r2 =>
  if (x0 == r2) then
   some ((⟨0, 0, (Vector.replicate 16 (⟨false, []⟩ : Je))⟩ : T_api_Page), 7)
  else
   Option.bind (J2U x0 none (some 8)) fun m6 =>
   Option.bind (J2U x0 (some 248) none) fun m9 =>
   if (m6 == m9) then
    Option.bind (JY x0 244 4) fun r13 =>
    Option.bind (J2U x0 none (some 244)) fun m16 =>
    Option.bind (J2B m16) fun r19 =>
    if ((r13 : Int) != (IntKind.wrap .i64 r19)) then
     some ((⟨0, 0, (Vector.replicate 16 (⟨false, []⟩ : Je))⟩ : T_api_Page), 3)
    else
     Option.bind (J6i x0) fun r23 =>
     Option.bind (J18 r23.1) fun r26 =>
     if r23.2 then
      if ((r26.2 : Int) != 0) then
       some ((⟨0, 0, (Vector.replicate 16 (⟨false, []⟩ : Je))⟩ : T_api_Page), 4)
      else
       if (r26.1 == x0) then
        some (r23.1, 0)
       else
        some ((⟨0, 0, (Vector.replicate 16 (⟨false, []⟩ : Je))⟩ : T_api_Page), 4)
     else
      some ((⟨0, 0, (Vector.replicate 16 (⟨false, []⟩ : Je))⟩ : T_api_Page), 4)
   else
    some ((⟨0, 0, (Vector.replicate 16 (⟨false, []⟩ : Je))⟩ : T_api_Page), 27)
theorem Jhs {x0 : List UInt8} {o : T_api_Page × Int} (h : J1n x0 = some o) :
  rk (J2 p) J6H 0 [] (X (J2 p) J0t ⟨[(0, .p (.s x0))], []⟩) = Jfq o := by
 unfold J1n at h
 rcases Ja h with ⟨h1, h⟩ | ⟨h1, h⟩
 ·obtain rfl := sj h
  try simp only [↓Da, Ua, J0t, J7, J1, J6, J50, *, ↓reduceIte, reduceEqDiff, reduceAdd, reduceLT, reduceMul]
  rfl
 ·obtain ⟨r2, h3, h⟩ := bi h
  have f4 := JoG p h3
  try simp only [Nf] at f4
  try simp only [↓Da, Ua, J0t, J7, J1, J6, *, ↓reduceIte, reduceEqDiff, reduceAdd, reduceLT, reduceMul]
  rcases Ja h with ⟨h5, h⟩ | ⟨h5, h⟩
  ·obtain rfl := sj h
   try simp only [↓Da, Ua, J0t, J7, J1, J6, J50, *, ↓reduceIte, reduceEqDiff, reduceAdd, reduceLT, reduceMul]
   rfl
  ·obtain ⟨m6, h7, h⟩ := bi h
   have f8 : J2Z (.p (.s x0)) none (some (.p (.i .i64 8))) = some (.p (.s m6)) := J4b (k := .i64) (lo := none) (hi := (some 8)) h7
   try simp only [Nf] at f8
   obtain ⟨m9, h10, h⟩ := bi h
   have f11 : J2Z (.p (.s x0)) (some (.p (.i .i64 248))) none = some (.p (.s m9)) := J4b (k := .i64) (lo := (some 248)) (hi := none) h10
   try simp only [Nf] at f11
   try simp only [↓Da, Ua, J0t, J7, J1, J6, *, ↓reduceIte, reduceEqDiff, reduceAdd, reduceLT, reduceMul]
   rcases Ja h with ⟨h12, h⟩ | ⟨h12, h⟩
   ·obtain ⟨r13, h14, h⟩ := bi h
    have f15 := Jal p h14
    try simp only [Nf] at f15
    obtain ⟨m16, h17, h⟩ := bi h
    have f18 : J2Z (.p (.s x0)) none (some (.p (.i .i64 244))) = some (.p (.s m16)) := J4b (k := .i64) (lo := none) (hi := (some 244)) h17
    try simp only [Nf] at f18
    obtain ⟨r19, h20, h⟩ := bi h
    have f21 := JdD p h20
    try simp only [Nf] at f21
    try simp only [↓Da, Ua, J0t, J7, J1, J6, *, ↓reduceIte, reduceEqDiff, reduceAdd, reduceLT, reduceMul]
    rcases Ja h with ⟨h22, h⟩ | ⟨h22, h⟩
    ·obtain rfl := sj h
     try simp only [↓Da, Ua, J0t, J7, J1, J6, J50, *, ↓reduceIte, reduceEqDiff, reduceAdd, reduceLT, reduceMul]
     rfl
    ·obtain ⟨r23, h24, h⟩ := bi h
     have f25 := Jpv p h24
     try simp only [Nf] at f25
     obtain ⟨r26, h27, h⟩ := bi h
     have f28 := Jmn p h27
     try simp only [Nf] at f28
     try simp only [↓Da, Ua, J0t, J7, J1, J6, *, ↓reduceIte, reduceEqDiff, reduceAdd, reduceLT, reduceMul]
     rcases Ja h with ⟨h29, h⟩ | ⟨h29, h⟩
     ·try simp only [↓Da, Ua, J0t, J7, J1, J6, *, ↓reduceIte, reduceEqDiff, reduceAdd, reduceLT, reduceMul]
      rcases Ja h with ⟨h30, h⟩ | ⟨h30, h⟩
      ·obtain rfl := sj h
       try simp only [↓Da, Ua, J0t, J7, J1, J6, J50, *, ↓reduceIte, reduceEqDiff, reduceAdd, reduceLT, reduceMul]
       rfl
      ·try simp only [↓Da, Ua, J0t, J7, J1, J6, *, ↓reduceIte, reduceEqDiff, reduceAdd, reduceLT, reduceMul]
       rcases Ja h with ⟨h31, h⟩ | ⟨h31, h⟩
       ·obtain rfl := sj h
        try simp only [↓Da, Ua, J0t, J7, J1, J6, J50, *, ↓reduceIte, reduceEqDiff, reduceAdd, reduceLT, reduceMul]
        rfl
       ·obtain rfl := sj h
        try simp only [↓Da, Ua, J0t, J7, J1, J6, J50, *, ↓reduceIte, reduceEqDiff, reduceAdd, reduceLT, reduceMul]
        rfl
     ·obtain rfl := sj h
      try simp only [↓Da, Ua, J0t, J7, J1, J6, J50, *, ↓reduceIte, reduceEqDiff, reduceAdd, reduceLT, reduceMul]
      rfl
   ·obtain rfl := sj h
    try simp only [↓Da, Ua, J0t, J7, J1, J6, J50, *, ↓reduceIte, reduceEqDiff, reduceAdd, reduceLT, reduceMul]
    rfl
theorem Jmy {x0 : List UInt8} {o : T_api_Page × Int} (h : J1n x0 = some o) : AF (J2 p) J6L [.p (.s x0)] [] = Jfq o :=
 (J0f (J2 p) (JmW p) rfl).trans (Jhs p h)
theorem JmV {x0 : List UInt8} {o : T_api_Page × Int} (h : J1n x0 = some o) : ∀ ws new st, (Jj (AF (J2 p)) J6L ([.p (.s x0)], ws) 0 new).run st = some ⟨.tup [.data (J5 o.1), .p (.i .i64 o.2)], ws⟩ := Js rfl (Jmy p h) rfl
def J6n  (r : (List UInt8) × Int) : Option Res := some (.tup [.p (.s r.1), .p (.i .i64 r.2)], [])
def Jaw (b0 : T_api_Page) (o : ((List UInt8) × Int) ⊕ ((List UInt8) × Int)) : Option Res := match o with
 | .inl s => rk (J2 p) J1h 0 [.bl 0, .sq (.keep [1, 5] J2m)] (X (J2 p) (.lp 1 [1, 5, 6] J19) ⟨[(1, .ptr 0 0), (5, .p (.s s.1)), (6, .p (.i .i64 s.2))], [.box (List.map AV.p (J5 b0))]⟩)
 | .inr o => J6n o
def J8o (x5 : List UInt8) (x6 : Int) (b0 : T_api_Page) : Option ((((List UInt8) × Int) ⊕ ((List UInt8) × Int))) :=
 some (.inl (x5, (IntKind.wrap .i64 (x6 + 1))))
theorem Jig {x5 : List UInt8} {x6 : Int} {b0 : T_api_Page} {o : (((List UInt8) × Int) ⊕ ((List UInt8) × Int))} (h : J8o x5 x6 b0 = some o) :
  rk (J2 p) J1h 0 [.lo 1 [1, 5, 6] J19, .bl 0, .sq (.keep [1, 5] J2m)] (X (J2 p) J8g ⟨[(1, .ptr 0 0), (5, .p (.s x5)), (6, .p (.i .i64 x6))], [.box (List.map AV.p (J5 b0))]⟩) = (Jaw p b0) o := by
 unfold J8o at h
 obtain rfl := sj h
 try simp only [↓Da, Ua, J8g, ↓reduceIte, reduceEqDiff, reduceAdd, reduceLT, reduceMul]
 rfl
def J5i (x5 : List UInt8) (x6 x7 : Int) (b0 : T_api_Page) : Option ((((List UInt8) × Int) ⊕ ((List UInt8) × Int))) :=
 Option.bind (J1z x5 x7 1) fun r1 =>
 Option.bind (inb 16 x6) fun u4 =>
 Option.bind (J93 b0.Cells x6) fun y7 =>
 Option.bind (J2o (IntKind.wrap .i64 (12 - ((List.length y7.Data : Nat) : Int)))) fun r11 =>
 Option.bind (J2I y7.Data r11) fun s15 =>
 Option.bind (J2I r1 s15) fun s17 =>
 J8o s17 x6 b0
theorem Jd4 {x5 : List UInt8} {x6 x7 : Int} {b0 : T_api_Page} {o : (((List UInt8) × Int) ⊕ ((List UInt8) × Int))} (h : J5i x5 x6 x7 b0 = some o) :
  rk (J2 p) J1h 0 [.bl 1, .sq (.keep [1, 5, 6] J8g), .lo 1 [1, 5, 6] J19, .bl 0, .sq (.keep [1, 5] J2m)] (X (J2 p) Jax ⟨[(1, .ptr 0 0), (5, .p (.s x5)), (6, .p (.i .i64 x6)), (7, .p (.i .i64 x7))], [.box (List.map AV.p (J5 b0))]⟩) = (Jaw p b0) o := by
 unfold J5i at h
 obtain ⟨r1, h2, h⟩ := bi h
 have f3 := J9Z p h2
 try simp only [Nf] at f3
 obtain ⟨u4, h5, h⟩ := bi h
 have f6 : (0 ≤ (x6 : Int) ∧ (x6 : Int) < ((16 : Nat) : Int)) = True := eq_true (J9A h5)
 obtain ⟨y7, h8, h⟩ := bi h
 have f9 : sub (J5 b0) ((2 + Int.toNat x6 * 2) + 1) 1 = some (r_s y7.Data) := by
  have e0 := (J89 (J89 (J1d b0) (J9X (v := b0.Cells) JZ (J5k h8).2)) (J7C y7))
  exact e0
 try simp only [Nf] at f9
 have f10 : sub (J5 b0) ((2 + Int.toNat x6 * 2) + 1) 1 = some (r_s y7.Data) := by
  have e0 := (J89 (J89 (J1d b0) (J9X (v := b0.Cells) JZ (J5k h8).2)) (J7C y7))
  exact e0
 try simp only [Nf] at f10
 obtain ⟨r11, h12, h⟩ := bi h
 have f13 := Jc1 p h12
 try simp only [Nf] at f13
 have f14 : ∀ ws k new s, Jf ((Jj (AF (J2 p)) J3P ([.p (.i .i64 (IntKind.wrap .i64 (12 - ((List.length y7.Data : Nat) : Int))))], ws) k new).reads s) = [] := J04 rfl
 try simp only [Nf] at f14
 obtain ⟨s15, h16, h⟩ := bi h
 obtain ⟨s17, h18, h⟩ := bi h
 try simp only [↓Da, Ua, Ra, Jax, J7, J1, J6, *, ↓reduceIte, reduceEqDiff, reduceAdd, reduceLT, reduceMul, Nat.reduceBEq]
 have e0 := Jig p h
 first | exact e0 | (simp only [*] at e0; exact e0)
def J8n (x5 : List UInt8) (b0 : T_api_Page) : Option ((List UInt8) × Int) :=
 Option.bind (J2o (IntKind.wrap .i64 (244 - ((List.length x5 : Nat) : Int)))) fun r1 =>
 Option.bind (J2I x5 r1) fun s4 =>
 Option.bind (J7y s4) fun r6 =>
 Option.bind (J1z s4 (IntKind.wrap .i64 r6) 4) fun r9 =>
 Option.bind (J1z r9 b0.LSN 8) fun r12 =>
 some (r12, 0)
theorem Jj7 {x5 : List UInt8} {b0 : T_api_Page} {o : (List UInt8) × Int} (h : J8n x5 b0 = some o) :
  rk (J2 p) J1h 0 [] (X (J2 p) J2m ⟨[(1, .ptr 0 0), (5, .p (.s x5))], [.box (List.map AV.p (J5 b0))]⟩) = J6n o := by
 unfold J8n at h
 obtain ⟨r1, h2, h⟩ := bi h
 have f3 := Jc1 p h2
 try simp only [Nf] at f3
 obtain ⟨s4, h5, h⟩ := bi h
 obtain ⟨r6, h7, h⟩ := bi h
 have f8 := Ji9 p h7
 try simp only [Nf] at f8
 obtain ⟨r9, h10, h⟩ := bi h
 have f11 := J9Z p h10
 try simp only [Nf] at f11
 obtain ⟨r12, h13, h⟩ := bi h
 have f14 := J9Z p h13
 try simp only [Nf] at f14
 obtain rfl := sj h
 try simp only [↓Da, Ua, J2m, J7, J1, J6, JdV, *, ↓reduceIte, reduceEqDiff, reduceAdd, reduceLT, reduceMul]
 rfl
def J3Z (b0 : T_api_Page) (x5 : List UInt8) (x6 : Int) : Option ((((List UInt8) × Int) ⊕ ((List UInt8) × Int))) :=
 if (decide (x6 < 16)) then
  Option.bind (inb 16 x6) fun u2 =>
  Option.bind (J93 b0.Cells x6) fun y5 =>
  if y5.Set then
   J5i x5 x6 ((List.length y5.Data : Nat) : Int) b0
  else
   J5i x5 x6 255 b0
 else
  Option.map (fun o => .inr o) (J8n x5 b0)
theorem Jd9 {b0 : T_api_Page} {x5 : List UInt8} {x6 : Int} {o : (((List UInt8) × Int) ⊕ ((List UInt8) × Int))} (h : J3Z b0 x5 x6 = some o) :
  rk (J2 p) J1h 0 [.lo 1 [1, 5, 6] J19, .bl 0, .sq (.keep [1, 5] J2m)] (X (J2 p) J19 ⟨[(1, .ptr 0 0), (5, .p (.s x5)), (6, .p (.i .i64 x6))], [.box (List.map AV.p (J5 b0))]⟩) = (Jaw p b0) o := by
 unfold J3Z at h
 rcases Ja h with ⟨h1, h⟩ | ⟨h1, h⟩
 ·obtain ⟨u2, h3, h⟩ := bi h
  have f4 : (0 ≤ (x6 : Int) ∧ (x6 : Int) < ((16 : Nat) : Int)) = True := eq_true (J9A h3)
  obtain ⟨y5, h6, h⟩ := bi h
  have f7 : sub (J5 b0) (2 + Int.toNat x6 * 2) 1 = some (r_b y5.Set) := by
   have e0 := (J89 (J89 (J1d b0) (J9X (v := b0.Cells) JZ (J5k h6).2)) (Jan y5))
   exact e0
  try simp only [Nf] at f7
  try simp only [↓Da, Ua, J19, J7, J1, J6, *, ↓reduceIte, reduceEqDiff, reduceAdd, reduceLT, reduceMul]
  rcases Ja h with ⟨h8, h⟩ | ⟨h8, h⟩
  ·have f9 : sub (J5 b0) ((2 + Int.toNat x6 * 2) + 1) 1 = some (r_s y5.Data) := by
    have e0 := (J89 (J89 (J1d b0) (J9X (v := b0.Cells) JZ (J5k h6).2)) (J7C y5))
    exact e0
   try simp only [Nf] at f9
   try simp only [↓Da, Ua, J19, J7, J1, J6, *, ↓reduceIte, reduceEqDiff, reduceAdd, reduceLT, reduceMul]
   have e0 := Jd4 p h
   first | exact e0 | (simp only [*] at e0; exact e0)
  ·try simp only [↓Da, Ua, J19, J7, J1, J6, *, ↓reduceIte, reduceEqDiff, reduceAdd, reduceLT, reduceMul]
   have e0 := Jd4 p h
   first | exact e0 | (simp only [*] at e0; exact e0)
 ·obtain ⟨o', h', rfl⟩ := mi h
  try simp only [↓Da, Ua, J19, J7, J1, J6, *, ↓reduceIte, reduceEqDiff, reduceAdd, reduceLT, reduceMul]
  have e0 := Jj7 p h'
  first | exact e0 | (simp only [*] at e0; exact e0)
def JcQ (b0 : T_api_Page) (s : (List UInt8) × Int) : Option ((List UInt8) × Int) :=
 Jx (fun s => J3Z b0 s.1 s.2) s
theorem Jg2 {b0 : T_api_Page} {s : (List UInt8) × Int} {o : (List UInt8) × Int} (h : JcQ b0 s = some o) :
  rk (J2 p) J1h 0 [.bl 0, .sq (.keep [1, 5] J2m)] (X (J2 p) (.lp 1 [1, 5, 6] J19) ⟨[(1, .ptr 0 0), (5, .p (.s s.1)), (6, .p (.i .i64 s.2))], [.box (List.map AV.p (J5 b0))]⟩) = J6n o := by
 have h0 : Jx (fun s => J3Z b0 s.1 s.2) s = some o := h
 exact J0m (P := fun (s : (List UInt8) × Int) (o : (List UInt8) × Int) => rk (J2 p) J1h 0 [.bl 0, .sq (.keep [1, 5] J2m)] (X (J2 p) (.lp 1 [1, 5, 6] J19) ⟨[(1, .ptr 0 0), (5, .p (.s s.1)), (6, .p (.i .i64 s.2))], [.box (List.map AV.p (J5 b0))]⟩) = J6n o) (fun s r hs => by rw [J0k]; exact Jd9 p hs) (fun s s1 r hs ih => by rw [J0k]; exact (Jd9 p hs).trans ih) h0
def J39 (x0 : T_api_Page) : Option ((List UInt8) × Int) :=
 Option.bind (J5T x0) fun r1 =>
 if ((r1 : Int) != 0) then
  some (([] : List UInt8), r1)
 else
  Option.bind (J1z ([]) x0.LSN 8) fun r5 =>
  Option.bind (J1z r5 x0.ID 4) fun r8 =>
  JcQ x0 (r8, 0)
theorem Jgv {x0 : T_api_Page} {o : (List UInt8) × Int} (h : J39 x0 = some o) :
  rk (J2 p) J1h 0 [] (X (J2 p) J5c ⟨[(0, .data (J5 x0))], []⟩) = J6n o := by
 unfold J39 at h
 obtain ⟨r1, h2, h⟩ := bi h
 have f3 := Jmt p h2
 try simp only [Nf] at f3
 try simp only [↓Da, Ua, J5c, J7, J1, J6, *, ↓reduceIte, reduceEqDiff, reduceAdd, reduceLT, reduceMul]
 rcases Ja h with ⟨h4, h⟩ | ⟨h4, h⟩
 ·obtain rfl := sj h
  try simp only [↓Da, Ua, J5c, J7, J1, J6, JdV, *, ↓reduceIte, reduceEqDiff, reduceAdd, reduceLT, reduceMul]
  rfl
 ·obtain ⟨r5, h6, h⟩ := bi h
  have f7 := J9Z p h6
  try simp only [Nf] at f7
  obtain ⟨r8, h9, h⟩ := bi h
  have f10 := J9Z p h9
  try simp only [Nf] at f10
  try simp only [↓Da, Ua, J5c, J7, J1, J6, *, ↓reduceIte, reduceEqDiff, reduceAdd, reduceLT, reduceMul]
  have e0 := Jg2 p h
  first | exact e0 | (simp only [*] at e0; exact e0)
theorem Jlh {x0 : T_api_Page} {o : (List UInt8) × Int} (h : J39 x0 = some o) : AF (J2 p) J5h [.data (J5 x0)] [] = J6n o :=
 (J0f (J2 p) (Jl3 p) rfl).trans (Jgv p h)
theorem JdZ {x0 : T_api_Page} {o : (List UInt8) × Int} (h : J39 x0 = some o) : ∀ ws new st, (Jj (AF (J2 p)) J5h ([.data (J5 x0)], ws) 0 new).run st = some ⟨.tup [.p (.s o.1), .p (.i .i64 o.2)], ws⟩ := Js rfl (Jlh p h) rfl
def JgG  (r : (List UInt8) × T_pagemenddraw_Codes) : Option Res := some (.p (.s r.1), [.box (List.map AV.p (J0 r.2))])
def J6u (b0 : T_pagemenddraw_Codes) (x1 : Int) : Option ((List UInt8) × T_pagemenddraw_Codes) :=
 Option.bind (Jp b0 6) fun r1 =>
 if ((r1.1 : Int) == 0) then
  Option.bind (J4W) fun r5 =>
  some (r5, r1.2)
 else
  if ((r1.1 : Int) == 1) then
   Option.bind (J32 r1.2) fun r9 =>
   some (r9.1, r9.2)
  else
   Option.bind (J3o r1.2 x1) fun r12 =>
   Option.bind (J39 r12.1) fun r15 =>
   some (r15.1, r12.2)
theorem Jj1 {b0 : T_pagemenddraw_Codes} {x1 : Int} {o : (List UInt8) × T_pagemenddraw_Codes} (h : J6u b0 x1 = some o) :
  rk (J2 p) J7Q 1 [] (X (J2 p) J4E ⟨[(0, .ptr 0 0), (1, .p (.i .i64 x1))], [.box (List.map AV.p (J0 b0))]⟩) = JgG o := by
 unfold J6u at h
 obtain ⟨r1, h2, h⟩ := bi h
 have f3 : ∀ ws new s, JK ws s [0] [List.map AV.p (J0 b0)] → (Jj (AF (J2 p)) Jc ([.ptr 0 0, .p (.i .i64 6)], ws) 0 new).run s = some ⟨.p (.i .i64 r1.1), ws ++ [(0, .box (List.map AV.p (J0 r1.2)))]⟩ := Jy (args' := [.ptr 0 0, .p (.i .i64 6)]) (bs := [0]) (css := [List.map AV.p (J0 b0)]) (css' := [List.map AV.p (J0 r1.2)]) rfl rfl rfl (by simp [Jk, Jb]) (Jv p h2) rfl rfl (by simp [Jk, Jb])
 try simp only [Nf] at f3
 try simp only [↓Da, Ua, J4E, J7, J1, J6, Jd, *, ↓reduceIte, reduceEqDiff, reduceAdd, reduceLT, reduceMul]
 rcases Ja h with ⟨h4, h⟩ | ⟨h4, h⟩
 ·have h4n : ((r1.1 : Int) != 0) = false := by rw [bne, h4]; rfl
  obtain ⟨r5, h6, h⟩ := bi h
  have f7 := Jfr p h6
  try simp only [Nf] at f7
  obtain rfl := sj h
  try simp only [↓Da, Ua, J4E, J7, J1, J6, Jd, JcI, *, ↓reduceIte, reduceEqDiff, reduceAdd, reduceLT, reduceMul]
  rfl
 ·have h4n : ((r1.1 : Int) != 0) = true := by rw [bne, h4]; rfl
  try simp only [↓Da, Ua, J4E, J7, J1, J6, Jd, *, ↓reduceIte, reduceEqDiff, reduceAdd, reduceLT, reduceMul]
  rcases Ja h with ⟨h8, h⟩ | ⟨h8, h⟩
  ·have h8n : ((r1.1 : Int) != 1) = false := by rw [bne, h8]; rfl
   obtain ⟨r9, h10, h⟩ := bi h
   have f11 : ∀ ws new s, JK ws s [0] [List.map AV.p (J0 r1.2)] → (Jj (AF (J2 p)) J4f ([.ptr 0 0], ws) 0 new).run s = some ⟨.p (.s r9.1), ws ++ [(0, .box (List.map AV.p (J0 r9.2)))]⟩ := Jy (args' := [.ptr 0 0]) (bs := [0]) (css := [List.map AV.p (J0 r1.2)]) (css' := [List.map AV.p (J0 r9.2)]) rfl rfl rfl (by simp [Jk, Jb]) (Jg7 p h10) rfl rfl (by simp [Jk, Jb])
   try simp only [Nf] at f11
   obtain rfl := sj h
   try simp only [↓Da, Ua, J4E, J7, J1, J6, Jd, JcI, *, ↓reduceIte, reduceEqDiff, reduceAdd, reduceLT, reduceMul]
   rfl
  ·have h8n : ((r1.1 : Int) != 1) = true := by rw [bne, h8]; rfl
   obtain ⟨r12, h13, h⟩ := bi h
   have f14 : ∀ ws new s, JK ws s [0] [List.map AV.p (J0 r1.2)] → (Jj (AF (J2 p)) J4O ([.ptr 0 0, .p (.i .i64 x1)], ws) 0 new).run s = some ⟨.data (J5 r12.1), ws ++ [(0, .box (List.map AV.p (J0 r12.2)))]⟩ := Jy (args' := [.ptr 0 0, .p (.i .i64 x1)]) (bs := [0]) (css := [List.map AV.p (J0 r1.2)]) (css' := [List.map AV.p (J0 r12.2)]) rfl rfl rfl (by simp [Jk, Jb]) (Jhu p h13) rfl rfl (by simp [Jk, Jb])
   try simp only [Nf] at f14
   obtain ⟨r15, h16, h⟩ := bi h
   have f17 := JdZ p h16
   try simp only [Nf] at f17
   obtain rfl := sj h
   try simp only [↓Da, Ua, J4E, J7, J1, J6, Jd, JcI, *, ↓reduceIte, reduceEqDiff, reduceAdd, reduceLT, reduceMul]
   rfl
theorem JgR {b0 : T_pagemenddraw_Codes} {x1 : Int} {o : (List UInt8) × T_pagemenddraw_Codes} (h : J6u b0 x1 = some o) : AF (J2 p) J4k [.ptr 0 0, .p (.i .i64 x1)] [.box (List.map AV.p (J0 b0))] = JgG o :=
 (J0f (J2 p) (Jnq p) rfl).trans (Jj1 p h)
def Jdf  (r : T_api_Page × Int) : Option Res := some (.tup [.data (J5 r.1), .p (.i .i64 r.2)], [])
def J0I (x0 : List UInt8) (x1 : Int) : Option (T_api_Page × Int) :=
 Option.bind (J1I x1) fun r1 =>
 if r1 then
  Option.bind (J1n x0) fun r5 =>
  if ((r5.2 : Int) == 7) then
   Option.bind (J9K x1) fun r9 =>
   some (r9, 0)
  else
   if ((r5.2 : Int) != 0) then
    some ((⟨0, 0, (Vector.replicate 16 (⟨false, []⟩ : Je))⟩ : T_api_Page), r5.2)
   else
    if ((r5.1.ID : Int) != x1) then
     some ((⟨0, 0, (Vector.replicate 16 (⟨false, []⟩ : Je))⟩ : T_api_Page), 6)
    else
     some (r5.1, 0)
 else
  some ((⟨0, 0, (Vector.replicate 16 (⟨false, []⟩ : Je))⟩ : T_api_Page), 1)
theorem JfL {x0 : List UInt8} {x1 : Int} {o : T_api_Page × Int} (h : J0I x0 x1 = some o) :
  rk (J2 p) J5C 0 [] (X (J2 p) J12 ⟨[(0, .p (.s x0)), (1, .p (.i .i64 x1))], []⟩) = Jdf o := by
 unfold J0I at h
 obtain ⟨r1, h2, h⟩ := bi h
 have f3 := JgD p h2
 try simp only [Nf] at f3
 try simp only [↓Da, Ua, J12, J7, J1, J6, *, ↓reduceIte, reduceEqDiff, reduceAdd, reduceLT, reduceMul]
 rcases Ja h with ⟨h4, h⟩ | ⟨h4, h⟩
 ·obtain ⟨r5, h6, h⟩ := bi h
  have f7 := JmV p h6
  try simp only [Nf] at f7
  try simp only [↓Da, Ua, J12, J7, J1, J6, *, ↓reduceIte, reduceEqDiff, reduceAdd, reduceLT, reduceMul]
  rcases Ja h with ⟨h8, h⟩ | ⟨h8, h⟩
  ·have h8n : ((r5.2 : Int) != 7) = false := by rw [bne, h8]; rfl
   obtain ⟨r9, h10, h⟩ := bi h
   have f11 := Jr9 p h10
   try simp only [Nf] at f11
   obtain rfl := sj h
   try simp only [↓Da, Ua, J12, J7, J1, J6, J7n, *, ↓reduceIte, reduceEqDiff, reduceAdd, reduceLT, reduceMul]
   rfl
  ·have h8n : ((r5.2 : Int) != 7) = true := by rw [bne, h8]; rfl
   try simp only [↓Da, Ua, J12, J7, J1, J6, *, ↓reduceIte, reduceEqDiff, reduceAdd, reduceLT, reduceMul]
   rcases Ja h with ⟨h12, h⟩ | ⟨h12, h⟩
   ·obtain rfl := sj h
    try simp only [↓Da, Ua, J12, J7, J1, J6, J7n, *, ↓reduceIte, reduceEqDiff, reduceAdd, reduceLT, reduceMul]
    rfl
   ·try simp only [↓Da, Ua, J12, J7, J1, J6, *, ↓reduceIte, reduceEqDiff, reduceAdd, reduceLT, reduceMul]
    rcases Ja h with ⟨h13, h⟩ | ⟨h13, h⟩
    ·obtain rfl := sj h
     try simp only [↓Da, Ua, J12, J7, J1, J6, J7n, *, ↓reduceIte, reduceEqDiff, reduceAdd, reduceLT, reduceMul]
     rfl
    ·obtain rfl := sj h
     try simp only [↓Da, Ua, J12, J7, J1, J6, J7n, *, ↓reduceIte, reduceEqDiff, reduceAdd, reduceLT, reduceMul]
     rfl
 ·obtain rfl := sj h
  try simp only [↓Da, Ua, J12, J7, J1, J6, J7n, *, ↓reduceIte, reduceEqDiff, reduceAdd, reduceLT, reduceMul]
  rfl
theorem Jjp {x0 : List UInt8} {x1 : Int} {o : T_api_Page × Int} (h : J0I x0 x1 = some o) : AF (J2 p) J3r [.p (.s x0), .p (.i .i64 x1)] [] = Jdf o :=
 (J0f (J2 p) (Jjy p) rfl).trans (JfL p h)
theorem J96 {x0 : List UInt8} {x1 : Int} {o : T_api_Page × Int} (h : J0I x0 x1 = some o) : ∀ ws new st, (Jj (AF (J2 p)) J3r ([.p (.s x0), .p (.i .i64 x1)], ws) 0 new).run st = some ⟨.tup [.data (J5 o.1), .p (.i .i64 o.2)], ws⟩ := Js rfl (Jjp p h) rfl
def J6p  (r : T_api_Page × Int) : Option Res := some (.tup [.data (J5 r.1), .p (.i .i64 r.2)], [])
def JcT (x0 : List UInt8) (b0 : T_api_Page) (o : (Int × T_api_Page) ⊕ (T_api_Page × Int)) : Option Res := match o with
 | .inl s => rk (J2 p) J1B 0 [.bl 1, .sq (.keep [0, 2, 6] J1a)] (X (J2 p) (.lp 2 [0, 2, 6, 7] J0N) ⟨[(0, .p (.s x0)), (2, .ptr 0 0), (6, .ptr 1 0), (7, .p (.i .i64 s.1))], [.box (List.map AV.p (J5 b0)), .box (List.map AV.p (J5 s.2))]⟩)
 | .inr o => J6p o
def J5n (x0 : List UInt8) (x7 : Int) (b0 b1 : T_api_Page) : Option (((Int × T_api_Page) ⊕ (T_api_Page × Int))) :=
 some (.inl ((IntKind.wrap .i64 (x7 + 1)), b1))
theorem Jd1 {x0 : List UInt8} {x7 : Int} {b0 b1 : T_api_Page} {o : ((Int × T_api_Page) ⊕ (T_api_Page × Int))} (h : J5n x0 x7 b0 b1 = some o) :
  rk (J2 p) J1B 0 [.lo 2 [0, 2, 6, 7] J0N, .bl 1, .sq (.keep [0, 2, 6] J1a)] (X (J2 p) Jau ⟨[(0, .p (.s x0)), (2, .ptr 0 0), (6, .ptr 1 0), (7, .p (.i .i64 x7))], [.box (List.map AV.p (J5 b0)), .box (List.map AV.p (J5 b1))]⟩) = (JcT p x0 b0) o := by
 unfold J5n at h
 obtain rfl := sj h
 try simp only [↓Da, Ua, Jau, ↓reduceIte, reduceEqDiff, reduceAdd, reduceLT, reduceMul]
 rfl
def J2P (x0 : List UInt8) (b0 b1 : T_api_Page) : Option (T_api_Page × Int) :=
 Option.bind (J39 b1) fun r1 =>
 if ((r1.2 : Int) != 0) then
  some ((⟨0, 0, (Vector.replicate 16 (⟨false, []⟩ : Je))⟩ : T_api_Page), 4)
 else
  if (r1.1 == x0) then
   some (b1, 0)
  else
   some ((⟨0, 0, (Vector.replicate 16 (⟨false, []⟩ : Je))⟩ : T_api_Page), 4)
theorem JiB {x0 : List UInt8} {b0 b1 : T_api_Page} {o : T_api_Page × Int} (h : J2P x0 b0 b1 = some o) :
  rk (J2 p) J1B 0 [] (X (J2 p) J1a ⟨[(0, .p (.s x0)), (2, .ptr 0 0), (6, .ptr 1 0)], [.box (List.map AV.p (J5 b0)), .box (List.map AV.p (J5 b1))]⟩) = J6p o := by
 unfold J2P at h
 obtain ⟨r1, h2, h⟩ := bi h
 have f3 := JdZ p h2
 try simp only [Nf] at f3
 try simp only [↓Da, Ua, J1a, J7, J1, J6, *, ↓reduceIte, reduceEqDiff, reduceAdd, reduceLT, reduceMul]
 rcases Ja h with ⟨h4, h⟩ | ⟨h4, h⟩
 ·obtain rfl := sj h
  try simp only [↓Da, Ua, J1a, J7, J1, J6, J48, *, ↓reduceIte, reduceEqDiff, reduceAdd, reduceLT, reduceMul]
  rfl
 ·try simp only [↓Da, Ua, J1a, J7, J1, J6, *, ↓reduceIte, reduceEqDiff, reduceAdd, reduceLT, reduceMul]
  rcases Ja h with ⟨h5, h⟩ | ⟨h5, h⟩
  ·obtain rfl := sj h
   try simp only [↓Da, Ua, J1a, J7, J1, J6, J48, *, ↓reduceIte, reduceEqDiff, reduceAdd, reduceLT, reduceMul]
   rfl
  ·obtain rfl := sj h
   try simp only [↓Da, Ua, J1a, J7, J1, J6, J48, *, ↓reduceIte, reduceEqDiff, reduceAdd, reduceLT, reduceMul]
   rfl
def J2T (x0 : List UInt8) (b0 : T_api_Page) (x7 : Int) (b1 : T_api_Page) : Option (((Int × T_api_Page) ⊕ (T_api_Page × Int))) :=
 if (decide (x7 < 16)) then
  Option.bind (JcH x0 (IntKind.wrap .i64 (12 + (IntKind.wrap .i64 (x7 * 13))))) fun c2 =>
  if (((IntKind.wrap .i64 c2) : Int) == 255) then
   J5n x0 x7 b0 b1
  else
   if (decide ((IntKind.wrap .i64 c2) > 12)) then
    some (.inr ((⟨0, 0, (Vector.replicate 16 (⟨false, []⟩ : Je))⟩ : T_api_Page), 4))
   else
    Option.bind (J2U x0 (some (IntKind.wrap .i64 ((IntKind.wrap .i64 (12 + (IntKind.wrap .i64 (x7 * 13)))) + 1))) (some (IntKind.wrap .i64 ((IntKind.wrap .i64 ((IntKind.wrap .i64 (12 + (IntKind.wrap .i64 (x7 * 13)))) + 1)) + (IntKind.wrap .i64 c2))))) fun m6 =>
    Option.bind (inb 16 x7) fun u9 =>
    Option.bind (J93 b1.Cells x7) fun y12 =>
    J5n x0 x7 b0 (⟨b1.ID, b1.LSN, (Jao b1.Cells x7 (⟨true, m6⟩ : Je))⟩ : T_api_Page)
 else
  Option.map (fun o => .inr o) (J2P x0 b0 b1)
theorem JcW {x0 : List UInt8} {b0 : T_api_Page} {x7 : Int} {b1 : T_api_Page} {o : ((Int × T_api_Page) ⊕ (T_api_Page × Int))} (h : J2T x0 b0 x7 b1 = some o) :
  rk (J2 p) J1B 0 [.lo 2 [0, 2, 6, 7] J0N, .bl 1, .sq (.keep [0, 2, 6] J1a)] (X (J2 p) J0N ⟨[(0, .p (.s x0)), (2, .ptr 0 0), (6, .ptr 1 0), (7, .p (.i .i64 x7))], [.box (List.map AV.p (J5 b0)), .box (List.map AV.p (J5 b1))]⟩) = (JcT p x0 b0) o := by
 unfold J2T at h
 rcases Ja h with ⟨h1, h⟩ | ⟨h1, h⟩
 ·obtain ⟨c2, h3, h⟩ := bi h
  try simp only [↓Da, Ua, J0N, J7, J1, J6, *, ↓reduceIte, reduceEqDiff, reduceAdd, reduceLT, reduceMul]
  rcases Ja h with ⟨h4, h⟩ | ⟨h4, h⟩
  ·have h4n : (((IntKind.wrap .i64 c2) : Int) != 255) = false := by rw [bne, h4]; rfl
   try simp only [↓Da, Ua, J0N, J7, J1, J6, *, ↓reduceIte, reduceEqDiff, reduceAdd, reduceLT, reduceMul]
   have e0 := Jd1 p h
   exact e0
  ·have h4n : (((IntKind.wrap .i64 c2) : Int) != 255) = true := by rw [bne, h4]; rfl
   try simp only [↓Da, Ua, J0N, J7, J1, J6, *, ↓reduceIte, reduceEqDiff, reduceAdd, reduceLT, reduceMul]
   rcases Ja h with ⟨h5, h⟩ | ⟨h5, h⟩
   ·obtain rfl := sj h
    try simp only [↓Da, Ua, J0N, J7, J1, J6, J48, *, ↓reduceIte, reduceEqDiff, reduceAdd, reduceLT, reduceMul]
    rfl
   ·obtain ⟨m6, h7, h⟩ := bi h
    have f8 : J2Z (.p (.s x0)) (some (.p (.i .i64 (IntKind.wrap .i64 ((IntKind.wrap .i64 (12 + (IntKind.wrap .i64 (x7 * 13)))) + 1))))) (some (.p (.i .i64 (IntKind.wrap .i64 ((IntKind.wrap .i64 ((IntKind.wrap .i64 (12 + (IntKind.wrap .i64 (x7 * 13)))) + 1)) + (IntKind.wrap .i64 c2)))))) = some (.p (.s m6)) := J4b (k := .i64) (lo := (some (IntKind.wrap .i64 ((IntKind.wrap .i64 (12 + (IntKind.wrap .i64 (x7 * 13)))) + 1)))) (hi := (some (IntKind.wrap .i64 ((IntKind.wrap .i64 ((IntKind.wrap .i64 (12 + (IntKind.wrap .i64 (x7 * 13)))) + 1)) + (IntKind.wrap .i64 c2))))) h7
    try simp only [Nf] at f8
    obtain ⟨u9, h10, h⟩ := bi h
    have f11 : (0 ≤ (x7 : Int) ∧ (x7 : Int) < ((16 : Nat) : Int)) = True := eq_true (J9A h10)
    obtain ⟨y12, h13, h⟩ := bi h
    have f14 : spl (J5 b1) (2 + Int.toNat x7 * 2) (Ji (⟨true, m6⟩ : Je)) = some (J5 (⟨b1.ID, b1.LSN, (Jao b1.Cells x7 (⟨true, m6⟩ : Je))⟩ : T_api_Page)) := by
     have e0 := (Jkz (J1d b1) (JjT (v := b1.Cells) JZ (JgW h13) (⟨true, m6⟩ : Je)) (J7h b1 _))
     exact e0
    try simp only [Nf] at f14
    try simp only [↓Da, Ua, J0N, J7, J1, J6, *, ↓reduceIte, reduceEqDiff, reduceAdd, reduceLT, reduceMul]
    have e0 := Jd1 p h
    exact e0
 ·obtain ⟨o', h', rfl⟩ := mi h
  try simp only [↓Da, Ua, J0N, J7, J1, J6, *, ↓reduceIte, reduceEqDiff, reduceAdd, reduceLT, reduceMul]
  have e0 := JiB p h'
  exact e0
def Jav (x0 : List UInt8) (b0 : T_api_Page) (s : Int × T_api_Page) : Option (T_api_Page × Int) :=
 Jx (fun s => J2T x0 b0 s.1 s.2) s
theorem Jgh {x0 : List UInt8} {b0 : T_api_Page} {s : Int × T_api_Page} {o : T_api_Page × Int} (h : Jav x0 b0 s = some o) :
  rk (J2 p) J1B 0 [.bl 1, .sq (.keep [0, 2, 6] J1a)] (X (J2 p) (.lp 2 [0, 2, 6, 7] J0N) ⟨[(0, .p (.s x0)), (2, .ptr 0 0), (6, .ptr 1 0), (7, .p (.i .i64 s.1))], [.box (List.map AV.p (J5 b0)), .box (List.map AV.p (J5 s.2))]⟩) = J6p o := by
 have h0 : Jx (fun s => J2T x0 b0 s.1 s.2) s = some o := h
 exact J0m (P := fun (s : Int × T_api_Page) (o : T_api_Page × Int) => rk (J2 p) J1B 0 [.bl 1, .sq (.keep [0, 2, 6] J1a)] (X (J2 p) (.lp 2 [0, 2, 6, 7] J0N) ⟨[(0, .p (.s x0)), (2, .ptr 0 0), (6, .ptr 1 0), (7, .p (.i .i64 s.1))], [.box (List.map AV.p (J5 b0)), .box (List.map AV.p (J5 s.2))]⟩) = J6p o) (fun s r hs => by rw [J0k]; exact JcW p hs) (fun s s1 r hs ih => by rw [J0k]; exact (JcW p hs).trans ih) h0
def J5j (x0 : List UInt8) : Option (T_api_Page × Int) :=
 if ((((List.length x0 : Nat) : Int) : Int) != 256) then
  some ((⟨0, 0, (Vector.replicate 16 (⟨false, []⟩ : Je))⟩ : T_api_Page), 2)
 else
  Option.bind (J4W) fun r2 =>
  if (x0 == r2) then
   some ((⟨0, 0, (Vector.replicate 16 (⟨false, []⟩ : Je))⟩ : T_api_Page), 7)
  else
   Option.bind (J2U x0 none (some 8)) fun m6 =>
   Option.bind (J2U x0 (some 248) none) fun m9 =>
   if (m6 == m9) then
    Option.bind (J36 x0 244 4) fun r13 =>
    Option.bind (J2U x0 none (some 244)) fun m16 =>
    Option.bind (J7y m16) fun r19 =>
    if (((IntKind.wrap .u32 r13.1) : Int) != r19) then
     some ((⟨0, 0, (Vector.replicate 16 (⟨false, []⟩ : Je))⟩ : T_api_Page), 3)
    else
     Option.bind (J36 x0 0 8) fun r23 =>
     Option.bind (J36 x0 8 4) fun r26 =>
     Jav x0 (⟨0, 0, (Vector.replicate 16 (⟨false, []⟩ : Je))⟩ : T_api_Page) (0, (⟨r26.1, r23.1, (Vector.replicate 16 (⟨false, []⟩ : Je))⟩ : T_api_Page))
   else
    some ((⟨0, 0, (Vector.replicate 16 (⟨false, []⟩ : Je))⟩ : T_api_Page), 27)
theorem Jg5 {x0 : List UInt8} {o : T_api_Page × Int} (h : J5j x0 = some o) :
  rk (J2 p) J1B 0 [] (X (J2 p) J1A ⟨[(0, .p (.s x0))], []⟩) = J6p o := by
 unfold J5j at h
 rcases Ja h with ⟨h1, h⟩ | ⟨h1, h⟩
 ·obtain rfl := sj h
  try simp only [↓Da, Ua, J1A, J7, J1, J6, J48, *, ↓reduceIte, reduceEqDiff, reduceAdd, reduceLT, reduceMul]
  rfl
 ·obtain ⟨r2, h3, h⟩ := bi h
  have f4 := Jfr p h3
  try simp only [Nf] at f4
  try simp only [↓Da, Ua, J1A, J7, J1, J6, *, ↓reduceIte, reduceEqDiff, reduceAdd, reduceLT, reduceMul]
  rcases Ja h with ⟨h5, h⟩ | ⟨h5, h⟩
  ·obtain rfl := sj h
   try simp only [↓Da, Ua, J1A, J7, J1, J6, J48, *, ↓reduceIte, reduceEqDiff, reduceAdd, reduceLT, reduceMul]
   rfl
  ·obtain ⟨m6, h7, h⟩ := bi h
   have f8 : J2Z (.p (.s x0)) none (some (.p (.i .i64 8))) = some (.p (.s m6)) := J4b (k := .i64) (lo := none) (hi := (some 8)) h7
   try simp only [Nf] at f8
   obtain ⟨m9, h10, h⟩ := bi h
   have f11 : J2Z (.p (.s x0)) (some (.p (.i .i64 248))) none = some (.p (.s m9)) := J4b (k := .i64) (lo := (some 248)) (hi := none) h10
   try simp only [Nf] at f11
   try simp only [↓Da, Ua, J1A, J7, J1, J6, *, ↓reduceIte, reduceEqDiff, reduceAdd, reduceLT, reduceMul]
   rcases Ja h with ⟨h12, h⟩ | ⟨h12, h⟩
   ·obtain ⟨r13, h14, h⟩ := bi h
    have f15 := JdP p h14
    try simp only [Nf] at f15
    obtain ⟨m16, h17, h⟩ := bi h
    have f18 : J2Z (.p (.s x0)) none (some (.p (.i .i64 244))) = some (.p (.s m16)) := J4b (k := .i64) (lo := none) (hi := (some 244)) h17
    try simp only [Nf] at f18
    obtain ⟨r19, h20, h⟩ := bi h
    have f21 := Ji9 p h20
    try simp only [Nf] at f21
    try simp only [↓Da, Ua, J1A, J7, J1, J6, *, ↓reduceIte, reduceEqDiff, reduceAdd, reduceLT, reduceMul]
    rcases Ja h with ⟨h22, h⟩ | ⟨h22, h⟩
    ·obtain rfl := sj h
     try simp only [↓Da, Ua, J1A, J7, J1, J6, J48, *, ↓reduceIte, reduceEqDiff, reduceAdd, reduceLT, reduceMul]
     rfl
    ·obtain ⟨r23, h24, h⟩ := bi h
     have f25 := JdP p h24
     try simp only [Nf] at f25
     obtain ⟨r26, h27, h⟩ := bi h
     have f28 := JdP p h27
     try simp only [Nf] at f28
     try simp only [↓Da, Ua, J1A, J7, J1, J6, *, ↓reduceIte, reduceEqDiff, reduceAdd, reduceLT, reduceMul]
     have e0 := Jgh p h
     exact e0
   ·obtain rfl := sj h
    try simp only [↓Da, Ua, J1A, J7, J1, J6, J48, *, ↓reduceIte, reduceEqDiff, reduceAdd, reduceLT, reduceMul]
    rfl
theorem JkS {x0 : List UInt8} {o : T_api_Page × Int} (h : J5j x0 = some o) : AF (J2 p) J6k [.p (.s x0)] [] = J6p o :=
 (J0f (J2 p) (Jlj p) rfl).trans (Jg5 p h)
theorem Jl7 {x0 : List UInt8} {o : T_api_Page × Int} (h : J5j x0 = some o) : ∀ ws new st, (Jj (AF (J2 p)) J6k ([.p (.s x0)], ws) 0 new).run st = some ⟨.tup [.data (J5 o.1), .p (.i .i64 o.2)], ws⟩ := Js rfl (JkS p h) rfl
def J72  (r : Bool) : Option Res := some (.p (.b r), [])
def JjZ (x35 : Int) (b0 : T_api_Image) (o : (Int) ⊕ (Bool)) : Option Res := match o with
 | .inl s => rk (J2 p) J2n 0 [.bl 0, .td 1 [2], .sq (.keep [] J4p)] (X (J2 p) (.lp 1 [1, 35, 36] JX) ⟨[(1, .ptr 0 0), (35, .p (.i .i64 x35)), (36, .p (.i .i64 s))], [.box (List.map AV.p (J3 b0))]⟩)
 | .inr o => J72 o
def Jbg  : Option (Bool) :=
 some true
theorem Jjx {B0 : List PV} {o : Bool} (h : Jbg = some o) :
  rk (J2 p) J2n 0 [] (X (J2 p) J4p ⟨[], [.box (List.map AV.p B0)]⟩) = J72 o := by
 unfold Jbg at h
 obtain rfl := sj h
 try simp only [↓Da, Ua, J4p, J1Y, ↓reduceIte, reduceEqDiff, reduceAdd, reduceLT, reduceMul]
 rfl
def J3v (x35 : Int) (b0 : T_api_Image) (x36 : Int) : Option (((Int) ⊕ (Bool))) :=
 if (decide (x36 < x35)) then
  Option.bind (idx b0.Copies x36) fun y2 =>
  if (decide (y2.Page ≥ b0.Pages)) then
   some (.inr false)
  else
   if (decide (x36 > 0)) then
    Option.bind (idx b0.Copies (IntKind.wrap .i64 (x36 - 1))) fun y7 =>
    if (decide (y7.Page ≥ y2.Page)) then
     some (.inr false)
    else
     Option.bind (J0I y2.Data y2.Page) fun r11 =>
     if ((r11.2 : Int) != 0) then
      some (.inr false)
     else
      if ((r11.1.LSN : Int) != y2.LSN) then
       some (.inr false)
      else
       some (.inl (IntKind.wrap .i64 (x36 + 1)))
   else
    Option.bind (J0I y2.Data y2.Page) fun r16 =>
    if ((r16.2 : Int) != 0) then
     some (.inr false)
    else
     if ((r16.1.LSN : Int) != y2.LSN) then
      some (.inr false)
     else
      some (.inl (IntKind.wrap .i64 (x36 + 1)))
 else
  Option.map (fun o => .inr o) (Jbg)
theorem Jdi {x35 : Int} {b0 : T_api_Image} {x36 : Int} {o : ((Int) ⊕ (Bool))} (h : J3v x35 b0 x36 = some o) :
  rk (J2 p) J2n 0 [.lo 1 [1, 35, 36] JX, .bl 0, .td 1 [2], .sq (.keep [] J4p)] (X (J2 p) JX ⟨[(1, .ptr 0 0), (35, .p (.i .i64 x35)), (36, .p (.i .i64 x36))], [.box (List.map AV.p (J3 b0))]⟩) = (JjZ p x35 b0) o := by
 unfold J3v at h
 rcases Ja h with ⟨h1, h⟩ | ⟨h1, h⟩
 ·obtain ⟨y2, h3, h⟩ := bi h
  have f4 := J2e (r := J4) h3
  try simp only [Nf] at f4
  try simp only [↓Da, Ua, JX, J9, J7, J1, J6, J8, *, ↓reduceIte, reduceEqDiff, reduceAdd, reduceLT, reduceMul]
  rcases Ja h with ⟨h5, h⟩ | ⟨h5, h⟩
  ·obtain rfl := sj h
   try simp only [↓Da, Ua, JX, J9, J7, J1, J6, J8, J1Y, *, ↓reduceIte, reduceEqDiff, reduceAdd, reduceLT, reduceMul]
   rfl
  ·try simp only [↓Da, Ua, JX, J9, J7, J1, J6, J8, *, ↓reduceIte, reduceEqDiff, reduceAdd, reduceLT, reduceMul]
   rcases Ja h with ⟨h6, h⟩ | ⟨h6, h⟩
   ·obtain ⟨y7, h8, h⟩ := bi h
    have f9 := J2e (r := J4) h8
    try simp only [Nf] at f9
    try simp only [↓Da, Ua, JX, J9, J7, J1, J6, J8, *, ↓reduceIte, reduceEqDiff, reduceAdd, reduceLT, reduceMul]
    rcases Ja h with ⟨h10, h⟩ | ⟨h10, h⟩
    ·obtain rfl := sj h
     try simp only [↓Da, Ua, JX, J9, J7, J1, J6, J8, J1Y, *, ↓reduceIte, reduceEqDiff, reduceAdd, reduceLT, reduceMul]
     rfl
    ·obtain ⟨r11, h12, h⟩ := bi h
     have f13 := J96 p h12
     try simp only [Nf] at f13
     try simp only [↓Da, Ua, JX, J9, J7, J1, J6, J8, *, ↓reduceIte, reduceEqDiff, reduceAdd, reduceLT, reduceMul]
     rcases Ja h with ⟨h14, h⟩ | ⟨h14, h⟩
     ·obtain rfl := sj h
      try simp only [↓Da, Ua, JX, J9, J7, J1, J6, J8, J1Y, *, ↓reduceIte, reduceEqDiff, reduceAdd, reduceLT, reduceMul]
      rfl
     ·try simp only [↓Da, Ua, JX, J9, J7, J1, J6, J8, *, ↓reduceIte, reduceEqDiff, reduceAdd, reduceLT, reduceMul]
      rcases Ja h with ⟨h15, h⟩ | ⟨h15, h⟩
      ·obtain rfl := sj h
       try simp only [↓Da, Ua, JX, J9, J7, J1, J6, J8, J1Y, *, ↓reduceIte, reduceEqDiff, reduceAdd, reduceLT, reduceMul]
       rfl
      ·obtain rfl := sj h
       try simp only [↓Da, Ua, JX, J9, J7, J1, J6, J8, *, ↓reduceIte, reduceEqDiff, reduceAdd, reduceLT, reduceMul]
       rfl
   ·obtain ⟨r16, h17, h⟩ := bi h
    have f18 := J96 p h17
    try simp only [Nf] at f18
    try simp only [↓Da, Ua, JX, J9, J7, J1, J6, J8, *, ↓reduceIte, reduceEqDiff, reduceAdd, reduceLT, reduceMul]
    rcases Ja h with ⟨h19, h⟩ | ⟨h19, h⟩
    ·obtain rfl := sj h
     try simp only [↓Da, Ua, JX, J9, J7, J1, J6, J8, J1Y, *, ↓reduceIte, reduceEqDiff, reduceAdd, reduceLT, reduceMul]
     rfl
    ·try simp only [↓Da, Ua, JX, J9, J7, J1, J6, J8, *, ↓reduceIte, reduceEqDiff, reduceAdd, reduceLT, reduceMul]
     rcases Ja h with ⟨h20, h⟩ | ⟨h20, h⟩
     ·obtain rfl := sj h
      try simp only [↓Da, Ua, JX, J9, J7, J1, J6, J8, J1Y, *, ↓reduceIte, reduceEqDiff, reduceAdd, reduceLT, reduceMul]
      rfl
     ·obtain rfl := sj h
      try simp only [↓Da, Ua, JX, J9, J7, J1, J6, J8, *, ↓reduceIte, reduceEqDiff, reduceAdd, reduceLT, reduceMul]
      rfl
 ·obtain ⟨o', h', rfl⟩ := mi h
  try simp only [↓Da, Ua, JX, J9, J7, J1, J6, J8, *, ↓reduceIte, reduceEqDiff, reduceAdd, reduceLT, reduceMul]
  have e0 := Jjx p (B0 := (J3 b0)) h'
  exact e0
def J99 (x35 : Int) (b0 : T_api_Image) (s : Int) : Option (Bool) :=
 Jx (fun s => J3v x35 b0 s) s
theorem Jho {x35 : Int} {b0 : T_api_Image} {s : Int} {o : Bool} (h : J99 x35 b0 s = some o) :
  rk (J2 p) J2n 0 [.bl 0, .td 1 [2], .sq (.keep [] J4p)] (X (J2 p) (.lp 1 [1, 35, 36] JX) ⟨[(1, .ptr 0 0), (35, .p (.i .i64 x35)), (36, .p (.i .i64 s))], [.box (List.map AV.p (J3 b0))]⟩) = J72 o := by
 have h0 : Jx (fun s => J3v x35 b0 s) s = some o := h
 exact J0m (P := fun (s : Int) (o : Bool) => rk (J2 p) J2n 0 [.bl 0, .td 1 [2], .sq (.keep [] J4p)] (X (J2 p) (.lp 1 [1, 35, 36] JX) ⟨[(1, .ptr 0 0), (35, .p (.i .i64 x35)), (36, .p (.i .i64 s))], [.box (List.map AV.p (J3 b0))]⟩) = J72 o) (fun s r hs => by rw [J0k]; exact Jdi p hs) (fun s s1 r hs ih => by rw [J0k]; exact (Jdi p hs).trans ih) h0
def J0u (x0 : T_api_Image) : Option (Bool) :=
 if (decide (x0.ID < 1)) then
  some false
 else
  if (decide (x0.ID > 1073741824)) then
   some false
  else
   if (decide (x0.Pages < 1)) then
    some false
   else
    if (decide (x0.Pages > 64)) then
     some false
    else
     if (decide (((List.length x0.Copies : Nat) : Int) > x0.Pages)) then
      some false
     else
      J99 ((List.length x0.Copies : Nat) : Int) x0 0
theorem Jht {x0 : T_api_Image} {o : Bool} (h : J0u x0 = some o) :
  rk (J2 p) J2n 0 [] (X (J2 p) J1m ⟨[(0, .data (J3 x0))], []⟩) = J72 o := by
 unfold J0u at h
 rcases Ja h with ⟨h1, h⟩ | ⟨h1, h⟩
 ·obtain rfl := sj h
  try simp only [↓Da, Ua, J1m, J9, J8, J1Y, *, ↓reduceIte, reduceEqDiff, reduceAdd, reduceLT, reduceMul]
  rfl
 ·try simp only [↓Da, Ua, J1m, J9, J8, *, ↓reduceIte, reduceEqDiff, reduceAdd, reduceLT, reduceMul]
  rcases Ja h with ⟨h2, h⟩ | ⟨h2, h⟩
  ·obtain rfl := sj h
   try simp only [↓Da, Ua, J1m, J9, J8, J1Y, *, ↓reduceIte, reduceEqDiff, reduceAdd, reduceLT, reduceMul]
   rfl
  ·try simp only [↓Da, Ua, J1m, J9, J8, *, ↓reduceIte, reduceEqDiff, reduceAdd, reduceLT, reduceMul]
   rcases Ja h with ⟨h3, h⟩ | ⟨h3, h⟩
   ·obtain rfl := sj h
    try simp only [↓Da, Ua, J1m, J9, J8, J1Y, *, ↓reduceIte, reduceEqDiff, reduceAdd, reduceLT, reduceMul]
    rfl
   ·try simp only [↓Da, Ua, J1m, J9, J8, *, ↓reduceIte, reduceEqDiff, reduceAdd, reduceLT, reduceMul]
    rcases Ja h with ⟨h4, h⟩ | ⟨h4, h⟩
    ·obtain rfl := sj h
     try simp only [↓Da, Ua, J1m, J9, J8, J1Y, *, ↓reduceIte, reduceEqDiff, reduceAdd, reduceLT, reduceMul]
     rfl
    ·try simp only [↓Da, Ua, J1m, J9, J8, *, ↓reduceIte, reduceEqDiff, reduceAdd, reduceLT, reduceMul]
     rcases Ja h with ⟨h5, h⟩ | ⟨h5, h⟩
     ·obtain rfl := sj h
      try simp only [↓Da, Ua, J1m, J9, J8, J1Y, *, ↓reduceIte, reduceEqDiff, reduceAdd, reduceLT, reduceMul]
      rfl
     ·try simp only [↓Da, Ua, J1m, J9, J8, *, ↓reduceIte, reduceEqDiff, reduceAdd, reduceLT, reduceMul]
      have e0 := Jho p h
      exact e0
theorem Jc0 {x0 : T_api_Image} {o : Bool} (h : J0u x0 = some o) : AF (J2 p) J22 [.data (J3 x0)] [] = J72 o :=
 (J0f (J2 p) (Jm6 p) rfl).trans (Jht p h)
theorem J6S {x0 : T_api_Image} {o : Bool} (h : J0u x0 = some o) : ∀ ws new st, (Jj (AF (J2 p)) J22 ([.data (J3 x0)], ws) 0 new).run st = some ⟨.p (.b o), ws⟩ := Js rfl (Jc0 p h) rfl
def JcD  (r : T_api_Page × Int) : Option Res := some (.tup [.data (J5 r.1), .p (.i .i64 r.2)], [])
def J1s (x0 : List UInt8) (x1 : Int) : Option (T_api_Page × Int) :=
 if (decide (x1 < 0)) then
  some ((⟨0, 0, (Vector.replicate 16 (⟨false, []⟩ : Je))⟩ : T_api_Page), 1)
 else
  if (decide (x1 ≥ 64)) then
   some ((⟨0, 0, (Vector.replicate 16 (⟨false, []⟩ : Je))⟩ : T_api_Page), 1)
  else
   Option.bind (J5j x0) fun r3 =>
   if ((r3.2 : Int) == 7) then
    Option.bind (J8F x1) fun r7 =>
    some (r7, 0)
   else
    if ((r3.2 : Int) == 0) then
     if ((r3.1.ID : Int) != x1) then
      some ((⟨0, 0, (Vector.replicate 16 (⟨false, []⟩ : Je))⟩ : T_api_Page), 6)
     else
      some (r3.1, r3.2)
    else
     some (r3.1, r3.2)
theorem Jeq {x0 : List UInt8} {x1 : Int} {o : T_api_Page × Int} (h : J1s x0 x1 = some o) :
  rk (J2 p) J58 0 [] (X (J2 p) J0x ⟨[(0, .p (.s x0)), (1, .p (.i .i64 x1))], []⟩) = JcD o := by
 unfold J1s at h
 rcases Ja h with ⟨h1, h⟩ | ⟨h1, h⟩
 ·obtain rfl := sj h
  try simp only [↓Da, Ua, J0x, J7, J1, J6, J5l, *, ↓reduceIte, reduceEqDiff, reduceAdd, reduceLT, reduceMul]
  rfl
 ·try simp only [↓Da, Ua, J0x, J7, J1, J6, *, ↓reduceIte, reduceEqDiff, reduceAdd, reduceLT, reduceMul]
  rcases Ja h with ⟨h2, h⟩ | ⟨h2, h⟩
  ·obtain rfl := sj h
   try simp only [↓Da, Ua, J0x, J7, J1, J6, J5l, *, ↓reduceIte, reduceEqDiff, reduceAdd, reduceLT, reduceMul]
   rfl
  ·obtain ⟨r3, h4, h⟩ := bi h
   have f5 := Jl7 p h4
   try simp only [Nf] at f5
   try simp only [↓Da, Ua, J0x, J7, J1, J6, *, ↓reduceIte, reduceEqDiff, reduceAdd, reduceLT, reduceMul]
   rcases Ja h with ⟨h6, h⟩ | ⟨h6, h⟩
   ·have h6n : ((r3.2 : Int) != 7) = false := by rw [bne, h6]; rfl
    obtain ⟨r7, h8, h⟩ := bi h
    have f9 := Jpo p h8
    try simp only [Nf] at f9
    obtain rfl := sj h
    try simp only [↓Da, Ua, J0x, J7, J1, J6, J5l, *, ↓reduceIte, reduceEqDiff, reduceAdd, reduceLT, reduceMul]
    rfl
   ·have h6n : ((r3.2 : Int) != 7) = true := by rw [bne, h6]; rfl
    try simp only [↓Da, Ua, J0x, J7, J1, J6, *, ↓reduceIte, reduceEqDiff, reduceAdd, reduceLT, reduceMul]
    rcases Ja h with ⟨h10, h⟩ | ⟨h10, h⟩
    ·have h10n : ((r3.2 : Int) != 0) = false := by rw [bne, h10]; rfl
     try simp only [↓Da, Ua, J0x, J7, J1, J6, *, ↓reduceIte, reduceEqDiff, reduceAdd, reduceLT, reduceMul]
     rcases Ja h with ⟨h11, h⟩ | ⟨h11, h⟩
     ·obtain rfl := sj h
      try simp only [↓Da, Ua, J0x, J7, J1, J6, J5l, *, ↓reduceIte, reduceEqDiff, reduceAdd, reduceLT, reduceMul]
      rfl
     ·obtain rfl := sj h
      try simp only [↓Da, Ua, J0x, J7, J1, J6, J5l, *, ↓reduceIte, reduceEqDiff, reduceAdd, reduceLT, reduceMul]
      rfl
    ·have h10n : ((r3.2 : Int) != 0) = true := by rw [bne, h10]; rfl
     obtain rfl := sj h
     try simp only [↓Da, Ua, J0x, J7, J1, J6, J5l, *, ↓reduceIte, reduceEqDiff, reduceAdd, reduceLT, reduceMul]
     rfl
theorem JiS {x0 : List UInt8} {x1 : Int} {o : T_api_Page × Int} (h : J1s x0 x1 = some o) : AF (J2 p) J31 [.p (.s x0), .p (.i .i64 x1)] [] = JcD o :=
 (J0f (J2 p) (Jix p) rfl).trans (Jeq p h)
theorem J8k {x0 : List UInt8} {x1 : Int} {o : T_api_Page × Int} (h : J1s x0 x1 = some o) : ∀ ws new st, (Jj (AF (J2 p)) J31 ([.p (.s x0), .p (.i .i64 x1)], ws) 0 new).run st = some ⟨.tup [.data (J5 o.1), .p (.i .i64 o.2)], ws⟩ := Js rfl (JiS p h) rfl
end
end Go.Am
end
section
end
section
namespace Go.Am
set_option maxRecDepth 8000
set_option linter.unusedSimpArgs false
set_option linter.unusedVariables false
noncomputable section
def JcC : List T_api_Copy → List UInt8 → Option (List UInt8)
 | [], s => some s
 | c :: r, s => Option.bind (J0w [] c.Page 2) fun b => Option.bind (J2I b c.Data) fun d => Option.bind (J34 d) fun f =>
  if s.length + f.length ≤ 140737488355328 then JcC r (s ++ f) else none
def J3f (x0 : T_api_Image) : Option (List UInt8 × Int) :=
 Option.bind (J0u x0) fun v =>
 if v then
  Option.bind (J0w [80, 77, 73, 77] x0.ID 4) fun h1 => Option.bind (J0w h1 x0.Pages 2) fun h2 => Option.bind (J0w h2 ((x0.Copies.length : Nat) : Int) 2) fun h3 => Option.bind (J34 h3) fun f =>
  if f.length ≤ 140737488355328 then Option.bind (JcC x0.Copies f) fun s => some (s, 0) else none
 else some ([], 43)
theorem Jq4 {α β : Type} {r : α → β} (h : ∀ x y, r x = r y → x = y) : ∀ {a b : List α}, a.map r = b.map r → a = b
 | [], [], _ => rfl
 | [], _ :: _, e => by simp at e
 | _ :: _, [], e => by simp at e
 | x :: a, y :: b, e => by
  simp only [List.map_cons, List.cons.injEq] at e
  rw [h x y e.1, Jq4 h e.2]
theorem Jun (x y : T_api_Copy) (h : J4 x = J4 y) : x = y := by
 cases x; cases y
 simp [J4, cat] at h
 simp [h]
theorem JrA (x y : T_api_Image) (h : J3 x = J3 y) : x = y := by
 cases x; cases y
 simp only [J3, cat, List.cons_append, List.nil_append, List.cons.injEq, PV.i.injEq, PV.sl.injEq, true_and, and_true] at h
 obtain ⟨h1, h2, h3⟩ := h
 rw [h1, h2, Jq4 Jun h3]
open Classical in
def JdR : List AV → List Blk → Option Res := fun args blks =>
 if h : ∃ x o, args = [.data (J3 x)] ∧ J3f x = some o then some (.tup [.p (.s (Classical.choose (Classical.choose_spec h)).1), .p (.i .i64 (Classical.choose (Classical.choose_spec h)).2)], blks) else none
theorem JpR {args : List AV} {blks : List Blk} {r : Res} (h : JdR args blks = some r) : ∃ x o, args = [.data (J3 x)] ∧ J3f x = some o ∧ r = (.tup [.p (.s o.1), .p (.i .i64 o.2)], blks) := by
 unfold JdR at h
 split at h
 ·rename_i hx
  injection h with h
  have h2 := Classical.choose_spec (Classical.choose_spec hx)
  exact ⟨_, _, h2.1, h2.2, h.symm⟩
 ·cases h
theorem Jvl {x : T_api_Image} {o : List UInt8 × Int} (blks : List Blk) (h : J3f x = some o) : JdR [.data (J3 x)] blks = some (.tup [.p (.s o.1), .p (.i .i64 o.2)], blks) := by
 cases hr : JdR [.data (J3 x)] blks with
 | some r =>
  obtain ⟨x', o', h1, h2, h3⟩ := JpR hr
  simp only [List.cons.injEq, AV.data.injEq, and_true] at h1
  rw [JrA _ _ h1, h2] at h
  injection h with h
  rw [h3, h]
 | none =>
  unfold JdR at hr
  rw [dif_pos ⟨x, o, rfl, h⟩] at hr
  cases hr
abbrev PS := { p : FuncId → Option (List AV → List Blk → Option Res) // p J1C = some JdR }
theorem Jlf (p : PS) : J2 p J1C = some (.prim JdR) := by
 show Jue (lkF J1C fns) (lkF J1C Jk2) (lkF J1C Jks) (p.1 J1C) = _
 rw [p.2]
 rfl
theorem JkX (p : PS) {x0 : T_api_Image} {o : List UInt8 × Int} (h : J3f x0 = some o) : AF (J2 p) J1C [.data (J3 x0)] [] = some (.tup [.p (.s o.1), .p (.i .i64 o.2)], []) := by
 rw [Jh0 (Jlf p)]
 exact Jvl [] h
end
end Go.Am
end
section
namespace Go.Am
set_option maxRecDepth 8000
set_option maxHeartbeats 4000000
set_option linter.unusedSimpArgs false
set_option linter.unusedVariables false
noncomputable section
variable (p : PS)
def JdF  (r : T_api_Image × Int) : Option Res := some (.tup [.data (J3 r.1), .p (.i .i64 r.2)], [])
def J6X (x1 : Int) (x2 : List UInt8) (x10 b0_0 b0_1 : Int) (b1 : T_api_Image) (b2 : T_api_Page) (l3 : List T_api_Copy) : Option (T_api_Image × Int) :=
 Option.bind (idx l3 x10) fun y1 =>
 Option.bind (some (List.set l3 (Int.toNat x10) (⟨x1, b2.LSN, x2⟩ : T_api_Copy))) fun m5 =>
 some ((⟨b0_0, b0_1, m5⟩ : T_api_Image), 0)
theorem Jfo {x1 : Int} {x2 : List UInt8} {x10 b0_0 b0_1 : Int} {b1 : T_api_Image} {b2 : T_api_Page} {l3 : List T_api_Copy} {o : T_api_Image × Int} (h : J6X x1 x2 x10 b0_0 b0_1 b1 b2 l3 = some o) :
  rk (J2 p) J7t 0 [] (X (J2 p) JbT ⟨[(1, .p (.i .i64 x1)), (2, .p (.s x2)), (3, .ptr 0 0), (6, .ptr 1 0), (8, .ptr 2 0), (10, .p (.i .i64 x10))], [.box [.p (.i .i64 b0_0), .p (.i .i64 b0_1), .slr 3 0 (List.length l3)], .box (List.map AV.p (J3 b1)), .box (List.map AV.p (J5 b2)), .arr true 3 (List.map J4 l3)]⟩) = JdF o := by
 unfold J6X at h
 obtain ⟨y1, h2, h⟩ := bi h
 have f3 := Jes (r := J4) h2
 try simp only [Nf, Jl, J0b, Jm] at f3
 have f4 : (0 ≤ (x10 : Int) ∧ (x10 : Int) < (((List.length l3) : Nat) : Int)) = True := eq_true (by have e0 := Jh5 h2; (try simp only [List.length_cons, List.length_nil, Nat.zero_add] at e0); omega)
 obtain ⟨m5, h6, h⟩ := bi h
 have f7 : List.set (List.map J4 l3) (Int.toNat x10) (J4 (⟨x1, b2.LSN, x2⟩ : T_api_Copy)) = List.map J4 m5 := by
  rw [← Option.some.inj h6, List.map_set]
 try simp only [Nf, Jl, J0b, Jm] at f7
 have g8 : List.length m5 = List.length l3 := by rw [← Option.some.inj h6, List.length_set]
 obtain rfl := sj h
 try simp only [↓Da, Ua, JbT, Jl, J0b, J1, J6, Jm, J9W, *, ↓reduceIte, reduceEqDiff, reduceAdd, reduceLT, reduceMul]
 rfl
def J1y (x0 : T_api_Image) (x1 : Int) (x2 : List UInt8) : Option (T_api_Image × Int) :=
 Option.bind (J0u x0) fun r1 =>
 if r1 then
  if (decide (x1 < 0)) then
   some ((⟨0, 0, ([] : List T_api_Copy)⟩ : T_api_Image), 1)
  else
   if (decide (x1 ≥ x0.Pages)) then
    some ((⟨0, 0, ([] : List T_api_Copy)⟩ : T_api_Image), 1)
   else
    Option.bind (J0I x2 x1) fun r7 =>
    if ((r7.2 : Int) != 0) then
     some ((⟨0, 0, ([] : List T_api_Copy)⟩ : T_api_Image), r7.2)
    else
     Option.bind (J4T x0 x1) fun r11 =>
     Option.bind (J1t x0.Copies) fun r14 =>
     if r11.2 then
      J6X x1 x2 r11.1 x0.ID x0.Pages (⟨0, 0, ([] : List T_api_Copy)⟩ : T_api_Image) r7.1 r14
     else
      Option.bind (J1g r14 r11.1 ([(⟨0, 0, ([] : List UInt8)⟩ : T_api_Copy)] : List T_api_Copy)) fun r18 =>
      J6X x1 x2 r11.1 x0.ID x0.Pages (⟨0, 0, ([] : List T_api_Copy)⟩ : T_api_Image) r7.1 r18
 else
  some ((⟨0, 0, ([] : List T_api_Copy)⟩ : T_api_Image), 43)
theorem Jk3 {x0 : T_api_Image} {x1 : Int} {x2 : List UInt8} {o : T_api_Image × Int} (h : J1y x0 x1 x2 = some o) :
  rk (J2 p) J7t 0 [] (X (J2 p) J1P ⟨[(0, .data (J3 x0)), (1, .p (.i .i64 x1)), (2, .p (.s x2))], []⟩) = JdF o := by
 unfold J1y at h
 obtain ⟨r1, h2, h⟩ := bi h
 have f3 := J6S p h2
 try simp only [Nf, Jl, J0b, Jm] at f3
 try simp only [↓Da, Ua, J1P, Jl, J0b, J1, J6, Jm, *, ↓reduceIte, reduceEqDiff, reduceAdd, reduceLT, reduceMul]
 rcases Ja h with ⟨h4, h⟩ | ⟨h4, h⟩
 ·try simp only [↓Da, Ua, J1P, Jl, J0b, J1, J6, Jm, *, ↓reduceIte, reduceEqDiff, reduceAdd, reduceLT, reduceMul]
  rcases Ja h with ⟨h5, h⟩ | ⟨h5, h⟩
  ·obtain rfl := sj h
   try simp only [↓Da, Ua, J1P, Jl, J0b, J1, J6, Jm, J9W, *, ↓reduceIte, reduceEqDiff, reduceAdd, reduceLT, reduceMul]
   rfl
  ·try simp only [↓Da, Ua, J1P, Jl, J0b, J1, J6, Jm, *, ↓reduceIte, reduceEqDiff, reduceAdd, reduceLT, reduceMul]
   rcases Ja h with ⟨h6, h⟩ | ⟨h6, h⟩
   ·obtain rfl := sj h
    try simp only [↓Da, Ua, J1P, Jl, J0b, J1, J6, Jm, J9W, *, ↓reduceIte, reduceEqDiff, reduceAdd, reduceLT, reduceMul]
    rfl
   ·obtain ⟨r7, h8, h⟩ := bi h
    have f9 := J96 p h8
    try simp only [Nf, Jl, J0b, Jm] at f9
    try simp only [↓Da, Ua, J1P, Jl, J0b, J1, J6, Jm, *, ↓reduceIte, reduceEqDiff, reduceAdd, reduceLT, reduceMul]
    rcases Ja h with ⟨h10, h⟩ | ⟨h10, h⟩
    ·obtain rfl := sj h
     try simp only [↓Da, Ua, J1P, Jl, J0b, J1, J6, Jm, J9W, *, ↓reduceIte, reduceEqDiff, reduceAdd, reduceLT, reduceMul]
     rfl
    ·obtain ⟨r11, h12, h⟩ := bi h
     have f13 := Jfj p h12
     try simp only [Nf, Jl, J0b, Jm] at f13
     obtain ⟨r14, h15, h⟩ := bi h
     have f16 : ∀ ws new s, (Jj (AF (J2 p)) J0O ([.p (.sl 3 (List.map J4 x0.Copies))], ws) 1 new).run s = some ⟨.slr new 0 (List.length r14), ws ++ [(new, .arr true 3 (List.map J4 r14))]⟩ := JqP rfl (Jar p h15)
     try simp only [Nf, Jl, J0b, Jm] at f16
     try simp only [↓Da, Ua, J1P, Jl, J0b, J1, J6, Jm, *, ↓reduceIte, reduceEqDiff, reduceAdd, reduceLT, reduceMul]
     rcases Ja h with ⟨h17, h⟩ | ⟨h17, h⟩
     ·try try rw [h4] at h17
      try simp only [↓Da, Ua, J1P, Jl, J0b, J1, J6, Jm, *, ↓reduceIte, reduceEqDiff, reduceAdd, reduceLT, reduceMul]
      have e0 := Jfo p h
      first | exact e0 | (simp only [*] at e0; exact e0)
     ·try try rw [h4] at h17
      obtain ⟨r18, h19, h⟩ := bi h
      have f20 : ∀ ws new s, (J7x ws 3).run s = some (.arr true 3 (List.map J4 r14)) → (J7x ws 4).run s = some (.arr true 3 (List.map J4 ([(⟨0, 0, ([] : List UInt8)⟩ : T_api_Copy)] : List T_api_Copy))) → (J3N (AF (J2 p)) J1c ([.slr 3 0 (List.length r14), .p (.i .i64 r11.1), .slr 4 0 1], ws) 0 new).run s = some ⟨.slr 3 0 (List.length r18), ws ++ [(3, .arr true 3 (List.map J4 r18)), (4, .arr true 3 (List.map J4 ([(⟨0, 0, ([] : List UInt8)⟩ : T_api_Copy)] : List T_api_Copy)))]⟩ := fun ws new s h1 h2 => JpD rfl rfl (by first | rfl | simp [ren.renL, ren, J3Y]) (J9Y p h19) (fun _ => rfl) ws new s h1 h2
      try simp only [Nf, Jl, J0b, Jm] at f20
      try simp only [↓Da, Ua, J1P, Jl, J0b, J1, J6, Jm, *, ↓reduceIte, reduceEqDiff, reduceAdd, reduceLT, reduceMul]
      have e0 := Jfo p h
      first | exact e0 | (simp only [*] at e0; exact e0)
 ·obtain rfl := sj h
  try simp only [↓Da, Ua, J1P, Jl, J0b, J1, J6, Jm, J9W, *, ↓reduceIte, reduceEqDiff, reduceAdd, reduceLT, reduceMul]
  rfl
theorem Jpd {x0 : T_api_Image} {x1 : Int} {x2 : List UInt8} {o : T_api_Image × Int} (h : J1y x0 x1 x2 = some o) : AF (J2 p) J8J [.data (J3 x0), .p (.i .i64 x1), .p (.s x2)] [] = JdF o :=
 (J0f (J2 p) (Jph p) rfl).trans (Jk3 p h)
theorem JpG {x0 : T_api_Image} {x1 : Int} {x2 : List UInt8} {o : T_api_Image × Int} (h : J1y x0 x1 x2 = some o) : ∀ ws new st, (Jj (AF (J2 p)) J8J ([.data (J3 x0), .p (.i .i64 x1), .p (.s x2)], ws) 0 new).run st = some ⟨.tup [.data (J3 o.1), .p (.i .i64 o.2)], ws⟩ := Js rfl (Jpd p h) rfl
def JgQ  (r : T_api_Copy × Bool) : Option Res := some (.tup [.data (J4 r.1), .p (.b r.2)], [])
def J5y (x0 : T_api_Image) (x1 : Int) : Option (T_api_Copy × Bool) :=
 Option.bind (J0u x0) fun r1 =>
 if r1 then
  if (decide (x1 < 0)) then
   some ((⟨0, 0, ([] : List UInt8)⟩ : T_api_Copy), false)
  else
   if (decide (x1 ≥ x0.Pages)) then
    some ((⟨0, 0, ([] : List UInt8)⟩ : T_api_Copy), false)
   else
    Option.bind (J4T x0 x1) fun r7 =>
    if r7.2 then
     Option.bind (idx x0.Copies r7.1) fun y11 =>
     some (y11, true)
    else
     some ((⟨0, 0, ([] : List UInt8)⟩ : T_api_Copy), false)
 else
  some ((⟨0, 0, ([] : List UInt8)⟩ : T_api_Copy), false)
theorem Jjf {x0 : T_api_Image} {x1 : Int} {o : T_api_Copy × Bool} (h : J5y x0 x1 = some o) :
  rk (J2 p) J7I 0 [] (X (J2 p) J24 ⟨[(0, .data (J3 x0)), (1, .p (.i .i64 x1))], []⟩) = JgQ o := by
 unfold J5y at h
 obtain ⟨r1, h2, h⟩ := bi h
 have f3 := J6S p h2
 try simp only [Nf] at f3
 try simp only [↓Da, Ua, J24, J9, J8, *, ↓reduceIte, reduceEqDiff, reduceAdd, reduceLT, reduceMul]
 rcases Ja h with ⟨h4, h⟩ | ⟨h4, h⟩
 ·try simp only [↓Da, Ua, J24, J9, J8, *, ↓reduceIte, reduceEqDiff, reduceAdd, reduceLT, reduceMul]
  rcases Ja h with ⟨h5, h⟩ | ⟨h5, h⟩
  ·obtain rfl := sj h
   try simp only [↓Da, Ua, J24, J9, J8, J9f, *, ↓reduceIte, reduceEqDiff, reduceAdd, reduceLT, reduceMul]
   rfl
  ·try simp only [↓Da, Ua, J24, J9, J8, *, ↓reduceIte, reduceEqDiff, reduceAdd, reduceLT, reduceMul]
   rcases Ja h with ⟨h6, h⟩ | ⟨h6, h⟩
   ·obtain rfl := sj h
    try simp only [↓Da, Ua, J24, J9, J8, J9f, *, ↓reduceIte, reduceEqDiff, reduceAdd, reduceLT, reduceMul]
    rfl
   ·obtain ⟨r7, h8, h⟩ := bi h
    have f9 := Jfj p h8
    try simp only [Nf] at f9
    try simp only [↓Da, Ua, J24, J9, J8, *, ↓reduceIte, reduceEqDiff, reduceAdd, reduceLT, reduceMul]
    rcases Ja h with ⟨h10, h⟩ | ⟨h10, h⟩
    ·obtain ⟨y11, h12, h⟩ := bi h
     have f13 := J2e (r := J4) h12
     try simp only [Nf] at f13
     obtain rfl := sj h
     try simp only [↓Da, Ua, J24, J9, J8, J9f, *, ↓reduceIte, reduceEqDiff, reduceAdd, reduceLT, reduceMul]
     rfl
    ·obtain rfl := sj h
     try simp only [↓Da, Ua, J24, J9, J8, J9f, *, ↓reduceIte, reduceEqDiff, reduceAdd, reduceLT, reduceMul]
     rfl
 ·obtain rfl := sj h
  try simp only [↓Da, Ua, J24, J9, J8, J9f, *, ↓reduceIte, reduceEqDiff, reduceAdd, reduceLT, reduceMul]
  rfl
theorem Joa {x0 : T_api_Image} {x1 : Int} {o : T_api_Copy × Bool} (h : J5y x0 x1 = some o) : AF (J2 p) J6t [.data (J3 x0), .p (.i .i64 x1)] [] = JgQ o :=
 (J0f (J2 p) (Jnk p) rfl).trans (Jjf p h)
theorem Jgr {x0 : T_api_Image} {x1 : Int} {o : T_api_Copy × Bool} (h : J5y x0 x1 = some o) : ∀ ws new st, (Jj (AF (J2 p)) J6t ([.data (J3 x0), .p (.i .i64 x1)], ws) 0 new).run st = some ⟨.tup [.data (J4 o.1), .p (.b o.2)], ws⟩ := Js rfl (Joa p h) rfl
def Jfh  (r : Bool) : Option Res := some (.p (.b r), [])
def J4Z (x0 : T_api_Image) : Option (Bool) :=
 Option.bind (J0u x0) fun r1 =>
 if r1 then
  some ((((List.length x0.Copies : Nat) : Int) : Int) == x0.Pages)
 else
  some false
theorem Jhw {x0 : T_api_Image} {o : Bool} (h : J4Z x0 = some o) :
  rk (J2 p) J6W 0 [] (X (J2 p) J5N ⟨[(0, .data (J3 x0))], []⟩) = Jfh o := by
 unfold J4Z at h
 obtain ⟨r1, h2, h⟩ := bi h
 have f3 := J6S p h2
 try simp only [Nf] at f3
 try simp only [↓Da, Ua, J5N, J9, J8, *, ↓reduceIte, reduceEqDiff, reduceAdd, reduceLT, reduceMul]
 rcases Ja h with ⟨h4, h⟩ | ⟨h4, h⟩
 ·obtain rfl := sj h
  try simp only [↓Da, Ua, J5N, J9, J8, Jfi, *, ↓reduceIte, reduceEqDiff, reduceAdd, reduceLT, reduceMul]
  rfl
 ·obtain rfl := sj h
  try simp only [↓Da, Ua, J5N, J9, J8, Jfi, *, ↓reduceIte, reduceEqDiff, reduceAdd, reduceLT, reduceMul]
  rfl
theorem JmO {x0 : T_api_Image} {o : Bool} (h : J4Z x0 = some o) : AF (J2 p) J5P [.data (J3 x0)] [] = Jfh o :=
 (J0f (J2 p) (Jn7 p) rfl).trans (Jhw p h)
theorem Jm5 {x0 : T_api_Image} {o : Bool} (h : J4Z x0 = some o) : ∀ ws new st, (Jj (AF (J2 p)) J5P ([.data (J3 x0)], ws) 0 new).run st = some ⟨.p (.b o), ws⟩ := Js rfl (JmO p h) rfl
def J73  (r : Bool) : Option Res := some (.p (.b r), [])
def Jk7 (b0 : T_api_Image) (o : (Int) ⊕ (Bool)) : Option Res := match o with
 | .inl s => rk (J2 p) J2u 0 [.bl 0, .td 1 [2], .sq (.keep [] J4z)] (X (J2 p) (.lp 1 [1, 3] JR) ⟨[(1, .ptr 0 0), (3, .p (.i .i64 s))], [.box (List.map AV.p (J3 b0))]⟩)
 | .inr o => J73 o
def JaY  : Option (Bool) :=
 some true
theorem Jkh {B0 : List PV} {o : Bool} (h : JaY = some o) :
  rk (J2 p) J2u 0 [] (X (J2 p) J4z ⟨[], [.box (List.map AV.p B0)]⟩) = J73 o := by
 unfold JaY at h
 obtain rfl := sj h
 try simp only [↓Da, Ua, J4z, J21, ↓reduceIte, reduceEqDiff, reduceAdd, reduceLT, reduceMul]
 rfl
def J3w (b0 : T_api_Image) (x3 : Int) : Option (((Int) ⊕ (Bool))) :=
 if (decide (x3 < ((List.length b0.Copies : Nat) : Int))) then
  Option.bind (idx b0.Copies x3) fun y2 =>
  if (decide (y2.Page < 0)) then
   some (.inr false)
  else
   if (decide (y2.Page ≥ b0.Pages)) then
    some (.inr false)
   else
    if (decide (x3 > 0)) then
     Option.bind (idx b0.Copies (IntKind.wrap .i64 (x3 - 1))) fun y8 =>
     if (decide (y8.Page ≥ y2.Page)) then
      some (.inr false)
     else
      Option.bind (J1s y2.Data y2.Page) fun r12 =>
      if ((r12.2 : Int) != 0) then
       some (.inr false)
      else
       if ((r12.1.LSN : Int) != y2.LSN) then
        some (.inr false)
       else
        some (.inl (IntKind.wrap .i64 (x3 + 1)))
    else
     Option.bind (J1s y2.Data y2.Page) fun r17 =>
     if ((r17.2 : Int) != 0) then
      some (.inr false)
     else
      if ((r17.1.LSN : Int) != y2.LSN) then
       some (.inr false)
      else
       some (.inl (IntKind.wrap .i64 (x3 + 1)))
 else
  Option.map (fun o => .inr o) (JaY)
theorem Jdw {b0 : T_api_Image} {x3 : Int} {o : ((Int) ⊕ (Bool))} (h : J3w b0 x3 = some o) :
  rk (J2 p) J2u 0 [.lo 1 [1, 3] JR, .bl 0, .td 1 [2], .sq (.keep [] J4z)] (X (J2 p) JR ⟨[(1, .ptr 0 0), (3, .p (.i .i64 x3))], [.box (List.map AV.p (J3 b0))]⟩) = (Jk7 p b0) o := by
 unfold J3w at h
 rcases Ja h with ⟨h1, h⟩ | ⟨h1, h⟩
 ·obtain ⟨y2, h3, h⟩ := bi h
  have f4 := J2e (r := J4) h3
  try simp only [Nf] at f4
  try simp only [↓Da, Ua, JR, J9, J7, J1, J6, J8, *, ↓reduceIte, reduceEqDiff, reduceAdd, reduceLT, reduceMul]
  rcases Ja h with ⟨h5, h⟩ | ⟨h5, h⟩
  ·obtain rfl := sj h
   try simp only [↓Da, Ua, JR, J9, J7, J1, J6, J8, J21, *, ↓reduceIte, reduceEqDiff, reduceAdd, reduceLT, reduceMul]
   rfl
  ·try simp only [↓Da, Ua, JR, J9, J7, J1, J6, J8, *, ↓reduceIte, reduceEqDiff, reduceAdd, reduceLT, reduceMul]
   rcases Ja h with ⟨h6, h⟩ | ⟨h6, h⟩
   ·obtain rfl := sj h
    try simp only [↓Da, Ua, JR, J9, J7, J1, J6, J8, J21, *, ↓reduceIte, reduceEqDiff, reduceAdd, reduceLT, reduceMul]
    rfl
   ·try simp only [↓Da, Ua, JR, J9, J7, J1, J6, J8, *, ↓reduceIte, reduceEqDiff, reduceAdd, reduceLT, reduceMul]
    rcases Ja h with ⟨h7, h⟩ | ⟨h7, h⟩
    ·obtain ⟨y8, h9, h⟩ := bi h
     have f10 := J2e (r := J4) h9
     try simp only [Nf] at f10
     try simp only [↓Da, Ua, JR, J9, J7, J1, J6, J8, *, ↓reduceIte, reduceEqDiff, reduceAdd, reduceLT, reduceMul]
     rcases Ja h with ⟨h11, h⟩ | ⟨h11, h⟩
     ·obtain rfl := sj h
      try simp only [↓Da, Ua, JR, J9, J7, J1, J6, J8, J21, *, ↓reduceIte, reduceEqDiff, reduceAdd, reduceLT, reduceMul]
      rfl
     ·obtain ⟨r12, h13, h⟩ := bi h
      have f14 := J8k p h13
      try simp only [Nf] at f14
      try simp only [↓Da, Ua, JR, J9, J7, J1, J6, J8, *, ↓reduceIte, reduceEqDiff, reduceAdd, reduceLT, reduceMul]
      rcases Ja h with ⟨h15, h⟩ | ⟨h15, h⟩
      ·obtain rfl := sj h
       try simp only [↓Da, Ua, JR, J9, J7, J1, J6, J8, J21, *, ↓reduceIte, reduceEqDiff, reduceAdd, reduceLT, reduceMul]
       rfl
      ·try simp only [↓Da, Ua, JR, J9, J7, J1, J6, J8, *, ↓reduceIte, reduceEqDiff, reduceAdd, reduceLT, reduceMul]
       rcases Ja h with ⟨h16, h⟩ | ⟨h16, h⟩
       ·obtain rfl := sj h
        try simp only [↓Da, Ua, JR, J9, J7, J1, J6, J8, J21, *, ↓reduceIte, reduceEqDiff, reduceAdd, reduceLT, reduceMul]
        rfl
       ·obtain rfl := sj h
        try simp only [↓Da, Ua, JR, J9, J7, J1, J6, J8, *, ↓reduceIte, reduceEqDiff, reduceAdd, reduceLT, reduceMul]
        rfl
    ·obtain ⟨r17, h18, h⟩ := bi h
     have f19 := J8k p h18
     try simp only [Nf] at f19
     try simp only [↓Da, Ua, JR, J9, J7, J1, J6, J8, *, ↓reduceIte, reduceEqDiff, reduceAdd, reduceLT, reduceMul]
     rcases Ja h with ⟨h20, h⟩ | ⟨h20, h⟩
     ·obtain rfl := sj h
      try simp only [↓Da, Ua, JR, J9, J7, J1, J6, J8, J21, *, ↓reduceIte, reduceEqDiff, reduceAdd, reduceLT, reduceMul]
      rfl
     ·try simp only [↓Da, Ua, JR, J9, J7, J1, J6, J8, *, ↓reduceIte, reduceEqDiff, reduceAdd, reduceLT, reduceMul]
      rcases Ja h with ⟨h21, h⟩ | ⟨h21, h⟩
      ·obtain rfl := sj h
       try simp only [↓Da, Ua, JR, J9, J7, J1, J6, J8, J21, *, ↓reduceIte, reduceEqDiff, reduceAdd, reduceLT, reduceMul]
       rfl
      ·obtain rfl := sj h
       try simp only [↓Da, Ua, JR, J9, J7, J1, J6, J8, *, ↓reduceIte, reduceEqDiff, reduceAdd, reduceLT, reduceMul]
       rfl
 ·obtain ⟨o', h', rfl⟩ := mi h
  try simp only [↓Da, Ua, JR, J9, J7, J1, J6, J8, *, ↓reduceIte, reduceEqDiff, reduceAdd, reduceLT, reduceMul]
  have e0 := Jkh p (B0 := (J3 b0)) h'
  exact e0
def J95 (b0 : T_api_Image) (s : Int) : Option (Bool) :=
 Jx (fun s => J3w b0 s) s
theorem Jhn {b0 : T_api_Image} {s : Int} {o : Bool} (h : J95 b0 s = some o) :
  rk (J2 p) J2u 0 [.bl 0, .td 1 [2], .sq (.keep [] J4z)] (X (J2 p) (.lp 1 [1, 3] JR) ⟨[(1, .ptr 0 0), (3, .p (.i .i64 s))], [.box (List.map AV.p (J3 b0))]⟩) = J73 o := by
 have h0 : Jx (fun s => J3w b0 s) s = some o := h
 exact J0m (P := fun (s : Int) (o : Bool) => rk (J2 p) J2u 0 [.bl 0, .td 1 [2], .sq (.keep [] J4z)] (X (J2 p) (.lp 1 [1, 3] JR) ⟨[(1, .ptr 0 0), (3, .p (.i .i64 s))], [.box (List.map AV.p (J3 b0))]⟩) = J73 o) (fun s r hs => by rw [J0k]; exact Jdw p hs) (fun s s1 r hs ih => by rw [J0k]; exact (Jdw p hs).trans ih) h0
def J1Z (x0 : T_api_Image) : Option (Bool) :=
 if (decide (x0.ID < 1)) then
  some false
 else
  if (decide (x0.ID > 1073741824)) then
   some false
  else
   if (decide (x0.Pages < 1)) then
    some false
   else
    if (decide (x0.Pages > 64)) then
     some false
    else
     J95 x0 0
theorem Jhv {x0 : T_api_Image} {o : Bool} (h : J1Z x0 = some o) :
  rk (J2 p) J2u 0 [] (X (J2 p) J1X ⟨[(0, .data (J3 x0))], []⟩) = J73 o := by
 unfold J1Z at h
 rcases Ja h with ⟨h1, h⟩ | ⟨h1, h⟩
 ·obtain rfl := sj h
  try simp only [↓Da, Ua, J1X, J9, J8, J21, *, ↓reduceIte, reduceEqDiff, reduceAdd, reduceLT, reduceMul]
  rfl
 ·try simp only [↓Da, Ua, J1X, J9, J8, *, ↓reduceIte, reduceEqDiff, reduceAdd, reduceLT, reduceMul]
  rcases Ja h with ⟨h2, h⟩ | ⟨h2, h⟩
  ·obtain rfl := sj h
   try simp only [↓Da, Ua, J1X, J9, J8, J21, *, ↓reduceIte, reduceEqDiff, reduceAdd, reduceLT, reduceMul]
   rfl
  ·try simp only [↓Da, Ua, J1X, J9, J8, *, ↓reduceIte, reduceEqDiff, reduceAdd, reduceLT, reduceMul]
   rcases Ja h with ⟨h3, h⟩ | ⟨h3, h⟩
   ·obtain rfl := sj h
    try simp only [↓Da, Ua, J1X, J9, J8, J21, *, ↓reduceIte, reduceEqDiff, reduceAdd, reduceLT, reduceMul]
    rfl
   ·try simp only [↓Da, Ua, J1X, J9, J8, *, ↓reduceIte, reduceEqDiff, reduceAdd, reduceLT, reduceMul]
    rcases Ja h with ⟨h4, h⟩ | ⟨h4, h⟩
    ·obtain rfl := sj h
     try simp only [↓Da, Ua, J1X, J9, J8, J21, *, ↓reduceIte, reduceEqDiff, reduceAdd, reduceLT, reduceMul]
     rfl
    ·try simp only [↓Da, Ua, J1X, J9, J8, *, ↓reduceIte, reduceEqDiff, reduceAdd, reduceLT, reduceMul]
     have e0 := Jhn p h
     exact e0
theorem JmH {x0 : T_api_Image} {o : Bool} (h : J1Z x0 = some o) : AF (J2 p) J2t [.data (J3 x0)] [] = J73 o :=
 (J0f (J2 p) (Jmm p) rfl).trans (Jhv p h)
theorem J8A {x0 : T_api_Image} {o : Bool} (h : J1Z x0 = some o) : ∀ ws new st, (Jj (AF (J2 p)) J2t ([.data (J3 x0)], ws) 0 new).run st = some ⟨.p (.b o), ws⟩ := Js rfl (JmH p h) rfl
def JfB  (r : Bool) : Option Res := some (.p (.b r), [])
def J51 (x0 : T_api_Image) : Option (Bool) :=
 Option.bind (J1Z x0) fun r1 =>
 if r1 then
  some ((((List.length x0.Copies : Nat) : Int) : Int) == x0.Pages)
 else
  some false
theorem Jhk {x0 : T_api_Image} {o : Bool} (h : J51 x0 = some o) :
  rk (J2 p) J6O 0 [] (X (J2 p) J5I ⟨[(0, .data (J3 x0))], []⟩) = JfB o := by
 unfold J51 at h
 obtain ⟨r1, h2, h⟩ := bi h
 have f3 := J8A p h2
 try simp only [Nf] at f3
 try simp only [↓Da, Ua, J5I, J9, J8, *, ↓reduceIte, reduceEqDiff, reduceAdd, reduceLT, reduceMul]
 rcases Ja h with ⟨h4, h⟩ | ⟨h4, h⟩
 ·obtain rfl := sj h
  try simp only [↓Da, Ua, J5I, J9, J8, Jf9, *, ↓reduceIte, reduceEqDiff, reduceAdd, reduceLT, reduceMul]
  rfl
 ·obtain rfl := sj h
  try simp only [↓Da, Ua, J5I, J9, J8, Jf9, *, ↓reduceIte, reduceEqDiff, reduceAdd, reduceLT, reduceMul]
  rfl
theorem Jmf {x0 : T_api_Image} {o : Bool} (h : J51 x0 = some o) : AF (J2 p) J5W [.data (J3 x0)] [] = JfB o :=
 (J0f (J2 p) (JmI p) rfl).trans (Jhk p h)
theorem Jms {x0 : T_api_Image} {o : Bool} (h : J51 x0 = some o) : ∀ ws new st, (Jj (AF (J2 p)) J5W ([.data (J3 x0)], ws) 0 new).run st = some ⟨.p (.b o), ws⟩ := Js rfl (Jmf p h) rfl
def J7s  (r : T_api_Image × Int) : Option Res := some (.tup [.data (J3 r.1), .p (.i .i64 r.2)], [])
def JbR (x1 : Int) (b0 : T_api_Image) (l1 : List T_api_Copy) (b2_0 b2_1 : Int) (b4 : T_api_Copy) (b7_0 b7_1 : Int) (B3 : List PV) (B6 : List (List PV)) (w1 w5 w6 : Bool) (o : (Bool × Int × (List T_api_Copy)) ⊕ (T_api_Image × Int)) : Option Res := match o with
 | .inl s => rk (J2 p) J27 0 [.bl 0, .sq (.keep [6, 10, 11, 12] J33)] (X (J2 p) (.lp 8 [1, 3, 6, 10, 11, 12, 13] J1o) ⟨[(1, .p (.i .i64 x1)), (3, .ptr 0 0), (6, .ptr 2 0), (10, .ptr 4 0), (11, .ptr 7 0), (12, .p (.b s.1)), (13, .p (.i .i64 s.2.1))], [.box (List.map AV.p (J3 b0)), .arr w1 3 (List.map J4 l1), .box [.p (.i .i64 b2_0), .p (.i .i64 b2_1), .slr 1 0 (List.length l1)], .box (List.map AV.p B3), .box (List.map AV.p (J4 b4)), .arr w5 3 (List.map J4 s.2.2), .arr w6 3 B6, .box [.p (.i .i64 b7_0), .p (.i .i64 b7_1), .slr 5 0 (List.length s.2.2)]]⟩)
 | .inr o => J7s o
def J4S (x1 : Int) (x12 : Bool) (x13 : Int) (b0 : T_api_Image) (l1 : List T_api_Copy) (b2_0 b2_1 : Int) (b4 : T_api_Copy) (l5 : List T_api_Copy) (b7_0 b7_1 : Int) : Option (((Bool × Int × (List T_api_Copy)) ⊕ (T_api_Image × Int))) :=
 some (.inl (x12, (IntKind.wrap .i64 (x13 + 1)), l5))
theorem Jft {x1 : Int} {x12 : Bool} {x13 : Int} {b0 : T_api_Image} {l1 : List T_api_Copy} {b2_0 b2_1 : Int} {b4 : T_api_Copy} {l5 : List T_api_Copy} {b7_0 b7_1 : Int} {w1 : Bool} {B3 : List PV} {w5 : Bool} {B6 : List (List PV)} {w6 : Bool} {o : ((Bool × Int × (List T_api_Copy)) ⊕ (T_api_Image × Int))} (h : J4S x1 x12 x13 b0 l1 b2_0 b2_1 b4 l5 b7_0 b7_1 = some o) :
  rk (J2 p) J27 0 [.lo 8 [1, 3, 6, 10, 11, 12, 13] J1o, .bl 0, .sq (.keep [6, 10, 11, 12] J33)] (X (J2 p) Jae ⟨[(1, .p (.i .i64 x1)), (3, .ptr 0 0), (6, .ptr 2 0), (10, .ptr 4 0), (11, .ptr 7 0), (12, .p (.b x12)), (13, .p (.i .i64 x13))], [.box (List.map AV.p (J3 b0)), .arr w1 3 (List.map J4 l1), .box [.p (.i .i64 b2_0), .p (.i .i64 b2_1), .slr 1 0 (List.length l1)], .box (List.map AV.p B3), .box (List.map AV.p (J4 b4)), .arr w5 3 (List.map J4 l5), .arr w6 3 B6, .box [.p (.i .i64 b7_0), .p (.i .i64 b7_1), .slr 5 0 (List.length l5)]]⟩) = (JbR p x1 b0 l1 b2_0 b2_1 b4 b7_0 b7_1 B3 B6 w1 w5 w6) o := by
 unfold J4S at h
 obtain rfl := sj h
 try simp only [↓Da, Ua, Jae, ↓reduceIte, reduceEqDiff, reduceAdd, reduceLT, reduceMul]
 rfl
def J4Q (x1 : Int) (x12 : Bool) (x13 : Int) (b0 : T_api_Image) (l1 : List T_api_Copy) (b2_0 b2_1 : Int) (b4 : T_api_Copy) (l5 : List T_api_Copy) (b7_0 b7_1 : Int) : Option (((Bool × Int × (List T_api_Copy)) ⊕ (T_api_Image × Int))) :=
 Option.bind (idx b0.Copies x13) fun y1 =>
 if ((y1.Page : Int) != x1) then
  Option.bind (JdS 32 l5 ([y1] : List T_api_Copy)) fun m5 =>
  J4S x1 x12 x13 b0 l1 b2_0 b2_1 b4 m5 b7_0 b7_1
 else
  J4S x1 x12 x13 b0 l1 b2_0 b2_1 b4 l5 b7_0 b7_1
theorem Jca {x1 : Int} {x12 : Bool} {x13 : Int} {b0 : T_api_Image} {l1 : List T_api_Copy} {b2_0 b2_1 : Int} {b4 : T_api_Copy} {l5 : List T_api_Copy} {b7_0 b7_1 : Int} {w1 : Bool} {B3 : List PV} {w5 : Bool} {B6 : List (List PV)} {w6 : Bool} {o : ((Bool × Int × (List T_api_Copy)) ⊕ (T_api_Image × Int))} (h : J4Q x1 x12 x13 b0 l1 b2_0 b2_1 b4 l5 b7_0 b7_1 = some o) :
  rk (J2 p) J27 0 [.bl 1, .sq (.keep [1, 3, 6, 10, 11, 12, 13] Jae), .lo 8 [1, 3, 6, 10, 11, 12, 13] J1o, .bl 0, .sq (.keep [6, 10, 11, 12] J33)] (X (J2 p) J8r ⟨[(1, .p (.i .i64 x1)), (3, .ptr 0 0), (6, .ptr 2 0), (10, .ptr 4 0), (11, .ptr 7 0), (12, .p (.b x12)), (13, .p (.i .i64 x13))], [.box (List.map AV.p (J3 b0)), .arr w1 3 (List.map J4 l1), .box [.p (.i .i64 b2_0), .p (.i .i64 b2_1), .slr 1 0 (List.length l1)], .box (List.map AV.p B3), .box (List.map AV.p (J4 b4)), .arr w5 3 (List.map J4 l5), .arr w6 3 B6, .box [.p (.i .i64 b7_0), .p (.i .i64 b7_1), .slr 5 0 (List.length l5)]]⟩) = (JbR p x1 b0 l1 b2_0 b2_1 b4 b7_0 b7_1 B3 B6 w1 w5 w6) o := by
 unfold J4Q at h
 obtain ⟨y1, h2, h⟩ := bi h
 have f3 := J2e (r := J4) h2
 try simp only [Nf, Jl, Jm] at f3
 try simp only [↓Da, Ua, Ra, J8r, Jl, Jm, *, ↓reduceIte, reduceEqDiff, reduceAdd, reduceLT, reduceMul, Nat.reduceBEq]
 rcases Ja h with ⟨h4, h⟩ | ⟨h4, h⟩
 ·obtain ⟨m5, h6, h⟩ := bi h
  have f7 : ∀ s : St, s.sto[5]? = some (.arr w5 3 (List.map J4 l5)) → (J0a 3 (.p (.sl 3 (List.map J4 ([y1] : List T_api_Copy))))).run s = some (List.map J4 ([y1] : List T_api_Copy)) → (J5e 3 32 (.slr 5 0 (List.length l5)) (.p (.sl 3 (List.map J4 ([y1] : List T_api_Copy))))).run s = some ⟨.slr 5 0 (List.length m5), [(5, .arr w5 3 (List.map J4 m5))]⟩ := by
   intro s e1 e2; have e3 := Jh2 h6 e1 e2; try simp only [List.length_cons, List.length_nil, Nat.zero_add] at e3
   exact e3
  try simp only [Nf, Jl, Jm] at f7
  try simp only [↓Da, Ua, Ra, J8r, Jl, Jm, *, ↓reduceIte, reduceEqDiff, reduceAdd, reduceLT, reduceMul, Nat.reduceBEq]
  have e0 := Jft p (w1 := w1) (B3 := B3) (w5 := w5) (w6 := w6) (B6 := B6) h
  exact e0
 ·try simp only [↓Da, Ua, Ra, J8r, Jl, Jm, *, ↓reduceIte, reduceEqDiff, reduceAdd, reduceLT, reduceMul, Nat.reduceBEq]
  have e0 := Jft p (w1 := w1) (B3 := B3) (w5 := w5) (w6 := w6) (B6 := B6) h
  exact e0
def Jaj (l1 : List T_api_Copy) (b2_0 b2_1 : Int) (l5 : List T_api_Copy) (b7_0 b7_1 : Int) : Option (T_api_Image × Int) :=
 some ((⟨b7_0, b7_1, l5⟩ : T_api_Image), 0)
theorem Jfc {l1 : List T_api_Copy} {b2_0 b2_1 : Int} {l5 : List T_api_Copy} {b7_0 b7_1 : Int} {B0 : List PV} {w1 : Bool} {B3 B4 : List PV} {w5 : Bool} {B6 : List (List PV)} {w6 : Bool} {o : T_api_Image × Int} (h : Jaj l1 b2_0 b2_1 l5 b7_0 b7_1 = some o) :
  rk (J2 p) J27 0 [] (X (J2 p) JbY ⟨[(6, .ptr 2 0), (11, .ptr 7 0)], [.box (List.map AV.p B0), .arr w1 3 (List.map J4 l1), .box [.p (.i .i64 b2_0), .p (.i .i64 b2_1), .slr 1 0 (List.length l1)], .box (List.map AV.p B3), .box (List.map AV.p B4), .arr w5 3 (List.map J4 l5), .arr w6 3 B6, .box [.p (.i .i64 b7_0), .p (.i .i64 b7_1), .slr 5 0 (List.length l5)]]⟩) = J7s o := by
 unfold Jaj at h
 obtain rfl := sj h
 try simp only [↓Da, Ua, JbY, Jl, Jm, J9U, ↓reduceIte, reduceEqDiff, reduceAdd, reduceLT, reduceMul]
 rfl
def Jac (x12 : Bool) (l1 : List T_api_Copy) (b2_0 b2_1 : Int) (b4 : T_api_Copy) (l5 : List T_api_Copy) (b7_0 b7_1 : Int) : Option (T_api_Image × Int) :=
 if x12 then
  Jaj l1 b2_0 b2_1 l5 b7_0 b7_1
 else
  Option.bind (JdS 32 l5 ([b4] : List T_api_Copy)) fun m2 =>
  Jaj l1 b2_0 b2_1 m2 b7_0 b7_1
theorem JmN {x12 : Bool} {l1 : List T_api_Copy} {b2_0 b2_1 : Int} {b4 : T_api_Copy} {l5 : List T_api_Copy} {b7_0 b7_1 : Int} {B0 : List PV} {w1 : Bool} {B3 : List PV} {w5 : Bool} {B6 : List (List PV)} {w6 : Bool} {o : T_api_Image × Int} (h : Jac x12 l1 b2_0 b2_1 b4 l5 b7_0 b7_1 = some o) :
  rk (J2 p) J27 0 [] (X (J2 p) J33 ⟨[(6, .ptr 2 0), (10, .ptr 4 0), (11, .ptr 7 0), (12, .p (.b x12))], [.box (List.map AV.p B0), .arr w1 3 (List.map J4 l1), .box [.p (.i .i64 b2_0), .p (.i .i64 b2_1), .slr 1 0 (List.length l1)], .box (List.map AV.p B3), .box (List.map AV.p (J4 b4)), .arr w5 3 (List.map J4 l5), .arr w6 3 B6, .box [.p (.i .i64 b7_0), .p (.i .i64 b7_1), .slr 5 0 (List.length l5)]]⟩) = J7s o := by
 unfold Jac at h
 rcases Ja h with ⟨h1, h⟩ | ⟨h1, h⟩
 ·try simp only [↓Da, Ua, J33, Jl, Jm, *, ↓reduceIte, reduceEqDiff, reduceAdd, reduceLT, reduceMul]
  have e0 := Jfc p (B0 := B0) (w1 := w1) (B3 := B3) (B4 := (J4 b4)) (w5 := w5) (w6 := w6) (B6 := B6) h
  exact e0
 ·obtain ⟨m2, h3, h⟩ := bi h
  have f4 : ∀ s : St, s.sto[5]? = some (.arr w5 3 (List.map J4 l5)) → (J0a 3 (.p (.sl 3 (List.map J4 ([b4] : List T_api_Copy))))).run s = some (List.map J4 ([b4] : List T_api_Copy)) → (J5e 3 32 (.slr 5 0 (List.length l5)) (.p (.sl 3 (List.map J4 ([b4] : List T_api_Copy))))).run s = some ⟨.slr 5 0 (List.length m2), [(5, .arr w5 3 (List.map J4 m2))]⟩ := by
   intro s e1 e2; have e3 := Jh2 h3 e1 e2; try simp only [List.length_cons, List.length_nil, Nat.zero_add] at e3
   exact e3
  try simp only [Nf, Jl, Jm] at f4
  try simp only [↓Da, Ua, J33, Jl, Jm, *, ↓reduceIte, reduceEqDiff, reduceAdd, reduceLT, reduceMul]
  have e0 := Jfc p (B0 := B0) (w1 := w1) (B3 := B3) (B4 := (J4 b4)) (w5 := w5) (w6 := w6) (B6 := B6) h
  exact e0
def J8w (x1 : Int) (b0 : T_api_Image) (l1 : List T_api_Copy) (b2_0 b2_1 : Int) (b4 : T_api_Copy) (b7_0 b7_1 : Int) (x12 : Bool) (x13 : Int) (l5 : List T_api_Copy) : Option (((Bool × Int × (List T_api_Copy)) ⊕ (T_api_Image × Int))) :=
 if (decide (x13 < ((List.length b0.Copies : Nat) : Int))) then
  if x12 then
   J4Q x1 true x13 b0 l1 b2_0 b2_1 b4 l5 b7_0 b7_1
  else
   Option.bind (idx b0.Copies x13) fun y3 =>
   if (decide (y3.Page ≥ x1)) then
    Option.bind (JdS 32 l5 ([b4] : List T_api_Copy)) fun m7 =>
    J4Q x1 true x13 b0 l1 b2_0 b2_1 b4 m7 b7_0 b7_1
   else
    J4Q x1 false x13 b0 l1 b2_0 b2_1 b4 l5 b7_0 b7_1
 else
  Option.map (fun o => .inr o) (Jac x12 l1 b2_0 b2_1 b4 l5 b7_0 b7_1)
theorem Jfv {x1 : Int} {b0 : T_api_Image} {l1 : List T_api_Copy} {b2_0 b2_1 : Int} {b4 : T_api_Copy} {b7_0 b7_1 : Int} {x12 : Bool} {x13 : Int} {l5 : List T_api_Copy} {w1 : Bool} {B3 : List PV} {w5 : Bool} {B6 : List (List PV)} {w6 : Bool} {o : ((Bool × Int × (List T_api_Copy)) ⊕ (T_api_Image × Int))} (h : J8w x1 b0 l1 b2_0 b2_1 b4 b7_0 b7_1 x12 x13 l5 = some o) :
  rk (J2 p) J27 0 [.lo 8 [1, 3, 6, 10, 11, 12, 13] J1o, .bl 0, .sq (.keep [6, 10, 11, 12] J33)] (X (J2 p) J1o ⟨[(1, .p (.i .i64 x1)), (3, .ptr 0 0), (6, .ptr 2 0), (10, .ptr 4 0), (11, .ptr 7 0), (12, .p (.b x12)), (13, .p (.i .i64 x13))], [.box (List.map AV.p (J3 b0)), .arr w1 3 (List.map J4 l1), .box [.p (.i .i64 b2_0), .p (.i .i64 b2_1), .slr 1 0 (List.length l1)], .box (List.map AV.p B3), .box (List.map AV.p (J4 b4)), .arr w5 3 (List.map J4 l5), .arr w6 3 B6, .box [.p (.i .i64 b7_0), .p (.i .i64 b7_1), .slr 5 0 (List.length l5)]]⟩) = (JbR p x1 b0 l1 b2_0 b2_1 b4 b7_0 b7_1 B3 B6 w1 w5 w6) o := by
 unfold J8w at h
 rcases Ja h with ⟨h1, h⟩ | ⟨h1, h⟩
 ·try simp only [↓Da, Ua, J1o, Jl, Jm, *, ↓reduceIte, reduceEqDiff, reduceAdd, reduceLT, reduceMul]
  rcases Ja h with ⟨h2, h⟩ | ⟨h2, h⟩
  ·try simp only [↓Da, Ua, J1o, Jl, Jm, *, ↓reduceIte, reduceEqDiff, reduceAdd, reduceLT, reduceMul]
   have e0 := Jca p (w1 := w1) (B3 := B3) (w5 := w5) (w6 := w6) (B6 := B6) h
   exact e0
  ·obtain ⟨y3, h4, h⟩ := bi h
   have f5 := J2e (r := J4) h4
   try simp only [Nf, Jl, Jm] at f5
   try simp only [↓Da, Ua, J1o, Jl, Jm, *, ↓reduceIte, reduceEqDiff, reduceAdd, reduceLT, reduceMul]
   rcases Ja h with ⟨h6, h⟩ | ⟨h6, h⟩
   ·obtain ⟨m7, h8, h⟩ := bi h
    have f9 : ∀ s : St, s.sto[5]? = some (.arr w5 3 (List.map J4 l5)) → (J0a 3 (.p (.sl 3 (List.map J4 ([b4] : List T_api_Copy))))).run s = some (List.map J4 ([b4] : List T_api_Copy)) → (J5e 3 32 (.slr 5 0 (List.length l5)) (.p (.sl 3 (List.map J4 ([b4] : List T_api_Copy))))).run s = some ⟨.slr 5 0 (List.length m7), [(5, .arr w5 3 (List.map J4 m7))]⟩ := by
     intro s e1 e2; have e3 := Jh2 h8 e1 e2; try simp only [List.length_cons, List.length_nil, Nat.zero_add] at e3
     exact e3
    try simp only [Nf, Jl, Jm] at f9
    try simp only [↓Da, Ua, J1o, Jl, Jm, *, ↓reduceIte, reduceEqDiff, reduceAdd, reduceLT, reduceMul]
    have e0 := Jca p (w1 := w1) (B3 := B3) (w5 := w5) (w6 := w6) (B6 := B6) h
    exact e0
   ·try simp only [↓Da, Ua, J1o, Jl, Jm, *, ↓reduceIte, reduceEqDiff, reduceAdd, reduceLT, reduceMul]
    have e0 := Jca p (w1 := w1) (B3 := B3) (w5 := w5) (w6 := w6) (B6 := B6) h
    exact e0
 ·obtain ⟨o', h', rfl⟩ := mi h
  try simp only [↓Da, Ua, J1o, Jl, Jm, *, ↓reduceIte, reduceEqDiff, reduceAdd, reduceLT, reduceMul]
  have e0 := JmN p (B0 := (J3 b0)) (w1 := w1) (B3 := B3) (w5 := w5) (w6 := w6) (B6 := B6) h'
  exact e0
def Ja9 (x1 : Int) (b0 : T_api_Image) (l1 : List T_api_Copy) (b2_0 b2_1 : Int) (b4 : T_api_Copy) (b7_0 b7_1 : Int) (s : Bool × Int × (List T_api_Copy)) : Option (T_api_Image × Int) :=
 Jx (fun s => J8w x1 b0 l1 b2_0 b2_1 b4 b7_0 b7_1 s.1 s.2.1 s.2.2) s
theorem Jjz {x1 : Int} {b0 : T_api_Image} {l1 : List T_api_Copy} {b2_0 b2_1 : Int} {b4 : T_api_Copy} {b7_0 b7_1 : Int} {w1 : Bool} {B3 : List PV} {w5 : Bool} {B6 : List (List PV)} {w6 : Bool} {s : Bool × Int × (List T_api_Copy)} {o : T_api_Image × Int} (h : Ja9 x1 b0 l1 b2_0 b2_1 b4 b7_0 b7_1 s = some o) :
  rk (J2 p) J27 0 [.bl 0, .sq (.keep [6, 10, 11, 12] J33)] (X (J2 p) (.lp 8 [1, 3, 6, 10, 11, 12, 13] J1o) ⟨[(1, .p (.i .i64 x1)), (3, .ptr 0 0), (6, .ptr 2 0), (10, .ptr 4 0), (11, .ptr 7 0), (12, .p (.b s.1)), (13, .p (.i .i64 s.2.1))], [.box (List.map AV.p (J3 b0)), .arr w1 3 (List.map J4 l1), .box [.p (.i .i64 b2_0), .p (.i .i64 b2_1), .slr 1 0 (List.length l1)], .box (List.map AV.p B3), .box (List.map AV.p (J4 b4)), .arr w5 3 (List.map J4 s.2.2), .arr w6 3 B6, .box [.p (.i .i64 b7_0), .p (.i .i64 b7_1), .slr 5 0 (List.length s.2.2)]]⟩) = J7s o := by
 have h0 : Jx (fun s => J8w x1 b0 l1 b2_0 b2_1 b4 b7_0 b7_1 s.1 s.2.1 s.2.2) s = some o := h
 exact J0m (P := fun (s : Bool × Int × (List T_api_Copy)) (o : T_api_Image × Int) => rk (J2 p) J27 0 [.bl 0, .sq (.keep [6, 10, 11, 12] J33)] (X (J2 p) (.lp 8 [1, 3, 6, 10, 11, 12, 13] J1o) ⟨[(1, .p (.i .i64 x1)), (3, .ptr 0 0), (6, .ptr 2 0), (10, .ptr 4 0), (11, .ptr 7 0), (12, .p (.b s.1)), (13, .p (.i .i64 s.2.1))], [.box (List.map AV.p (J3 b0)), .arr w1 3 (List.map J4 l1), .box [.p (.i .i64 b2_0), .p (.i .i64 b2_1), .slr 1 0 (List.length l1)], .box (List.map AV.p B3), .box (List.map AV.p (J4 b4)), .arr w5 3 (List.map J4 s.2.2), .arr w6 3 B6, .box [.p (.i .i64 b7_0), .p (.i .i64 b7_1), .slr 5 0 (List.length s.2.2)]]⟩) = J7s o) (fun s r hs => by rw [J0k]; exact Jfv p hs) (fun s s1 r hs ih => by rw [J0k]; exact (Jfv p hs).trans ih) h0
def J29 (x0 : T_api_Image) (x1 : Int) (x2 : List UInt8) : Option (T_api_Image × Int) :=
 Option.bind (J1Z x0) fun r1 =>
 if r1 then
  if (decide (x1 < 0)) then
   some ((⟨0, 0, ([] : List T_api_Copy)⟩ : T_api_Image), 1)
  else
   if (decide (x1 ≥ x0.Pages)) then
    some ((⟨0, 0, ([] : List T_api_Copy)⟩ : T_api_Image), 1)
   else
    Option.bind (J1s x2 x1) fun r7 =>
    if ((r7.2 : Int) != 0) then
     some ((⟨0, 0, ([] : List T_api_Copy)⟩ : T_api_Image), r7.2)
    else
     Ja9 x1 x0 ([] : List T_api_Copy) 0 0 (⟨x1, r7.1.LSN, x2⟩ : T_api_Copy) x0.ID x0.Pages (false, 0, ([] : List T_api_Copy))
 else
  some ((⟨0, 0, ([] : List T_api_Copy)⟩ : T_api_Image), 43)
theorem Jkb {x0 : T_api_Image} {x1 : Int} {x2 : List UInt8} {o : T_api_Image × Int} (h : J29 x0 x1 x2 = some o) :
  rk (J2 p) J27 0 [] (X (J2 p) J2A ⟨[(0, .data (J3 x0)), (1, .p (.i .i64 x1)), (2, .p (.s x2))], []⟩) = J7s o := by
 unfold J29 at h
 obtain ⟨r1, h2, h⟩ := bi h
 have f3 := J8A p h2
 try simp only [Nf, Jl, J0b, Jm] at f3
 try simp only [↓Da, Ua, J2A, Jl, J0b, J1, J6, Jm, *, ↓reduceIte, reduceEqDiff, reduceAdd, reduceLT, reduceMul]
 rcases Ja h with ⟨h4, h⟩ | ⟨h4, h⟩
 ·try simp only [↓Da, Ua, J2A, Jl, J0b, J1, J6, Jm, *, ↓reduceIte, reduceEqDiff, reduceAdd, reduceLT, reduceMul]
  rcases Ja h with ⟨h5, h⟩ | ⟨h5, h⟩
  ·obtain rfl := sj h
   try simp only [↓Da, Ua, J2A, Jl, J0b, J1, J6, Jm, J9U, *, ↓reduceIte, reduceEqDiff, reduceAdd, reduceLT, reduceMul]
   rfl
  ·try simp only [↓Da, Ua, J2A, Jl, J0b, J1, J6, Jm, *, ↓reduceIte, reduceEqDiff, reduceAdd, reduceLT, reduceMul]
   rcases Ja h with ⟨h6, h⟩ | ⟨h6, h⟩
   ·obtain rfl := sj h
    try simp only [↓Da, Ua, J2A, Jl, J0b, J1, J6, Jm, J9U, *, ↓reduceIte, reduceEqDiff, reduceAdd, reduceLT, reduceMul]
    rfl
   ·obtain ⟨r7, h8, h⟩ := bi h
    have f9 := J8k p h8
    try simp only [Nf, Jl, J0b, Jm] at f9
    try simp only [↓Da, Ua, J2A, Jl, J0b, J1, J6, Jm, *, ↓reduceIte, reduceEqDiff, reduceAdd, reduceLT, reduceMul]
    rcases Ja h with ⟨h10, h⟩ | ⟨h10, h⟩
    ·obtain rfl := sj h
     try simp only [↓Da, Ua, J2A, Jl, J0b, J1, J6, Jm, J9U, *, ↓reduceIte, reduceEqDiff, reduceAdd, reduceLT, reduceMul]
     rfl
    ·try simp only [↓Da, Ua, J2A, Jl, J0b, J1, J6, Jm, *, ↓reduceIte, reduceEqDiff, reduceAdd, reduceLT, reduceMul]
     have e0 := Jjz p (w1 := true) (B3 := (J5 r7.1)) (w5 := true) (w6 := true) (B6 := (List.map J4 ([] : List T_api_Copy))) h
     exact e0
 ·obtain rfl := sj h
  try simp only [↓Da, Ua, J2A, Jl, J0b, J1, J6, Jm, J9U, *, ↓reduceIte, reduceEqDiff, reduceAdd, reduceLT, reduceMul]
  rfl
theorem JpL {x0 : T_api_Image} {x1 : Int} {x2 : List UInt8} {o : T_api_Image × Int} (h : J29 x0 x1 x2 = some o) : AF (J2 p) J6h [.data (J3 x0), .p (.i .i64 x1), .p (.s x2)] [] = J7s o :=
 (J0f (J2 p) (Jp3 p) rfl).trans (Jkb p h)
theorem Ji6 {x0 : T_api_Image} {x1 : Int} {x2 : List UInt8} {o : T_api_Image × Int} (h : J29 x0 x1 x2 = some o) : ∀ ws new st, (Jj (AF (J2 p)) J6h ([.data (J3 x0), .p (.i .i64 x1), .p (.s x2)], ws) 0 new).run st = some ⟨.tup [.data (J3 o.1), .p (.i .i64 o.2)], ws⟩ := Js rfl (JpL p h) rfl
def J83  (r : T_api_Copy × Bool) : Option Res := some (.tup [.data (J4 r.1), .p (.b r.2)], [])
def JkN (x1 : Int) (b0 : T_api_Image) (b1 : T_api_Copy) (o : (Int) ⊕ (T_api_Copy × Bool)) : Option Res := match o with
 | .inl s => rk (J2 p) J2R 0 [.bl 0, .sq (.keep [4] J5d)] (X (J2 p) (.lp 2 [1, 2, 4, 6] J1D) ⟨[(1, .p (.i .i64 x1)), (2, .ptr 0 0), (4, .ptr 1 0), (6, .p (.i .i64 s))], [.box (List.map AV.p (J3 b0)), .box (List.map AV.p (J4 b1))]⟩)
 | .inr o => J83 o
def J9H (b1 : T_api_Copy) : Option (T_api_Copy × Bool) :=
 some ((⟨0, 0, ([] : List UInt8)⟩ : T_api_Copy), false)
theorem Je8 {b1 : T_api_Copy} {B0 : List PV} {o : T_api_Copy × Bool} (h : J9H b1 = some o) :
  rk (J2 p) J2R 0 [] (X (J2 p) J5d ⟨[(4, .ptr 1 0)], [.box (List.map AV.p B0), .box (List.map AV.p (J4 b1))]⟩) = J83 o := by
 unfold J9H at h
 obtain rfl := sj h
 try simp only [↓Da, Ua, J5d, J8, Jgw, ↓reduceIte, reduceEqDiff, reduceAdd, reduceLT, reduceMul]
 rfl
def J44 (x1 : Int) (b0 : T_api_Image) (b1 : T_api_Copy) (x6 : Int) : Option (((Int) ⊕ (T_api_Copy × Bool))) :=
 if (decide (x6 < ((List.length b0.Copies : Nat) : Int))) then
  Option.bind (J1Z b0) fun r2 =>
  if r2 then
   Option.bind (idx b0.Copies x6) fun y6 =>
   if ((y6.Page : Int) == x1) then
    some (.inr (y6, true))
   else
    some (.inl (IntKind.wrap .i64 (x6 + 1)))
  else
   Option.map (fun o => .inr o) (J9H b1)
 else
  Option.map (fun o => .inr o) (J9H b1)
theorem Jei {x1 : Int} {b0 : T_api_Image} {b1 : T_api_Copy} {x6 : Int} {o : ((Int) ⊕ (T_api_Copy × Bool))} (h : J44 x1 b0 b1 x6 = some o) :
  rk (J2 p) J2R 0 [.lo 2 [1, 2, 4, 6] J1D, .bl 0, .sq (.keep [4] J5d)] (X (J2 p) J1D ⟨[(1, .p (.i .i64 x1)), (2, .ptr 0 0), (4, .ptr 1 0), (6, .p (.i .i64 x6))], [.box (List.map AV.p (J3 b0)), .box (List.map AV.p (J4 b1))]⟩) = (JkN p x1 b0 b1) o := by
 unfold J44 at h
 rcases Ja h with ⟨h1, h⟩ | ⟨h1, h⟩
 ·obtain ⟨r2, h3, h⟩ := bi h
  have f4 := J8A p h3
  try simp only [Nf] at f4
  try simp only [↓Da, Ua, J1D, J9, J8, *, ↓reduceIte, reduceEqDiff, reduceAdd, reduceLT, reduceMul]
  rcases Ja h with ⟨h5, h⟩ | ⟨h5, h⟩
  ·obtain ⟨y6, h7, h⟩ := bi h
   have f8 := J2e (r := J4) h7
   try simp only [Nf] at f8
   try simp only [↓Da, Ua, J1D, J9, J8, *, ↓reduceIte, reduceEqDiff, reduceAdd, reduceLT, reduceMul]
   rcases Ja h with ⟨h9, h⟩ | ⟨h9, h⟩
   ·obtain rfl := sj h
    try simp only [↓Da, Ua, J1D, J9, J8, Jgw, *, ↓reduceIte, reduceEqDiff, reduceAdd, reduceLT, reduceMul]
    rfl
   ·obtain rfl := sj h
    try simp only [↓Da, Ua, J1D, J9, J8, *, ↓reduceIte, reduceEqDiff, reduceAdd, reduceLT, reduceMul]
    rfl
  ·obtain ⟨o', h', rfl⟩ := mi h
   try simp only [↓Da, Ua, J1D, J9, J8, *, ↓reduceIte, reduceEqDiff, reduceAdd, reduceLT, reduceMul]
   have e0 := Je8 p (B0 := (J3 b0)) h'
   exact e0
 ·obtain ⟨o', h', rfl⟩ := mi h
  try simp only [↓Da, Ua, J1D, J9, J8, *, ↓reduceIte, reduceEqDiff, reduceAdd, reduceLT, reduceMul]
  have e0 := Je8 p (B0 := (J3 b0)) h'
  exact e0
def Jbv (x1 : Int) (b0 : T_api_Image) (b1 : T_api_Copy) (s : Int) : Option (T_api_Copy × Bool) :=
 Jx (fun s => J44 x1 b0 b1 s) s
theorem JiR {x1 : Int} {b0 : T_api_Image} {b1 : T_api_Copy} {s : Int} {o : T_api_Copy × Bool} (h : Jbv x1 b0 b1 s = some o) :
  rk (J2 p) J2R 0 [.bl 0, .sq (.keep [4] J5d)] (X (J2 p) (.lp 2 [1, 2, 4, 6] J1D) ⟨[(1, .p (.i .i64 x1)), (2, .ptr 0 0), (4, .ptr 1 0), (6, .p (.i .i64 s))], [.box (List.map AV.p (J3 b0)), .box (List.map AV.p (J4 b1))]⟩) = J83 o := by
 have h0 : Jx (fun s => J44 x1 b0 b1 s) s = some o := h
 exact J0m (P := fun (s : Int) (o : T_api_Copy × Bool) => rk (J2 p) J2R 0 [.bl 0, .sq (.keep [4] J5d)] (X (J2 p) (.lp 2 [1, 2, 4, 6] J1D) ⟨[(1, .p (.i .i64 x1)), (2, .ptr 0 0), (4, .ptr 1 0), (6, .p (.i .i64 s))], [.box (List.map AV.p (J3 b0)), .box (List.map AV.p (J4 b1))]⟩) = J83 o) (fun s r hs => by rw [J0k]; exact Jei p hs) (fun s s1 r hs ih => by rw [J0k]; exact (Jei p hs).trans ih) h0
def J5A (x0 : T_api_Image) (x1 : Int) : Option (T_api_Copy × Bool) :=
 Jbv x1 x0 (⟨0, 0, ([] : List UInt8)⟩ : T_api_Copy) 0
theorem JiU {x0 : T_api_Image} {x1 : Int} {o : T_api_Copy × Bool} (h : J5A x0 x1 = some o) :
  rk (J2 p) J2R 0 [] (X (J2 p) J9h ⟨[(0, .data (J3 x0)), (1, .p (.i .i64 x1))], []⟩) = J83 o := by
 unfold J5A at h
 try simp only [↓Da, Ua, J9h, J9, J8, ↓reduceIte, reduceEqDiff, reduceAdd, reduceLT, reduceMul]
 have e0 := JiR p h
 exact e0
theorem JnJ {x0 : T_api_Image} {x1 : Int} {o : T_api_Copy × Bool} (h : J5A x0 x1 = some o) : AF (J2 p) J6y [.data (J3 x0), .p (.i .i64 x1)] [] = J83 o :=
 (J0f (J2 p) (Jom p) rfl).trans (JiU p h)
theorem Jgn {x0 : T_api_Image} {x1 : Int} {o : T_api_Copy × Bool} (h : J5A x0 x1 = some o) : ∀ ws new st, (Jj (AF (J2 p)) J6y ([.data (J3 x0), .p (.i .i64 x1)], ws) 0 new).run st = some ⟨.tup [.data (J4 o.1), .p (.b o.2)], ws⟩ := Js rfl (JnJ p h) rfl
def Jgq  (r : T_api_Page × Int) : Option Res := some (.tup [.data (J5 r.1), .p (.i .i64 r.2)], [])
def J6x (x0 : T_api_Image) (x1 : Int) : Option (T_api_Page × Int) :=
 Option.bind (J0u x0) fun r1 =>
 if r1 then
  Option.bind (J5y x0 x1) fun r5 =>
  if r5.2 then
   Option.bind (J0I r5.1.Data x1) fun r9 =>
   some (r9.1, r9.2)
  else
   some ((⟨0, 0, (Vector.replicate 16 (⟨false, []⟩ : Je))⟩ : T_api_Page), 44)
 else
  some ((⟨0, 0, (Vector.replicate 16 (⟨false, []⟩ : Je))⟩ : T_api_Page), 43)
theorem Jj8 {x0 : T_api_Image} {x1 : Int} {o : T_api_Page × Int} (h : J6x x0 x1 = some o) :
  rk (J2 p) J7J 0 [] (X (J2 p) J4t ⟨[(0, .data (J3 x0)), (1, .p (.i .i64 x1))], []⟩) = Jgq o := by
 unfold J6x at h
 obtain ⟨r1, h2, h⟩ := bi h
 have f3 := J6S p h2
 try simp only [Nf] at f3
 try simp only [↓Da, Ua, J4t, J9, J7, J1, J6, J8, *, ↓reduceIte, reduceEqDiff, reduceAdd, reduceLT, reduceMul]
 rcases Ja h with ⟨h4, h⟩ | ⟨h4, h⟩
 ·obtain ⟨r5, h6, h⟩ := bi h
  have f7 := Jgr p h6
  try simp only [Nf] at f7
  try simp only [↓Da, Ua, J4t, J9, J7, J1, J6, J8, *, ↓reduceIte, reduceEqDiff, reduceAdd, reduceLT, reduceMul]
  rcases Ja h with ⟨h8, h⟩ | ⟨h8, h⟩
  ·obtain ⟨r9, h10, h⟩ := bi h
   have f11 := J96 p h10
   try simp only [Nf] at f11
   obtain rfl := sj h
   try simp only [↓Da, Ua, J4t, J9, J7, J1, J6, J8, JcF, *, ↓reduceIte, reduceEqDiff, reduceAdd, reduceLT, reduceMul]
   rfl
  ·obtain rfl := sj h
   try simp only [↓Da, Ua, J4t, J9, J7, J1, J6, J8, JcF, *, ↓reduceIte, reduceEqDiff, reduceAdd, reduceLT, reduceMul]
   rfl
 ·obtain rfl := sj h
  try simp only [↓Da, Ua, J4t, J9, J7, J1, J6, J8, JcF, *, ↓reduceIte, reduceEqDiff, reduceAdd, reduceLT, reduceMul]
  rfl
theorem Joo {x0 : T_api_Image} {x1 : Int} {o : T_api_Page × Int} (h : J6x x0 x1 = some o) : AF (J2 p) J7Z [.data (J3 x0), .p (.i .i64 x1)] [] = Jgq o :=
 (J0f (J2 p) (JnB p) rfl).trans (Jj8 p h)
theorem Jod {x0 : T_api_Image} {x1 : Int} {o : T_api_Page × Int} (h : J6x x0 x1 = some o) : ∀ ws new st, (Jj (AF (J2 p)) J7Z ([.data (J3 x0), .p (.i .i64 x1)], ws) 0 new).run st = some ⟨.tup [.data (J5 o.1), .p (.i .i64 o.2)], ws⟩ := Js rfl (Joo p h) rfl
def Jgz  (r : T_api_Page × Int) : Option Res := some (.tup [.data (J5 r.1), .p (.i .i64 r.2)], [])
def J6v (x0 : T_api_Image) (x1 : Int) : Option (T_api_Page × Int) :=
 Option.bind (J1Z x0) fun r1 =>
 if r1 then
  Option.bind (J5A x0 x1) fun r5 =>
  if r5.2 then
   Option.bind (J1s r5.1.Data x1) fun r9 =>
   some (r9.1, r9.2)
  else
   some ((⟨0, 0, (Vector.replicate 16 (⟨false, []⟩ : Je))⟩ : T_api_Page), 44)
 else
  some ((⟨0, 0, (Vector.replicate 16 (⟨false, []⟩ : Je))⟩ : T_api_Page), 43)
theorem Jiw {x0 : T_api_Image} {x1 : Int} {o : T_api_Page × Int} (h : J6v x0 x1 = some o) :
  rk (J2 p) J7Y 0 [] (X (J2 p) J4j ⟨[(0, .data (J3 x0)), (1, .p (.i .i64 x1))], []⟩) = Jgz o := by
 unfold J6v at h
 obtain ⟨r1, h2, h⟩ := bi h
 have f3 := J8A p h2
 try simp only [Nf] at f3
 try simp only [↓Da, Ua, J4j, J9, J7, J1, J6, J8, *, ↓reduceIte, reduceEqDiff, reduceAdd, reduceLT, reduceMul]
 rcases Ja h with ⟨h4, h⟩ | ⟨h4, h⟩
 ·obtain ⟨r5, h6, h⟩ := bi h
  have f7 := Jgn p h6
  try simp only [Nf] at f7
  try simp only [↓Da, Ua, J4j, J9, J7, J1, J6, J8, *, ↓reduceIte, reduceEqDiff, reduceAdd, reduceLT, reduceMul]
  rcases Ja h with ⟨h8, h⟩ | ⟨h8, h⟩
  ·obtain ⟨r9, h10, h⟩ := bi h
   have f11 := J8k p h10
   try simp only [Nf] at f11
   obtain rfl := sj h
   try simp only [↓Da, Ua, J4j, J9, J7, J1, J6, J8, JcU, *, ↓reduceIte, reduceEqDiff, reduceAdd, reduceLT, reduceMul]
   rfl
  ·obtain rfl := sj h
   try simp only [↓Da, Ua, J4j, J9, J7, J1, J6, J8, JcU, *, ↓reduceIte, reduceEqDiff, reduceAdd, reduceLT, reduceMul]
   rfl
 ·obtain rfl := sj h
  try simp only [↓Da, Ua, J4j, J9, J7, J1, J6, J8, JcU, *, ↓reduceIte, reduceEqDiff, reduceAdd, reduceLT, reduceMul]
  rfl
theorem JoF {x0 : T_api_Image} {x1 : Int} {o : T_api_Page × Int} (h : J6v x0 x1 = some o) : AF (J2 p) J84 [.data (J3 x0), .p (.i .i64 x1)] [] = Jgz o :=
 (J0f (J2 p) (Jot p) rfl).trans (Jiw p h)
theorem JnN {x0 : T_api_Image} {x1 : Int} {o : T_api_Page × Int} (h : J6v x0 x1 = some o) : ∀ ws new st, (Jj (AF (J2 p)) J84 ([.data (J3 x0), .p (.i .i64 x1)], ws) 0 new).run st = some ⟨.tup [.data (J5 o.1), .p (.i .i64 o.2)], ws⟩ := Js rfl (JoF p h) rfl
def Jf8  (r : Bool) : Option Res := some (.p (.b r), [])
def J5Y  : Option (Bool) :=
 Option.bind (J3f (⟨1, 1, ([] : List T_api_Copy)⟩ : T_api_Image)) fun r1 =>
 if ((r1.2 : Int) == 0) then
  if ((((List.length r1.1 : Nat) : Int) : Int) == 20) then
   Option.bind (J0u (⟨1, 1, ([] : List T_api_Copy)⟩ : T_api_Image)) fun r6 =>
   some r6
  else
   some false
 else
  some false
theorem JhA  {o : Bool} (h : J5Y = some o) :
  rk (J2 p) J6T 0 [] (X (J2 p) J3W ⟨[], []⟩) = Jf8 o := by
 unfold J5Y at h
 obtain ⟨r1, h2, h⟩ := bi h
 have f3 : ∀ ws new s, (Jj (AF (J2 p)) J1C ([.data (J3 (⟨1, 1, ([] : List T_api_Copy)⟩ : T_api_Image))], ws) 0 new).run s = some ⟨.tup [.p (.s r1.1), .p (.i .i64 r1.2)], ws⟩ := Js rfl (JkX p h2) rfl
 try simp only [Nf] at f3
 try simp only [↓Da, Ua, J3W, J9, J8, *, ↓reduceIte, reduceEqDiff, reduceAdd, reduceLT, reduceMul]
 rcases Ja h with ⟨h4, h⟩ | ⟨h4, h⟩
 ·have h4n : ((r1.2 : Int) != 0) = false := by rw [bne, h4]; rfl
  try simp only [↓Da, Ua, J3W, J9, J8, *, ↓reduceIte, reduceEqDiff, reduceAdd, reduceLT, reduceMul]
  rcases Ja h with ⟨h5, h⟩ | ⟨h5, h⟩
  ·have h5n : ((((List.length r1.1 : Nat) : Int) : Int) != 20) = false := by rw [bne, h5]; rfl
   obtain ⟨r6, h7, h⟩ := bi h
   have f8 := J6S p h7
   try simp only [Nf] at f8
   obtain rfl := sj h
   try simp only [↓Da, Ua, J3W, J9, J8, JbZ, *, ↓reduceIte, reduceEqDiff, reduceAdd, reduceLT, reduceMul]
   rfl
  ·have h5n : ((((List.length r1.1 : Nat) : Int) : Int) != 20) = true := by rw [bne, h5]; rfl
   obtain rfl := sj h
   try simp only [↓Da, Ua, J3W, J9, J8, JbZ, *, ↓reduceIte, reduceEqDiff, reduceAdd, reduceLT, reduceMul]
   rfl
 ·have h4n : ((r1.2 : Int) != 0) = true := by rw [bne, h4]; rfl
  obtain rfl := sj h
  try simp only [↓Da, Ua, J3W, J9, J8, JbZ, *, ↓reduceIte, reduceEqDiff, reduceAdd, reduceLT, reduceMul]
  rfl
theorem Jmx  {o : Bool} (h : J5Y = some o) : AF (J2 p) J6G [] [] = Jf8 o :=
 (J0f (J2 p) (JmU p) rfl).trans (JhA p h)
theorem Jmd  {o : Bool} (h : J5Y = some o) : ∀ ws new st, (Jj (AF (J2 p)) J6G ([], ws) 0 new).run st = some ⟨.p (.b o), ws⟩ := Js rfl (Jmx p h) rfl
end
end Go.Am
end
section
namespace Go.Am
set_option maxRecDepth 8000
set_option maxHeartbeats 4000000
set_option linter.unusedSimpArgs false
set_option linter.unusedVariables false
noncomputable section
variable (p : PS)
def J7V  (r : T_api_Image × T_pagemenddraw_Codes) : Option Res := some (.data (J3 r.1), [.box (List.map AV.p (J0 r.2))])
def Je7 (b1 : T_api_Image) (o : (Int × T_pagemenddraw_Codes × T_api_Image) ⊕ (T_api_Image × T_pagemenddraw_Codes)) : Option Res := match o with
 | .inl s => rk (J2 p) J2s 1 [.bl 0, .td 3 [2, 3], .sq (.keep [2, 3] J43)] (X (J2 p) (.lp 3 [0, 2, 3, 4] J1j) ⟨[(0, .ptr 0 0), (2, .ptr 1 0), (3, .ptr 2 0), (4, .p (.i .i64 s.1))], [.box (List.map AV.p (J0 s.2.1)), .box (List.map AV.p (J3 b1)), .box (List.map AV.p (J3 s.2.2))]⟩)
 | .inr o => J7V o
def J6j (x4 : Int) (b0 : T_pagemenddraw_Codes) (b1 b2 : T_api_Image) : Option (((Int × T_pagemenddraw_Codes × T_api_Image) ⊕ (T_api_Image × T_pagemenddraw_Codes))) :=
 some (.inl ((IntKind.wrap .i64 (x4 + 1)), b0, b2))
theorem Jbt {x4 : Int} {b0 : T_pagemenddraw_Codes} {b1 b2 : T_api_Image} {o : ((Int × T_pagemenddraw_Codes × T_api_Image) ⊕ (T_api_Image × T_pagemenddraw_Codes))} (h : J6j x4 b0 b1 b2 = some o) :
  rk (J2 p) J2s 1 [.lo 3 [0, 2, 3, 4] J1j, .bl 0, .td 3 [2, 3], .sq (.keep [2, 3] J43)] (X (J2 p) Jby ⟨[(0, .ptr 0 0), (2, .ptr 1 0), (3, .ptr 2 0), (4, .p (.i .i64 x4))], [.box (List.map AV.p (J0 b0)), .box (List.map AV.p (J3 b1)), .box (List.map AV.p (J3 b2))]⟩) = (Je7 p b1) o := by
 unfold J6j at h
 obtain rfl := sj h
 try simp only [↓Da, Ua, Jby, ↓reduceIte, reduceEqDiff, reduceAdd, reduceLT, reduceMul]
 rfl
def Jbq (b0 : T_pagemenddraw_Codes) (b1 b2 : T_api_Image) : Option (T_api_Image × T_pagemenddraw_Codes) :=
 some (b2, b0)
theorem JkY {b0 : T_pagemenddraw_Codes} {b1 b2 : T_api_Image} {o : T_api_Image × T_pagemenddraw_Codes} (h : Jbq b0 b1 b2 = some o) :
  rk (J2 p) J2s 1 [] (X (J2 p) J43 ⟨[(2, .ptr 1 0), (3, .ptr 2 0)], [.box (List.map AV.p (J0 b0)), .box (List.map AV.p (J3 b1)), .box (List.map AV.p (J3 b2))]⟩) = J7V o := by
 unfold Jbq at h
 obtain rfl := sj h
 try simp only [↓Da, Ua, J43, J9, J8, JoM, ↓reduceIte, reduceEqDiff, reduceAdd, reduceLT, reduceMul]
 rfl
def J7M (b1 : T_api_Image) (x4 : Int) (b0 : T_pagemenddraw_Codes) (b2 : T_api_Image) : Option (((Int × T_pagemenddraw_Codes × T_api_Image) ⊕ (T_api_Image × T_pagemenddraw_Codes))) :=
 if (decide (x4 < b2.Pages)) then
  Option.bind (Jp b0 4) fun r2 =>
  if ((r2.1 : Int) == 0) then
   J6j x4 r2.2 b1 b2
  else
   Option.bind (J6u r2.2 x4) fun r6 =>
   Option.bind (J29 b2 x4 r6.1) fun r10 =>
   if ((r10.2 : Int) == 0) then
    J6j x4 r6.2 b1 r10.1
   else
    J6j x4 r6.2 b1 b2
 else
  Option.map (fun o => .inr o) (Jbq b0 b1 b2)
theorem Jen {b1 : T_api_Image} {x4 : Int} {b0 : T_pagemenddraw_Codes} {b2 : T_api_Image} {o : ((Int × T_pagemenddraw_Codes × T_api_Image) ⊕ (T_api_Image × T_pagemenddraw_Codes))} (h : J7M b1 x4 b0 b2 = some o) :
  rk (J2 p) J2s 1 [.lo 3 [0, 2, 3, 4] J1j, .bl 0, .td 3 [2, 3], .sq (.keep [2, 3] J43)] (X (J2 p) J1j ⟨[(0, .ptr 0 0), (2, .ptr 1 0), (3, .ptr 2 0), (4, .p (.i .i64 x4))], [.box (List.map AV.p (J0 b0)), .box (List.map AV.p (J3 b1)), .box (List.map AV.p (J3 b2))]⟩) = (Je7 p b1) o := by
 unfold J7M at h
 rcases Ja h with ⟨h1, h⟩ | ⟨h1, h⟩
 ·obtain ⟨r2, h3, h⟩ := bi h
  have f4 : ∀ ws new s, JK ws s [0] [List.map AV.p (J0 b0)] → (Jj (AF (J2 p)) Jc ([.ptr 0 0, .p (.i .i64 4)], ws) 0 new).run s = some ⟨.p (.i .i64 r2.1), ws ++ [(0, .box (List.map AV.p (J0 r2.2)))]⟩ := Jy (args' := [.ptr 0 0, .p (.i .i64 4)]) (bs := [0]) (css := [List.map AV.p (J0 b0)]) (css' := [List.map AV.p (J0 r2.2)]) rfl rfl rfl (by simp [Jk, Jb]) (Jv p h3) rfl rfl (by simp [Jk, Jb])
  try simp only [Nf] at f4
  try simp only [↓Da, Ua, Ra, J1j, J9, J8, Jd, *, ↓reduceIte, reduceEqDiff, reduceAdd, reduceLT, reduceMul, Nat.reduceBEq]
  rcases Ja h with ⟨h5, h⟩ | ⟨h5, h⟩
  ·have h5n : ((r2.1 : Int) != 0) = false := by rw [bne, h5]; rfl
   try simp only [↓Da, Ua, Ra, J1j, J9, J8, Jd, *, ↓reduceIte, reduceEqDiff, reduceAdd, reduceLT, reduceMul, Nat.reduceBEq]
   have e0 := Jbt p h
   exact e0
  ·have h5n : ((r2.1 : Int) != 0) = true := by rw [bne, h5]; rfl
   obtain ⟨r6, h7, h⟩ := bi h
   have f8 : ∀ ws new s, JK ws s [0] [List.map AV.p (J0 r2.2)] → (Jj (AF (J2 p)) J4k ([.ptr 0 0, .p (.i .i64 x4)], ws) 0 new).run s = some ⟨.p (.s r6.1), ws ++ [(0, .box (List.map AV.p (J0 r6.2)))]⟩ := Jy (args' := [.ptr 0 0, .p (.i .i64 x4)]) (bs := [0]) (css := [List.map AV.p (J0 r2.2)]) (css' := [List.map AV.p (J0 r6.2)]) rfl rfl rfl (by simp [Jk, Jb]) (JgR p h7) rfl rfl (by simp [Jk, Jb])
   try simp only [Nf] at f8
   have f9 : ∀ ws k new s, JK ws s [0] [List.map AV.p (J0 r2.2)] → Jf ((Jj (AF (J2 p)) J4k ([.ptr 0 0, .p (.i .i64 x4)], ws) k new).reads s) = [0] ++ ([0] ++ [0]) := J9S (args' := [.ptr 0 0, .p (.i .i64 x4)]) (bs := [0]) (css := [List.map AV.p (J0 r2.2)]) rfl rfl rfl (by simp [Jk, Jb])
   try simp only [Nf] at f9
   obtain ⟨r10, h11, h⟩ := bi h
   have f12 := Ji6 p h11
   try simp only [Nf] at f12
   have f13 : ∀ ws k new s, Jf ((Jj (AF (J2 p)) J6h ([.data (J3 b2), .p (.i .i64 x4), .p (.s r6.1)], ws) k new).reads s) = [] := J04 rfl
   try simp only [Nf] at f13
   try simp only [↓Da, Ua, Ra, J1j, J9, J8, Jd, *, ↓reduceIte, reduceEqDiff, reduceAdd, reduceLT, reduceMul, Nat.reduceBEq]
   rcases Ja h with ⟨h14, h⟩ | ⟨h14, h⟩
   ·have h14n : ((r10.2 : Int) != 0) = false := by rw [bne, h14]; rfl
    try simp only [↓Da, Ua, Ra, J1j, J9, J8, Jd, *, ↓reduceIte, reduceEqDiff, reduceAdd, reduceLT, reduceMul, Nat.reduceBEq]
    have e0 := Jbt p h
    exact e0
   ·have h14n : ((r10.2 : Int) != 0) = true := by rw [bne, h14]; rfl
    try simp only [↓Da, Ua, Ra, J1j, J9, J8, Jd, *, ↓reduceIte, reduceEqDiff, reduceAdd, reduceLT, reduceMul, Nat.reduceBEq]
    have e0 := Jbt p h
    exact e0
 ·obtain ⟨o', h', rfl⟩ := mi h
  try simp only [↓Da, Ua, Ra, J1j, J9, J8, Jd, *, ↓reduceIte, reduceEqDiff, reduceAdd, reduceLT, reduceMul, Nat.reduceBEq]
  have e0 := JkY p h'
  exact e0
def Jbz (b1 : T_api_Image) (s : Int × T_pagemenddraw_Codes × T_api_Image) : Option (T_api_Image × T_pagemenddraw_Codes) :=
 Jx (fun s => J7M b1 s.1 s.2.1 s.2.2) s
theorem Jja {b1 : T_api_Image} {s : Int × T_pagemenddraw_Codes × T_api_Image} {o : T_api_Image × T_pagemenddraw_Codes} (h : Jbz b1 s = some o) :
  rk (J2 p) J2s 1 [.bl 0, .td 3 [2, 3], .sq (.keep [2, 3] J43)] (X (J2 p) (.lp 3 [0, 2, 3, 4] J1j) ⟨[(0, .ptr 0 0), (2, .ptr 1 0), (3, .ptr 2 0), (4, .p (.i .i64 s.1))], [.box (List.map AV.p (J0 s.2.1)), .box (List.map AV.p (J3 b1)), .box (List.map AV.p (J3 s.2.2))]⟩) = J7V o := by
 have h0 : Jx (fun s => J7M b1 s.1 s.2.1 s.2.2) s = some o := h
 exact J0m (P := fun (s : Int × T_pagemenddraw_Codes × T_api_Image) (o : T_api_Image × T_pagemenddraw_Codes) => rk (J2 p) J2s 1 [.bl 0, .td 3 [2, 3], .sq (.keep [2, 3] J43)] (X (J2 p) (.lp 3 [0, 2, 3, 4] J1j) ⟨[(0, .ptr 0 0), (2, .ptr 1 0), (3, .ptr 2 0), (4, .p (.i .i64 s.1))], [.box (List.map AV.p (J0 s.2.1)), .box (List.map AV.p (J3 b1)), .box (List.map AV.p (J3 s.2.2))]⟩) = J7V o) (fun s r hs => by rw [J0k]; exact Jen p hs) (fun s s1 r hs ih => by rw [J0k]; exact (Jen p hs).trans ih) h0
def J87 (b0 : T_pagemenddraw_Codes) : Option (T_api_Image × T_pagemenddraw_Codes) :=
 Option.bind (Jp b0 5) fun r1 =>
 Option.bind (Jp r1.2 6) fun r4 =>
 Jbz (⟨0, 0, ([] : List T_api_Copy)⟩ : T_api_Image) (0, r4.2, (⟨(IntKind.wrap .i64 (1 + r1.1)), (IntKind.wrap .i64 (1 + r4.1)), ([] : List T_api_Copy)⟩ : T_api_Image))
theorem JiH {b0 : T_pagemenddraw_Codes} {o : T_api_Image × T_pagemenddraw_Codes} (h : J87 b0 = some o) :
  rk (J2 p) J2s 1 [] (X (J2 p) J9q ⟨[(0, .ptr 0 0)], [.box (List.map AV.p (J0 b0))]⟩) = J7V o := by
 unfold J87 at h
 obtain ⟨r1, h2, h⟩ := bi h
 have f3 : ∀ ws new s, JK ws s [0] [List.map AV.p (J0 b0)] → (Jj (AF (J2 p)) Jc ([.ptr 0 0, .p (.i .i64 5)], ws) 0 new).run s = some ⟨.p (.i .i64 r1.1), ws ++ [(0, .box (List.map AV.p (J0 r1.2)))]⟩ := Jy (args' := [.ptr 0 0, .p (.i .i64 5)]) (bs := [0]) (css := [List.map AV.p (J0 b0)]) (css' := [List.map AV.p (J0 r1.2)]) rfl rfl rfl (by simp [Jk, Jb]) (Jv p h2) rfl rfl (by simp [Jk, Jb])
 try simp only [Nf] at f3
 obtain ⟨r4, h5, h⟩ := bi h
 have f6 : ∀ ws new s, JK ws s [0] [List.map AV.p (J0 r1.2)] → (Jj (AF (J2 p)) Jc ([.ptr 0 0, .p (.i .i64 6)], ws) 0 new).run s = some ⟨.p (.i .i64 r4.1), ws ++ [(0, .box (List.map AV.p (J0 r4.2)))]⟩ := Jy (args' := [.ptr 0 0, .p (.i .i64 6)]) (bs := [0]) (css := [List.map AV.p (J0 r1.2)]) (css' := [List.map AV.p (J0 r4.2)]) rfl rfl rfl (by simp [Jk, Jb]) (Jv p h5) rfl rfl (by simp [Jk, Jb])
 try simp only [Nf] at f6
 try simp only [↓Da, Ua, J9q, J9, J8, Jd, *, ↓reduceIte, reduceEqDiff, reduceAdd, reduceLT, reduceMul]
 have e0 := Jja p h
 exact e0
theorem Jnv {b0 : T_pagemenddraw_Codes} {o : T_api_Image × T_pagemenddraw_Codes} (h : J87 b0 = some o) : AF (J2 p) J7L [.ptr 0 0] [.box (List.map AV.p (J0 b0))] = J7V o :=
 (J0f (J2 p) (JoQ p) rfl).trans (JiH p h)
def J47  (r : Bool) : Option Res := some (.p (.b r), [])
def J4A (x1 : Int) (x2 : List UInt8) (x44 : List T_api_Image) (x45 : Int) (b1 : T_api_Image) (o : (Int × T_pagemenddraw_Codes) ⊕ (Bool)) : Option Res := match o with
 | .inl s => rk (J2 p) JT 0 [.bl 0, .td 2 [6], .sq (.keep [] J07)] (X (J2 p) (.lp 2 [1, 2, 7, 8, 44, 45, 46] Jz) ⟨[(1, .p (.i .i64 x1)), (2, .p (.s x2)), (7, .ptr 0 0), (8, .ptr 1 0), (44, .p (.sl 3 (List.map J3 x44))), (45, .p (.i .i64 x45)), (46, .p (.i .i64 s.1))], [.box (List.map AV.p (J0 s.2)), .box (List.map AV.p (J3 b1))]⟩)
 | .inr o => J47 o
def J6d (x1 : Int) (x2 : List UInt8) (x44 : List T_api_Image) (x45 x46 : Int) (b1 b2 : T_api_Image) (o : (Int × T_pagemenddraw_Codes) ⊕ (((Int × T_pagemenddraw_Codes) ⊕ (Bool)))) : Option Res := match o with
 | .inl s => rk (J2 p) JT 0 [.bl 2, .bl 1, .td 2 [1, 2, 6, 7, 8, 44, 45, 46], .sq (.keep [1, 2, 7, 8, 44, 45, 46] J0V), .lo 2 [1, 2, 7, 8, 44, 45, 46] Jz, .bl 0, .td 2 [6], .sq (.keep [] J07)] (X (J2 p) (.lp 3 [1, 2, 7, 8, 10, 11, 44, 45, 46] J0j) ⟨[(1, .p (.i .i64 x1)), (2, .p (.s x2)), (7, .ptr 0 0), (8, .ptr 1 0), (10, .ptr 2 0), (11, .p (.i .i64 s.1)), (44, .p (.sl 3 (List.map J3 x44))), (45, .p (.i .i64 x45)), (46, .p (.i .i64 x46))], [.box (List.map AV.p (J0 s.2)), .box (List.map AV.p (J3 b1)), .box (List.map AV.p (J3 b2))]⟩)
 | .inr o => (J4A p x1 x2 x44 x45 b1) o
def J67 (x1 : Int) (x2 : List UInt8) (x11 : Int) (x44 : List T_api_Image) (x45 x46 : Int) (b0 : T_pagemenddraw_Codes) (b1 b2 : T_api_Image) : Option (((Int × T_pagemenddraw_Codes) ⊕ (((Int × T_pagemenddraw_Codes) ⊕ (Bool))))) :=
 some (.inl ((IntKind.wrap .i64 (x11 + 1)), b0))
theorem JeQ {x1 : Int} {x2 : List UInt8} {x11 : Int} {x44 : List T_api_Image} {x45 x46 : Int} {b0 : T_pagemenddraw_Codes} {b1 b2 : T_api_Image} {o : ((Int × T_pagemenddraw_Codes) ⊕ (((Int × T_pagemenddraw_Codes) ⊕ (Bool))))} (h : J67 x1 x2 x11 x44 x45 x46 b0 b1 b2 = some o) :
  rk (J2 p) JT 0 [.lo 3 [1, 2, 7, 8, 10, 11, 44, 45, 46] J0j, .bl 2, .bl 1, .td 2 [1, 2, 6, 7, 8, 44, 45, 46], .sq (.keep [1, 2, 7, 8, 44, 45, 46] J0V), .lo 2 [1, 2, 7, 8, 44, 45, 46] Jz, .bl 0, .td 2 [6], .sq (.keep [] J07)] (X (J2 p) J4q ⟨[(1, .p (.i .i64 x1)), (2, .p (.s x2)), (7, .ptr 0 0), (8, .ptr 1 0), (10, .ptr 2 0), (11, .p (.i .i64 x11)), (44, .p (.sl 3 (List.map J3 x44))), (45, .p (.i .i64 x45)), (46, .p (.i .i64 x46))], [.box (List.map AV.p (J0 b0)), .box (List.map AV.p (J3 b1)), .box (List.map AV.p (J3 b2))]⟩) = (J6d p x1 x2 x44 x45 x46 b1 b2) o := by
 unfold J67 at h
 obtain rfl := sj h
 try simp only [↓Da, Ua, J4q, ↓reduceIte, reduceEqDiff, reduceAdd, reduceLT, reduceMul]
 rfl
def J3a (x1 : Int) (x2 : List UInt8) (x11 x12 : Int) (x13 : List UInt8) (x44 : List T_api_Image) (x45 x46 : Int) (b0 : T_pagemenddraw_Codes) (b1 b2 : T_api_Image) : Option (((Int × T_pagemenddraw_Codes) ⊕ (((Int × T_pagemenddraw_Codes) ⊕ (Bool))))) :=
 Option.bind (J1y b2 x12 x13) fun r1 =>
 Option.bind (J29 b2 x12 x13) fun r4 =>
 Option.bind (J5y b2 x12) fun r7 =>
 Option.bind (J5A b2 x12) fun r10 =>
 Option.bind (J6x b2 x12) fun r13 =>
 Option.bind (J6v b2 x12) fun r16 =>
 if ((r1.2 : Int) != r4.2) then
  some (.inr (.inr false))
 else
  Option.bind (J4m r1.1 r4.1) fun r20 =>
  if r20 then
   if (r7.1 == r10.1) then
    if (r7.2 == r10.2) then
     if (r13.1 == r16.1) then
      if ((r13.2 : Int) != r16.2) then
       some (.inr (.inr false))
      else
       J67 x1 x2 x11 x44 x45 x46 b0 b1 b2
     else
      some (.inr (.inr false))
    else
     some (.inr (.inr false))
   else
    some (.inr (.inr false))
  else
   some (.inr (.inr false))
theorem Jb1 {x1 : Int} {x2 : List UInt8} {x11 x12 : Int} {x13 : List UInt8} {x44 : List T_api_Image} {x45 x46 : Int} {b0 : T_pagemenddraw_Codes} {b1 b2 : T_api_Image} {o : ((Int × T_pagemenddraw_Codes) ⊕ (((Int × T_pagemenddraw_Codes) ⊕ (Bool))))} (h : J3a x1 x2 x11 x12 x13 x44 x45 x46 b0 b1 b2 = some o) :
  rk (J2 p) JT 0 [.bl 3, .td 3 [1, 2, 6, 7, 8, 10, 11, 44, 45, 46], .sq (.keep [1, 2, 7, 8, 10, 11, 44, 45, 46] J4q), .lo 3 [1, 2, 7, 8, 10, 11, 44, 45, 46] J0j, .bl 2, .bl 1, .td 2 [1, 2, 6, 7, 8, 44, 45, 46], .sq (.keep [1, 2, 7, 8, 44, 45, 46] J0V), .lo 2 [1, 2, 7, 8, 44, 45, 46] Jz, .bl 0, .td 2 [6], .sq (.keep [] J07)] (X (J2 p) J06 ⟨[(1, .p (.i .i64 x1)), (2, .p (.s x2)), (7, .ptr 0 0), (8, .ptr 1 0), (10, .ptr 2 0), (11, .p (.i .i64 x11)), (12, .p (.i .i64 x12)), (13, .p (.s x13)), (44, .p (.sl 3 (List.map J3 x44))), (45, .p (.i .i64 x45)), (46, .p (.i .i64 x46))], [.box (List.map AV.p (J0 b0)), .box (List.map AV.p (J3 b1)), .box (List.map AV.p (J3 b2))]⟩) = (J6d p x1 x2 x44 x45 x46 b1 b2) o := by
 unfold J3a at h
 obtain ⟨r1, h2, h⟩ := bi h
 have f3 := JpG p h2
 try simp only [Nf] at f3
 obtain ⟨r4, h5, h⟩ := bi h
 have f6 := Ji6 p h5
 try simp only [Nf] at f6
 obtain ⟨r7, h8, h⟩ := bi h
 have f9 := Jgr p h8
 try simp only [Nf] at f9
 obtain ⟨r10, h11, h⟩ := bi h
 have f12 := Jgn p h11
 try simp only [Nf] at f12
 obtain ⟨r13, h14, h⟩ := bi h
 have f15 := Jod p h14
 try simp only [Nf] at f15
 obtain ⟨r16, h17, h⟩ := bi h
 have f18 := JnN p h17
 try simp only [Nf] at f18
 try simp only [↓Da, Ua, J06, J9, J7, J1, J6, J8, *, ↓reduceIte, reduceEqDiff, reduceAdd, reduceLT, reduceMul]
 rcases Ja h with ⟨h19, h⟩ | ⟨h19, h⟩
 ·obtain rfl := sj h
  try simp only [↓Da, Ua, J06, J9, J7, J1, J6, J8, J0p, *, ↓reduceIte, reduceEqDiff, reduceAdd, reduceLT, reduceMul]
  rfl
 ·obtain ⟨r20, h21, h⟩ := bi h
  have f22 := JgN p h21
  try simp only [Nf] at f22
  try simp only [↓Da, Ua, J06, J9, J7, J1, J6, J8, *, ↓reduceIte, reduceEqDiff, reduceAdd, reduceLT, reduceMul]
  rcases Ja h with ⟨h23, h⟩ | ⟨h23, h⟩
  ·try simp only [↓Da, Ua, J06, J9, J7, J1, J6, J8, J1q, *, ↓reduceIte, reduceEqDiff, reduceAdd, reduceLT, reduceMul]
   rcases Ja h with ⟨h25, h⟩ | ⟨h25, h⟩
   ·try simp only [↓Da, Ua, J06, J9, J7, J1, J6, J8, J1q, *, ↓reduceIte, reduceEqDiff, reduceAdd, reduceLT, reduceMul]
    rcases Ja h with ⟨h26, h⟩ | ⟨h26, h⟩
    ·try simp only [↓Da, Ua, J06, J9, J7, J1, J6, J8, J1q, J9g, *, ↓reduceIte, reduceEqDiff, reduceAdd, reduceLT, reduceMul]
     rcases Ja h with ⟨h28, h⟩ | ⟨h28, h⟩
     ·try simp only [↓Da, Ua, J06, J9, J7, J1, J6, J8, J1q, J9g, *, ↓reduceIte, reduceEqDiff, reduceAdd, reduceLT, reduceMul]
      rcases Ja h with ⟨h29, h⟩ | ⟨h29, h⟩
      ·obtain rfl := sj h
       try simp only [↓Da, Ua, J06, J9, J7, J1, J6, J8, J1q, J9g, J0p, *, ↓reduceIte, reduceEqDiff, reduceAdd, reduceLT, reduceMul]
       rfl
      ·try simp only [↓Da, Ua, J06, J9, J7, J1, J6, J8, J1q, J9g, *, ↓reduceIte, reduceEqDiff, reduceAdd, reduceLT, reduceMul]
       have e0 := JeQ p h
       exact e0
     ·obtain rfl := sj h
      try simp only [↓Da, Ua, J06, J9, J7, J1, J6, J8, J1q, J9g, J0p, *, ↓reduceIte, reduceEqDiff, reduceAdd, reduceLT, reduceMul]
      rfl
    ·obtain rfl := sj h
     try simp only [↓Da, Ua, J06, J9, J7, J1, J6, J8, J1q, J0p, *, ↓reduceIte, reduceEqDiff, reduceAdd, reduceLT, reduceMul]
     rfl
   ·obtain rfl := sj h
    try simp only [↓Da, Ua, J06, J9, J7, J1, J6, J8, J1q, J0p, *, ↓reduceIte, reduceEqDiff, reduceAdd, reduceLT, reduceMul]
    rfl
  ·obtain rfl := sj h
   try simp only [↓Da, Ua, J06, J9, J7, J1, J6, J8, J0p, *, ↓reduceIte, reduceEqDiff, reduceAdd, reduceLT, reduceMul]
   rfl
def J3e (x1 : Int) (x2 : List UInt8) (x11 x12 : Int) (x44 : List T_api_Image) (x45 x46 : Int) (b0 : T_pagemenddraw_Codes) (b1 b2 : T_api_Image) : Option (((Int × T_pagemenddraw_Codes) ⊕ (((Int × T_pagemenddraw_Codes) ⊕ (Bool))))) :=
 Option.bind (J6u b0 (Jj5 x11 0)) fun r1 =>
 Option.bind (Jp r1.2 4) fun r4 =>
 if ((r4.1 : Int) == 0) then
  J3a x1 x2 x11 x12 x2 x44 x45 x46 r4.2 b1 b2
 else
  J3a x1 x2 x11 x12 r1.1 x44 x45 x46 r4.2 b1 b2
theorem Jb5 {x1 : Int} {x2 : List UInt8} {x11 x12 : Int} {x44 : List T_api_Image} {x45 x46 : Int} {b0 : T_pagemenddraw_Codes} {b1 b2 : T_api_Image} {o : ((Int × T_pagemenddraw_Codes) ⊕ (((Int × T_pagemenddraw_Codes) ⊕ (Bool))))} (h : J3e x1 x2 x11 x12 x44 x45 x46 b0 b1 b2 = some o) :
  rk (J2 p) JT 0 [.bl 3, .td 3 [1, 2, 6, 7, 8, 10, 11, 44, 45, 46], .sq (.keep [1, 2, 7, 8, 10, 11, 44, 45, 46] J4q), .lo 3 [1, 2, 7, 8, 10, 11, 44, 45, 46] J0j, .bl 2, .bl 1, .td 2 [1, 2, 6, 7, 8, 44, 45, 46], .sq (.keep [1, 2, 7, 8, 44, 45, 46] J0V), .lo 2 [1, 2, 7, 8, 44, 45, 46] Jz, .bl 0, .td 2 [6], .sq (.keep [] J07)] (X (J2 p) J4i ⟨[(1, .p (.i .i64 x1)), (2, .p (.s x2)), (7, .ptr 0 0), (8, .ptr 1 0), (10, .ptr 2 0), (11, .p (.i .i64 x11)), (12, .p (.i .i64 x12)), (44, .p (.sl 3 (List.map J3 x44))), (45, .p (.i .i64 x45)), (46, .p (.i .i64 x46))], [.box (List.map AV.p (J0 b0)), .box (List.map AV.p (J3 b1)), .box (List.map AV.p (J3 b2))]⟩) = (J6d p x1 x2 x44 x45 x46 b1 b2) o := by
 unfold J3e at h
 obtain ⟨r1, h2, h⟩ := bi h
 have f3 : ∀ ws new s, JK ws s [0] [List.map AV.p (J0 b0)] → (Jj (AF (J2 p)) J4k ([.ptr 0 0, .p (.i .i64 (Jj5 x11 0))], ws) 0 new).run s = some ⟨.p (.s r1.1), ws ++ [(0, .box (List.map AV.p (J0 r1.2)))]⟩ := Jy (args' := [.ptr 0 0, .p (.i .i64 (Jj5 x11 0))]) (bs := [0]) (css := [List.map AV.p (J0 b0)]) (css' := [List.map AV.p (J0 r1.2)]) rfl rfl rfl (by simp [Jk, Jb]) (JgR p h2) rfl rfl (by simp [Jk, Jb])
 try simp only [Nf] at f3
 obtain ⟨r4, h5, h⟩ := bi h
 have f6 : ∀ ws new s, JK ws s [0] [List.map AV.p (J0 r1.2)] → (Jj (AF (J2 p)) Jc ([.ptr 0 0, .p (.i .i64 4)], ws) 0 new).run s = some ⟨.p (.i .i64 r4.1), ws ++ [(0, .box (List.map AV.p (J0 r4.2)))]⟩ := Jy (args' := [.ptr 0 0, .p (.i .i64 4)]) (bs := [0]) (css := [List.map AV.p (J0 r1.2)]) (css' := [List.map AV.p (J0 r4.2)]) rfl rfl rfl (by simp [Jk, Jb]) (Jv p h5) rfl rfl (by simp [Jk, Jb])
 try simp only [Nf] at f6
 try simp only [↓Da, Ua, J4i, Jd, *, ↓reduceIte, reduceEqDiff, reduceAdd, reduceLT, reduceMul]
 rcases Ja h with ⟨h7, h⟩ | ⟨h7, h⟩
 ·have h7n : ((r4.1 : Int) != 0) = false := by rw [bne, h7]; rfl
  try simp only [↓Da, Ua, J4i, Jd, *, ↓reduceIte, reduceEqDiff, reduceAdd, reduceLT, reduceMul]
  have e0 := Jb1 p h
  exact e0
 ·have h7n : ((r4.1 : Int) != 0) = true := by rw [bne, h7]; rfl
  try simp only [↓Da, Ua, J4i, Jd, *, ↓reduceIte, reduceEqDiff, reduceAdd, reduceLT, reduceMul]
  have e0 := Jb1 p h
  exact e0
def J6e (x1 : Int) (x2 : List UInt8) (x44 : List T_api_Image) (x45 x46 : Int) (b0 : T_pagemenddraw_Codes) (b1 : T_api_Image) : Option (((Int × T_pagemenddraw_Codes) ⊕ (Bool))) :=
 some (.inl ((IntKind.wrap .i64 (x46 + 1)), b0))
theorem Jeu {x1 : Int} {x2 : List UInt8} {x44 : List T_api_Image} {x45 x46 : Int} {b0 : T_pagemenddraw_Codes} {b1 : T_api_Image} {o : ((Int × T_pagemenddraw_Codes) ⊕ (Bool))} (h : J6e x1 x2 x44 x45 x46 b0 b1 = some o) :
  rk (J2 p) JT 0 [.lo 2 [1, 2, 7, 8, 44, 45, 46] Jz, .bl 0, .td 2 [6], .sq (.keep [] J07)] (X (J2 p) J0V ⟨[(1, .p (.i .i64 x1)), (2, .p (.s x2)), (7, .ptr 0 0), (8, .ptr 1 0), (44, .p (.sl 3 (List.map J3 x44))), (45, .p (.i .i64 x45)), (46, .p (.i .i64 x46))], [.box (List.map AV.p (J0 b0)), .box (List.map AV.p (J3 b1))]⟩) = (J4A p x1 x2 x44 x45 b1) o := by
 unfold J6e at h
 obtain rfl := sj h
 try simp only [↓Da, Ua, J0V, ↓reduceIte, reduceEqDiff, reduceAdd, reduceLT, reduceMul]
 rfl
def J4n (x1 : Int) (x2 : List UInt8) (x44 : List T_api_Image) (x45 x46 : Int) (b1 b2 : T_api_Image) (x11 : Int) (b0 : T_pagemenddraw_Codes) : Option (((Int × T_pagemenddraw_Codes) ⊕ (((Int × T_pagemenddraw_Codes) ⊕ (Bool))))) :=
 if (decide (x11 < 8)) then
  if ((x11 : Int) == 7) then
   J3e x1 x2 x11 x1 x44 x45 x46 b0 b1 b2
  else
   J3e x1 x2 x11 x11 x44 x45 x46 b0 b1 b2
 else
  Option.map (fun o => .inr o) (J6e x1 x2 x44 x45 x46 b0 b1)
theorem Jb4 {x1 : Int} {x2 : List UInt8} {x44 : List T_api_Image} {x45 x46 : Int} {b1 b2 : T_api_Image} {x11 : Int} {b0 : T_pagemenddraw_Codes} {o : ((Int × T_pagemenddraw_Codes) ⊕ (((Int × T_pagemenddraw_Codes) ⊕ (Bool))))} (h : J4n x1 x2 x44 x45 x46 b1 b2 x11 b0 = some o) :
  rk (J2 p) JT 0 [.lo 3 [1, 2, 7, 8, 10, 11, 44, 45, 46] J0j, .bl 2, .bl 1, .td 2 [1, 2, 6, 7, 8, 44, 45, 46], .sq (.keep [1, 2, 7, 8, 44, 45, 46] J0V), .lo 2 [1, 2, 7, 8, 44, 45, 46] Jz, .bl 0, .td 2 [6], .sq (.keep [] J07)] (X (J2 p) J0j ⟨[(1, .p (.i .i64 x1)), (2, .p (.s x2)), (7, .ptr 0 0), (8, .ptr 1 0), (10, .ptr 2 0), (11, .p (.i .i64 x11)), (44, .p (.sl 3 (List.map J3 x44))), (45, .p (.i .i64 x45)), (46, .p (.i .i64 x46))], [.box (List.map AV.p (J0 b0)), .box (List.map AV.p (J3 b1)), .box (List.map AV.p (J3 b2))]⟩) = (J6d p x1 x2 x44 x45 x46 b1 b2) o := by
 unfold J4n at h
 rcases Ja h with ⟨h1, h⟩ | ⟨h1, h⟩
 ·try simp only [↓Da, Ua, J0j, *, ↓reduceIte, reduceEqDiff, reduceAdd, reduceLT, reduceMul]
  rcases Ja h with ⟨h2, h⟩ | ⟨h2, h⟩
  ·have h2n : ((x11 : Int) != 7) = false := by rw [bne, h2]; rfl
   try simp only [↓Da, Ua, J0j, *, ↓reduceIte, reduceEqDiff, reduceAdd, reduceLT, reduceMul]
   have e0 := Jb5 p h
   exact e0
  ·have h2n : ((x11 : Int) != 7) = true := by rw [bne, h2]; rfl
   try simp only [↓Da, Ua, J0j, *, ↓reduceIte, reduceEqDiff, reduceAdd, reduceLT, reduceMul]
   have e0 := Jb5 p h
   exact e0
 ·obtain ⟨o', h', rfl⟩ := mi h
  try simp only [↓Da, Ua, J0j, *, ↓reduceIte, reduceEqDiff, reduceAdd, reduceLT, reduceMul]
  have e0 := Jeu p h'
  exact e0
def J4s (x1 : Int) (x2 : List UInt8) (x44 : List T_api_Image) (x45 x46 : Int) (b1 b2 : T_api_Image) (s : Int × T_pagemenddraw_Codes) : Option (((Int × T_pagemenddraw_Codes) ⊕ (Bool))) :=
 Jx (fun s => J4n x1 x2 x44 x45 x46 b1 b2 s.1 s.2) s
theorem JdE {x1 : Int} {x2 : List UInt8} {x44 : List T_api_Image} {x45 x46 : Int} {b1 b2 : T_api_Image} {s : Int × T_pagemenddraw_Codes} {o : ((Int × T_pagemenddraw_Codes) ⊕ (Bool))} (h : J4s x1 x2 x44 x45 x46 b1 b2 s = some o) :
  rk (J2 p) JT 0 [.bl 2, .bl 1, .td 2 [1, 2, 6, 7, 8, 44, 45, 46], .sq (.keep [1, 2, 7, 8, 44, 45, 46] J0V), .lo 2 [1, 2, 7, 8, 44, 45, 46] Jz, .bl 0, .td 2 [6], .sq (.keep [] J07)] (X (J2 p) (.lp 3 [1, 2, 7, 8, 10, 11, 44, 45, 46] J0j) ⟨[(1, .p (.i .i64 x1)), (2, .p (.s x2)), (7, .ptr 0 0), (8, .ptr 1 0), (10, .ptr 2 0), (11, .p (.i .i64 s.1)), (44, .p (.sl 3 (List.map J3 x44))), (45, .p (.i .i64 x45)), (46, .p (.i .i64 x46))], [.box (List.map AV.p (J0 s.2)), .box (List.map AV.p (J3 b1)), .box (List.map AV.p (J3 b2))]⟩) = (J4A p x1 x2 x44 x45 b1) o := by
 have h0 : Jx (fun s => J4n x1 x2 x44 x45 x46 b1 b2 s.1 s.2) s = some o := h
 exact J0m (P := fun (s : Int × T_pagemenddraw_Codes) (o : ((Int × T_pagemenddraw_Codes) ⊕ (Bool))) => rk (J2 p) JT 0 [.bl 2, .bl 1, .td 2 [1, 2, 6, 7, 8, 44, 45, 46], .sq (.keep [1, 2, 7, 8, 44, 45, 46] J0V), .lo 2 [1, 2, 7, 8, 44, 45, 46] Jz, .bl 0, .td 2 [6], .sq (.keep [] J07)] (X (J2 p) (.lp 3 [1, 2, 7, 8, 10, 11, 44, 45, 46] J0j) ⟨[(1, .p (.i .i64 x1)), (2, .p (.s x2)), (7, .ptr 0 0), (8, .ptr 1 0), (10, .ptr 2 0), (11, .p (.i .i64 s.1)), (44, .p (.sl 3 (List.map J3 x44))), (45, .p (.i .i64 x45)), (46, .p (.i .i64 x46))], [.box (List.map AV.p (J0 s.2)), .box (List.map AV.p (J3 b1)), .box (List.map AV.p (J3 b2))]⟩) = (J4A p x1 x2 x44 x45 b1) o) (fun s r hs => by rw [J0k]; exact Jb4 p hs) (fun s s1 r hs ih => by rw [J0k]; exact (Jb4 p hs).trans ih) h0
def J68  : Option (Bool) :=
 some true
theorem Jex {B0 B1 : List PV} {o : Bool} (h : J68 = some o) :
  rk (J2 p) JT 0 [] (X (J2 p) J07 ⟨[], [.box (List.map AV.p B0), .box (List.map AV.p B1)]⟩) = J47 o := by
 unfold J68 at h
 obtain rfl := sj h
 try simp only [↓Da, Ua, J07, J0p, ↓reduceIte, reduceEqDiff, reduceAdd, reduceLT, reduceMul]
 rfl
def J4w (x1 : Int) (x2 : List UInt8) (x44 : List T_api_Image) (x45 : Int) (b1 : T_api_Image) (x46 : Int) (b0 : T_pagemenddraw_Codes) : Option (((Int × T_pagemenddraw_Codes) ⊕ (Bool))) :=
 if (decide (x46 < x45)) then
  Option.bind (idx x44 x46) fun y2 =>
  Option.bind (J0u y2) fun r5 =>
  Option.bind (J1Z y2) fun r9 =>
  if (r5 == r9) then
   Option.bind (J4Z y2) fun r14 =>
   Option.bind (J51 y2) fun r18 =>
   if (r14 == r18) then
    Option.bind (J3M y2 y2) fun r23 =>
    if r23 then
     Option.bind (J3M b1 y2) fun r28 =>
     Option.bind (J4m b1 y2) fun r32 =>
     if (r28 == r32) then
      J4s x1 x2 x44 x45 x46 b1 y2 ((-1), b0)
     else
      some (.inr false)
    else
     some (.inr false)
   else
    some (.inr false)
  else
   some (.inr false)
 else
  Option.map (fun o => .inr o) (J68)
theorem Jb8 {x1 : Int} {x2 : List UInt8} {x44 : List T_api_Image} {x45 : Int} {b1 : T_api_Image} {x46 : Int} {b0 : T_pagemenddraw_Codes} {o : ((Int × T_pagemenddraw_Codes) ⊕ (Bool))} (h : J4w x1 x2 x44 x45 b1 x46 b0 = some o) :
  rk (J2 p) JT 0 [.lo 2 [1, 2, 7, 8, 44, 45, 46] Jz, .bl 0, .td 2 [6], .sq (.keep [] J07)] (X (J2 p) Jz ⟨[(1, .p (.i .i64 x1)), (2, .p (.s x2)), (7, .ptr 0 0), (8, .ptr 1 0), (44, .p (.sl 3 (List.map J3 x44))), (45, .p (.i .i64 x45)), (46, .p (.i .i64 x46))], [.box (List.map AV.p (J0 b0)), .box (List.map AV.p (J3 b1))]⟩) = (J4A p x1 x2 x44 x45 b1) o := by
 unfold J4w at h
 rcases Ja h with ⟨h1, h⟩ | ⟨h1, h⟩
 ·obtain ⟨y2, h3, h⟩ := bi h
  have f4 := J2e (r := J3) h3
  try simp only [Nf] at f4
  obtain ⟨r5, h6, h⟩ := bi h
  have f7 := J6S p h6
  try simp only [Nf] at f7
  have f8 : ∀ ws k new s, Jf ((Jj (AF (J2 p)) J22 ([.data (J3 y2)], ws) k new).reads s) = [] := J04 rfl
  try simp only [Nf] at f8
  obtain ⟨r9, h10, h⟩ := bi h
  have f11 := J8A p h10
  try simp only [Nf] at f11
  have f12 : ∀ ws k new s, Jf ((Jj (AF (J2 p)) J2t ([.data (J3 y2)], ws) k new).reads s) = [] := J04 rfl
  try simp only [Nf] at f12
  try simp only [↓Da, Ua, Ra, Jz, J9, J8, *, ↓reduceIte, reduceEqDiff, reduceAdd, reduceLT, reduceMul, Nat.reduceBEq]
  rcases Ja h with ⟨h13, h⟩ | ⟨h13, h⟩
  ·obtain ⟨r14, h15, h⟩ := bi h
   have f16 := Jm5 p h15
   try simp only [Nf] at f16
   have f17 : ∀ ws k new s, Jf ((Jj (AF (J2 p)) J5P ([.data (J3 y2)], ws) k new).reads s) = [] := J04 rfl
   try simp only [Nf] at f17
   obtain ⟨r18, h19, h⟩ := bi h
   have f20 := Jms p h19
   try simp only [Nf] at f20
   have f21 : ∀ ws k new s, Jf ((Jj (AF (J2 p)) J5W ([.data (J3 y2)], ws) k new).reads s) = [] := J04 rfl
   try simp only [Nf] at f21
   try simp only [↓Da, Ua, Ra, Jz, J9, J8, *, ↓reduceIte, reduceEqDiff, reduceAdd, reduceLT, reduceMul, Nat.reduceBEq]
   rcases Ja h with ⟨h22, h⟩ | ⟨h22, h⟩
   ·obtain ⟨r23, h24, h⟩ := bi h
    have f25 := JfT p h24
    try simp only [Nf] at f25
    have f26 : ∀ ws k new s, Jf ((Jj (AF (J2 p)) J4y ([.data (J3 y2), .data (J3 y2)], ws) k new).reads s) = [] := J04 rfl
    try simp only [Nf] at f26
    try simp only [↓Da, Ua, Ra, Jz, J9, J8, *, ↓reduceIte, reduceEqDiff, reduceAdd, reduceLT, reduceMul, Nat.reduceBEq]
    rcases Ja h with ⟨h27, h⟩ | ⟨h27, h⟩
    ·obtain ⟨r28, h29, h⟩ := bi h
     have f30 := JfT p h29
     try simp only [Nf] at f30
     have f31 : ∀ ws k new s, Jf ((Jj (AF (J2 p)) J4y ([.data (J3 b1), .data (J3 y2)], ws) k new).reads s) = [] := J04 rfl
     try simp only [Nf] at f31
     obtain ⟨r32, h33, h⟩ := bi h
     have f34 := JgN p h33
     try simp only [Nf] at f34
     have f35 : ∀ ws k new s, Jf ((Jj (AF (J2 p)) J5u ([.data (J3 b1), .data (J3 y2)], ws) k new).reads s) = [] := J04 rfl
     try simp only [Nf] at f35
     try simp only [↓Da, Ua, Ra, Jz, J9, J8, *, ↓reduceIte, reduceEqDiff, reduceAdd, reduceLT, reduceMul, Nat.reduceBEq]
     rcases Ja h with ⟨h36, h⟩ | ⟨h36, h⟩
     ·try simp only [↓Da, Ua, Ra, Jz, J9, J8, *, ↓reduceIte, reduceEqDiff, reduceAdd, reduceLT, reduceMul, Nat.reduceBEq]
      have e0 := JdE p h
      exact e0
     ·obtain rfl := sj h
      try simp only [↓Da, Ua, Ra, Jz, J9, J8, J0p, *, ↓reduceIte, reduceEqDiff, reduceAdd, reduceLT, reduceMul, Nat.reduceBEq]
      rfl
    ·obtain rfl := sj h
     try simp only [↓Da, Ua, Ra, Jz, J9, J8, J0p, *, ↓reduceIte, reduceEqDiff, reduceAdd, reduceLT, reduceMul, Nat.reduceBEq]
     rfl
   ·obtain rfl := sj h
    try simp only [↓Da, Ua, Ra, Jz, J9, J8, J0p, *, ↓reduceIte, reduceEqDiff, reduceAdd, reduceLT, reduceMul, Nat.reduceBEq]
    rfl
  ·obtain rfl := sj h
   try simp only [↓Da, Ua, Ra, Jz, J9, J8, J0p, *, ↓reduceIte, reduceEqDiff, reduceAdd, reduceLT, reduceMul, Nat.reduceBEq]
   rfl
 ·obtain ⟨o', h', rfl⟩ := mi h
  try simp only [↓Da, Ua, Ra, Jz, J9, J8, *, ↓reduceIte, reduceEqDiff, reduceAdd, reduceLT, reduceMul, Nat.reduceBEq]
  have e0 := Jex p (B0 := (J0 b0)) (B1 := (J3 b1)) h'
  exact e0
def J8e (x1 : Int) (x2 : List UInt8) (x44 : List T_api_Image) (x45 : Int) (b1 : T_api_Image) (s : Int × T_pagemenddraw_Codes) : Option (Bool) :=
 Jx (fun s => J4w x1 x2 x44 x45 b1 s.1 s.2) s
theorem JdU {x1 : Int} {x2 : List UInt8} {x44 : List T_api_Image} {x45 : Int} {b1 : T_api_Image} {s : Int × T_pagemenddraw_Codes} {o : Bool} (h : J8e x1 x2 x44 x45 b1 s = some o) :
  rk (J2 p) JT 0 [.bl 0, .td 2 [6], .sq (.keep [] J07)] (X (J2 p) (.lp 2 [1, 2, 7, 8, 44, 45, 46] Jz) ⟨[(1, .p (.i .i64 x1)), (2, .p (.s x2)), (7, .ptr 0 0), (8, .ptr 1 0), (44, .p (.sl 3 (List.map J3 x44))), (45, .p (.i .i64 x45)), (46, .p (.i .i64 s.1))], [.box (List.map AV.p (J0 s.2)), .box (List.map AV.p (J3 b1))]⟩) = J47 o := by
 have h0 : Jx (fun s => J4w x1 x2 x44 x45 b1 s.1 s.2) s = some o := h
 exact J0m (P := fun (s : Int × T_pagemenddraw_Codes) (o : Bool) => rk (J2 p) JT 0 [.bl 0, .td 2 [6], .sq (.keep [] J07)] (X (J2 p) (.lp 2 [1, 2, 7, 8, 44, 45, 46] Jz) ⟨[(1, .p (.i .i64 x1)), (2, .p (.s x2)), (7, .ptr 0 0), (8, .ptr 1 0), (44, .p (.sl 3 (List.map J3 x44))), (45, .p (.i .i64 x45)), (46, .p (.i .i64 s.1))], [.box (List.map AV.p (J0 s.2)), .box (List.map AV.p (J3 b1))]⟩) = J47 o) (fun s r hs => by rw [J0k]; exact Jb8 p hs) (fun s s1 r hs ih => by rw [J0k]; exact (Jb8 p hs).trans ih) h0
def J42 (x0 : List Int) (x1 : Int) (x2 : List UInt8) : Option (Bool) :=
 Option.bind (J5Y) fun r1 =>
 if r1 then
  if (decide (((List.length x2 : Nat) : Int) > 2000)) then
   some true
  else
   Option.bind (J8l x0 400) fun r6 =>
   Option.bind (J87 r6) fun r9 =>
   Option.bind (J8M r9.2 r9.1) fun r12 =>
   J8e x1 x2 ([r9.1, r12.1] : List T_api_Image) ((List.length ([r9.1, r12.1] : List T_api_Image) : Nat) : Int) r9.1 (0, r12.2)
 else
  some (decide (((List.length x2 : Nat) : Int) > 2000))
theorem JdQ {x0 : List Int} {x1 : Int} {x2 : List UInt8} {o : Bool} (h : J42 x0 x1 x2 = some o) :
  rk (J2 p) JT 0 [] (X (J2 p) J1M ⟨[(0, .p (.sl 1 (List.map (r_i .u8) x0))), (1, .p (.i .i64 x1)), (2, .p (.s x2))], []⟩) = J47 o := by
 unfold J42 at h
 obtain ⟨r1, h2, h⟩ := bi h
 have f3 := Jmd p h2
 try simp only [Nf] at f3
 try simp only [↓Da, Ua, Ra, J1M, J9, J8, Jd, *, ↓reduceIte, reduceEqDiff, reduceAdd, reduceLT, reduceMul, Nat.reduceBEq]
 rcases Ja h with ⟨h4, h⟩ | ⟨h4, h⟩
 ·try simp only [↓Da, Ua, Ra, J1M, J9, J8, Jd, *, ↓reduceIte, reduceEqDiff, reduceAdd, reduceLT, reduceMul, Nat.reduceBEq]
  rcases Ja h with ⟨h5, h⟩ | ⟨h5, h⟩
  ·obtain rfl := sj h
   try simp only [↓Da, Ua, Ra, J1M, J9, J8, Jd, J0p, *, ↓reduceIte, reduceEqDiff, reduceAdd, reduceLT, reduceMul, Nat.reduceBEq]
   rfl
  ·obtain ⟨r6, h7, h⟩ := bi h
   have f8 : ∀ ws new s, (Jj (AF (J2 p)) J9I ([.p (.sl 1 (List.map (r_i .u8) x0)), .p (.i .i64 400)], ws) 1 new).run s = some ⟨.ptr new 0, ws ++ [(new, .box (List.map AV.p (J0 r6)))]⟩ := Jqy rfl (Jr3 p h7) (Jb _)
   try simp only [Nf] at f8
   obtain ⟨r9, h10, h⟩ := bi h
   have f11 : ∀ ws new s, JK ws s [0] [List.map AV.p (J0 r6)] → (Jj (AF (J2 p)) J7L ([.ptr 0 0], ws) 0 new).run s = some ⟨.data (J3 r9.1), ws ++ [(0, .box (List.map AV.p (J0 r9.2)))]⟩ := Jy (args' := [.ptr 0 0]) (bs := [0]) (css := [List.map AV.p (J0 r6)]) (css' := [List.map AV.p (J0 r9.2)]) rfl rfl rfl (by simp [Jk, Jb]) (Jnv p h10) rfl rfl (by simp [Jk, Jb])
   try simp only [Nf] at f11
   obtain ⟨r12, h13, h⟩ := bi h
   have f14 : ∀ ws new s, JK ws s [0] [List.map AV.p (J0 r9.2)] → (Jj (AF (J2 p)) J7z ([.ptr 0 0, .data (J3 r9.1)], ws) 0 new).run s = some ⟨.data (J3 r12.1), ws ++ [(0, .box (List.map AV.p (J0 r12.2)))]⟩ := Jy (args' := [.ptr 0 0, .data (J3 r9.1)]) (bs := [0]) (css := [List.map AV.p (J0 r9.2)]) (css' := [List.map AV.p (J0 r12.2)]) rfl rfl rfl (by simp [Jk, Jb]) (Jp4 p h13) rfl rfl (by simp [Jk, Jb])
   try simp only [Nf] at f14
   have f15 : ∀ ws k new s, JK ws s [0] [List.map AV.p (J0 r9.2)] → Jf ((Jj (AF (J2 p)) J7z ([.ptr 0 0, .data (J3 r9.1)], ws) k new).reads s) = [0] ++ ([0] ++ [0]) := J9S (args' := [.ptr 0 0, .data (J3 r9.1)]) (bs := [0]) (css := [List.map AV.p (J0 r9.2)]) rfl rfl rfl (by simp [Jk, Jb])
   try simp only [Nf] at f15
   try simp only [↓Da, Ua, Ra, J1M, J9, J8, Jd, *, ↓reduceIte, reduceEqDiff, reduceAdd, reduceLT, reduceMul, Nat.reduceBEq]
   have e0 := JdU p h
   exact e0
 ·obtain rfl := sj h
  try simp only [↓Da, Ua, Ra, J1M, J9, J8, Jd, J0p, *, ↓reduceIte, reduceEqDiff, reduceAdd, reduceLT, reduceMul, Nat.reduceBEq]
  rfl
theorem Jge {x0 : List Int} {x1 : Int} {x2 : List UInt8} {o : Bool} (h : J42 x0 x1 x2 = some o) : AF (J2 p) J7q [.p (.sl 1 (List.map (r_i .u8) x0)), .p (.i .i64 x1), .p (.s x2)] [] = J47 o :=
 (J0f (J2 p) (Jgu p) rfl).trans (JdQ p h)
end
end Go.Am
end
section
end
section
namespace Go.Am
theorem wrap64 {n : Int} (h1 : -9223372036854775808 ≤ n) (h2 : n ≤ 9223372036854775807) : IntKind.i64.wrap n = n := by
 simp [IntKind.wrap_i64]; omega
theorem JbA {n : Int} (h1 : 0 ≤ n) (h2 : n < 18446744073709551616) : IntKind.u64.wrap n = n := by
 rw [show IntKind.u64.wrap n = n % 18446744073709551616 by simp [IntKind.wrap, IntKind.bits, IntKind.signed]]; omega
theorem J2N {α : Type} (l : List α) (k : Nat) : idx l (k : Int) = l[k]? := by simp [idx]
theorem J5a {α : Type} {n : Nat} (v : Vector α n) (k : Nat) (h : k < n) : J93 v (k : Int) = some v[k] := by
 have e : (0 : Int) ≤ k ∧ (k : Int) < n := by omega
 simp [J93, e, h]
theorem J9N {n k : Nat} (h : k < n) : inb n (k : Int) = some () := by
 have e : (0 : Int) ≤ k ∧ (k : Int) < n := by omega
 simp [inb, e]
theorem J2L {k : Nat} (h : k < 1000000) : IntKind.i64.wrap ((k : Int) + 1) = ((k + 1 : Nat) : Int) := by
 rw [wrap64 (by omega) (by omega)]; simp
theorem J14 {σ ρ : Type} {f : σ → Option (σ ⊕ ρ)} (I : σ → Prop) (m : σ → Nat) (Q : ρ → Prop)
  (h : ∀ s, I s → (∃ s', f s = some (.inl s') ∧ I s' ∧ m s' < m s) ∨ (∃ r, f s = some (.inr r) ∧ Q r)) : ∀ s, I s → ∃ r, Jx f s = some r ∧ Q r := by
 have key : ∀ n s, m s ≤ n → I s → ∃ r, Jx f s = some r ∧ Q r := by
  intro n
  induction n with
  | zero =>
   intro s hm hs
   rcases h s hs with ⟨s', e, hs', hlt⟩ | ⟨r, e, hq⟩
   ·omega
   ·exact ⟨r, J2K e, hq⟩
  | succ n ih =>
   intro s hm hs
   rcases h s hs with ⟨s', e, hs', hlt⟩ | ⟨r, e, hq⟩
   ·obtain ⟨r, hr, hq⟩ := ih s' (by omega) hs'
    exact ⟨r, (J4C e).trans hr, hq⟩
   ·exact ⟨r, J2K e, hq⟩
 exact fun s hs => key (m s) s (Nat.le_refl _) hs
structure J0c (b : T_pagemenddraw_Codes) : Prop where
 at0 : 0 ≤ b.at_
 at1 : b.at_ ≤ b.l_.length
 len : b.l_.length ≤ 1000
 byte : ∀ x ∈ b.l_, 0 ≤ x ∧ x ≤ 255
theorem Jk6 {b : T_pagemenddraw_Codes} (hb : J0c b) {n : Int} (h1 : 1 ≤ n) (h2 : n ≤ 256) (m : Nat) : ∃ r b', J0G (m + 1) b n = some (r, b') ∧ J0c b' ∧ 0 ≤ r ∧ r < n := by
 obtain ⟨ha, hb1, hl, hx⟩ := hb
 simp only [J0G, J2J]
 by_cases hc : b.at_ ≥ (b.l_.length : Int)
 ·exact ⟨0, b, by simp [hc], ⟨ha, hb1, hl, hx⟩, by omega, by omega⟩
 ·obtain ⟨k, hk⟩ : ∃ k : Nat, b.at_ = (k : Int) := ⟨b.at_.toNat, by omega⟩
  have hk2 : k < b.l_.length := by omega
  have hy := hx _ (List.getElem_mem hk2)
  have e1 : ¬ n < 1 := by omega
  have e2 : ¬ n > 256 := by omega
  have e3 : idx b.l_ b.at_ = some b.l_[k] := by rw [hk, J2N, List.getElem?_eq_getElem hk2]
  have e4 : ¬ n = 0 := by omega
  refine ⟨(b.l_[k]).tmod n, ⟨b.l_, b.at_ + 1⟩, ?_, ⟨by show 0 ≤ b.at_ + 1; omega, by show b.at_ + 1 ≤ (b.l_.length : Int); omega, hl, hx⟩, Int.tmod_nonneg _ hy.1, Int.tmod_lt_of_pos _ (by omega)⟩
  simp only [hc, decide_false, e1, e2, e3, Option.bind_some, JkO, e4, if_false, Bool.false_eq_true]
  rw [wrap64 (by omega) (by omega), wrap64 (by omega) (by omega)]
theorem J3c {b : T_pagemenddraw_Codes} (hb : J0c b) {n : Int} (h1 : 1 ≤ n) (h2 : n ≤ 256) : ∃ r b', Jp b n = some (r, b') ∧ J0c b' ∧ 0 ≤ r ∧ r < n := Jk6 hb h1 h2 11
theorem Jwr {l : List Int} (h : ∀ x ∈ l, 0 ≤ x ∧ x ≤ 255) {n : Nat} (hn : n ≤ 1000) : ∃ b, J8l l (n : Int) = some b ∧ J0c b := by
 unfold J8l J9p
 by_cases hc : (l.length : Int) > n
 ·have : J2U l none (some (n : Int)) = some (l.take n) := by
   have e1 : (0 : Int) ≤ n ∧ n ≤ l.length := by omega
   have e2 : n ≤ l.length := by omega
   simp [J2U, JfX, JdT, e2]
  refine ⟨⟨l.take n, 0⟩, by simp [hc, this], ⟨by show (0 : Int) ≤ 0; omega, by show (0 : Int) ≤ _; omega, by simp; omega, fun x hx => h x (List.mem_of_mem_take hx)⟩⟩
 ·exact ⟨⟨l, 0⟩, by simp [hc], ⟨by show (0 : Int) ≤ 0; omega, by show (0 : Int) ≤ _; omega, by show l.length ≤ 1000; omega, h⟩⟩
theorem JpY {b : T_pagemenddraw_Codes} (hb : J0c b) {n : Int} (h0 : 0 ≤ n) (h1 : n ≤ 20) : ∃ s b', J3F n b = some (s, b') ∧ J0c b' := by
 have e0 : mkS 1 0 n (0 : Int) = some [] := by
  have : (0 : Int) ≤ n ∧ 1 * n ≤ 281474976710656 ∧ n ≤ 281474976710656 := by omega
  simp [mkS]; omega
 unfold J3F
 simp only [e0, Option.bind_some]
 obtain ⟨r, hr, hq⟩ := J14 (f := fun s : Int × T_pagemenddraw_Codes × List Int => J2F n s.1 s.2.1 s.2.2)
  (fun s => ∃ k : Nat, s.1 = k ∧ (k : Int) ≤ n ∧ J0c s.2.1 ∧ s.2.2.length = k) (fun s => (n - s.1).toNat) (fun r => J0c r.2)
  (fun s ⟨k, hk, hn, hc, hl⟩ => by
   obtain ⟨i, b, l⟩ := s
   simp only at hk hc hl
   subst hk
   by_cases hlt : (k : Int) < n
   ·left
    obtain ⟨r, b', e1, hb', _, _⟩ := J3c hc (n := 3) (by omega) (by omega)
    have e2 : J5r (l.length + 1) 1 = true := by simp [J5r]; omega
    have e3 : ∀ z : Int, JdS 1 l [z] = some (l ++ [z]) := fun z => by simp only [JdS, List.length_cons, List.length_nil, Nat.zero_add, e2, if_true]
    refine ⟨⟨((k + 1 : Nat) : Int), b', l ++ [IntKind.wrap .u8 (IntKind.wrap .i64 (97 + r))]⟩, ?_, ⟨k + 1, rfl, by simp; omega, hb', by simp [hl]⟩, by simp; omega⟩
    simp only [J2F, hlt, decide_true, if_true, e1, e3, Option.bind_some, J2L (show k < 1000000 by omega)]
   ·right
    refine ⟨(toStr l, b), ?_, hc⟩
    simp [J2F, J6C, hlt])
  (0, b, []) ⟨0, rfl, by simpa using h0, hb, rfl⟩
 exact ⟨r.1, r.2, hr, hq⟩
def Jq0 (c : Je) : Prop := c.Data.length ≤ 12 ∧ (c.Set = false → c.Data = [])
theorem Jse {b : T_pagemenddraw_Codes} (hb : J0c b) : ∃ c b', J4N b = some (c, b') ∧ J0c b' ∧ Jq0 c := by
 obtain ⟨r, b1, e1, hb1, _, _⟩ := J3c hb (n := 3) (by omega) (by omega)
 unfold J4N
 simp only [e1, Option.bind_some]
 by_cases h0 : r = 0
 ·exact ⟨⟨false, []⟩, b1, by simp [h0], hb1, by simp [Jq0]⟩
 ·have hd : ∃ s b', J4G b1 = some (s, b') ∧ J0c b' := by
   unfold J4G
   obtain ⟨r1, b2, e2, hb2, h21, h22⟩ := J3c hb1 (n := 5) (by omega) (by omega)
   obtain ⟨r2, b3, e3, hb3, _, _⟩ := J3c hb2 (n := 6) (by omega) (by omega)
   simp only [e2, e3, Option.bind_some]
   by_cases h6 : r2 = 0
   ·obtain ⟨r3, b4, e4, hb4, h41, h42⟩ := J3c hb3 (n := 14) (by omega) (by omega)
    obtain ⟨s, b5, e5, hb5⟩ := JpY hb4 h41 (by omega)
    exact ⟨s, b5, by simp [h6, e4, e5], hb5⟩
   ·obtain ⟨s, b5, e5, hb5⟩ := JpY hb3 h21 (by omega)
    exact ⟨s, b5, by simp [h6, e5], hb5⟩
  obtain ⟨s, b2, e2, hb2⟩ := hd
  have e3 : J2U s none (some (Jii (s.length : Int) 12)) = some (s.take (min s.length 12)) := by
   have e4 : Jii (s.length : Int) 12 = ((min s.length 12 : Nat) : Int) := by unfold Jii; split <;> omega
   have e5 : min s.length 12 ≤ s.length := by omega
   rw [e4]
   simp only [J2U, JfX, JdT]
   have e6 : (0 : Int) ≤ ((min s.length 12 : Nat) : Int) ∧ ((min s.length 12 : Nat) : Int) ≤ ((s.length : Nat) : Int) := by omega
   simp only [e6, and_self, if_true, Int.toNat_natCast, List.drop_zero, Nat.sub_zero]
  refine ⟨⟨true, s.take (min s.length 12)⟩, b2, ?_, hb2, ?_⟩
  ·simp only [e2, Option.bind_some, e3]
   simp [h0]
  ·refine ⟨?_, fun h => by cases h⟩
   simp only [List.length_take]; omega
def J62 (lsn : Int) (c : Je) : Prop := c.Data.length ≤ 12 ∧ (c.Set = false → c.Data = []) ∧ (c.Set = true → lsn ≠ 0)
structure J6s (p : T_api_Page) : Prop where
 id0 : 0 ≤ p.ID
 id1 : p.ID < 64
 lsn0 : 0 ≤ p.LSN
 lsn1 : p.LSN ≤ 1099511627776
 cells : ∀ (i : Nat) (h : i < 16), J62 p.LSN (p.Cells[i])
theorem Jov {id lsn : Int} (h0 : 0 ≤ id) (h1 : id < 64) (h2 : 0 ≤ lsn) (h3 : lsn ≤ 1099511627776) : J6s ⟨id, lsn, Vector.replicate 16 ⟨false, []⟩⟩ :=
 ⟨h0, h1, h2, h3, fun i h => by simp [J62]⟩
theorem Js4 {b : T_pagemenddraw_Codes} (hb : J0c b) {id : Int} (h0 : 0 ≤ id) (h1 : id < 64) : ∃ p b', J3o b id = some (p, b') ∧ J0c b' ∧ J6s p ∧ p.ID = id := by
 have go : ∀ (b : T_pagemenddraw_Codes) (lsn : Int) (b1 : T_api_Page), J0c b → 0 ≤ lsn → lsn ≤ 1099511627776 →
   ∃ p b', J3E b b1 ⟨id, lsn, Vector.replicate 16 ⟨false, []⟩⟩ = some (p, b') ∧ J0c b' ∧ J6s p ∧ p.ID = id := by
  intro b lsn b1 hb hl0 hl1
  unfold J3E
  by_cases hl : lsn > 0
  ·obtain ⟨r, b2, e1, hb2, hr0, hr1⟩ := J3c hb (n := 6) (by omega) (by omega)
   obtain ⟨o, ho, hq⟩ := J14 (f := fun s : Int × T_pagemenddraw_Codes × T_api_Page => J2G b1 s.1 s.2.1 s.2.2)
    (fun s => 0 ≤ s.1 ∧ s.1 ≤ 6 ∧ J0c s.2.1 ∧ J6s s.2.2 ∧ s.2.2.ID = id ∧ s.2.2.LSN = lsn) (fun s => s.1.toNat) (fun r => J0c r.2 ∧ J6s r.1 ∧ r.1.ID = id)
    (fun s ⟨i0, i1, hc, hp, hid, hlsn⟩ => by
     obtain ⟨i, b, p⟩ := s
     simp only at i0 i1 hc hp hid hlsn
     by_cases hi : i > 0
     ·left
      obtain ⟨r, b2, e1, hb2, hr0, hr1⟩ := J3c hc (n := 16) (by omega) (by omega)
      obtain ⟨c, b3, e2, hb3, hcf⟩ := Jse hb2
      obtain ⟨k, rfl⟩ : ∃ k : Nat, r = (k : Int) := ⟨r.toNat, by omega⟩
      have hk : k < 16 := by omega
      refine ⟨⟨i - 1, b3, ⟨p.ID, p.LSN, Jao p.Cells (k : Int) c⟩⟩, ?_, ⟨by show 0 ≤ i - 1; omega, by show i - 1 ≤ 6; omega, hb3, ?_, hid, hlsn⟩, by show (i - 1).toNat < i.toNat; omega⟩
      ·simp only [J2G, hi, decide_true, if_true, e1, e2, Option.bind_some, J9N hk, J5a _ k hk, wrap64 (show -9223372036854775808 ≤ i - 1 by omega) (by omega)]
      ·refine ⟨hp.id0, hp.id1, hp.lsn0, hp.lsn1, fun j hj => ?_⟩
       show J62 p.LSN ((Jao p.Cells (k : Int) c)[j])
       simp only [Jao, Int.toNat_natCast, Vector.getElem_setIfInBounds]
       split
       ·exact ⟨hcf.1, hcf.2, fun _ => by rw [hlsn]; omega⟩
       ·exact hp.cells j hj
     ·right
      exact ⟨(p, b), by simp [J2G, J3C, hi], hc, hp, hid⟩)
    (r, b2, ⟨id, lsn, Vector.replicate 16 ⟨false, []⟩⟩) ⟨hr0, by show r ≤ 6; omega, hb2, Jov h0 h1 hl0 hl1, rfl, rfl⟩
   refine ⟨o.1, o.2, ?_, hq.1, hq.2⟩
   simp only [hl, decide_true, if_true, e1, Option.bind_some]
   exact ho
  ·exact ⟨_, b, by simp [hl, J3C], hb, Jov h0 h1 hl0 hl1, rfl⟩
 obtain ⟨r, b1, e1, hb1, hr0, hr1⟩ := J3c hb (n := 50) (by omega) (by omega)
 obtain ⟨r2, b2, e2, hb2, _, _⟩ := J3c hb1 (n := 10) (by omega) (by omega)
 unfold J3o
 simp only [e1, e2, Option.bind_some]
 by_cases h9 : r2 = 9
 ·obtain ⟨r3, b3, e3, hb3, h30, h31⟩ := J3c hb2 (n := 2) (by omega) (by omega)
  have e4 : IntKind.wrap .i64 (1099511627776 - r3) = 1099511627776 - r3 := wrap64 (by omega) (by omega)
  simp only [h9, e3, Option.bind_some, e4]
  exact go b3 _ _ hb3 (by omega) (by omega)
 ·have e5 : ((r2 : Int) == 9) = false := by simpa using h9
  simp only [e5, Bool.false_eq_true, if_false]
  exact go b2 _ _ hb2 (by omega) (by omega)
end Go.Am
end
section
namespace Go.Am
theorem Jxm (x : Int) : ∃ k : Nat, J59 .u32 x 15 = (k : Int) ∧ k < 16 := by
 have h : (BitVec.ofInt 32 x &&& BitVec.ofInt 32 15).toNat ≤ 15 := by
  rw [BitVec.toNat_and]
  exact Nat.and_le_right
 refine ⟨(BitVec.ofInt 32 x &&& BitVec.ofInt 32 15).toNat, ?_, by omega⟩
 show (((BitVec.ofInt 32 x &&& BitVec.ofInt 32 15).toNat : Nat) : Int) % 4294967296 = _
 omega
theorem JmC : ∃ v, J2Q = some v := by
 have inner : ∀ (k : Nat) (b0 b1 : Vector Int 16), k < 16 → ∀ r : Int, ∃ o, J8m k k b0 b1 (r, 0) = some o ∧ ∃ v, o = .inl (((k + 1 : Nat) : Int), v) := by
  intro k b0 b1 hk r
  refine J14 (f := fun s : Int × Int => J0y k k b0 b1 s.1 s.2) (fun s => ∃ j : Nat, s.2 = j ∧ j ≤ 4) (fun s => (4 - s.2).toNat) _ (fun s ⟨j, hj, h4⟩ => ?_) (r, 0) ⟨0, rfl, by omega⟩
  obtain ⟨x, j'⟩ := s
  simp only at hj
  subst hj
  by_cases hlt : j < 4
  ·left
   have e1 : ((j : Nat) : Int) < 4 := by omega
   have e2 : J8X .u32 x 1 = some (x.fdiv (2 ^ (min (1 : Int).toNat IntKind.u32.bits))) := rfl
   by_cases hb : J59 .u32 x 1 = 1
   ·exact ⟨⟨_, ((j + 1 : Nat) : Int)⟩, by simp only [J0y, e1, decide_true, if_true, hb, beq_self_eq_true, e2, Option.bind_some, J2L (show j < 1000000 by omega)]; rfl, ⟨j + 1, rfl, by omega⟩, by simp; omega⟩
   ·have e3 : (J59 .u32 x 1 == 1) = false := by simpa using hb
    exact ⟨⟨_, ((j + 1 : Nat) : Int)⟩, by simp only [J0y, e1, decide_true, if_true, e3, Bool.false_eq_true, if_false, e2, Option.bind_some, J2L (show j < 1000000 by omega)]; rfl, ⟨j + 1, rfl, by omega⟩, by simp; omega⟩
  ·right
   have e1 : ¬ ((j : Nat) : Int) < 4 := by omega
   exact ⟨.inl (((k + 1 : Nat) : Int), Jao b1 k x), by simp only [J0y, e1, decide_false, Bool.false_eq_true, if_false, J4u, J4B, J9N hk, J5a _ k hk, Option.bind_some, Option.map_some, J2L (show k < 1000000 by omega)], _, rfl⟩
 obtain ⟨v, hv, _⟩ := J14 (f := fun s : Int × Vector Int 16 => J0Y (Vector.replicate 16 0) s.1 s.2) (fun s => ∃ j : Nat, s.1 = j ∧ j ≤ 16) (fun s => (16 - s.1).toNat) (fun _ => True) (fun s ⟨j, hj, h4⟩ => by
  obtain ⟨j', b1⟩ := s
  simp only at hj
  subst hj
  by_cases hlt : j < 16
  ·left
   have e1 : ((j : Nat) : Int) < 16 := by omega
   obtain ⟨o, ho, v, rfl⟩ := inner j (Vector.replicate 16 0) b1 hlt (IntKind.wrap .u32 (j : Int))
   exact ⟨⟨((j + 1 : Nat) : Int), v⟩, by simp only [J0Y, e1, decide_true, if_true]; exact ho, ⟨j + 1, rfl, by omega⟩, by simp; omega⟩
  ·right
   have e1 : ¬ ((j : Nat) : Int) < 16 := by omega
   exact ⟨b1, by simp only [J0Y, e1, decide_false, Bool.false_eq_true, if_false, J4F, Option.map_some], trivial⟩) (0, Vector.replicate 16 0) ⟨0, rfl, by omega⟩
 exact ⟨v, hv⟩
theorem J9x {l : List UInt8} {k : Nat} (h : k < l.length) : JcH l (k : Int) = some ((l[k]).toNat : Int) := by
 have e : (0 : Int) ≤ k := by omega
 simp [JcH, e, h]
theorem Jnm (l : List UInt8) (hl : l.length ≤ 1000) : ∃ r, J2B l = some r := by
 obtain ⟨v, hv⟩ := JmC
 obtain ⟨r, hr, _⟩ := J14 (f := fun s : Int × Int => J35 l (l.length : Int) v s.1 s.2) (fun s => ∃ j : Nat, s.2 = j ∧ j ≤ l.length) (fun s => (l.length - s.2).toNat) (fun _ => True) (fun s ⟨j, hj, h4⟩ => by
  obtain ⟨x, j'⟩ := s
  simp only at hj
  subst hj
  by_cases hlt : j < l.length
  ·left
   have e1 : ((j : Nat) : Int) < (l.length : Int) := by omega
   have e2 : ∀ z : Int, J8X .u32 z 4 = some (z.fdiv (2 ^ (min (4 : Int).toNat IntKind.u32.bits))) := fun _ => rfl
   have e3 : ∀ z : Int, ∃ y, inb 16 (J59 .u32 z 15) = some () ∧ J93 v (J59 .u32 z 15) = some y := by
    intro z
    obtain ⟨k, hk, hk2⟩ := Jxm z
    rw [hk]
    exact ⟨_, J9N hk2, J5a _ k hk2⟩
   obtain ⟨y1, a1, a2⟩ := e3 (J5Z .u32 x (IntKind.wrap .u32 (((l[j]).toNat : Nat) : Int)))
   obtain ⟨y2, a3, a4⟩ := e3 (J5Z .u32 ((J5Z .u32 x (IntKind.wrap .u32 (((l[j]).toNat : Nat) : Int))).fdiv (2 ^ (min (4 : Int).toNat IntKind.u32.bits))) y1)
   exact ⟨⟨_, ((j + 1 : Nat) : Int)⟩, by simp only [J35, e1, decide_true, if_true, J9x hlt, Option.bind_some, e2, a1, a2, a3, a4, J2L (show j < 1000000 by omega)]; rfl, ⟨j + 1, rfl, by omega⟩, by simp; omega⟩
  ·right
   have e1 : ¬ ((j : Nat) : Int) < (l.length : Int) := by omega
   exact ⟨_, by simp only [J35, e1, decide_false, Bool.false_eq_true, if_false, J8v, Option.map_some]; rfl, trivial⟩) (4294967295, 0) ⟨0, rfl, by omega⟩
 exact ⟨r, by unfold J2B; rw [hv]; exact hr⟩
theorem Ja1 (l : List UInt8) (n : Int) {k : Nat} (h1 : 1 ≤ k) (h8 : k ≤ 8) (hl : l.length ≤ 1000) : J0w l n (k : Int) = some (l ++ JM n k) := by
 have e1 : ¬ ((k : Int) < 1 ∨ 8 < (k : Int)) := by omega
 have e2 : l.length + 8 ≤ 140737488355328 := by omega
 show JgC l n k = _
 rw [JgC, if_neg e1, if_pos e2]
 simp
theorem Jej {a b : List UInt8} (ha : a.length ≤ 1000) (hb : b.length ≤ 1000) : J2I a b = some (a ++ b) := by
 have e : a.length + b.length ≤ 4611686018427387904 := by omega
 simp [J2I, e]
theorem JcP {n : Int} (h0 : 0 ≤ n) (h1 : n ≤ 1000) : J40 [0] n = some (List.replicate n.toNat 0) := by
 show Jlb [0] n = _
 have e : (0 : Int) ≤ n ∧ n ≤ 9223372036854775807 ∧ ([0] : List UInt8).length * n.toNat ≤ 140737488355328 := by
  refine ⟨h0, by omega, ?_⟩
  simp; omega
 rw [Jlb, if_pos e]
 have : ∀ k : Nat, (List.replicate k ([0] : List UInt8)).flatten = List.replicate k 0 := by
  intro k
  induction k with
  | zero => rfl
  | succ k ih => rw [List.replicate_succ, List.flatten_cons, ih]; rfl
 rw [this]
theorem JqN (b : T_page_builder) (c : Je) (hc : c.Data.length ≤ 12) (hb : b.s_.length ≤ 300) : ∃ t, J1U b c = some ⟨b.s_ ++ t⟩ ∧ t.length = 13 := by
 have go : ∀ x : Int, ∃ t, J1v x b c = some ⟨b.s_ ++ t⟩ ∧ t.length = 13 := by
  intro x
  have e0 : IntKind.wrap .i64 (12 - ((c.Data.length : Nat) : Int)) = ((12 - c.Data.length : Nat) : Int) := by rw [wrap64 (by omega) (by omega)]; omega
  have e1 := Ja1 b.s_ x (k := 1) (by omega) (by omega) (by omega)
  have e2 : J2I (b.s_ ++ JM x 1) c.Data = some (b.s_ ++ JM x 1 ++ c.Data) := Jej (by rw [List.length_append, JJ]; omega) (by omega)
  have e3 := JcP (n := ((12 - c.Data.length : Nat) : Int)) (by omega) (by omega)
  have e4 : J2I (b.s_ ++ JM x 1 ++ c.Data) (List.replicate (((12 - c.Data.length : Nat) : Int)).toNat 0) = some (b.s_ ++ JM x 1 ++ c.Data ++ List.replicate (((12 - c.Data.length : Nat) : Int)).toNat 0) := Jej (by simp only [List.length_append, JJ]; omega) (by simp; omega)
  refine ⟨JM x 1 ++ c.Data ++ List.replicate (((12 - c.Data.length : Nat) : Int)).toNat 0, ?_, ?_⟩
  ·unfold J1v
   rw [show (1 : Int) = ((1 : Nat) : Int) by rfl, e1, Option.bind_some, e2, Option.bind_some, e0, e3, Option.bind_some, e4, Option.bind_some]
   simp only [List.append_assoc]
  ·simp only [List.length_append, JJ, List.length_replicate]; omega
 unfold J1U
 split
 ·exact go _
 ·exact go _
structure Jrb (p : T_api_Page) (r : List UInt8 × Int) : Prop where
 ok : r.2 = 0
 len : r.1.length = 256
 head : r.1.take 8 = JM p.LSN 8
 tail : r.1.drop 248 = JM p.LSN 8
 id : (r.1.drop 8).take 4 = JM p.ID 4
theorem JlK (p : T_api_Page) : ∃ b, J5s p = some b ∧ (b = true → ∀ (i : Nat) (h : i < 16), (p.Cells[i]).Data.length ≤ 12) ∧ ((∀ (i : Nat) (h : i < 16), J62 p.LSN p.Cells[i]) → b = true) := by
 refine J14 (f := fun s : Int => J0n p.Cells p s) (fun s => ∃ j : Nat, s = j ∧ j ≤ 16 ∧ ∀ (i : Nat) (h : i < 16), i < j → (p.Cells[i]).Data.length ≤ 12) (fun s => (16 - s).toNat)
  (fun b => (b = true → ∀ (i : Nat) (h : i < 16), (p.Cells[i]).Data.length ≤ 12) ∧ ((∀ (i : Nat) (h : i < 16), J62 p.LSN p.Cells[i]) → b = true)) (fun s ⟨j, hj, h4, hc⟩ => ?_) 0 ⟨0, rfl, by omega, fun i h hh => by omega⟩
 subst hj
 by_cases hlt : j < 16
 ·have e1 : ((j : Nat) : Int) < 16 := by omega
  have e2 := J5a p.Cells j hlt
  have e3 := J2L (show j < 1000000 by omega)
  have bad : ¬ J62 p.LSN p.Cells[j] → (∀ (i : Nat) (h : i < 16), J62 p.LSN p.Cells[i]) → false = true := fun h1 h2 => (h1 (h2 j hlt)).elim
  by_cases h12 : (((p.Cells[j]).Data.length : Nat) : Int) > 12
  ·right
   exact ⟨false, by simp only [J0n, e1, decide_true, if_true, e2, Option.bind_some, h12], fun h => (by cases h), bad fun h => by have := h.1; omega⟩
  ·have nxt : ∀ (i : Nat) (h : i < 16), i < j + 1 → (p.Cells[i]).Data.length ≤ 12 := by
    intro i hi hij
    by_cases hh : i < j
    ·exact hc i hi hh
    ·obtain rfl : i = j := by omega
     omega
   by_cases hs : (p.Cells[j]).Set = true
   ·by_cases hl : p.LSN = 0
    ·right
     exact ⟨false, by simp only [J0n, e1, decide_true, if_true, e2, Option.bind_some, h12, decide_false, Bool.false_eq_true, if_false, hs, hl, beq_self_eq_true], fun h => (by cases h), bad fun h => h.2.2 hs hl⟩
    ·left
     have e4 : (p.LSN == 0) = false := by simpa using hl
     exact ⟨((j + 1 : Nat) : Int), by simp only [J0n, e1, decide_true, if_true, e2, Option.bind_some, h12, decide_false, Bool.false_eq_true, if_false, hs, e4, e3], ⟨j + 1, rfl, by omega, nxt⟩, by omega⟩
   ·have hs' : (p.Cells[j]).Set = false := by simpa using hs
    by_cases hd : (p.Cells[j]).Data = []
    ·left
     exact ⟨((j + 1 : Nat) : Int), by simp only [J0n, e1, decide_true, if_true, e2, Option.bind_some, h12, decide_false, Bool.false_eq_true, if_false, hs', hd, beq_self_eq_true, e3]; rfl, ⟨j + 1, rfl, by omega, nxt⟩, by omega⟩
    ·right
     have e4 : ((p.Cells[j]).Data == []) = false := by simpa using hd
     exact ⟨false, by simp only [J0n, e1, decide_true, if_true, e2, Option.bind_some, h12, decide_false, Bool.false_eq_true, if_false, hs', e4], fun h => (by cases h), bad fun h => hd (h.2.1 hs')⟩
 ·right
  have e1 : ¬ ((j : Nat) : Int) < 16 := by omega
  exact ⟨true, by simp only [J0n, e1, decide_false, Bool.false_eq_true, if_false, J8a, Option.map_some], fun _ i h => hc i h (by omega), fun _ => rfl⟩
end Go.Am
end
section
namespace Go.Am
theorem JoV {σ ρ : Type} {f g : σ → Option (σ ⊕ ρ)} (I : σ → Prop) (h1 : ∀ s, I s → f s = g s) (h2 : ∀ s s', I s → f s = some (.inl s') → I s') {s : σ} (hs : I s) : Jx f s = Jx g s := by
 have key : ∀ (f g : σ → Option (σ ⊕ ρ)), (∀ s, I s → f s = g s) → (∀ s s', I s → f s = some (.inl s') → I s') → ∀ r s, I s → Jx f s = some r → Jx g s = some r := by
  intro f g h1 h2 r s hs h
  exact J0m (P := fun s r => I s → Jx g s = some r) (fun s r e hs => J2K ((h1 s hs) ▸ e)) (fun s s' r e ih hs => (J4C ((h1 s hs) ▸ e)).trans (ih (h2 s s' hs e))) h hs
 cases hf : Jx f s with
 | some r => exact (key f g h1 h2 r s hs hf).symm
 | none =>
  cases hg : Jx g s with
  | none => rfl
  | some r => rw [key g f (fun s hs => (h1 s hs).symm) (fun s s' hs e => h2 s s' hs ((h1 s hs).trans e)) r s hs hg] at hf; cases hf
theorem Jso {σ ρ τ ρ' : Type} {f : σ → Option (σ ⊕ ρ)} {g : τ → Option (τ ⊕ ρ')} (R : σ → τ → Prop) (K : ρ → ρ' → Prop)
  (h1 : ∀ s t s', R s t → f s = some (.inl s') → ∃ t', g t = some (.inl t') ∧ R s' t') (h2 : ∀ s t r, R s t → f s = some (.inr r) → ∃ r', g t = some (.inr r') ∧ K r r')
  {s : σ} {t : τ} {r : ρ} (hR : R s t) (h : Jx f s = some r) : ∃ r', Jx g t = some r' ∧ K r r' := by
 exact J0m (P := fun s r => ∀ t, R s t → ∃ r', Jx g t = some r' ∧ K r r')
  (fun s r e t ht => by obtain ⟨r', a, b⟩ := h2 s t r ht e; exact ⟨r', J2K a, b⟩)
  (fun s s' r e ih t ht => by obtain ⟨t', a, b⟩ := h1 s t s' ht e; obtain ⟨r', c, d⟩ := ih t' b; exact ⟨r', (J4C a).trans c, d⟩) h t hR
theorem J8W {a b : List UInt8} (h : a.length + b.length ≤ 1000000000) : J2I a b = some (a ++ b) := by
 have e : a.length + b.length ≤ 4611686018427387904 := by omega
 simp [J2I, e]
theorem Jh4 (l : List UInt8) (n : Int) {k : Nat} (h1 : 1 ≤ k) (h8 : k ≤ 8) (hl : l.length ≤ 1000000) : J0w l n (k : Int) = some (l ++ JM n k) := by
 have e1 : ¬ ((k : Int) < 1 ∨ 8 < (k : Int)) := by omega
 have e2 : l.length + 8 ≤ 140737488355328 := by omega
 show JgC l n k = _
 rw [JgC, if_neg e1, if_pos e2]
 simp
theorem JoB {n : Int} (h1 : 0 ≤ n) (h2 : n < 1000000) : IntKind.wrap .u64 (IntKind.wrap .i64 n) = n := by
 rw [wrap64 (by omega) (by omega), JbA h1 (by omega)]
theorem JaP (l : List UInt8) (n : Int) {k : Nat} (h1 : 1 ≤ k) (h8 : k ≤ 8) (hl : l.length ≤ 1000000) : J1z l n (k : Int) = some (l ++ JM n k) := by
 have c1 : ¬ (k : Int) < 1 := by omega
 have c2 : ¬ (k : Int) > 8 := by omega
 have key : ∀ (m j : Nat), j + m = k → Jx (fun s : List UInt8 × Int => J5O n k s.1 s.2) (l ++ JM n j, (j : Int)) = some (l ++ JM n k) := by
  intro m
  induction m with
  | zero =>
   intro j hj
   obtain rfl : j = k := by omega
   have e1 : ¬ ((j : Nat) : Int) < (j : Int) := by omega
   refine J2K ?_
   simp only [J5O, e1, decide_false, Bool.false_eq_true, if_false, Jak, Option.map_some]
  | succ m ih =>
   intro j hj
   have e1 : ((j : Nat) : Int) < (k : Int) := by omega
   have e2 : IntKind.wrap .u64 (IntKind.wrap .i64 (8 * (j : Int))) = 8 * (j : Int) := JoB (by omega) (by omega)
   have e3 : J8X .u64 (IntKind.wrap .u64 n) (8 * (j : Int)) = some ((IntKind.wrap .u64 n).fdiv (2 ^ (8 * j))) := by
    simp only [J8X]
    rw [if_neg (by omega)]
    have : min (8 * (j : Int)).toNat IntKind.u64.bits = 8 * j := by
     rw [show (8 * (j : Int)).toNat = 8 * j by omega]
     exact Nat.min_eq_left (by show 8 * j ≤ 64; omega)
    rw [this]
   have e4 : toStr [IntKind.wrap .u8 ((IntKind.wrap .u64 n).fdiv (2 ^ (8 * j)))] = [UInt8.ofNat (J8z n j).toNat] := rfl
   have e5 : J2I (l ++ JM n j) [UInt8.ofNat (J8z n j).toNat] = some (l ++ JM n (j + 1)) := by
    rw [J8W (by rw [List.length_append, JJ]; simp; omega), Jm4, List.append_assoc]
   refine (J4C (s' := (l ++ JM n (j + 1), ((j + 1 : Nat) : Int))) ?_).trans (ih (j + 1) (by omega))
   simp only [J5O, e1, decide_true, if_true, e2, e3, Option.bind_some, e4, e5, J2L (show j < 1000000 by omega)]
 unfold J1z
 simp only [c1, c2, decide_false, Bool.false_eq_true, if_false]
 have h0 := key k 0 (by omega)
 have e : JM n 0 = [] := rfl
 rw [e, List.append_nil] at h0
 exact h0
theorem Jl2 (s : List UInt8) (at_ : Int) {k : Int} (h1 : 1 ≤ k) (h8 : k ≤ 8) : J36 s at_ k = J16 s at_ k := by
 have key : JbV s at_ k (0, 0) = Jc4 s at_ k (0, 0) := by
  refine JoV (fun q : Int × Int => 0 ≤ q.2 ∧ q.2 ≤ k) (fun q ⟨h0, h2⟩ => ?_) (fun q q' ⟨h0, h2⟩ e => ?_) ⟨by simp, by simp; omega⟩
  ·have e2 : IntKind.wrap .u64 (IntKind.wrap .i64 (8 * q.2)) = 8 * q.2 := JoB (by omega) (by omega)
   have e3 : IntKind.wrap .i64 (8 * q.2) = 8 * q.2 := wrap64 (by omega) (by omega)
   have e4 : IntKind.wrap .u64 (8 * q.2) = 8 * q.2 := JbA (by omega) (by omega)
   simp only [J70, J0S, e3, e4]
   rfl
  ·simp only [J70] at e
   split at e
   ·rename_i hlt
    simp only [decide_eq_true_eq] at hlt
    simp only [Option.bind_eq_some_iff, Option.some.injEq, Sum.inl.injEq] at e
    obtain ⟨_, _, _, _, rfl⟩ := e
    have e3 : IntKind.wrap .i64 (q.2 + 1) = q.2 + 1 := wrap64 (by omega) (by omega)
    simp only [e3]
    omega
   ·simp [Jai] at e
 unfold J36 J16
 rw [key]
def P32 : Nat := 2197175160
def gb (c : Nat) : Nat := if c % 2 = 1 then c / 2 ^^^ P32 else c / 2
def gN : Nat → Nat → Nat
 | 0, c => c
 | j + 1, c => gN j (gb c)
def sl (b : Nat) : Nat := if b = 1 then P32 else 0
theorem Jk5 (c : Nat) : gb c = c / 2 ^^^ sl (c % 2) := by
 unfold gb sl
 split
 ·rfl
 ·rw [Nat.xor_zero]
theorem JwF (x y : Nat) : gb (x ^^^ y) = gb x ^^^ gb y := by
 have e1 : (x ^^^ y) / 2 = x / 2 ^^^ y / 2 := by have := @Nat.xor_div_two_pow x y 1; simpa using this
 have e2 : (x ^^^ y) % 2 = x % 2 ^^^ y % 2 := by have := @Nat.xor_mod_two_pow x y 1; simpa using this
 simp only [Jk5, e1, e2]
 have e3 : sl (x % 2 ^^^ y % 2) = sl (x % 2) ^^^ sl (y % 2) := by
  rcases Nat.mod_two_eq_zero_or_one x with h | h <;> rcases Nat.mod_two_eq_zero_or_one y with h' | h' <;> rw [h, h'] <;> decide
 rw [e3]
 ac_rfl
theorem Jjn : ∀ (j x y : Nat), gN j (x ^^^ y) = gN j x ^^^ gN j y
 | 0, _, _ => rfl
 | j + 1, x, y => by simp only [gN]; rw [JwF, Jjn j]
theorem JrD : ∀ (i j x : Nat), gN (i + j) x = gN j (gN i x)
 | 0, j, x => by simp [gN]
 | i + 1, j, x => by rw [Nat.succ_add]; simp only [gN]; exact JrD i j _
theorem Jq5 (c : Nat) : gN 4 c = c / 16 ^^^ (sl (c / 8 % 2) ^^^ gN 1 (sl (c / 4 % 2)) ^^^ gN 2 (sl (c / 2 % 2)) ^^^ gN 3 (sl (c % 2))) := by
 have s1 : gN 4 c = gN 3 (c / 2) ^^^ gN 3 (sl (c % 2)) := by
  rw [← Jjn, ← Jk5]; rfl
 have s2 : gN 3 (c / 2) = gN 2 (c / 4) ^^^ gN 2 (sl (c / 2 % 2)) := by
  rw [← Jjn, show c / 4 = c / 2 / 2 by omega, ← Jk5]; rfl
 have s3 : gN 2 (c / 4) = gN 1 (c / 8) ^^^ gN 1 (sl (c / 4 % 2)) := by
  rw [← Jjn, show c / 8 = c / 4 / 2 by omega, ← Jk5]; rfl
 have s4 : gN 1 (c / 8) = c / 16 ^^^ sl (c / 8 % 2) := by
  rw [show c / 16 = c / 8 / 2 by omega, ← Jk5]; rfl
 rw [s1, s2, s3, s4]
 ac_rfl
theorem JtM (c : Nat) : gN 4 c = c / 16 ^^^ gN 4 (c % 16) := by
 rw [Jq5 c, Jq5 (c % 16)]
 have a0 : c % 16 / 16 = 0 := by omega
 have a1 : c % 16 / 8 % 2 = c / 8 % 2 := by omega
 have a2 : c % 16 / 4 % 2 = c / 4 % 2 := by omega
 have a3 : c % 16 / 2 % 2 = c / 2 % 2 := by omega
 have a4 : c % 16 % 2 = c % 2 := by omega
 rw [a0, a1, a2, a3, a4, Nat.zero_xor]
theorem JoD : P32 < 2 ^ 32 := by decide
theorem JqB {c : Nat} (h : c < 2 ^ 32) : gb c < 2 ^ 32 := by
 unfold gb
 split
 ·exact Nat.xor_lt_two_pow (by omega) JoD
 ·omega
theorem JgZ : ∀ {j c : Nat}, c < 2 ^ 32 → gN j c < 2 ^ 32
 | 0, _, h => h
 | j + 1, _, h => JgZ (j := j) (JqB h)
theorem JbF (n : Nat) (h : n < 2 ^ 32) : IntKind.wrap .u32 (n : Int) = (n : Int) := by
 rw [show IntKind.wrap .u32 (n : Int) = (n : Int) % 4294967296 from rfl]; omega
theorem Jky {n : Nat} (h : n < 2 ^ 32) : (BitVec.ofInt 32 (n : Int)).toNat = n := by
 rw [BitVec.toNat_ofInt]; omega
theorem JcS {x y : Nat} (hx : x < 2 ^ 32) (hy : y < 2 ^ 32) : J5Z .u32 (x : Int) (y : Int) = ((x ^^^ y : Nat) : Int) := by
 show IntKind.wrap .u32 (((BitVec.ofInt 32 (x : Int) ^^^ BitVec.ofInt 32 (y : Int)).toNat : Nat) : Int) = _
 rw [BitVec.toNat_xor, Jky hx, Jky hy, JbF _ (Nat.xor_lt_two_pow hx hy)]
theorem JnI {x : Nat} (hx : x < 2 ^ 32) (k : Nat) (hk : k ≤ 20) : J59 .u32 (x : Int) ((2 ^ k - 1 : Nat) : Int) = ((x % 2 ^ k : Nat) : Int) := by
 show IntKind.wrap .u32 (((BitVec.ofInt 32 (x : Int) &&& BitVec.ofInt 32 ((2 ^ k - 1 : Nat) : Int)).toNat : Nat) : Int) = _
 have h2 : 2 ^ k - 1 < 2 ^ 32 := by
  have : (2 : Nat) ^ k ≤ 2 ^ 20 := Nat.pow_le_pow_right (by omega) hk
  omega
 rw [BitVec.toNat_and, Jky hx, Jky h2, Nat.and_two_pow_sub_one_eq_mod, JbF _ (Nat.lt_of_le_of_lt (Nat.mod_le _ _) hx)]
theorem JwV {x : Nat} (hx : x < 2 ^ 32) : J59 .u32 (x : Int) 1 = ((x % 2 : Nat) : Int) := JnI hx 1 (by omega)
theorem JwD {x : Nat} (hx : x < 2 ^ 32) : J59 .u32 (x : Int) 15 = ((x % 16 : Nat) : Int) := JnI hx 4 (by omega)
theorem Jwq (x : Nat) : J8X .u32 (x : Int) 1 = some ((x / 2 : Nat) : Int) := by
 show some ((x : Int).fdiv 2) = _
 rw [Int.fdiv_eq_ediv_of_nonneg _ (by omega)]; simp
theorem Jy3 (x : Nat) : J8X .u32 (x : Int) 4 = some ((x / 16 : Nat) : Int) := by
 show some ((x : Int).fdiv 16) = _
 rw [Int.fdiv_eq_ediv_of_nonneg _ (by omega)]; simp
def Jid : List UInt8 → Nat → Nat
 | [], c => c
 | b :: r, c => Jid r (gN 8 (c ^^^ b.toNat))
theorem JbE (b : UInt8) : b.toNat < 2 ^ 32 := by have := UInt8.toNat_lt b; omega
theorem Jql : ∀ {l : List UInt8} {c : Nat}, c < 2 ^ 32 → Jid l c < 2 ^ 32
 | [], _, h => h
 | b :: r, _, h => Jql (l := r) (JgZ (Nat.xor_lt_two_pow h (JbE b)))
def crc (l : List UInt8) : Nat := Jid l 4294967295 ^^^ 4294967295
theorem Jk0 (l : List UInt8) : crc l < 2 ^ 32 := Nat.xor_lt_two_pow (Jql (by decide)) (by decide)
theorem JnL {x : Nat} (hx : x < 2 ^ 32) : JqK .u32 (x : Int) = ((x ^^^ 4294967295 : Nat) : Int) := by
 show IntKind.wrap .u32 (((BitVec.ofInt 32 4294967295 ^^^ BitVec.ofInt 32 (x : Int)).toNat : Nat) : Int) = _
 rw [BitVec.toNat_xor, Jky hx, show (4294967295 : Int) = ((4294967295 : Nat) : Int) by rfl, Jky (by decide), Nat.xor_comm, JbF _ (Nat.xor_lt_two_pow hx (by decide))]
theorem Jq7 (l : List UInt8) (hl : l.length ≤ 100000) : J7y l = some ((crc l : Nat) : Int) := by
 have inner : ∀ (x : Nat) (m k c : Nat), c < 2 ^ 32 → x < 200000 → k + m = 8 → Jx (fun s : Int × Int => J5Q l (x : Int) s.1 s.2) ((c : Int), (k : Int)) = some (.inl (((gN m c : Nat) : Int), ((x + 1 : Nat) : Int))) := by
  intro x m
  induction m with
  | zero =>
   intro k c hc hx hk
   obtain rfl : k = 8 := by omega
   refine J2K ?_
   have e1 : ¬ (((8 : Nat) : Nat) : Int) < 8 := by omega
   simp only [J5Q, e1, decide_false, Bool.false_eq_true, if_false, Ja8, Option.map_some, J2L (show x < 1000000 by omega), gN]
  | succ m ih =>
   intro k c hc hx hk
   have e1 : ((k : Nat) : Int) < 8 := by omega
   refine (J4C (s' := (((gb c : Nat) : Int), ((k + 1 : Nat) : Int))) ?_).trans (ih (k + 1) (gb c) (JqB hc) hx (by omega))
   have e2 := JwV hc
   simp only [J5Q, e1, decide_true, if_true, e2, Jwq, Option.bind_some, J8C, J2L (show k < 1000000 by omega)]
   unfold gb
   by_cases hb : c % 2 = 1
   ·simp only [hb, if_true, Int.natCast_one, beq_self_eq_true]
    rw [show (2197175160 : Int) = ((P32 : Nat) : Int) by rfl, JcS (by omega) JoD]
   ·have e3 : (((c % 2 : Nat) : Int) == 1) = false := by simp; omega
    simp only [hb, if_false, e3, Bool.false_eq_true]
 have outer : ∀ (m j c : Nat), c < 2 ^ 32 → j + m = l.length → Jx (fun s : Int × Int => J5K l s.1 s.2) ((c : Int), (j : Int)) = some (((Jid (l.drop j) c ^^^ 4294967295 : Nat) : Int)) := by
  intro m
  induction m with
  | zero =>
   intro j c hc hj
   obtain rfl : j = l.length := by omega
   refine J2K ?_
   have e1 : ¬ ((l.length : Nat) : Int) < ((l.length : Nat) : Int) := by omega
   simp only [J5K, e1, decide_false, Bool.false_eq_true, if_false, Jaa, Option.map_some, JnL hc, List.drop_length, Jid]
  | succ m ih =>
   intro j c hc hj
   have hlt : j < l.length := by omega
   have e1 : ((j : Nat) : Int) < ((l.length : Nat) : Int) := by omega
   have hx := Nat.xor_lt_two_pow hc (JbE l[j])
   refine (J4C (s' := (((gN 8 (c ^^^ (l[j]).toNat) : Nat) : Int), ((j + 1 : Nat) : Int))) ?_).trans ((ih (j + 1) _ (JgZ hx) (by omega)).trans ?_)
   ·simp only [J5K, e1, decide_true, if_true, J9x hlt, Option.bind_some]
    rw [JbF _ (JbE _), JcS hc (JbE _)]
    exact inner j 8 0 _ hx (by omega) (by omega)
   ·rw [List.drop_eq_getElem_cons hlt]
    rfl
 exact outer l.length 0 4294967295 (by decide) (by omega)
theorem JjC : ∃ v, J2Q = some v ∧ ∀ (i : Nat) (h : i < 16), v[i] = ((gN 4 i : Nat) : Int) := by
 have inner : ∀ (k : Nat) (b0 b1 : Vector Int 16), k < 16 → ∀ (m j c : Nat), c < 2 ^ 32 → j + m = 4 → Jx (fun s : Int × Int => J0y k k b0 b1 s.1 s.2) ((c : Int), (j : Int)) = some (.inl (((k + 1 : Nat) : Int), Jao b1 k ((gN m c : Nat) : Int))) := by
  intro k b0 b1 hk m
  induction m with
  | zero =>
   intro j c hc hj
   obtain rfl : j = 4 := by omega
   refine J2K ?_
   have e1 : ¬ (((4 : Nat) : Nat) : Int) < 4 := by omega
   simp only [J0y, e1, decide_false, Bool.false_eq_true, if_false, J4u, J4B, J9N hk, J5a _ k hk, Option.bind_some, Option.map_some, J2L (show k < 1000000 by omega), gN]
  | succ m ih =>
   intro j c hc hj
   have e1 : ((j : Nat) : Int) < 4 := by omega
   refine (J4C (s' := (((gb c : Nat) : Int), ((j + 1 : Nat) : Int))) ?_).trans (ih (j + 1) (gb c) (JqB hc) (by omega))
   have e2 := JwV hc
   simp only [J0y, e1, decide_true, if_true, e2, Jwq, Option.bind_some, J2L (show j < 1000000 by omega)]
   unfold gb
   by_cases hb : c % 2 = 1
   ·simp only [hb, if_true, Int.natCast_one, beq_self_eq_true]
    rw [show (2197175160 : Int) = ((P32 : Nat) : Int) by rfl, JcS (by omega) JoD]
   ·have e3 : (((c % 2 : Nat) : Int) == 1) = false := by simp; omega
    simp only [hb, if_false, e3, Bool.false_eq_true]
 refine J14 (f := fun s : Int × Vector Int 16 => J0Y (Vector.replicate 16 0) s.1 s.2) (fun s => ∃ j : Nat, s.1 = j ∧ j ≤ 16 ∧ ∀ (i : Nat) (h : i < 16), i < j → s.2[i] = ((gN 4 i : Nat) : Int)) (fun s => (16 - s.1).toNat) (fun v => ∀ (i : Nat) (h : i < 16), v[i] = ((gN 4 i : Nat) : Int)) (fun s ⟨j, hj, h4, hv⟩ => ?_) (0, Vector.replicate 16 0) ⟨0, rfl, by omega, fun i h hh => by omega⟩
 obtain ⟨j', b1⟩ := s
 simp only at hj hv
 subst hj
 by_cases hlt : j < 16
 ·left
  have e1 : ((j : Nat) : Int) < 16 := by omega
  have ho := inner j (Vector.replicate 16 0) b1 hlt 4 0 j (by omega) (by omega)
  refine ⟨⟨((j + 1 : Nat) : Int), Jao b1 j ((gN 4 j : Nat) : Int)⟩, by simp only [J0Y, e1, decide_true, if_true, JbF j (by omega)]; exact ho, ⟨j + 1, rfl, by omega, fun i h hh => ?_⟩, by simp; omega⟩
  simp only [Jao, Int.toNat_natCast, Vector.getElem_setIfInBounds]
  by_cases hij : j = i
  ·subst hij; simp
  ·rw [if_neg hij]; exact hv i h (by omega)
 ·right
  obtain rfl : j = 16 := by omega
  have e1 : ¬ (((16 : Nat) : Nat) : Int) < 16 := by omega
  exact ⟨b1, by simp only [J0Y, e1, decide_false, Bool.false_eq_true, if_false, J4F, Option.map_some], fun i h => hv i h h⟩
theorem Jiy (l : List UInt8) (hl : l.length ≤ 100000) : J2B l = some ((crc l : Nat) : Int) := by
 obtain ⟨v, hv, ht⟩ := JjC
 have outer : ∀ (m j c : Nat), c < 2 ^ 32 → j + m = l.length → Jx (fun s : Int × Int => J35 l (l.length : Int) v s.1 s.2) ((c : Int), (j : Int)) = some (((Jid (l.drop j) c ^^^ 4294967295 : Nat) : Int)) := by
  intro m
  induction m with
  | zero =>
   intro j c hc hj
   obtain rfl : j = l.length := by omega
   refine J2K ?_
   have e1 : ¬ ((l.length : Nat) : Int) < ((l.length : Nat) : Int) := by omega
   simp only [J35, e1, decide_false, Bool.false_eq_true, if_false, J8v, Option.map_some, JnL hc, List.drop_length, Jid]
  | succ m ih =>
   intro j c hc hj
   have hlt : j < l.length := by omega
   have e1 : ((j : Nat) : Int) < ((l.length : Nat) : Int) := by omega
   have hx := Nat.xor_lt_two_pow hc (JbE l[j])
   have step : ∀ x : Nat, x < 2 ^ 32 → inb 16 (J59 .u32 (x : Int) 15) = some () ∧ J93 v (J59 .u32 (x : Int) 15) = some ((gN 4 (x % 16) : Nat) : Int) ∧ J5Z .u32 ((x / 16 : Nat) : Int) ((gN 4 (x % 16) : Nat) : Int) = ((gN 4 x : Nat) : Int) := by
    intro x hx
    have h16 : x % 16 < 16 := by omega
    rw [JwD hx]
    refine ⟨J9N h16, by rw [J5a _ _ h16, ht _ h16], ?_⟩
    rw [JcS (by omega) (JgZ (by omega)), ← JtM]
   refine (J4C (s' := (((gN 8 (c ^^^ (l[j]).toNat) : Nat) : Int), ((j + 1 : Nat) : Int))) ?_).trans ((ih (j + 1) _ (JgZ hx) (by omega)).trans ?_)
   ·obtain ⟨a1, a2, a3⟩ := step _ hx
    obtain ⟨b1, b2, b3⟩ := step (gN 4 (c ^^^ (l[j]).toNat)) (JgZ hx)
    simp only [J35, e1, decide_true, if_true, J9x hlt, Option.bind_some, JbF _ (JbE l[j]), JcS hc (JbE l[j]), Jy3, a1, a2, a3, b1, b2, b3, J2L (show j < 1000000 by omega)]
    rw [← JrD 4 4]
   ·rw [List.drop_eq_getElem_cons hlt]
    rfl
 unfold J2B
 rw [hv]
 exact outer l.length 0 4294967295 (by decide) (by omega)
end Go.Am
end
section
namespace Go.Am
theorem Jp0 (p : T_api_Page) (hc : ∀ (i : Nat) (h : i < 16), (p.Cells[i]).Data.length ≤ 12) (h0 : List UInt8) (hh : h0 = JM p.LSN 8 ++ JM p.ID 4) :
  ∃ r, JaQ p.Cells p (0, ⟨h0⟩) = some r ∧ Jrb p r := by
 refine J14 (f := fun s : Int × T_page_builder => J28 p.Cells p s.1 s.2) (fun s => ∃ (j : Nat) (t : List UInt8), s.1 = j ∧ j ≤ 16 ∧ s.2.s_ = JM p.LSN 8 ++ JM p.ID 4 ++ t ∧ t.length = 13 * j) (fun s => (16 - s.1).toNat)
  (Jrb p) (fun s ⟨j, t, hj, h4, ht, hl⟩ => ?_) (0, ⟨h0⟩) ⟨0, [], rfl, by omega, by simp [hh], by simp⟩
 obtain ⟨j', b⟩ := s
 simp only at hj ht
 subst hj
 have hbl : b.s_.length = 12 + 13 * j := by rw [ht]; simp only [List.length_append, JJ, hl]
 by_cases hlt : j < 16
 ·left
  have e1 : ((j : Nat) : Int) < 16 := by omega
  obtain ⟨u, e2, hu⟩ := JqN b p.Cells[j] (hc j hlt) (by omega)
  exact ⟨⟨((j + 1 : Nat) : Int), ⟨b.s_ ++ u⟩⟩, by simp only [J28, e1, decide_true, if_true, J5a _ j hlt, Option.bind_some, e2, J2L (show j < 1000000 by omega)], ⟨j + 1, t ++ u, rfl, by omega, by simp only [ht, List.append_assoc], by simp only [List.length_append, hl, hu]; omega⟩, by simp; omega⟩
 ·right
  obtain rfl : j = 16 := by omega
  have e1 : ¬ (((16 : Nat) : Nat) : Int) < 16 := by omega
  have a0 : IntKind.wrap .i64 (244 - ((b.s_.length : Nat) : Int)) = 24 := by rw [hbl, wrap64 (by omega) (by omega)]; omega
  have a1 := JcP (n := 24) (by omega) (by omega)
  have a2 : J2I b.s_ (List.replicate (24 : Int).toNat 0) = some (b.s_ ++ List.replicate (24 : Int).toNat 0) := Jej (by omega) (by simp)
  obtain ⟨r, a3⟩ := Jnm (b.s_ ++ List.replicate (24 : Int).toNat 0) (by simp [hbl])
  have a4 := Ja1 (b.s_ ++ List.replicate (24 : Int).toNat 0) (IntKind.wrap .i64 r) (k := 4) (by omega) (by omega) (by simp [hbl])
  have a5 := Ja1 (b.s_ ++ List.replicate (24 : Int).toNat 0 ++ JM (IntKind.wrap .i64 r) 4) p.LSN (k := 8) (by omega) (by omega) (by simp [hbl, JJ])
  refine ⟨(b.s_ ++ List.replicate (24 : Int).toNat 0 ++ JM (IntKind.wrap .i64 r) 4 ++ JM p.LSN 8, 0), ?_, ?_⟩
  ·simp only [J28, e1, decide_false, Bool.false_eq_true, if_false, J7k, a0, a1, a2, a3, Option.bind_some]
   rw [show (4 : Int) = ((4 : Nat) : Int) by rfl, a4, Option.bind_some, show (8 : Int) = ((8 : Nat) : Int) by rfl, a5]
   rfl
  ·refine ⟨rfl, by simp [hbl, JJ], ?_, ?_, ?_⟩
   ·rw [ht]
    simp only [List.append_assoc]
    rw [List.take_append_of_le_length (by rw [JJ]; omega), List.take_of_length_le (by rw [JJ]; omega)]
   ·rw [List.drop_append, List.drop_of_length_le (by simp [hbl, JJ]), List.nil_append]
    simp [hbl, JJ]
   ·rw [ht]
    simp only [List.append_assoc]
    rw [List.drop_append, List.drop_of_length_le (by rw [JJ]; omega), List.nil_append, JJ, Nat.sub_self, List.drop_zero, List.take_append_of_le_length (by rw [JJ]; omega), List.take_of_length_le (by rw [JJ]; omega)]
theorem JjB (p : T_api_Page) : ∃ r, J18 p = some r ∧ (J6s p → Jrb p r) := by
 have hp : ∃ b, J1F p = some b ∧ (J6s p → b = true) := by
  unfold J1F J1I
  by_cases h1 : p.ID ≥ 0
  ·by_cases h2 : p.ID < 64
   ·by_cases h3 : p.LSN ≥ 0
    ·exact ⟨decide (p.LSN ≤ 1099511627776), by simp [h1, h2, h3], fun h => by simpa using h.lsn1⟩
    ·exact ⟨false, by simp [h1, h2, h3], fun h => (h3 h.lsn0).elim⟩
   ·exact ⟨false, by simp [h1, h2], fun h => (h2 h.id1).elim⟩
  ·exact ⟨false, by simp [h1], fun h => (h1 h.id0).elim⟩
 obtain ⟨b, e1, hb⟩ := hp
 obtain ⟨d, e2, hd, hd2⟩ := JlK p
 unfold J18
 simp only [e1, e2, Option.bind_some]
 cases b with
 | false => exact ⟨_, rfl, fun h => by cases hb h⟩
 | true =>
  cases d with
  | false => exact ⟨_, rfl, fun h => by cases hd2 h.cells⟩
  | true =>
   have a1 := Ja1 [] p.LSN (k := 8) (by omega) (by omega) (by simp)
   have a2 := Ja1 ([] ++ JM p.LSN 8) p.ID (k := 4) (by omega) (by omega) (by simp [JJ])
   obtain ⟨r, hr, hq⟩ := Jp0 p (hd rfl) ([] ++ JM p.LSN 8 ++ JM p.ID 4) (by simp)
   refine ⟨r, ?_, fun _ => hq⟩
   simp only [if_true]
   rw [show (8 : Int) = ((8 : Nat) : Int) by rfl, a1, Option.bind_some, show (4 : Int) = ((4 : Nat) : Int) by rfl, a2, Option.bind_some]
   exact hr
theorem JuV (s : List UInt8) (hs : s.length ≤ 1000) {at_ k : Nat} (h1 : 1 ≤ k) (h8 : k ≤ 8) (ha : at_ ≤ 1000) : ∃ r, J16 s at_ k = some r := by
 have c1 : ¬ ((k : Int) < 1) := by omega
 have c2 : ¬ ((k : Int) > 8) := by omega
 have c3 : ¬ ((at_ : Int) < 0) := by omega
 unfold J16
 simp only [c1, c2, c3, decide_false, Bool.false_eq_true, if_false]
 by_cases c4 : (at_ : Int) > (s.length : Int)
 ·exact ⟨(0, 5), by simp only [c4, decide_true, if_true]⟩
 ·have e0 : IntKind.wrap .i64 ((s.length : Int) - at_) = (s.length : Int) - at_ := wrap64 (by omega) (by omega)
  simp only [c4, decide_false, Bool.false_eq_true, if_false, e0]
  by_cases c5 : (s.length : Int) - at_ < k
  ·exact ⟨(0, 5), by simp only [c5, decide_true, if_true]⟩
  ·simp only [c5, decide_false, Bool.false_eq_true, if_false]
   obtain ⟨r, hr, _⟩ := J14 (f := fun q : Int × Int => J0S s at_ k q.1 q.2) (fun q => ∃ j : Nat, q.2 = j ∧ j ≤ k) (fun q => (k - q.2).toNat) (fun _ => True) (fun q ⟨j, hj, h4⟩ => by
    obtain ⟨x, j'⟩ := q
    simp only at hj
    subst hj
    by_cases hlt : j < k
    ·left
     have e1 : ((j : Nat) : Int) < (k : Int) := by omega
     have e2 : IntKind.wrap .i64 ((at_ : Int) + (j : Int)) = ((at_ + j : Nat) : Int) := by rw [wrap64 (by omega) (by omega)]; omega
     have e3 : IntKind.wrap .i64 (8 * (j : Int)) = ((8 * j : Nat) : Int) := by rw [wrap64 (by omega) (by omega)]; omega
     have e4 : ∀ z : Int, ∃ y, Jgy .u64 z ((8 * j : Nat) : Int) = some y := fun z => ⟨_, if_neg (by omega)⟩
     obtain ⟨y, e5⟩ := e4 (IntKind.wrap .u64 (((s[at_ + j]).toNat : Nat) : Int))
     exact ⟨⟨_, ((j + 1 : Nat) : Int)⟩, by simp only [J0S, e1, decide_true, if_true, e2, J9x (show at_ + j < s.length by omega), Option.bind_some, e3, e5, J2L (show j < 1000000 by omega)]; rfl, ⟨j + 1, rfl, by omega⟩, by simp; omega⟩
    ·right
     have e1 : ¬ ((j : Nat) : Int) < (k : Int) := by omega
     exact ⟨_, by simp only [J0S, e1, decide_false, Bool.false_eq_true, if_false, J6V, Option.map_some]; rfl, trivial⟩) (0, 0) ⟨0, rfl, by omega⟩
   exact ⟨r, hr⟩
theorem Jio (s : List UInt8) (hs : s.length ≤ 1000) {at_ : Nat} (ha : at_ < s.length) : J16 s at_ 1 = some (((s[at_]).toNat : Int), 0) := by
 have c3 : ¬ ((at_ : Int) < 0) := by omega
 have c4 : ¬ ((at_ : Int) > (s.length : Int)) := by omega
 have e0 : IntKind.wrap .i64 ((s.length : Int) - at_) = (s.length : Int) - at_ := wrap64 (by omega) (by omega)
 have c5 : ¬ ((s.length : Int) - at_ < 1) := by omega
 unfold J16
 simp only [show ¬ ((1 : Int) < 1) by omega, show ¬ ((1 : Int) > 8) by omega, c3, c4, e0, c5, decide_false, Bool.false_eq_true, if_false]
 have hu : (s[at_]).toNat < 256 := UInt8.toNat_lt _
 have w0 : IntKind.wrap .u64 (((s[at_]).toNat : Nat) : Int) = (((s[at_]).toNat : Nat) : Int) := JbA (by omega) (by omega)
 have e2 : IntKind.wrap .i64 ((at_ : Int) + 0) = (at_ : Int) := by rw [wrap64 (by omega) (by omega)]; omega
 have e3 : Jgy .u64 (((s[at_]).toNat : Nat) : Int) (IntKind.wrap .i64 (8 * 0)) = some (((s[at_]).toNat : Nat) : Int) := by
  rw [show IntKind.wrap .i64 (8 * 0) = 0 by rfl]
  show some (IntKind.wrap .u64 ((((s[at_]).toNat : Nat) : Int) * 2 ^ 0)) = _
  rw [show ((((s[at_]).toNat : Nat) : Int) * 2 ^ 0) = (((s[at_]).toNat : Nat) : Int) by omega, w0]
 have e4 : orI .u64 0 (((s[at_]).toNat : Nat) : Int) = (((s[at_]).toNat : Nat) : Int) := by
  have h2 : (BitVec.ofInt 64 0 ||| BitVec.ofInt 64 (((s[at_]).toNat : Nat) : Int)).toNat = (s[at_]).toNat := by
   rw [show BitVec.ofInt 64 0 = 0#64 by rfl, BitVec.zero_or, BitVec.toNat_ofInt]
   omega
  show IntKind.wrap .u64 (((BitVec.ofInt 64 0 ||| BitVec.ofInt 64 (((s[at_]).toNat : Nat) : Int)).toNat : Nat) : Int) = _
  rw [h2, w0]
 have s0 : J0S s at_ 1 0 0 = some (.inl ((((s[at_]).toNat : Nat) : Int), 1)) := by
  simp only [J0S, show ((0 : Int) < 1) by omega, decide_true, if_true, e2, J9x ha, Option.bind_some, w0, e3, e4, show IntKind.wrap .i64 ((0 : Int) + 1) = 1 by rfl]
 have s1 : J0S s at_ 1 (((s[at_]).toNat : Nat) : Int) 1 = some (.inr ((((s[at_]).toNat : Nat) : Int), 0)) := by
  simp only [J0S, show ¬ ((1 : Int) < 1) by omega, decide_false, Bool.false_eq_true, if_false, J6V, Option.map_some, wrap64 (show -9223372036854775808 ≤ (((s[at_]).toNat : Nat) : Int) by omega) (by omega)]
 exact (J4C (f := fun q : Int × Int => J0S s at_ 1 q.1 q.2) (s := (0, 0)) s0).trans (J2K s1)
theorem JaU (s : List UInt8) (hs : s.length ≤ 1000) {at_ k : Nat} (h1 : 1 ≤ k) (h8 : k ≤ 8) (ha : at_ ≤ 1000) : ∃ r, JY s at_ k = some r := by
 obtain ⟨r, hr⟩ := JuV s hs h1 h8 ha
 exact ⟨r.1, by simp [JY, hr]⟩
theorem Jx2 {α : Type} (l : List α) {a b : Nat} (h1 : a ≤ b) (h2 : b ≤ l.length) : J2U l (some (a : Int)) (some (b : Int)) = some ((l.drop a).take (b - a)) := by
 have e1 : (0 : Int) ≤ b ∧ (b : Int) ≤ l.length := by omega
 have e2 : (0 : Int) ≤ a ∧ (a : Int) ≤ b := by omega
 simp only [J2U, JfX, JdT, e1, e2, and_self, if_true, Int.toNat_natCast]
theorem Jga {α : Type} (l : List α) {b : Nat} (h2 : b ≤ l.length) : J2U l none (some (b : Int)) = some (l.take b) := by
 have e1 : (0 : Int) ≤ b ∧ (b : Int) ≤ l.length := by omega
 simp only [J2U, JfX, JdT, e1, and_self, if_true, Int.toNat_natCast, List.drop_zero, Nat.sub_zero]
theorem JiW {α : Type} (l : List α) {a : Nat} (h2 : a ≤ l.length) : J2U l (some (a : Int)) none = some (l.drop a) := by
 have e1 : (0 : Int) ≤ a ∧ (a : Int) ≤ l.length := by omega
 simp only [J2U, JfX, JdT, e1, and_self, if_true, Int.toNat_natCast]
 rw [List.take_of_length_le (by simp)]
theorem JoP (s : List UInt8) (hs : s.length = 256) : ∃ r, J6i s = some r := by
 obtain ⟨r1, a1⟩ := JaU s (by omega) (at_ := 8) (k := 4) (by omega) (by omega) (by omega)
 obtain ⟨r2, a2⟩ := JaU s (by omega) (at_ := 0) (k := 8) (by omega) (by omega) (by omega)
 have a1' : JY s 8 4 = some r1 := a1
 have a2' : JY s 0 8 = some r2 := a2
 unfold J6i
 simp only [a1', a2', Option.bind_some]
 obtain ⟨r, hr, _⟩ := J14 (f := fun q : Int × T_api_Page => J1p s ⟨0, 0, Vector.replicate 16 ⟨false, []⟩⟩ q.1 q.2) (fun q => ∃ j : Nat, q.1 = j ∧ j ≤ 16) (fun q => (16 - q.1).toNat) (fun _ => True) (fun q ⟨j, hj, h4⟩ => by
  obtain ⟨j', p⟩ := q
  simp only at hj
  subst hj
  by_cases hlt : j < 16
  ·have e1 : ((j : Nat) : Int) < 16 := by omega
   have e2 : IntKind.wrap .i64 (12 + IntKind.wrap .i64 ((j : Int) * 13)) = ((12 + 13 * j : Nat) : Int) := by
    rw [wrap64 (n := (j : Int) * 13) (by omega) (by omega), wrap64 (by omega) (by omega)]; omega
   have hu : (s[12 + 13 * j]'(by omega)).toNat < 256 := UInt8.toNat_lt _
   have e3 : JY s ((12 + 13 * j : Nat) : Int) 1 = some (((s[12 + 13 * j]'(by omega)).toNat : Nat) : Int) := by
    simp only [JY, Jio s (by omega) (show 12 + 13 * j < s.length by omega), Option.bind_some]
   generalize hv : (s[12 + 13 * j]'(by omega)).toNat = v at e3 hu
   by_cases h255 : v = 255
   ·left
    subst h255
    exact ⟨⟨((j + 1 : Nat) : Int), p⟩, by simp only [J1p, e1, decide_true, if_true, e2, e3, Option.bind_some, J2L (show j < 1000000 by omega)]; rfl, ⟨j + 1, rfl, by omega⟩, by simp; omega⟩
   ·have e4 : (((v : Nat) : Int) == 255) = false := by simp; omega
    by_cases h12 : ((v : Nat) : Int) > 12
    ·right
     exact ⟨_, by simp only [J1p, e1, decide_true, if_true, e2, e3, Option.bind_some, e4, Bool.false_eq_true, if_false, h12]; rfl, trivial⟩
    ·left
     have e5 : IntKind.wrap .i64 (((12 + 13 * j : Nat) : Int) + 1) = ((13 + 13 * j : Nat) : Int) := by rw [wrap64 (by omega) (by omega)]; omega
     have e6 : IntKind.wrap .i64 (((13 + 13 * j : Nat) : Int) + ((v : Nat) : Int)) = ((13 + 13 * j + v : Nat) : Int) := by rw [wrap64 (by omega) (by omega)]; omega
     have e7 := Jx2 s (a := 13 + 13 * j) (b := 13 + 13 * j + v) (by omega) (by omega)
     exact ⟨⟨((j + 1 : Nat) : Int), _⟩, by simp only [J1p, e1, decide_true, if_true, e2, e3, Option.bind_some, e4, Bool.false_eq_true, if_false, h12, decide_false, e5, e6, e7, J9N hlt, J5a _ j hlt, J2L (show j < 1000000 by omega)]; rfl, ⟨j + 1, rfl, by omega⟩, by simp; omega⟩
  ·right
   have e1 : ¬ ((j : Nat) : Int) < 16 := by omega
   exact ⟨_, by simp only [J1p, e1, decide_false, Bool.false_eq_true, if_false, J78, Option.map_some]; rfl, trivial⟩) (0, ⟨r1, r2, Vector.replicate 16 ⟨false, []⟩⟩) ⟨0, rfl, by omega⟩
 exact ⟨r, hr⟩
end Go.Am
end
section
namespace Go.Am
def blk : List UInt8 := List.replicate 256 0
theorem JvV : blk.length = 256 := by decide +kernel
theorem Jti : blk.take 8 = JM 0 8 := by decide +kernel
theorem JsY : blk.drop 248 = JM 0 8 := by decide +kernel
theorem Ji8 : J6q = some blk := by
 unfold J6q
 rw [JcP (n := 256) (by omega) (by omega)]
 rfl
theorem Jr7 (x : List UInt8) (hx : x.length = 256) : ∃ r, J1n x = some r ∧ (r.2 = 0 ∨ r.2 = 7 → x.take 8 = x.drop 248) := by
 unfold J1n
 have e0 : (((x.length : Nat) : Int) != 256) = false := by rw [hx]; rfl
 have e1 : J2U x none (some 8) = some (x.take 8) := Jga x (b := 8) (by omega)
 have e2 : J2U x (some 248) none = some (x.drop 248) := JiW x (a := 248) (by omega)
 have e3 : J2U x none (some 244) = some (x.take 244) := Jga x (b := 244) (by omega)
 obtain ⟨n, e4⟩ := JaU x (by omega) (at_ := 244) (k := 4) (by omega) (by omega) (by omega)
 have e4' : JY x 244 4 = some n := e4
 obtain ⟨c, e5⟩ := Jnm (x.take 244) (by simp; omega)
 obtain ⟨p, e6⟩ := JoP x hx
 obtain ⟨q, e7, _⟩ := JjB p.1
 simp only [e0, Bool.false_eq_true, if_false, Ji8, Option.bind_some]
 by_cases hb : x = blk
 ·refine ⟨_, by rw [if_pos (by simpa using hb)], fun _ => ?_⟩
  rw [hb, Jti, JsY]
 ·have hb' : (x == blk) = false := by simpa using hb
  simp only [hb', Bool.false_eq_true, if_false, e1, e2, Option.bind_some]
  by_cases hp : x.take 8 = x.drop 248
  ·have hp' : (x.take 8 == x.drop 248) = true := by simpa using hp
   simp only [hp', if_true, e4', e3, e5, e6, e7, Option.bind_some]
   split
   ·exact ⟨_, rfl, fun _ => hp⟩
   ·split
    ·split
     ·exact ⟨_, rfl, fun _ => hp⟩
     ·split
      ·exact ⟨_, rfl, fun _ => hp⟩
      ·exact ⟨_, rfl, fun _ => hp⟩
    ·exact ⟨_, rfl, fun _ => hp⟩
  ·have hp' : (x.take 8 == x.drop 248) = false := by simpa using hp
   simp only [hp', Bool.false_eq_true, if_false]
   exact ⟨_, rfl, fun h => by rcases h with h | h <;> cases h⟩
end Go.Am
end
