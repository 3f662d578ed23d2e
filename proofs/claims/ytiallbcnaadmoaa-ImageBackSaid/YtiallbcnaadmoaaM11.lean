/-
  Parts of a proof.
-/
import Derived.Test.YtiallbcnaadmoaaM10
open Nat (reduceEqDiff reduceAdd reduceLT reduceMul)
set_option linter.unusedSimpArgs false
set_option linter.unusedVariables false
section
namespace Go.Am
set_option maxRecDepth 8000
set_option maxHeartbeats 4000000
set_option linter.unusedSimpArgs false
set_option linter.unusedVariables false
noncomputable section
variable (p : FuncId → Option (List AV → List Blk → Option Res))
def JeM  (r : Int) : Option Res := some (.p (.i .i64 r), [])
def J5l (x0 : T_api_Page) : Option (Int) :=
 Option.bind (J3W x0) fun r1 =>
 if r1 then
  Option.bind (J5e x0) fun r5 =>
  if r5 then
   some 0
  else
   some 22
 else
  some 1
theorem JgE {x0 : T_api_Page} {o : Int} (h : J5l x0 = some o) :
  rk (J2 p) J69 0 [] (X (J2 p) J3o ⟨[(0, .data (J3 x0))], []⟩) = JeM o := by
 unfold J5l at h
 obtain ⟨r1, h2, h⟩ := bi h
 have f3 := Jjl p h2
 try simp only [Nf] at f3
 try simp only [↓Da, Ua, J3o, J4, J1, J6, *, ↓reduceIte, reduceEqDiff, reduceAdd, reduceLT, reduceMul]
 rcases J8 h with ⟨h4, h⟩ | ⟨h4, h⟩
 ·obtain ⟨r5, h6, h⟩ := bi h
  have f7 := Jlh p h6
  try simp only [Nf] at f7
  try simp only [↓Da, Ua, J3o, J4, J1, J6, *, ↓reduceIte, reduceEqDiff, reduceAdd, reduceLT, reduceMul]
  rcases J8 h with ⟨h8, h⟩ | ⟨h8, h⟩
  ·obtain rfl := sj h
   try simp only [↓Da, Ua, J3o, J4, J1, J6, Jb8, *, ↓reduceIte, reduceEqDiff, reduceAdd, reduceLT, reduceMul]
   rfl
  ·obtain rfl := sj h
   try simp only [↓Da, Ua, J3o, J4, J1, J6, Jb8, *, ↓reduceIte, reduceEqDiff, reduceAdd, reduceLT, reduceMul]
   rfl
 ·obtain rfl := sj h
  try simp only [↓Da, Ua, J3o, J4, J1, J6, Jb8, *, ↓reduceIte, reduceEqDiff, reduceAdd, reduceLT, reduceMul]
  rfl
theorem JlO {x0 : T_api_Page} {o : Int} (h : J5l x0 = some o) : AF (J2 p) J6f [.data (J3 x0)] [] = JeM o :=
 (J0c (J2 p) (Jli p) rfl).trans (JgE p h)
theorem Jly {x0 : T_api_Page} {o : Int} (h : J5l x0 = some o) : ∀ ws new st, (Jl (AF (J2 p)) J6f ([.data (J3 x0)], ws) 0 new).run st = some ⟨.p (.i .i64 o), ws⟩ := Ju rfl (JlO p h) rfl
def Jer  (r : T_api_Page × Int) : Option Res := some (.tup [.data (J3 r.1), .p (.i .i64 r.2)], [])
def J14 (x0 : List UInt8) : Option (T_api_Page × Int) :=
 if ((((List.length x0 : Nat) : Int) : Int) != 256) then
  some ((⟨0, 0, (Vector.replicate 16 (⟨false, []⟩ : Ja))⟩ : T_api_Page), 2)
 else
  Option.bind (J5X) fun r2 =>
  if (x0 == r2) then
   some ((⟨0, 0, (Vector.replicate 16 (⟨false, []⟩ : Ja))⟩ : T_api_Page), 7)
  else
   Option.bind (J1i x0 none (some 8)) fun m6 =>
   Option.bind (J1i x0 (some 248) none) fun m9 =>
   if (m6 == m9) then
    Option.bind (JO x0 244 4) fun r13 =>
    Option.bind (J1i x0 none (some 244)) fun m16 =>
    Option.bind (J1W m16) fun r19 =>
    if ((r13 : Int) != (IntKind.wrap .i64 r19)) then
     some ((⟨0, 0, (Vector.replicate 16 (⟨false, []⟩ : Ja))⟩ : T_api_Page), 3)
    else
     Option.bind (J5y x0) fun r23 =>
     Option.bind (J0V r23.1) fun r26 =>
     if r23.2 then
      if ((r26.2 : Int) != 0) then
       some ((⟨0, 0, (Vector.replicate 16 (⟨false, []⟩ : Ja))⟩ : T_api_Page), 4)
      else
       if (r26.1 == x0) then
        some (r23.1, 0)
       else
        some ((⟨0, 0, (Vector.replicate 16 (⟨false, []⟩ : Ja))⟩ : T_api_Page), 4)
     else
      some ((⟨0, 0, (Vector.replicate 16 (⟨false, []⟩ : Ja))⟩ : T_api_Page), 4)
   else
    some ((⟨0, 0, (Vector.replicate 16 (⟨false, []⟩ : Ja))⟩ : T_api_Page), 27)
theorem JgA {x0 : List UInt8} {o : T_api_Page × Int} (h : J14 x0 = some o) :
  rk (J2 p) J6g 0 [] (X (J2 p) J0b ⟨[(0, .p (.s x0))], []⟩) = Jer o := by
 unfold J14 at h
 rcases J8 h with ⟨h1, h⟩ | ⟨h1, h⟩
 ·obtain rfl := sj h
  try simp only [↓Da, Ua, J0b, J4, J1, J6, J4h, *, ↓reduceIte, reduceEqDiff, reduceAdd, reduceLT, reduceMul]
  rfl
 ·obtain ⟨r2, h3, h⟩ := bi h
  have f4 := JmO p h3
  try simp only [Nf] at f4
  try simp only [↓Da, Ua, J0b, J4, J1, J6, *, ↓reduceIte, reduceEqDiff, reduceAdd, reduceLT, reduceMul]
  rcases J8 h with ⟨h5, h⟩ | ⟨h5, h⟩
  ·obtain rfl := sj h
   try simp only [↓Da, Ua, J0b, J4, J1, J6, J4h, *, ↓reduceIte, reduceEqDiff, reduceAdd, reduceLT, reduceMul]
   rfl
  ·obtain ⟨m6, h7, h⟩ := bi h
   have f8 : J2b (.p (.s x0)) none (some (.p (.i .i64 8))) = some (.p (.s m6)) := J2z (k := .i64) (lo := none) (hi := (some 8)) h7
   try simp only [Nf] at f8
   obtain ⟨m9, h10, h⟩ := bi h
   have f11 : J2b (.p (.s x0)) (some (.p (.i .i64 248))) none = some (.p (.s m9)) := J2z (k := .i64) (lo := (some 248)) (hi := none) h10
   try simp only [Nf] at f11
   try simp only [↓Da, Ua, J0b, J4, J1, J6, *, ↓reduceIte, reduceEqDiff, reduceAdd, reduceLT, reduceMul]
   rcases J8 h with ⟨h12, h⟩ | ⟨h12, h⟩
   ·obtain ⟨r13, h14, h⟩ := bi h
    have f15 := J9b p h14
    try simp only [Nf] at f15
    obtain ⟨m16, h17, h⟩ := bi h
    have f18 : J2b (.p (.s x0)) none (some (.p (.i .i64 244))) = some (.p (.s m16)) := J2z (k := .i64) (lo := none) (hi := (some 244)) h17
    try simp only [Nf] at f18
    obtain ⟨r19, h20, h⟩ := bi h
    have f21 := JaL p h20
    try simp only [Nf] at f21
    try simp only [↓Da, Ua, J0b, J4, J1, J6, *, ↓reduceIte, reduceEqDiff, reduceAdd, reduceLT, reduceMul]
    rcases J8 h with ⟨h22, h⟩ | ⟨h22, h⟩
    ·obtain rfl := sj h
     try simp only [↓Da, Ua, J0b, J4, J1, J6, J4h, *, ↓reduceIte, reduceEqDiff, reduceAdd, reduceLT, reduceMul]
     rfl
    ·obtain ⟨r23, h24, h⟩ := bi h
     have f25 := Jos p h24
     try simp only [Nf] at f25
     obtain ⟨r26, h27, h⟩ := bi h
     have f28 := Jlm p h27
     try simp only [Nf] at f28
     try simp only [↓Da, Ua, J0b, J4, J1, J6, *, ↓reduceIte, reduceEqDiff, reduceAdd, reduceLT, reduceMul]
     rcases J8 h with ⟨h29, h⟩ | ⟨h29, h⟩
     ·try simp only [↓Da, Ua, J0b, J4, J1, J6, *, ↓reduceIte, reduceEqDiff, reduceAdd, reduceLT, reduceMul]
      rcases J8 h with ⟨h30, h⟩ | ⟨h30, h⟩
      ·obtain rfl := sj h
       try simp only [↓Da, Ua, J0b, J4, J1, J6, J4h, *, ↓reduceIte, reduceEqDiff, reduceAdd, reduceLT, reduceMul]
       rfl
      ·try simp only [↓Da, Ua, J0b, J4, J1, J6, *, ↓reduceIte, reduceEqDiff, reduceAdd, reduceLT, reduceMul]
       rcases J8 h with ⟨h31, h⟩ | ⟨h31, h⟩
       ·obtain rfl := sj h
        try simp only [↓Da, Ua, J0b, J4, J1, J6, J4h, *, ↓reduceIte, reduceEqDiff, reduceAdd, reduceLT, reduceMul]
        rfl
       ·obtain rfl := sj h
        try simp only [↓Da, Ua, J0b, J4, J1, J6, J4h, *, ↓reduceIte, reduceEqDiff, reduceAdd, reduceLT, reduceMul]
        rfl
     ·obtain rfl := sj h
      try simp only [↓Da, Ua, J0b, J4, J1, J6, J4h, *, ↓reduceIte, reduceEqDiff, reduceAdd, reduceLT, reduceMul]
      rfl
   ·obtain rfl := sj h
    try simp only [↓Da, Ua, J0b, J4, J1, J6, J4h, *, ↓reduceIte, reduceEqDiff, reduceAdd, reduceLT, reduceMul]
    rfl
theorem Jla {x0 : List UInt8} {o : T_api_Page × Int} (h : J14 x0 = some o) : AF (J2 p) J6l [.p (.s x0)] [] = Jer o :=
 (J0c (J2 p) (JlV p) rfl).trans (JgA p h)
theorem Jlk {x0 : List UInt8} {o : T_api_Page × Int} (h : J14 x0 = some o) : ∀ ws new st, (Jl (AF (J2 p)) J6l ([.p (.s x0)], ws) 0 new).run st = some ⟨.tup [.data (J3 o.1), .p (.i .i64 o.2)], ws⟩ := Ju rfl (Jla p h) rfl
def J5K  (r : (List UInt8) × Int) : Option Res := some (.tup [.p (.s r.1), .p (.i .i64 r.2)], [])
def J9r (b0 : T_api_Page) (o : ((List UInt8) × Int) ⊕ ((List UInt8) × Int)) : Option Res := match o with
 | .inl s => rk (J2 p) J10 0 [.bl 0, .sq (.keep [1, 5] J20)] (X (J2 p) (.lp 1 [1, 5, 6] J0S) ⟨[(1, .ptr 0 0), (5, .p (.s s.1)), (6, .p (.i .i64 s.2))], [.box (List.map AV.p (J3 b0))]⟩)
 | .inr o => J5K o
def J7u (x5 : List UInt8) (x6 : Int) (b0 : T_api_Page) : Option ((((List UInt8) × Int) ⊕ ((List UInt8) × Int))) :=
 some (.inl (x5, (IntKind.wrap .i64 (x6 + 1))))
theorem JhP {x5 : List UInt8} {x6 : Int} {b0 : T_api_Page} {o : (((List UInt8) × Int) ⊕ ((List UInt8) × Int))} (h : J7u x5 x6 b0 = some o) :
  rk (J2 p) J10 0 [.lo 1 [1, 5, 6] J0S, .bl 0, .sq (.keep [1, 5] J20)] (X (J2 p) J7r ⟨[(1, .ptr 0 0), (5, .p (.s x5)), (6, .p (.i .i64 x6))], [.box (List.map AV.p (J3 b0))]⟩) = (J9r p b0) o := by
 unfold J7u at h
 obtain rfl := sj h
 try simp only [↓Da, Ua, J7r, ↓reduceIte, reduceEqDiff, reduceAdd, reduceLT, reduceMul]
 rfl
def J4G (x5 : List UInt8) (x6 x7 : Int) (b0 : T_api_Page) : Option ((((List UInt8) × Int) ⊕ ((List UInt8) × Int))) :=
 Option.bind (J1m x5 x7 1) fun r1 =>
 Option.bind (inb 16 x6) fun u4 =>
 Option.bind (J85 b0.Cells x6) fun y7 =>
 Option.bind (J2e (IntKind.wrap .i64 (12 - ((List.length y7.Data : Nat) : Int)))) fun r11 =>
 Option.bind (J3z y7.Data r11) fun s15 =>
 Option.bind (J3z r1 s15) fun s17 =>
 J7u s17 x6 b0
theorem Jck {x5 : List UInt8} {x6 x7 : Int} {b0 : T_api_Page} {o : (((List UInt8) × Int) ⊕ ((List UInt8) × Int))} (h : J4G x5 x6 x7 b0 = some o) :
  rk (J2 p) J10 0 [.bl 1, .sq (.keep [1, 5, 6] J7r), .lo 1 [1, 5, 6] J0S, .bl 0, .sq (.keep [1, 5] J20)] (X (J2 p) J9w ⟨[(1, .ptr 0 0), (5, .p (.s x5)), (6, .p (.i .i64 x6)), (7, .p (.i .i64 x7))], [.box (List.map AV.p (J3 b0))]⟩) = (J9r p b0) o := by
 unfold J4G at h
 obtain ⟨r1, h2, h⟩ := bi h
 have f3 := J94 p h2
 try simp only [Nf] at f3
 obtain ⟨u4, h5, h⟩ := bi h
 have f6 : (0 ≤ (x6 : Int) ∧ (x6 : Int) < ((16 : Nat) : Int)) = True := eq_true (J8M h5)
 obtain ⟨y7, h8, h⟩ := bi h
 have f9 : sub (J3 b0) ((2 + Int.toNat x6 * 2) + 1) 1 = some (r_s y7.Data) := by
  have e0 := (J77 (J77 (J0Z b0) (J91 (v := b0.Cells) JP (J4H h8).2)) (J70 y7))
  exact e0
 try simp only [Nf] at f9
 have f10 : sub (J3 b0) ((2 + Int.toNat x6 * 2) + 1) 1 = some (r_s y7.Data) := by
  have e0 := (J77 (J77 (J0Z b0) (J91 (v := b0.Cells) JP (J4H h8).2)) (J70 y7))
  exact e0
 try simp only [Nf] at f10
 obtain ⟨r11, h12, h⟩ := bi h
 have f13 := Jbe p h12
 try simp only [Nf] at f13
 have f14 : ∀ ws k new s, Jc ((Jl (AF (J2 p)) J3r ([.p (.i .i64 (IntKind.wrap .i64 (12 - ((List.length y7.Data : Nat) : Int))))], ws) k new).reads s) = [] := J0q rfl
 try simp only [Nf] at f14
 obtain ⟨s15, h16, h⟩ := bi h
 obtain ⟨s17, h18, h⟩ := bi h
 try simp only [↓Da, Ua, Ra, J9w, J4, J1, J6, *, ↓reduceIte, reduceEqDiff, reduceAdd, reduceLT, reduceMul, Nat.reduceBEq]
 have e0 := JhP p h
 first | exact e0 | (simp only [*] at e0; exact e0)
def J7B (x5 : List UInt8) (b0 : T_api_Page) : Option ((List UInt8) × Int) :=
 Option.bind (J2e (IntKind.wrap .i64 (244 - ((List.length x5 : Nat) : Int)))) fun r1 =>
 Option.bind (J3z x5 r1) fun s4 =>
 Option.bind (J5B s4) fun r6 =>
 Option.bind (J1m s4 (IntKind.wrap .i64 r6) 4) fun r9 =>
 Option.bind (J1m r9 b0.LSN 8) fun r12 =>
 some (r12, 0)
theorem JhD {x5 : List UInt8} {b0 : T_api_Page} {o : (List UInt8) × Int} (h : J7B x5 b0 = some o) :
  rk (J2 p) J10 0 [] (X (J2 p) J20 ⟨[(1, .ptr 0 0), (5, .p (.s x5))], [.box (List.map AV.p (J3 b0))]⟩) = J5K o := by
 unfold J7B at h
 obtain ⟨r1, h2, h⟩ := bi h
 have f3 := Jbe p h2
 try simp only [Nf] at f3
 obtain ⟨s4, h5, h⟩ := bi h
 obtain ⟨r6, h7, h⟩ := bi h
 have f8 := Jhd p h7
 try simp only [Nf] at f8
 obtain ⟨r9, h10, h⟩ := bi h
 have f11 := J94 p h10
 try simp only [Nf] at f11
 obtain ⟨r12, h13, h⟩ := bi h
 have f14 := J94 p h13
 try simp only [Nf] at f14
 obtain rfl := sj h
 try simp only [↓Da, Ua, J20, J4, J1, J6, Jdh, *, ↓reduceIte, reduceEqDiff, reduceAdd, reduceLT, reduceMul]
 rfl
def J3w (b0 : T_api_Page) (x5 : List UInt8) (x6 : Int) : Option ((((List UInt8) × Int) ⊕ ((List UInt8) × Int))) :=
 if (decide (x6 < 16)) then
  Option.bind (inb 16 x6) fun u2 =>
  Option.bind (J85 b0.Cells x6) fun y5 =>
  if y5.Set then
   J4G x5 x6 ((List.length y5.Data : Nat) : Int) b0
  else
   J4G x5 x6 255 b0
 else
  Option.map (fun o => .inr o) (J7B x5 b0)
theorem Jci {b0 : T_api_Page} {x5 : List UInt8} {x6 : Int} {o : (((List UInt8) × Int) ⊕ ((List UInt8) × Int))} (h : J3w b0 x5 x6 = some o) :
  rk (J2 p) J10 0 [.lo 1 [1, 5, 6] J0S, .bl 0, .sq (.keep [1, 5] J20)] (X (J2 p) J0S ⟨[(1, .ptr 0 0), (5, .p (.s x5)), (6, .p (.i .i64 x6))], [.box (List.map AV.p (J3 b0))]⟩) = (J9r p b0) o := by
 unfold J3w at h
 rcases J8 h with ⟨h1, h⟩ | ⟨h1, h⟩
 ·obtain ⟨u2, h3, h⟩ := bi h
  have f4 : (0 ≤ (x6 : Int) ∧ (x6 : Int) < ((16 : Nat) : Int)) = True := eq_true (J8M h3)
  obtain ⟨y5, h6, h⟩ := bi h
  have f7 : sub (J3 b0) (2 + Int.toNat x6 * 2) 1 = some (r_b y5.Set) := by
   have e0 := (J77 (J77 (J0Z b0) (J91 (v := b0.Cells) JP (J4H h6).2)) (J9A y5))
   exact e0
  try simp only [Nf] at f7
  try simp only [↓Da, Ua, J0S, J4, J1, J6, *, ↓reduceIte, reduceEqDiff, reduceAdd, reduceLT, reduceMul]
  rcases J8 h with ⟨h8, h⟩ | ⟨h8, h⟩
  ·have f9 : sub (J3 b0) ((2 + Int.toNat x6 * 2) + 1) 1 = some (r_s y5.Data) := by
    have e0 := (J77 (J77 (J0Z b0) (J91 (v := b0.Cells) JP (J4H h6).2)) (J70 y5))
    exact e0
   try simp only [Nf] at f9
   try simp only [↓Da, Ua, J0S, J4, J1, J6, *, ↓reduceIte, reduceEqDiff, reduceAdd, reduceLT, reduceMul]
   have e0 := Jck p h
   first | exact e0 | (simp only [*] at e0; exact e0)
  ·try simp only [↓Da, Ua, J0S, J4, J1, J6, *, ↓reduceIte, reduceEqDiff, reduceAdd, reduceLT, reduceMul]
   have e0 := Jck p h
   first | exact e0 | (simp only [*] at e0; exact e0)
 ·obtain ⟨o', h', rfl⟩ := mi h
  try simp only [↓Da, Ua, J0S, J4, J1, J6, *, ↓reduceIte, reduceEqDiff, reduceAdd, reduceLT, reduceMul]
  have e0 := JhD p h'
  first | exact e0 | (simp only [*] at e0; exact e0)
def JbW (b0 : T_api_Page) (s : (List UInt8) × Int) : Option ((List UInt8) × Int) :=
 Jv (fun s => J3w b0 s.1 s.2) s
theorem JfH {b0 : T_api_Page} {s : (List UInt8) × Int} {o : (List UInt8) × Int} (h : JbW b0 s = some o) :
  rk (J2 p) J10 0 [.bl 0, .sq (.keep [1, 5] J20)] (X (J2 p) (.lp 1 [1, 5, 6] J0S) ⟨[(1, .ptr 0 0), (5, .p (.s s.1)), (6, .p (.i .i64 s.2))], [.box (List.map AV.p (J3 b0))]⟩) = J5K o := by
 have h0 : Jv (fun s => J3w b0 s.1 s.2) s = some o := h
 exact J0p (P := fun (s : (List UInt8) × Int) (o : (List UInt8) × Int) => rk (J2 p) J10 0 [.bl 0, .sq (.keep [1, 5] J20)] (X (J2 p) (.lp 1 [1, 5, 6] J0S) ⟨[(1, .ptr 0 0), (5, .p (.s s.1)), (6, .p (.i .i64 s.2))], [.box (List.map AV.p (J3 b0))]⟩) = J5K o) (fun s r hs => by rw [J0n]; exact Jci p hs) (fun s s1 r hs ih => by rw [J0n]; exact (Jci p hs).trans ih) h0
def J2O (x0 : T_api_Page) : Option ((List UInt8) × Int) :=
 Option.bind (J5l x0) fun r1 =>
 if ((r1 : Int) != 0) then
  some (([] : List UInt8), r1)
 else
  Option.bind (J1m ([]) x0.LSN 8) fun r5 =>
  Option.bind (J1m r5 x0.ID 4) fun r8 =>
  JbW x0 (r8, 0)
theorem Jfo {x0 : T_api_Page} {o : (List UInt8) × Int} (h : J2O x0 = some o) :
  rk (J2 p) J10 0 [] (X (J2 p) J4Q ⟨[(0, .data (J3 x0))], []⟩) = J5K o := by
 unfold J2O at h
 obtain ⟨r1, h2, h⟩ := bi h
 have f3 := Jly p h2
 try simp only [Nf] at f3
 try simp only [↓Da, Ua, J4Q, J4, J1, J6, *, ↓reduceIte, reduceEqDiff, reduceAdd, reduceLT, reduceMul]
 rcases J8 h with ⟨h4, h⟩ | ⟨h4, h⟩
 ·obtain rfl := sj h
  try simp only [↓Da, Ua, J4Q, J4, J1, J6, Jdh, *, ↓reduceIte, reduceEqDiff, reduceAdd, reduceLT, reduceMul]
  rfl
 ·obtain ⟨r5, h6, h⟩ := bi h
  have f7 := J94 p h6
  try simp only [Nf] at f7
  obtain ⟨r8, h9, h⟩ := bi h
  have f10 := J94 p h9
  try simp only [Nf] at f10
  try simp only [↓Da, Ua, J4Q, J4, J1, J6, *, ↓reduceIte, reduceEqDiff, reduceAdd, reduceLT, reduceMul]
  have e0 := JfH p h
  first | exact e0 | (simp only [*] at e0; exact e0)
theorem Jkb {x0 : T_api_Page} {o : (List UInt8) × Int} (h : J2O x0 = some o) : AF (J2 p) J4S [.data (J3 x0)] [] = J5K o :=
 (J0c (J2 p) (Jkf p) rfl).trans (Jfo p h)
theorem JdG {x0 : T_api_Page} {o : (List UInt8) × Int} (h : J2O x0 = some o) : ∀ ws new st, (Jl (AF (J2 p)) J4S ([.data (J3 x0)], ws) 0 new).run st = some ⟨.tup [.p (.s o.1), .p (.i .i64 o.2)], ws⟩ := Ju rfl (Jkb p h) rfl
def Jfw  (r : (List UInt8) × T_pagemenddraw_Codes) : Option Res := some (.p (.s r.1), [.box (List.map AV.p (J0 r.2))])
def J7e (b0 : T_pagemenddraw_Codes) (x1 : Int) : Option ((List UInt8) × T_pagemenddraw_Codes) :=
 Option.bind (JH b0 6) fun r1 =>
 if ((r1.1 : Int) == 0) then
  Option.bind (J4m) fun r5 =>
  some (r5, r1.2)
 else
  if ((r1.1 : Int) == 1) then
   Option.bind (J2E r1.2) fun r9 =>
   some (r9.1, r9.2)
  else
   Option.bind (J2Z r1.2 x1) fun r12 =>
   Option.bind (J2O r12.1) fun r15 =>
   some (r15.1, r12.2)
theorem JhY {b0 : T_pagemenddraw_Codes} {x1 : Int} {o : (List UInt8) × T_pagemenddraw_Codes} (h : J7e b0 x1 = some o) :
  rk (J2 p) J7c 1 [] (X (J2 p) J3T ⟨[(0, .ptr 0 0), (1, .p (.i .i64 x1))], [.box (List.map AV.p (J0 b0))]⟩) = Jfw o := by
 unfold J7e at h
 obtain ⟨r1, h2, h⟩ := bi h
 have f3 : ∀ ws new s, J06 ws s [0] [List.map AV.p (J0 b0)] → (Jl (AF (J2 p)) Ji ([.ptr 0 0, .p (.i .i64 6)], ws) 0 new).run s = some ⟨.p (.i .i64 r1.1), ws ++ [(0, .box (List.map AV.p (J0 r1.2)))]⟩ := JZ (args' := [.ptr 0 0, .p (.i .i64 6)]) (bs := [0]) (css := [List.map AV.p (J0 b0)]) (css' := [List.map AV.p (J0 r1.2)]) rfl rfl rfl (by simp [Jt, Jh]) (JT p h2) rfl rfl (by simp [Jt, Jh])
 try simp only [Nf] at f3
 try simp only [↓Da, Ua, J3T, J4, J1, J6, J9, *, ↓reduceIte, reduceEqDiff, reduceAdd, reduceLT, reduceMul]
 rcases J8 h with ⟨h4, h⟩ | ⟨h4, h⟩
 ·have h4n : ((r1.1 : Int) != 0) = false := by rw [bne, h4]; rfl
  obtain ⟨r5, h6, h⟩ := bi h
  have f7 := JeA p h6
  try simp only [Nf] at f7
  obtain rfl := sj h
  try simp only [↓Da, Ua, J3T, J4, J1, J6, J9, JbP, *, ↓reduceIte, reduceEqDiff, reduceAdd, reduceLT, reduceMul]
  rfl
 ·have h4n : ((r1.1 : Int) != 0) = true := by rw [bne, h4]; rfl
  try simp only [↓Da, Ua, J3T, J4, J1, J6, J9, *, ↓reduceIte, reduceEqDiff, reduceAdd, reduceLT, reduceMul]
  rcases J8 h with ⟨h8, h⟩ | ⟨h8, h⟩
  ·have h8n : ((r1.1 : Int) != 1) = false := by rw [bne, h8]; rfl
   obtain ⟨r9, h10, h⟩ := bi h
   have f11 : ∀ ws new s, J06 ws s [0] [List.map AV.p (J0 r1.2)] → (Jl (AF (J2 p)) J3K ([.ptr 0 0], ws) 0 new).run s = some ⟨.p (.s r9.1), ws ++ [(0, .box (List.map AV.p (J0 r9.2)))]⟩ := JZ (args' := [.ptr 0 0]) (bs := [0]) (css := [List.map AV.p (J0 r1.2)]) (css' := [List.map AV.p (J0 r9.2)]) rfl rfl rfl (by simp [Jt, Jh]) (Jfs p h10) rfl rfl (by simp [Jt, Jh])
   try simp only [Nf] at f11
   obtain rfl := sj h
   try simp only [↓Da, Ua, J3T, J4, J1, J6, J9, JbP, *, ↓reduceIte, reduceEqDiff, reduceAdd, reduceLT, reduceMul]
   rfl
  ·have h8n : ((r1.1 : Int) != 1) = true := by rw [bne, h8]; rfl
   obtain ⟨r12, h13, h⟩ := bi h
   have f14 : ∀ ws new s, J06 ws s [0] [List.map AV.p (J0 r1.2)] → (Jl (AF (J2 p)) J4e ([.ptr 0 0, .p (.i .i64 x1)], ws) 0 new).run s = some ⟨.data (J3 r12.1), ws ++ [(0, .box (List.map AV.p (J0 r12.2)))]⟩ := JZ (args' := [.ptr 0 0, .p (.i .i64 x1)]) (bs := [0]) (css := [List.map AV.p (J0 r1.2)]) (css' := [List.map AV.p (J0 r12.2)]) rfl rfl rfl (by simp [Jt, Jh]) (Jgz p h13) rfl rfl (by simp [Jt, Jh])
   try simp only [Nf] at f14
   obtain ⟨r15, h16, h⟩ := bi h
   have f17 := JdG p h16
   try simp only [Nf] at f17
   obtain rfl := sj h
   try simp only [↓Da, Ua, J3T, J4, J1, J6, J9, JbP, *, ↓reduceIte, reduceEqDiff, reduceAdd, reduceLT, reduceMul]
   rfl
theorem Jnh {b0 : T_pagemenddraw_Codes} {x1 : Int} {o : (List UInt8) × T_pagemenddraw_Codes} (h : J7e b0 x1 = some o) : AF (J2 p) J5T [.ptr 0 0, .p (.i .i64 x1)] [.box (List.map AV.p (J0 b0))] = Jfw o :=
 (J0c (J2 p) (Jmp p) rfl).trans (JhY p h)
def JcQ  (r : T_api_Page × Int) : Option Res := some (.tup [.data (J3 r.1), .p (.i .i64 r.2)], [])
def J0s (x0 : List UInt8) (x1 : Int) : Option (T_api_Page × Int) :=
 Option.bind (J1y x1) fun r1 =>
 if r1 then
  Option.bind (J14 x0) fun r5 =>
  if ((r5.2 : Int) == 7) then
   Option.bind (J8R x1) fun r9 =>
   some (r9, 0)
  else
   if ((r5.2 : Int) != 0) then
    some ((⟨0, 0, (Vector.replicate 16 (⟨false, []⟩ : Ja))⟩ : T_api_Page), r5.2)
   else
    if ((r5.1.ID : Int) != x1) then
     some ((⟨0, 0, (Vector.replicate 16 (⟨false, []⟩ : Ja))⟩ : T_api_Page), 6)
    else
     some (r5.1, 0)
 else
  some ((⟨0, 0, (Vector.replicate 16 (⟨false, []⟩ : Ja))⟩ : T_api_Page), 1)
theorem JeY {x0 : List UInt8} {x1 : Int} {o : T_api_Page × Int} (h : J0s x0 x1 = some o) :
  rk (J2 p) J56 0 [] (X (J2 p) J0O ⟨[(0, .p (.s x0)), (1, .p (.i .i64 x1))], []⟩) = JcQ o := by
 unfold J0s at h
 obtain ⟨r1, h2, h⟩ := bi h
 have f3 := Jfk p h2
 try simp only [Nf] at f3
 try simp only [↓Da, Ua, J0O, J4, J1, J6, *, ↓reduceIte, reduceEqDiff, reduceAdd, reduceLT, reduceMul]
 rcases J8 h with ⟨h4, h⟩ | ⟨h4, h⟩
 ·obtain ⟨r5, h6, h⟩ := bi h
  have f7 := Jlk p h6
  try simp only [Nf] at f7
  try simp only [↓Da, Ua, J0O, J4, J1, J6, *, ↓reduceIte, reduceEqDiff, reduceAdd, reduceLT, reduceMul]
  rcases J8 h with ⟨h8, h⟩ | ⟨h8, h⟩
  ·have h8n : ((r5.2 : Int) != 7) = false := by rw [bne, h8]; rfl
   obtain ⟨r9, h10, h⟩ := bi h
   have f11 := Jpt p h10
   try simp only [Nf] at f11
   obtain rfl := sj h
   try simp only [↓Da, Ua, J0O, J4, J1, J6, J6K, *, ↓reduceIte, reduceEqDiff, reduceAdd, reduceLT, reduceMul]
   rfl
  ·have h8n : ((r5.2 : Int) != 7) = true := by rw [bne, h8]; rfl
   try simp only [↓Da, Ua, J0O, J4, J1, J6, *, ↓reduceIte, reduceEqDiff, reduceAdd, reduceLT, reduceMul]
   rcases J8 h with ⟨h12, h⟩ | ⟨h12, h⟩
   ·obtain rfl := sj h
    try simp only [↓Da, Ua, J0O, J4, J1, J6, J6K, *, ↓reduceIte, reduceEqDiff, reduceAdd, reduceLT, reduceMul]
    rfl
   ·try simp only [↓Da, Ua, J0O, J4, J1, J6, *, ↓reduceIte, reduceEqDiff, reduceAdd, reduceLT, reduceMul]
    rcases J8 h with ⟨h13, h⟩ | ⟨h13, h⟩
    ·obtain rfl := sj h
     try simp only [↓Da, Ua, J0O, J4, J1, J6, J6K, *, ↓reduceIte, reduceEqDiff, reduceAdd, reduceLT, reduceMul]
     rfl
    ·obtain rfl := sj h
     try simp only [↓Da, Ua, J0O, J4, J1, J6, J6K, *, ↓reduceIte, reduceEqDiff, reduceAdd, reduceLT, reduceMul]
     rfl
 ·obtain rfl := sj h
  try simp only [↓Da, Ua, J0O, J4, J1, J6, J6K, *, ↓reduceIte, reduceEqDiff, reduceAdd, reduceLT, reduceMul]
  rfl
theorem Jiy {x0 : List UInt8} {x1 : Int} {o : T_api_Page × Int} (h : J0s x0 x1 = some o) : AF (J2 p) J34 [.p (.s x0), .p (.i .i64 x1)] [] = JcQ o :=
 (J0c (J2 p) (Jjj p) rfl).trans (JeY p h)
theorem Jah {x0 : List UInt8} {x1 : Int} {o : T_api_Page × Int} (h : J0s x0 x1 = some o) : ∀ ws new st, (Jl (AF (J2 p)) J34 ([.p (.s x0), .p (.i .i64 x1)], ws) 0 new).run st = some ⟨.tup [.data (J3 o.1), .p (.i .i64 o.2)], ws⟩ := Ju rfl (Jiy p h) rfl
def J5G  (r : T_api_Page × Int) : Option Res := some (.tup [.data (J3 r.1), .p (.i .i64 r.2)], [])
def Jc6 (x0 : List UInt8) (b0 : T_api_Page) (o : (Int × T_api_Page) ⊕ (T_api_Page × Int)) : Option Res := match o with
 | .inl s => rk (J2 p) J1p 0 [.bl 1, .sq (.keep [0, 2, 6] J0U)] (X (J2 p) (.lp 2 [0, 2, 6, 7] J0z) ⟨[(0, .p (.s x0)), (2, .ptr 0 0), (6, .ptr 1 0), (7, .p (.i .i64 s.1))], [.box (List.map AV.p (J3 b0)), .box (List.map AV.p (J3 s.2))]⟩)
 | .inr o => J5G o
def J4J (x0 : List UInt8) (x7 : Int) (b0 b1 : T_api_Page) : Option (((Int × T_api_Page) ⊕ (T_api_Page × Int))) :=
 some (.inl ((IntKind.wrap .i64 (x7 + 1)), b1))
theorem JbS {x0 : List UInt8} {x7 : Int} {b0 b1 : T_api_Page} {o : ((Int × T_api_Page) ⊕ (T_api_Page × Int))} (h : J4J x0 x7 b0 b1 = some o) :
  rk (J2 p) J1p 0 [.lo 2 [0, 2, 6, 7] J0z, .bl 1, .sq (.keep [0, 2, 6] J0U)] (X (J2 p) J9B ⟨[(0, .p (.s x0)), (2, .ptr 0 0), (6, .ptr 1 0), (7, .p (.i .i64 x7))], [.box (List.map AV.p (J3 b0)), .box (List.map AV.p (J3 b1))]⟩) = (Jc6 p x0 b0) o := by
 unfold J4J at h
 obtain rfl := sj h
 try simp only [↓Da, Ua, J9B, ↓reduceIte, reduceEqDiff, reduceAdd, reduceLT, reduceMul]
 rfl
def J2D (x0 : List UInt8) (b0 b1 : T_api_Page) : Option (T_api_Page × Int) :=
 Option.bind (J2O b1) fun r1 =>
 if ((r1.2 : Int) != 0) then
  some ((⟨0, 0, (Vector.replicate 16 (⟨false, []⟩ : Ja))⟩ : T_api_Page), 4)
 else
  if (r1.1 == x0) then
   some (b1, 0)
  else
   some ((⟨0, 0, (Vector.replicate 16 (⟨false, []⟩ : Ja))⟩ : T_api_Page), 4)
theorem Ji1 {x0 : List UInt8} {b0 b1 : T_api_Page} {o : T_api_Page × Int} (h : J2D x0 b0 b1 = some o) :
  rk (J2 p) J1p 0 [] (X (J2 p) J0U ⟨[(0, .p (.s x0)), (2, .ptr 0 0), (6, .ptr 1 0)], [.box (List.map AV.p (J3 b0)), .box (List.map AV.p (J3 b1))]⟩) = J5G o := by
 unfold J2D at h
 obtain ⟨r1, h2, h⟩ := bi h
 have f3 := JdG p h2
 try simp only [Nf] at f3
 try simp only [↓Da, Ua, J0U, J4, J1, J6, *, ↓reduceIte, reduceEqDiff, reduceAdd, reduceLT, reduceMul]
 rcases J8 h with ⟨h4, h⟩ | ⟨h4, h⟩
 ·obtain rfl := sj h
  try simp only [↓Da, Ua, J0U, J4, J1, J6, J3E, *, ↓reduceIte, reduceEqDiff, reduceAdd, reduceLT, reduceMul]
  rfl
 ·try simp only [↓Da, Ua, J0U, J4, J1, J6, *, ↓reduceIte, reduceEqDiff, reduceAdd, reduceLT, reduceMul]
  rcases J8 h with ⟨h5, h⟩ | ⟨h5, h⟩
  ·obtain rfl := sj h
   try simp only [↓Da, Ua, J0U, J4, J1, J6, J3E, *, ↓reduceIte, reduceEqDiff, reduceAdd, reduceLT, reduceMul]
   rfl
  ·obtain rfl := sj h
   try simp only [↓Da, Ua, J0U, J4, J1, J6, J3E, *, ↓reduceIte, reduceEqDiff, reduceAdd, reduceLT, reduceMul]
   rfl
def J2C (x0 : List UInt8) (b0 : T_api_Page) (x7 : Int) (b1 : T_api_Page) : Option (((Int × T_api_Page) ⊕ (T_api_Page × Int))) :=
 if (decide (x7 < 16)) then
  Option.bind (JbO x0 (IntKind.wrap .i64 (12 + (IntKind.wrap .i64 (x7 * 13))))) fun c2 =>
  if (((IntKind.wrap .i64 c2) : Int) == 255) then
   J4J x0 x7 b0 b1
  else
   if (decide ((IntKind.wrap .i64 c2) > 12)) then
    some (.inr ((⟨0, 0, (Vector.replicate 16 (⟨false, []⟩ : Ja))⟩ : T_api_Page), 4))
   else
    Option.bind (J1i x0 (some (IntKind.wrap .i64 ((IntKind.wrap .i64 (12 + (IntKind.wrap .i64 (x7 * 13)))) + 1))) (some (IntKind.wrap .i64 ((IntKind.wrap .i64 ((IntKind.wrap .i64 (12 + (IntKind.wrap .i64 (x7 * 13)))) + 1)) + (IntKind.wrap .i64 c2))))) fun m6 =>
    Option.bind (inb 16 x7) fun u9 =>
    Option.bind (J85 b1.Cells x7) fun y12 =>
    J4J x0 x7 b0 (⟨b1.ID, b1.LSN, (J9G b1.Cells x7 (⟨true, m6⟩ : Ja))⟩ : T_api_Page)
 else
  Option.map (fun o => .inr o) (J2D x0 b0 b1)
theorem JbV {x0 : List UInt8} {b0 : T_api_Page} {x7 : Int} {b1 : T_api_Page} {o : ((Int × T_api_Page) ⊕ (T_api_Page × Int))} (h : J2C x0 b0 x7 b1 = some o) :
  rk (J2 p) J1p 0 [.lo 2 [0, 2, 6, 7] J0z, .bl 1, .sq (.keep [0, 2, 6] J0U)] (X (J2 p) J0z ⟨[(0, .p (.s x0)), (2, .ptr 0 0), (6, .ptr 1 0), (7, .p (.i .i64 x7))], [.box (List.map AV.p (J3 b0)), .box (List.map AV.p (J3 b1))]⟩) = (Jc6 p x0 b0) o := by
 unfold J2C at h
 rcases J8 h with ⟨h1, h⟩ | ⟨h1, h⟩
 ·obtain ⟨c2, h3, h⟩ := bi h
  try simp only [↓Da, Ua, J0z, J4, J1, J6, *, ↓reduceIte, reduceEqDiff, reduceAdd, reduceLT, reduceMul]
  rcases J8 h with ⟨h4, h⟩ | ⟨h4, h⟩
  ·have h4n : (((IntKind.wrap .i64 c2) : Int) != 255) = false := by rw [bne, h4]; rfl
   try simp only [↓Da, Ua, J0z, J4, J1, J6, *, ↓reduceIte, reduceEqDiff, reduceAdd, reduceLT, reduceMul]
   have e0 := JbS p h
   exact e0
  ·have h4n : (((IntKind.wrap .i64 c2) : Int) != 255) = true := by rw [bne, h4]; rfl
   try simp only [↓Da, Ua, J0z, J4, J1, J6, *, ↓reduceIte, reduceEqDiff, reduceAdd, reduceLT, reduceMul]
   rcases J8 h with ⟨h5, h⟩ | ⟨h5, h⟩
   ·obtain rfl := sj h
    try simp only [↓Da, Ua, J0z, J4, J1, J6, J3E, *, ↓reduceIte, reduceEqDiff, reduceAdd, reduceLT, reduceMul]
    rfl
   ·obtain ⟨m6, h7, h⟩ := bi h
    have f8 : J2b (.p (.s x0)) (some (.p (.i .i64 (IntKind.wrap .i64 ((IntKind.wrap .i64 (12 + (IntKind.wrap .i64 (x7 * 13)))) + 1))))) (some (.p (.i .i64 (IntKind.wrap .i64 ((IntKind.wrap .i64 ((IntKind.wrap .i64 (12 + (IntKind.wrap .i64 (x7 * 13)))) + 1)) + (IntKind.wrap .i64 c2)))))) = some (.p (.s m6)) := J2z (k := .i64) (lo := (some (IntKind.wrap .i64 ((IntKind.wrap .i64 (12 + (IntKind.wrap .i64 (x7 * 13)))) + 1)))) (hi := (some (IntKind.wrap .i64 ((IntKind.wrap .i64 ((IntKind.wrap .i64 (12 + (IntKind.wrap .i64 (x7 * 13)))) + 1)) + (IntKind.wrap .i64 c2))))) h7
    try simp only [Nf] at f8
    obtain ⟨u9, h10, h⟩ := bi h
    have f11 : (0 ≤ (x7 : Int) ∧ (x7 : Int) < ((16 : Nat) : Int)) = True := eq_true (J8M h10)
    obtain ⟨y12, h13, h⟩ := bi h
    have f14 : spl (J3 b1) (2 + Int.toNat x7 * 2) (Jf (⟨true, m6⟩ : Ja)) = some (J3 (⟨b1.ID, b1.LSN, (J9G b1.Cells x7 (⟨true, m6⟩ : Ja))⟩ : T_api_Page)) := by
     have e0 := (JjW (J0Z b1) (JiH (v := b1.Cells) JP (Jg7 h13) (⟨true, m6⟩ : Ja)) (J6H b1 _))
     exact e0
    try simp only [Nf] at f14
    try simp only [↓Da, Ua, J0z, J4, J1, J6, *, ↓reduceIte, reduceEqDiff, reduceAdd, reduceLT, reduceMul]
    have e0 := JbS p h
    exact e0
 ·obtain ⟨o', h', rfl⟩ := mi h
  try simp only [↓Da, Ua, J0z, J4, J1, J6, *, ↓reduceIte, reduceEqDiff, reduceAdd, reduceLT, reduceMul]
  have e0 := Ji1 p h'
  exact e0
def J9u (x0 : List UInt8) (b0 : T_api_Page) (s : Int × T_api_Page) : Option (T_api_Page × Int) :=
 Jv (fun s => J2C x0 b0 s.1 s.2) s
theorem JfK {x0 : List UInt8} {b0 : T_api_Page} {s : Int × T_api_Page} {o : T_api_Page × Int} (h : J9u x0 b0 s = some o) :
  rk (J2 p) J1p 0 [.bl 1, .sq (.keep [0, 2, 6] J0U)] (X (J2 p) (.lp 2 [0, 2, 6, 7] J0z) ⟨[(0, .p (.s x0)), (2, .ptr 0 0), (6, .ptr 1 0), (7, .p (.i .i64 s.1))], [.box (List.map AV.p (J3 b0)), .box (List.map AV.p (J3 s.2))]⟩) = J5G o := by
 have h0 : Jv (fun s => J2C x0 b0 s.1 s.2) s = some o := h
 exact J0p (P := fun (s : Int × T_api_Page) (o : T_api_Page × Int) => rk (J2 p) J1p 0 [.bl 1, .sq (.keep [0, 2, 6] J0U)] (X (J2 p) (.lp 2 [0, 2, 6, 7] J0z) ⟨[(0, .p (.s x0)), (2, .ptr 0 0), (6, .ptr 1 0), (7, .p (.i .i64 s.1))], [.box (List.map AV.p (J3 b0)), .box (List.map AV.p (J3 s.2))]⟩) = J5G o) (fun s r hs => by rw [J0n]; exact JbV p hs) (fun s s1 r hs ih => by rw [J0n]; exact (JbV p hs).trans ih) h0
def J4T (x0 : List UInt8) : Option (T_api_Page × Int) :=
 if ((((List.length x0 : Nat) : Int) : Int) != 256) then
  some ((⟨0, 0, (Vector.replicate 16 (⟨false, []⟩ : Ja))⟩ : T_api_Page), 2)
 else
  Option.bind (J4m) fun r2 =>
  if (x0 == r2) then
   some ((⟨0, 0, (Vector.replicate 16 (⟨false, []⟩ : Ja))⟩ : T_api_Page), 7)
  else
   Option.bind (J1i x0 none (some 8)) fun m6 =>
   Option.bind (J1i x0 (some 248) none) fun m9 =>
   if (m6 == m9) then
    Option.bind (J1n x0 244 4) fun r13 =>
    Option.bind (J1i x0 none (some 244)) fun m16 =>
    Option.bind (J5B m16) fun r19 =>
    if (((IntKind.wrap .u32 r13.1) : Int) != r19) then
     some ((⟨0, 0, (Vector.replicate 16 (⟨false, []⟩ : Ja))⟩ : T_api_Page), 3)
    else
     Option.bind (J1n x0 0 8) fun r23 =>
     Option.bind (J1n x0 8 4) fun r26 =>
     J9u x0 (⟨0, 0, (Vector.replicate 16 (⟨false, []⟩ : Ja))⟩ : T_api_Page) (0, (⟨r26.1, r23.1, (Vector.replicate 16 (⟨false, []⟩ : Ja))⟩ : T_api_Page))
   else
    some ((⟨0, 0, (Vector.replicate 16 (⟨false, []⟩ : Ja))⟩ : T_api_Page), 27)
theorem Jff {x0 : List UInt8} {o : T_api_Page × Int} (h : J4T x0 = some o) :
  rk (J2 p) J1p 0 [] (X (J2 p) J1s ⟨[(0, .p (.s x0))], []⟩) = J5G o := by
 unfold J4T at h
 rcases J8 h with ⟨h1, h⟩ | ⟨h1, h⟩
 ·obtain rfl := sj h
  try simp only [↓Da, Ua, J1s, J4, J1, J6, J3E, *, ↓reduceIte, reduceEqDiff, reduceAdd, reduceLT, reduceMul]
  rfl
 ·obtain ⟨r2, h3, h⟩ := bi h
  have f4 := JeA p h3
  try simp only [Nf] at f4
  try simp only [↓Da, Ua, J1s, J4, J1, J6, *, ↓reduceIte, reduceEqDiff, reduceAdd, reduceLT, reduceMul]
  rcases J8 h with ⟨h5, h⟩ | ⟨h5, h⟩
  ·obtain rfl := sj h
   try simp only [↓Da, Ua, J1s, J4, J1, J6, J3E, *, ↓reduceIte, reduceEqDiff, reduceAdd, reduceLT, reduceMul]
   rfl
  ·obtain ⟨m6, h7, h⟩ := bi h
   have f8 : J2b (.p (.s x0)) none (some (.p (.i .i64 8))) = some (.p (.s m6)) := J2z (k := .i64) (lo := none) (hi := (some 8)) h7
   try simp only [Nf] at f8
   obtain ⟨m9, h10, h⟩ := bi h
   have f11 : J2b (.p (.s x0)) (some (.p (.i .i64 248))) none = some (.p (.s m9)) := J2z (k := .i64) (lo := (some 248)) (hi := none) h10
   try simp only [Nf] at f11
   try simp only [↓Da, Ua, J1s, J4, J1, J6, *, ↓reduceIte, reduceEqDiff, reduceAdd, reduceLT, reduceMul]
   rcases J8 h with ⟨h12, h⟩ | ⟨h12, h⟩
   ·obtain ⟨r13, h14, h⟩ := bi h
    have f15 := Jd6 p h14
    try simp only [Nf] at f15
    obtain ⟨m16, h17, h⟩ := bi h
    have f18 : J2b (.p (.s x0)) none (some (.p (.i .i64 244))) = some (.p (.s m16)) := J2z (k := .i64) (lo := none) (hi := (some 244)) h17
    try simp only [Nf] at f18
    obtain ⟨r19, h20, h⟩ := bi h
    have f21 := Jhd p h20
    try simp only [Nf] at f21
    try simp only [↓Da, Ua, J1s, J4, J1, J6, *, ↓reduceIte, reduceEqDiff, reduceAdd, reduceLT, reduceMul]
    rcases J8 h with ⟨h22, h⟩ | ⟨h22, h⟩
    ·obtain rfl := sj h
     try simp only [↓Da, Ua, J1s, J4, J1, J6, J3E, *, ↓reduceIte, reduceEqDiff, reduceAdd, reduceLT, reduceMul]
     rfl
    ·obtain ⟨r23, h24, h⟩ := bi h
     have f25 := Jd6 p h24
     try simp only [Nf] at f25
     obtain ⟨r26, h27, h⟩ := bi h
     have f28 := Jd6 p h27
     try simp only [Nf] at f28
     try simp only [↓Da, Ua, J1s, J4, J1, J6, *, ↓reduceIte, reduceEqDiff, reduceAdd, reduceLT, reduceMul]
     have e0 := JfK p h
     exact e0
   ·obtain rfl := sj h
    try simp only [↓Da, Ua, J1s, J4, J1, J6, J3E, *, ↓reduceIte, reduceEqDiff, reduceAdd, reduceLT, reduceMul]
    rfl
theorem Jjz {x0 : List UInt8} {o : T_api_Page × Int} (h : J4T x0 = some o) : AF (J2 p) J5H [.p (.s x0)] [] = J5G o :=
 (J0c (J2 p) (Jk9 p) rfl).trans (Jff p h)
theorem JjA {x0 : List UInt8} {o : T_api_Page × Int} (h : J4T x0 = some o) : ∀ ws new st, (Jl (AF (J2 p)) J5H ([.p (.s x0)], ws) 0 new).run st = some ⟨.tup [.data (J3 o.1), .p (.i .i64 o.2)], ws⟩ := Ju rfl (Jjz p h) rfl
def J6j  (r : Bool) : Option Res := some (.p (.b r), [])
def Jj2 (x35 : Int) (b0 : T_api_Image) (o : (Int) ⊕ (Bool)) : Option Res := match o with
 | .inl s => rk (J2 p) J27 0 [.bl 0, .td 1 [2], .sq (.keep [] J3X)] (X (J2 p) (.lp 1 [1, 35, 36] JL) ⟨[(1, .ptr 0 0), (35, .p (.i .i64 x35)), (36, .p (.i .i64 s))], [.box (List.map AV.p (J7 b0))]⟩)
 | .inr o => J6j o
def Jal  : Option (Bool) :=
 some true
theorem Jjq {B0 : List PV} {o : Bool} (h : Jal = some o) :
  rk (J2 p) J27 0 [] (X (J2 p) J3X ⟨[], [.box (List.map AV.p B0)]⟩) = J6j o := by
 unfold Jal at h
 obtain rfl := sj h
 try simp only [↓Da, Ua, J3X, J1L, ↓reduceIte, reduceEqDiff, reduceAdd, reduceLT, reduceMul]
 rfl
def J36 (x35 : Int) (b0 : T_api_Image) (x36 : Int) : Option (((Int) ⊕ (Bool))) :=
 if (decide (x36 < x35)) then
  Option.bind (idx b0.Copies x36) fun y2 =>
  if (decide (y2.Page ≥ b0.Pages)) then
   some (.inr false)
  else
   if (decide (x36 > 0)) then
    Option.bind (idx b0.Copies (IntKind.wrap .i64 (x36 - 1))) fun y7 =>
    if (decide (y7.Page ≥ y2.Page)) then
     some (.inr false)
    else
     Option.bind (J0s y2.Data y2.Page) fun r11 =>
     if ((r11.2 : Int) != 0) then
      some (.inr false)
     else
      if ((r11.1.LSN : Int) != y2.LSN) then
       some (.inr false)
      else
       some (.inl (IntKind.wrap .i64 (x36 + 1)))
   else
    Option.bind (J0s y2.Data y2.Page) fun r16 =>
    if ((r16.2 : Int) != 0) then
     some (.inr false)
    else
     if ((r16.1.LSN : Int) != y2.LSN) then
      some (.inr false)
     else
      some (.inl (IntKind.wrap .i64 (x36 + 1)))
 else
  Option.map (fun o => .inr o) (Jal)
theorem JcA {x35 : Int} {b0 : T_api_Image} {x36 : Int} {o : ((Int) ⊕ (Bool))} (h : J36 x35 b0 x36 = some o) :
  rk (J2 p) J27 0 [.lo 1 [1, 35, 36] JL, .bl 0, .td 1 [2], .sq (.keep [] J3X)] (X (J2 p) JL ⟨[(1, .ptr 0 0), (35, .p (.i .i64 x35)), (36, .p (.i .i64 x36))], [.box (List.map AV.p (J7 b0))]⟩) = (Jj2 p x35 b0) o := by
 unfold J36 at h
 rcases J8 h with ⟨h1, h⟩ | ⟨h1, h⟩
 ·obtain ⟨y2, h3, h⟩ := bi h
  have f4 := J6M (r := J5) h3
  try simp only [Nf] at f4
  try simp only [↓Da, Ua, JL, Jd, J4, J1, J6, Je, *, ↓reduceIte, reduceEqDiff, reduceAdd, reduceLT, reduceMul]
  rcases J8 h with ⟨h5, h⟩ | ⟨h5, h⟩
  ·obtain rfl := sj h
   try simp only [↓Da, Ua, JL, Jd, J4, J1, J6, Je, J1L, *, ↓reduceIte, reduceEqDiff, reduceAdd, reduceLT, reduceMul]
   rfl
  ·try simp only [↓Da, Ua, JL, Jd, J4, J1, J6, Je, *, ↓reduceIte, reduceEqDiff, reduceAdd, reduceLT, reduceMul]
   rcases J8 h with ⟨h6, h⟩ | ⟨h6, h⟩
   ·obtain ⟨y7, h8, h⟩ := bi h
    have f9 := J6M (r := J5) h8
    try simp only [Nf] at f9
    try simp only [↓Da, Ua, JL, Jd, J4, J1, J6, Je, *, ↓reduceIte, reduceEqDiff, reduceAdd, reduceLT, reduceMul]
    rcases J8 h with ⟨h10, h⟩ | ⟨h10, h⟩
    ·obtain rfl := sj h
     try simp only [↓Da, Ua, JL, Jd, J4, J1, J6, Je, J1L, *, ↓reduceIte, reduceEqDiff, reduceAdd, reduceLT, reduceMul]
     rfl
    ·obtain ⟨r11, h12, h⟩ := bi h
     have f13 := Jah p h12
     try simp only [Nf] at f13
     try simp only [↓Da, Ua, JL, Jd, J4, J1, J6, Je, *, ↓reduceIte, reduceEqDiff, reduceAdd, reduceLT, reduceMul]
     rcases J8 h with ⟨h14, h⟩ | ⟨h14, h⟩
     ·obtain rfl := sj h
      try simp only [↓Da, Ua, JL, Jd, J4, J1, J6, Je, J1L, *, ↓reduceIte, reduceEqDiff, reduceAdd, reduceLT, reduceMul]
      rfl
     ·try simp only [↓Da, Ua, JL, Jd, J4, J1, J6, Je, *, ↓reduceIte, reduceEqDiff, reduceAdd, reduceLT, reduceMul]
      rcases J8 h with ⟨h15, h⟩ | ⟨h15, h⟩
      ·obtain rfl := sj h
       try simp only [↓Da, Ua, JL, Jd, J4, J1, J6, Je, J1L, *, ↓reduceIte, reduceEqDiff, reduceAdd, reduceLT, reduceMul]
       rfl
      ·obtain rfl := sj h
       try simp only [↓Da, Ua, JL, Jd, J4, J1, J6, Je, *, ↓reduceIte, reduceEqDiff, reduceAdd, reduceLT, reduceMul]
       rfl
   ·obtain ⟨r16, h17, h⟩ := bi h
    have f18 := Jah p h17
    try simp only [Nf] at f18
    try simp only [↓Da, Ua, JL, Jd, J4, J1, J6, Je, *, ↓reduceIte, reduceEqDiff, reduceAdd, reduceLT, reduceMul]
    rcases J8 h with ⟨h19, h⟩ | ⟨h19, h⟩
    ·obtain rfl := sj h
     try simp only [↓Da, Ua, JL, Jd, J4, J1, J6, Je, J1L, *, ↓reduceIte, reduceEqDiff, reduceAdd, reduceLT, reduceMul]
     rfl
    ·try simp only [↓Da, Ua, JL, Jd, J4, J1, J6, Je, *, ↓reduceIte, reduceEqDiff, reduceAdd, reduceLT, reduceMul]
     rcases J8 h with ⟨h20, h⟩ | ⟨h20, h⟩
     ·obtain rfl := sj h
      try simp only [↓Da, Ua, JL, Jd, J4, J1, J6, Je, J1L, *, ↓reduceIte, reduceEqDiff, reduceAdd, reduceLT, reduceMul]
      rfl
     ·obtain rfl := sj h
      try simp only [↓Da, Ua, JL, Jd, J4, J1, J6, Je, *, ↓reduceIte, reduceEqDiff, reduceAdd, reduceLT, reduceMul]
      rfl
 ·obtain ⟨o', h', rfl⟩ := mi h
  try simp only [↓Da, Ua, JL, Jd, J4, J1, J6, Je, *, ↓reduceIte, reduceEqDiff, reduceAdd, reduceLT, reduceMul]
  have e0 := Jjq p (B0 := (J7 b0)) h'
  exact e0
def J8f (x35 : Int) (b0 : T_api_Image) (s : Int) : Option (Bool) :=
 Jv (fun s => J36 x35 b0 s) s
theorem JgO {x35 : Int} {b0 : T_api_Image} {s : Int} {o : Bool} (h : J8f x35 b0 s = some o) :
  rk (J2 p) J27 0 [.bl 0, .td 1 [2], .sq (.keep [] J3X)] (X (J2 p) (.lp 1 [1, 35, 36] JL) ⟨[(1, .ptr 0 0), (35, .p (.i .i64 x35)), (36, .p (.i .i64 s))], [.box (List.map AV.p (J7 b0))]⟩) = J6j o := by
 have h0 : Jv (fun s => J36 x35 b0 s) s = some o := h
 exact J0p (P := fun (s : Int) (o : Bool) => rk (J2 p) J27 0 [.bl 0, .td 1 [2], .sq (.keep [] J3X)] (X (J2 p) (.lp 1 [1, 35, 36] JL) ⟨[(1, .ptr 0 0), (35, .p (.i .i64 x35)), (36, .p (.i .i64 s))], [.box (List.map AV.p (J7 b0))]⟩) = J6j o) (fun s r hs => by rw [J0n]; exact JcA p hs) (fun s s1 r hs ih => by rw [J0n]; exact (JcA p hs).trans ih) h0
def J1b (x0 : T_api_Image) : Option (Bool) :=
 if (decide (x0.ID < 1)) then
  some false
 else
  if (decide (x0.ID > 1073741824)) then
   some false
  else
   if (decide (x0.Pages < 1)) then
    some false
   else
    if (decide (x0.Pages > 64)) then
     some false
    else
     if (decide (((List.length x0.Copies : Nat) : Int) > x0.Pages)) then
      some false
     else
      J8f ((List.length x0.Copies : Nat) : Int) x0 0
theorem Jgo {x0 : T_api_Image} {o : Bool} (h : J1b x0 = some o) :
  rk (J2 p) J27 0 [] (X (J2 p) J16 ⟨[(0, .data (J7 x0))], []⟩) = J6j o := by
 unfold J1b at h
 rcases J8 h with ⟨h1, h⟩ | ⟨h1, h⟩
 ·obtain rfl := sj h
  try simp only [↓Da, Ua, J16, Jd, Je, J1L, *, ↓reduceIte, reduceEqDiff, reduceAdd, reduceLT, reduceMul]
  rfl
 ·try simp only [↓Da, Ua, J16, Jd, Je, *, ↓reduceIte, reduceEqDiff, reduceAdd, reduceLT, reduceMul]
  rcases J8 h with ⟨h2, h⟩ | ⟨h2, h⟩
  ·obtain rfl := sj h
   try simp only [↓Da, Ua, J16, Jd, Je, J1L, *, ↓reduceIte, reduceEqDiff, reduceAdd, reduceLT, reduceMul]
   rfl
  ·try simp only [↓Da, Ua, J16, Jd, Je, *, ↓reduceIte, reduceEqDiff, reduceAdd, reduceLT, reduceMul]
   rcases J8 h with ⟨h3, h⟩ | ⟨h3, h⟩
   ·obtain rfl := sj h
    try simp only [↓Da, Ua, J16, Jd, Je, J1L, *, ↓reduceIte, reduceEqDiff, reduceAdd, reduceLT, reduceMul]
    rfl
   ·try simp only [↓Da, Ua, J16, Jd, Je, *, ↓reduceIte, reduceEqDiff, reduceAdd, reduceLT, reduceMul]
    rcases J8 h with ⟨h4, h⟩ | ⟨h4, h⟩
    ·obtain rfl := sj h
     try simp only [↓Da, Ua, J16, Jd, Je, J1L, *, ↓reduceIte, reduceEqDiff, reduceAdd, reduceLT, reduceMul]
     rfl
    ·try simp only [↓Da, Ua, J16, Jd, Je, *, ↓reduceIte, reduceEqDiff, reduceAdd, reduceLT, reduceMul]
     rcases J8 h with ⟨h5, h⟩ | ⟨h5, h⟩
     ·obtain rfl := sj h
      try simp only [↓Da, Ua, J16, Jd, Je, J1L, *, ↓reduceIte, reduceEqDiff, reduceAdd, reduceLT, reduceMul]
      rfl
     ·try simp only [↓Da, Ua, J16, Jd, Je, *, ↓reduceIte, reduceEqDiff, reduceAdd, reduceLT, reduceMul]
      have e0 := JgO p h
      exact e0
theorem Jb1 {x0 : T_api_Image} {o : Bool} (h : J1b x0 = some o) : AF (J2 p) J4q [.data (J7 x0)] [] = J6j o :=
 (J0c (J2 p) (Jld p) rfl).trans (Jgo p h)
theorem Jex {x0 : T_api_Image} {o : Bool} (h : J1b x0 = some o) : ∀ ws new st, (Jl (AF (J2 p)) J4q ([.data (J7 x0)], ws) 0 new).run st = some ⟨.p (.b o), ws⟩ := Ju rfl (Jb1 p h) rfl
def Jc7  (r : T_api_Copy) : Option Res := some (.data (J5 r), [])
def J3v (x0 : List UInt8) : Option (T_api_Copy) :=
 Option.bind (J1i x0 (some 2) none) fun m1 =>
 Option.bind (JM x0 0 2) fun r4 =>
 Option.bind (J0s m1 r4.1) fun r7 =>
 some (⟨r4.1, r7.1.LSN, m1⟩ : T_api_Copy)
theorem Jeh {x0 : List UInt8} {o : T_api_Copy} (h : J3v x0 = some o) :
  rk (J2 p) J4N 0 [] (X (J2 p) J61 ⟨[(0, .p (.s x0))], []⟩) = Jc7 o := by
 unfold J3v at h
 obtain ⟨m1, h2, h⟩ := bi h
 have f3 : J2b (.p (.s x0)) (some (.p (.i .i64 2))) none = some (.p (.s m1)) := J2z (k := .i64) (lo := (some 2)) (hi := none) h2
 try simp only [Nf] at f3
 obtain ⟨r4, h5, h⟩ := bi h
 have f6 := J6T p h5
 try simp only [Nf] at f6
 obtain ⟨r7, h8, h⟩ := bi h
 have f9 := Jah p h8
 try simp only [Nf] at f9
 obtain rfl := sj h
 try simp only [↓Da, Ua, J61, J4, J1, J6, Je, Ji0, *, ↓reduceIte, reduceEqDiff, reduceAdd, reduceLT, reduceMul]
 rfl
theorem JhB {x0 : List UInt8} {o : T_api_Copy} (h : J3v x0 = some o) : AF (J2 p) J3t [.p (.s x0)] [] = Jc7 o :=
 (J0c (J2 p) (JhU p) rfl).trans (Jeh p h)
theorem Ji2 {x0 : List UInt8} {o : T_api_Copy} (h : J3v x0 = some o) : ∀ ws new st, (Jl (AF (J2 p)) J3t ([.p (.s x0)], ws) 0 new).run st = some ⟨.data (J5 o), ws⟩ := Ju rfl (JhB p h) rfl
def JbX  (r : T_api_Page × Int) : Option Res := some (.tup [.data (J3 r.1), .p (.i .i64 r.2)], [])
def J1c (x0 : List UInt8) (x1 : Int) : Option (T_api_Page × Int) :=
 if (decide (x1 < 0)) then
  some ((⟨0, 0, (Vector.replicate 16 (⟨false, []⟩ : Ja))⟩ : T_api_Page), 1)
 else
  if (decide (x1 ≥ 64)) then
   some ((⟨0, 0, (Vector.replicate 16 (⟨false, []⟩ : Ja))⟩ : T_api_Page), 1)
  else
   Option.bind (J4T x0) fun r3 =>
   if ((r3.2 : Int) == 7) then
    Option.bind (J7X x1) fun r7 =>
    some (r7, 0)
   else
    if ((r3.2 : Int) == 0) then
     if ((r3.1.ID : Int) != x1) then
      some ((⟨0, 0, (Vector.replicate 16 (⟨false, []⟩ : Ja))⟩ : T_api_Page), 6)
     else
      some (r3.1, r3.2)
    else
     some (r3.1, r3.2)
theorem JdO {x0 : List UInt8} {x1 : Int} {o : T_api_Page × Int} (h : J1c x0 x1 = some o) :
  rk (J2 p) J4P 0 [] (X (J2 p) J0g ⟨[(0, .p (.s x0)), (1, .p (.i .i64 x1))], []⟩) = JbX o := by
 unfold J1c at h
 rcases J8 h with ⟨h1, h⟩ | ⟨h1, h⟩
 ·obtain rfl := sj h
  try simp only [↓Da, Ua, J0g, J4, J1, J6, J4O, *, ↓reduceIte, reduceEqDiff, reduceAdd, reduceLT, reduceMul]
  rfl
 ·try simp only [↓Da, Ua, J0g, J4, J1, J6, *, ↓reduceIte, reduceEqDiff, reduceAdd, reduceLT, reduceMul]
  rcases J8 h with ⟨h2, h⟩ | ⟨h2, h⟩
  ·obtain rfl := sj h
   try simp only [↓Da, Ua, J0g, J4, J1, J6, J4O, *, ↓reduceIte, reduceEqDiff, reduceAdd, reduceLT, reduceMul]
   rfl
  ·obtain ⟨r3, h4, h⟩ := bi h
   have f5 := JjA p h4
   try simp only [Nf] at f5
   try simp only [↓Da, Ua, J0g, J4, J1, J6, *, ↓reduceIte, reduceEqDiff, reduceAdd, reduceLT, reduceMul]
   rcases J8 h with ⟨h6, h⟩ | ⟨h6, h⟩
   ·have h6n : ((r3.2 : Int) != 7) = false := by rw [bne, h6]; rfl
    obtain ⟨r7, h8, h⟩ := bi h
    have f9 := Job p h8
    try simp only [Nf] at f9
    obtain rfl := sj h
    try simp only [↓Da, Ua, J0g, J4, J1, J6, J4O, *, ↓reduceIte, reduceEqDiff, reduceAdd, reduceLT, reduceMul]
    rfl
   ·have h6n : ((r3.2 : Int) != 7) = true := by rw [bne, h6]; rfl
    try simp only [↓Da, Ua, J0g, J4, J1, J6, *, ↓reduceIte, reduceEqDiff, reduceAdd, reduceLT, reduceMul]
    rcases J8 h with ⟨h10, h⟩ | ⟨h10, h⟩
    ·have h10n : ((r3.2 : Int) != 0) = false := by rw [bne, h10]; rfl
     try simp only [↓Da, Ua, J0g, J4, J1, J6, *, ↓reduceIte, reduceEqDiff, reduceAdd, reduceLT, reduceMul]
     rcases J8 h with ⟨h11, h⟩ | ⟨h11, h⟩
     ·obtain rfl := sj h
      try simp only [↓Da, Ua, J0g, J4, J1, J6, J4O, *, ↓reduceIte, reduceEqDiff, reduceAdd, reduceLT, reduceMul]
      rfl
     ·obtain rfl := sj h
      try simp only [↓Da, Ua, J0g, J4, J1, J6, J4O, *, ↓reduceIte, reduceEqDiff, reduceAdd, reduceLT, reduceMul]
      rfl
    ·have h10n : ((r3.2 : Int) != 0) = true := by rw [bne, h10]; rfl
     obtain rfl := sj h
     try simp only [↓Da, Ua, J0g, J4, J1, J6, J4O, *, ↓reduceIte, reduceEqDiff, reduceAdd, reduceLT, reduceMul]
     rfl
theorem JhJ {x0 : List UInt8} {x1 : Int} {o : T_api_Page × Int} (h : J1c x0 x1 = some o) : AF (J2 p) J2B [.p (.s x0), .p (.i .i64 x1)] [] = JbX o :=
 (J0c (J2 p) (Jif p) rfl).trans (JdO p h)
theorem J9q {x0 : List UInt8} {x1 : Int} {o : T_api_Page × Int} (h : J1c x0 x1 = some o) : ∀ ws new st, (Jl (AF (J2 p)) J2B ([.p (.s x0), .p (.i .i64 x1)], ws) 0 new).run st = some ⟨.tup [.data (J3 o.1), .p (.i .i64 o.2)], ws⟩ := Ju rfl (JhJ p h) rfl
end
end Go.Am
end
section
end
section
namespace Go.Am
set_option maxRecDepth 8000
set_option linter.unusedSimpArgs false
set_option linter.unusedVariables false
noncomputable section
def Jcl : List T_api_Copy → List UInt8 → Option (List UInt8)
 | [], s => some s
 | c :: r, s => Option.bind (J0e [] c.Page 2) fun b => Option.bind (J3z b c.Data) fun d => Option.bind (J2K d) fun f =>
  if s.length + f.length ≤ 140737488355328 then Jcl r (s ++ f) else none
def J1O (x0 : T_api_Image) : Option (List UInt8 × Int) :=
 Option.bind (J1b x0) fun v =>
 if v then
  Option.bind (J0e [80, 77, 73, 77] x0.ID 4) fun h1 => Option.bind (J0e h1 x0.Pages 2) fun h2 => Option.bind (J0e h2 ((x0.Copies.length : Nat) : Int) 2) fun h3 => Option.bind (J2K h3) fun f =>
  if f.length ≤ 140737488355328 then Option.bind (Jcl x0.Copies f) fun s => some (s, 0) else none
 else some ([], 43)
theorem JoT {α β : Type} {r : α → β} (h : ∀ x y, r x = r y → x = y) : ∀ {a b : List α}, a.map r = b.map r → a = b
 | [], [], _ => rfl
 | [], _ :: _, e => by simp at e
 | _ :: _, [], e => by simp at e
 | x :: a, y :: b, e => by
  simp only [List.map_cons, List.cons.injEq] at e
  rw [h x y e.1, JoT h e.2]
theorem JrE (x y : T_api_Copy) (h : J5 x = J5 y) : x = y := by
 cases x; cases y
 simp [J5, cat] at h
 simp [h]
theorem JqC (x y : T_api_Image) (h : J7 x = J7 y) : x = y := by
 cases x; cases y
 simp only [J7, cat, List.cons_append, List.nil_append, List.cons.injEq, PV.i.injEq, PV.sl.injEq, true_and, and_true] at h
 obtain ⟨h1, h2, h3⟩ := h
 rw [h1, h2, JoT JrE h3]
open Classical in
def Jdb : List AV → List Blk → Option Res := fun args blks =>
 if h : ∃ x o, args = [.data (J7 x)] ∧ J1O x = some o then some (.tup [.p (.s (Classical.choose (Classical.choose_spec h)).1), .p (.i .i64 (Classical.choose (Classical.choose_spec h)).2)], blks) else none
theorem JoI {args : List AV} {blks : List Blk} {r : Res} (h : Jdb args blks = some r) : ∃ x o, args = [.data (J7 x)] ∧ J1O x = some o ∧ r = (.tup [.p (.s o.1), .p (.i .i64 o.2)], blks) := by
 unfold Jdb at h
 split at h
 ·rename_i hx
  injection h with h
  have h2 := Classical.choose_spec (Classical.choose_spec hx)
  exact ⟨_, _, h2.1, h2.2, h.symm⟩
 ·cases h
theorem JtC {x : T_api_Image} {o : List UInt8 × Int} (blks : List Blk) (h : J1O x = some o) : Jdb [.data (J7 x)] blks = some (.tup [.p (.s o.1), .p (.i .i64 o.2)], blks) := by
 cases hr : Jdb [.data (J7 x)] blks with
 | some r =>
  obtain ⟨x', o', h1, h2, h3⟩ := JoI hr
  simp only [List.cons.injEq, AV.data.injEq, and_true] at h1
  rw [JqC _ _ h1, h2] at h
  injection h with h
  rw [h3, h]
 | none =>
  unfold Jdb at hr
  rw [dif_pos ⟨x, o, rfl, h⟩] at hr
  cases hr
abbrev PS := { p : FuncId → Option (List AV → List Blk → Option Res) // p J0k = some Jdb }
theorem Jkk (p : PS) : J2 p J0k = some (.prim Jdb) := by
 show Jrq (lkF J0k fns) (lkF J0k Jiw) (lkF J0k Jjv) (p.1 J0k) = _
 rw [p.2]
 rfl
theorem JaE (p : PS) {x0 : T_api_Image} {o : List UInt8 × Int} (h : J1O x0 = some o) : AF (J2 p) J0k [.data (J7 x0)] [] = some (.tup [.p (.s o.1), .p (.i .i64 o.2)], []) := by
 rw [Jkh (Jkk p)]
 exact JtC [] h
end
end Go.Am
end
section
namespace Go.Am
set_option maxRecDepth 8000
set_option maxHeartbeats 4000000
set_option linter.unusedSimpArgs false
set_option linter.unusedVariables false
noncomputable section
variable (p : PS)
def J5D  (r : T_api_Image × Int) : Option Res := some (.tup [.data (J7 r.1), .p (.i .i64 r.2)], [])
def JhS (x0 : List UInt8) (x49 : Int) (l0 : List T_api_Copy) (b1_0 b1_1 : Int) (b3_0 b3_1 : Int) (w0 w2 : Bool) (o : (Int × Int × (List T_api_Copy)) ⊕ (T_api_Image × Int)) : Option Res := match o with
 | .inl s => rk (J2 p) J1M 0 [.bl 0, .td 4 [0, 2, 3, 5, 7], .sq (.keep [0, 2, 5, 7] J1B)] (X (J2 p) (.lp 4 [0, 2, 5, 7, 49, 50] J0T) ⟨[(0, .p (.s x0)), (2, .ptr 1 0), (5, .p (.i .i64 s.1)), (7, .ptr 3 0), (49, .p (.i .i64 x49)), (50, .p (.i .i64 s.2.1))], [.arr w0 3 (List.map J5 l0), .box [.p (.i .i64 b1_0), .p (.i .i64 b1_1), .slr 0 0 (List.length l0)], .arr w2 3 (List.map J5 s.2.2), .box [.p (.i .i64 b3_0), .p (.i .i64 b3_1), .slr 2 0 (List.length s.2.2)]]⟩)
 | .inr o => J5D o
def J7q (x0 : List UInt8) (x5 : Int) (l0 : List T_api_Copy) (b1_0 b1_1 : Int) (l2 : List T_api_Copy) (b3_0 b3_1 : Int) : Option (T_api_Image × Int) :=
 if (decide (x5 < ((List.length x0 : Nat) : Int))) then
  some ((⟨0, 0, ([] : List T_api_Copy)⟩ : T_api_Image), 4)
 else
  Option.bind (J1b (⟨b3_0, b3_1, l2⟩ : T_api_Image)) fun r2 =>
  if r2 then
   some ((⟨b3_0, b3_1, l2⟩ : T_api_Image), 0)
  else
   some ((⟨0, 0, ([] : List T_api_Copy)⟩ : T_api_Image), 43)
theorem Jhm {x0 : List UInt8} {x5 : Int} {l0 : List T_api_Copy} {b1_0 b1_1 : Int} {l2 : List T_api_Copy} {b3_0 b3_1 : Int} {w0 w2 : Bool} {o : T_api_Image × Int} (h : J7q x0 x5 l0 b1_0 b1_1 l2 b3_0 b3_1 = some o) :
  rk (J2 p) J1M 0 [] (X (J2 p) J1B ⟨[(0, .p (.s x0)), (2, .ptr 1 0), (5, .p (.i .i64 x5)), (7, .ptr 3 0)], [.arr w0 3 (List.map J5 l0), .box [.p (.i .i64 b1_0), .p (.i .i64 b1_1), .slr 0 0 (List.length l0)], .arr w2 3 (List.map J5 l2), .box [.p (.i .i64 b3_0), .p (.i .i64 b3_1), .slr 2 0 (List.length l2)]]⟩) = J5D o := by
 unfold J7q at h
 rcases J8 h with ⟨h1, h⟩ | ⟨h1, h⟩
 ·obtain rfl := sj h
  try simp only [↓Da, Ua, J1B, Jm, Jq, J2N, *, ↓reduceIte, reduceEqDiff, reduceAdd, reduceLT, reduceMul]
  rfl
 ·obtain ⟨r2, h3, h⟩ := bi h
  have f4 := Jex p h3
  try simp only [Nf, Jm, Jq] at f4
  try simp only [↓Da, Ua, J1B, Jm, Jq, *, ↓reduceIte, reduceEqDiff, reduceAdd, reduceLT, reduceMul]
  rcases J8 h with ⟨h5, h⟩ | ⟨h5, h⟩
  ·obtain rfl := sj h
   try simp only [↓Da, Ua, J1B, Jm, Jq, J2N, *, ↓reduceIte, reduceEqDiff, reduceAdd, reduceLT, reduceMul]
   rfl
  ·obtain rfl := sj h
   try simp only [↓Da, Ua, J1B, Jm, Jq, J2N, *, ↓reduceIte, reduceEqDiff, reduceAdd, reduceLT, reduceMul]
   rfl
def J25 (x0 : List UInt8) (x49 : Int) (l0 : List T_api_Copy) (b1_0 b1_1 : Int) (b3_0 b3_1 : Int) (x5 x50 : Int) (l2 : List T_api_Copy) : Option (((Int × Int × (List T_api_Copy)) ⊕ (T_api_Image × Int))) :=
 if (decide (x50 < x49)) then
  Option.bind (J2u x0 x5) fun r2 =>
  if ((r2.2.2 : Int) != 0) then
   some (.inr ((⟨0, 0, ([] : List T_api_Copy)⟩ : T_api_Image), r2.2.2))
  else
   if ((((List.length r2.1 : Nat) : Int) : Int) != 258) then
    some (.inr ((⟨0, 0, ([] : List T_api_Copy)⟩ : T_api_Image), 4))
   else
    Option.bind (J3v r2.1) fun r7 =>
    Option.bind (JaB 32 l2 ([r7] : List T_api_Copy)) fun m11 =>
    some (.inl (r2.2.1, (IntKind.wrap .i64 (x50 + 1)), m11))
 else
  Option.map (fun o => .inr o) (J7q x0 x5 l0 b1_0 b1_1 l2 b3_0 b3_1)
theorem Jc9 {x0 : List UInt8} {x49 : Int} {l0 : List T_api_Copy} {b1_0 b1_1 : Int} {b3_0 b3_1 : Int} {x5 x50 : Int} {l2 : List T_api_Copy} {w0 w2 : Bool} {o : ((Int × Int × (List T_api_Copy)) ⊕ (T_api_Image × Int))} (h : J25 x0 x49 l0 b1_0 b1_1 b3_0 b3_1 x5 x50 l2 = some o) :
  rk (J2 p) J1M 0 [.lo 4 [0, 2, 5, 7, 49, 50] J0T, .bl 0, .td 4 [0, 2, 3, 5, 7], .sq (.keep [0, 2, 5, 7] J1B)] (X (J2 p) J0T ⟨[(0, .p (.s x0)), (2, .ptr 1 0), (5, .p (.i .i64 x5)), (7, .ptr 3 0), (49, .p (.i .i64 x49)), (50, .p (.i .i64 x50))], [.arr w0 3 (List.map J5 l0), .box [.p (.i .i64 b1_0), .p (.i .i64 b1_1), .slr 0 0 (List.length l0)], .arr w2 3 (List.map J5 l2), .box [.p (.i .i64 b3_0), .p (.i .i64 b3_1), .slr 2 0 (List.length l2)]]⟩) = (JhS p x0 x49 l0 b1_0 b1_1 b3_0 b3_1 w0 w2) o := by
 unfold J25 at h
 rcases J8 h with ⟨h1, h⟩ | ⟨h1, h⟩
 ·obtain ⟨r2, h3, h⟩ := bi h
  have f4 := JcM p h3
  try simp only [Nf, Jm, Jq] at f4
  try simp only [↓Da, Ua, Ra, J0T, Jm, Jq, *, ↓reduceIte, reduceEqDiff, reduceAdd, reduceLT, reduceMul, Nat.reduceBEq]
  rcases J8 h with ⟨h5, h⟩ | ⟨h5, h⟩
  ·obtain rfl := sj h
   try simp only [↓Da, Ua, Ra, J0T, Jm, Jq, J2N, *, ↓reduceIte, reduceEqDiff, reduceAdd, reduceLT, reduceMul, Nat.reduceBEq]
   rfl
  ·try simp only [↓Da, Ua, Ra, J0T, Jm, Jq, *, ↓reduceIte, reduceEqDiff, reduceAdd, reduceLT, reduceMul, Nat.reduceBEq]
   rcases J8 h with ⟨h6, h⟩ | ⟨h6, h⟩
   ·obtain rfl := sj h
    try simp only [↓Da, Ua, Ra, J0T, Jm, Jq, J2N, *, ↓reduceIte, reduceEqDiff, reduceAdd, reduceLT, reduceMul, Nat.reduceBEq]
    rfl
   ·obtain ⟨r7, h8, h⟩ := bi h
    have f9 := Ji2 p h8
    try simp only [Nf, Jm, Jq] at f9
    have f10 : ∀ ws k new s, Jc ((Jl (AF (J2 p)) J3t ([.p (.s r2.1)], ws) k new).reads s) = [] := J0q rfl
    try simp only [Nf, Jm, Jq] at f10
    obtain ⟨m11, h12, h⟩ := bi h
    have f13 : ∀ s : St, s.sto[2]? = some (.arr w2 3 (List.map J5 l2)) → (JS 3 (.p (.sl 3 (List.map J5 ([r7] : List T_api_Copy))))).run s = some (List.map J5 ([r7] : List T_api_Copy)) → (J4s 3 32 (.slr 2 0 (List.length l2)) (.p (.sl 3 (List.map J5 ([r7] : List T_api_Copy))))).run s = some ⟨.slr 2 0 (List.length m11), [(2, .arr w2 3 (List.map J5 m11))]⟩ := by
     intro s e1 e2; have e3 := JdE h12 e1 e2; try simp only [List.length_cons, List.length_nil, Nat.zero_add] at e3
     exact e3
    try simp only [Nf, Jm, Jq] at f13
    obtain rfl := sj h
    try simp only [↓Da, Ua, Ra, J0T, Jm, Jq, *, ↓reduceIte, reduceEqDiff, reduceAdd, reduceLT, reduceMul, Nat.reduceBEq]
    rfl
 ·obtain ⟨o', h', rfl⟩ := mi h
  try simp only [↓Da, Ua, Ra, J0T, Jm, Jq, *, ↓reduceIte, reduceEqDiff, reduceAdd, reduceLT, reduceMul, Nat.reduceBEq]
  have e0 := Jhm p (w0 := w0) (w2 := w2) h'
  exact e0
def Jc2 (x0 : List UInt8) (x49 : Int) (l0 : List T_api_Copy) (b1_0 b1_1 : Int) (b3_0 b3_1 : Int) (s : Int × Int × (List T_api_Copy)) : Option (T_api_Image × Int) :=
 Jv (fun s => J25 x0 x49 l0 b1_0 b1_1 b3_0 b3_1 s.1 s.2.1 s.2.2) s
theorem JfJ {x0 : List UInt8} {x49 : Int} {l0 : List T_api_Copy} {b1_0 b1_1 : Int} {b3_0 b3_1 : Int} {w0 w2 : Bool} {s : Int × Int × (List T_api_Copy)} {o : T_api_Image × Int} (h : Jc2 x0 x49 l0 b1_0 b1_1 b3_0 b3_1 s = some o) :
  rk (J2 p) J1M 0 [.bl 0, .td 4 [0, 2, 3, 5, 7], .sq (.keep [0, 2, 5, 7] J1B)] (X (J2 p) (.lp 4 [0, 2, 5, 7, 49, 50] J0T) ⟨[(0, .p (.s x0)), (2, .ptr 1 0), (5, .p (.i .i64 s.1)), (7, .ptr 3 0), (49, .p (.i .i64 x49)), (50, .p (.i .i64 s.2.1))], [.arr w0 3 (List.map J5 l0), .box [.p (.i .i64 b1_0), .p (.i .i64 b1_1), .slr 0 0 (List.length l0)], .arr w2 3 (List.map J5 s.2.2), .box [.p (.i .i64 b3_0), .p (.i .i64 b3_1), .slr 2 0 (List.length s.2.2)]]⟩) = J5D o := by
 have h0 : Jv (fun s => J25 x0 x49 l0 b1_0 b1_1 b3_0 b3_1 s.1 s.2.1 s.2.2) s = some o := h
 exact J0p (P := fun (s : Int × Int × (List T_api_Copy)) (o : T_api_Image × Int) => rk (J2 p) J1M 0 [.bl 0, .td 4 [0, 2, 3, 5, 7], .sq (.keep [0, 2, 5, 7] J1B)] (X (J2 p) (.lp 4 [0, 2, 5, 7, 49, 50] J0T) ⟨[(0, .p (.s x0)), (2, .ptr 1 0), (5, .p (.i .i64 s.1)), (7, .ptr 3 0), (49, .p (.i .i64 x49)), (50, .p (.i .i64 s.2.1))], [.arr w0 3 (List.map J5 l0), .box [.p (.i .i64 b1_0), .p (.i .i64 b1_1), .slr 0 0 (List.length l0)], .arr w2 3 (List.map J5 s.2.2), .box [.p (.i .i64 b3_0), .p (.i .i64 b3_1), .slr 2 0 (List.length s.2.2)]]⟩) = J5D o) (fun s r hs => by rw [J0n]; exact Jc9 p hs) (fun s s1 r hs ih => by rw [J0n]; exact (Jc9 p hs).trans ih) h0
def J3F (x0 : List UInt8) : Option (T_api_Image × Int) :=
 Option.bind (J2u x0 0) fun r1 =>
 if ((r1.2.2 : Int) != 0) then
  some ((⟨0, 0, ([] : List T_api_Copy)⟩ : T_api_Image), r1.2.2)
 else
  if ((((List.length r1.1 : Nat) : Int) : Int) != 12) then
   some ((⟨0, 0, ([] : List T_api_Copy)⟩ : T_api_Image), 4)
  else
   Option.bind (J2r r1.1 ([80, 77, 73, 77])) fun r6 =>
   if r6 then
    Option.bind (JM r1.1 4 4) fun r10 =>
    Option.bind (JM r1.1 8 2) fun r13 =>
    Option.bind (JM r1.1 10 2) fun r16 =>
    if (decide (r16.1 > 64)) then
     some ((⟨0, 0, ([] : List T_api_Copy)⟩ : T_api_Image), 4)
    else
     Jc2 x0 r16.1 ([] : List T_api_Copy) 0 0 r10.1 r13.1 (r1.2.1, 0, ([] : List T_api_Copy))
   else
    some ((⟨0, 0, ([] : List T_api_Copy)⟩ : T_api_Image), 4)
theorem JfT {x0 : List UInt8} {o : T_api_Image × Int} (h : J3F x0 = some o) :
  rk (J2 p) J1M 0 [] (X (J2 p) J13 ⟨[(0, .p (.s x0))], []⟩) = J5D o := by
 unfold J3F at h
 obtain ⟨r1, h2, h⟩ := bi h
 have f3 := JcM p h2
 try simp only [Nf, Jm, Jq] at f3
 try simp only [↓Da, Ua, J13, Jm, Jq, *, ↓reduceIte, reduceEqDiff, reduceAdd, reduceLT, reduceMul]
 rcases J8 h with ⟨h4, h⟩ | ⟨h4, h⟩
 ·obtain rfl := sj h
  try simp only [↓Da, Ua, J13, Jm, Jq, J2N, *, ↓reduceIte, reduceEqDiff, reduceAdd, reduceLT, reduceMul]
  rfl
 ·try simp only [↓Da, Ua, J13, Jm, Jq, *, ↓reduceIte, reduceEqDiff, reduceAdd, reduceLT, reduceMul]
  rcases J8 h with ⟨h5, h⟩ | ⟨h5, h⟩
  ·obtain rfl := sj h
   try simp only [↓Da, Ua, J13, Jm, Jq, J2N, *, ↓reduceIte, reduceEqDiff, reduceAdd, reduceLT, reduceMul]
   rfl
  ·obtain ⟨r6, h7, h⟩ := bi h
   have f8 := Jf4 p h7
   try simp only [Nf, Jm, Jq] at f8
   try simp only [↓Da, Ua, J13, Jm, Jq, *, ↓reduceIte, reduceEqDiff, reduceAdd, reduceLT, reduceMul]
   rcases J8 h with ⟨h9, h⟩ | ⟨h9, h⟩
   ·obtain ⟨r10, h11, h⟩ := bi h
    have f12 := J6T p h11
    try simp only [Nf, Jm, Jq] at f12
    obtain ⟨r13, h14, h⟩ := bi h
    have f15 := J6T p h14
    try simp only [Nf, Jm, Jq] at f15
    obtain ⟨r16, h17, h⟩ := bi h
    have f18 := J6T p h17
    try simp only [Nf, Jm, Jq] at f18
    try simp only [↓Da, Ua, J13, Jm, Jq, *, ↓reduceIte, reduceEqDiff, reduceAdd, reduceLT, reduceMul]
    rcases J8 h with ⟨h19, h⟩ | ⟨h19, h⟩
    ·obtain rfl := sj h
     try simp only [↓Da, Ua, J13, Jm, Jq, J2N, *, ↓reduceIte, reduceEqDiff, reduceAdd, reduceLT, reduceMul]
     rfl
    ·try simp only [↓Da, Ua, J13, Jm, Jq, *, ↓reduceIte, reduceEqDiff, reduceAdd, reduceLT, reduceMul]
     have e0 := JfJ p (w0 := true) (w2 := true) h
     exact e0
   ·obtain rfl := sj h
    try simp only [↓Da, Ua, J13, Jm, Jq, J2N, *, ↓reduceIte, reduceEqDiff, reduceAdd, reduceLT, reduceMul]
    rfl
theorem JjD {x0 : List UInt8} {o : T_api_Image × Int} (h : J3F x0 = some o) : AF (J2 p) J3G [.p (.s x0)] [] = J5D o :=
 (J0c (J2 p) (Jkj p) rfl).trans (JfT p h)
theorem JdB {x0 : List UInt8} {o : T_api_Image × Int} (h : J3F x0 = some o) : ∀ ws new st, (Jl (AF (J2 p)) J3G ([.p (.s x0)], ws) 0 new).run st = some ⟨.tup [.data (J7 o.1), .p (.i .i64 o.2)], ws⟩ := Ju rfl (JjD p h) rfl
def J9l (x1 : Int) (x2 : List UInt8) (x10 b0_0 b0_1 : Int) (b1 : T_api_Image) (b2 : T_api_Page) (l3 : List T_api_Copy) : Option (T_api_Image × Int) :=
 Option.bind (idx l3 x10) fun y1 =>
 Option.bind (some (List.set l3 (Int.toNat x10) (⟨x1, b2.LSN, x2⟩ : T_api_Copy))) fun m5 =>
 some ((⟨b0_0, b0_1, m5⟩ : T_api_Image), 0)
def J3f (x0 : T_api_Image) (x1 : Int) (x2 : List UInt8) : Option (T_api_Image × Int) :=
 Option.bind (J1b x0) fun r1 =>
 if r1 then
  if (decide (x1 < 0)) then
   some ((⟨0, 0, ([] : List T_api_Copy)⟩ : T_api_Image), 1)
  else
   if (decide (x1 ≥ x0.Pages)) then
    some ((⟨0, 0, ([] : List T_api_Copy)⟩ : T_api_Image), 1)
   else
    Option.bind (J0s x2 x1) fun r7 =>
    if ((r7.2 : Int) != 0) then
     some ((⟨0, 0, ([] : List T_api_Copy)⟩ : T_api_Image), r7.2)
    else
     Option.bind (Jbm x0 x1) fun r11 =>
     Option.bind (J3x x0.Copies) fun r14 =>
     if r11.2 then
      J9l x1 x2 r11.1 x0.ID x0.Pages (⟨0, 0, ([] : List T_api_Copy)⟩ : T_api_Image) r7.1 r14
     else
      Option.bind (J3d r14 r11.1 ([(⟨0, 0, ([] : List UInt8)⟩ : T_api_Copy)] : List T_api_Copy)) fun r18 =>
      J9l x1 x2 r11.1 x0.ID x0.Pages (⟨0, 0, ([] : List T_api_Copy)⟩ : T_api_Image) r7.1 r18
 else
  some ((⟨0, 0, ([] : List T_api_Copy)⟩ : T_api_Image), 43)
def J6v  (r : Bool) : Option Res := some (.p (.b r), [])
def Jjm (b0 : T_api_Image) (o : (Int) ⊕ (Bool)) : Option Res := match o with
 | .inl s => rk (J2 p) J29 0 [.bl 0, .td 1 [2], .sq (.keep [] J42)] (X (J2 p) (.lp 1 [1, 3] JF) ⟨[(1, .ptr 0 0), (3, .p (.i .i64 s))], [.box (List.map AV.p (J7 b0))]⟩)
 | .inr o => J6v o
def Jae  : Option (Bool) :=
 some true
theorem Jim {B0 : List PV} {o : Bool} (h : Jae = some o) :
  rk (J2 p) J29 0 [] (X (J2 p) J42 ⟨[], [.box (List.map AV.p B0)]⟩) = J6v o := by
 unfold Jae at h
 obtain rfl := sj h
 try simp only [↓Da, Ua, J42, J1I, ↓reduceIte, reduceEqDiff, reduceAdd, reduceLT, reduceMul]
 rfl
def J35 (b0 : T_api_Image) (x3 : Int) : Option (((Int) ⊕ (Bool))) :=
 if (decide (x3 < ((List.length b0.Copies : Nat) : Int))) then
  Option.bind (idx b0.Copies x3) fun y2 =>
  if (decide (y2.Page < 0)) then
   some (.inr false)
  else
   if (decide (y2.Page ≥ b0.Pages)) then
    some (.inr false)
   else
    if (decide (x3 > 0)) then
     Option.bind (idx b0.Copies (IntKind.wrap .i64 (x3 - 1))) fun y8 =>
     if (decide (y8.Page ≥ y2.Page)) then
      some (.inr false)
     else
      Option.bind (J1c y2.Data y2.Page) fun r12 =>
      if ((r12.2 : Int) != 0) then
       some (.inr false)
      else
       if ((r12.1.LSN : Int) != y2.LSN) then
        some (.inr false)
       else
        some (.inl (IntKind.wrap .i64 (x3 + 1)))
    else
     Option.bind (J1c y2.Data y2.Page) fun r17 =>
     if ((r17.2 : Int) != 0) then
      some (.inr false)
     else
      if ((r17.1.LSN : Int) != y2.LSN) then
       some (.inr false)
      else
       some (.inl (IntKind.wrap .i64 (x3 + 1)))
 else
  Option.map (fun o => .inr o) (Jae)
theorem JcE {b0 : T_api_Image} {x3 : Int} {o : ((Int) ⊕ (Bool))} (h : J35 b0 x3 = some o) :
  rk (J2 p) J29 0 [.lo 1 [1, 3] JF, .bl 0, .td 1 [2], .sq (.keep [] J42)] (X (J2 p) JF ⟨[(1, .ptr 0 0), (3, .p (.i .i64 x3))], [.box (List.map AV.p (J7 b0))]⟩) = (Jjm p b0) o := by
 unfold J35 at h
 rcases J8 h with ⟨h1, h⟩ | ⟨h1, h⟩
 ·obtain ⟨y2, h3, h⟩ := bi h
  have f4 := J6M (r := J5) h3
  try simp only [Nf] at f4
  try simp only [↓Da, Ua, JF, Jd, J4, J1, J6, Je, *, ↓reduceIte, reduceEqDiff, reduceAdd, reduceLT, reduceMul]
  rcases J8 h with ⟨h5, h⟩ | ⟨h5, h⟩
  ·obtain rfl := sj h
   try simp only [↓Da, Ua, JF, Jd, J4, J1, J6, Je, J1I, *, ↓reduceIte, reduceEqDiff, reduceAdd, reduceLT, reduceMul]
   rfl
  ·try simp only [↓Da, Ua, JF, Jd, J4, J1, J6, Je, *, ↓reduceIte, reduceEqDiff, reduceAdd, reduceLT, reduceMul]
   rcases J8 h with ⟨h6, h⟩ | ⟨h6, h⟩
   ·obtain rfl := sj h
    try simp only [↓Da, Ua, JF, Jd, J4, J1, J6, Je, J1I, *, ↓reduceIte, reduceEqDiff, reduceAdd, reduceLT, reduceMul]
    rfl
   ·try simp only [↓Da, Ua, JF, Jd, J4, J1, J6, Je, *, ↓reduceIte, reduceEqDiff, reduceAdd, reduceLT, reduceMul]
    rcases J8 h with ⟨h7, h⟩ | ⟨h7, h⟩
    ·obtain ⟨y8, h9, h⟩ := bi h
     have f10 := J6M (r := J5) h9
     try simp only [Nf] at f10
     try simp only [↓Da, Ua, JF, Jd, J4, J1, J6, Je, *, ↓reduceIte, reduceEqDiff, reduceAdd, reduceLT, reduceMul]
     rcases J8 h with ⟨h11, h⟩ | ⟨h11, h⟩
     ·obtain rfl := sj h
      try simp only [↓Da, Ua, JF, Jd, J4, J1, J6, Je, J1I, *, ↓reduceIte, reduceEqDiff, reduceAdd, reduceLT, reduceMul]
      rfl
     ·obtain ⟨r12, h13, h⟩ := bi h
      have f14 := J9q p h13
      try simp only [Nf] at f14
      try simp only [↓Da, Ua, JF, Jd, J4, J1, J6, Je, *, ↓reduceIte, reduceEqDiff, reduceAdd, reduceLT, reduceMul]
      rcases J8 h with ⟨h15, h⟩ | ⟨h15, h⟩
      ·obtain rfl := sj h
       try simp only [↓Da, Ua, JF, Jd, J4, J1, J6, Je, J1I, *, ↓reduceIte, reduceEqDiff, reduceAdd, reduceLT, reduceMul]
       rfl
      ·try simp only [↓Da, Ua, JF, Jd, J4, J1, J6, Je, *, ↓reduceIte, reduceEqDiff, reduceAdd, reduceLT, reduceMul]
       rcases J8 h with ⟨h16, h⟩ | ⟨h16, h⟩
       ·obtain rfl := sj h
        try simp only [↓Da, Ua, JF, Jd, J4, J1, J6, Je, J1I, *, ↓reduceIte, reduceEqDiff, reduceAdd, reduceLT, reduceMul]
        rfl
       ·obtain rfl := sj h
        try simp only [↓Da, Ua, JF, Jd, J4, J1, J6, Je, *, ↓reduceIte, reduceEqDiff, reduceAdd, reduceLT, reduceMul]
        rfl
    ·obtain ⟨r17, h18, h⟩ := bi h
     have f19 := J9q p h18
     try simp only [Nf] at f19
     try simp only [↓Da, Ua, JF, Jd, J4, J1, J6, Je, *, ↓reduceIte, reduceEqDiff, reduceAdd, reduceLT, reduceMul]
     rcases J8 h with ⟨h20, h⟩ | ⟨h20, h⟩
     ·obtain rfl := sj h
      try simp only [↓Da, Ua, JF, Jd, J4, J1, J6, Je, J1I, *, ↓reduceIte, reduceEqDiff, reduceAdd, reduceLT, reduceMul]
      rfl
     ·try simp only [↓Da, Ua, JF, Jd, J4, J1, J6, Je, *, ↓reduceIte, reduceEqDiff, reduceAdd, reduceLT, reduceMul]
      rcases J8 h with ⟨h21, h⟩ | ⟨h21, h⟩
      ·obtain rfl := sj h
       try simp only [↓Da, Ua, JF, Jd, J4, J1, J6, Je, J1I, *, ↓reduceIte, reduceEqDiff, reduceAdd, reduceLT, reduceMul]
       rfl
      ·obtain rfl := sj h
       try simp only [↓Da, Ua, JF, Jd, J4, J1, J6, Je, *, ↓reduceIte, reduceEqDiff, reduceAdd, reduceLT, reduceMul]
       rfl
 ·obtain ⟨o', h', rfl⟩ := mi h
  try simp only [↓Da, Ua, JF, Jd, J4, J1, J6, Je, *, ↓reduceIte, reduceEqDiff, reduceAdd, reduceLT, reduceMul]
  have e0 := Jim p (B0 := (J7 b0)) h'
  exact e0
def J8e (b0 : T_api_Image) (s : Int) : Option (Bool) :=
 Jv (fun s => J35 b0 s) s
theorem Jgx {b0 : T_api_Image} {s : Int} {o : Bool} (h : J8e b0 s = some o) :
  rk (J2 p) J29 0 [.bl 0, .td 1 [2], .sq (.keep [] J42)] (X (J2 p) (.lp 1 [1, 3] JF) ⟨[(1, .ptr 0 0), (3, .p (.i .i64 s))], [.box (List.map AV.p (J7 b0))]⟩) = J6v o := by
 have h0 : Jv (fun s => J35 b0 s) s = some o := h
 exact J0p (P := fun (s : Int) (o : Bool) => rk (J2 p) J29 0 [.bl 0, .td 1 [2], .sq (.keep [] J42)] (X (J2 p) (.lp 1 [1, 3] JF) ⟨[(1, .ptr 0 0), (3, .p (.i .i64 s))], [.box (List.map AV.p (J7 b0))]⟩) = J6v o) (fun s r hs => by rw [J0n]; exact JcE p hs) (fun s s1 r hs ih => by rw [J0n]; exact (JcE p hs).trans ih) h0
def J4i (x0 : T_api_Image) : Option (Bool) :=
 if (decide (x0.ID < 1)) then
  some false
 else
  if (decide (x0.ID > 1073741824)) then
   some false
  else
   if (decide (x0.Pages < 1)) then
    some false
   else
    if (decide (x0.Pages > 64)) then
     some false
    else
     J8e x0 0
theorem Jgl {x0 : T_api_Image} {o : Bool} (h : J4i x0 = some o) :
  rk (J2 p) J29 0 [] (X (J2 p) J1J ⟨[(0, .data (J7 x0))], []⟩) = J6v o := by
 unfold J4i at h
 rcases J8 h with ⟨h1, h⟩ | ⟨h1, h⟩
 ·obtain rfl := sj h
  try simp only [↓Da, Ua, J1J, Jd, Je, J1I, *, ↓reduceIte, reduceEqDiff, reduceAdd, reduceLT, reduceMul]
  rfl
 ·try simp only [↓Da, Ua, J1J, Jd, Je, *, ↓reduceIte, reduceEqDiff, reduceAdd, reduceLT, reduceMul]
  rcases J8 h with ⟨h2, h⟩ | ⟨h2, h⟩
  ·obtain rfl := sj h
   try simp only [↓Da, Ua, J1J, Jd, Je, J1I, *, ↓reduceIte, reduceEqDiff, reduceAdd, reduceLT, reduceMul]
   rfl
  ·try simp only [↓Da, Ua, J1J, Jd, Je, *, ↓reduceIte, reduceEqDiff, reduceAdd, reduceLT, reduceMul]
   rcases J8 h with ⟨h3, h⟩ | ⟨h3, h⟩
   ·obtain rfl := sj h
    try simp only [↓Da, Ua, J1J, Jd, Je, J1I, *, ↓reduceIte, reduceEqDiff, reduceAdd, reduceLT, reduceMul]
    rfl
   ·try simp only [↓Da, Ua, J1J, Jd, Je, *, ↓reduceIte, reduceEqDiff, reduceAdd, reduceLT, reduceMul]
    rcases J8 h with ⟨h4, h⟩ | ⟨h4, h⟩
    ·obtain rfl := sj h
     try simp only [↓Da, Ua, J1J, Jd, Je, J1I, *, ↓reduceIte, reduceEqDiff, reduceAdd, reduceLT, reduceMul]
     rfl
    ·try simp only [↓Da, Ua, J1J, Jd, Je, *, ↓reduceIte, reduceEqDiff, reduceAdd, reduceLT, reduceMul]
     have e0 := Jgx p h
     exact e0
theorem JlP {x0 : T_api_Image} {o : Bool} (h : J4i x0 = some o) : AF (J2 p) J5g [.data (J7 x0)] [] = J6v o :=
 (J0c (J2 p) (JlJ p) rfl).trans (Jgl p h)
theorem JlX {x0 : T_api_Image} {o : Bool} (h : J4i x0 = some o) : ∀ ws new st, (Jl (AF (J2 p)) J5g ([.data (J7 x0)], ws) 0 new).run st = some ⟨.p (.b o), ws⟩ := Ju rfl (JlP p h) rfl
def J6O  (r : T_api_Image × Int) : Option Res := some (.tup [.data (J7 r.1), .p (.i .i64 r.2)], [])
def Jb5 (x1 : Int) (b0 : T_api_Image) (l1 : List T_api_Copy) (b2_0 b2_1 : Int) (b4 : T_api_Copy) (b7_0 b7_1 : Int) (B3 : List PV) (B6 : List (List PV)) (w1 w5 w6 : Bool) (o : (Bool × Int × (List T_api_Copy)) ⊕ (T_api_Image × Int)) : Option Res := match o with
 | .inl s => rk (J2 p) J1T 0 [.bl 0, .sq (.keep [6, 10, 11, 12] J2J)] (X (J2 p) (.lp 8 [1, 3, 6, 10, 11, 12, 13] J17) ⟨[(1, .p (.i .i64 x1)), (3, .ptr 0 0), (6, .ptr 2 0), (10, .ptr 4 0), (11, .ptr 7 0), (12, .p (.b s.1)), (13, .p (.i .i64 s.2.1))], [.box (List.map AV.p (J7 b0)), .arr w1 3 (List.map J5 l1), .box [.p (.i .i64 b2_0), .p (.i .i64 b2_1), .slr 1 0 (List.length l1)], .box (List.map AV.p B3), .box (List.map AV.p (J5 b4)), .arr w5 3 (List.map J5 s.2.2), .arr w6 3 B6, .box [.p (.i .i64 b7_0), .p (.i .i64 b7_1), .slr 5 0 (List.length s.2.2)]]⟩)
 | .inr o => J6O o
def J4l (x1 : Int) (x12 : Bool) (x13 : Int) (b0 : T_api_Image) (l1 : List T_api_Copy) (b2_0 b2_1 : Int) (b4 : T_api_Copy) (l5 : List T_api_Copy) (b7_0 b7_1 : Int) : Option (((Bool × Int × (List T_api_Copy)) ⊕ (T_api_Image × Int))) :=
 some (.inl (x12, (IntKind.wrap .i64 (x13 + 1)), l5))
theorem JeD {x1 : Int} {x12 : Bool} {x13 : Int} {b0 : T_api_Image} {l1 : List T_api_Copy} {b2_0 b2_1 : Int} {b4 : T_api_Copy} {l5 : List T_api_Copy} {b7_0 b7_1 : Int} {w1 : Bool} {B3 : List PV} {w5 : Bool} {B6 : List (List PV)} {w6 : Bool} {o : ((Bool × Int × (List T_api_Copy)) ⊕ (T_api_Image × Int))} (h : J4l x1 x12 x13 b0 l1 b2_0 b2_1 b4 l5 b7_0 b7_1 = some o) :
  rk (J2 p) J1T 0 [.lo 8 [1, 3, 6, 10, 11, 12, 13] J17, .bl 0, .sq (.keep [6, 10, 11, 12] J2J)] (X (J2 p) J9d ⟨[(1, .p (.i .i64 x1)), (3, .ptr 0 0), (6, .ptr 2 0), (10, .ptr 4 0), (11, .ptr 7 0), (12, .p (.b x12)), (13, .p (.i .i64 x13))], [.box (List.map AV.p (J7 b0)), .arr w1 3 (List.map J5 l1), .box [.p (.i .i64 b2_0), .p (.i .i64 b2_1), .slr 1 0 (List.length l1)], .box (List.map AV.p B3), .box (List.map AV.p (J5 b4)), .arr w5 3 (List.map J5 l5), .arr w6 3 B6, .box [.p (.i .i64 b7_0), .p (.i .i64 b7_1), .slr 5 0 (List.length l5)]]⟩) = (Jb5 p x1 b0 l1 b2_0 b2_1 b4 b7_0 b7_1 B3 B6 w1 w5 w6) o := by
 unfold J4l at h
 obtain rfl := sj h
 try simp only [↓Da, Ua, J9d, ↓reduceIte, reduceEqDiff, reduceAdd, reduceLT, reduceMul]
 rfl
def J4p (x1 : Int) (x12 : Bool) (x13 : Int) (b0 : T_api_Image) (l1 : List T_api_Copy) (b2_0 b2_1 : Int) (b4 : T_api_Copy) (l5 : List T_api_Copy) (b7_0 b7_1 : Int) : Option (((Bool × Int × (List T_api_Copy)) ⊕ (T_api_Image × Int))) :=
 Option.bind (idx b0.Copies x13) fun y1 =>
 if ((y1.Page : Int) != x1) then
  Option.bind (JaB 32 l5 ([y1] : List T_api_Copy)) fun m5 =>
  J4l x1 x12 x13 b0 l1 b2_0 b2_1 b4 m5 b7_0 b7_1
 else
  J4l x1 x12 x13 b0 l1 b2_0 b2_1 b4 l5 b7_0 b7_1
theorem Jbg {x1 : Int} {x12 : Bool} {x13 : Int} {b0 : T_api_Image} {l1 : List T_api_Copy} {b2_0 b2_1 : Int} {b4 : T_api_Copy} {l5 : List T_api_Copy} {b7_0 b7_1 : Int} {w1 : Bool} {B3 : List PV} {w5 : Bool} {B6 : List (List PV)} {w6 : Bool} {o : ((Bool × Int × (List T_api_Copy)) ⊕ (T_api_Image × Int))} (h : J4p x1 x12 x13 b0 l1 b2_0 b2_1 b4 l5 b7_0 b7_1 = some o) :
  rk (J2 p) J1T 0 [.bl 1, .sq (.keep [1, 3, 6, 10, 11, 12, 13] J9d), .lo 8 [1, 3, 6, 10, 11, 12, 13] J17, .bl 0, .sq (.keep [6, 10, 11, 12] J2J)] (X (J2 p) J7N ⟨[(1, .p (.i .i64 x1)), (3, .ptr 0 0), (6, .ptr 2 0), (10, .ptr 4 0), (11, .ptr 7 0), (12, .p (.b x12)), (13, .p (.i .i64 x13))], [.box (List.map AV.p (J7 b0)), .arr w1 3 (List.map J5 l1), .box [.p (.i .i64 b2_0), .p (.i .i64 b2_1), .slr 1 0 (List.length l1)], .box (List.map AV.p B3), .box (List.map AV.p (J5 b4)), .arr w5 3 (List.map J5 l5), .arr w6 3 B6, .box [.p (.i .i64 b7_0), .p (.i .i64 b7_1), .slr 5 0 (List.length l5)]]⟩) = (Jb5 p x1 b0 l1 b2_0 b2_1 b4 b7_0 b7_1 B3 B6 w1 w5 w6) o := by
 unfold J4p at h
 obtain ⟨y1, h2, h⟩ := bi h
 have f3 := J6M (r := J5) h2
 try simp only [Nf, Jm, Jq] at f3
 try simp only [↓Da, Ua, Ra, J7N, Jm, Jq, *, ↓reduceIte, reduceEqDiff, reduceAdd, reduceLT, reduceMul, Nat.reduceBEq]
 rcases J8 h with ⟨h4, h⟩ | ⟨h4, h⟩
 ·obtain ⟨m5, h6, h⟩ := bi h
  have f7 : ∀ s : St, s.sto[5]? = some (.arr w5 3 (List.map J5 l5)) → (JS 3 (.p (.sl 3 (List.map J5 ([y1] : List T_api_Copy))))).run s = some (List.map J5 ([y1] : List T_api_Copy)) → (J4s 3 32 (.slr 5 0 (List.length l5)) (.p (.sl 3 (List.map J5 ([y1] : List T_api_Copy))))).run s = some ⟨.slr 5 0 (List.length m5), [(5, .arr w5 3 (List.map J5 m5))]⟩ := by
   intro s e1 e2; have e3 := JdE h6 e1 e2; try simp only [List.length_cons, List.length_nil, Nat.zero_add] at e3
   exact e3
  try simp only [Nf, Jm, Jq] at f7
  try simp only [↓Da, Ua, Ra, J7N, Jm, Jq, *, ↓reduceIte, reduceEqDiff, reduceAdd, reduceLT, reduceMul, Nat.reduceBEq]
  have e0 := JeD p (w1 := w1) (B3 := B3) (w5 := w5) (w6 := w6) (B6 := B6) h
  exact e0
 ·try simp only [↓Da, Ua, Ra, J7N, Jm, Jq, *, ↓reduceIte, reduceEqDiff, reduceAdd, reduceLT, reduceMul, Nat.reduceBEq]
  have e0 := JeD p (w1 := w1) (B3 := B3) (w5 := w5) (w6 := w6) (B6 := B6) h
  exact e0
def J9n (l1 : List T_api_Copy) (b2_0 b2_1 : Int) (l5 : List T_api_Copy) (b7_0 b7_1 : Int) : Option (T_api_Image × Int) :=
 some ((⟨b7_0, b7_1, l5⟩ : T_api_Image), 0)
theorem JeE {l1 : List T_api_Copy} {b2_0 b2_1 : Int} {l5 : List T_api_Copy} {b7_0 b7_1 : Int} {B0 : List PV} {w1 : Bool} {B3 B4 : List PV} {w5 : Bool} {B6 : List (List PV)} {w6 : Bool} {o : T_api_Image × Int} (h : J9n l1 b2_0 b2_1 l5 b7_0 b7_1 = some o) :
  rk (J2 p) J1T 0 [] (X (J2 p) Jb3 ⟨[(6, .ptr 2 0), (11, .ptr 7 0)], [.box (List.map AV.p B0), .arr w1 3 (List.map J5 l1), .box [.p (.i .i64 b2_0), .p (.i .i64 b2_1), .slr 1 0 (List.length l1)], .box (List.map AV.p B3), .box (List.map AV.p B4), .arr w5 3 (List.map J5 l5), .arr w6 3 B6, .box [.p (.i .i64 b7_0), .p (.i .i64 b7_1), .slr 5 0 (List.length l5)]]⟩) = J6O o := by
 unfold J9n at h
 obtain rfl := sj h
 try simp only [↓Da, Ua, Jb3, Jm, Jq, J95, ↓reduceIte, reduceEqDiff, reduceAdd, reduceLT, reduceMul]
 rfl
def J9o (x12 : Bool) (l1 : List T_api_Copy) (b2_0 b2_1 : Int) (b4 : T_api_Copy) (l5 : List T_api_Copy) (b7_0 b7_1 : Int) : Option (T_api_Image × Int) :=
 if x12 then
  J9n l1 b2_0 b2_1 l5 b7_0 b7_1
 else
  Option.bind (JaB 32 l5 ([b4] : List T_api_Copy)) fun m2 =>
  J9n l1 b2_0 b2_1 m2 b7_0 b7_1
theorem JlF {x12 : Bool} {l1 : List T_api_Copy} {b2_0 b2_1 : Int} {b4 : T_api_Copy} {l5 : List T_api_Copy} {b7_0 b7_1 : Int} {B0 : List PV} {w1 : Bool} {B3 : List PV} {w5 : Bool} {B6 : List (List PV)} {w6 : Bool} {o : T_api_Image × Int} (h : J9o x12 l1 b2_0 b2_1 b4 l5 b7_0 b7_1 = some o) :
  rk (J2 p) J1T 0 [] (X (J2 p) J2J ⟨[(6, .ptr 2 0), (10, .ptr 4 0), (11, .ptr 7 0), (12, .p (.b x12))], [.box (List.map AV.p B0), .arr w1 3 (List.map J5 l1), .box [.p (.i .i64 b2_0), .p (.i .i64 b2_1), .slr 1 0 (List.length l1)], .box (List.map AV.p B3), .box (List.map AV.p (J5 b4)), .arr w5 3 (List.map J5 l5), .arr w6 3 B6, .box [.p (.i .i64 b7_0), .p (.i .i64 b7_1), .slr 5 0 (List.length l5)]]⟩) = J6O o := by
 unfold J9o at h
 rcases J8 h with ⟨h1, h⟩ | ⟨h1, h⟩
 ·try simp only [↓Da, Ua, J2J, Jm, Jq, *, ↓reduceIte, reduceEqDiff, reduceAdd, reduceLT, reduceMul]
  have e0 := JeE p (B0 := B0) (w1 := w1) (B3 := B3) (B4 := (J5 b4)) (w5 := w5) (w6 := w6) (B6 := B6) h
  exact e0
 ·obtain ⟨m2, h3, h⟩ := bi h
  have f4 : ∀ s : St, s.sto[5]? = some (.arr w5 3 (List.map J5 l5)) → (JS 3 (.p (.sl 3 (List.map J5 ([b4] : List T_api_Copy))))).run s = some (List.map J5 ([b4] : List T_api_Copy)) → (J4s 3 32 (.slr 5 0 (List.length l5)) (.p (.sl 3 (List.map J5 ([b4] : List T_api_Copy))))).run s = some ⟨.slr 5 0 (List.length m2), [(5, .arr w5 3 (List.map J5 m2))]⟩ := by
   intro s e1 e2; have e3 := JdE h3 e1 e2; try simp only [List.length_cons, List.length_nil, Nat.zero_add] at e3
   exact e3
  try simp only [Nf, Jm, Jq] at f4
  try simp only [↓Da, Ua, J2J, Jm, Jq, *, ↓reduceIte, reduceEqDiff, reduceAdd, reduceLT, reduceMul]
  have e0 := JeE p (B0 := B0) (w1 := w1) (B3 := B3) (B4 := (J5 b4)) (w5 := w5) (w6 := w6) (B6 := B6) h
  exact e0
def J7O (x1 : Int) (b0 : T_api_Image) (l1 : List T_api_Copy) (b2_0 b2_1 : Int) (b4 : T_api_Copy) (b7_0 b7_1 : Int) (x12 : Bool) (x13 : Int) (l5 : List T_api_Copy) : Option (((Bool × Int × (List T_api_Copy)) ⊕ (T_api_Image × Int))) :=
 if (decide (x13 < ((List.length b0.Copies : Nat) : Int))) then
  if x12 then
   J4p x1 true x13 b0 l1 b2_0 b2_1 b4 l5 b7_0 b7_1
  else
   Option.bind (idx b0.Copies x13) fun y3 =>
   if (decide (y3.Page ≥ x1)) then
    Option.bind (JaB 32 l5 ([b4] : List T_api_Copy)) fun m7 =>
    J4p x1 true x13 b0 l1 b2_0 b2_1 b4 m7 b7_0 b7_1
   else
    J4p x1 false x13 b0 l1 b2_0 b2_1 b4 l5 b7_0 b7_1
 else
  Option.map (fun o => .inr o) (J9o x12 l1 b2_0 b2_1 b4 l5 b7_0 b7_1)
theorem Jev {x1 : Int} {b0 : T_api_Image} {l1 : List T_api_Copy} {b2_0 b2_1 : Int} {b4 : T_api_Copy} {b7_0 b7_1 : Int} {x12 : Bool} {x13 : Int} {l5 : List T_api_Copy} {w1 : Bool} {B3 : List PV} {w5 : Bool} {B6 : List (List PV)} {w6 : Bool} {o : ((Bool × Int × (List T_api_Copy)) ⊕ (T_api_Image × Int))} (h : J7O x1 b0 l1 b2_0 b2_1 b4 b7_0 b7_1 x12 x13 l5 = some o) :
  rk (J2 p) J1T 0 [.lo 8 [1, 3, 6, 10, 11, 12, 13] J17, .bl 0, .sq (.keep [6, 10, 11, 12] J2J)] (X (J2 p) J17 ⟨[(1, .p (.i .i64 x1)), (3, .ptr 0 0), (6, .ptr 2 0), (10, .ptr 4 0), (11, .ptr 7 0), (12, .p (.b x12)), (13, .p (.i .i64 x13))], [.box (List.map AV.p (J7 b0)), .arr w1 3 (List.map J5 l1), .box [.p (.i .i64 b2_0), .p (.i .i64 b2_1), .slr 1 0 (List.length l1)], .box (List.map AV.p B3), .box (List.map AV.p (J5 b4)), .arr w5 3 (List.map J5 l5), .arr w6 3 B6, .box [.p (.i .i64 b7_0), .p (.i .i64 b7_1), .slr 5 0 (List.length l5)]]⟩) = (Jb5 p x1 b0 l1 b2_0 b2_1 b4 b7_0 b7_1 B3 B6 w1 w5 w6) o := by
 unfold J7O at h
 rcases J8 h with ⟨h1, h⟩ | ⟨h1, h⟩
 ·try simp only [↓Da, Ua, J17, Jm, Jq, *, ↓reduceIte, reduceEqDiff, reduceAdd, reduceLT, reduceMul]
  rcases J8 h with ⟨h2, h⟩ | ⟨h2, h⟩
  ·try simp only [↓Da, Ua, J17, Jm, Jq, *, ↓reduceIte, reduceEqDiff, reduceAdd, reduceLT, reduceMul]
   have e0 := Jbg p (w1 := w1) (B3 := B3) (w5 := w5) (w6 := w6) (B6 := B6) h
   exact e0
  ·obtain ⟨y3, h4, h⟩ := bi h
   have f5 := J6M (r := J5) h4
   try simp only [Nf, Jm, Jq] at f5
   try simp only [↓Da, Ua, J17, Jm, Jq, *, ↓reduceIte, reduceEqDiff, reduceAdd, reduceLT, reduceMul]
   rcases J8 h with ⟨h6, h⟩ | ⟨h6, h⟩
   ·obtain ⟨m7, h8, h⟩ := bi h
    have f9 : ∀ s : St, s.sto[5]? = some (.arr w5 3 (List.map J5 l5)) → (JS 3 (.p (.sl 3 (List.map J5 ([b4] : List T_api_Copy))))).run s = some (List.map J5 ([b4] : List T_api_Copy)) → (J4s 3 32 (.slr 5 0 (List.length l5)) (.p (.sl 3 (List.map J5 ([b4] : List T_api_Copy))))).run s = some ⟨.slr 5 0 (List.length m7), [(5, .arr w5 3 (List.map J5 m7))]⟩ := by
     intro s e1 e2; have e3 := JdE h8 e1 e2; try simp only [List.length_cons, List.length_nil, Nat.zero_add] at e3
     exact e3
    try simp only [Nf, Jm, Jq] at f9
    try simp only [↓Da, Ua, J17, Jm, Jq, *, ↓reduceIte, reduceEqDiff, reduceAdd, reduceLT, reduceMul]
    have e0 := Jbg p (w1 := w1) (B3 := B3) (w5 := w5) (w6 := w6) (B6 := B6) h
    exact e0
   ·try simp only [↓Da, Ua, J17, Jm, Jq, *, ↓reduceIte, reduceEqDiff, reduceAdd, reduceLT, reduceMul]
    have e0 := Jbg p (w1 := w1) (B3 := B3) (w5 := w5) (w6 := w6) (B6 := B6) h
    exact e0
 ·obtain ⟨o', h', rfl⟩ := mi h
  try simp only [↓Da, Ua, J17, Jm, Jq, *, ↓reduceIte, reduceEqDiff, reduceAdd, reduceLT, reduceMul]
  have e0 := JlF p (B0 := (J7 b0)) (w1 := w1) (B3 := B3) (w5 := w5) (w6 := w6) (B6 := B6) h'
  exact e0
def J9f (x1 : Int) (b0 : T_api_Image) (l1 : List T_api_Copy) (b2_0 b2_1 : Int) (b4 : T_api_Copy) (b7_0 b7_1 : Int) (s : Bool × Int × (List T_api_Copy)) : Option (T_api_Image × Int) :=
 Jv (fun s => J7O x1 b0 l1 b2_0 b2_1 b4 b7_0 b7_1 s.1 s.2.1 s.2.2) s
theorem Jji {x1 : Int} {b0 : T_api_Image} {l1 : List T_api_Copy} {b2_0 b2_1 : Int} {b4 : T_api_Copy} {b7_0 b7_1 : Int} {w1 : Bool} {B3 : List PV} {w5 : Bool} {B6 : List (List PV)} {w6 : Bool} {s : Bool × Int × (List T_api_Copy)} {o : T_api_Image × Int} (h : J9f x1 b0 l1 b2_0 b2_1 b4 b7_0 b7_1 s = some o) :
  rk (J2 p) J1T 0 [.bl 0, .sq (.keep [6, 10, 11, 12] J2J)] (X (J2 p) (.lp 8 [1, 3, 6, 10, 11, 12, 13] J17) ⟨[(1, .p (.i .i64 x1)), (3, .ptr 0 0), (6, .ptr 2 0), (10, .ptr 4 0), (11, .ptr 7 0), (12, .p (.b s.1)), (13, .p (.i .i64 s.2.1))], [.box (List.map AV.p (J7 b0)), .arr w1 3 (List.map J5 l1), .box [.p (.i .i64 b2_0), .p (.i .i64 b2_1), .slr 1 0 (List.length l1)], .box (List.map AV.p B3), .box (List.map AV.p (J5 b4)), .arr w5 3 (List.map J5 s.2.2), .arr w6 3 B6, .box [.p (.i .i64 b7_0), .p (.i .i64 b7_1), .slr 5 0 (List.length s.2.2)]]⟩) = J6O o := by
 have h0 : Jv (fun s => J7O x1 b0 l1 b2_0 b2_1 b4 b7_0 b7_1 s.1 s.2.1 s.2.2) s = some o := h
 exact J0p (P := fun (s : Bool × Int × (List T_api_Copy)) (o : T_api_Image × Int) => rk (J2 p) J1T 0 [.bl 0, .sq (.keep [6, 10, 11, 12] J2J)] (X (J2 p) (.lp 8 [1, 3, 6, 10, 11, 12, 13] J17) ⟨[(1, .p (.i .i64 x1)), (3, .ptr 0 0), (6, .ptr 2 0), (10, .ptr 4 0), (11, .ptr 7 0), (12, .p (.b s.1)), (13, .p (.i .i64 s.2.1))], [.box (List.map AV.p (J7 b0)), .arr w1 3 (List.map J5 l1), .box [.p (.i .i64 b2_0), .p (.i .i64 b2_1), .slr 1 0 (List.length l1)], .box (List.map AV.p B3), .box (List.map AV.p (J5 b4)), .arr w5 3 (List.map J5 s.2.2), .arr w6 3 B6, .box [.p (.i .i64 b7_0), .p (.i .i64 b7_1), .slr 5 0 (List.length s.2.2)]]⟩) = J6O o) (fun s r hs => by rw [J0n]; exact Jev p hs) (fun s s1 r hs ih => by rw [J0n]; exact (Jev p hs).trans ih) h0
def J2i (x0 : T_api_Image) (x1 : Int) (x2 : List UInt8) : Option (T_api_Image × Int) :=
 Option.bind (J4i x0) fun r1 =>
 if r1 then
  if (decide (x1 < 0)) then
   some ((⟨0, 0, ([] : List T_api_Copy)⟩ : T_api_Image), 1)
  else
   if (decide (x1 ≥ x0.Pages)) then
    some ((⟨0, 0, ([] : List T_api_Copy)⟩ : T_api_Image), 1)
   else
    Option.bind (J1c x2 x1) fun r7 =>
    if ((r7.2 : Int) != 0) then
     some ((⟨0, 0, ([] : List T_api_Copy)⟩ : T_api_Image), r7.2)
    else
     J9f x1 x0 ([] : List T_api_Copy) 0 0 (⟨x1, r7.1.LSN, x2⟩ : T_api_Copy) x0.ID x0.Pages (false, 0, ([] : List T_api_Copy))
 else
  some ((⟨0, 0, ([] : List T_api_Copy)⟩ : T_api_Image), 43)
theorem JiN {x0 : T_api_Image} {x1 : Int} {x2 : List UInt8} {o : T_api_Image × Int} (h : J2i x0 x1 x2 = some o) :
  rk (J2 p) J1T 0 [] (X (J2 p) J2h ⟨[(0, .data (J7 x0)), (1, .p (.i .i64 x1)), (2, .p (.s x2))], []⟩) = J6O o := by
 unfold J2i at h
 obtain ⟨r1, h2, h⟩ := bi h
 have f3 := JlX p h2
 try simp only [Nf, Jm, J3R, Jq] at f3
 try simp only [↓Da, Ua, J2h, Jm, J3R, J1, J6, Jq, *, ↓reduceIte, reduceEqDiff, reduceAdd, reduceLT, reduceMul]
 rcases J8 h with ⟨h4, h⟩ | ⟨h4, h⟩
 ·try simp only [↓Da, Ua, J2h, Jm, J3R, J1, J6, Jq, *, ↓reduceIte, reduceEqDiff, reduceAdd, reduceLT, reduceMul]
  rcases J8 h with ⟨h5, h⟩ | ⟨h5, h⟩
  ·obtain rfl := sj h
   try simp only [↓Da, Ua, J2h, Jm, J3R, J1, J6, Jq, J95, *, ↓reduceIte, reduceEqDiff, reduceAdd, reduceLT, reduceMul]
   rfl
  ·try simp only [↓Da, Ua, J2h, Jm, J3R, J1, J6, Jq, *, ↓reduceIte, reduceEqDiff, reduceAdd, reduceLT, reduceMul]
   rcases J8 h with ⟨h6, h⟩ | ⟨h6, h⟩
   ·obtain rfl := sj h
    try simp only [↓Da, Ua, J2h, Jm, J3R, J1, J6, Jq, J95, *, ↓reduceIte, reduceEqDiff, reduceAdd, reduceLT, reduceMul]
    rfl
   ·obtain ⟨r7, h8, h⟩ := bi h
    have f9 := J9q p h8
    try simp only [Nf, Jm, J3R, Jq] at f9
    try simp only [↓Da, Ua, J2h, Jm, J3R, J1, J6, Jq, *, ↓reduceIte, reduceEqDiff, reduceAdd, reduceLT, reduceMul]
    rcases J8 h with ⟨h10, h⟩ | ⟨h10, h⟩
    ·obtain rfl := sj h
     try simp only [↓Da, Ua, J2h, Jm, J3R, J1, J6, Jq, J95, *, ↓reduceIte, reduceEqDiff, reduceAdd, reduceLT, reduceMul]
     rfl
    ·try simp only [↓Da, Ua, J2h, Jm, J3R, J1, J6, Jq, *, ↓reduceIte, reduceEqDiff, reduceAdd, reduceLT, reduceMul]
     have e0 := Jji p (w1 := true) (B3 := (J3 r7.1)) (w5 := true) (w6 := true) (B6 := (List.map J5 ([] : List T_api_Copy))) h
     exact e0
 ·obtain rfl := sj h
  try simp only [↓Da, Ua, J2h, Jm, J3R, J1, J6, Jq, J95, *, ↓reduceIte, reduceEqDiff, reduceAdd, reduceLT, reduceMul]
  rfl
theorem Jo5 {x0 : T_api_Image} {x1 : Int} {x2 : List UInt8} {o : T_api_Image × Int} (h : J2i x0 x1 x2 = some o) : AF (J2 p) J6U [.data (J7 x0), .p (.i .i64 x1), .p (.s x2)] [] = J6O o :=
 (J0c (J2 p) (JnE p) rfl).trans (JiN p h)
theorem JnD {x0 : T_api_Image} {x1 : Int} {x2 : List UInt8} {o : T_api_Image × Int} (h : J2i x0 x1 x2 = some o) : ∀ ws new st, (Jl (AF (J2 p)) J6U ([.data (J7 x0), .p (.i .i64 x1), .p (.s x2)], ws) 0 new).run st = some ⟨.tup [.data (J7 o.1), .p (.i .i64 o.2)], ws⟩ := Ju rfl (Jo5 p h) rfl
def JeG  (r : Bool) : Option Res := some (.p (.b r), [])
def J5c  : Option (Bool) :=
 Option.bind (J1O (⟨1, 1, ([] : List T_api_Copy)⟩ : T_api_Image)) fun r1 =>
 if ((r1.2 : Int) == 0) then
  if ((((List.length r1.1 : Nat) : Int) : Int) == 20) then
   Option.bind (J1b (⟨1, 1, ([] : List T_api_Copy)⟩ : T_api_Image)) fun r6 =>
   some r6
  else
   some false
 else
  some false
theorem Jgw  {o : Bool} (h : J5c = some o) :
  rk (J2 p) J6w 0 [] (X (J2 p) J3l ⟨[], []⟩) = JeG o := by
 unfold J5c at h
 obtain ⟨r1, h2, h⟩ := bi h
 have f3 : ∀ ws new s, (Jl (AF (J2 p)) J0k ([.data (J7 (⟨1, 1, ([] : List T_api_Copy)⟩ : T_api_Image))], ws) 0 new).run s = some ⟨.tup [.p (.s r1.1), .p (.i .i64 r1.2)], ws⟩ := Ju rfl (JaE p h2) rfl
 try simp only [Nf] at f3
 try simp only [↓Da, Ua, J3l, Jd, Je, *, ↓reduceIte, reduceEqDiff, reduceAdd, reduceLT, reduceMul]
 rcases J8 h with ⟨h4, h⟩ | ⟨h4, h⟩
 ·have h4n : ((r1.2 : Int) != 0) = false := by rw [bne, h4]; rfl
  try simp only [↓Da, Ua, J3l, Jd, Je, *, ↓reduceIte, reduceEqDiff, reduceAdd, reduceLT, reduceMul]
  rcases J8 h with ⟨h5, h⟩ | ⟨h5, h⟩
  ·have h5n : ((((List.length r1.1 : Nat) : Int) : Int) != 20) = false := by rw [bne, h5]; rfl
   obtain ⟨r6, h7, h⟩ := bi h
   have f8 := Jex p h7
   try simp only [Nf] at f8
   obtain rfl := sj h
   try simp only [↓Da, Ua, J3l, Jd, Je, Jbk, *, ↓reduceIte, reduceEqDiff, reduceAdd, reduceLT, reduceMul]
   rfl
  ·have h5n : ((((List.length r1.1 : Nat) : Int) : Int) != 20) = true := by rw [bne, h5]; rfl
   obtain rfl := sj h
   try simp only [↓Da, Ua, J3l, Jd, Je, Jbk, *, ↓reduceIte, reduceEqDiff, reduceAdd, reduceLT, reduceMul]
   rfl
 ·have h4n : ((r1.2 : Int) != 0) = true := by rw [bne, h4]; rfl
  obtain rfl := sj h
  try simp only [↓Da, Ua, J3l, Jd, Je, Jbk, *, ↓reduceIte, reduceEqDiff, reduceAdd, reduceLT, reduceMul]
  rfl
theorem Jl8  {o : Bool} (h : J5c = some o) : AF (J2 p) J6a [] [] = JeG o :=
 (J0c (J2 p) (JlG p) rfl).trans (Jgw p h)
theorem Jlw  {o : Bool} (h : J5c = some o) : ∀ ws new st, (Jl (AF (J2 p)) J6a ([], ws) 0 new).run st = some ⟨.p (.b o), ws⟩ := Ju rfl (Jl8 p h) rfl
def J7a  (r : T_api_Image × T_pagemenddraw_Codes) : Option Res := some (.data (J7 r.1), [.box (List.map AV.p (J0 r.2))])
def Jdv (b1 : T_api_Image) (o : (Int × T_pagemenddraw_Codes × T_api_Image) ⊕ (T_api_Image × T_pagemenddraw_Codes)) : Option Res := match o with
 | .inl s => rk (J2 p) J28 1 [.bl 0, .td 3 [2, 3], .sq (.keep [2, 3] J3B)] (X (J2 p) (.lp 3 [0, 2, 3, 4] J11) ⟨[(0, .ptr 0 0), (2, .ptr 1 0), (3, .ptr 2 0), (4, .p (.i .i64 s.1))], [.box (List.map AV.p (J0 s.2.1)), .box (List.map AV.p (J7 b1)), .box (List.map AV.p (J7 s.2.2))]⟩)
 | .inr o => J7a o
def J5N (x4 : Int) (b0 : T_pagemenddraw_Codes) (b1 b2 : T_api_Image) : Option (((Int × T_pagemenddraw_Codes × T_api_Image) ⊕ (T_api_Image × T_pagemenddraw_Codes))) :=
 some (.inl ((IntKind.wrap .i64 (x4 + 1)), b0, b2))
theorem JaF {x4 : Int} {b0 : T_pagemenddraw_Codes} {b1 b2 : T_api_Image} {o : ((Int × T_pagemenddraw_Codes × T_api_Image) ⊕ (T_api_Image × T_pagemenddraw_Codes))} (h : J5N x4 b0 b1 b2 = some o) :
  rk (J2 p) J28 1 [.lo 3 [0, 2, 3, 4] J11, .bl 0, .td 3 [2, 3], .sq (.keep [2, 3] J3B)] (X (J2 p) JaJ ⟨[(0, .ptr 0 0), (2, .ptr 1 0), (3, .ptr 2 0), (4, .p (.i .i64 x4))], [.box (List.map AV.p (J0 b0)), .box (List.map AV.p (J7 b1)), .box (List.map AV.p (J7 b2))]⟩) = (Jdv p b1) o := by
 unfold J5N at h
 obtain rfl := sj h
 try simp only [↓Da, Ua, JaJ, ↓reduceIte, reduceEqDiff, reduceAdd, reduceLT, reduceMul]
 rfl
def Jaz (b0 : T_pagemenddraw_Codes) (b1 b2 : T_api_Image) : Option (T_api_Image × T_pagemenddraw_Codes) :=
 some (b2, b0)
theorem Jk7 {b0 : T_pagemenddraw_Codes} {b1 b2 : T_api_Image} {o : T_api_Image × T_pagemenddraw_Codes} (h : Jaz b0 b1 b2 = some o) :
  rk (J2 p) J28 1 [] (X (J2 p) J3B ⟨[(2, .ptr 1 0), (3, .ptr 2 0)], [.box (List.map AV.p (J0 b0)), .box (List.map AV.p (J7 b1)), .box (List.map AV.p (J7 b2))]⟩) = J7a o := by
 unfold Jaz at h
 obtain rfl := sj h
 try simp only [↓Da, Ua, J3B, Jd, Je, Jn3, ↓reduceIte, reduceEqDiff, reduceAdd, reduceLT, reduceMul]
 rfl
def J73 (b1 : T_api_Image) (x4 : Int) (b0 : T_pagemenddraw_Codes) (b2 : T_api_Image) : Option (((Int × T_pagemenddraw_Codes × T_api_Image) ⊕ (T_api_Image × T_pagemenddraw_Codes))) :=
 if (decide (x4 < b2.Pages)) then
  Option.bind (JH b0 4) fun r2 =>
  if ((r2.1 : Int) == 0) then
   J5N x4 r2.2 b1 b2
  else
   Option.bind (J7e r2.2 x4) fun r6 =>
   Option.bind (J2i b2 x4 r6.1) fun r10 =>
   if ((r10.2 : Int) == 0) then
    J5N x4 r6.2 b1 r10.1
   else
    J5N x4 r6.2 b1 b2
 else
  Option.map (fun o => .inr o) (Jaz b0 b1 b2)
theorem Jdn {b1 : T_api_Image} {x4 : Int} {b0 : T_pagemenddraw_Codes} {b2 : T_api_Image} {o : ((Int × T_pagemenddraw_Codes × T_api_Image) ⊕ (T_api_Image × T_pagemenddraw_Codes))} (h : J73 b1 x4 b0 b2 = some o) :
  rk (J2 p) J28 1 [.lo 3 [0, 2, 3, 4] J11, .bl 0, .td 3 [2, 3], .sq (.keep [2, 3] J3B)] (X (J2 p) J11 ⟨[(0, .ptr 0 0), (2, .ptr 1 0), (3, .ptr 2 0), (4, .p (.i .i64 x4))], [.box (List.map AV.p (J0 b0)), .box (List.map AV.p (J7 b1)), .box (List.map AV.p (J7 b2))]⟩) = (Jdv p b1) o := by
 unfold J73 at h
 rcases J8 h with ⟨h1, h⟩ | ⟨h1, h⟩
 ·obtain ⟨r2, h3, h⟩ := bi h
  have f4 : ∀ ws new s, J06 ws s [0] [List.map AV.p (J0 b0)] → (Jl (AF (J2 p)) Ji ([.ptr 0 0, .p (.i .i64 4)], ws) 0 new).run s = some ⟨.p (.i .i64 r2.1), ws ++ [(0, .box (List.map AV.p (J0 r2.2)))]⟩ := JZ (args' := [.ptr 0 0, .p (.i .i64 4)]) (bs := [0]) (css := [List.map AV.p (J0 b0)]) (css' := [List.map AV.p (J0 r2.2)]) rfl rfl rfl (by simp [Jt, Jh]) (JT p h3) rfl rfl (by simp [Jt, Jh])
  try simp only [Nf] at f4
  try simp only [↓Da, Ua, Ra, J11, Jd, Je, J9, *, ↓reduceIte, reduceEqDiff, reduceAdd, reduceLT, reduceMul, Nat.reduceBEq]
  rcases J8 h with ⟨h5, h⟩ | ⟨h5, h⟩
  ·have h5n : ((r2.1 : Int) != 0) = false := by rw [bne, h5]; rfl
   try simp only [↓Da, Ua, Ra, J11, Jd, Je, J9, *, ↓reduceIte, reduceEqDiff, reduceAdd, reduceLT, reduceMul, Nat.reduceBEq]
   have e0 := JaF p h
   exact e0
  ·have h5n : ((r2.1 : Int) != 0) = true := by rw [bne, h5]; rfl
   obtain ⟨r6, h7, h⟩ := bi h
   have f8 : ∀ ws new s, J06 ws s [0] [List.map AV.p (J0 r2.2)] → (Jl (AF (J2 p)) J5T ([.ptr 0 0, .p (.i .i64 x4)], ws) 0 new).run s = some ⟨.p (.s r6.1), ws ++ [(0, .box (List.map AV.p (J0 r6.2)))]⟩ := JZ (args' := [.ptr 0 0, .p (.i .i64 x4)]) (bs := [0]) (css := [List.map AV.p (J0 r2.2)]) (css' := [List.map AV.p (J0 r6.2)]) rfl rfl rfl (by simp [Jt, Jh]) (Jnh p h7) rfl rfl (by simp [Jt, Jh])
   try simp only [Nf] at f8
   have f9 : ∀ ws k new s, J06 ws s [0] [List.map AV.p (J0 r2.2)] → Jc ((Jl (AF (J2 p)) J5T ([.ptr 0 0, .p (.i .i64 x4)], ws) k new).reads s) = [0] ++ ([0] ++ [0]) := JgT (args' := [.ptr 0 0, .p (.i .i64 x4)]) (bs := [0]) (css := [List.map AV.p (J0 r2.2)]) rfl rfl rfl (by simp [Jt, Jh])
   try simp only [Nf] at f9
   obtain ⟨r10, h11, h⟩ := bi h
   have f12 := JnD p h11
   try simp only [Nf] at f12
   have f13 : ∀ ws k new s, Jc ((Jl (AF (J2 p)) J6U ([.data (J7 b2), .p (.i .i64 x4), .p (.s r6.1)], ws) k new).reads s) = [] := J0q rfl
   try simp only [Nf] at f13
   try simp only [↓Da, Ua, Ra, J11, Jd, Je, J9, *, ↓reduceIte, reduceEqDiff, reduceAdd, reduceLT, reduceMul, Nat.reduceBEq]
   rcases J8 h with ⟨h14, h⟩ | ⟨h14, h⟩
   ·have h14n : ((r10.2 : Int) != 0) = false := by rw [bne, h14]; rfl
    try simp only [↓Da, Ua, Ra, J11, Jd, Je, J9, *, ↓reduceIte, reduceEqDiff, reduceAdd, reduceLT, reduceMul, Nat.reduceBEq]
    have e0 := JaF p h
    exact e0
   ·have h14n : ((r10.2 : Int) != 0) = true := by rw [bne, h14]; rfl
    try simp only [↓Da, Ua, Ra, J11, Jd, Je, J9, *, ↓reduceIte, reduceEqDiff, reduceAdd, reduceLT, reduceMul, Nat.reduceBEq]
    have e0 := JaF p h
    exact e0
 ·obtain ⟨o', h', rfl⟩ := mi h
  try simp only [↓Da, Ua, Ra, J11, Jd, Je, J9, *, ↓reduceIte, reduceEqDiff, reduceAdd, reduceLT, reduceMul, Nat.reduceBEq]
  have e0 := Jk7 p h'
  exact e0
def JaD (b1 : T_api_Image) (s : Int × T_pagemenddraw_Codes × T_api_Image) : Option (T_api_Image × T_pagemenddraw_Codes) :=
 Jv (fun s => J73 b1 s.1 s.2.1 s.2.2) s
theorem Ji7 {b1 : T_api_Image} {s : Int × T_pagemenddraw_Codes × T_api_Image} {o : T_api_Image × T_pagemenddraw_Codes} (h : JaD b1 s = some o) :
  rk (J2 p) J28 1 [.bl 0, .td 3 [2, 3], .sq (.keep [2, 3] J3B)] (X (J2 p) (.lp 3 [0, 2, 3, 4] J11) ⟨[(0, .ptr 0 0), (2, .ptr 1 0), (3, .ptr 2 0), (4, .p (.i .i64 s.1))], [.box (List.map AV.p (J0 s.2.1)), .box (List.map AV.p (J7 b1)), .box (List.map AV.p (J7 s.2.2))]⟩) = J7a o := by
 have h0 : Jv (fun s => J73 b1 s.1 s.2.1 s.2.2) s = some o := h
 exact J0p (P := fun (s : Int × T_pagemenddraw_Codes × T_api_Image) (o : T_api_Image × T_pagemenddraw_Codes) => rk (J2 p) J28 1 [.bl 0, .td 3 [2, 3], .sq (.keep [2, 3] J3B)] (X (J2 p) (.lp 3 [0, 2, 3, 4] J11) ⟨[(0, .ptr 0 0), (2, .ptr 1 0), (3, .ptr 2 0), (4, .p (.i .i64 s.1))], [.box (List.map AV.p (J0 s.2.1)), .box (List.map AV.p (J7 b1)), .box (List.map AV.p (J7 s.2.2))]⟩) = J7a o) (fun s r hs => by rw [J0n]; exact Jdn p hs) (fun s s1 r hs ih => by rw [J0n]; exact (Jdn p hs).trans ih) h0
def J7l (b0 : T_pagemenddraw_Codes) : Option (T_api_Image × T_pagemenddraw_Codes) :=
 Option.bind (JH b0 5) fun r1 =>
 Option.bind (JH r1.2 6) fun r4 =>
 JaD (⟨0, 0, ([] : List T_api_Copy)⟩ : T_api_Image) (0, r4.2, (⟨(IntKind.wrap .i64 (1 + r1.1)), (IntKind.wrap .i64 (1 + r4.1)), ([] : List T_api_Copy)⟩ : T_api_Image))
theorem JhE {b0 : T_pagemenddraw_Codes} {o : T_api_Image × T_pagemenddraw_Codes} (h : J7l b0 = some o) :
  rk (J2 p) J28 1 [] (X (J2 p) J8p ⟨[(0, .ptr 0 0)], [.box (List.map AV.p (J0 b0))]⟩) = J7a o := by
 unfold J7l at h
 obtain ⟨r1, h2, h⟩ := bi h
 have f3 : ∀ ws new s, J06 ws s [0] [List.map AV.p (J0 b0)] → (Jl (AF (J2 p)) Ji ([.ptr 0 0, .p (.i .i64 5)], ws) 0 new).run s = some ⟨.p (.i .i64 r1.1), ws ++ [(0, .box (List.map AV.p (J0 r1.2)))]⟩ := JZ (args' := [.ptr 0 0, .p (.i .i64 5)]) (bs := [0]) (css := [List.map AV.p (J0 b0)]) (css' := [List.map AV.p (J0 r1.2)]) rfl rfl rfl (by simp [Jt, Jh]) (JT p h2) rfl rfl (by simp [Jt, Jh])
 try simp only [Nf] at f3
 obtain ⟨r4, h5, h⟩ := bi h
 have f6 : ∀ ws new s, J06 ws s [0] [List.map AV.p (J0 r1.2)] → (Jl (AF (J2 p)) Ji ([.ptr 0 0, .p (.i .i64 6)], ws) 0 new).run s = some ⟨.p (.i .i64 r4.1), ws ++ [(0, .box (List.map AV.p (J0 r4.2)))]⟩ := JZ (args' := [.ptr 0 0, .p (.i .i64 6)]) (bs := [0]) (css := [List.map AV.p (J0 r1.2)]) (css' := [List.map AV.p (J0 r4.2)]) rfl rfl rfl (by simp [Jt, Jh]) (JT p h5) rfl rfl (by simp [Jt, Jh])
 try simp only [Nf] at f6
 try simp only [↓Da, Ua, J8p, Jd, Je, J9, *, ↓reduceIte, reduceEqDiff, reduceAdd, reduceLT, reduceMul]
 have e0 := Ji7 p h
 exact e0
theorem Jmq {b0 : T_pagemenddraw_Codes} {o : T_api_Image × T_pagemenddraw_Codes} (h : J7l b0 = some o) : AF (J2 p) J7i [.ptr 0 0] [.box (List.map AV.p (J0 b0))] = J7a o :=
 (J0c (J2 p) (JmQ p) rfl).trans (JhE p h)
end
end Go.Am
end
section
namespace Go.Am
set_option maxRecDepth 8000
set_option maxHeartbeats 4000000
set_option linter.unusedSimpArgs false
set_option linter.unusedVariables false
noncomputable section
variable (p : PS)
def Jcf (x0 : List UInt8) (x5 : Int) (l0 : List T_api_Copy) (b1_0 b1_1 : Int) (l2 : List T_api_Copy) (b4_0 b4_1 : Int) : Option (T_api_Image × Int) :=
 if ((x5 : Int) != ((List.length x0 : Nat) : Int)) then
  some ((⟨0, 0, ([] : List T_api_Copy)⟩ : T_api_Image), 4)
 else
  Option.bind (J4i (⟨b4_0, b4_1, l2⟩ : T_api_Image)) fun r2 =>
  if r2 then
   some ((⟨b4_0, b4_1, l2⟩ : T_api_Image), 0)
  else
   some ((⟨0, 0, ([] : List T_api_Copy)⟩ : T_api_Image), 43)
def J4R (x0 : List UInt8) (x8 : Int) (l0 : List T_api_Copy) (b1_0 b1_1 : Int) (b4_0 b4_1 : Int) (x5 x9 : Int) (l2 : List T_api_Copy) : Option (((Int × Int × (List T_api_Copy)) ⊕ (T_api_Image × Int))) :=
 if (decide (x9 < x8)) then
  Option.bind (J6z x0 x5) fun r2 =>
  if ((r2.2.2 : Int) != 0) then
   some (.inr ((⟨0, 0, ([] : List T_api_Copy)⟩ : T_api_Image), r2.2.2))
  else
   if ((((List.length r2.1 : Nat) : Int) : Int) != 258) then
    some (.inr ((⟨0, 0, ([] : List T_api_Copy)⟩ : T_api_Image), 4))
   else
    Option.bind (J3I r2.1 0 2) fun r7 =>
    Option.bind (J1i r2.1 (some 2) none) fun m11 =>
    Option.bind (J1c m11 r7) fun r14 =>
    Option.bind (JaB 32 l2 ([(⟨r7, r14.1.LSN, m11⟩ : T_api_Copy)] : List T_api_Copy)) fun m17 =>
    some (.inl (r2.2.1, (IntKind.wrap .i64 (x9 + 1)), m17))
 else
  Option.map (fun o => .inr o) (Jcf x0 x5 l0 b1_0 b1_1 l2 b4_0 b4_1)
def JhH (x0 : List UInt8) (x8 : Int) (l0 : List T_api_Copy) (b1_0 b1_1 : Int) (b4_0 b4_1 : Int) (s : Int × Int × (List T_api_Copy)) : Option (T_api_Image × Int) :=
 Jv (fun s => J4R x0 x8 l0 b1_0 b1_1 b4_0 b4_1 s.1 s.2.1 s.2.2) s
def Jdq (x0 : List UInt8) : Option (T_api_Image × Int) :=
 Option.bind (J6z x0 0) fun r1 =>
 if ((r1.2.2 : Int) != 0) then
  some ((⟨0, 0, ([] : List T_api_Copy)⟩ : T_api_Image), r1.2.2)
 else
  if ((((List.length r1.1 : Nat) : Int) : Int) != 12) then
   some ((⟨0, 0, ([] : List T_api_Copy)⟩ : T_api_Image), 4)
  else
   Option.bind (J1i r1.1 none (some 4)) fun m6 =>
   if (m6 == [80, 77, 73, 77]) then
    Option.bind (J3I r1.1 4 4) fun r10 =>
    Option.bind (J3I r1.1 8 2) fun r13 =>
    Option.bind (J3I r1.1 10 2) fun r16 =>
    if (decide (r16 > 64)) then
     some ((⟨0, 0, ([] : List T_api_Copy)⟩ : T_api_Image), 4)
    else
     JhH x0 r16 ([] : List T_api_Copy) 0 0 r10 r13 (r1.2.1, 0, ([] : List T_api_Copy))
   else
    some ((⟨0, 0, ([] : List T_api_Copy)⟩ : T_api_Image), 4)
def Jbn  (r : Bool) : Option Res := some (.p (.b r), [])
def J4c (x0 : List Int) (x1 x2 : Int) : Option (Bool) :=
 Option.bind (J5c) fun r1 =>
 if r1 then
  Option.bind (J7t x0 400) fun r5 =>
  Option.bind (J7l r5) fun r8 =>
  Option.bind (J1O r8.1) fun r11 =>
  Option.bind (J3F r11.1) fun r14 =>
  Option.bind (J1O r14.1) fun r17 =>
  if ((r11.2 : Int) != 0) then
   some false
  else
   if ((r14.2 : Int) != 0) then
    some false
   else
    if ((r17.2 : Int) != 0) then
     some false
    else
     if (r17.1 == r11.1) then
      Option.bind (J62 r8.1 r14.1) fun r24 =>
      if r24 then
       if ((x2 : Int) == 0) then
        some true
       else
        Option.bind (JfP (IntKind.wrap .i64 x1) ((List.length r11.1 : Nat) : Int)) fun q32 =>
        Option.bind (J1i r11.1 none (some q32)) fun m34 =>
        Option.bind (JbO r11.1 q32) fun c37 =>
        Option.bind (J3z m34 (toStr ([(J4E .u8 c37 x2)] : List Int))) fun s40 =>
        Option.bind (J1i r11.1 (some (IntKind.wrap .i64 (q32 + 1))) none) fun m42 =>
        Option.bind (J3z s40 m42) fun s45 =>
        Option.bind (J3F s45) fun r47 =>
        some ((r47.2 : Int) != 0)
      else
       some false
     else
      some false
 else
  some false
theorem Jdi {x0 : List Int} {x1 x2 : Int} {o : Bool} (h : J4c x0 x1 x2 = some o) :
  rk (J2 p) J4f 0 [] (X (J2 p) JN ⟨[(0, .p (.sl 1 (List.map (r_i .u8) x0))), (1, .p (.i .u16 x1)), (2, .p (.i .u8 x2))], []⟩) = Jbn o := by
 unfold J4c at h
 obtain ⟨r1, h2, h⟩ := bi h
 have f3 := Jlw p h2
 try simp only [Nf] at f3
 try simp only [↓Da, Ua, Ra, JN, Jd, Je, J9, *, ↓reduceIte, reduceEqDiff, reduceAdd, reduceLT, reduceMul, Nat.reduceBEq]
 rcases J8 h with ⟨h4, h⟩ | ⟨h4, h⟩
 ·obtain ⟨r5, h6, h⟩ := bi h
  have f7 : ∀ ws new s, (Jl (AF (J2 p)) J8F ([.p (.sl 1 (List.map (r_i .u8) x0)), .p (.i .i64 400)], ws) 1 new).run s = some ⟨.ptr new 0, ws ++ [(new, .box (List.map AV.p (J0 r5)))]⟩ := Jpx rfl (JpD p h6) (Jh _)
  try simp only [Nf] at f7
  obtain ⟨r8, h9, h⟩ := bi h
  have f10 : ∀ ws new s, J06 ws s [0] [List.map AV.p (J0 r5)] → (Jl (AF (J2 p)) J7i ([.ptr 0 0], ws) 0 new).run s = some ⟨.data (J7 r8.1), ws ++ [(0, .box (List.map AV.p (J0 r8.2)))]⟩ := JZ (args' := [.ptr 0 0]) (bs := [0]) (css := [List.map AV.p (J0 r5)]) (css' := [List.map AV.p (J0 r8.2)]) rfl rfl rfl (by simp [Jt, Jh]) (Jmq p h9) rfl rfl (by simp [Jt, Jh])
  try simp only [Nf] at f10
  obtain ⟨r11, h12, h⟩ := bi h
  have f13 : ∀ ws new s, (Jl (AF (J2 p)) J0k ([.data (J7 r8.1)], ws) 0 new).run s = some ⟨.tup [.p (.s r11.1), .p (.i .i64 r11.2)], ws⟩ := Ju rfl (JaE p h12) rfl
  try simp only [Nf] at f13
  obtain ⟨r14, h15, h⟩ := bi h
  have f16 := JdB p h15
  try simp only [Nf] at f16
  obtain ⟨r17, h18, h⟩ := bi h
  have f19 : ∀ ws new s, (Jl (AF (J2 p)) J0k ([.data (J7 r14.1)], ws) 0 new).run s = some ⟨.tup [.p (.s r17.1), .p (.i .i64 r17.2)], ws⟩ := Ju rfl (JaE p h18) rfl
  try simp only [Nf] at f19
  try simp only [↓Da, Ua, Ra, JN, Jd, Je, J9, *, ↓reduceIte, reduceEqDiff, reduceAdd, reduceLT, reduceMul, Nat.reduceBEq]
  rcases J8 h with ⟨h20, h⟩ | ⟨h20, h⟩
  ·try try rw [h4] at h20
   have h20n : ((r11.2 : Int) == 0) = false := by have e0 := h20; rw [bne, Bool.not_eq_true'] at e0; exact e0
   obtain rfl := sj h
   try simp only [↓Da, Ua, Ra, JN, Jd, Je, J9, J2l, *, ↓reduceIte, reduceEqDiff, reduceAdd, reduceLT, reduceMul, Nat.reduceBEq]
   rfl
  ·try try rw [h4] at h20
   have h20n : ((r11.2 : Int) == 0) = true := by have e0 := h20; rw [bne, Bool.not_eq_false'] at e0; exact e0
   try simp only [↓Da, Ua, Ra, JN, Jd, Je, J9, *, ↓reduceIte, reduceEqDiff, reduceAdd, reduceLT, reduceMul, Nat.reduceBEq]
   rcases J8 h with ⟨h21, h⟩ | ⟨h21, h⟩
   ·try try rw [h4] at h21
    have h21n : ((r14.2 : Int) == 0) = false := by have e0 := h21; rw [bne, Bool.not_eq_true'] at e0; exact e0
    obtain rfl := sj h
    try simp only [↓Da, Ua, Ra, JN, Jd, Je, J9, J2l, *, ↓reduceIte, reduceEqDiff, reduceAdd, reduceLT, reduceMul, Nat.reduceBEq]
    rfl
   ·try try rw [h4] at h21
    have h21n : ((r14.2 : Int) == 0) = true := by have e0 := h21; rw [bne, Bool.not_eq_false'] at e0; exact e0
    try simp only [↓Da, Ua, Ra, JN, Jd, Je, J9, *, ↓reduceIte, reduceEqDiff, reduceAdd, reduceLT, reduceMul, Nat.reduceBEq]
    rcases J8 h with ⟨h22, h⟩ | ⟨h22, h⟩
    ·try try rw [h4] at h22
     have h22n : ((r17.2 : Int) == 0) = false := by have e0 := h22; rw [bne, Bool.not_eq_true'] at e0; exact e0
     obtain rfl := sj h
     try simp only [↓Da, Ua, Ra, JN, Jd, Je, J9, J2l, *, ↓reduceIte, reduceEqDiff, reduceAdd, reduceLT, reduceMul, Nat.reduceBEq]
     rfl
    ·try try rw [h4] at h22
     have h22n : ((r17.2 : Int) == 0) = true := by have e0 := h22; rw [bne, Bool.not_eq_false'] at e0; exact e0
     try simp only [↓Da, Ua, Ra, JN, Jd, Je, J9, *, ↓reduceIte, reduceEqDiff, reduceAdd, reduceLT, reduceMul, Nat.reduceBEq]
     rcases J8 h with ⟨h23, h⟩ | ⟨h23, h⟩
     ·try try rw [h4] at h23
      obtain ⟨r24, h25, h⟩ := bi h
      have f26 := JmT p h25
      try simp only [Nf] at f26
      try simp only [↓Da, Ua, Ra, JN, Jd, Je, J9, *, ↓reduceIte, reduceEqDiff, reduceAdd, reduceLT, reduceMul, Nat.reduceBEq]
      rcases J8 h with ⟨h27, h⟩ | ⟨h27, h⟩
      ·try simp only [↓Da, Ua, Ra, JN, Jd, Je, J9, *, ↓reduceIte, reduceEqDiff, reduceAdd, reduceLT, reduceMul, Nat.reduceBEq]
       rcases J8 h with ⟨h28, h⟩ | ⟨h28, h⟩
       ·have h28n : ((x2 : Int) != 0) = false := by rw [bne, h28]; rfl
        obtain rfl := sj h
        try simp only [↓Da, Ua, Ra, JN, Jd, Je, J9, J2l, *, ↓reduceIte, reduceEqDiff, reduceAdd, reduceLT, reduceMul, Nat.reduceBEq]
        rfl
       ·have h28n : ((x2 : Int) != 0) = true := by rw [bne, h28]; rfl
        obtain ⟨q32, h33, h⟩ := bi h
        obtain ⟨m34, h35, h⟩ := bi h
        have f36 : J2b (.p (.s r11.1)) none (some (.p (.i .i64 q32))) = some (.p (.s m34)) := J2z (k := .i64) (lo := none) (hi := (some q32)) h35
        try simp only [Nf] at f36
        obtain ⟨c37, h38, h⟩ := bi h
        have f39 : ∀ env sto new, (cvR .toStr (.p (.sl 1 (List.map (r_i .u8) ([(J4E .u8 c37 x2)] : List Int)))) new).run ⟨env, sto⟩ = some ⟨.p (.s (toStr ([(J4E .u8 c37 x2)] : List Int))), []⟩ := fun env sto new => JrC env sto _ new
        try simp only [Nf] at f39
        obtain ⟨s40, h41, h⟩ := bi h
        obtain ⟨m42, h43, h⟩ := bi h
        have f44 : J2b (.p (.s r11.1)) (some (.p (.i .i64 (IntKind.wrap .i64 (q32 + 1))))) none = some (.p (.s m42)) := J2z (k := .i64) (lo := (some (IntKind.wrap .i64 (q32 + 1)))) (hi := none) h43
        try simp only [Nf] at f44
        obtain ⟨s45, h46, h⟩ := bi h
        obtain ⟨r47, h48, h⟩ := bi h
        have f49 := JdB p h48
        try simp only [Nf] at f49
        have f50 : ∀ ws k new s, Jc ((Jl (AF (J2 p)) J3G ([.p (.s s45)], ws) k new).reads s) = [] := J0q rfl
        try simp only [Nf] at f50
        obtain rfl := sj h
        try simp only [↓Da, Ua, Ra, JN, Jd, Je, J9, J2l, *, ↓reduceIte, reduceEqDiff, reduceAdd, reduceLT, reduceMul, Nat.reduceBEq]
        rfl
      ·obtain rfl := sj h
       try simp only [↓Da, Ua, Ra, JN, Jd, Je, J9, J2l, *, ↓reduceIte, reduceEqDiff, reduceAdd, reduceLT, reduceMul, Nat.reduceBEq]
       rfl
     ·try try rw [h4] at h23
      obtain rfl := sj h
      try simp only [↓Da, Ua, Ra, JN, Jd, Je, J9, J2l, *, ↓reduceIte, reduceEqDiff, reduceAdd, reduceLT, reduceMul, Nat.reduceBEq]
      rfl
 ·obtain rfl := sj h
  try simp only [↓Da, Ua, Ra, JN, Jd, Je, J9, J2l, *, ↓reduceIte, reduceEqDiff, reduceAdd, reduceLT, reduceMul, Nat.reduceBEq]
  rfl
theorem JgJ {x0 : List Int} {x1 x2 : Int} {o : Bool} (h : J4c x0 x1 x2 = some o) : AF (J2 p) J6Y [.p (.sl 1 (List.map (r_i .u8) x0)), .p (.i .u16 x1), .p (.i .u8 x2)] [] = Jbn o :=
 (J0c (J2 p) (JgC p) rfl).trans (Jdi p h)
end
end Go.Am
end
section
end
section
namespace Go.Am
theorem wrap64 {n : Int} (h1 : -9223372036854775808 ≤ n) (h2 : n ≤ 9223372036854775807) : IntKind.i64.wrap n = n := by
 simp [IntKind.wrap_i64]; omega
theorem J8A {n : Int} (h1 : 0 ≤ n) (h2 : n < 18446744073709551616) : IntKind.u64.wrap n = n := by
 rw [show IntKind.u64.wrap n = n % 18446744073709551616 by simp [IntKind.wrap, IntKind.bits, IntKind.signed]]; omega
theorem J5J {α : Type} (l : List α) (k : Nat) : idx l (k : Int) = l[k]? := by simp [idx]
theorem J4F {α : Type} {n : Nat} (v : Vector α n) (k : Nat) (h : k < n) : J85 v (k : Int) = some v[k] := by
 have e : (0 : Int) ≤ k ∧ (k : Int) < n := by omega
 simp [J85, e, h]
theorem J8J {n k : Nat} (h : k < n) : inb n (k : Int) = some () := by
 have e : (0 : Int) ≤ k ∧ (k : Int) < n := by omega
 simp [inb, e]
theorem J2x {k : Nat} (h : k < 1000000) : IntKind.i64.wrap ((k : Int) + 1) = ((k + 1 : Nat) : Int) := by
 rw [wrap64 (by omega) (by omega)]; simp
theorem J0R {σ ρ : Type} {f : σ → Option (σ ⊕ ρ)} (I : σ → Prop) (m : σ → Nat) (Q : ρ → Prop)
  (h : ∀ s, I s → (∃ s', f s = some (.inl s') ∧ I s' ∧ m s' < m s) ∨ (∃ r, f s = some (.inr r) ∧ Q r)) : ∀ s, I s → ∃ r, Jv f s = some r ∧ Q r := by
 have key : ∀ n s, m s ≤ n → I s → ∃ r, Jv f s = some r ∧ Q r := by
  intro n
  induction n with
  | zero =>
   intro s hm hs
   rcases h s hs with ⟨s', e, hs', hlt⟩ | ⟨r, e, hq⟩
   ·omega
   ·exact ⟨r, J0N e, hq⟩
  | succ n ih =>
   intro s hm hs
   rcases h s hs with ⟨s', e, hs', hlt⟩ | ⟨r, e, hq⟩
   ·obtain ⟨r, hr, hq⟩ := ih s' (by omega) hs'
    exact ⟨r, (J2v e).trans hr, hq⟩
   ·exact ⟨r, J0N e, hq⟩
 exact fun s hs => key (m s) s (Nat.le_refl _) hs
structure J1g (b : T_pagemenddraw_Codes) : Prop where
 at0 : 0 ≤ b.at_
 at1 : b.at_ ≤ b.l_.length
 len : b.l_.length ≤ 1000
 byte : ∀ x ∈ b.l_, 0 ≤ x ∧ x ≤ 255
theorem Jpb {b : T_pagemenddraw_Codes} (hb : J1g b) {n : Int} (h1 : 1 ≤ n) (h2 : n ≤ 256) (m : Nat) : ∃ r b', J4D (m + 1) b n = some (r, b') ∧ J1g b' ∧ 0 ≤ r ∧ r < n := by
 obtain ⟨ha, hb1, hl, hx⟩ := hb
 simp only [J4D, J65]
 by_cases hc : b.at_ ≥ (b.l_.length : Int)
 ·exact ⟨0, b, by simp [hc], ⟨ha, hb1, hl, hx⟩, by omega, by omega⟩
 ·obtain ⟨k, hk⟩ : ∃ k : Nat, b.at_ = (k : Int) := ⟨b.at_.toNat, by omega⟩
  have hk2 : k < b.l_.length := by omega
  have hy := hx _ (List.getElem_mem hk2)
  have e1 : ¬ n < 1 := by omega
  have e2 : ¬ n > 256 := by omega
  have e3 : idx b.l_ b.at_ = some b.l_[k] := by rw [hk, J5J, List.getElem?_eq_getElem hk2]
  have e4 : ¬ n = 0 := by omega
  refine ⟨(b.l_[k]).tmod n, ⟨b.l_, b.at_ + 1⟩, ?_, ⟨by show 0 ≤ b.at_ + 1; omega, by show b.at_ + 1 ≤ (b.l_.length : Int); omega, hl, hx⟩, Int.tmod_nonneg _ hy.1, Int.tmod_lt_of_pos _ (by omega)⟩
  simp only [hc, decide_false, e1, e2, e3, Option.bind_some, JfP, e4, if_false, Bool.false_eq_true]
  rw [wrap64 (by omega) (by omega), wrap64 (by omega) (by omega)]
theorem J54 {b : T_pagemenddraw_Codes} (hb : J1g b) {n : Int} (h1 : 1 ≤ n) (h2 : n ≤ 256) : ∃ r b', JH b n = some (r, b') ∧ J1g b' ∧ 0 ≤ r ∧ r < n := Jpb hb h1 h2 11
theorem JvT {l : List Int} (h : ∀ x ∈ l, 0 ≤ x ∧ x ≤ 255) {n : Nat} (hn : n ≤ 1000) : ∃ b, J7t l (n : Int) = some b ∧ J1g b := by
 unfold J7t J8k
 by_cases hc : (l.length : Int) > n
 ·have : J1i l none (some (n : Int)) = some (l.take n) := by
   have e1 : (0 : Int) ≤ n ∧ n ≤ l.length := by omega
   have e2 : n ≤ l.length := by omega
   simp [J1i, Jfv, Jd7, e2]
  refine ⟨⟨l.take n, 0⟩, by simp [hc, this], ⟨by show (0 : Int) ≤ 0; omega, by show (0 : Int) ≤ _; omega, by simp; omega, fun x hx => h x (List.mem_of_mem_take hx)⟩⟩
 ·exact ⟨⟨l, 0⟩, by simp [hc], ⟨by show (0 : Int) ≤ 0; omega, by show (0 : Int) ≤ _; omega, by show l.length ≤ 1000; omega, h⟩⟩
theorem JoQ {b : T_pagemenddraw_Codes} (hb : J1g b) {n : Int} (h0 : 0 ≤ n) (h1 : n ≤ 20) : ∃ s b', J39 n b = some (s, b') ∧ J1g b' := by
 have e0 : mkS 1 0 n (0 : Int) = some [] := by
  have : (0 : Int) ≤ n ∧ 1 * n ≤ 281474976710656 ∧ n ≤ 281474976710656 := by omega
  simp [mkS]; omega
 unfold J39
 simp only [e0, Option.bind_some]
 obtain ⟨r, hr, hq⟩ := J0R (f := fun s : Int × T_pagemenddraw_Codes × List Int => J2p n s.1 s.2.1 s.2.2)
  (fun s => ∃ k : Nat, s.1 = k ∧ (k : Int) ≤ n ∧ J1g s.2.1 ∧ s.2.2.length = k) (fun s => (n - s.1).toNat) (fun r => J1g r.2)
  (fun s ⟨k, hk, hn, hc, hl⟩ => by
   obtain ⟨i, b, l⟩ := s
   simp only at hk hc hl
   subst hk
   by_cases hlt : (k : Int) < n
   ·left
    obtain ⟨r, b', e1, hb', _, _⟩ := J54 hc (n := 3) (by omega) (by omega)
    have e2 : J63 (l.length + 1) 1 = true := by simp [J63]; omega
    have e3 : ∀ z : Int, JaB 1 l [z] = some (l ++ [z]) := fun z => by simp only [JaB, List.length_cons, List.length_nil, Nat.zero_add, e2, if_true]
    refine ⟨⟨((k + 1 : Nat) : Int), b', l ++ [IntKind.wrap .u8 (IntKind.wrap .i64 (97 + r))]⟩, ?_, ⟨k + 1, rfl, by simp; omega, hb', by simp [hl]⟩, by simp; omega⟩
    simp only [J2p, hlt, decide_true, if_true, e1, e3, Option.bind_some, J2x (show k < 1000000 by omega)]
   ·right
    refine ⟨(toStr l, b), ?_, hc⟩
    simp [J2p, J66, hlt])
  (0, b, []) ⟨0, rfl, by simpa using h0, hb, rfl⟩
 exact ⟨r.1, r.2, hr, hq⟩
def Jou (c : Ja) : Prop := c.Data.length ≤ 12 ∧ (c.Set = false → c.Data = [])
theorem JqP {b : T_pagemenddraw_Codes} (hb : J1g b) : ∃ c b', J4b b = some (c, b') ∧ J1g b' ∧ Jou c := by
 obtain ⟨r, b1, e1, hb1, _, _⟩ := J54 hb (n := 3) (by omega) (by omega)
 unfold J4b
 simp only [e1, Option.bind_some]
 by_cases h0 : r = 0
 ·exact ⟨⟨false, []⟩, b1, by simp [h0], hb1, by simp [Jou]⟩
 ·have hd : ∃ s b', J4g b1 = some (s, b') ∧ J1g b' := by
   unfold J4g
   obtain ⟨r1, b2, e2, hb2, h21, h22⟩ := J54 hb1 (n := 5) (by omega) (by omega)
   obtain ⟨r2, b3, e3, hb3, _, _⟩ := J54 hb2 (n := 6) (by omega) (by omega)
   simp only [e2, e3, Option.bind_some]
   by_cases h6 : r2 = 0
   ·obtain ⟨r3, b4, e4, hb4, h41, h42⟩ := J54 hb3 (n := 14) (by omega) (by omega)
    obtain ⟨s, b5, e5, hb5⟩ := JoQ hb4 h41 (by omega)
    exact ⟨s, b5, by simp [h6, e4, e5], hb5⟩
   ·obtain ⟨s, b5, e5, hb5⟩ := JoQ hb3 h21 (by omega)
    exact ⟨s, b5, by simp [h6, e5], hb5⟩
  obtain ⟨s, b2, e2, hb2⟩ := hd
  have e3 : J1i s none (some (Jhj (s.length : Int) 12)) = some (s.take (min s.length 12)) := by
   have e4 : Jhj (s.length : Int) 12 = ((min s.length 12 : Nat) : Int) := by unfold Jhj; split <;> omega
   have e5 : min s.length 12 ≤ s.length := by omega
   rw [e4]
   simp only [J1i, Jfv, Jd7]
   have e6 : (0 : Int) ≤ ((min s.length 12 : Nat) : Int) ∧ ((min s.length 12 : Nat) : Int) ≤ ((s.length : Nat) : Int) := by omega
   simp only [e6, and_self, if_true, Int.toNat_natCast, List.drop_zero, Nat.sub_zero]
  refine ⟨⟨true, s.take (min s.length 12)⟩, b2, ?_, hb2, ?_⟩
  ·simp only [e2, Option.bind_some, e3]
   simp [h0]
  ·refine ⟨?_, fun h => by cases h⟩
   simp only [List.length_take]; omega
def J5s (lsn : Int) (c : Ja) : Prop := c.Data.length ≤ 12 ∧ (c.Set = false → c.Data = []) ∧ (c.Set = true → lsn ≠ 0)
structure J5Q (p : T_api_Page) : Prop where
 id0 : 0 ≤ p.ID
 id1 : p.ID < 64
 lsn0 : 0 ≤ p.LSN
 lsn1 : p.LSN ≤ 1099511627776
 cells : ∀ (i : Nat) (h : i < 16), J5s p.LSN (p.Cells[i])
theorem Jn0 {id lsn : Int} (h0 : 0 ≤ id) (h1 : id < 64) (h2 : 0 ≤ lsn) (h3 : lsn ≤ 1099511627776) : J5Q ⟨id, lsn, Vector.replicate 16 ⟨false, []⟩⟩ :=
 ⟨h0, h1, h2, h3, fun i h => by simp [J5s]⟩
theorem JqM {b : T_pagemenddraw_Codes} (hb : J1g b) {id : Int} (h0 : 0 ≤ id) (h1 : id < 64) : ∃ p b', J2Z b id = some (p, b') ∧ J1g b' ∧ J5Q p ∧ p.ID = id := by
 have go : ∀ (b : T_pagemenddraw_Codes) (lsn : Int) (b1 : T_api_Page), J1g b → 0 ≤ lsn → lsn ≤ 1099511627776 →
   ∃ p b', J3c b b1 ⟨id, lsn, Vector.replicate 16 ⟨false, []⟩⟩ = some (p, b') ∧ J1g b' ∧ J5Q p ∧ p.ID = id := by
  intro b lsn b1 hb hl0 hl1
  unfold J3c
  by_cases hl : lsn > 0
  ·obtain ⟨r, b2, e1, hb2, hr0, hr1⟩ := J54 hb (n := 6) (by omega) (by omega)
   obtain ⟨o, ho, hq⟩ := J0R (f := fun s : Int × T_pagemenddraw_Codes × T_api_Page => J2n b1 s.1 s.2.1 s.2.2)
    (fun s => 0 ≤ s.1 ∧ s.1 ≤ 6 ∧ J1g s.2.1 ∧ J5Q s.2.2 ∧ s.2.2.ID = id ∧ s.2.2.LSN = lsn) (fun s => s.1.toNat) (fun r => J1g r.2 ∧ J5Q r.1 ∧ r.1.ID = id)
    (fun s ⟨i0, i1, hc, hp, hid, hlsn⟩ => by
     obtain ⟨i, b, p⟩ := s
     simp only at i0 i1 hc hp hid hlsn
     by_cases hi : i > 0
     ·left
      obtain ⟨r, b2, e1, hb2, hr0, hr1⟩ := J54 hc (n := 16) (by omega) (by omega)
      obtain ⟨c, b3, e2, hb3, hcf⟩ := JqP hb2
      obtain ⟨k, rfl⟩ : ∃ k : Nat, r = (k : Int) := ⟨r.toNat, by omega⟩
      have hk : k < 16 := by omega
      refine ⟨⟨i - 1, b3, ⟨p.ID, p.LSN, J9G p.Cells (k : Int) c⟩⟩, ?_, ⟨by show 0 ≤ i - 1; omega, by show i - 1 ≤ 6; omega, hb3, ?_, hid, hlsn⟩, by show (i - 1).toNat < i.toNat; omega⟩
      ·simp only [J2n, hi, decide_true, if_true, e1, e2, Option.bind_some, J8J hk, J4F _ k hk, wrap64 (show -9223372036854775808 ≤ i - 1 by omega) (by omega)]
      ·refine ⟨hp.id0, hp.id1, hp.lsn0, hp.lsn1, fun j hj => ?_⟩
       show J5s p.LSN ((J9G p.Cells (k : Int) c)[j])
       simp only [J9G, Int.toNat_natCast, Vector.getElem_setIfInBounds]
       split
       ·exact ⟨hcf.1, hcf.2, fun _ => by rw [hlsn]; omega⟩
       ·exact hp.cells j hj
     ·right
      exact ⟨(p, b), by simp [J2n, J3a, hi], hc, hp, hid⟩)
    (r, b2, ⟨id, lsn, Vector.replicate 16 ⟨false, []⟩⟩) ⟨hr0, by show r ≤ 6; omega, hb2, Jn0 h0 h1 hl0 hl1, rfl, rfl⟩
   refine ⟨o.1, o.2, ?_, hq.1, hq.2⟩
   simp only [hl, decide_true, if_true, e1, Option.bind_some]
   exact ho
  ·exact ⟨_, b, by simp [hl, J3a], hb, Jn0 h0 h1 hl0 hl1, rfl⟩
 obtain ⟨r, b1, e1, hb1, hr0, hr1⟩ := J54 hb (n := 50) (by omega) (by omega)
 obtain ⟨r2, b2, e2, hb2, _, _⟩ := J54 hb1 (n := 10) (by omega) (by omega)
 unfold J2Z
 simp only [e1, e2, Option.bind_some]
 by_cases h9 : r2 = 9
 ·obtain ⟨r3, b3, e3, hb3, h30, h31⟩ := J54 hb2 (n := 2) (by omega) (by omega)
  have e4 : IntKind.wrap .i64 (1099511627776 - r3) = 1099511627776 - r3 := wrap64 (by omega) (by omega)
  simp only [h9, e3, Option.bind_some, e4]
  exact go b3 _ _ hb3 (by omega) (by omega)
 ·have e5 : ((r2 : Int) == 9) = false := by simpa using h9
  simp only [e5, Bool.false_eq_true, if_false]
  exact go b2 _ _ hb2 (by omega) (by omega)
end Go.Am
end
section
namespace Go.Am
theorem Jwa (x : Int) : ∃ k : Nat, J4L .u32 x 15 = (k : Int) ∧ k < 16 := by
 have h : (BitVec.ofInt 32 x &&& BitVec.ofInt 32 15).toNat ≤ 15 := by
  rw [BitVec.toNat_and]
  exact Nat.and_le_right
 refine ⟨(BitVec.ofInt 32 x &&& BitVec.ofInt 32 15).toNat, ?_, by omega⟩
 show (((BitVec.ofInt 32 x &&& BitVec.ofInt 32 15).toNat : Nat) : Int) % 4294967296 = _
 omega
theorem Jlt : ∃ v, J2G = some v := by
 have inner : ∀ (k : Nat) (b0 b1 : Vector Int 16), k < 16 → ∀ r : Int, ∃ o, J7y k k b0 b1 (r, 0) = some o ∧ ∃ v, o = .inl (((k + 1 : Nat) : Int), v) := by
  intro k b0 b1 hk r
  refine J0R (f := fun s : Int × Int => J0f k k b0 b1 s.1 s.2) (fun s => ∃ j : Nat, s.2 = j ∧ j ≤ 4) (fun s => (4 - s.2).toNat) _ (fun s ⟨j, hj, h4⟩ => ?_) (r, 0) ⟨0, rfl, by omega⟩
  obtain ⟨x, j'⟩ := s
  simp only at hj
  subst hj
  by_cases hlt : j < 4
  ·left
   have e1 : ((j : Nat) : Int) < 4 := by omega
   have e2 : J8b .u32 x 1 = some (x.fdiv (2 ^ (min (1 : Int).toNat IntKind.u32.bits))) := rfl
   by_cases hb : J4L .u32 x 1 = 1
   ·exact ⟨⟨_, ((j + 1 : Nat) : Int)⟩, by simp only [J0f, e1, decide_true, if_true, hb, beq_self_eq_true, e2, Option.bind_some, J2x (show j < 1000000 by omega)]; rfl, ⟨j + 1, rfl, by omega⟩, by simp; omega⟩
   ·have e3 : (J4L .u32 x 1 == 1) = false := by simpa using hb
    exact ⟨⟨_, ((j + 1 : Nat) : Int)⟩, by simp only [J0f, e1, decide_true, if_true, e3, Bool.false_eq_true, if_false, e2, Option.bind_some, J2x (show j < 1000000 by omega)]; rfl, ⟨j + 1, rfl, by omega⟩, by simp; omega⟩
  ·right
   have e1 : ¬ ((j : Nat) : Int) < 4 := by omega
   exact ⟨.inl (((k + 1 : Nat) : Int), J9G b1 k x), by simp only [J0f, e1, decide_false, Bool.false_eq_true, if_false, J3Q, J43, J8J hk, J4F _ k hk, Option.bind_some, Option.map_some, J2x (show k < 1000000 by omega)], _, rfl⟩
 obtain ⟨v, hv, _⟩ := J0R (f := fun s : Int × Vector Int 16 => J0K (Vector.replicate 16 0) s.1 s.2) (fun s => ∃ j : Nat, s.1 = j ∧ j ≤ 16) (fun s => (16 - s.1).toNat) (fun _ => True) (fun s ⟨j, hj, h4⟩ => by
  obtain ⟨j', b1⟩ := s
  simp only at hj
  subst hj
  by_cases hlt : j < 16
  ·left
   have e1 : ((j : Nat) : Int) < 16 := by omega
   obtain ⟨o, ho, v, rfl⟩ := inner j (Vector.replicate 16 0) b1 hlt (IntKind.wrap .u32 (j : Int))
   exact ⟨⟨((j + 1 : Nat) : Int), v⟩, by simp only [J0K, e1, decide_true, if_true]; exact ho, ⟨j + 1, rfl, by omega⟩, by simp; omega⟩
  ·right
   have e1 : ¬ ((j : Nat) : Int) < 16 := by omega
   exact ⟨b1, by simp only [J0K, e1, decide_false, Bool.false_eq_true, if_false, J3U, Option.map_some], trivial⟩) (0, Vector.replicate 16 0) ⟨0, rfl, by omega⟩
 exact ⟨v, hv⟩
theorem J81 {l : List UInt8} {k : Nat} (h : k < l.length) : JbO l (k : Int) = some ((l[k]).toNat : Int) := by
 have e : (0 : Int) ≤ k := by omega
 simp [JbO, e, h]
theorem Jmx (l : List UInt8) (hl : l.length ≤ 1000) : ∃ r, J1W l = some r := by
 obtain ⟨v, hv⟩ := Jlt
 obtain ⟨r, hr, _⟩ := J0R (f := fun s : Int × Int => J2I l (l.length : Int) v s.1 s.2) (fun s => ∃ j : Nat, s.2 = j ∧ j ≤ l.length) (fun s => (l.length - s.2).toNat) (fun _ => True) (fun s ⟨j, hj, h4⟩ => by
  obtain ⟨x, j'⟩ := s
  simp only at hj
  subst hj
  by_cases hlt : j < l.length
  ·left
   have e1 : ((j : Nat) : Int) < (l.length : Int) := by omega
   have e2 : ∀ z : Int, J8b .u32 z 4 = some (z.fdiv (2 ^ (min (4 : Int).toNat IntKind.u32.bits))) := fun _ => rfl
   have e3 : ∀ z : Int, ∃ y, inb 16 (J4L .u32 z 15) = some () ∧ J85 v (J4L .u32 z 15) = some y := by
    intro z
    obtain ⟨k, hk, hk2⟩ := Jwa z
    rw [hk]
    exact ⟨_, J8J hk2, J4F _ k hk2⟩
   obtain ⟨y1, a1, a2⟩ := e3 (J4E .u32 x (IntKind.wrap .u32 (((l[j]).toNat : Nat) : Int)))
   obtain ⟨y2, a3, a4⟩ := e3 (J4E .u32 ((J4E .u32 x (IntKind.wrap .u32 (((l[j]).toNat : Nat) : Int))).fdiv (2 ^ (min (4 : Int).toNat IntKind.u32.bits))) y1)
   exact ⟨⟨_, ((j + 1 : Nat) : Int)⟩, by simp only [J2I, e1, decide_true, if_true, J81 hlt, Option.bind_some, e2, a1, a2, a3, a4, J2x (show j < 1000000 by omega)]; rfl, ⟨j + 1, rfl, by omega⟩, by simp; omega⟩
  ·right
   have e1 : ¬ ((j : Nat) : Int) < (l.length : Int) := by omega
   exact ⟨_, by simp only [J2I, e1, decide_false, Bool.false_eq_true, if_false, J7K, Option.map_some]; rfl, trivial⟩) (4294967295, 0) ⟨0, rfl, by omega⟩
 exact ⟨r, by unfold J1W; rw [hv]; exact hr⟩
theorem J96 (l : List UInt8) (n : Int) {k : Nat} (h1 : 1 ≤ k) (h8 : k ≤ 8) (hl : l.length ≤ 1000) : J0e l n (k : Int) = some (l ++ Jj n k) := by
 have e1 : ¬ ((k : Int) < 1 ∨ 8 < (k : Int)) := by omega
 have e2 : l.length + 8 ≤ 140737488355328 := by omega
 show Jfr l n k = _
 rw [Jfr, if_neg e1, if_pos e2]
 simp
theorem JdF {a b : List UInt8} (ha : a.length ≤ 1000) (hb : b.length ≤ 1000) : J3z a b = some (a ++ b) := by
 have e : a.length + b.length ≤ 4611686018427387904 := by omega
 simp [J3z, e]
theorem Jc8 {n : Int} (h0 : 0 ≤ n) (h1 : n ≤ 1000) : J3u [0] n = some (List.replicate n.toNat 0) := by
 show Jka [0] n = _
 have e : (0 : Int) ≤ n ∧ n ≤ 9223372036854775807 ∧ ([0] : List UInt8).length * n.toNat ≤ 140737488355328 := by
  refine ⟨h0, by omega, ?_⟩
  simp; omega
 rw [Jka, if_pos e]
 have : ∀ k : Nat, (List.replicate k ([0] : List UInt8)).flatten = List.replicate k 0 := by
  intro k
  induction k with
  | zero => rfl
  | succ k ih => rw [List.replicate_succ, List.flatten_cons, ih]; rfl
 rw [this]
theorem JpE (b : T_page_builder) (c : Ja) (hc : c.Data.length ≤ 12) (hb : b.s_.length ≤ 300) : ∃ t, J1G b c = some ⟨b.s_ ++ t⟩ ∧ t.length = 13 := by
 have go : ∀ x : Int, ∃ t, J1d x b c = some ⟨b.s_ ++ t⟩ ∧ t.length = 13 := by
  intro x
  have e0 : IntKind.wrap .i64 (12 - ((c.Data.length : Nat) : Int)) = ((12 - c.Data.length : Nat) : Int) := by rw [wrap64 (by omega) (by omega)]; omega
  have e1 := J96 b.s_ x (k := 1) (by omega) (by omega) (by omega)
  have e2 : J3z (b.s_ ++ Jj x 1) c.Data = some (b.s_ ++ Jj x 1 ++ c.Data) := JdF (by rw [List.length_append, Jp]; omega) (by omega)
  have e3 := Jc8 (n := ((12 - c.Data.length : Nat) : Int)) (by omega) (by omega)
  have e4 : J3z (b.s_ ++ Jj x 1 ++ c.Data) (List.replicate (((12 - c.Data.length : Nat) : Int)).toNat 0) = some (b.s_ ++ Jj x 1 ++ c.Data ++ List.replicate (((12 - c.Data.length : Nat) : Int)).toNat 0) := JdF (by simp only [List.length_append, Jp]; omega) (by simp; omega)
  refine ⟨Jj x 1 ++ c.Data ++ List.replicate (((12 - c.Data.length : Nat) : Int)).toNat 0, ?_, ?_⟩
  ·unfold J1d
   rw [show (1 : Int) = ((1 : Nat) : Int) by rfl, e1, Option.bind_some, e2, Option.bind_some, e0, e3, Option.bind_some, e4, Option.bind_some]
   simp only [List.append_assoc]
  ·simp only [List.length_append, Jp, List.length_replicate]; omega
 unfold J1G
 split
 ·exact go _
 ·exact go _
structure Jph (p : T_api_Page) (r : List UInt8 × Int) : Prop where
 ok : r.2 = 0
 len : r.1.length = 256
 head : r.1.take 8 = Jj p.LSN 8
 tail : r.1.drop 248 = Jj p.LSN 8
 id : (r.1.drop 8).take 4 = Jj p.ID 4
theorem JkO (p : T_api_Page) : ∃ b, J50 p = some b ∧ (b = true → ∀ (i : Nat) (h : i < 16), (p.Cells[i]).Data.length ≤ 12) ∧ ((∀ (i : Nat) (h : i < 16), J5s p.LSN p.Cells[i]) → b = true) := by
 refine J0R (f := fun s : Int => J02 p.Cells p s) (fun s => ∃ j : Nat, s = j ∧ j ≤ 16 ∧ ∀ (i : Nat) (h : i < 16), i < j → (p.Cells[i]).Data.length ≤ 12) (fun s => (16 - s).toNat)
  (fun b => (b = true → ∀ (i : Nat) (h : i < 16), (p.Cells[i]).Data.length ≤ 12) ∧ ((∀ (i : Nat) (h : i < 16), J5s p.LSN p.Cells[i]) → b = true)) (fun s ⟨j, hj, h4, hc⟩ => ?_) 0 ⟨0, rfl, by omega, fun i h hh => by omega⟩
 subst hj
 by_cases hlt : j < 16
 ·have e1 : ((j : Nat) : Int) < 16 := by omega
  have e2 := J4F p.Cells j hlt
  have e3 := J2x (show j < 1000000 by omega)
  have bad : ¬ J5s p.LSN p.Cells[j] → (∀ (i : Nat) (h : i < 16), J5s p.LSN p.Cells[i]) → false = true := fun h1 h2 => (h1 (h2 j hlt)).elim
  by_cases h12 : (((p.Cells[j]).Data.length : Nat) : Int) > 12
  ·right
   exact ⟨false, by simp only [J02, e1, decide_true, if_true, e2, Option.bind_some, h12], fun h => (by cases h), bad fun h => by have := h.1; omega⟩
  ·have nxt : ∀ (i : Nat) (h : i < 16), i < j + 1 → (p.Cells[i]).Data.length ≤ 12 := by
    intro i hi hij
    by_cases hh : i < j
    ·exact hc i hi hh
    ·obtain rfl : i = j := by omega
     omega
   by_cases hs : (p.Cells[j]).Set = true
   ·by_cases hl : p.LSN = 0
    ·right
     exact ⟨false, by simp only [J02, e1, decide_true, if_true, e2, Option.bind_some, h12, decide_false, Bool.false_eq_true, if_false, hs, hl, beq_self_eq_true], fun h => (by cases h), bad fun h => h.2.2 hs hl⟩
    ·left
     have e4 : (p.LSN == 0) = false := by simpa using hl
     exact ⟨((j + 1 : Nat) : Int), by simp only [J02, e1, decide_true, if_true, e2, Option.bind_some, h12, decide_false, Bool.false_eq_true, if_false, hs, e4, e3], ⟨j + 1, rfl, by omega, nxt⟩, by omega⟩
   ·have hs' : (p.Cells[j]).Set = false := by simpa using hs
    by_cases hd : (p.Cells[j]).Data = []
    ·left
     exact ⟨((j + 1 : Nat) : Int), by simp only [J02, e1, decide_true, if_true, e2, Option.bind_some, h12, decide_false, Bool.false_eq_true, if_false, hs', hd, beq_self_eq_true, e3]; rfl, ⟨j + 1, rfl, by omega, nxt⟩, by omega⟩
    ·right
     have e4 : ((p.Cells[j]).Data == []) = false := by simpa using hd
     exact ⟨false, by simp only [J02, e1, decide_true, if_true, e2, Option.bind_some, h12, decide_false, Bool.false_eq_true, if_false, hs', e4], fun h => (by cases h), bad fun h => hd (h.2.1 hs')⟩
 ·right
  have e1 : ¬ ((j : Nat) : Int) < 16 := by omega
  exact ⟨true, by simp only [J02, e1, decide_false, Bool.false_eq_true, if_false, J75, Option.map_some], fun _ i h => hc i h (by omega), fun _ => rfl⟩
end Go.Am
end
section
namespace Go.Am
theorem JnY {σ ρ : Type} {f g : σ → Option (σ ⊕ ρ)} (I : σ → Prop) (h1 : ∀ s, I s → f s = g s) (h2 : ∀ s s', I s → f s = some (.inl s') → I s') {s : σ} (hs : I s) : Jv f s = Jv g s := by
 have key : ∀ (f g : σ → Option (σ ⊕ ρ)), (∀ s, I s → f s = g s) → (∀ s s', I s → f s = some (.inl s') → I s') → ∀ r s, I s → Jv f s = some r → Jv g s = some r := by
  intro f g h1 h2 r s hs h
  exact J0p (P := fun s r => I s → Jv g s = some r) (fun s r e hs => J0N ((h1 s hs) ▸ e)) (fun s s' r e ih hs => (J2v ((h1 s hs) ▸ e)).trans (ih (h2 s s' hs e))) h hs
 cases hf : Jv f s with
 | some r => exact (key f g h1 h2 r s hs hf).symm
 | none =>
  cases hg : Jv g s with
  | none => rfl
  | some r => rw [key g f (fun s hs => (h1 s hs).symm) (fun s s' hs e => h2 s s' hs ((h1 s hs).trans e)) r s hs hg] at hf; cases hf
theorem JqN {σ ρ τ ρ' : Type} {f : σ → Option (σ ⊕ ρ)} {g : τ → Option (τ ⊕ ρ')} (R : σ → τ → Prop) (K : ρ → ρ' → Prop)
  (h1 : ∀ s t s', R s t → f s = some (.inl s') → ∃ t', g t = some (.inl t') ∧ R s' t') (h2 : ∀ s t r, R s t → f s = some (.inr r) → ∃ r', g t = some (.inr r') ∧ K r r')
  {s : σ} {t : τ} {r : ρ} (hR : R s t) (h : Jv f s = some r) : ∃ r', Jv g t = some r' ∧ K r r' := by
 exact J0p (P := fun s r => ∀ t, R s t → ∃ r', Jv g t = some r' ∧ K r r')
  (fun s r e t ht => by obtain ⟨r', a, b⟩ := h2 s t r ht e; exact ⟨r', J0N a, b⟩)
  (fun s s' r e ih t ht => by obtain ⟨t', a, b⟩ := h1 s t s' ht e; obtain ⟨r', c, d⟩ := ih t' b; exact ⟨r', (J2v a).trans c, d⟩) h t hR
theorem J9N {a b : List UInt8} (h : a.length + b.length ≤ 1000000000) : J3z a b = some (a ++ b) := by
 have e : a.length + b.length ≤ 4611686018427387904 := by omega
 simp [J3z, e]
theorem Jg1 (l : List UInt8) (n : Int) {k : Nat} (h1 : 1 ≤ k) (h8 : k ≤ 8) (hl : l.length ≤ 1000000) : J0e l n (k : Int) = some (l ++ Jj n k) := by
 have e1 : ¬ ((k : Int) < 1 ∨ 8 < (k : Int)) := by omega
 have e2 : l.length + 8 ≤ 140737488355328 := by omega
 show Jfr l n k = _
 rw [Jfr, if_neg e1, if_pos e2]
 simp
theorem JmX {n : Int} (h1 : 0 ≤ n) (h2 : n < 1000000) : IntKind.wrap .u64 (IntKind.wrap .i64 n) = n := by
 rw [wrap64 (by omega) (by omega), J8A h1 (by omega)]
theorem J9P (l : List UInt8) (n : Int) {k : Nat} (h1 : 1 ≤ k) (h8 : k ≤ 8) (hl : l.length ≤ 1000000) : J1m l n (k : Int) = some (l ++ Jj n k) := by
 have c1 : ¬ (k : Int) < 1 := by omega
 have c2 : ¬ (k : Int) > 8 := by omega
 have key : ∀ (m j : Nat), j + m = k → Jv (fun s : List UInt8 × Int => J5j n k s.1 s.2) (l ++ Jj n j, (j : Int)) = some (l ++ Jj n k) := by
  intro m
  induction m with
  | zero =>
   intro j hj
   obtain rfl : j = k := by omega
   have e1 : ¬ ((j : Nat) : Int) < (j : Int) := by omega
   refine J0N ?_
   simp only [J5j, e1, decide_false, Bool.false_eq_true, if_false, J9a, Option.map_some]
  | succ m ih =>
   intro j hj
   have e1 : ((j : Nat) : Int) < (k : Int) := by omega
   have e2 : IntKind.wrap .u64 (IntKind.wrap .i64 (8 * (j : Int))) = 8 * (j : Int) := JmX (by omega) (by omega)
   have e3 : J8b .u64 (IntKind.wrap .u64 n) (8 * (j : Int)) = some ((IntKind.wrap .u64 n).fdiv (2 ^ (8 * j))) := by
    simp only [J8b]
    rw [if_neg (by omega)]
    have : min (8 * (j : Int)).toNat IntKind.u64.bits = 8 * j := by
     rw [show (8 * (j : Int)).toNat = 8 * j by omega]
     exact Nat.min_eq_left (by show 8 * j ≤ 64; omega)
    rw [this]
   have e4 : toStr [IntKind.wrap .u8 ((IntKind.wrap .u64 n).fdiv (2 ^ (8 * j)))] = [UInt8.ofNat (J5U n j).toNat] := rfl
   have e5 : J3z (l ++ Jj n j) [UInt8.ofNat (J5U n j).toNat] = some (l ++ Jj n (j + 1)) := by
    rw [J9N (by rw [List.length_append, Jp]; simp; omega), Jkn, List.append_assoc]
   refine (J2v (s' := (l ++ Jj n (j + 1), ((j + 1 : Nat) : Int))) ?_).trans (ih (j + 1) (by omega))
   simp only [J5j, e1, decide_true, if_true, e2, e3, Option.bind_some, e4, e5, J2x (show j < 1000000 by omega)]
 unfold J1m
 simp only [c1, c2, decide_false, Bool.false_eq_true, if_false]
 have h0 := key k 0 (by omega)
 have e : Jj n 0 = [] := rfl
 rw [e, List.append_nil] at h0
 exact h0
theorem Jgf (s : List UInt8) (at_ : Int) {k : Int} (h1 : 1 ≤ k) (h8 : k ≤ 8) : J1n s at_ k = JM s at_ k := by
 have key : Jbj s at_ k (0, 0) = Jb9 s at_ k (0, 0) := by
  refine JnY (fun q : Int × Int => 0 ≤ q.2 ∧ q.2 ≤ k) (fun q ⟨h0, h2⟩ => ?_) (fun q q' ⟨h0, h2⟩ e => ?_) ⟨by simp, by simp; omega⟩
  ·have e2 : IntKind.wrap .u64 (IntKind.wrap .i64 (8 * q.2)) = 8 * q.2 := JmX (by omega) (by omega)
   have e3 : IntKind.wrap .i64 (8 * q.2) = 8 * q.2 := wrap64 (by omega) (by omega)
   have e4 : IntKind.wrap .u64 (8 * q.2) = 8 * q.2 := J8A (by omega) (by omega)
   simp only [J6q, J05, e3, e4]
   rfl
  ·simp only [J6q] at e
   split at e
   ·rename_i hlt
    simp only [decide_eq_true_eq] at hlt
    simp only [Option.bind_eq_some_iff, Option.some.injEq, Sum.inl.injEq] at e
    obtain ⟨_, _, _, _, rfl⟩ := e
    have e3 : IntKind.wrap .i64 (q.2 + 1) = q.2 + 1 := wrap64 (by omega) (by omega)
    simp only [e3]
    omega
   ·simp [J9g] at e
 unfold J1n JM
 rw [key]
def P32 : Nat := 2197175160
def gb (c : Nat) : Nat := if c % 2 = 1 then c / 2 ^^^ P32 else c / 2
def gN : Nat → Nat → Nat
 | 0, c => c
 | j + 1, c => gN j (gb c)
def sl (b : Nat) : Nat := if b = 1 then P32 else 0
theorem JiU (c : Nat) : gb c = c / 2 ^^^ sl (c % 2) := by
 unfold gb sl
 split
 ·rfl
 ·rw [Nat.xor_zero]
theorem JqA (x y : Nat) : gb (x ^^^ y) = gb x ^^^ gb y := by
 have e1 : (x ^^^ y) / 2 = x / 2 ^^^ y / 2 := by have := @Nat.xor_div_two_pow x y 1; simpa using this
 have e2 : (x ^^^ y) % 2 = x % 2 ^^^ y % 2 := by have := @Nat.xor_mod_two_pow x y 1; simpa using this
 simp only [JiU, e1, e2]
 have e3 : sl (x % 2 ^^^ y % 2) = sl (x % 2) ^^^ sl (y % 2) := by
  rcases Nat.mod_two_eq_zero_or_one x with h | h <;> rcases Nat.mod_two_eq_zero_or_one y with h' | h' <;> rw [h, h'] <;> decide
 rw [e3]
 ac_rfl
theorem Jj1 : ∀ (j x y : Nat), gN j (x ^^^ y) = gN j x ^^^ gN j y
 | 0, _, _ => rfl
 | j + 1, x, y => by simp only [gN]; rw [JqA, Jj1 j]
theorem Jr6 : ∀ (i j x : Nat), gN (i + j) x = gN j (gN i x)
 | 0, j, x => by simp [gN]
 | i + 1, j, x => by rw [Nat.succ_add]; simp only [gN]; exact Jr6 i j _
theorem JoU (c : Nat) : gN 4 c = c / 16 ^^^ (sl (c / 8 % 2) ^^^ gN 1 (sl (c / 4 % 2)) ^^^ gN 2 (sl (c / 2 % 2)) ^^^ gN 3 (sl (c % 2))) := by
 have s1 : gN 4 c = gN 3 (c / 2) ^^^ gN 3 (sl (c % 2)) := by
  rw [← Jj1, ← JiU]; rfl
 have s2 : gN 3 (c / 2) = gN 2 (c / 4) ^^^ gN 2 (sl (c / 2 % 2)) := by
  rw [← Jj1, show c / 4 = c / 2 / 2 by omega, ← JiU]; rfl
 have s3 : gN 2 (c / 4) = gN 1 (c / 8) ^^^ gN 1 (sl (c / 4 % 2)) := by
  rw [← Jj1, show c / 8 = c / 4 / 2 by omega, ← JiU]; rfl
 have s4 : gN 1 (c / 8) = c / 16 ^^^ sl (c / 8 % 2) := by
  rw [show c / 16 = c / 8 / 2 by omega, ← JiU]; rfl
 rw [s1, s2, s3, s4]
 ac_rfl
theorem JrI (c : Nat) : gN 4 c = c / 16 ^^^ gN 4 (c % 16) := by
 rw [JoU c, JoU (c % 16)]
 have a0 : c % 16 / 16 = 0 := by omega
 have a1 : c % 16 / 8 % 2 = c / 8 % 2 := by omega
 have a2 : c % 16 / 4 % 2 = c / 4 % 2 := by omega
 have a3 : c % 16 / 2 % 2 = c / 2 % 2 := by omega
 have a4 : c % 16 % 2 = c % 2 := by omega
 rw [a0, a1, a2, a3, a4, Nat.zero_xor]
theorem Jnb : P32 < 2 ^ 32 := by decide
theorem Jja {c : Nat} (h : c < 2 ^ 32) : gb c < 2 ^ 32 := by
 unfold gb
 split
 ·exact Nat.xor_lt_two_pow (by omega) Jnb
 ·omega
theorem J9Y : ∀ {j c : Nat}, c < 2 ^ 32 → gN j c < 2 ^ 32
 | 0, _, h => h
 | j + 1, _, h => J9Y (j := j) (Jja h)
theorem J9I (n : Nat) (h : n < 2 ^ 32) : IntKind.wrap .u32 (n : Int) = (n : Int) := by
 rw [show IntKind.wrap .u32 (n : Int) = (n : Int) % 4294967296 from rfl]; omega
theorem Jke {n : Nat} (h : n < 2 ^ 32) : (BitVec.ofInt 32 (n : Int)).toNat = n := by
 rw [BitVec.toNat_ofInt]; omega
theorem Jc5 {x y : Nat} (hx : x < 2 ^ 32) (hy : y < 2 ^ 32) : J4E .u32 (x : Int) (y : Int) = ((x ^^^ y : Nat) : Int) := by
 show IntKind.wrap .u32 (((BitVec.ofInt 32 (x : Int) ^^^ BitVec.ofInt 32 (y : Int)).toNat : Nat) : Int) = _
 rw [BitVec.toNat_xor, Jke hx, Jke hy, J9I _ (Nat.xor_lt_two_pow hx hy)]
theorem Jni {x : Nat} (hx : x < 2 ^ 32) (k : Nat) (hk : k ≤ 20) : J4L .u32 (x : Int) ((2 ^ k - 1 : Nat) : Int) = ((x % 2 ^ k : Nat) : Int) := by
 show IntKind.wrap .u32 (((BitVec.ofInt 32 (x : Int) &&& BitVec.ofInt 32 ((2 ^ k - 1 : Nat) : Int)).toNat : Nat) : Int) = _
 have h2 : 2 ^ k - 1 < 2 ^ 32 := by
  have : (2 : Nat) ^ k ≤ 2 ^ 20 := Nat.pow_le_pow_right (by omega) hk
  omega
 rw [BitVec.toNat_and, Jke hx, Jke h2, Nat.and_two_pow_sub_one_eq_mod, J9I _ (Nat.lt_of_le_of_lt (Nat.mod_le _ _) hx)]
theorem JuV {x : Nat} (hx : x < 2 ^ 32) : J4L .u32 (x : Int) 1 = ((x % 2 : Nat) : Int) := Jni hx 1 (by omega)
theorem JvG {x : Nat} (hx : x < 2 ^ 32) : J4L .u32 (x : Int) 15 = ((x % 16 : Nat) : Int) := Jni hx 4 (by omega)
theorem JuS (x : Nat) : J8b .u32 (x : Int) 1 = some ((x / 2 : Nat) : Int) := by
 show some ((x : Int).fdiv 2) = _
 rw [Int.fdiv_eq_ediv_of_nonneg _ (by omega)]; simp
theorem JwM (x : Nat) : J8b .u32 (x : Int) 4 = some ((x / 16 : Nat) : Int) := by
 show some ((x : Int).fdiv 16) = _
 rw [Int.fdiv_eq_ediv_of_nonneg _ (by omega)]; simp
def JbR : List UInt8 → Nat → Nat
 | [], c => c
 | b :: r, c => JbR r (gN 8 (c ^^^ b.toNat))
theorem J4a (b : UInt8) : b.toNat < 2 ^ 32 := by have := UInt8.toNat_lt b; omega
theorem JoA : ∀ {l : List UInt8} {c : Nat}, c < 2 ^ 32 → JbR l c < 2 ^ 32
 | [], _, h => h
 | b :: r, _, h => JoA (l := r) (J9Y (Nat.xor_lt_two_pow h (J4a b)))
def crc (l : List UInt8) : Nat := JbR l 4294967295 ^^^ 4294967295
theorem JaU (l : List UInt8) : crc l < 2 ^ 32 := Nat.xor_lt_two_pow (JoA (by decide)) (by decide)
theorem JmV {x : Nat} (hx : x < 2 ^ 32) : JpI .u32 (x : Int) = ((x ^^^ 4294967295 : Nat) : Int) := by
 show IntKind.wrap .u32 (((BitVec.ofInt 32 4294967295 ^^^ BitVec.ofInt 32 (x : Int)).toNat : Nat) : Int) = _
 rw [BitVec.toNat_xor, Jke hx, show (4294967295 : Int) = ((4294967295 : Nat) : Int) by rfl, Jke (by decide), Nat.xor_comm, J9I _ (Nat.xor_lt_two_pow hx (by decide))]
theorem Jk1 (l : List UInt8) (hl : l.length ≤ 100000) : J5B l = some ((crc l : Nat) : Int) := by
 have inner : ∀ (x : Nat) (m k c : Nat), c < 2 ^ 32 → x < 200000 → k + m = 8 → Jv (fun s : Int × Int => J5i l (x : Int) s.1 s.2) ((c : Int), (k : Int)) = some (.inl (((gN m c : Nat) : Int), ((x + 1 : Nat) : Int))) := by
  intro x m
  induction m with
  | zero =>
   intro k c hc hx hk
   obtain rfl : k = 8 := by omega
   refine J0N ?_
   have e1 : ¬ (((8 : Nat) : Nat) : Int) < 8 := by omega
   simp only [J5i, e1, decide_false, Bool.false_eq_true, if_false, J9m, Option.map_some, J2x (show x < 1000000 by omega), gN]
  | succ m ih =>
   intro k c hc hx hk
   have e1 : ((k : Nat) : Int) < 8 := by omega
   refine (J2v (s' := (((gb c : Nat) : Int), ((k + 1 : Nat) : Int))) ?_).trans (ih (k + 1) (gb c) (Jja hc) hx (by omega))
   have e2 := JuV hc
   simp only [J5i, e1, decide_true, if_true, e2, JuS, Option.bind_some, J7E, J2x (show k < 1000000 by omega)]
   unfold gb
   by_cases hb : c % 2 = 1
   ·simp only [hb, if_true, Int.natCast_one, beq_self_eq_true]
    rw [show (2197175160 : Int) = ((P32 : Nat) : Int) by rfl, Jc5 (by omega) Jnb]
   ·have e3 : (((c % 2 : Nat) : Int) == 1) = false := by simp; omega
    simp only [hb, if_false, e3, Bool.false_eq_true]
 have outer : ∀ (m j c : Nat), c < 2 ^ 32 → j + m = l.length → Jv (fun s : Int × Int => J59 l s.1 s.2) ((c : Int), (j : Int)) = some (((JbR (l.drop j) c ^^^ 4294967295 : Nat) : Int)) := by
  intro m
  induction m with
  | zero =>
   intro j c hc hj
   obtain rfl : j = l.length := by omega
   refine J0N ?_
   have e1 : ¬ ((l.length : Nat) : Int) < ((l.length : Nat) : Int) := by omega
   simp only [J59, e1, decide_false, Bool.false_eq_true, if_false, J9i, Option.map_some, JmV hc, List.drop_length, JbR]
  | succ m ih =>
   intro j c hc hj
   have hlt : j < l.length := by omega
   have e1 : ((j : Nat) : Int) < ((l.length : Nat) : Int) := by omega
   have hx := Nat.xor_lt_two_pow hc (J4a l[j])
   refine (J2v (s' := (((gN 8 (c ^^^ (l[j]).toNat) : Nat) : Int), ((j + 1 : Nat) : Int))) ?_).trans ((ih (j + 1) _ (J9Y hx) (by omega)).trans ?_)
   ·simp only [J59, e1, decide_true, if_true, J81 hlt, Option.bind_some]
    rw [J9I _ (J4a _), Jc5 hc (J4a _)]
    exact inner j 8 0 _ hx (by omega) (by omega)
   ·rw [List.drop_eq_getElem_cons hlt]
    rfl
 exact outer l.length 0 4294967295 (by decide) (by omega)
theorem Jir : ∃ v, J2G = some v ∧ ∀ (i : Nat) (h : i < 16), v[i] = ((gN 4 i : Nat) : Int) := by
 have inner : ∀ (k : Nat) (b0 b1 : Vector Int 16), k < 16 → ∀ (m j c : Nat), c < 2 ^ 32 → j + m = 4 → Jv (fun s : Int × Int => J0f k k b0 b1 s.1 s.2) ((c : Int), (j : Int)) = some (.inl (((k + 1 : Nat) : Int), J9G b1 k ((gN m c : Nat) : Int))) := by
  intro k b0 b1 hk m
  induction m with
  | zero =>
   intro j c hc hj
   obtain rfl : j = 4 := by omega
   refine J0N ?_
   have e1 : ¬ (((4 : Nat) : Nat) : Int) < 4 := by omega
   simp only [J0f, e1, decide_false, Bool.false_eq_true, if_false, J3Q, J43, J8J hk, J4F _ k hk, Option.bind_some, Option.map_some, J2x (show k < 1000000 by omega), gN]
  | succ m ih =>
   intro j c hc hj
   have e1 : ((j : Nat) : Int) < 4 := by omega
   refine (J2v (s' := (((gb c : Nat) : Int), ((j + 1 : Nat) : Int))) ?_).trans (ih (j + 1) (gb c) (Jja hc) (by omega))
   have e2 := JuV hc
   simp only [J0f, e1, decide_true, if_true, e2, JuS, Option.bind_some, J2x (show j < 1000000 by omega)]
   unfold gb
   by_cases hb : c % 2 = 1
   ·simp only [hb, if_true, Int.natCast_one, beq_self_eq_true]
    rw [show (2197175160 : Int) = ((P32 : Nat) : Int) by rfl, Jc5 (by omega) Jnb]
   ·have e3 : (((c % 2 : Nat) : Int) == 1) = false := by simp; omega
    simp only [hb, if_false, e3, Bool.false_eq_true]
 refine J0R (f := fun s : Int × Vector Int 16 => J0K (Vector.replicate 16 0) s.1 s.2) (fun s => ∃ j : Nat, s.1 = j ∧ j ≤ 16 ∧ ∀ (i : Nat) (h : i < 16), i < j → s.2[i] = ((gN 4 i : Nat) : Int)) (fun s => (16 - s.1).toNat) (fun v => ∀ (i : Nat) (h : i < 16), v[i] = ((gN 4 i : Nat) : Int)) (fun s ⟨j, hj, h4, hv⟩ => ?_) (0, Vector.replicate 16 0) ⟨0, rfl, by omega, fun i h hh => by omega⟩
 obtain ⟨j', b1⟩ := s
 simp only at hj hv
 subst hj
 by_cases hlt : j < 16
 ·left
  have e1 : ((j : Nat) : Int) < 16 := by omega
  have ho := inner j (Vector.replicate 16 0) b1 hlt 4 0 j (by omega) (by omega)
  refine ⟨⟨((j + 1 : Nat) : Int), J9G b1 j ((gN 4 j : Nat) : Int)⟩, by simp only [J0K, e1, decide_true, if_true, J9I j (by omega)]; exact ho, ⟨j + 1, rfl, by omega, fun i h hh => ?_⟩, by simp; omega⟩
  simp only [J9G, Int.toNat_natCast, Vector.getElem_setIfInBounds]
  by_cases hij : j = i
  ·subst hij; simp
  ·rw [if_neg hij]; exact hv i h (by omega)
 ·right
  obtain rfl : j = 16 := by omega
  have e1 : ¬ (((16 : Nat) : Nat) : Int) < 16 := by omega
  exact ⟨b1, by simp only [J0K, e1, decide_false, Bool.false_eq_true, if_false, J3U, Option.map_some], fun i h => hv i h h⟩
theorem JdZ (l : List UInt8) (hl : l.length ≤ 100000) : J1W l = some ((crc l : Nat) : Int) := by
 obtain ⟨v, hv, ht⟩ := Jir
 have outer : ∀ (m j c : Nat), c < 2 ^ 32 → j + m = l.length → Jv (fun s : Int × Int => J2I l (l.length : Int) v s.1 s.2) ((c : Int), (j : Int)) = some (((JbR (l.drop j) c ^^^ 4294967295 : Nat) : Int)) := by
  intro m
  induction m with
  | zero =>
   intro j c hc hj
   obtain rfl : j = l.length := by omega
   refine J0N ?_
   have e1 : ¬ ((l.length : Nat) : Int) < ((l.length : Nat) : Int) := by omega
   simp only [J2I, e1, decide_false, Bool.false_eq_true, if_false, J7K, Option.map_some, JmV hc, List.drop_length, JbR]
  | succ m ih =>
   intro j c hc hj
   have hlt : j < l.length := by omega
   have e1 : ((j : Nat) : Int) < ((l.length : Nat) : Int) := by omega
   have hx := Nat.xor_lt_two_pow hc (J4a l[j])
   have step : ∀ x : Nat, x < 2 ^ 32 → inb 16 (J4L .u32 (x : Int) 15) = some () ∧ J85 v (J4L .u32 (x : Int) 15) = some ((gN 4 (x % 16) : Nat) : Int) ∧ J4E .u32 ((x / 16 : Nat) : Int) ((gN 4 (x % 16) : Nat) : Int) = ((gN 4 x : Nat) : Int) := by
    intro x hx
    have h16 : x % 16 < 16 := by omega
    rw [JvG hx]
    refine ⟨J8J h16, by rw [J4F _ _ h16, ht _ h16], ?_⟩
    rw [Jc5 (by omega) (J9Y (by omega)), ← JrI]
   refine (J2v (s' := (((gN 8 (c ^^^ (l[j]).toNat) : Nat) : Int), ((j + 1 : Nat) : Int))) ?_).trans ((ih (j + 1) _ (J9Y hx) (by omega)).trans ?_)
   ·obtain ⟨a1, a2, a3⟩ := step _ hx
    obtain ⟨b1, b2, b3⟩ := step (gN 4 (c ^^^ (l[j]).toNat)) (J9Y hx)
    simp only [J2I, e1, decide_true, if_true, J81 hlt, Option.bind_some, J9I _ (J4a l[j]), Jc5 hc (J4a l[j]), JwM, a1, a2, a3, b1, b2, b3, J2x (show j < 1000000 by omega)]
    rw [← Jr6 4 4]
   ·rw [List.drop_eq_getElem_cons hlt]
    rfl
 unfold J1W
 rw [hv]
 exact outer l.length 0 4294967295 (by decide) (by omega)
end Go.Am
end
section
namespace Go.Am
theorem JnP (p : T_api_Page) (hc : ∀ (i : Nat) (h : i < 16), (p.Cells[i]).Data.length ≤ 12) (h0 : List UInt8) (hh : h0 = Jj p.LSN 8 ++ Jj p.ID 4) :
  ∃ r, Jad p.Cells p (0, ⟨h0⟩) = some r ∧ Jph p r := by
 refine J0R (f := fun s : Int × T_page_builder => J1V p.Cells p s.1 s.2) (fun s => ∃ (j : Nat) (t : List UInt8), s.1 = j ∧ j ≤ 16 ∧ s.2.s_ = Jj p.LSN 8 ++ Jj p.ID 4 ++ t ∧ t.length = 13 * j) (fun s => (16 - s.1).toNat)
  (Jph p) (fun s ⟨j, t, hj, h4, ht, hl⟩ => ?_) (0, ⟨h0⟩) ⟨0, [], rfl, by omega, by simp [hh], by simp⟩
 obtain ⟨j', b⟩ := s
 simp only at hj ht
 subst hj
 have hbl : b.s_.length = 12 + 13 * j := by rw [ht]; simp only [List.length_append, Jp, hl]
 by_cases hlt : j < 16
 ·left
  have e1 : ((j : Nat) : Int) < 16 := by omega
  obtain ⟨u, e2, hu⟩ := JpE b p.Cells[j] (hc j hlt) (by omega)
  exact ⟨⟨((j + 1 : Nat) : Int), ⟨b.s_ ++ u⟩⟩, by simp only [J1V, e1, decide_true, if_true, J4F _ j hlt, Option.bind_some, e2, J2x (show j < 1000000 by omega)], ⟨j + 1, t ++ u, rfl, by omega, by simp only [ht, List.append_assoc], by simp only [List.length_append, hl, hu]; omega⟩, by simp; omega⟩
 ·right
  obtain rfl : j = 16 := by omega
  have e1 : ¬ (((16 : Nat) : Nat) : Int) < 16 := by omega
  have a0 : IntKind.wrap .i64 (244 - ((b.s_.length : Nat) : Int)) = 24 := by rw [hbl, wrap64 (by omega) (by omega)]; omega
  have a1 := Jc8 (n := 24) (by omega) (by omega)
  have a2 : J3z b.s_ (List.replicate (24 : Int).toNat 0) = some (b.s_ ++ List.replicate (24 : Int).toNat 0) := JdF (by omega) (by simp)
  obtain ⟨r, a3⟩ := Jmx (b.s_ ++ List.replicate (24 : Int).toNat 0) (by simp [hbl])
  have a4 := J96 (b.s_ ++ List.replicate (24 : Int).toNat 0) (IntKind.wrap .i64 r) (k := 4) (by omega) (by omega) (by simp [hbl])
  have a5 := J96 (b.s_ ++ List.replicate (24 : Int).toNat 0 ++ Jj (IntKind.wrap .i64 r) 4) p.LSN (k := 8) (by omega) (by omega) (by simp [hbl, Jp])
  refine ⟨(b.s_ ++ List.replicate (24 : Int).toNat 0 ++ Jj (IntKind.wrap .i64 r) 4 ++ Jj p.LSN 8, 0), ?_, ?_⟩
  ·simp only [J1V, e1, decide_false, Bool.false_eq_true, if_false, J6A, a0, a1, a2, a3, Option.bind_some]
   rw [show (4 : Int) = ((4 : Nat) : Int) by rfl, a4, Option.bind_some, show (8 : Int) = ((8 : Nat) : Int) by rfl, a5]
   rfl
  ·refine ⟨rfl, by simp [hbl, Jp], ?_, ?_, ?_⟩
   ·rw [ht]
    simp only [List.append_assoc]
    rw [List.take_append_of_le_length (by rw [Jp]; omega), List.take_of_length_le (by rw [Jp]; omega)]
   ·rw [List.drop_append, List.drop_of_length_le (by simp [hbl, Jp]), List.nil_append]
    simp [hbl, Jp]
   ·rw [ht]
    simp only [List.append_assoc]
    rw [List.drop_append, List.drop_of_length_le (by rw [Jp]; omega), List.nil_append, Jp, Nat.sub_self, List.drop_zero, List.take_append_of_le_length (by rw [Jp]; omega), List.take_of_length_le (by rw [Jp]; omega)]
theorem Jjw (p : T_api_Page) : ∃ r, J0V p = some r ∧ (J5Q p → Jph p r) := by
 have hp : ∃ b, J1t p = some b ∧ (J5Q p → b = true) := by
  unfold J1t J1y
  by_cases h1 : p.ID ≥ 0
  ·by_cases h2 : p.ID < 64
   ·by_cases h3 : p.LSN ≥ 0
    ·exact ⟨decide (p.LSN ≤ 1099511627776), by simp [h1, h2, h3], fun h => by simpa using h.lsn1⟩
    ·exact ⟨false, by simp [h1, h2, h3], fun h => (h3 h.lsn0).elim⟩
   ·exact ⟨false, by simp [h1, h2], fun h => (h2 h.id1).elim⟩
  ·exact ⟨false, by simp [h1], fun h => (h1 h.id0).elim⟩
 obtain ⟨b, e1, hb⟩ := hp
 obtain ⟨d, e2, hd, hd2⟩ := JkO p
 unfold J0V
 simp only [e1, e2, Option.bind_some]
 cases b with
 | false => exact ⟨_, rfl, fun h => by cases hb h⟩
 | true =>
  cases d with
  | false => exact ⟨_, rfl, fun h => by cases hd2 h.cells⟩
  | true =>
   have a1 := J96 [] p.LSN (k := 8) (by omega) (by omega) (by simp)
   have a2 := J96 ([] ++ Jj p.LSN 8) p.ID (k := 4) (by omega) (by omega) (by simp [Jp])
   obtain ⟨r, hr, hq⟩ := JnP p (hd rfl) ([] ++ Jj p.LSN 8 ++ Jj p.ID 4) (by simp)
   refine ⟨r, ?_, fun _ => hq⟩
   simp only [if_true]
   rw [show (8 : Int) = ((8 : Nat) : Int) by rfl, a1, Option.bind_some, show (4 : Int) = ((4 : Nat) : Int) by rfl, a2, Option.bind_some]
   exact hr
theorem JtD (s : List UInt8) (hs : s.length ≤ 1000) {at_ k : Nat} (h1 : 1 ≤ k) (h8 : k ≤ 8) (ha : at_ ≤ 1000) : ∃ r, JM s at_ k = some r := by
 have c1 : ¬ ((k : Int) < 1) := by omega
 have c2 : ¬ ((k : Int) > 8) := by omega
 have c3 : ¬ ((at_ : Int) < 0) := by omega
 unfold JM
 simp only [c1, c2, c3, decide_false, Bool.false_eq_true, if_false]
 by_cases c4 : (at_ : Int) > (s.length : Int)
 ·exact ⟨(0, 5), by simp only [c4, decide_true, if_true]⟩
 ·have e0 : IntKind.wrap .i64 ((s.length : Int) - at_) = (s.length : Int) - at_ := wrap64 (by omega) (by omega)
  simp only [c4, decide_false, Bool.false_eq_true, if_false, e0]
  by_cases c5 : (s.length : Int) - at_ < k
  ·exact ⟨(0, 5), by simp only [c5, decide_true, if_true]⟩
  ·simp only [c5, decide_false, Bool.false_eq_true, if_false]
   obtain ⟨r, hr, _⟩ := J0R (f := fun q : Int × Int => J05 s at_ k q.1 q.2) (fun q => ∃ j : Nat, q.2 = j ∧ j ≤ k) (fun q => (k - q.2).toNat) (fun _ => True) (fun q ⟨j, hj, h4⟩ => by
    obtain ⟨x, j'⟩ := q
    simp only at hj
    subst hj
    by_cases hlt : j < k
    ·left
     have e1 : ((j : Nat) : Int) < (k : Int) := by omega
     have e2 : IntKind.wrap .i64 ((at_ : Int) + (j : Int)) = ((at_ + j : Nat) : Int) := by rw [wrap64 (by omega) (by omega)]; omega
     have e3 : IntKind.wrap .i64 (8 * (j : Int)) = ((8 * j : Nat) : Int) := by rw [wrap64 (by omega) (by omega)]; omega
     have e4 : ∀ z : Int, ∃ y, Jd3 .u64 z ((8 * j : Nat) : Int) = some y := fun z => ⟨_, if_neg (by omega)⟩
     obtain ⟨y, e5⟩ := e4 (IntKind.wrap .u64 (((s[at_ + j]).toNat : Nat) : Int))
     exact ⟨⟨_, ((j + 1 : Nat) : Int)⟩, by simp only [J05, e1, decide_true, if_true, e2, J81 (show at_ + j < s.length by omega), Option.bind_some, e3, e5, J2x (show j < 1000000 by omega)]; rfl, ⟨j + 1, rfl, by omega⟩, by simp; omega⟩
    ·right
     have e1 : ¬ ((j : Nat) : Int) < (k : Int) := by omega
     exact ⟨_, by simp only [J05, e1, decide_false, Bool.false_eq_true, if_false, J5d, Option.map_some]; rfl, trivial⟩) (0, 0) ⟨0, rfl, by omega⟩
   exact ⟨r, hr⟩
theorem Ji5 (s : List UInt8) (hs : s.length ≤ 1000) {at_ : Nat} (ha : at_ < s.length) : JM s at_ 1 = some (((s[at_]).toNat : Int), 0) := by
 have c3 : ¬ ((at_ : Int) < 0) := by omega
 have c4 : ¬ ((at_ : Int) > (s.length : Int)) := by omega
 have e0 : IntKind.wrap .i64 ((s.length : Int) - at_) = (s.length : Int) - at_ := wrap64 (by omega) (by omega)
 have c5 : ¬ ((s.length : Int) - at_ < 1) := by omega
 unfold JM
 simp only [show ¬ ((1 : Int) < 1) by omega, show ¬ ((1 : Int) > 8) by omega, c3, c4, e0, c5, decide_false, Bool.false_eq_true, if_false]
 have hu : (s[at_]).toNat < 256 := UInt8.toNat_lt _
 have w0 : IntKind.wrap .u64 (((s[at_]).toNat : Nat) : Int) = (((s[at_]).toNat : Nat) : Int) := J8A (by omega) (by omega)
 have e2 : IntKind.wrap .i64 ((at_ : Int) + 0) = (at_ : Int) := by rw [wrap64 (by omega) (by omega)]; omega
 have e3 : Jd3 .u64 (((s[at_]).toNat : Nat) : Int) (IntKind.wrap .i64 (8 * 0)) = some (((s[at_]).toNat : Nat) : Int) := by
  rw [show IntKind.wrap .i64 (8 * 0) = 0 by rfl]
  show some (IntKind.wrap .u64 ((((s[at_]).toNat : Nat) : Int) * 2 ^ 0)) = _
  rw [show ((((s[at_]).toNat : Nat) : Int) * 2 ^ 0) = (((s[at_]).toNat : Nat) : Int) by omega, w0]
 have e4 : orI .u64 0 (((s[at_]).toNat : Nat) : Int) = (((s[at_]).toNat : Nat) : Int) := by
  have h2 : (BitVec.ofInt 64 0 ||| BitVec.ofInt 64 (((s[at_]).toNat : Nat) : Int)).toNat = (s[at_]).toNat := by
   rw [show BitVec.ofInt 64 0 = 0#64 by rfl, BitVec.zero_or, BitVec.toNat_ofInt]
   omega
  show IntKind.wrap .u64 (((BitVec.ofInt 64 0 ||| BitVec.ofInt 64 (((s[at_]).toNat : Nat) : Int)).toNat : Nat) : Int) = _
  rw [h2, w0]
 have s0 : J05 s at_ 1 0 0 = some (.inl ((((s[at_]).toNat : Nat) : Int), 1)) := by
  simp only [J05, show ((0 : Int) < 1) by omega, decide_true, if_true, e2, J81 ha, Option.bind_some, w0, e3, e4, show IntKind.wrap .i64 ((0 : Int) + 1) = 1 by rfl]
 have s1 : J05 s at_ 1 (((s[at_]).toNat : Nat) : Int) 1 = some (.inr ((((s[at_]).toNat : Nat) : Int), 0)) := by
  simp only [J05, show ¬ ((1 : Int) < 1) by omega, decide_false, Bool.false_eq_true, if_false, J5d, Option.map_some, wrap64 (show -9223372036854775808 ≤ (((s[at_]).toNat : Nat) : Int) by omega) (by omega)]
 exact (J2v (f := fun q : Int × Int => J05 s at_ 1 q.1 q.2) (s := (0, 0)) s0).trans (J0N s1)
theorem Ja0 (s : List UInt8) (hs : s.length ≤ 1000) {at_ k : Nat} (h1 : 1 ≤ k) (h8 : k ≤ 8) (ha : at_ ≤ 1000) : ∃ r, JO s at_ k = some r := by
 obtain ⟨r, hr⟩ := JtD s hs h1 h8 ha
 exact ⟨r.1, by simp [JO, hr]⟩
theorem Jqr {α : Type} (l : List α) {a b : Nat} (h1 : a ≤ b) (h2 : b ≤ l.length) : J1i l (some (a : Int)) (some (b : Int)) = some ((l.drop a).take (b - a)) := by
 have e1 : (0 : Int) ≤ b ∧ (b : Int) ≤ l.length := by omega
 have e2 : (0 : Int) ≤ a ∧ (a : Int) ≤ b := by omega
 simp only [J1i, Jfv, Jd7, e1, e2, and_self, if_true, Int.toNat_natCast]
theorem Jdx {α : Type} (l : List α) {b : Nat} (h2 : b ≤ l.length) : J1i l none (some (b : Int)) = some (l.take b) := by
 have e1 : (0 : Int) ≤ b ∧ (b : Int) ≤ l.length := by omega
 simp only [J1i, Jfv, Jd7, e1, and_self, if_true, Int.toNat_natCast, List.drop_zero, Nat.sub_zero]
theorem Jc0 {α : Type} (l : List α) {a : Nat} (h2 : a ≤ l.length) : J1i l (some (a : Int)) none = some (l.drop a) := by
 have e1 : (0 : Int) ≤ a ∧ (a : Int) ≤ l.length := by omega
 simp only [J1i, Jfv, Jd7, e1, and_self, if_true, Int.toNat_natCast]
 rw [List.take_of_length_le (by simp)]
theorem Jmi (s : List UInt8) (hs : s.length = 256) : ∃ r, J5y s = some r := by
 obtain ⟨r1, a1⟩ := Ja0 s (by omega) (at_ := 8) (k := 4) (by omega) (by omega) (by omega)
 obtain ⟨r2, a2⟩ := Ja0 s (by omega) (at_ := 0) (k := 8) (by omega) (by omega) (by omega)
 have a1' : JO s 8 4 = some r1 := a1
 have a2' : JO s 0 8 = some r2 := a2
 unfold J5y
 simp only [a1', a2', Option.bind_some]
 obtain ⟨r, hr, _⟩ := J0R (f := fun q : Int × T_api_Page => J19 s ⟨0, 0, Vector.replicate 16 ⟨false, []⟩⟩ q.1 q.2) (fun q => ∃ j : Nat, q.1 = j ∧ j ≤ 16) (fun q => (16 - q.1).toNat) (fun _ => True) (fun q ⟨j, hj, h4⟩ => by
  obtain ⟨j', p⟩ := q
  simp only at hj
  subst hj
  by_cases hlt : j < 16
  ·have e1 : ((j : Nat) : Int) < 16 := by omega
   have e2 : IntKind.wrap .i64 (12 + IntKind.wrap .i64 ((j : Int) * 13)) = ((12 + 13 * j : Nat) : Int) := by
    rw [wrap64 (n := (j : Int) * 13) (by omega) (by omega), wrap64 (by omega) (by omega)]; omega
   have hu : (s[12 + 13 * j]'(by omega)).toNat < 256 := UInt8.toNat_lt _
   have e3 : JO s ((12 + 13 * j : Nat) : Int) 1 = some (((s[12 + 13 * j]'(by omega)).toNat : Nat) : Int) := by
    simp only [JO, Ji5 s (by omega) (show 12 + 13 * j < s.length by omega), Option.bind_some]
   generalize hv : (s[12 + 13 * j]'(by omega)).toNat = v at e3 hu
   by_cases h255 : v = 255
   ·left
    subst h255
    exact ⟨⟨((j + 1 : Nat) : Int), p⟩, by simp only [J19, e1, decide_true, if_true, e2, e3, Option.bind_some, J2x (show j < 1000000 by omega)]; rfl, ⟨j + 1, rfl, by omega⟩, by simp; omega⟩
   ·have e4 : (((v : Nat) : Int) == 255) = false := by simp; omega
    by_cases h12 : ((v : Nat) : Int) > 12
    ·right
     exact ⟨_, by simp only [J19, e1, decide_true, if_true, e2, e3, Option.bind_some, e4, Bool.false_eq_true, if_false, h12]; rfl, trivial⟩
    ·left
     have e5 : IntKind.wrap .i64 (((12 + 13 * j : Nat) : Int) + 1) = ((13 + 13 * j : Nat) : Int) := by rw [wrap64 (by omega) (by omega)]; omega
     have e6 : IntKind.wrap .i64 (((13 + 13 * j : Nat) : Int) + ((v : Nat) : Int)) = ((13 + 13 * j + v : Nat) : Int) := by rw [wrap64 (by omega) (by omega)]; omega
     have e7 := Jqr s (a := 13 + 13 * j) (b := 13 + 13 * j + v) (by omega) (by omega)
     exact ⟨⟨((j + 1 : Nat) : Int), _⟩, by simp only [J19, e1, decide_true, if_true, e2, e3, Option.bind_some, e4, Bool.false_eq_true, if_false, h12, decide_false, e5, e6, e7, J8J hlt, J4F _ j hlt, J2x (show j < 1000000 by omega)]; rfl, ⟨j + 1, rfl, by omega⟩, by simp; omega⟩
  ·right
   have e1 : ¬ ((j : Nat) : Int) < 16 := by omega
   exact ⟨_, by simp only [J19, e1, decide_false, Bool.false_eq_true, if_false, J6k, Option.map_some]; rfl, trivial⟩) (0, ⟨r1, r2, Vector.replicate 16 ⟨false, []⟩⟩) ⟨0, rfl, by omega⟩
 exact ⟨r, hr⟩
end Go.Am
end
section
namespace Go.Am
def blk : List UInt8 := List.replicate 256 0
theorem Jtt : blk.length = 256 := by decide +kernel
theorem JsN : blk.take 8 = Jj 0 8 := by decide +kernel
theorem Jsd : blk.drop 248 = Jj 0 8 := by decide +kernel
theorem Jh5 : J5X = some blk := by
 unfold J5X
 rw [Jc8 (n := 256) (by omega) (by omega)]
 rfl
theorem Jpl (x : List UInt8) (hx : x.length = 256) : ∃ r, J14 x = some r ∧ (r.2 = 0 ∨ r.2 = 7 → x.take 8 = x.drop 248) := by
 unfold J14
 have e0 : (((x.length : Nat) : Int) != 256) = false := by rw [hx]; rfl
 have e1 : J1i x none (some 8) = some (x.take 8) := Jdx x (b := 8) (by omega)
 have e2 : J1i x (some 248) none = some (x.drop 248) := Jc0 x (a := 248) (by omega)
 have e3 : J1i x none (some 244) = some (x.take 244) := Jdx x (b := 244) (by omega)
 obtain ⟨n, e4⟩ := Ja0 x (by omega) (at_ := 244) (k := 4) (by omega) (by omega) (by omega)
 have e4' : JO x 244 4 = some n := e4
 obtain ⟨c, e5⟩ := Jmx (x.take 244) (by simp; omega)
 obtain ⟨p, e6⟩ := Jmi x hx
 obtain ⟨q, e7, _⟩ := Jjw p.1
 simp only [e0, Bool.false_eq_true, if_false, Jh5, Option.bind_some]
 by_cases hb : x = blk
 ·refine ⟨_, by rw [if_pos (by simpa using hb)], fun _ => ?_⟩
  rw [hb, JsN, Jsd]
 ·have hb' : (x == blk) = false := by simpa using hb
  simp only [hb', Bool.false_eq_true, if_false, e1, e2, Option.bind_some]
  by_cases hp : x.take 8 = x.drop 248
  ·have hp' : (x.take 8 == x.drop 248) = true := by simpa using hp
   simp only [hp', if_true, e4', e3, e5, e6, e7, Option.bind_some]
   split
   ·exact ⟨_, rfl, fun _ => hp⟩
   ·split
    ·split
     ·exact ⟨_, rfl, fun _ => hp⟩
     ·split
      ·exact ⟨_, rfl, fun _ => hp⟩
      ·exact ⟨_, rfl, fun _ => hp⟩
    ·exact ⟨_, rfl, fun _ => hp⟩
  ·have hp' : (x.take 8 == x.drop 248) = false := by simpa using hp
   simp only [hp', Bool.false_eq_true, if_false]
   exact ⟨_, rfl, fun h => by rcases h with h | h <;> cases h⟩
end Go.Am
end
section
namespace Go.Am
theorem Jrj {x b j : Nat} (hj : j ≤ 7) (hx : x < 2 ^ (8 * j)) (hb : b < 256) :
  orI .u64 (x : Int) (IntKind.wrap .u64 (((b : Nat) : Int) * 2 ^ (8 * j))) = ((x + b * 2 ^ (8 * j) : Nat) : Int) := by
 have p1 : (2 : Nat) ^ (8 * j) * 256 ≤ 2 ^ 64 := by
  rw [show (256 : Nat) = 2 ^ 8 by rfl, ← Nat.pow_add]
  exact Nat.pow_le_pow_right (by omega) (by omega)
 have p2 : b * 2 ^ (8 * j) + 2 ^ (8 * j) ≤ 2 ^ 64 := by
  have : (b + 1) * 2 ^ (8 * j) ≤ 256 * 2 ^ (8 * j) := Nat.mul_le_mul_right _ (by omega)
  rw [Nat.add_mul, Nat.one_mul] at this
  omega
 have w : IntKind.wrap .u64 (((b : Nat) : Int) * 2 ^ (8 * j)) = ((b * 2 ^ (8 * j) : Nat) : Int) := by
  have e : (((b : Nat) : Int) * 2 ^ (8 * j)) = ((b * 2 ^ (8 * j) : Nat) : Int) := by simp
  rw [e, J8A (by omega) (by omega)]
 rw [w]
 have e1 : ∀ y : Nat, y < 2 ^ 64 → (BitVec.ofInt 64 (y : Int)).toNat = y := by
  intro y hy
  rw [BitVec.toNat_ofInt]
  omega
 show IntKind.wrap .u64 (((BitVec.ofInt 64 (x : Int) ||| BitVec.ofInt 64 ((b * 2 ^ (8 * j) : Nat) : Int)).toNat : Nat) : Int) = _
 rw [BitVec.toNat_or, e1 x (by omega), e1 _ (by omega)]
 have e2 : x ||| b * 2 ^ (8 * j) = x + b * 2 ^ (8 * j) := by
  rw [Nat.or_comm, Nat.mul_comm b, ← Nat.two_pow_add_eq_or_of_lt hx, Nat.add_comm]
 rw [e2, J8A (by omega) (by omega)]
theorem Jbv {n i : Nat} (hn : n < 2 ^ 64) : J5U (n : Int) i = ((n / 2 ^ (8 * i) % 256 : Nat) : Int) := by
 show ((IntKind.wrap .u64 (n : Int)).fdiv (2 ^ (8 * i))) % 256 = _
 rw [Int.fdiv_eq_ediv_of_nonneg _ (Int.le_of_lt (Int.pow_pos (by decide))), J8A (by omega) (by omega)]
 simp
theorem JrH {n : Int} {k i : Nat} (h : i < k) : (Jj n k)[i]? = some (UInt8.ofNat (J5U n i).toNat) := by
 simp [Jj, toStr, h]
theorem Ju4 (pre post : List UInt8) {n k : Nat} (h1 : 1 ≤ k) (h8 : k ≤ 8) (hn : n < 2 ^ (8 * k)) (hn2 : n < 2 ^ 63) (hl : (pre ++ (Jj n k ++ post)).length ≤ 1000000) :
  JM (pre ++ (Jj n k ++ post)) (pre.length : Int) (k : Int) = some ((n : Int), 0) := by
 generalize hs : pre ++ (Jj n k ++ post) = s at hl
 have hlen : pre.length + k ≤ s.length := by rw [← hs]; simp [Jp]
 have c1 : ¬ ((k : Int) < 1) := by omega
 have c2 : ¬ ((k : Int) > 8) := by omega
 have c3 : ¬ ((pre.length : Int) < 0) := by omega
 have c4 : ¬ ((pre.length : Int) > (s.length : Int)) := by omega
 have e0 : IntKind.wrap .i64 ((s.length : Int) - pre.length) = (s.length : Int) - pre.length := wrap64 (by omega) (by omega)
 have c5 : ¬ ((s.length : Int) - pre.length < k) := by omega
 unfold JM
 simp only [c1, c2, c3, c4, c5, e0, decide_false, Bool.false_eq_true, if_false]
 have key : ∀ (m j : Nat), j + m = k → Jv (fun q : Int × Int => J05 s pre.length k q.1 q.2) (((n % 2 ^ (8 * j) : Nat) : Int), (j : Int)) = some ((n : Int), 0) := by
  intro m
  induction m with
  | zero =>
   intro j hj
   obtain rfl : j = k := by omega
   have e1 : ¬ ((j : Nat) : Int) < (j : Int) := by omega
   refine J0N ?_
   simp only [J05, e1, decide_false, Bool.false_eq_true, if_false, J5d, Option.map_some, Nat.mod_eq_of_lt hn]
   rw [wrap64 (by omega) (by omega)]
  | succ m ih =>
   intro j hj
   have e1 : ((j : Nat) : Int) < (k : Int) := by omega
   have e2 : IntKind.wrap .i64 ((pre.length : Int) + (j : Int)) = ((pre.length + j : Nat) : Int) := by rw [wrap64 (by omega) (by omega)]; omega
   have e3 : IntKind.wrap .i64 (8 * (j : Int)) = ((8 * j : Nat) : Int) := by rw [wrap64 (by omega) (by omega)]; omega
   have hb : (s[pre.length + j]'(by omega)).toNat = n / 2 ^ (8 * j) % 256 := by
    have h5 : s[pre.length + j]? = some (UInt8.ofNat (J5U (n : Int) j).toNat) := by
     rw [← hs, List.getElem?_append_right (by omega), Nat.add_sub_cancel_left, List.getElem?_append_left (by rw [Jp]; omega), JrH (by omega)]
    rw [List.getElem?_eq_getElem (by omega)] at h5
    injection h5 with h5
    have h6 := Jjy (n : Int) j
    rw [← h5, Jbv (by omega)] at h6
    omega
   have hb2 : n / 2 ^ (8 * j) % 256 < 256 := Nat.mod_lt _ (by omega)
   have e4 : Jd3 .u64 (IntKind.wrap .u64 (((s[pre.length + j]'(by omega)).toNat : Nat) : Int)) ((8 * j : Nat) : Int) = some (IntKind.wrap .u64 (((n / 2 ^ (8 * j) % 256 : Nat) : Int) * 2 ^ (8 * j))) := by
    rw [hb, J8A (by omega) (by omega)]
    simp only [Jd3]
    rw [if_neg (by omega)]
    have : min (((8 * j : Nat) : Int)).toNat IntKind.u64.bits = 8 * j := by
     simp only [Int.toNat_natCast]
     exact Nat.min_eq_left (by show 8 * j ≤ 64; omega)
    rw [this]
   have e5 := Jrj (x := n % 2 ^ (8 * j)) (b := n / 2 ^ (8 * j) % 256) (j := j) (by omega) (Nat.mod_lt _ (Nat.two_pow_pos _)) hb2
   have e6 : n % 2 ^ (8 * j) + n / 2 ^ (8 * j) % 256 * 2 ^ (8 * j) = n % 2 ^ (8 * (j + 1)) := by
    rw [Nat.mul_add, Nat.pow_add, Nat.mod_mul, Nat.mul_comm (n / 2 ^ (8 * j) % 256)]
   rw [e6] at e5
   refine (J2v (s' := (((n % 2 ^ (8 * (j + 1)) : Nat) : Int), ((j + 1 : Nat) : Int))) ?_).trans (ih (j + 1) (by omega))
   simp only [J05, e1, decide_true, if_true, e2, J81 (show pre.length + j < s.length by omega), Option.bind_some, e3, e4, e5, J2x (show j < 1000000 by omega)]
 have h0 := key k 0 (by omega)
 simp only [Nat.mul_zero, Nat.pow_zero, Nat.mod_one] at h0
 exact h0
end Go.Am
end
section
namespace Go.Am
def Jbr (c : Ja) : List UInt8 := Jj (if c.Set then (c.Data.length : Int) else 255) 1 ++ c.Data ++ List.replicate (12 - c.Data.length) 0
theorem JqF {c : Ja} (h : c.Data.length ≤ 12) : (Jbr c).length = 13 := by
 simp only [Jbr, List.length_append, Jp, List.length_replicate]; omega
theorem Jr5 (b : T_page_builder) (c : Ja) (hc : c.Data.length ≤ 12) (hb : b.s_.length ≤ 300) : J1G b c = some ⟨b.s_ ++ Jbr c⟩ := by
 have go : ∀ x : Int, J1d x b c = some ⟨b.s_ ++ (Jj x 1 ++ c.Data ++ List.replicate (12 - c.Data.length) 0)⟩ := by
  intro x
  have e0 : IntKind.wrap .i64 (12 - ((c.Data.length : Nat) : Int)) = ((12 - c.Data.length : Nat) : Int) := by rw [wrap64 (by omega) (by omega)]; omega
  have e1 := J96 b.s_ x (k := 1) (by omega) (by omega) (by omega)
  have e2 : J3z (b.s_ ++ Jj x 1) c.Data = some (b.s_ ++ Jj x 1 ++ c.Data) := JdF (by rw [List.length_append, Jp]; omega) (by omega)
  have e3 := Jc8 (n := ((12 - c.Data.length : Nat) : Int)) (by omega) (by omega)
  rw [Int.toNat_natCast] at e3
  have e4 : J3z (b.s_ ++ Jj x 1 ++ c.Data) (List.replicate (12 - c.Data.length) 0) = some (b.s_ ++ Jj x 1 ++ c.Data ++ List.replicate (12 - c.Data.length) 0) := JdF (by simp only [List.length_append, Jp]; omega) (by simp; omega)
  unfold J1d
  rw [show (1 : Int) = ((1 : Nat) : Int) by rfl, e1, Option.bind_some, e2, Option.bind_some, e0, e3, Option.bind_some, e4, Option.bind_some]
  simp only [List.append_assoc]
 unfold J1G Jbr
 cases hs : c.Set with
 | true => simp only [if_true]; exact go _
 | false => simp only [Bool.false_eq_true, if_false]; exact go _
end Go.Am
end
section
namespace Go.Am
def J4z (l : List Ja) : List UInt8 := (l.map Jbr).flatten
theorem Jbz : ∀ {l : List Ja}, (∀ c ∈ l, c.Data.length ≤ 12) → (J4z l).length = 13 * l.length
 | [], _ => rfl
 | c :: l, h => by
  have h1 := JqF (h c (by simp))
  have h2 := Jbz (l := l) fun d hd => h d (by simp [hd])
  simp only [J4z, List.map_cons, List.flatten_cons, List.length_append, List.length_cons] at h2 ⊢
  omega
theorem Jhc (l : List Ja) (c : Ja) : J4z (l ++ [c]) = J4z l ++ Jbr c := by simp [J4z]
def J2P (p : T_api_Page) : List UInt8 := Jj p.LSN 8 ++ Jj p.ID 4 ++ J4z p.Cells.toList ++ List.replicate 24 0
theorem JnM {p : T_api_Page} (hp : J5Q p) : ∃ c, J1W (J2P p) = some c ∧ J0V p = some (J2P p ++ Jj (IntKind.wrap .i64 c) 4 ++ Jj p.LSN 8, 0) := by
 have hd : ∀ c ∈ p.Cells.toList, c.Data.length ≤ 12 := by
  intro c hc
  obtain ⟨i, hi, rfl⟩ := List.getElem_of_mem hc
  have h16 : i < 16 := by simpa using hi
  have := (hp.cells i h16).1
  simpa using this
 have loop := J0R (f := fun s : Int × T_page_builder => J1V p.Cells p s.1 s.2) (fun s => ∃ j : Nat, s.1 = j ∧ j ≤ 16 ∧ s.2.s_ = Jj p.LSN 8 ++ Jj p.ID 4 ++ J4z (p.Cells.toList.take j)) (fun s => (16 - s.1).toNat)
  (fun r => ∃ c, J1W (J2P p) = some c ∧ r = (J2P p ++ Jj (IntKind.wrap .i64 c) 4 ++ Jj p.LSN 8, 0)) (fun s ⟨j, hj, h4, ht⟩ => by
  obtain ⟨j', b⟩ := s
  simp only at hj ht
  subst hj
  have hl : (J4z (p.Cells.toList.take j)).length = 13 * j := by
   rw [Jbz fun c hc => hd c (List.mem_of_mem_take hc)]
   simp; omega
  have hbl : b.s_.length = 12 + 13 * j := by rw [ht]; simp only [List.length_append, Jp, hl]
  by_cases hlt : j < 16
  ·left
   have e1 : ((j : Nat) : Int) < 16 := by omega
   have e2 := Jr5 b p.Cells[j] (hp.cells j hlt).1 (by omega)
   have e3 : p.Cells.toList.take (j + 1) = p.Cells.toList.take j ++ [p.Cells[j]] := by
    rw [List.take_add_one, List.getElem?_eq_getElem (by simpa using hlt)]
    simp
   exact ⟨⟨((j + 1 : Nat) : Int), ⟨b.s_ ++ Jbr p.Cells[j]⟩⟩, by simp only [J1V, e1, decide_true, if_true, J4F _ j hlt, Option.bind_some, e2, J2x (show j < 1000000 by omega)], ⟨j + 1, rfl, by omega, by show b.s_ ++ _ = _; rw [ht, e3, Jhc]; simp only [List.append_assoc]⟩, by simp; omega⟩
  ·right
   obtain rfl : j = 16 := by omega
   have e1 : ¬ (((16 : Nat) : Nat) : Int) < 16 := by omega
   have e5 : p.Cells.toList.take 16 = p.Cells.toList := List.take_of_length_le (by simp)
   rw [e5] at ht
   have a0 : IntKind.wrap .i64 (244 - ((b.s_.length : Nat) : Int)) = 24 := by rw [hbl, wrap64 (by omega) (by omega)]; omega
   have a1 : J3u [0] 24 = some (List.replicate 24 0) := Jc8 (n := 24) (by omega) (by omega)
   have a6 : b.s_ ++ List.replicate 24 0 = J2P p := by rw [ht]; rfl
   have a7 : (J2P p).length = 244 := by rw [← a6]; simp [hbl]
   have a2 : J3z b.s_ (List.replicate 24 0) = some (J2P p) := by rw [← a6]; exact JdF (by omega) (by simp)
   obtain ⟨r, a3⟩ := Jmx (J2P p) (by omega)
   have a4 := J96 (J2P p) (IntKind.wrap .i64 r) (k := 4) (by omega) (by omega) (by omega)
   have a5 := J96 (J2P p ++ Jj (IntKind.wrap .i64 r) 4) p.LSN (k := 8) (by omega) (by omega) (by simp [a7, Jp])
   refine ⟨_, ?_, r, a3, rfl⟩
   simp only [J1V, e1, decide_false, Bool.false_eq_true, if_false, J6A, a0, a1, a2, a3, Option.bind_some]
   rw [show (4 : Int) = ((4 : Nat) : Int) by rfl, a4, Option.bind_some, show (8 : Int) = ((8 : Nat) : Int) by rfl, a5]
   rfl) (0, ⟨Jj p.LSN 8 ++ Jj p.ID 4⟩) ⟨0, rfl, by omega, by simp [J4z]⟩
 obtain ⟨r, hr, c, hc, rfl⟩ := loop
 refine ⟨c, hc, ?_⟩
 obtain ⟨d, e2, _, hd2⟩ := JkO p
 have hd3 := hd2 hp.cells
 subst hd3
 have e1 : J1t p = some true := by
  have i0 := hp.id0; have i1 := hp.id1; have l0 := hp.lsn0; have l1 := hp.lsn1
  simp [J1t, J1y, i0, i1, l0, l1]
 have a1 := J96 [] p.LSN (k := 8) (by omega) (by omega) (by simp)
 have a2 := J96 ([] ++ Jj p.LSN 8) p.ID (k := 4) (by omega) (by omega) (by simp [Jp])
 unfold J0V
 simp only [e1, e2, Option.bind_some, if_true]
 rw [show (8 : Int) = ((8 : Nat) : Int) by rfl, a1, Option.bind_some, show (4 : Int) = ((4 : Nat) : Int) by rfl, a2, Option.bind_some, List.nil_append]
 exact hr
end Go.Am
end
