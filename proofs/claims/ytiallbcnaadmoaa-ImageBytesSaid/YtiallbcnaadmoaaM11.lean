/-
  Parts of a proof.
-/
import Derived.Test.YtiallbcnaadmoaaM10
open Nat (reduceEqDiff reduceAdd reduceLT reduceMul)
set_option linter.unusedSimpArgs false
set_option linter.unusedVariables false
section
namespace Go.Am
set_option maxRecDepth 8000
set_option maxHeartbeats 4000000
set_option linter.unusedSimpArgs false
set_option linter.unusedVariables false
noncomputable section
variable (p : FuncId → Option (List AV → List Blk → Option Res))
def Jfs  (r : (List UInt8)) : Option Res := some (.p (.s r), [])
def J34 (x0 : List UInt8) : Option ((List UInt8)) :=
 if (decide (((List.length x0 : Nat) : Int) > 8392)) then
  some ([] : List UInt8)
 else
  Option.bind (J0i ([]) ((List.length x0 : Nat) : Int) 4) fun r2 =>
  Option.bind (J1Z r2 x0) fun s5 =>
  Option.bind (J24 s5) fun r7 =>
  Option.bind (J0i s5 (IntKind.wrap .i64 r7) 4) fun r10 =>
  some r10
theorem Jhz {x0 : List UInt8} {o : (List UInt8)} (h : J34 x0 = some o) :
  rk (J1 p) J70 0 [] (X (J1 p) J6R ⟨[(0, .p (.s x0))], []⟩) = Jfs o := by
 unfold J34 at h
 rcases J8 h with ⟨h1, h⟩ | ⟨h1, h⟩
 ·obtain rfl := sj h
  try simp only [↓Da, Ua, J6R, JfD, *, ↓reduceIte, reduceEqDiff, reduceAdd, reduceLT, reduceMul]
  rfl
 ·obtain ⟨r2, h3, h⟩ := bi h
  have f4 := J7q p h3
  try simp only [Nf] at f4
  obtain ⟨s5, h6, h⟩ := bi h
  obtain ⟨r7, h8, h⟩ := bi h
  have f9 := Jbx p h8
  try simp only [Nf] at f9
  obtain ⟨r10, h11, h⟩ := bi h
  have f12 := J7q p h11
  try simp only [Nf] at f12
  obtain rfl := sj h
  try simp only [↓Da, Ua, J6R, JfD, *, ↓reduceIte, reduceEqDiff, reduceAdd, reduceLT, reduceMul]
  rfl
theorem JmW {x0 : List UInt8} {o : (List UInt8)} (h : J34 x0 = some o) : AF (J1 p) J9P [.p (.s x0)] [] = Jfs o :=
 (J00 (J1 p) (JmJ p) rfl).trans (Jhz p h)
def Jdp  (r : (List UInt8) × Int × Int) : Option Res := some (.tup [.p (.s r.1), .p (.i .i64 r.2.1), .p (.i .i64 r.2.2)], [])
def J2M (x0 : List UInt8) (x1 : Int) : Option ((List UInt8) × Int × Int) :=
 if (decide (x1 < 0)) then
  some (([] : List UInt8), 0, 1)
 else
  if (decide (x1 > ((List.length x0 : Nat) : Int))) then
   some (([] : List UInt8), 0, 1)
  else
   Option.bind (JO x0 x1 4) fun r3 =>
   if ((r3.2 : Int) != 0) then
    some (([] : List UInt8), 0, r3.2)
   else
    if (decide (r3.1 > 8392)) then
     some (([] : List UInt8), 0, 2)
    else
     Option.bind (JO x0 (IntKind.wrap .i64 ((IntKind.wrap .i64 (x1 + 4)) + r3.1)) 4) fun r8 =>
     if ((r8.2 : Int) != 0) then
      some (([] : List UInt8), 0, r8.2)
     else
      Option.bind (J0Z x0 (some x1) (some (IntKind.wrap .i64 ((IntKind.wrap .i64 (x1 + 4)) + r3.1)))) fun m12 =>
      Option.bind (J24 m12) fun r15 =>
      if ((r8.1 : Int) != (IntKind.wrap .i64 r15)) then
       some (([] : List UInt8), 0, 3)
      else
       Option.bind (J0Z x0 (some (IntKind.wrap .i64 (x1 + 4))) (some (IntKind.wrap .i64 ((IntKind.wrap .i64 (x1 + 4)) + r3.1)))) fun m19 =>
       some (m19, (IntKind.wrap .i64 ((IntKind.wrap .i64 ((IntKind.wrap .i64 (x1 + 4)) + r3.1)) + 4)), 0)
theorem JfN {x0 : List UInt8} {x1 : Int} {o : (List UInt8) × Int × Int} (h : J2M x0 x1 = some o) :
  rk (J1 p) J5w 0 [] (X (J1 p) J0b ⟨[(0, .p (.s x0)), (1, .p (.i .i64 x1))], []⟩) = Jdp o := by
 unfold J2M at h
 rcases J8 h with ⟨h1, h⟩ | ⟨h1, h⟩
 ·obtain rfl := sj h
  try simp only [↓Da, Ua, J0b, J4k, *, ↓reduceIte, reduceEqDiff, reduceAdd, reduceLT, reduceMul]
  rfl
 ·try simp only [↓Da, Ua, J0b, *, ↓reduceIte, reduceEqDiff, reduceAdd, reduceLT, reduceMul]
  rcases J8 h with ⟨h2, h⟩ | ⟨h2, h⟩
  ·obtain rfl := sj h
   try simp only [↓Da, Ua, J0b, J4k, *, ↓reduceIte, reduceEqDiff, reduceAdd, reduceLT, reduceMul]
   rfl
  ·obtain ⟨r3, h4, h⟩ := bi h
   have f5 := J7l p h4
   try simp only [Nf] at f5
   try simp only [↓Da, Ua, J0b, *, ↓reduceIte, reduceEqDiff, reduceAdd, reduceLT, reduceMul]
   rcases J8 h with ⟨h6, h⟩ | ⟨h6, h⟩
   ·obtain rfl := sj h
    try simp only [↓Da, Ua, J0b, J4k, *, ↓reduceIte, reduceEqDiff, reduceAdd, reduceLT, reduceMul]
    rfl
   ·try simp only [↓Da, Ua, J0b, *, ↓reduceIte, reduceEqDiff, reduceAdd, reduceLT, reduceMul]
    rcases J8 h with ⟨h7, h⟩ | ⟨h7, h⟩
    ·obtain rfl := sj h
     try simp only [↓Da, Ua, J0b, J4k, *, ↓reduceIte, reduceEqDiff, reduceAdd, reduceLT, reduceMul]
     rfl
    ·obtain ⟨r8, h9, h⟩ := bi h
     have f10 := J7l p h9
     try simp only [Nf] at f10
     try simp only [↓Da, Ua, J0b, *, ↓reduceIte, reduceEqDiff, reduceAdd, reduceLT, reduceMul]
     rcases J8 h with ⟨h11, h⟩ | ⟨h11, h⟩
     ·obtain rfl := sj h
      try simp only [↓Da, Ua, J0b, J4k, *, ↓reduceIte, reduceEqDiff, reduceAdd, reduceLT, reduceMul]
      rfl
     ·obtain ⟨m12, h13, h⟩ := bi h
      have f14 : J13 (.p (.s x0)) (some (.p (.i .i64 x1))) (some (.p (.i .i64 (IntKind.wrap .i64 ((IntKind.wrap .i64 (x1 + 4)) + r3.1))))) = some (.p (.s m12)) := J0X (k := .i64) (lo := (some x1)) (hi := (some (IntKind.wrap .i64 ((IntKind.wrap .i64 (x1 + 4)) + r3.1)))) h13
      try simp only [Nf] at f14
      obtain ⟨r15, h16, h⟩ := bi h
      have f17 := Jbx p h16
      try simp only [Nf] at f17
      try simp only [↓Da, Ua, J0b, *, ↓reduceIte, reduceEqDiff, reduceAdd, reduceLT, reduceMul]
      rcases J8 h with ⟨h18, h⟩ | ⟨h18, h⟩
      ·obtain rfl := sj h
       try simp only [↓Da, Ua, J0b, J4k, *, ↓reduceIte, reduceEqDiff, reduceAdd, reduceLT, reduceMul]
       rfl
      ·obtain ⟨m19, h20, h⟩ := bi h
       have f21 : J13 (.p (.s x0)) (some (.p (.i .i64 (IntKind.wrap .i64 (x1 + 4))))) (some (.p (.i .i64 (IntKind.wrap .i64 ((IntKind.wrap .i64 (x1 + 4)) + r3.1))))) = some (.p (.s m19)) := J0X (k := .i64) (lo := (some (IntKind.wrap .i64 (x1 + 4)))) (hi := (some (IntKind.wrap .i64 ((IntKind.wrap .i64 (x1 + 4)) + r3.1)))) h20
       try simp only [Nf] at f21
       obtain rfl := sj h
       try simp only [↓Da, Ua, J0b, J4k, *, ↓reduceIte, reduceEqDiff, reduceAdd, reduceLT, reduceMul]
       rfl
theorem Jks {x0 : List UInt8} {x1 : Int} {o : (List UInt8) × Int × Int} (h : J2M x0 x1 = some o) : AF (J1 p) J4o [.p (.s x0), .p (.i .i64 x1)] [] = Jdp o :=
 (J00 (J1 p) (Jjx p) rfl).trans (JfN p h)
theorem Jdj {x0 : List UInt8} {x1 : Int} {o : (List UInt8) × Int × Int} (h : J2M x0 x1 = some o) : ∀ ws new st, (Jm (AF (J1 p)) J4o ([.p (.s x0), .p (.i .i64 x1)], ws) 0 new).run st = some ⟨.tup [.p (.s o.1), .p (.i .i64 o.2.1), .p (.i .i64 o.2.2)], ws⟩ := Jt rfl (Jks p h) rfl
def JfH  (r : Int) : Option Res := some (.p (.i .i64 r), [])
def J5H (x0 : T_api_Page) : Option (Int) :=
 Option.bind (J4e x0) fun r1 =>
 if r1 then
  Option.bind (J5F x0) fun r5 =>
  if r5 then
   some 0
  else
   some 22
 else
  some 1
theorem Jho {x0 : T_api_Page} {o : Int} (h : J5H x0 = some o) :
  rk (J1 p) J73 0 [] (X (J1 p) J3R ⟨[(0, .data (J4 x0))], []⟩) = JfH o := by
 unfold J5H at h
 obtain ⟨r1, h2, h⟩ := bi h
 have f3 := Jkn p h2
 try simp only [Nf] at f3
 try simp only [↓Da, Ua, J3R, J7, J2, J6, *, ↓reduceIte, reduceEqDiff, reduceAdd, reduceLT, reduceMul]
 rcases J8 h with ⟨h4, h⟩ | ⟨h4, h⟩
 ·obtain ⟨r5, h6, h⟩ := bi h
  have f7 := JmZ p h6
  try simp only [Nf] at f7
  try simp only [↓Da, Ua, J3R, J7, J2, J6, *, ↓reduceIte, reduceEqDiff, reduceAdd, reduceLT, reduceMul]
  rcases J8 h with ⟨h8, h⟩ | ⟨h8, h⟩
  ·obtain rfl := sj h
   try simp only [↓Da, Ua, J3R, J7, J2, J6, JbW, *, ↓reduceIte, reduceEqDiff, reduceAdd, reduceLT, reduceMul]
   rfl
  ·obtain rfl := sj h
   try simp only [↓Da, Ua, J3R, J7, J2, J6, JbW, *, ↓reduceIte, reduceEqDiff, reduceAdd, reduceLT, reduceMul]
   rfl
 ·obtain rfl := sj h
  try simp only [↓Da, Ua, J3R, J7, J2, J6, JbW, *, ↓reduceIte, reduceEqDiff, reduceAdd, reduceLT, reduceMul]
  rfl
theorem Jnd {x0 : T_api_Page} {o : Int} (h : J5H x0 = some o) : AF (J1 p) J6I [.data (J4 x0)] [] = JfH o :=
 (J00 (J1 p) (JmM p) rfl).trans (Jho p h)
theorem Jmq {x0 : T_api_Page} {o : Int} (h : J5H x0 = some o) : ∀ ws new st, (Jm (AF (J1 p)) J6I ([.data (J4 x0)], ws) 0 new).run st = some ⟨.p (.i .i64 o), ws⟩ := Jt rfl (Jnd p h) rfl
def Jfw  (r : T_api_Page × Int) : Option Res := some (.tup [.data (J4 r.1), .p (.i .i64 r.2)], [])
def J1h (x0 : List UInt8) : Option (T_api_Page × Int) :=
 if ((((List.length x0 : Nat) : Int) : Int) != 256) then
  some ((⟨0, 0, (Vector.replicate 16 (⟨false, []⟩ : Jf))⟩ : T_api_Page), 2)
 else
  Option.bind (J6n) fun r2 =>
  if (x0 == r2) then
   some ((⟨0, 0, (Vector.replicate 16 (⟨false, []⟩ : Jf))⟩ : T_api_Page), 7)
  else
   Option.bind (J0Z x0 none (some 8)) fun m6 =>
   Option.bind (J0Z x0 (some 248) none) fun m9 =>
   if (m6 == m9) then
    Option.bind (JP x0 244 4) fun r13 =>
    Option.bind (J0Z x0 none (some 244)) fun m16 =>
    Option.bind (J24 m16) fun r19 =>
    if ((r13 : Int) != (IntKind.wrap .i64 r19)) then
     some ((⟨0, 0, (Vector.replicate 16 (⟨false, []⟩ : Jf))⟩ : T_api_Page), 3)
    else
     Option.bind (J66 x0) fun r23 =>
     Option.bind (J0S r23.1) fun r26 =>
     if r23.2 then
      if ((r26.2 : Int) != 0) then
       some ((⟨0, 0, (Vector.replicate 16 (⟨false, []⟩ : Jf))⟩ : T_api_Page), 4)
      else
       if (r26.1 == x0) then
        some (r23.1, 0)
       else
        some ((⟨0, 0, (Vector.replicate 16 (⟨false, []⟩ : Jf))⟩ : T_api_Page), 4)
     else
      some ((⟨0, 0, (Vector.replicate 16 (⟨false, []⟩ : Jf))⟩ : T_api_Page), 4)
   else
    some ((⟨0, 0, (Vector.replicate 16 (⟨false, []⟩ : Jf))⟩ : T_api_Page), 27)
theorem JhL {x0 : List UInt8} {o : T_api_Page × Int} (h : J1h x0 = some o) :
  rk (J1 p) J6P 0 [] (X (J1 p) J0g ⟨[(0, .p (.s x0))], []⟩) = Jfw o := by
 unfold J1h at h
 rcases J8 h with ⟨h1, h⟩ | ⟨h1, h⟩
 ·obtain rfl := sj h
  try simp only [↓Da, Ua, J0g, J7, J2, J6, J4O, *, ↓reduceIte, reduceEqDiff, reduceAdd, reduceLT, reduceMul]
  rfl
 ·obtain ⟨r2, h3, h⟩ := bi h
  have f4 := JoN p h3
  try simp only [Nf] at f4
  try simp only [↓Da, Ua, J0g, J7, J2, J6, *, ↓reduceIte, reduceEqDiff, reduceAdd, reduceLT, reduceMul]
  rcases J8 h with ⟨h5, h⟩ | ⟨h5, h⟩
  ·obtain rfl := sj h
   try simp only [↓Da, Ua, J0g, J7, J2, J6, J4O, *, ↓reduceIte, reduceEqDiff, reduceAdd, reduceLT, reduceMul]
   rfl
  ·obtain ⟨m6, h7, h⟩ := bi h
   have f8 : J13 (.p (.s x0)) none (some (.p (.i .i64 8))) = some (.p (.s m6)) := J0X (k := .i64) (lo := none) (hi := (some 8)) h7
   try simp only [Nf] at f8
   obtain ⟨m9, h10, h⟩ := bi h
   have f11 : J13 (.p (.s x0)) (some (.p (.i .i64 248))) none = some (.p (.s m9)) := J0X (k := .i64) (lo := (some 248)) (hi := none) h10
   try simp only [Nf] at f11
   try simp only [↓Da, Ua, J0g, J7, J2, J6, *, ↓reduceIte, reduceEqDiff, reduceAdd, reduceLT, reduceMul]
   rcases J8 h with ⟨h12, h⟩ | ⟨h12, h⟩
   ·obtain ⟨r13, h14, h⟩ := bi h
    have f15 := Ja1 p h14
    try simp only [Nf] at f15
    obtain ⟨m16, h17, h⟩ := bi h
    have f18 : J13 (.p (.s x0)) none (some (.p (.i .i64 244))) = some (.p (.s m16)) := J0X (k := .i64) (lo := none) (hi := (some 244)) h17
    try simp only [Nf] at f18
    obtain ⟨r19, h20, h⟩ := bi h
    have f21 := Jbx p h20
    try simp only [Nf] at f21
    try simp only [↓Da, Ua, J0g, J7, J2, J6, *, ↓reduceIte, reduceEqDiff, reduceAdd, reduceLT, reduceMul]
    rcases J8 h with ⟨h22, h⟩ | ⟨h22, h⟩
    ·obtain rfl := sj h
     try simp only [↓Da, Ua, J0g, J7, J2, J6, J4O, *, ↓reduceIte, reduceEqDiff, reduceAdd, reduceLT, reduceMul]
     rfl
    ·obtain ⟨r23, h24, h⟩ := bi h
     have f25 := Jpk p h24
     try simp only [Nf] at f25
     obtain ⟨r26, h27, h⟩ := bi h
     have f28 := JmF p h27
     try simp only [Nf] at f28
     try simp only [↓Da, Ua, J0g, J7, J2, J6, *, ↓reduceIte, reduceEqDiff, reduceAdd, reduceLT, reduceMul]
     rcases J8 h with ⟨h29, h⟩ | ⟨h29, h⟩
     ·try simp only [↓Da, Ua, J0g, J7, J2, J6, *, ↓reduceIte, reduceEqDiff, reduceAdd, reduceLT, reduceMul]
      rcases J8 h with ⟨h30, h⟩ | ⟨h30, h⟩
      ·obtain rfl := sj h
       try simp only [↓Da, Ua, J0g, J7, J2, J6, J4O, *, ↓reduceIte, reduceEqDiff, reduceAdd, reduceLT, reduceMul]
       rfl
      ·try simp only [↓Da, Ua, J0g, J7, J2, J6, *, ↓reduceIte, reduceEqDiff, reduceAdd, reduceLT, reduceMul]
       rcases J8 h with ⟨h31, h⟩ | ⟨h31, h⟩
       ·obtain rfl := sj h
        try simp only [↓Da, Ua, J0g, J7, J2, J6, J4O, *, ↓reduceIte, reduceEqDiff, reduceAdd, reduceLT, reduceMul]
        rfl
       ·obtain rfl := sj h
        try simp only [↓Da, Ua, J0g, J7, J2, J6, J4O, *, ↓reduceIte, reduceEqDiff, reduceAdd, reduceLT, reduceMul]
        rfl
     ·obtain rfl := sj h
      try simp only [↓Da, Ua, J0g, J7, J2, J6, J4O, *, ↓reduceIte, reduceEqDiff, reduceAdd, reduceLT, reduceMul]
      rfl
   ·obtain rfl := sj h
    try simp only [↓Da, Ua, J0g, J7, J2, J6, J4O, *, ↓reduceIte, reduceEqDiff, reduceAdd, reduceLT, reduceMul]
    rfl
theorem Jn9 {x0 : List UInt8} {o : T_api_Page × Int} (h : J1h x0 = some o) : AF (J1 p) J72 [.p (.s x0)] [] = Jfw o :=
 (J00 (J1 p) (JmS p) rfl).trans (JhL p h)
theorem Jn1 {x0 : List UInt8} {o : T_api_Page × Int} (h : J1h x0 = some o) : ∀ ws new st, (Jm (AF (J1 p)) J72 ([.p (.s x0)], ws) 0 new).run st = some ⟨.tup [.data (J4 o.1), .p (.i .i64 o.2)], ws⟩ := Jt rfl (Jn9 p h) rfl
def J6f  (r : (List UInt8) × Int) : Option Res := some (.tup [.p (.s r.1), .p (.i .i64 r.2)], [])
def Ja6 (b0 : T_api_Page) (o : ((List UInt8) × Int) ⊕ ((List UInt8) × Int)) : Option Res := match o with
 | .inl s => rk (J1 p) J16 0 [.bl 0, .sq (.keep [1, 5] J2a)] (X (J1 p) (.lp 1 [1, 5, 6] J0U) ⟨[(1, .ptr 0 0), (5, .p (.s s.1)), (6, .p (.i .i64 s.2))], [.box (List.map AV.p (J4 b0))]⟩)
 | .inr o => J6f o
def J8b (x5 : List UInt8) (x6 : Int) (b0 : T_api_Page) : Option ((((List UInt8) × Int) ⊕ ((List UInt8) × Int))) :=
 some (.inl (x5, (IntKind.wrap .i64 (x6 + 1))))
theorem JiU {x5 : List UInt8} {x6 : Int} {b0 : T_api_Page} {o : (((List UInt8) × Int) ⊕ ((List UInt8) × Int))} (h : J8b x5 x6 b0 = some o) :
  rk (J1 p) J16 0 [.lo 1 [1, 5, 6] J0U, .bl 0, .sq (.keep [1, 5] J2a)] (X (J1 p) J7Z ⟨[(1, .ptr 0 0), (5, .p (.s x5)), (6, .p (.i .i64 x6))], [.box (List.map AV.p (J4 b0))]⟩) = (Ja6 p b0) o := by
 unfold J8b at h
 obtain rfl := sj h
 try simp only [↓Da, Ua, J7Z, ↓reduceIte, reduceEqDiff, reduceAdd, reduceLT, reduceMul]
 rfl
def J5k (x5 : List UInt8) (x6 x7 : Int) (b0 : T_api_Page) : Option ((((List UInt8) × Int) ⊕ ((List UInt8) × Int))) :=
 Option.bind (J02 x5 x7 1) fun r1 =>
 Option.bind (inb 16 x6) fun u4 =>
 Option.bind (J8R b0.Cells x6) fun y7 =>
 Option.bind (J2r (IntKind.wrap .i64 (12 - ((List.length y7.Data : Nat) : Int)))) fun r11 =>
 Option.bind (J1Z y7.Data r11) fun s15 =>
 Option.bind (J1Z r1 s15) fun s17 =>
 J8b s17 x6 b0
theorem JcJ {x5 : List UInt8} {x6 x7 : Int} {b0 : T_api_Page} {o : (((List UInt8) × Int) ⊕ ((List UInt8) × Int))} (h : J5k x5 x6 x7 b0 = some o) :
  rk (J1 p) J16 0 [.bl 1, .sq (.keep [1, 5, 6] J7Z), .lo 1 [1, 5, 6] J0U, .bl 0, .sq (.keep [1, 5] J2a)] (X (J1 p) Jaf ⟨[(1, .ptr 0 0), (5, .p (.s x5)), (6, .p (.i .i64 x6)), (7, .p (.i .i64 x7))], [.box (List.map AV.p (J4 b0))]⟩) = (Ja6 p b0) o := by
 unfold J5k at h
 obtain ⟨r1, h2, h⟩ := bi h
 have f3 := J3E p h2
 try simp only [Nf] at f3
 obtain ⟨u4, h5, h⟩ := bi h
 have f6 : (0 ≤ (x6 : Int) ∧ (x6 : Int) < ((16 : Nat) : Int)) = True := eq_true (J9m h5)
 obtain ⟨y7, h8, h⟩ := bi h
 have f9 : sub (J4 b0) ((2 + Int.toNat x6 * 2) + 1) 1 = some (r_s y7.Data) := by
  have e0 := (J7P (J7P (J11 b0) (J9K (v := b0.Cells) JQ (J5i h8).2)) (J7x y7))
  exact e0
 try simp only [Nf] at f9
 have f10 : sub (J4 b0) ((2 + Int.toNat x6 * 2) + 1) 1 = some (r_s y7.Data) := by
  have e0 := (J7P (J7P (J11 b0) (J9K (v := b0.Cells) JQ (J5i h8).2)) (J7x y7))
  exact e0
 try simp only [Nf] at f10
 obtain ⟨r11, h12, h⟩ := bi h
 have f13 := JbO p h12
 try simp only [Nf] at f13
 have f14 : ∀ ws k new s, Jg ((Jm (AF (J1 p)) J3L ([.p (.i .i64 (IntKind.wrap .i64 (12 - ((List.length y7.Data : Nat) : Int))))], ws) k new).reads s) = [] := J05 rfl
 try simp only [Nf] at f14
 obtain ⟨s15, h16, h⟩ := bi h
 obtain ⟨s17, h18, h⟩ := bi h
 try simp only [↓Da, Ua, Ra, Jaf, J7, J2, J6, *, ↓reduceIte, reduceEqDiff, reduceAdd, reduceLT, reduceMul, Nat.reduceBEq]
 have e0 := JiU p h
 first | exact e0 | (simp only [*] at e0; exact e0)
def J88 (x5 : List UInt8) (b0 : T_api_Page) : Option ((List UInt8) × Int) :=
 Option.bind (J2r (IntKind.wrap .i64 (244 - ((List.length x5 : Nat) : Int)))) fun r1 =>
 Option.bind (J1Z x5 r1) fun s4 =>
 Option.bind (J5o s4) fun r6 =>
 Option.bind (J02 s4 (IntKind.wrap .i64 r6) 4) fun r9 =>
 Option.bind (J02 r9 b0.LSN 8) fun r12 =>
 some (r12, 0)
theorem Jjj {x5 : List UInt8} {b0 : T_api_Page} {o : (List UInt8) × Int} (h : J88 x5 b0 = some o) :
  rk (J1 p) J16 0 [] (X (J1 p) J2a ⟨[(1, .ptr 0 0), (5, .p (.s x5))], [.box (List.map AV.p (J4 b0))]⟩) = J6f o := by
 unfold J88 at h
 obtain ⟨r1, h2, h⟩ := bi h
 have f3 := JbO p h2
 try simp only [Nf] at f3
 obtain ⟨s4, h5, h⟩ := bi h
 obtain ⟨r6, h7, h⟩ := bi h
 have f8 := Jbw p h7
 try simp only [Nf] at f8
 obtain ⟨r9, h10, h⟩ := bi h
 have f11 := J3E p h10
 try simp only [Nf] at f11
 obtain ⟨r12, h13, h⟩ := bi h
 have f14 := J3E p h13
 try simp only [Nf] at f14
 obtain rfl := sj h
 try simp only [↓Da, Ua, J2a, J7, J2, J6, Je0, *, ↓reduceIte, reduceEqDiff, reduceAdd, reduceLT, reduceMul]
 rfl
def J3X (b0 : T_api_Page) (x5 : List UInt8) (x6 : Int) : Option ((((List UInt8) × Int) ⊕ ((List UInt8) × Int))) :=
 if (decide (x6 < 16)) then
  Option.bind (inb 16 x6) fun u2 =>
  Option.bind (J8R b0.Cells x6) fun y5 =>
  if y5.Set then
   J5k x5 x6 ((List.length y5.Data : Nat) : Int) b0
  else
   J5k x5 x6 255 b0
 else
  Option.map (fun o => .inr o) (J88 x5 b0)
theorem JcL {b0 : T_api_Page} {x5 : List UInt8} {x6 : Int} {o : (((List UInt8) × Int) ⊕ ((List UInt8) × Int))} (h : J3X b0 x5 x6 = some o) :
  rk (J1 p) J16 0 [.lo 1 [1, 5, 6] J0U, .bl 0, .sq (.keep [1, 5] J2a)] (X (J1 p) J0U ⟨[(1, .ptr 0 0), (5, .p (.s x5)), (6, .p (.i .i64 x6))], [.box (List.map AV.p (J4 b0))]⟩) = (Ja6 p b0) o := by
 unfold J3X at h
 rcases J8 h with ⟨h1, h⟩ | ⟨h1, h⟩
 ·obtain ⟨u2, h3, h⟩ := bi h
  have f4 : (0 ≤ (x6 : Int) ∧ (x6 : Int) < ((16 : Nat) : Int)) = True := eq_true (J9m h3)
  obtain ⟨y5, h6, h⟩ := bi h
  have f7 : sub (J4 b0) (2 + Int.toNat x6 * 2) 1 = some (r_b y5.Set) := by
   have e0 := (J7P (J7P (J11 b0) (J9K (v := b0.Cells) JQ (J5i h6).2)) (Ja8 y5))
   exact e0
  try simp only [Nf] at f7
  try simp only [↓Da, Ua, J0U, J7, J2, J6, *, ↓reduceIte, reduceEqDiff, reduceAdd, reduceLT, reduceMul]
  rcases J8 h with ⟨h8, h⟩ | ⟨h8, h⟩
  ·have f9 : sub (J4 b0) ((2 + Int.toNat x6 * 2) + 1) 1 = some (r_s y5.Data) := by
    have e0 := (J7P (J7P (J11 b0) (J9K (v := b0.Cells) JQ (J5i h6).2)) (J7x y5))
    exact e0
   try simp only [Nf] at f9
   try simp only [↓Da, Ua, J0U, J7, J2, J6, *, ↓reduceIte, reduceEqDiff, reduceAdd, reduceLT, reduceMul]
   have e0 := JcJ p h
   first | exact e0 | (simp only [*] at e0; exact e0)
  ·try simp only [↓Da, Ua, J0U, J7, J2, J6, *, ↓reduceIte, reduceEqDiff, reduceAdd, reduceLT, reduceMul]
   have e0 := JcJ p h
   first | exact e0 | (simp only [*] at e0; exact e0)
 ·obtain ⟨o', h', rfl⟩ := mi h
  try simp only [↓Da, Ua, J0U, J7, J2, J6, *, ↓reduceIte, reduceEqDiff, reduceAdd, reduceLT, reduceMul]
  have e0 := Jjj p h'
  first | exact e0 | (simp only [*] at e0; exact e0)
def JcB (b0 : T_api_Page) (s : (List UInt8) × Int) : Option ((List UInt8) × Int) :=
 Jr (fun s => J3X b0 s.1 s.2) s
theorem Jgw {b0 : T_api_Page} {s : (List UInt8) × Int} {o : (List UInt8) × Int} (h : JcB b0 s = some o) :
  rk (J1 p) J16 0 [.bl 0, .sq (.keep [1, 5] J2a)] (X (J1 p) (.lp 1 [1, 5, 6] J0U) ⟨[(1, .ptr 0 0), (5, .p (.s s.1)), (6, .p (.i .i64 s.2))], [.box (List.map AV.p (J4 b0))]⟩) = J6f o := by
 have h0 : Jr (fun s => J3X b0 s.1 s.2) s = some o := h
 exact J04 (P := fun (s : (List UInt8) × Int) (o : (List UInt8) × Int) => rk (J1 p) J16 0 [.bl 0, .sq (.keep [1, 5] J2a)] (X (J1 p) (.lp 1 [1, 5, 6] J0U) ⟨[(1, .ptr 0 0), (5, .p (.s s.1)), (6, .p (.i .i64 s.2))], [.box (List.map AV.p (J4 b0))]⟩) = J6f o) (fun s r hs => by rw [J03]; exact JcL p hs) (fun s s1 r hs ih => by rw [J03]; exact (JcL p hs).trans ih) h0
def J38 (x0 : T_api_Page) : Option ((List UInt8) × Int) :=
 Option.bind (J5H x0) fun r1 =>
 if ((r1 : Int) != 0) then
  some (([] : List UInt8), r1)
 else
  Option.bind (J02 ([]) x0.LSN 8) fun r5 =>
  Option.bind (J02 r5 x0.ID 4) fun r8 =>
  JcB x0 (r8, 0)
theorem Jgp {x0 : T_api_Page} {o : (List UInt8) × Int} (h : J38 x0 = some o) :
  rk (J1 p) J16 0 [] (X (J1 p) J5f ⟨[(0, .data (J4 x0))], []⟩) = J6f o := by
 unfold J38 at h
 obtain ⟨r1, h2, h⟩ := bi h
 have f3 := Jmq p h2
 try simp only [Nf] at f3
 try simp only [↓Da, Ua, J5f, J7, J2, J6, *, ↓reduceIte, reduceEqDiff, reduceAdd, reduceLT, reduceMul]
 rcases J8 h with ⟨h4, h⟩ | ⟨h4, h⟩
 ·obtain rfl := sj h
  try simp only [↓Da, Ua, J5f, J7, J2, J6, Je0, *, ↓reduceIte, reduceEqDiff, reduceAdd, reduceLT, reduceMul]
  rfl
 ·obtain ⟨r5, h6, h⟩ := bi h
  have f7 := J3E p h6
  try simp only [Nf] at f7
  obtain ⟨r8, h9, h⟩ := bi h
  have f10 := J3E p h9
  try simp only [Nf] at f10
  try simp only [↓Da, Ua, J5f, J7, J2, J6, *, ↓reduceIte, reduceEqDiff, reduceAdd, reduceLT, reduceMul]
  have e0 := Jgw p h
  first | exact e0 | (simp only [*] at e0; exact e0)
theorem Jl3 {x0 : T_api_Page} {o : (List UInt8) × Int} (h : J38 x0 = some o) : AF (J1 p) J5l [.data (J4 x0)] [] = J6f o :=
 (J00 (J1 p) (Jlt p) rfl).trans (Jgp p h)
theorem Je9 {x0 : T_api_Page} {o : (List UInt8) × Int} (h : J38 x0 = some o) : ∀ ws new st, (Jm (AF (J1 p)) J5l ([.data (J4 x0)], ws) 0 new).run st = some ⟨.tup [.p (.s o.1), .p (.i .i64 o.2)], ws⟩ := Jt rfl (Jl3 p h) rfl
def JgO  (r : (List UInt8) × T_pagemenddraw_Codes) : Option Res := some (.p (.s r.1), [.box (List.map AV.p (J0 r.2))])
def J7A (b0 : T_pagemenddraw_Codes) (x1 : Int) : Option ((List UInt8) × T_pagemenddraw_Codes) :=
 Option.bind (Jp b0 6) fun r1 =>
 if ((r1.1 : Int) == 0) then
  Option.bind (J4Q) fun r5 =>
  some (r5, r1.2)
 else
  if ((r1.1 : Int) == 1) then
   Option.bind (J2R r1.2) fun r9 =>
   some (r9.1, r9.2)
  else
   Option.bind (J3g r1.2 x1) fun r12 =>
   Option.bind (J38 r12.1) fun r15 =>
   some (r15.1, r12.2)
theorem Jik {b0 : T_pagemenddraw_Codes} {x1 : Int} {o : (List UInt8) × T_pagemenddraw_Codes} (h : J7A b0 x1 = some o) :
  rk (J1 p) J7F 1 [] (X (J1 p) J4f ⟨[(0, .ptr 0 0), (1, .p (.i .i64 x1))], [.box (List.map AV.p (J0 b0))]⟩) = JgO o := by
 unfold J7A at h
 obtain ⟨r1, h2, h⟩ := bi h
 have f3 : ∀ ws new s, JG ws s [0] [List.map AV.p (J0 b0)] → (Jm (AF (J1 p)) Jb ([.ptr 0 0, .p (.i .i64 6)], ws) 0 new).run s = some ⟨.p (.i .i64 r1.1), ws ++ [(0, .box (List.map AV.p (J0 r1.2)))]⟩ := Jy (args' := [.ptr 0 0, .p (.i .i64 6)]) (bs := [0]) (css := [List.map AV.p (J0 b0)]) (css' := [List.map AV.p (J0 r1.2)]) rfl rfl rfl (by simp [Jl, J9]) (Jv p h2) rfl rfl (by simp [Jl, J9])
 try simp only [Nf] at f3
 try simp only [↓Da, Ua, J4f, J7, J2, J6, Jd, *, ↓reduceIte, reduceEqDiff, reduceAdd, reduceLT, reduceMul]
 rcases J8 h with ⟨h4, h⟩ | ⟨h4, h⟩
 ·have h4n : ((r1.1 : Int) != 0) = false := by rw [bne, h4]; rfl
  obtain ⟨r5, h6, h⟩ := bi h
  have f7 := JfJ p h6
  try simp only [Nf] at f7
  obtain rfl := sj h
  try simp only [↓Da, Ua, J4f, J7, J2, J6, Jd, JcY, *, ↓reduceIte, reduceEqDiff, reduceAdd, reduceLT, reduceMul]
  rfl
 ·have h4n : ((r1.1 : Int) != 0) = true := by rw [bne, h4]; rfl
  try simp only [↓Da, Ua, J4f, J7, J2, J6, Jd, *, ↓reduceIte, reduceEqDiff, reduceAdd, reduceLT, reduceMul]
  rcases J8 h with ⟨h8, h⟩ | ⟨h8, h⟩
  ·have h8n : ((r1.1 : Int) != 1) = false := by rw [bne, h8]; rfl
   obtain ⟨r9, h10, h⟩ := bi h
   have f11 : ∀ ws new s, JG ws s [0] [List.map AV.p (J0 r1.2)] → (Jm (AF (J1 p)) J40 ([.ptr 0 0], ws) 0 new).run s = some ⟨.p (.s r9.1), ws ++ [(0, .box (List.map AV.p (J0 r9.2)))]⟩ := Jy (args' := [.ptr 0 0]) (bs := [0]) (css := [List.map AV.p (J0 r1.2)]) (css' := [List.map AV.p (J0 r9.2)]) rfl rfl rfl (by simp [Jl, J9]) (JgJ p h10) rfl rfl (by simp [Jl, J9])
   try simp only [Nf] at f11
   obtain rfl := sj h
   try simp only [↓Da, Ua, J4f, J7, J2, J6, Jd, JcY, *, ↓reduceIte, reduceEqDiff, reduceAdd, reduceLT, reduceMul]
   rfl
  ·have h8n : ((r1.1 : Int) != 1) = true := by rw [bne, h8]; rfl
   obtain ⟨r12, h13, h⟩ := bi h
   have f14 : ∀ ws new s, JG ws s [0] [List.map AV.p (J0 r1.2)] → (Jm (AF (J1 p)) J4A ([.ptr 0 0, .p (.i .i64 x1)], ws) 0 new).run s = some ⟨.data (J4 r12.1), ws ++ [(0, .box (List.map AV.p (J0 r12.2)))]⟩ := Jy (args' := [.ptr 0 0, .p (.i .i64 x1)]) (bs := [0]) (css := [List.map AV.p (J0 r1.2)]) (css' := [List.map AV.p (J0 r12.2)]) rfl rfl rfl (by simp [Jl, J9]) (Jhn p h13) rfl rfl (by simp [Jl, J9])
   try simp only [Nf] at f14
   obtain ⟨r15, h16, h⟩ := bi h
   have f17 := Je9 p h16
   try simp only [Nf] at f17
   obtain rfl := sj h
   try simp only [↓Da, Ua, J4f, J7, J2, J6, Jd, JcY, *, ↓reduceIte, reduceEqDiff, reduceAdd, reduceLT, reduceMul]
   rfl
theorem JoM {b0 : T_pagemenddraw_Codes} {x1 : Int} {o : (List UInt8) × T_pagemenddraw_Codes} (h : J7A b0 x1 = some o) : AF (J1 p) J6t [.ptr 0 0, .p (.i .i64 x1)] [.box (List.map AV.p (J0 b0))] = JgO o :=
 (J00 (J1 p) (JnU p) rfl).trans (Jik p h)
def Jdm  (r : T_api_Page × Int) : Option Res := some (.tup [.data (J4 r.1), .p (.i .i64 r.2)], [])
def J0v (x0 : List UInt8) (x1 : Int) : Option (T_api_Page × Int) :=
 Option.bind (J1z x1) fun r1 =>
 if r1 then
  Option.bind (J1h x0) fun r5 =>
  if ((r5.2 : Int) == 7) then
   Option.bind (J9q x1) fun r9 =>
   some (r9, 0)
  else
   if ((r5.2 : Int) != 0) then
    some ((⟨0, 0, (Vector.replicate 16 (⟨false, []⟩ : Jf))⟩ : T_api_Page), r5.2)
   else
    if ((r5.1.ID : Int) != x1) then
     some ((⟨0, 0, (Vector.replicate 16 (⟨false, []⟩ : Jf))⟩ : T_api_Page), 6)
    else
     some (r5.1, 0)
 else
  some ((⟨0, 0, (Vector.replicate 16 (⟨false, []⟩ : Jf))⟩ : T_api_Page), 1)
theorem JfZ {x0 : List UInt8} {x1 : Int} {o : T_api_Page × Int} (h : J0v x0 x1 = some o) :
  rk (J1 p) J5C 0 [] (X (J1 p) J0N ⟨[(0, .p (.s x0)), (1, .p (.i .i64 x1))], []⟩) = Jdm o := by
 unfold J0v at h
 obtain ⟨r1, h2, h⟩ := bi h
 have f3 := Jgc p h2
 try simp only [Nf] at f3
 try simp only [↓Da, Ua, J0N, J7, J2, J6, *, ↓reduceIte, reduceEqDiff, reduceAdd, reduceLT, reduceMul]
 rcases J8 h with ⟨h4, h⟩ | ⟨h4, h⟩
 ·obtain ⟨r5, h6, h⟩ := bi h
  have f7 := Jn1 p h6
  try simp only [Nf] at f7
  try simp only [↓Da, Ua, J0N, J7, J2, J6, *, ↓reduceIte, reduceEqDiff, reduceAdd, reduceLT, reduceMul]
  rcases J8 h with ⟨h8, h⟩ | ⟨h8, h⟩
  ·have h8n : ((r5.2 : Int) != 7) = false := by rw [bne, h8]; rfl
   obtain ⟨r9, h10, h⟩ := bi h
   have f11 := JqZ p h10
   try simp only [Nf] at f11
   obtain rfl := sj h
   try simp only [↓Da, Ua, J0N, J7, J2, J6, J7f, *, ↓reduceIte, reduceEqDiff, reduceAdd, reduceLT, reduceMul]
   rfl
  ·have h8n : ((r5.2 : Int) != 7) = true := by rw [bne, h8]; rfl
   try simp only [↓Da, Ua, J0N, J7, J2, J6, *, ↓reduceIte, reduceEqDiff, reduceAdd, reduceLT, reduceMul]
   rcases J8 h with ⟨h12, h⟩ | ⟨h12, h⟩
   ·obtain rfl := sj h
    try simp only [↓Da, Ua, J0N, J7, J2, J6, J7f, *, ↓reduceIte, reduceEqDiff, reduceAdd, reduceLT, reduceMul]
    rfl
   ·try simp only [↓Da, Ua, J0N, J7, J2, J6, *, ↓reduceIte, reduceEqDiff, reduceAdd, reduceLT, reduceMul]
    rcases J8 h with ⟨h13, h⟩ | ⟨h13, h⟩
    ·obtain rfl := sj h
     try simp only [↓Da, Ua, J0N, J7, J2, J6, J7f, *, ↓reduceIte, reduceEqDiff, reduceAdd, reduceLT, reduceMul]
     rfl
    ·obtain rfl := sj h
     try simp only [↓Da, Ua, J0N, J7, J2, J6, J7f, *, ↓reduceIte, reduceEqDiff, reduceAdd, reduceLT, reduceMul]
     rfl
 ·obtain rfl := sj h
  try simp only [↓Da, Ua, J0N, J7, J2, J6, J7f, *, ↓reduceIte, reduceEqDiff, reduceAdd, reduceLT, reduceMul]
  rfl
theorem JjF {x0 : List UInt8} {x1 : Int} {o : T_api_Page × Int} (h : J0v x0 x1 = some o) : AF (J1 p) J3o [.p (.s x0), .p (.i .i64 x1)] [] = Jdm o :=
 (J00 (J1 p) (JjV p) rfl).trans (JfZ p h)
theorem JaY {x0 : List UInt8} {x1 : Int} {o : T_api_Page × Int} (h : J0v x0 x1 = some o) : ∀ ws new st, (Jm (AF (J1 p)) J3o ([.p (.s x0), .p (.i .i64 x1)], ws) 0 new).run st = some ⟨.tup [.data (J4 o.1), .p (.i .i64 o.2)], ws⟩ := Jt rfl (JjF p h) rfl
def J6l  (r : T_api_Page × Int) : Option Res := some (.tup [.data (J4 r.1), .p (.i .i64 r.2)], [])
def Jd4 (x0 : List UInt8) (b0 : T_api_Page) (o : (Int × T_api_Page) ⊕ (T_api_Page × Int)) : Option Res := match o with
 | .inl s => rk (J1 p) J1s 0 [.bl 1, .sq (.keep [0, 2, 6] J0T)] (X (J1 p) (.lp 2 [0, 2, 6, 7] J0A) ⟨[(0, .p (.s x0)), (2, .ptr 0 0), (6, .ptr 1 0), (7, .p (.i .i64 s.1))], [.box (List.map AV.p (J4 b0)), .box (List.map AV.p (J4 s.2))]⟩)
 | .inr o => J6l o
def J55 (x0 : List UInt8) (x7 : Int) (b0 b1 : T_api_Page) : Option (((Int × T_api_Page) ⊕ (T_api_Page × Int))) :=
 some (.inl ((IntKind.wrap .i64 (x7 + 1)), b1))
theorem Jd1 {x0 : List UInt8} {x7 : Int} {b0 b1 : T_api_Page} {o : ((Int × T_api_Page) ⊕ (T_api_Page × Int))} (h : J55 x0 x7 b0 b1 = some o) :
  rk (J1 p) J1s 0 [.lo 2 [0, 2, 6, 7] J0A, .bl 1, .sq (.keep [0, 2, 6] J0T)] (X (J1 p) Jaj ⟨[(0, .p (.s x0)), (2, .ptr 0 0), (6, .ptr 1 0), (7, .p (.i .i64 x7))], [.box (List.map AV.p (J4 b0)), .box (List.map AV.p (J4 b1))]⟩) = (Jd4 p x0 b0) o := by
 unfold J55 at h
 obtain rfl := sj h
 try simp only [↓Da, Ua, Jaj, ↓reduceIte, reduceEqDiff, reduceAdd, reduceLT, reduceMul]
 rfl
def J2T (x0 : List UInt8) (b0 b1 : T_api_Page) : Option (T_api_Page × Int) :=
 Option.bind (J38 b1) fun r1 =>
 if ((r1.2 : Int) != 0) then
  some ((⟨0, 0, (Vector.replicate 16 (⟨false, []⟩ : Jf))⟩ : T_api_Page), 4)
 else
  if (r1.1 == x0) then
   some (b1, 0)
  else
   some ((⟨0, 0, (Vector.replicate 16 (⟨false, []⟩ : Jf))⟩ : T_api_Page), 4)
theorem Jiw {x0 : List UInt8} {b0 b1 : T_api_Page} {o : T_api_Page × Int} (h : J2T x0 b0 b1 = some o) :
  rk (J1 p) J1s 0 [] (X (J1 p) J0T ⟨[(0, .p (.s x0)), (2, .ptr 0 0), (6, .ptr 1 0)], [.box (List.map AV.p (J4 b0)), .box (List.map AV.p (J4 b1))]⟩) = J6l o := by
 unfold J2T at h
 obtain ⟨r1, h2, h⟩ := bi h
 have f3 := Je9 p h2
 try simp only [Nf] at f3
 try simp only [↓Da, Ua, J0T, J7, J2, J6, *, ↓reduceIte, reduceEqDiff, reduceAdd, reduceLT, reduceMul]
 rcases J8 h with ⟨h4, h⟩ | ⟨h4, h⟩
 ·obtain rfl := sj h
  try simp only [↓Da, Ua, J0T, J7, J2, J6, J4b, *, ↓reduceIte, reduceEqDiff, reduceAdd, reduceLT, reduceMul]
  rfl
 ·try simp only [↓Da, Ua, J0T, J7, J2, J6, *, ↓reduceIte, reduceEqDiff, reduceAdd, reduceLT, reduceMul]
  rcases J8 h with ⟨h5, h⟩ | ⟨h5, h⟩
  ·obtain rfl := sj h
   try simp only [↓Da, Ua, J0T, J7, J2, J6, J4b, *, ↓reduceIte, reduceEqDiff, reduceAdd, reduceLT, reduceMul]
   rfl
  ·obtain rfl := sj h
   try simp only [↓Da, Ua, J0T, J7, J2, J6, J4b, *, ↓reduceIte, reduceEqDiff, reduceAdd, reduceLT, reduceMul]
   rfl
def J2U (x0 : List UInt8) (b0 : T_api_Page) (x7 : Int) (b1 : T_api_Page) : Option (((Int × T_api_Page) ⊕ (T_api_Page × Int))) :=
 if (decide (x7 < 16)) then
  Option.bind (JcR x0 (IntKind.wrap .i64 (12 + (IntKind.wrap .i64 (x7 * 13))))) fun c2 =>
  if (((IntKind.wrap .i64 c2) : Int) == 255) then
   J55 x0 x7 b0 b1
  else
   if (decide ((IntKind.wrap .i64 c2) > 12)) then
    some (.inr ((⟨0, 0, (Vector.replicate 16 (⟨false, []⟩ : Jf))⟩ : T_api_Page), 4))
   else
    Option.bind (J0Z x0 (some (IntKind.wrap .i64 ((IntKind.wrap .i64 (12 + (IntKind.wrap .i64 (x7 * 13)))) + 1))) (some (IntKind.wrap .i64 ((IntKind.wrap .i64 ((IntKind.wrap .i64 (12 + (IntKind.wrap .i64 (x7 * 13)))) + 1)) + (IntKind.wrap .i64 c2))))) fun m6 =>
    Option.bind (inb 16 x7) fun u9 =>
    Option.bind (J8R b1.Cells x7) fun y12 =>
    J55 x0 x7 b0 (⟨b1.ID, b1.LSN, (Ja7 b1.Cells x7 (⟨true, m6⟩ : Jf))⟩ : T_api_Page)
 else
  Option.map (fun o => .inr o) (J2T x0 b0 b1)
theorem Jd8 {x0 : List UInt8} {b0 : T_api_Page} {x7 : Int} {b1 : T_api_Page} {o : ((Int × T_api_Page) ⊕ (T_api_Page × Int))} (h : J2U x0 b0 x7 b1 = some o) :
  rk (J1 p) J1s 0 [.lo 2 [0, 2, 6, 7] J0A, .bl 1, .sq (.keep [0, 2, 6] J0T)] (X (J1 p) J0A ⟨[(0, .p (.s x0)), (2, .ptr 0 0), (6, .ptr 1 0), (7, .p (.i .i64 x7))], [.box (List.map AV.p (J4 b0)), .box (List.map AV.p (J4 b1))]⟩) = (Jd4 p x0 b0) o := by
 unfold J2U at h
 rcases J8 h with ⟨h1, h⟩ | ⟨h1, h⟩
 ·obtain ⟨c2, h3, h⟩ := bi h
  try simp only [↓Da, Ua, J0A, J7, J2, J6, *, ↓reduceIte, reduceEqDiff, reduceAdd, reduceLT, reduceMul]
  rcases J8 h with ⟨h4, h⟩ | ⟨h4, h⟩
  ·have h4n : (((IntKind.wrap .i64 c2) : Int) != 255) = false := by rw [bne, h4]; rfl
   try simp only [↓Da, Ua, J0A, J7, J2, J6, *, ↓reduceIte, reduceEqDiff, reduceAdd, reduceLT, reduceMul]
   have e0 := Jd1 p h
   exact e0
  ·have h4n : (((IntKind.wrap .i64 c2) : Int) != 255) = true := by rw [bne, h4]; rfl
   try simp only [↓Da, Ua, J0A, J7, J2, J6, *, ↓reduceIte, reduceEqDiff, reduceAdd, reduceLT, reduceMul]
   rcases J8 h with ⟨h5, h⟩ | ⟨h5, h⟩
   ·obtain rfl := sj h
    try simp only [↓Da, Ua, J0A, J7, J2, J6, J4b, *, ↓reduceIte, reduceEqDiff, reduceAdd, reduceLT, reduceMul]
    rfl
   ·obtain ⟨m6, h7, h⟩ := bi h
    have f8 : J13 (.p (.s x0)) (some (.p (.i .i64 (IntKind.wrap .i64 ((IntKind.wrap .i64 (12 + (IntKind.wrap .i64 (x7 * 13)))) + 1))))) (some (.p (.i .i64 (IntKind.wrap .i64 ((IntKind.wrap .i64 ((IntKind.wrap .i64 (12 + (IntKind.wrap .i64 (x7 * 13)))) + 1)) + (IntKind.wrap .i64 c2)))))) = some (.p (.s m6)) := J0X (k := .i64) (lo := (some (IntKind.wrap .i64 ((IntKind.wrap .i64 (12 + (IntKind.wrap .i64 (x7 * 13)))) + 1)))) (hi := (some (IntKind.wrap .i64 ((IntKind.wrap .i64 ((IntKind.wrap .i64 (12 + (IntKind.wrap .i64 (x7 * 13)))) + 1)) + (IntKind.wrap .i64 c2))))) h7
    try simp only [Nf] at f8
    obtain ⟨u9, h10, h⟩ := bi h
    have f11 : (0 ≤ (x7 : Int) ∧ (x7 : Int) < ((16 : Nat) : Int)) = True := eq_true (J9m h10)
    obtain ⟨y12, h13, h⟩ := bi h
    have f14 : spl (J4 b1) (2 + Int.toNat x7 * 2) (Jk (⟨true, m6⟩ : Jf)) = some (J4 (⟨b1.ID, b1.LSN, (Ja7 b1.Cells x7 (⟨true, m6⟩ : Jf))⟩ : T_api_Page)) := by
     have e0 := (JkF (J11 b1) (Jkv (v := b1.Cells) JQ (Jh5 h13) (⟨true, m6⟩ : Jf)) (J7c b1 _))
     exact e0
    try simp only [Nf] at f14
    try simp only [↓Da, Ua, J0A, J7, J2, J6, *, ↓reduceIte, reduceEqDiff, reduceAdd, reduceLT, reduceMul]
    have e0 := Jd1 p h
    exact e0
 ·obtain ⟨o', h', rfl⟩ := mi h
  try simp only [↓Da, Ua, J0A, J7, J2, J6, *, ↓reduceIte, reduceEqDiff, reduceAdd, reduceLT, reduceMul]
  have e0 := Jiw p h'
  exact e0
def Jab (x0 : List UInt8) (b0 : T_api_Page) (s : Int × T_api_Page) : Option (T_api_Page × Int) :=
 Jr (fun s => J2U x0 b0 s.1 s.2) s
theorem Jgs {x0 : List UInt8} {b0 : T_api_Page} {s : Int × T_api_Page} {o : T_api_Page × Int} (h : Jab x0 b0 s = some o) :
  rk (J1 p) J1s 0 [.bl 1, .sq (.keep [0, 2, 6] J0T)] (X (J1 p) (.lp 2 [0, 2, 6, 7] J0A) ⟨[(0, .p (.s x0)), (2, .ptr 0 0), (6, .ptr 1 0), (7, .p (.i .i64 s.1))], [.box (List.map AV.p (J4 b0)), .box (List.map AV.p (J4 s.2))]⟩) = J6l o := by
 have h0 : Jr (fun s => J2U x0 b0 s.1 s.2) s = some o := h
 exact J04 (P := fun (s : Int × T_api_Page) (o : T_api_Page × Int) => rk (J1 p) J1s 0 [.bl 1, .sq (.keep [0, 2, 6] J0T)] (X (J1 p) (.lp 2 [0, 2, 6, 7] J0A) ⟨[(0, .p (.s x0)), (2, .ptr 0 0), (6, .ptr 1 0), (7, .p (.i .i64 s.1))], [.box (List.map AV.p (J4 b0)), .box (List.map AV.p (J4 s.2))]⟩) = J6l o) (fun s r hs => by rw [J03]; exact Jd8 p hs) (fun s s1 r hs ih => by rw [J03]; exact (Jd8 p hs).trans ih) h0
def J59 (x0 : List UInt8) : Option (T_api_Page × Int) :=
 if ((((List.length x0 : Nat) : Int) : Int) != 256) then
  some ((⟨0, 0, (Vector.replicate 16 (⟨false, []⟩ : Jf))⟩ : T_api_Page), 2)
 else
  Option.bind (J4Q) fun r2 =>
  if (x0 == r2) then
   some ((⟨0, 0, (Vector.replicate 16 (⟨false, []⟩ : Jf))⟩ : T_api_Page), 7)
  else
   Option.bind (J0Z x0 none (some 8)) fun m6 =>
   Option.bind (J0Z x0 (some 248) none) fun m9 =>
   if (m6 == m9) then
    Option.bind (J1o x0 244 4) fun r13 =>
    Option.bind (J0Z x0 none (some 244)) fun m16 =>
    Option.bind (J5o m16) fun r19 =>
    if (((IntKind.wrap .u32 r13.1) : Int) != r19) then
     some ((⟨0, 0, (Vector.replicate 16 (⟨false, []⟩ : Jf))⟩ : T_api_Page), 3)
    else
     Option.bind (J1o x0 0 8) fun r23 =>
     Option.bind (J1o x0 8 4) fun r26 =>
     Jab x0 (⟨0, 0, (Vector.replicate 16 (⟨false, []⟩ : Jf))⟩ : T_api_Page) (0, (⟨r26.1, r23.1, (Vector.replicate 16 (⟨false, []⟩ : Jf))⟩ : T_api_Page))
   else
    some ((⟨0, 0, (Vector.replicate 16 (⟨false, []⟩ : Jf))⟩ : T_api_Page), 27)
theorem Jgr {x0 : List UInt8} {o : T_api_Page × Int} (h : J59 x0 = some o) :
  rk (J1 p) J1s 0 [] (X (J1 p) J1r ⟨[(0, .p (.s x0))], []⟩) = J6l o := by
 unfold J59 at h
 rcases J8 h with ⟨h1, h⟩ | ⟨h1, h⟩
 ·obtain rfl := sj h
  try simp only [↓Da, Ua, J1r, J7, J2, J6, J4b, *, ↓reduceIte, reduceEqDiff, reduceAdd, reduceLT, reduceMul]
  rfl
 ·obtain ⟨r2, h3, h⟩ := bi h
  have f4 := JfJ p h3
  try simp only [Nf] at f4
  try simp only [↓Da, Ua, J1r, J7, J2, J6, *, ↓reduceIte, reduceEqDiff, reduceAdd, reduceLT, reduceMul]
  rcases J8 h with ⟨h5, h⟩ | ⟨h5, h⟩
  ·obtain rfl := sj h
   try simp only [↓Da, Ua, J1r, J7, J2, J6, J4b, *, ↓reduceIte, reduceEqDiff, reduceAdd, reduceLT, reduceMul]
   rfl
  ·obtain ⟨m6, h7, h⟩ := bi h
   have f8 : J13 (.p (.s x0)) none (some (.p (.i .i64 8))) = some (.p (.s m6)) := J0X (k := .i64) (lo := none) (hi := (some 8)) h7
   try simp only [Nf] at f8
   obtain ⟨m9, h10, h⟩ := bi h
   have f11 : J13 (.p (.s x0)) (some (.p (.i .i64 248))) none = some (.p (.s m9)) := J0X (k := .i64) (lo := (some 248)) (hi := none) h10
   try simp only [Nf] at f11
   try simp only [↓Da, Ua, J1r, J7, J2, J6, *, ↓reduceIte, reduceEqDiff, reduceAdd, reduceLT, reduceMul]
   rcases J8 h with ⟨h12, h⟩ | ⟨h12, h⟩
   ·obtain ⟨r13, h14, h⟩ := bi h
    have f15 := J8H p h14
    try simp only [Nf] at f15
    obtain ⟨m16, h17, h⟩ := bi h
    have f18 : J13 (.p (.s x0)) none (some (.p (.i .i64 244))) = some (.p (.s m16)) := J0X (k := .i64) (lo := none) (hi := (some 244)) h17
    try simp only [Nf] at f18
    obtain ⟨r19, h20, h⟩ := bi h
    have f21 := Jbw p h20
    try simp only [Nf] at f21
    try simp only [↓Da, Ua, J1r, J7, J2, J6, *, ↓reduceIte, reduceEqDiff, reduceAdd, reduceLT, reduceMul]
    rcases J8 h with ⟨h22, h⟩ | ⟨h22, h⟩
    ·obtain rfl := sj h
     try simp only [↓Da, Ua, J1r, J7, J2, J6, J4b, *, ↓reduceIte, reduceEqDiff, reduceAdd, reduceLT, reduceMul]
     rfl
    ·obtain ⟨r23, h24, h⟩ := bi h
     have f25 := J8H p h24
     try simp only [Nf] at f25
     obtain ⟨r26, h27, h⟩ := bi h
     have f28 := J8H p h27
     try simp only [Nf] at f28
     try simp only [↓Da, Ua, J1r, J7, J2, J6, *, ↓reduceIte, reduceEqDiff, reduceAdd, reduceLT, reduceMul]
     have e0 := Jgs p h
     exact e0
   ·obtain rfl := sj h
    try simp only [↓Da, Ua, J1r, J7, J2, J6, J4b, *, ↓reduceIte, reduceEqDiff, reduceAdd, reduceLT, reduceMul]
    rfl
theorem JkH {x0 : List UInt8} {o : T_api_Page × Int} (h : J59 x0 = some o) : AF (J1 p) J68 [.p (.s x0)] [] = J6l o :=
 (J00 (J1 p) (JkQ p) rfl).trans (Jgr p h)
theorem Jl4 {x0 : List UInt8} {o : T_api_Page × Int} (h : J59 x0 = some o) : ∀ ws new st, (Jm (AF (J1 p)) J68 ([.p (.s x0)], ws) 0 new).run st = some ⟨.tup [.data (J4 o.1), .p (.i .i64 o.2)], ws⟩ := Jt rfl (JkH p h) rfl
def J6G  (r : Bool) : Option Res := some (.p (.b r), [])
def Jjq (x35 : Int) (b0 : T_api_Image) (o : (Int) ⊕ (Bool)) : Option Res := match o with
 | .inl s => rk (J1 p) J2m 0 [.bl 0, .td 1 [2], .sq (.keep [] J4l)] (X (J1 p) (.lp 1 [1, 35, 36] JN) ⟨[(1, .ptr 0 0), (35, .p (.i .i64 x35)), (36, .p (.i .i64 s))], [.box (List.map AV.p (J3 b0))]⟩)
 | .inr o => J6G o
def JaR  : Option (Bool) :=
 some true
theorem Jk6 {B0 : List PV} {o : Bool} (h : JaR = some o) :
  rk (J1 p) J2m 0 [] (X (J1 p) J4l ⟨[], [.box (List.map AV.p B0)]⟩) = J6G o := by
 unfold JaR at h
 obtain rfl := sj h
 try simp only [↓Da, Ua, J4l, J1R, ↓reduceIte, reduceEqDiff, reduceAdd, reduceLT, reduceMul]
 rfl
def J3q (x35 : Int) (b0 : T_api_Image) (x36 : Int) : Option (((Int) ⊕ (Bool))) :=
 if (decide (x36 < x35)) then
  Option.bind (idx b0.Copies x36) fun y2 =>
  if (decide (y2.Page ≥ b0.Pages)) then
   some (.inr false)
  else
   if (decide (x36 > 0)) then
    Option.bind (idx b0.Copies (IntKind.wrap .i64 (x36 - 1))) fun y7 =>
    if (decide (y7.Page ≥ y2.Page)) then
     some (.inr false)
    else
     Option.bind (J0v y2.Data y2.Page) fun r11 =>
     if ((r11.2 : Int) != 0) then
      some (.inr false)
     else
      if ((r11.1.LSN : Int) != y2.LSN) then
       some (.inr false)
      else
       some (.inl (IntKind.wrap .i64 (x36 + 1)))
   else
    Option.bind (J0v y2.Data y2.Page) fun r16 =>
    if ((r16.2 : Int) != 0) then
     some (.inr false)
    else
     if ((r16.1.LSN : Int) != y2.LSN) then
      some (.inr false)
     else
      some (.inl (IntKind.wrap .i64 (x36 + 1)))
 else
  Option.map (fun o => .inr o) (JaR)
theorem Jdf {x35 : Int} {b0 : T_api_Image} {x36 : Int} {o : ((Int) ⊕ (Bool))} (h : J3q x35 b0 x36 = some o) :
  rk (J1 p) J2m 0 [.lo 1 [1, 35, 36] JN, .bl 0, .td 1 [2], .sq (.keep [] J4l)] (X (J1 p) JN ⟨[(1, .ptr 0 0), (35, .p (.i .i64 x35)), (36, .p (.i .i64 x36))], [.box (List.map AV.p (J3 b0))]⟩) = (Jjq p x35 b0) o := by
 unfold J3q at h
 rcases J8 h with ⟨h1, h⟩ | ⟨h1, h⟩
 ·obtain ⟨y2, h3, h⟩ := bi h
  have f4 := J43 (r := J5) h3
  try simp only [Nf] at f4
  try simp only [↓Da, Ua, JN, Je, J7, J2, J6, Ji, *, ↓reduceIte, reduceEqDiff, reduceAdd, reduceLT, reduceMul]
  rcases J8 h with ⟨h5, h⟩ | ⟨h5, h⟩
  ·obtain rfl := sj h
   try simp only [↓Da, Ua, JN, Je, J7, J2, J6, Ji, J1R, *, ↓reduceIte, reduceEqDiff, reduceAdd, reduceLT, reduceMul]
   rfl
  ·try simp only [↓Da, Ua, JN, Je, J7, J2, J6, Ji, *, ↓reduceIte, reduceEqDiff, reduceAdd, reduceLT, reduceMul]
   rcases J8 h with ⟨h6, h⟩ | ⟨h6, h⟩
   ·obtain ⟨y7, h8, h⟩ := bi h
    have f9 := J43 (r := J5) h8
    try simp only [Nf] at f9
    try simp only [↓Da, Ua, JN, Je, J7, J2, J6, Ji, *, ↓reduceIte, reduceEqDiff, reduceAdd, reduceLT, reduceMul]
    rcases J8 h with ⟨h10, h⟩ | ⟨h10, h⟩
    ·obtain rfl := sj h
     try simp only [↓Da, Ua, JN, Je, J7, J2, J6, Ji, J1R, *, ↓reduceIte, reduceEqDiff, reduceAdd, reduceLT, reduceMul]
     rfl
    ·obtain ⟨r11, h12, h⟩ := bi h
     have f13 := JaY p h12
     try simp only [Nf] at f13
     try simp only [↓Da, Ua, JN, Je, J7, J2, J6, Ji, *, ↓reduceIte, reduceEqDiff, reduceAdd, reduceLT, reduceMul]
     rcases J8 h with ⟨h14, h⟩ | ⟨h14, h⟩
     ·obtain rfl := sj h
      try simp only [↓Da, Ua, JN, Je, J7, J2, J6, Ji, J1R, *, ↓reduceIte, reduceEqDiff, reduceAdd, reduceLT, reduceMul]
      rfl
     ·try simp only [↓Da, Ua, JN, Je, J7, J2, J6, Ji, *, ↓reduceIte, reduceEqDiff, reduceAdd, reduceLT, reduceMul]
      rcases J8 h with ⟨h15, h⟩ | ⟨h15, h⟩
      ·obtain rfl := sj h
       try simp only [↓Da, Ua, JN, Je, J7, J2, J6, Ji, J1R, *, ↓reduceIte, reduceEqDiff, reduceAdd, reduceLT, reduceMul]
       rfl
      ·obtain rfl := sj h
       try simp only [↓Da, Ua, JN, Je, J7, J2, J6, Ji, *, ↓reduceIte, reduceEqDiff, reduceAdd, reduceLT, reduceMul]
       rfl
   ·obtain ⟨r16, h17, h⟩ := bi h
    have f18 := JaY p h17
    try simp only [Nf] at f18
    try simp only [↓Da, Ua, JN, Je, J7, J2, J6, Ji, *, ↓reduceIte, reduceEqDiff, reduceAdd, reduceLT, reduceMul]
    rcases J8 h with ⟨h19, h⟩ | ⟨h19, h⟩
    ·obtain rfl := sj h
     try simp only [↓Da, Ua, JN, Je, J7, J2, J6, Ji, J1R, *, ↓reduceIte, reduceEqDiff, reduceAdd, reduceLT, reduceMul]
     rfl
    ·try simp only [↓Da, Ua, JN, Je, J7, J2, J6, Ji, *, ↓reduceIte, reduceEqDiff, reduceAdd, reduceLT, reduceMul]
     rcases J8 h with ⟨h20, h⟩ | ⟨h20, h⟩
     ·obtain rfl := sj h
      try simp only [↓Da, Ua, JN, Je, J7, J2, J6, Ji, J1R, *, ↓reduceIte, reduceEqDiff, reduceAdd, reduceLT, reduceMul]
      rfl
     ·obtain rfl := sj h
      try simp only [↓Da, Ua, JN, Je, J7, J2, J6, Ji, *, ↓reduceIte, reduceEqDiff, reduceAdd, reduceLT, reduceMul]
      rfl
 ·obtain ⟨o', h', rfl⟩ := mi h
  try simp only [↓Da, Ua, JN, Je, J7, J2, J6, Ji, *, ↓reduceIte, reduceEqDiff, reduceAdd, reduceLT, reduceMul]
  have e0 := Jk6 p (B0 := (J3 b0)) h'
  exact e0
def J8X (x35 : Int) (b0 : T_api_Image) (s : Int) : Option (Bool) :=
 Jr (fun s => J3q x35 b0 s) s
theorem JhJ {x35 : Int} {b0 : T_api_Image} {s : Int} {o : Bool} (h : J8X x35 b0 s = some o) :
  rk (J1 p) J2m 0 [.bl 0, .td 1 [2], .sq (.keep [] J4l)] (X (J1 p) (.lp 1 [1, 35, 36] JN) ⟨[(1, .ptr 0 0), (35, .p (.i .i64 x35)), (36, .p (.i .i64 s))], [.box (List.map AV.p (J3 b0))]⟩) = J6G o := by
 have h0 : Jr (fun s => J3q x35 b0 s) s = some o := h
 exact J04 (P := fun (s : Int) (o : Bool) => rk (J1 p) J2m 0 [.bl 0, .td 1 [2], .sq (.keep [] J4l)] (X (J1 p) (.lp 1 [1, 35, 36] JN) ⟨[(1, .ptr 0 0), (35, .p (.i .i64 x35)), (36, .p (.i .i64 s))], [.box (List.map AV.p (J3 b0))]⟩) = J6G o) (fun s r hs => by rw [J03]; exact Jdf p hs) (fun s s1 r hs ih => by rw [J03]; exact (Jdf p hs).trans ih) h0
def J1g (x0 : T_api_Image) : Option (Bool) :=
 if (decide (x0.ID < 1)) then
  some false
 else
  if (decide (x0.ID > 1073741824)) then
   some false
  else
   if (decide (x0.Pages < 1)) then
    some false
   else
    if (decide (x0.Pages > 64)) then
     some false
    else
     if (decide (((List.length x0.Copies : Nat) : Int) > x0.Pages)) then
      some false
     else
      J8X ((List.length x0.Copies : Nat) : Int) x0 0
theorem JhH {x0 : T_api_Image} {o : Bool} (h : J1g x0 = some o) :
  rk (J1 p) J2m 0 [] (X (J1 p) J1c ⟨[(0, .data (J3 x0))], []⟩) = J6G o := by
 unfold J1g at h
 rcases J8 h with ⟨h1, h⟩ | ⟨h1, h⟩
 ·obtain rfl := sj h
  try simp only [↓Da, Ua, J1c, Je, Ji, J1R, *, ↓reduceIte, reduceEqDiff, reduceAdd, reduceLT, reduceMul]
  rfl
 ·try simp only [↓Da, Ua, J1c, Je, Ji, *, ↓reduceIte, reduceEqDiff, reduceAdd, reduceLT, reduceMul]
  rcases J8 h with ⟨h2, h⟩ | ⟨h2, h⟩
  ·obtain rfl := sj h
   try simp only [↓Da, Ua, J1c, Je, Ji, J1R, *, ↓reduceIte, reduceEqDiff, reduceAdd, reduceLT, reduceMul]
   rfl
  ·try simp only [↓Da, Ua, J1c, Je, Ji, *, ↓reduceIte, reduceEqDiff, reduceAdd, reduceLT, reduceMul]
   rcases J8 h with ⟨h3, h⟩ | ⟨h3, h⟩
   ·obtain rfl := sj h
    try simp only [↓Da, Ua, J1c, Je, Ji, J1R, *, ↓reduceIte, reduceEqDiff, reduceAdd, reduceLT, reduceMul]
    rfl
   ·try simp only [↓Da, Ua, J1c, Je, Ji, *, ↓reduceIte, reduceEqDiff, reduceAdd, reduceLT, reduceMul]
    rcases J8 h with ⟨h4, h⟩ | ⟨h4, h⟩
    ·obtain rfl := sj h
     try simp only [↓Da, Ua, J1c, Je, Ji, J1R, *, ↓reduceIte, reduceEqDiff, reduceAdd, reduceLT, reduceMul]
     rfl
    ·try simp only [↓Da, Ua, J1c, Je, Ji, *, ↓reduceIte, reduceEqDiff, reduceAdd, reduceLT, reduceMul]
     rcases J8 h with ⟨h5, h⟩ | ⟨h5, h⟩
     ·obtain rfl := sj h
      try simp only [↓Da, Ua, J1c, Je, Ji, J1R, *, ↓reduceIte, reduceEqDiff, reduceAdd, reduceLT, reduceMul]
      rfl
     ·try simp only [↓Da, Ua, J1c, Je, Ji, *, ↓reduceIte, reduceEqDiff, reduceAdd, reduceLT, reduceMul]
      have e0 := JhJ p h
      exact e0
theorem Jc2 {x0 : T_api_Image} {o : Bool} (h : J1g x0 = some o) : AF (J1 p) J4K [.data (J3 x0)] [] = J6G o :=
 (J00 (J1 p) (Jmv p) rfl).trans (JhH p h)
theorem Jfm {x0 : T_api_Image} {o : Bool} (h : J1g x0 = some o) : ∀ ws new st, (Jm (AF (J1 p)) J4K ([.data (J3 x0)], ws) 0 new).run st = some ⟨.p (.b o), ws⟩ := Jt rfl (Jc2 p h) rfl
end
end Go.Am
end
section
namespace Go.Am
set_option maxRecDepth 8000
set_option maxHeartbeats 4000000
set_option linter.unusedSimpArgs false
set_option linter.unusedVariables false
noncomputable section
variable (p : FuncId → Option (List AV → List Blk → Option Res))
def Jd9  (r : T_api_Copy) : Option Res := some (.data (J5 r), [])
def J3W (x0 : List UInt8) : Option (T_api_Copy) :=
 Option.bind (J0Z x0 (some 2) none) fun m1 =>
 Option.bind (JO x0 0 2) fun r4 =>
 Option.bind (J0v m1 r4.1) fun r7 =>
 some (⟨r4.1, r7.1.LSN, m1⟩ : T_api_Copy)
theorem JeD {x0 : List UInt8} {o : T_api_Copy} (h : J3W x0 = some o) :
  rk (J1 p) J5b 0 [] (X (J1 p) J6w ⟨[(0, .p (.s x0))], []⟩) = Jd9 o := by
 unfold J3W at h
 obtain ⟨m1, h2, h⟩ := bi h
 have f3 : J13 (.p (.s x0)) (some (.p (.i .i64 2))) none = some (.p (.s m1)) := J0X (k := .i64) (lo := (some 2)) (hi := none) h2
 try simp only [Nf] at f3
 obtain ⟨r4, h5, h⟩ := bi h
 have f6 := J7l p h5
 try simp only [Nf] at f6
 obtain ⟨r7, h8, h⟩ := bi h
 have f9 := JaY p h8
 try simp only [Nf] at f9
 obtain rfl := sj h
 try simp only [↓Da, Ua, J6w, J7, J2, J6, Ji, Jit, *, ↓reduceIte, reduceEqDiff, reduceAdd, reduceLT, reduceMul]
 rfl
theorem JiK {x0 : List UInt8} {o : T_api_Copy} (h : J3W x0 = some o) : AF (J1 p) J3Z [.p (.s x0)] [] = Jd9 o :=
 (J00 (J1 p) (JiN p) rfl).trans (JeD p h)
theorem Jix {x0 : List UInt8} {o : T_api_Copy} (h : J3W x0 = some o) : ∀ ws new st, (Jm (AF (J1 p)) J3Z ([.p (.s x0)], ws) 0 new).run st = some ⟨.data (J5 o), ws⟩ := Jt rfl (JiK p h) rfl
def JcG  (r : T_api_Page × Int) : Option Res := some (.tup [.data (J4 r.1), .p (.i .i64 r.2)], [])
def J1j (x0 : List UInt8) (x1 : Int) : Option (T_api_Page × Int) :=
 if (decide (x1 < 0)) then
  some ((⟨0, 0, (Vector.replicate 16 (⟨false, []⟩ : Jf))⟩ : T_api_Page), 1)
 else
  if (decide (x1 ≥ 64)) then
   some ((⟨0, 0, (Vector.replicate 16 (⟨false, []⟩ : Jf))⟩ : T_api_Page), 1)
  else
   Option.bind (J59 x0) fun r3 =>
   if ((r3.2 : Int) == 7) then
    Option.bind (J8A x1) fun r7 =>
    some (r7, 0)
   else
    if ((r3.2 : Int) == 0) then
     if ((r3.1.ID : Int) != x1) then
      some ((⟨0, 0, (Vector.replicate 16 (⟨false, []⟩ : Jf))⟩ : T_api_Page), 6)
     else
      some (r3.1, r3.2)
    else
     some (r3.1, r3.2)
theorem JeG {x0 : List UInt8} {x1 : Int} {o : T_api_Page × Int} (h : J1j x0 x1 = some o) :
  rk (J1 p) J5c 0 [] (X (J1 p) J0k ⟨[(0, .p (.s x0)), (1, .p (.i .i64 x1))], []⟩) = JcG o := by
 unfold J1j at h
 rcases J8 h with ⟨h1, h⟩ | ⟨h1, h⟩
 ·obtain rfl := sj h
  try simp only [↓Da, Ua, J0k, J7, J2, J6, J57, *, ↓reduceIte, reduceEqDiff, reduceAdd, reduceLT, reduceMul]
  rfl
 ·try simp only [↓Da, Ua, J0k, J7, J2, J6, *, ↓reduceIte, reduceEqDiff, reduceAdd, reduceLT, reduceMul]
  rcases J8 h with ⟨h2, h⟩ | ⟨h2, h⟩
  ·obtain rfl := sj h
   try simp only [↓Da, Ua, J0k, J7, J2, J6, J57, *, ↓reduceIte, reduceEqDiff, reduceAdd, reduceLT, reduceMul]
   rfl
  ·obtain ⟨r3, h4, h⟩ := bi h
   have f5 := Jl4 p h4
   try simp only [Nf] at f5
   try simp only [↓Da, Ua, J0k, J7, J2, J6, *, ↓reduceIte, reduceEqDiff, reduceAdd, reduceLT, reduceMul]
   rcases J8 h with ⟨h6, h⟩ | ⟨h6, h⟩
   ·have h6n : ((r3.2 : Int) != 7) = false := by rw [bne, h6]; rfl
    obtain ⟨r7, h8, h⟩ := bi h
    have f9 := Jpc p h8
    try simp only [Nf] at f9
    obtain rfl := sj h
    try simp only [↓Da, Ua, J0k, J7, J2, J6, J57, *, ↓reduceIte, reduceEqDiff, reduceAdd, reduceLT, reduceMul]
    rfl
   ·have h6n : ((r3.2 : Int) != 7) = true := by rw [bne, h6]; rfl
    try simp only [↓Da, Ua, J0k, J7, J2, J6, *, ↓reduceIte, reduceEqDiff, reduceAdd, reduceLT, reduceMul]
    rcases J8 h with ⟨h10, h⟩ | ⟨h10, h⟩
    ·have h10n : ((r3.2 : Int) != 0) = false := by rw [bne, h10]; rfl
     try simp only [↓Da, Ua, J0k, J7, J2, J6, *, ↓reduceIte, reduceEqDiff, reduceAdd, reduceLT, reduceMul]
     rcases J8 h with ⟨h11, h⟩ | ⟨h11, h⟩
     ·obtain rfl := sj h
      try simp only [↓Da, Ua, J0k, J7, J2, J6, J57, *, ↓reduceIte, reduceEqDiff, reduceAdd, reduceLT, reduceMul]
      rfl
     ·obtain rfl := sj h
      try simp only [↓Da, Ua, J0k, J7, J2, J6, J57, *, ↓reduceIte, reduceEqDiff, reduceAdd, reduceLT, reduceMul]
      rfl
    ·have h10n : ((r3.2 : Int) != 0) = true := by rw [bne, h10]; rfl
     obtain rfl := sj h
     try simp only [↓Da, Ua, J0k, J7, J2, J6, J57, *, ↓reduceIte, reduceEqDiff, reduceAdd, reduceLT, reduceMul]
     rfl
theorem JiP {x0 : List UInt8} {x1 : Int} {o : T_api_Page × Int} (h : J1j x0 x1 = some o) : AF (J1 p) J30 [.p (.s x0), .p (.i .i64 x1)] [] = JcG o :=
 (J00 (J1 p) (Jjg p) rfl).trans (JeG p h)
theorem J84 {x0 : List UInt8} {x1 : Int} {o : T_api_Page × Int} (h : J1j x0 x1 = some o) : ∀ ws new st, (Jm (AF (J1 p)) J30 ([.p (.s x0), .p (.i .i64 x1)], ws) 0 new).run st = some ⟨.tup [.data (J4 o.1), .p (.i .i64 o.2)], ws⟩ := Jt rfl (JiP p h) rfl
end
end Go.Am
end
section
end
section
namespace Go.Am
set_option maxRecDepth 8000
set_option linter.unusedSimpArgs false
set_option linter.unusedVariables false
noncomputable section
def JcI : List T_api_Copy → List UInt8 → Option (List UInt8)
 | [], s => some s
 | c :: r, s => Option.bind (J0i [] c.Page 2) fun b => Option.bind (J1Z b c.Data) fun d => Option.bind (J34 d) fun f =>
  if s.length + f.length ≤ 140737488355328 then JcI r (s ++ f) else none
def J2w (x0 : T_api_Image) : Option (List UInt8 × Int) :=
 Option.bind (J1g x0) fun v =>
 if v then
  Option.bind (J0i [80, 77, 73, 77] x0.ID 4) fun h1 => Option.bind (J0i h1 x0.Pages 2) fun h2 => Option.bind (J0i h2 ((x0.Copies.length : Nat) : Int) 2) fun h3 => Option.bind (J34 h3) fun f =>
  if f.length ≤ 140737488355328 then Option.bind (JcI x0.Copies f) fun s => some (s, 0) else none
 else some ([], 43)
theorem Jqd {α β : Type} {r : α → β} (h : ∀ x y, r x = r y → x = y) : ∀ {a b : List α}, a.map r = b.map r → a = b
 | [], [], _ => rfl
 | [], _ :: _, e => by simp at e
 | _ :: _, [], e => by simp at e
 | x :: a, y :: b, e => by
  simp only [List.map_cons, List.cons.injEq] at e
  rw [h x y e.1, Jqd h e.2]
theorem JtU (x y : T_api_Copy) (h : J5 x = J5 y) : x = y := by
 cases x; cases y
 simp [J5, cat] at h
 simp [h]
theorem Jrk (x y : T_api_Image) (h : J3 x = J3 y) : x = y := by
 cases x; cases y
 simp only [J3, cat, List.cons_append, List.nil_append, List.cons.injEq, PV.i.injEq, PV.sl.injEq, true_and, and_true] at h
 obtain ⟨h1, h2, h3⟩ := h
 rw [h1, h2, Jqd JtU h3]
open Classical in
def JdL : List AV → List Blk → Option Res := fun args blks =>
 if h : ∃ x o, args = [.data (J3 x)] ∧ J2w x = some o then some (.tup [.p (.s (Classical.choose (Classical.choose_spec h)).1), .p (.i .i64 (Classical.choose (Classical.choose_spec h)).2)], blks) else none
theorem Jq7 {args : List AV} {blks : List Blk} {r : Res} (h : JdL args blks = some r) : ∃ x o, args = [.data (J3 x)] ∧ J2w x = some o ∧ r = (.tup [.p (.s o.1), .p (.i .i64 o.2)], blks) := by
 unfold JdL at h
 split at h
 ·rename_i hx
  injection h with h
  have h2 := Classical.choose_spec (Classical.choose_spec hx)
  exact ⟨_, _, h2.1, h2.2, h.symm⟩
 ·cases h
theorem Jvk {x : T_api_Image} {o : List UInt8 × Int} (blks : List Blk) (h : J2w x = some o) : JdL [.data (J3 x)] blks = some (.tup [.p (.s o.1), .p (.i .i64 o.2)], blks) := by
 cases hr : JdL [.data (J3 x)] blks with
 | some r =>
  obtain ⟨x', o', h1, h2, h3⟩ := Jq7 hr
  simp only [List.cons.injEq, AV.data.injEq, and_true] at h1
  rw [Jrk _ _ h1, h2] at h
  injection h with h
  rw [h3, h]
 | none =>
  unfold JdL at hr
  rw [dif_pos ⟨x, o, rfl, h⟩] at hr
  cases hr
abbrev PS := { p : FuncId → Option (List AV → List Blk → Option Res) // p J0M = some JdL }
theorem Jlf (p : PS) : J1 p J0M = some (.prim JdL) := by
 show Jtm (lkF J0M fns) (lkF J0M Jkh) (lkF J0M Jk8) (p.1 J0M) = _
 rw [p.2]
 rfl
theorem Jeo (p : PS) {x0 : T_api_Image} {o : List UInt8 × Int} (h : J2w x0 = some o) : AF (J1 p) J0M [.data (J3 x0)] [] = some (.tup [.p (.s o.1), .p (.i .i64 o.2)], []) := by
 rw [JkZ (Jlf p)]
 exact Jvk [] h
end
end Go.Am
end
section
namespace Go.Am
set_option maxRecDepth 8000
set_option maxHeartbeats 4000000
set_option linter.unusedSimpArgs false
set_option linter.unusedVariables false
noncomputable section
variable (p : PS)
def J6e  (r : T_api_Image × Int) : Option Res := some (.tup [.data (J3 r.1), .p (.i .i64 r.2)], [])
def JiI (x0 : List UInt8) (x49 : Int) (l0 : List T_api_Copy) (b1_0 b1_1 : Int) (b3_0 b3_1 : Int) (w0 w2 : Bool) (o : (Int × Int × (List T_api_Copy)) ⊕ (T_api_Image × Int)) : Option Res := match o with
 | .inl s => rk (J1 p) J1U 0 [.bl 0, .td 4 [0, 2, 3, 5, 7], .sq (.keep [0, 2, 5, 7] J1G)] (X (J1 p) (.lp 4 [0, 2, 5, 7, 49, 50] J0V) ⟨[(0, .p (.s x0)), (2, .ptr 1 0), (5, .p (.i .i64 s.1)), (7, .ptr 3 0), (49, .p (.i .i64 x49)), (50, .p (.i .i64 s.2.1))], [.arr w0 3 (List.map J5 l0), .box [.p (.i .i64 b1_0), .p (.i .i64 b1_1), .slr 0 0 (List.length l0)], .arr w2 3 (List.map J5 s.2.2), .box [.p (.i .i64 b3_0), .p (.i .i64 b3_1), .slr 2 0 (List.length s.2.2)]]⟩)
 | .inr o => J6e o
def J8c (x0 : List UInt8) (x5 : Int) (l0 : List T_api_Copy) (b1_0 b1_1 : Int) (l2 : List T_api_Copy) (b3_0 b3_1 : Int) : Option (T_api_Image × Int) :=
 if (decide (x5 < ((List.length x0 : Nat) : Int))) then
  some ((⟨0, 0, ([] : List T_api_Copy)⟩ : T_api_Image), 4)
 else
  Option.bind (J1g (⟨b3_0, b3_1, l2⟩ : T_api_Image)) fun r2 =>
  if r2 then
   some ((⟨b3_0, b3_1, l2⟩ : T_api_Image), 0)
  else
   some ((⟨0, 0, ([] : List T_api_Copy)⟩ : T_api_Image), 43)
theorem Jj7 {x0 : List UInt8} {x5 : Int} {l0 : List T_api_Copy} {b1_0 b1_1 : Int} {l2 : List T_api_Copy} {b3_0 b3_1 : Int} {w0 w2 : Bool} {o : T_api_Image × Int} (h : J8c x0 x5 l0 b1_0 b1_1 l2 b3_0 b3_1 = some o) :
  rk (J1 p) J1U 0 [] (X (J1 p) J1G ⟨[(0, .p (.s x0)), (2, .ptr 1 0), (5, .p (.i .i64 x5)), (7, .ptr 3 0)], [.arr w0 3 (List.map J5 l0), .box [.p (.i .i64 b1_0), .p (.i .i64 b1_1), .slr 0 0 (List.length l0)], .arr w2 3 (List.map J5 l2), .box [.p (.i .i64 b3_0), .p (.i .i64 b3_1), .slr 2 0 (List.length l2)]]⟩) = J6e o := by
 unfold J8c at h
 rcases J8 h with ⟨h1, h⟩ | ⟨h1, h⟩
 ·obtain rfl := sj h
  try simp only [↓Da, Ua, J1G, Ja, Jc, J37, *, ↓reduceIte, reduceEqDiff, reduceAdd, reduceLT, reduceMul]
  rfl
 ·obtain ⟨r2, h3, h⟩ := bi h
  have f4 := Jfm p h3
  try simp only [Nf, Ja, Jc] at f4
  try simp only [↓Da, Ua, J1G, Ja, Jc, *, ↓reduceIte, reduceEqDiff, reduceAdd, reduceLT, reduceMul]
  rcases J8 h with ⟨h5, h⟩ | ⟨h5, h⟩
  ·obtain rfl := sj h
   try simp only [↓Da, Ua, J1G, Ja, Jc, J37, *, ↓reduceIte, reduceEqDiff, reduceAdd, reduceLT, reduceMul]
   rfl
  ·obtain rfl := sj h
   try simp only [↓Da, Ua, J1G, Ja, Jc, J37, *, ↓reduceIte, reduceEqDiff, reduceAdd, reduceLT, reduceMul]
   rfl
def J2i (x0 : List UInt8) (x49 : Int) (l0 : List T_api_Copy) (b1_0 b1_1 : Int) (b3_0 b3_1 : Int) (x5 x50 : Int) (l2 : List T_api_Copy) : Option (((Int × Int × (List T_api_Copy)) ⊕ (T_api_Image × Int))) :=
 if (decide (x50 < x49)) then
  Option.bind (J2M x0 x5) fun r2 =>
  if ((r2.2.2 : Int) != 0) then
   some (.inr ((⟨0, 0, ([] : List T_api_Copy)⟩ : T_api_Image), r2.2.2))
  else
   if ((((List.length r2.1 : Nat) : Int) : Int) != 258) then
    some (.inr ((⟨0, 0, ([] : List T_api_Copy)⟩ : T_api_Image), 4))
   else
    Option.bind (J3W r2.1) fun r7 =>
    Option.bind (Jbf 32 l2 ([r7] : List T_api_Copy)) fun m11 =>
    some (.inl (r2.2.1, (IntKind.wrap .i64 (x50 + 1)), m11))
 else
  Option.map (fun o => .inr o) (J8c x0 x5 l0 b1_0 b1_1 l2 b3_0 b3_1)
theorem Jcw {x0 : List UInt8} {x49 : Int} {l0 : List T_api_Copy} {b1_0 b1_1 : Int} {b3_0 b3_1 : Int} {x5 x50 : Int} {l2 : List T_api_Copy} {w0 w2 : Bool} {o : ((Int × Int × (List T_api_Copy)) ⊕ (T_api_Image × Int))} (h : J2i x0 x49 l0 b1_0 b1_1 b3_0 b3_1 x5 x50 l2 = some o) :
  rk (J1 p) J1U 0 [.lo 4 [0, 2, 5, 7, 49, 50] J0V, .bl 0, .td 4 [0, 2, 3, 5, 7], .sq (.keep [0, 2, 5, 7] J1G)] (X (J1 p) J0V ⟨[(0, .p (.s x0)), (2, .ptr 1 0), (5, .p (.i .i64 x5)), (7, .ptr 3 0), (49, .p (.i .i64 x49)), (50, .p (.i .i64 x50))], [.arr w0 3 (List.map J5 l0), .box [.p (.i .i64 b1_0), .p (.i .i64 b1_1), .slr 0 0 (List.length l0)], .arr w2 3 (List.map J5 l2), .box [.p (.i .i64 b3_0), .p (.i .i64 b3_1), .slr 2 0 (List.length l2)]]⟩) = (JiI p x0 x49 l0 b1_0 b1_1 b3_0 b3_1 w0 w2) o := by
 unfold J2i at h
 rcases J8 h with ⟨h1, h⟩ | ⟨h1, h⟩
 ·obtain ⟨r2, h3, h⟩ := bi h
  have f4 := Jdj p h3
  try simp only [Nf, Ja, Jc] at f4
  try simp only [↓Da, Ua, Ra, J0V, Ja, Jc, *, ↓reduceIte, reduceEqDiff, reduceAdd, reduceLT, reduceMul, Nat.reduceBEq]
  rcases J8 h with ⟨h5, h⟩ | ⟨h5, h⟩
  ·obtain rfl := sj h
   try simp only [↓Da, Ua, Ra, J0V, Ja, Jc, J37, *, ↓reduceIte, reduceEqDiff, reduceAdd, reduceLT, reduceMul, Nat.reduceBEq]
   rfl
  ·try simp only [↓Da, Ua, Ra, J0V, Ja, Jc, *, ↓reduceIte, reduceEqDiff, reduceAdd, reduceLT, reduceMul, Nat.reduceBEq]
   rcases J8 h with ⟨h6, h⟩ | ⟨h6, h⟩
   ·obtain rfl := sj h
    try simp only [↓Da, Ua, Ra, J0V, Ja, Jc, J37, *, ↓reduceIte, reduceEqDiff, reduceAdd, reduceLT, reduceMul, Nat.reduceBEq]
    rfl
   ·obtain ⟨r7, h8, h⟩ := bi h
    have f9 := Jix p h8
    try simp only [Nf, Ja, Jc] at f9
    have f10 : ∀ ws k new s, Jg ((Jm (AF (J1 p)) J3Z ([.p (.s r2.1)], ws) k new).reads s) = [] := J05 rfl
    try simp only [Nf, Ja, Jc] at f10
    obtain ⟨m11, h12, h⟩ := bi h
    have f13 : ∀ s : St, s.sto[2]? = some (.arr w2 3 (List.map J5 l2)) → (JT 3 (.p (.sl 3 (List.map J5 ([r7] : List T_api_Copy))))).run s = some (List.map J5 ([r7] : List T_api_Copy)) → (J4t 3 32 (.slr 2 0 (List.length l2)) (.p (.sl 3 (List.map J5 ([r7] : List T_api_Copy))))).run s = some ⟨.slr 2 0 (List.length m11), [(2, .arr w2 3 (List.map J5 m11))]⟩ := by
     intro s e1 e2; have e3 := Jct h12 e1 e2; try simp only [List.length_cons, List.length_nil, Nat.zero_add] at e3
     exact e3
    try simp only [Nf, Ja, Jc] at f13
    obtain rfl := sj h
    try simp only [↓Da, Ua, Ra, J0V, Ja, Jc, *, ↓reduceIte, reduceEqDiff, reduceAdd, reduceLT, reduceMul, Nat.reduceBEq]
    rfl
 ·obtain ⟨o', h', rfl⟩ := mi h
  try simp only [↓Da, Ua, Ra, J0V, Ja, Jc, *, ↓reduceIte, reduceEqDiff, reduceAdd, reduceLT, reduceMul, Nat.reduceBEq]
  have e0 := Jj7 p (w0 := w0) (w2 := w2) h'
  exact e0
def JcH (x0 : List UInt8) (x49 : Int) (l0 : List T_api_Copy) (b1_0 b1_1 : Int) (b3_0 b3_1 : Int) (s : Int × Int × (List T_api_Copy)) : Option (T_api_Image × Int) :=
 Jr (fun s => J2i x0 x49 l0 b1_0 b1_1 b3_0 b3_1 s.1 s.2.1 s.2.2) s
theorem Jg7 {x0 : List UInt8} {x49 : Int} {l0 : List T_api_Copy} {b1_0 b1_1 : Int} {b3_0 b3_1 : Int} {w0 w2 : Bool} {s : Int × Int × (List T_api_Copy)} {o : T_api_Image × Int} (h : JcH x0 x49 l0 b1_0 b1_1 b3_0 b3_1 s = some o) :
  rk (J1 p) J1U 0 [.bl 0, .td 4 [0, 2, 3, 5, 7], .sq (.keep [0, 2, 5, 7] J1G)] (X (J1 p) (.lp 4 [0, 2, 5, 7, 49, 50] J0V) ⟨[(0, .p (.s x0)), (2, .ptr 1 0), (5, .p (.i .i64 s.1)), (7, .ptr 3 0), (49, .p (.i .i64 x49)), (50, .p (.i .i64 s.2.1))], [.arr w0 3 (List.map J5 l0), .box [.p (.i .i64 b1_0), .p (.i .i64 b1_1), .slr 0 0 (List.length l0)], .arr w2 3 (List.map J5 s.2.2), .box [.p (.i .i64 b3_0), .p (.i .i64 b3_1), .slr 2 0 (List.length s.2.2)]]⟩) = J6e o := by
 have h0 : Jr (fun s => J2i x0 x49 l0 b1_0 b1_1 b3_0 b3_1 s.1 s.2.1 s.2.2) s = some o := h
 exact J04 (P := fun (s : Int × Int × (List T_api_Copy)) (o : T_api_Image × Int) => rk (J1 p) J1U 0 [.bl 0, .td 4 [0, 2, 3, 5, 7], .sq (.keep [0, 2, 5, 7] J1G)] (X (J1 p) (.lp 4 [0, 2, 5, 7, 49, 50] J0V) ⟨[(0, .p (.s x0)), (2, .ptr 1 0), (5, .p (.i .i64 s.1)), (7, .ptr 3 0), (49, .p (.i .i64 x49)), (50, .p (.i .i64 s.2.1))], [.arr w0 3 (List.map J5 l0), .box [.p (.i .i64 b1_0), .p (.i .i64 b1_1), .slr 0 0 (List.length l0)], .arr w2 3 (List.map J5 s.2.2), .box [.p (.i .i64 b3_0), .p (.i .i64 b3_1), .slr 2 0 (List.length s.2.2)]]⟩) = J6e o) (fun s r hs => by rw [J03]; exact Jcw p hs) (fun s s1 r hs ih => by rw [J03]; exact (Jcw p hs).trans ih) h0
def J5a (x0 : List UInt8) : Option (T_api_Image × Int) :=
 Option.bind (J2M x0 0) fun r1 =>
 if ((r1.2.2 : Int) != 0) then
  some ((⟨0, 0, ([] : List T_api_Copy)⟩ : T_api_Image), r1.2.2)
 else
  if ((((List.length r1.1 : Nat) : Int) : Int) != 12) then
   some ((⟨0, 0, ([] : List T_api_Copy)⟩ : T_api_Image), 4)
  else
   Option.bind (J2F r1.1 ([80, 77, 73, 77])) fun r6 =>
   if r6 then
    Option.bind (JO r1.1 4 4) fun r10 =>
    Option.bind (JO r1.1 8 2) fun r13 =>
    Option.bind (JO r1.1 10 2) fun r16 =>
    if (decide (r16.1 > 64)) then
     some ((⟨0, 0, ([] : List T_api_Copy)⟩ : T_api_Image), 4)
    else
     JcH x0 r16.1 ([] : List T_api_Copy) 0 0 r10.1 r13.1 (r1.2.1, 0, ([] : List T_api_Copy))
   else
    some ((⟨0, 0, ([] : List T_api_Copy)⟩ : T_api_Image), 4)
theorem JgQ {x0 : List UInt8} {o : T_api_Image × Int} (h : J5a x0 = some o) :
  rk (J1 p) J1U 0 [] (X (J1 p) J18 ⟨[(0, .p (.s x0))], []⟩) = J6e o := by
 unfold J5a at h
 obtain ⟨r1, h2, h⟩ := bi h
 have f3 := Jdj p h2
 try simp only [Nf, Ja, Jc] at f3
 try simp only [↓Da, Ua, J18, Ja, Jc, *, ↓reduceIte, reduceEqDiff, reduceAdd, reduceLT, reduceMul]
 rcases J8 h with ⟨h4, h⟩ | ⟨h4, h⟩
 ·obtain rfl := sj h
  try simp only [↓Da, Ua, J18, Ja, Jc, J37, *, ↓reduceIte, reduceEqDiff, reduceAdd, reduceLT, reduceMul]
  rfl
 ·try simp only [↓Da, Ua, J18, Ja, Jc, *, ↓reduceIte, reduceEqDiff, reduceAdd, reduceLT, reduceMul]
  rcases J8 h with ⟨h5, h⟩ | ⟨h5, h⟩
  ·obtain rfl := sj h
   try simp only [↓Da, Ua, J18, Ja, Jc, J37, *, ↓reduceIte, reduceEqDiff, reduceAdd, reduceLT, reduceMul]
   rfl
  ·obtain ⟨r6, h7, h⟩ := bi h
   have f8 := JfP p h7
   try simp only [Nf, Ja, Jc] at f8
   try simp only [↓Da, Ua, J18, Ja, Jc, *, ↓reduceIte, reduceEqDiff, reduceAdd, reduceLT, reduceMul]
   rcases J8 h with ⟨h9, h⟩ | ⟨h9, h⟩
   ·obtain ⟨r10, h11, h⟩ := bi h
    have f12 := J7l p h11
    try simp only [Nf, Ja, Jc] at f12
    obtain ⟨r13, h14, h⟩ := bi h
    have f15 := J7l p h14
    try simp only [Nf, Ja, Jc] at f15
    obtain ⟨r16, h17, h⟩ := bi h
    have f18 := J7l p h17
    try simp only [Nf, Ja, Jc] at f18
    try simp only [↓Da, Ua, J18, Ja, Jc, *, ↓reduceIte, reduceEqDiff, reduceAdd, reduceLT, reduceMul]
    rcases J8 h with ⟨h19, h⟩ | ⟨h19, h⟩
    ·obtain rfl := sj h
     try simp only [↓Da, Ua, J18, Ja, Jc, J37, *, ↓reduceIte, reduceEqDiff, reduceAdd, reduceLT, reduceMul]
     rfl
    ·try simp only [↓Da, Ua, J18, Ja, Jc, *, ↓reduceIte, reduceEqDiff, reduceAdd, reduceLT, reduceMul]
     have e0 := Jg7 p (w0 := true) (w2 := true) h
     exact e0
   ·obtain rfl := sj h
    try simp only [↓Da, Ua, J18, Ja, Jc, J37, *, ↓reduceIte, reduceEqDiff, reduceAdd, reduceLT, reduceMul]
    rfl
theorem JkN {x0 : List UInt8} {o : T_api_Image × Int} (h : J5a x0 = some o) : AF (J1 p) J6a [.p (.s x0)] [] = J6e o :=
 (J00 (J1 p) (Jla p) rfl).trans (JgQ p h)
theorem Jlk {x0 : List UInt8} {o : T_api_Image × Int} (h : J5a x0 = some o) : ∀ ws new st, (Jm (AF (J1 p)) J6a ([.p (.s x0)], ws) 0 new).run st = some ⟨.tup [.data (J3 o.1), .p (.i .i64 o.2)], ws⟩ := Jt rfl (JkN p h) rfl
def Ja0 (x1 : Int) (x2 : List UInt8) (x10 b0_0 b0_1 : Int) (b1 : T_api_Image) (b2 : T_api_Page) (l3 : List T_api_Copy) : Option (T_api_Image × Int) :=
 Option.bind (idx l3 x10) fun y1 =>
 Option.bind (some (List.set l3 (Int.toNat x10) (⟨x1, b2.LSN, x2⟩ : T_api_Copy))) fun m5 =>
 some ((⟨b0_0, b0_1, m5⟩ : T_api_Image), 0)
def J3A (x0 : T_api_Image) (x1 : Int) (x2 : List UInt8) : Option (T_api_Image × Int) :=
 Option.bind (J1g x0) fun r1 =>
 if r1 then
  if (decide (x1 < 0)) then
   some ((⟨0, 0, ([] : List T_api_Copy)⟩ : T_api_Image), 1)
  else
   if (decide (x1 ≥ x0.Pages)) then
    some ((⟨0, 0, ([] : List T_api_Copy)⟩ : T_api_Image), 1)
   else
    Option.bind (J0v x2 x1) fun r7 =>
    if ((r7.2 : Int) != 0) then
     some ((⟨0, 0, ([] : List T_api_Copy)⟩ : T_api_Image), r7.2)
    else
     Option.bind (JbZ x0 x1) fun r11 =>
     Option.bind (J3Y x0.Copies) fun r14 =>
     if r11.2 then
      Ja0 x1 x2 r11.1 x0.ID x0.Pages (⟨0, 0, ([] : List T_api_Copy)⟩ : T_api_Image) r7.1 r14
     else
      Option.bind (J3C r14 r11.1 ([(⟨0, 0, ([] : List UInt8)⟩ : T_api_Copy)] : List T_api_Copy)) fun r18 =>
      Ja0 x1 x2 r11.1 x0.ID x0.Pages (⟨0, 0, ([] : List T_api_Copy)⟩ : T_api_Image) r7.1 r18
 else
  some ((⟨0, 0, ([] : List T_api_Copy)⟩ : T_api_Image), 43)
def J6T  (r : Bool) : Option Res := some (.p (.b r), [])
def JjI (b0 : T_api_Image) (o : (Int) ⊕ (Bool)) : Option Res := match o with
 | .inl s => rk (J1 p) J2s 0 [.bl 0, .td 1 [2], .sq (.keep [] J4r)] (X (J1 p) (.lp 1 [1, 3] JJ) ⟨[(1, .ptr 0 0), (3, .p (.i .i64 s))], [.box (List.map AV.p (J3 b0))]⟩)
 | .inr o => J6T o
def JaT  : Option (Bool) :=
 some true
theorem JjS {B0 : List PV} {o : Bool} (h : JaT = some o) :
  rk (J1 p) J2s 0 [] (X (J1 p) J4r ⟨[], [.box (List.map AV.p B0)]⟩) = J6T o := by
 unfold JaT at h
 obtain rfl := sj h
 try simp only [↓Da, Ua, J4r, J1T, ↓reduceIte, reduceEqDiff, reduceAdd, reduceLT, reduceMul]
 rfl
def J3m (b0 : T_api_Image) (x3 : Int) : Option (((Int) ⊕ (Bool))) :=
 if (decide (x3 < ((List.length b0.Copies : Nat) : Int))) then
  Option.bind (idx b0.Copies x3) fun y2 =>
  if (decide (y2.Page < 0)) then
   some (.inr false)
  else
   if (decide (y2.Page ≥ b0.Pages)) then
    some (.inr false)
   else
    if (decide (x3 > 0)) then
     Option.bind (idx b0.Copies (IntKind.wrap .i64 (x3 - 1))) fun y8 =>
     if (decide (y8.Page ≥ y2.Page)) then
      some (.inr false)
     else
      Option.bind (J1j y2.Data y2.Page) fun r12 =>
      if ((r12.2 : Int) != 0) then
       some (.inr false)
      else
       if ((r12.1.LSN : Int) != y2.LSN) then
        some (.inr false)
       else
        some (.inl (IntKind.wrap .i64 (x3 + 1)))
    else
     Option.bind (J1j y2.Data y2.Page) fun r17 =>
     if ((r17.2 : Int) != 0) then
      some (.inr false)
     else
      if ((r17.1.LSN : Int) != y2.LSN) then
       some (.inr false)
      else
       some (.inl (IntKind.wrap .i64 (x3 + 1)))
 else
  Option.map (fun o => .inr o) (JaT)
theorem Jdu {b0 : T_api_Image} {x3 : Int} {o : ((Int) ⊕ (Bool))} (h : J3m b0 x3 = some o) :
  rk (J1 p) J2s 0 [.lo 1 [1, 3] JJ, .bl 0, .td 1 [2], .sq (.keep [] J4r)] (X (J1 p) JJ ⟨[(1, .ptr 0 0), (3, .p (.i .i64 x3))], [.box (List.map AV.p (J3 b0))]⟩) = (JjI p b0) o := by
 unfold J3m at h
 rcases J8 h with ⟨h1, h⟩ | ⟨h1, h⟩
 ·obtain ⟨y2, h3, h⟩ := bi h
  have f4 := J43 (r := J5) h3
  try simp only [Nf] at f4
  try simp only [↓Da, Ua, JJ, Je, J7, J2, J6, Ji, *, ↓reduceIte, reduceEqDiff, reduceAdd, reduceLT, reduceMul]
  rcases J8 h with ⟨h5, h⟩ | ⟨h5, h⟩
  ·obtain rfl := sj h
   try simp only [↓Da, Ua, JJ, Je, J7, J2, J6, Ji, J1T, *, ↓reduceIte, reduceEqDiff, reduceAdd, reduceLT, reduceMul]
   rfl
  ·try simp only [↓Da, Ua, JJ, Je, J7, J2, J6, Ji, *, ↓reduceIte, reduceEqDiff, reduceAdd, reduceLT, reduceMul]
   rcases J8 h with ⟨h6, h⟩ | ⟨h6, h⟩
   ·obtain rfl := sj h
    try simp only [↓Da, Ua, JJ, Je, J7, J2, J6, Ji, J1T, *, ↓reduceIte, reduceEqDiff, reduceAdd, reduceLT, reduceMul]
    rfl
   ·try simp only [↓Da, Ua, JJ, Je, J7, J2, J6, Ji, *, ↓reduceIte, reduceEqDiff, reduceAdd, reduceLT, reduceMul]
    rcases J8 h with ⟨h7, h⟩ | ⟨h7, h⟩
    ·obtain ⟨y8, h9, h⟩ := bi h
     have f10 := J43 (r := J5) h9
     try simp only [Nf] at f10
     try simp only [↓Da, Ua, JJ, Je, J7, J2, J6, Ji, *, ↓reduceIte, reduceEqDiff, reduceAdd, reduceLT, reduceMul]
     rcases J8 h with ⟨h11, h⟩ | ⟨h11, h⟩
     ·obtain rfl := sj h
      try simp only [↓Da, Ua, JJ, Je, J7, J2, J6, Ji, J1T, *, ↓reduceIte, reduceEqDiff, reduceAdd, reduceLT, reduceMul]
      rfl
     ·obtain ⟨r12, h13, h⟩ := bi h
      have f14 := J84 p h13
      try simp only [Nf] at f14
      try simp only [↓Da, Ua, JJ, Je, J7, J2, J6, Ji, *, ↓reduceIte, reduceEqDiff, reduceAdd, reduceLT, reduceMul]
      rcases J8 h with ⟨h15, h⟩ | ⟨h15, h⟩
      ·obtain rfl := sj h
       try simp only [↓Da, Ua, JJ, Je, J7, J2, J6, Ji, J1T, *, ↓reduceIte, reduceEqDiff, reduceAdd, reduceLT, reduceMul]
       rfl
      ·try simp only [↓Da, Ua, JJ, Je, J7, J2, J6, Ji, *, ↓reduceIte, reduceEqDiff, reduceAdd, reduceLT, reduceMul]
       rcases J8 h with ⟨h16, h⟩ | ⟨h16, h⟩
       ·obtain rfl := sj h
        try simp only [↓Da, Ua, JJ, Je, J7, J2, J6, Ji, J1T, *, ↓reduceIte, reduceEqDiff, reduceAdd, reduceLT, reduceMul]
        rfl
       ·obtain rfl := sj h
        try simp only [↓Da, Ua, JJ, Je, J7, J2, J6, Ji, *, ↓reduceIte, reduceEqDiff, reduceAdd, reduceLT, reduceMul]
        rfl
    ·obtain ⟨r17, h18, h⟩ := bi h
     have f19 := J84 p h18
     try simp only [Nf] at f19
     try simp only [↓Da, Ua, JJ, Je, J7, J2, J6, Ji, *, ↓reduceIte, reduceEqDiff, reduceAdd, reduceLT, reduceMul]
     rcases J8 h with ⟨h20, h⟩ | ⟨h20, h⟩
     ·obtain rfl := sj h
      try simp only [↓Da, Ua, JJ, Je, J7, J2, J6, Ji, J1T, *, ↓reduceIte, reduceEqDiff, reduceAdd, reduceLT, reduceMul]
      rfl
     ·try simp only [↓Da, Ua, JJ, Je, J7, J2, J6, Ji, *, ↓reduceIte, reduceEqDiff, reduceAdd, reduceLT, reduceMul]
      rcases J8 h with ⟨h21, h⟩ | ⟨h21, h⟩
      ·obtain rfl := sj h
       try simp only [↓Da, Ua, JJ, Je, J7, J2, J6, Ji, J1T, *, ↓reduceIte, reduceEqDiff, reduceAdd, reduceLT, reduceMul]
       rfl
      ·obtain rfl := sj h
       try simp only [↓Da, Ua, JJ, Je, J7, J2, J6, Ji, *, ↓reduceIte, reduceEqDiff, reduceAdd, reduceLT, reduceMul]
       rfl
 ·obtain ⟨o', h', rfl⟩ := mi h
  try simp only [↓Da, Ua, JJ, Je, J7, J2, J6, Ji, *, ↓reduceIte, reduceEqDiff, reduceAdd, reduceLT, reduceMul]
  have e0 := JjS p (B0 := (J3 b0)) h'
  exact e0
def J8V (b0 : T_api_Image) (s : Int) : Option (Bool) :=
 Jr (fun s => J3m b0 s) s
theorem Jhs {b0 : T_api_Image} {s : Int} {o : Bool} (h : J8V b0 s = some o) :
  rk (J1 p) J2s 0 [.bl 0, .td 1 [2], .sq (.keep [] J4r)] (X (J1 p) (.lp 1 [1, 3] JJ) ⟨[(1, .ptr 0 0), (3, .p (.i .i64 s))], [.box (List.map AV.p (J3 b0))]⟩) = J6T o := by
 have h0 : Jr (fun s => J3m b0 s) s = some o := h
 exact J04 (P := fun (s : Int) (o : Bool) => rk (J1 p) J2s 0 [.bl 0, .td 1 [2], .sq (.keep [] J4r)] (X (J1 p) (.lp 1 [1, 3] JJ) ⟨[(1, .ptr 0 0), (3, .p (.i .i64 s))], [.box (List.map AV.p (J3 b0))]⟩) = J6T o) (fun s r hs => by rw [J03]; exact Jdu p hs) (fun s s1 r hs ih => by rw [J03]; exact (Jdu p hs).trans ih) h0
def J3J (x0 : T_api_Image) : Option (Bool) :=
 if (decide (x0.ID < 1)) then
  some false
 else
  if (decide (x0.ID > 1073741824)) then
   some false
  else
   if (decide (x0.Pages < 1)) then
    some false
   else
    if (decide (x0.Pages > 64)) then
     some false
    else
     J8V x0 0
theorem Jhy {x0 : T_api_Image} {o : Bool} (h : J3J x0 = some o) :
  rk (J1 p) J2s 0 [] (X (J1 p) J1S ⟨[(0, .data (J3 x0))], []⟩) = J6T o := by
 unfold J3J at h
 rcases J8 h with ⟨h1, h⟩ | ⟨h1, h⟩
 ·obtain rfl := sj h
  try simp only [↓Da, Ua, J1S, Je, Ji, J1T, *, ↓reduceIte, reduceEqDiff, reduceAdd, reduceLT, reduceMul]
  rfl
 ·try simp only [↓Da, Ua, J1S, Je, Ji, *, ↓reduceIte, reduceEqDiff, reduceAdd, reduceLT, reduceMul]
  rcases J8 h with ⟨h2, h⟩ | ⟨h2, h⟩
  ·obtain rfl := sj h
   try simp only [↓Da, Ua, J1S, Je, Ji, J1T, *, ↓reduceIte, reduceEqDiff, reduceAdd, reduceLT, reduceMul]
   rfl
  ·try simp only [↓Da, Ua, J1S, Je, Ji, *, ↓reduceIte, reduceEqDiff, reduceAdd, reduceLT, reduceMul]
   rcases J8 h with ⟨h3, h⟩ | ⟨h3, h⟩
   ·obtain rfl := sj h
    try simp only [↓Da, Ua, J1S, Je, Ji, J1T, *, ↓reduceIte, reduceEqDiff, reduceAdd, reduceLT, reduceMul]
    rfl
   ·try simp only [↓Da, Ua, J1S, Je, Ji, *, ↓reduceIte, reduceEqDiff, reduceAdd, reduceLT, reduceMul]
    rcases J8 h with ⟨h4, h⟩ | ⟨h4, h⟩
    ·obtain rfl := sj h
     try simp only [↓Da, Ua, J1S, Je, Ji, J1T, *, ↓reduceIte, reduceEqDiff, reduceAdd, reduceLT, reduceMul]
     rfl
    ·try simp only [↓Da, Ua, J1S, Je, Ji, *, ↓reduceIte, reduceEqDiff, reduceAdd, reduceLT, reduceMul]
     have e0 := Jhs p h
     exact e0
theorem JmA {x0 : T_api_Image} {o : Bool} (h : J3J x0 = some o) : AF (J1 p) J4N [.data (J3 x0)] [] = J6T o :=
 (J00 (J1 p) (Jmx p) rfl).trans (Jhy p h)
theorem Jc1 {x0 : T_api_Image} {o : Bool} (h : J3J x0 = some o) : ∀ ws new st, (Jm (AF (J1 p)) J4N ([.data (J3 x0)], ws) 0 new).run st = some ⟨.p (.b o), ws⟩ := Jt rfl (JmA p h) rfl
def J7r  (r : T_api_Image × Int) : Option Res := some (.tup [.data (J3 r.1), .p (.i .i64 r.2)], [])
def JbK (x1 : Int) (b0 : T_api_Image) (l1 : List T_api_Copy) (b2_0 b2_1 : Int) (b4 : T_api_Copy) (b7_0 b7_1 : Int) (B3 : List PV) (B6 : List (List PV)) (w1 w5 w6 : Bool) (o : (Bool × Int × (List T_api_Copy)) ⊕ (T_api_Image × Int)) : Option Res := match o with
 | .inl s => rk (J1 p) J25 0 [.bl 0, .sq (.keep [6, 10, 11, 12] J32)] (X (J1 p) (.lp 8 [1, 3, 6, 10, 11, 12, 13] J1b) ⟨[(1, .p (.i .i64 x1)), (3, .ptr 0 0), (6, .ptr 2 0), (10, .ptr 4 0), (11, .ptr 7 0), (12, .p (.b s.1)), (13, .p (.i .i64 s.2.1))], [.box (List.map AV.p (J3 b0)), .arr w1 3 (List.map J5 l1), .box [.p (.i .i64 b2_0), .p (.i .i64 b2_1), .slr 1 0 (List.length l1)], .box (List.map AV.p B3), .box (List.map AV.p (J5 b4)), .arr w5 3 (List.map J5 s.2.2), .arr w6 3 B6, .box [.p (.i .i64 b7_0), .p (.i .i64 b7_1), .slr 5 0 (List.length s.2.2)]]⟩)
 | .inr o => J7r o
def J4H (x1 : Int) (x12 : Bool) (x13 : Int) (b0 : T_api_Image) (l1 : List T_api_Copy) (b2_0 b2_1 : Int) (b4 : T_api_Copy) (l5 : List T_api_Copy) (b7_0 b7_1 : Int) : Option (((Bool × Int × (List T_api_Copy)) ⊕ (T_api_Image × Int))) :=
 some (.inl (x12, (IntKind.wrap .i64 (x13 + 1)), l5))
theorem Jfe {x1 : Int} {x12 : Bool} {x13 : Int} {b0 : T_api_Image} {l1 : List T_api_Copy} {b2_0 b2_1 : Int} {b4 : T_api_Copy} {l5 : List T_api_Copy} {b7_0 b7_1 : Int} {w1 : Bool} {B3 : List PV} {w5 : Bool} {B6 : List (List PV)} {w6 : Bool} {o : ((Bool × Int × (List T_api_Copy)) ⊕ (T_api_Image × Int))} (h : J4H x1 x12 x13 b0 l1 b2_0 b2_1 b4 l5 b7_0 b7_1 = some o) :
  rk (J1 p) J25 0 [.lo 8 [1, 3, 6, 10, 11, 12, 13] J1b, .bl 0, .sq (.keep [6, 10, 11, 12] J32)] (X (J1 p) J9U ⟨[(1, .p (.i .i64 x1)), (3, .ptr 0 0), (6, .ptr 2 0), (10, .ptr 4 0), (11, .ptr 7 0), (12, .p (.b x12)), (13, .p (.i .i64 x13))], [.box (List.map AV.p (J3 b0)), .arr w1 3 (List.map J5 l1), .box [.p (.i .i64 b2_0), .p (.i .i64 b2_1), .slr 1 0 (List.length l1)], .box (List.map AV.p B3), .box (List.map AV.p (J5 b4)), .arr w5 3 (List.map J5 l5), .arr w6 3 B6, .box [.p (.i .i64 b7_0), .p (.i .i64 b7_1), .slr 5 0 (List.length l5)]]⟩) = (JbK p x1 b0 l1 b2_0 b2_1 b4 b7_0 b7_1 B3 B6 w1 w5 w6) o := by
 unfold J4H at h
 obtain rfl := sj h
 try simp only [↓Da, Ua, J9U, ↓reduceIte, reduceEqDiff, reduceAdd, reduceLT, reduceMul]
 rfl
def J4S (x1 : Int) (x12 : Bool) (x13 : Int) (b0 : T_api_Image) (l1 : List T_api_Copy) (b2_0 b2_1 : Int) (b4 : T_api_Copy) (l5 : List T_api_Copy) (b7_0 b7_1 : Int) : Option (((Bool × Int × (List T_api_Copy)) ⊕ (T_api_Image × Int))) :=
 Option.bind (idx b0.Copies x13) fun y1 =>
 if ((y1.Page : Int) != x1) then
  Option.bind (Jbf 32 l5 ([y1] : List T_api_Copy)) fun m5 =>
  J4H x1 x12 x13 b0 l1 b2_0 b2_1 b4 m5 b7_0 b7_1
 else
  J4H x1 x12 x13 b0 l1 b2_0 b2_1 b4 l5 b7_0 b7_1
theorem JbH {x1 : Int} {x12 : Bool} {x13 : Int} {b0 : T_api_Image} {l1 : List T_api_Copy} {b2_0 b2_1 : Int} {b4 : T_api_Copy} {l5 : List T_api_Copy} {b7_0 b7_1 : Int} {w1 : Bool} {B3 : List PV} {w5 : Bool} {B6 : List (List PV)} {w6 : Bool} {o : ((Bool × Int × (List T_api_Copy)) ⊕ (T_api_Image × Int))} (h : J4S x1 x12 x13 b0 l1 b2_0 b2_1 b4 l5 b7_0 b7_1 = some o) :
  rk (J1 p) J25 0 [.bl 1, .sq (.keep [1, 3, 6, 10, 11, 12, 13] J9U), .lo 8 [1, 3, 6, 10, 11, 12, 13] J1b, .bl 0, .sq (.keep [6, 10, 11, 12] J32)] (X (J1 p) J8l ⟨[(1, .p (.i .i64 x1)), (3, .ptr 0 0), (6, .ptr 2 0), (10, .ptr 4 0), (11, .ptr 7 0), (12, .p (.b x12)), (13, .p (.i .i64 x13))], [.box (List.map AV.p (J3 b0)), .arr w1 3 (List.map J5 l1), .box [.p (.i .i64 b2_0), .p (.i .i64 b2_1), .slr 1 0 (List.length l1)], .box (List.map AV.p B3), .box (List.map AV.p (J5 b4)), .arr w5 3 (List.map J5 l5), .arr w6 3 B6, .box [.p (.i .i64 b7_0), .p (.i .i64 b7_1), .slr 5 0 (List.length l5)]]⟩) = (JbK p x1 b0 l1 b2_0 b2_1 b4 b7_0 b7_1 B3 B6 w1 w5 w6) o := by
 unfold J4S at h
 obtain ⟨y1, h2, h⟩ := bi h
 have f3 := J43 (r := J5) h2
 try simp only [Nf, Ja, Jc] at f3
 try simp only [↓Da, Ua, Ra, J8l, Ja, Jc, *, ↓reduceIte, reduceEqDiff, reduceAdd, reduceLT, reduceMul, Nat.reduceBEq]
 rcases J8 h with ⟨h4, h⟩ | ⟨h4, h⟩
 ·obtain ⟨m5, h6, h⟩ := bi h
  have f7 : ∀ s : St, s.sto[5]? = some (.arr w5 3 (List.map J5 l5)) → (JT 3 (.p (.sl 3 (List.map J5 ([y1] : List T_api_Copy))))).run s = some (List.map J5 ([y1] : List T_api_Copy)) → (J4t 3 32 (.slr 5 0 (List.length l5)) (.p (.sl 3 (List.map J5 ([y1] : List T_api_Copy))))).run s = some ⟨.slr 5 0 (List.length m5), [(5, .arr w5 3 (List.map J5 m5))]⟩ := by
   intro s e1 e2; have e3 := Jct h6 e1 e2; try simp only [List.length_cons, List.length_nil, Nat.zero_add] at e3
   exact e3
  try simp only [Nf, Ja, Jc] at f7
  try simp only [↓Da, Ua, Ra, J8l, Ja, Jc, *, ↓reduceIte, reduceEqDiff, reduceAdd, reduceLT, reduceMul, Nat.reduceBEq]
  have e0 := Jfe p (w1 := w1) (B3 := B3) (w5 := w5) (w6 := w6) (B6 := B6) h
  exact e0
 ·try simp only [↓Da, Ua, Ra, J8l, Ja, Jc, *, ↓reduceIte, reduceEqDiff, reduceAdd, reduceLT, reduceMul, Nat.reduceBEq]
  have e0 := Jfe p (w1 := w1) (B3 := B3) (w5 := w5) (w6 := w6) (B6 := B6) h
  exact e0
def J9M (l1 : List T_api_Copy) (b2_0 b2_1 : Int) (l5 : List T_api_Copy) (b7_0 b7_1 : Int) : Option (T_api_Image × Int) :=
 some ((⟨b7_0, b7_1, l5⟩ : T_api_Image), 0)
theorem Jfu {l1 : List T_api_Copy} {b2_0 b2_1 : Int} {l5 : List T_api_Copy} {b7_0 b7_1 : Int} {B0 : List PV} {w1 : Bool} {B3 B4 : List PV} {w5 : Bool} {B6 : List (List PV)} {w6 : Bool} {o : T_api_Image × Int} (h : J9M l1 b2_0 b2_1 l5 b7_0 b7_1 = some o) :
  rk (J1 p) J25 0 [] (X (J1 p) JbS ⟨[(6, .ptr 2 0), (11, .ptr 7 0)], [.box (List.map AV.p B0), .arr w1 3 (List.map J5 l1), .box [.p (.i .i64 b2_0), .p (.i .i64 b2_1), .slr 1 0 (List.length l1)], .box (List.map AV.p B3), .box (List.map AV.p B4), .arr w5 3 (List.map J5 l5), .arr w6 3 B6, .box [.p (.i .i64 b7_0), .p (.i .i64 b7_1), .slr 5 0 (List.length l5)]]⟩) = J7r o := by
 unfold J9M at h
 obtain rfl := sj h
 try simp only [↓Da, Ua, JbS, Ja, Jc, J9I, ↓reduceIte, reduceEqDiff, reduceAdd, reduceLT, reduceMul]
 rfl
def J9Z (x12 : Bool) (l1 : List T_api_Copy) (b2_0 b2_1 : Int) (b4 : T_api_Copy) (l5 : List T_api_Copy) (b7_0 b7_1 : Int) : Option (T_api_Image × Int) :=
 if x12 then
  J9M l1 b2_0 b2_1 l5 b7_0 b7_1
 else
  Option.bind (Jbf 32 l5 ([b4] : List T_api_Copy)) fun m2 =>
  J9M l1 b2_0 b2_1 m2 b7_0 b7_1
theorem Jmu {x12 : Bool} {l1 : List T_api_Copy} {b2_0 b2_1 : Int} {b4 : T_api_Copy} {l5 : List T_api_Copy} {b7_0 b7_1 : Int} {B0 : List PV} {w1 : Bool} {B3 : List PV} {w5 : Bool} {B6 : List (List PV)} {w6 : Bool} {o : T_api_Image × Int} (h : J9Z x12 l1 b2_0 b2_1 b4 l5 b7_0 b7_1 = some o) :
  rk (J1 p) J25 0 [] (X (J1 p) J32 ⟨[(6, .ptr 2 0), (10, .ptr 4 0), (11, .ptr 7 0), (12, .p (.b x12))], [.box (List.map AV.p B0), .arr w1 3 (List.map J5 l1), .box [.p (.i .i64 b2_0), .p (.i .i64 b2_1), .slr 1 0 (List.length l1)], .box (List.map AV.p B3), .box (List.map AV.p (J5 b4)), .arr w5 3 (List.map J5 l5), .arr w6 3 B6, .box [.p (.i .i64 b7_0), .p (.i .i64 b7_1), .slr 5 0 (List.length l5)]]⟩) = J7r o := by
 unfold J9Z at h
 rcases J8 h with ⟨h1, h⟩ | ⟨h1, h⟩
 ·try simp only [↓Da, Ua, J32, Ja, Jc, *, ↓reduceIte, reduceEqDiff, reduceAdd, reduceLT, reduceMul]
  have e0 := Jfu p (B0 := B0) (w1 := w1) (B3 := B3) (B4 := (J5 b4)) (w5 := w5) (w6 := w6) (B6 := B6) h
  exact e0
 ·obtain ⟨m2, h3, h⟩ := bi h
  have f4 : ∀ s : St, s.sto[5]? = some (.arr w5 3 (List.map J5 l5)) → (JT 3 (.p (.sl 3 (List.map J5 ([b4] : List T_api_Copy))))).run s = some (List.map J5 ([b4] : List T_api_Copy)) → (J4t 3 32 (.slr 5 0 (List.length l5)) (.p (.sl 3 (List.map J5 ([b4] : List T_api_Copy))))).run s = some ⟨.slr 5 0 (List.length m2), [(5, .arr w5 3 (List.map J5 m2))]⟩ := by
   intro s e1 e2; have e3 := Jct h3 e1 e2; try simp only [List.length_cons, List.length_nil, Nat.zero_add] at e3
   exact e3
  try simp only [Nf, Ja, Jc] at f4
  try simp only [↓Da, Ua, J32, Ja, Jc, *, ↓reduceIte, reduceEqDiff, reduceAdd, reduceLT, reduceMul]
  have e0 := Jfu p (B0 := B0) (w1 := w1) (B3 := B3) (B4 := (J5 b4)) (w5 := w5) (w6 := w6) (B6 := B6) h
  exact e0
def J8i (x1 : Int) (b0 : T_api_Image) (l1 : List T_api_Copy) (b2_0 b2_1 : Int) (b4 : T_api_Copy) (b7_0 b7_1 : Int) (x12 : Bool) (x13 : Int) (l5 : List T_api_Copy) : Option (((Bool × Int × (List T_api_Copy)) ⊕ (T_api_Image × Int))) :=
 if (decide (x13 < ((List.length b0.Copies : Nat) : Int))) then
  if x12 then
   J4S x1 true x13 b0 l1 b2_0 b2_1 b4 l5 b7_0 b7_1
  else
   Option.bind (idx b0.Copies x13) fun y3 =>
   if (decide (y3.Page ≥ x1)) then
    Option.bind (Jbf 32 l5 ([b4] : List T_api_Copy)) fun m7 =>
    J4S x1 true x13 b0 l1 b2_0 b2_1 b4 m7 b7_0 b7_1
   else
    J4S x1 false x13 b0 l1 b2_0 b2_1 b4 l5 b7_0 b7_1
 else
  Option.map (fun o => .inr o) (J9Z x12 l1 b2_0 b2_1 b4 l5 b7_0 b7_1)
theorem Jfz {x1 : Int} {b0 : T_api_Image} {l1 : List T_api_Copy} {b2_0 b2_1 : Int} {b4 : T_api_Copy} {b7_0 b7_1 : Int} {x12 : Bool} {x13 : Int} {l5 : List T_api_Copy} {w1 : Bool} {B3 : List PV} {w5 : Bool} {B6 : List (List PV)} {w6 : Bool} {o : ((Bool × Int × (List T_api_Copy)) ⊕ (T_api_Image × Int))} (h : J8i x1 b0 l1 b2_0 b2_1 b4 b7_0 b7_1 x12 x13 l5 = some o) :
  rk (J1 p) J25 0 [.lo 8 [1, 3, 6, 10, 11, 12, 13] J1b, .bl 0, .sq (.keep [6, 10, 11, 12] J32)] (X (J1 p) J1b ⟨[(1, .p (.i .i64 x1)), (3, .ptr 0 0), (6, .ptr 2 0), (10, .ptr 4 0), (11, .ptr 7 0), (12, .p (.b x12)), (13, .p (.i .i64 x13))], [.box (List.map AV.p (J3 b0)), .arr w1 3 (List.map J5 l1), .box [.p (.i .i64 b2_0), .p (.i .i64 b2_1), .slr 1 0 (List.length l1)], .box (List.map AV.p B3), .box (List.map AV.p (J5 b4)), .arr w5 3 (List.map J5 l5), .arr w6 3 B6, .box [.p (.i .i64 b7_0), .p (.i .i64 b7_1), .slr 5 0 (List.length l5)]]⟩) = (JbK p x1 b0 l1 b2_0 b2_1 b4 b7_0 b7_1 B3 B6 w1 w5 w6) o := by
 unfold J8i at h
 rcases J8 h with ⟨h1, h⟩ | ⟨h1, h⟩
 ·try simp only [↓Da, Ua, J1b, Ja, Jc, *, ↓reduceIte, reduceEqDiff, reduceAdd, reduceLT, reduceMul]
  rcases J8 h with ⟨h2, h⟩ | ⟨h2, h⟩
  ·try simp only [↓Da, Ua, J1b, Ja, Jc, *, ↓reduceIte, reduceEqDiff, reduceAdd, reduceLT, reduceMul]
   have e0 := JbH p (w1 := w1) (B3 := B3) (w5 := w5) (w6 := w6) (B6 := B6) h
   exact e0
  ·obtain ⟨y3, h4, h⟩ := bi h
   have f5 := J43 (r := J5) h4
   try simp only [Nf, Ja, Jc] at f5
   try simp only [↓Da, Ua, J1b, Ja, Jc, *, ↓reduceIte, reduceEqDiff, reduceAdd, reduceLT, reduceMul]
   rcases J8 h with ⟨h6, h⟩ | ⟨h6, h⟩
   ·obtain ⟨m7, h8, h⟩ := bi h
    have f9 : ∀ s : St, s.sto[5]? = some (.arr w5 3 (List.map J5 l5)) → (JT 3 (.p (.sl 3 (List.map J5 ([b4] : List T_api_Copy))))).run s = some (List.map J5 ([b4] : List T_api_Copy)) → (J4t 3 32 (.slr 5 0 (List.length l5)) (.p (.sl 3 (List.map J5 ([b4] : List T_api_Copy))))).run s = some ⟨.slr 5 0 (List.length m7), [(5, .arr w5 3 (List.map J5 m7))]⟩ := by
     intro s e1 e2; have e3 := Jct h8 e1 e2; try simp only [List.length_cons, List.length_nil, Nat.zero_add] at e3
     exact e3
    try simp only [Nf, Ja, Jc] at f9
    try simp only [↓Da, Ua, J1b, Ja, Jc, *, ↓reduceIte, reduceEqDiff, reduceAdd, reduceLT, reduceMul]
    have e0 := JbH p (w1 := w1) (B3 := B3) (w5 := w5) (w6 := w6) (B6 := B6) h
    exact e0
   ·try simp only [↓Da, Ua, J1b, Ja, Jc, *, ↓reduceIte, reduceEqDiff, reduceAdd, reduceLT, reduceMul]
    have e0 := JbH p (w1 := w1) (B3 := B3) (w5 := w5) (w6 := w6) (B6 := B6) h
    exact e0
 ·obtain ⟨o', h', rfl⟩ := mi h
  try simp only [↓Da, Ua, J1b, Ja, Jc, *, ↓reduceIte, reduceEqDiff, reduceAdd, reduceLT, reduceMul]
  have e0 := Jmu p (B0 := (J3 b0)) (w1 := w1) (B3 := B3) (w5 := w5) (w6 := w6) (B6 := B6) h'
  exact e0
def J9Q (x1 : Int) (b0 : T_api_Image) (l1 : List T_api_Copy) (b2_0 b2_1 : Int) (b4 : T_api_Copy) (b7_0 b7_1 : Int) (s : Bool × Int × (List T_api_Copy)) : Option (T_api_Image × Int) :=
 Jr (fun s => J8i x1 b0 l1 b2_0 b2_1 b4 b7_0 b7_1 s.1 s.2.1 s.2.2) s
theorem JjW {x1 : Int} {b0 : T_api_Image} {l1 : List T_api_Copy} {b2_0 b2_1 : Int} {b4 : T_api_Copy} {b7_0 b7_1 : Int} {w1 : Bool} {B3 : List PV} {w5 : Bool} {B6 : List (List PV)} {w6 : Bool} {s : Bool × Int × (List T_api_Copy)} {o : T_api_Image × Int} (h : J9Q x1 b0 l1 b2_0 b2_1 b4 b7_0 b7_1 s = some o) :
  rk (J1 p) J25 0 [.bl 0, .sq (.keep [6, 10, 11, 12] J32)] (X (J1 p) (.lp 8 [1, 3, 6, 10, 11, 12, 13] J1b) ⟨[(1, .p (.i .i64 x1)), (3, .ptr 0 0), (6, .ptr 2 0), (10, .ptr 4 0), (11, .ptr 7 0), (12, .p (.b s.1)), (13, .p (.i .i64 s.2.1))], [.box (List.map AV.p (J3 b0)), .arr w1 3 (List.map J5 l1), .box [.p (.i .i64 b2_0), .p (.i .i64 b2_1), .slr 1 0 (List.length l1)], .box (List.map AV.p B3), .box (List.map AV.p (J5 b4)), .arr w5 3 (List.map J5 s.2.2), .arr w6 3 B6, .box [.p (.i .i64 b7_0), .p (.i .i64 b7_1), .slr 5 0 (List.length s.2.2)]]⟩) = J7r o := by
 have h0 : Jr (fun s => J8i x1 b0 l1 b2_0 b2_1 b4 b7_0 b7_1 s.1 s.2.1 s.2.2) s = some o := h
 exact J04 (P := fun (s : Bool × Int × (List T_api_Copy)) (o : T_api_Image × Int) => rk (J1 p) J25 0 [.bl 0, .sq (.keep [6, 10, 11, 12] J32)] (X (J1 p) (.lp 8 [1, 3, 6, 10, 11, 12, 13] J1b) ⟨[(1, .p (.i .i64 x1)), (3, .ptr 0 0), (6, .ptr 2 0), (10, .ptr 4 0), (11, .ptr 7 0), (12, .p (.b s.1)), (13, .p (.i .i64 s.2.1))], [.box (List.map AV.p (J3 b0)), .arr w1 3 (List.map J5 l1), .box [.p (.i .i64 b2_0), .p (.i .i64 b2_1), .slr 1 0 (List.length l1)], .box (List.map AV.p B3), .box (List.map AV.p (J5 b4)), .arr w5 3 (List.map J5 s.2.2), .arr w6 3 B6, .box [.p (.i .i64 b7_0), .p (.i .i64 b7_1), .slr 5 0 (List.length s.2.2)]]⟩) = J7r o) (fun s r hs => by rw [J03]; exact Jfz p hs) (fun s s1 r hs ih => by rw [J03]; exact (Jfz p hs).trans ih) h0
def J2y (x0 : T_api_Image) (x1 : Int) (x2 : List UInt8) : Option (T_api_Image × Int) :=
 Option.bind (J3J x0) fun r1 =>
 if r1 then
  if (decide (x1 < 0)) then
   some ((⟨0, 0, ([] : List T_api_Copy)⟩ : T_api_Image), 1)
  else
   if (decide (x1 ≥ x0.Pages)) then
    some ((⟨0, 0, ([] : List T_api_Copy)⟩ : T_api_Image), 1)
   else
    Option.bind (J1j x2 x1) fun r7 =>
    if ((r7.2 : Int) != 0) then
     some ((⟨0, 0, ([] : List T_api_Copy)⟩ : T_api_Image), r7.2)
    else
     J9Q x1 x0 ([] : List T_api_Copy) 0 0 (⟨x1, r7.1.LSN, x2⟩ : T_api_Copy) x0.ID x0.Pages (false, 0, ([] : List T_api_Copy))
 else
  some ((⟨0, 0, ([] : List T_api_Copy)⟩ : T_api_Image), 43)
theorem JjH {x0 : T_api_Image} {x1 : Int} {x2 : List UInt8} {o : T_api_Image × Int} (h : J2y x0 x1 x2 = some o) :
  rk (J1 p) J25 0 [] (X (J1 p) J2A ⟨[(0, .data (J3 x0)), (1, .p (.i .i64 x1)), (2, .p (.s x2))], []⟩) = J7r o := by
 unfold J2y at h
 obtain ⟨r1, h2, h⟩ := bi h
 have f3 := Jc1 p h2
 try simp only [Nf, Ja, J0l, Jc] at f3
 try simp only [↓Da, Ua, J2A, Ja, J0l, J2, J6, Jc, *, ↓reduceIte, reduceEqDiff, reduceAdd, reduceLT, reduceMul]
 rcases J8 h with ⟨h4, h⟩ | ⟨h4, h⟩
 ·try simp only [↓Da, Ua, J2A, Ja, J0l, J2, J6, Jc, *, ↓reduceIte, reduceEqDiff, reduceAdd, reduceLT, reduceMul]
  rcases J8 h with ⟨h5, h⟩ | ⟨h5, h⟩
  ·obtain rfl := sj h
   try simp only [↓Da, Ua, J2A, Ja, J0l, J2, J6, Jc, J9I, *, ↓reduceIte, reduceEqDiff, reduceAdd, reduceLT, reduceMul]
   rfl
  ·try simp only [↓Da, Ua, J2A, Ja, J0l, J2, J6, Jc, *, ↓reduceIte, reduceEqDiff, reduceAdd, reduceLT, reduceMul]
   rcases J8 h with ⟨h6, h⟩ | ⟨h6, h⟩
   ·obtain rfl := sj h
    try simp only [↓Da, Ua, J2A, Ja, J0l, J2, J6, Jc, J9I, *, ↓reduceIte, reduceEqDiff, reduceAdd, reduceLT, reduceMul]
    rfl
   ·obtain ⟨r7, h8, h⟩ := bi h
    have f9 := J84 p h8
    try simp only [Nf, Ja, J0l, Jc] at f9
    try simp only [↓Da, Ua, J2A, Ja, J0l, J2, J6, Jc, *, ↓reduceIte, reduceEqDiff, reduceAdd, reduceLT, reduceMul]
    rcases J8 h with ⟨h10, h⟩ | ⟨h10, h⟩
    ·obtain rfl := sj h
     try simp only [↓Da, Ua, J2A, Ja, J0l, J2, J6, Jc, J9I, *, ↓reduceIte, reduceEqDiff, reduceAdd, reduceLT, reduceMul]
     rfl
    ·try simp only [↓Da, Ua, J2A, Ja, J0l, J2, J6, Jc, *, ↓reduceIte, reduceEqDiff, reduceAdd, reduceLT, reduceMul]
     have e0 := JjW p (w1 := true) (B3 := (J4 r7.1)) (w5 := true) (w6 := true) (B6 := (List.map J5 ([] : List T_api_Copy))) h
     exact e0
 ·obtain rfl := sj h
  try simp only [↓Da, Ua, J2A, Ja, J0l, J2, J6, Jc, J9I, *, ↓reduceIte, reduceEqDiff, reduceAdd, reduceLT, reduceMul]
  rfl
theorem JoW {x0 : T_api_Image} {x1 : Int} {x2 : List UInt8} {o : T_api_Image × Int} (h : J2y x0 x1 x2 = some o) : AF (J1 p) J7o [.data (J3 x0), .p (.i .i64 x1), .p (.s x2)] [] = J7r o :=
 (J00 (J1 p) (JpL p) rfl).trans (JjH p h)
theorem Jps {x0 : T_api_Image} {x1 : Int} {x2 : List UInt8} {o : T_api_Image × Int} (h : J2y x0 x1 x2 = some o) : ∀ ws new st, (Jm (AF (J1 p)) J7o ([.data (J3 x0), .p (.i .i64 x1), .p (.s x2)], ws) 0 new).run st = some ⟨.tup [.data (J3 o.1), .p (.i .i64 o.2)], ws⟩ := Jt rfl (JoW p h) rfl
def Jfl  (r : Bool) : Option Res := some (.p (.b r), [])
def J5K  : Option (Bool) :=
 Option.bind (J2w (⟨1, 1, ([] : List T_api_Copy)⟩ : T_api_Image)) fun r1 =>
 if ((r1.2 : Int) == 0) then
  if ((((List.length r1.1 : Nat) : Int) : Int) == 20) then
   Option.bind (J1g (⟨1, 1, ([] : List T_api_Copy)⟩ : T_api_Image)) fun r6 =>
   some r6
  else
   some false
 else
  some false
theorem Jhq  {o : Bool} (h : J5K = some o) :
  rk (J1 p) J6S 0 [] (X (J1 p) J3P ⟨[], []⟩) = Jfl o := by
 unfold J5K at h
 obtain ⟨r1, h2, h⟩ := bi h
 have f3 : ∀ ws new s, (Jm (AF (J1 p)) J0M ([.data (J3 (⟨1, 1, ([] : List T_api_Copy)⟩ : T_api_Image))], ws) 0 new).run s = some ⟨.tup [.p (.s r1.1), .p (.i .i64 r1.2)], ws⟩ := Jt rfl (Jeo p h2) rfl
 try simp only [Nf] at f3
 try simp only [↓Da, Ua, J3P, Je, Ji, *, ↓reduceIte, reduceEqDiff, reduceAdd, reduceLT, reduceMul]
 rcases J8 h with ⟨h4, h⟩ | ⟨h4, h⟩
 ·have h4n : ((r1.2 : Int) != 0) = false := by rw [bne, h4]; rfl
  try simp only [↓Da, Ua, J3P, Je, Ji, *, ↓reduceIte, reduceEqDiff, reduceAdd, reduceLT, reduceMul]
  rcases J8 h with ⟨h5, h⟩ | ⟨h5, h⟩
  ·have h5n : ((((List.length r1.1 : Nat) : Int) : Int) != 20) = false := by rw [bne, h5]; rfl
   obtain ⟨r6, h7, h⟩ := bi h
   have f8 := Jfm p h7
   try simp only [Nf] at f8
   obtain rfl := sj h
   try simp only [↓Da, Ua, J3P, Je, Ji, JbL, *, ↓reduceIte, reduceEqDiff, reduceAdd, reduceLT, reduceMul]
   rfl
  ·have h5n : ((((List.length r1.1 : Nat) : Int) : Int) != 20) = true := by rw [bne, h5]; rfl
   obtain rfl := sj h
   try simp only [↓Da, Ua, J3P, Je, Ji, JbL, *, ↓reduceIte, reduceEqDiff, reduceAdd, reduceLT, reduceMul]
   rfl
 ·have h4n : ((r1.2 : Int) != 0) = true := by rw [bne, h4]; rfl
  obtain rfl := sj h
  try simp only [↓Da, Ua, J3P, Je, Ji, JbL, *, ↓reduceIte, reduceEqDiff, reduceAdd, reduceLT, reduceMul]
  rfl
theorem JmC  {o : Bool} (h : J5K = some o) : AF (J1 p) J6U [] [] = Jfl o :=
 (J00 (J1 p) (Jmo p) rfl).trans (Jhq p h)
theorem Jms  {o : Bool} (h : J5K = some o) : ∀ ws new st, (Jm (AF (J1 p)) J6U ([], ws) 0 new).run st = some ⟨.p (.b o), ws⟩ := Jt rfl (JmC p h) rfl
def J7I  (r : T_api_Image × T_pagemenddraw_Codes) : Option Res := some (.data (J3 r.1), [.box (List.map AV.p (J0 r.2))])
def Jer (b1 : T_api_Image) (o : (Int × T_pagemenddraw_Codes × T_api_Image) ⊕ (T_api_Image × T_pagemenddraw_Codes)) : Option Res := match o with
 | .inl s => rk (J1 p) J2o 1 [.bl 0, .td 3 [2, 3], .sq (.keep [2, 3] J46)] (X (J1 p) (.lp 3 [0, 2, 3, 4] J1a) ⟨[(0, .ptr 0 0), (2, .ptr 1 0), (3, .ptr 2 0), (4, .p (.i .i64 s.1))], [.box (List.map AV.p (J0 s.2.1)), .box (List.map AV.p (J3 b1)), .box (List.map AV.p (J3 s.2.2))]⟩)
 | .inr o => J7I o
def J6h (x4 : Int) (b0 : T_pagemenddraw_Codes) (b1 b2 : T_api_Image) : Option (((Int × T_pagemenddraw_Codes × T_api_Image) ⊕ (T_api_Image × T_pagemenddraw_Codes))) :=
 some (.inl ((IntKind.wrap .i64 (x4 + 1)), b0, b2))
theorem Jbj {x4 : Int} {b0 : T_pagemenddraw_Codes} {b1 b2 : T_api_Image} {o : ((Int × T_pagemenddraw_Codes × T_api_Image) ⊕ (T_api_Image × T_pagemenddraw_Codes))} (h : J6h x4 b0 b1 b2 = some o) :
  rk (J1 p) J2o 1 [.lo 3 [0, 2, 3, 4] J1a, .bl 0, .td 3 [2, 3], .sq (.keep [2, 3] J46)] (X (J1 p) Jbq ⟨[(0, .ptr 0 0), (2, .ptr 1 0), (3, .ptr 2 0), (4, .p (.i .i64 x4))], [.box (List.map AV.p (J0 b0)), .box (List.map AV.p (J3 b1)), .box (List.map AV.p (J3 b2))]⟩) = (Jer p b1) o := by
 unfold J6h at h
 obtain rfl := sj h
 try simp only [↓Da, Ua, Jbq, ↓reduceIte, reduceEqDiff, reduceAdd, reduceLT, reduceMul]
 rfl
def Jbk (b0 : T_pagemenddraw_Codes) (b1 b2 : T_api_Image) : Option (T_api_Image × T_pagemenddraw_Codes) :=
 some (b2, b0)
theorem Jlu {b0 : T_pagemenddraw_Codes} {b1 b2 : T_api_Image} {o : T_api_Image × T_pagemenddraw_Codes} (h : Jbk b0 b1 b2 = some o) :
  rk (J1 p) J2o 1 [] (X (J1 p) J46 ⟨[(2, .ptr 1 0), (3, .ptr 2 0)], [.box (List.map AV.p (J0 b0)), .box (List.map AV.p (J3 b1)), .box (List.map AV.p (J3 b2))]⟩) = J7I o := by
 unfold Jbk at h
 obtain rfl := sj h
 try simp only [↓Da, Ua, J46, Je, Ji, Jnq, ↓reduceIte, reduceEqDiff, reduceAdd, reduceLT, reduceMul]
 rfl
def J7Q (b1 : T_api_Image) (x4 : Int) (b0 : T_pagemenddraw_Codes) (b2 : T_api_Image) : Option (((Int × T_pagemenddraw_Codes × T_api_Image) ⊕ (T_api_Image × T_pagemenddraw_Codes))) :=
 if (decide (x4 < b2.Pages)) then
  Option.bind (Jp b0 4) fun r2 =>
  if ((r2.1 : Int) == 0) then
   J6h x4 r2.2 b1 b2
  else
   Option.bind (J7A r2.2 x4) fun r6 =>
   Option.bind (J2y b2 x4 r6.1) fun r10 =>
   if ((r10.2 : Int) == 0) then
    J6h x4 r6.2 b1 r10.1
   else
    J6h x4 r6.2 b1 b2
 else
  Option.map (fun o => .inr o) (Jbk b0 b1 b2)
theorem Je4 {b1 : T_api_Image} {x4 : Int} {b0 : T_pagemenddraw_Codes} {b2 : T_api_Image} {o : ((Int × T_pagemenddraw_Codes × T_api_Image) ⊕ (T_api_Image × T_pagemenddraw_Codes))} (h : J7Q b1 x4 b0 b2 = some o) :
  rk (J1 p) J2o 1 [.lo 3 [0, 2, 3, 4] J1a, .bl 0, .td 3 [2, 3], .sq (.keep [2, 3] J46)] (X (J1 p) J1a ⟨[(0, .ptr 0 0), (2, .ptr 1 0), (3, .ptr 2 0), (4, .p (.i .i64 x4))], [.box (List.map AV.p (J0 b0)), .box (List.map AV.p (J3 b1)), .box (List.map AV.p (J3 b2))]⟩) = (Jer p b1) o := by
 unfold J7Q at h
 rcases J8 h with ⟨h1, h⟩ | ⟨h1, h⟩
 ·obtain ⟨r2, h3, h⟩ := bi h
  have f4 : ∀ ws new s, JG ws s [0] [List.map AV.p (J0 b0)] → (Jm (AF (J1 p)) Jb ([.ptr 0 0, .p (.i .i64 4)], ws) 0 new).run s = some ⟨.p (.i .i64 r2.1), ws ++ [(0, .box (List.map AV.p (J0 r2.2)))]⟩ := Jy (args' := [.ptr 0 0, .p (.i .i64 4)]) (bs := [0]) (css := [List.map AV.p (J0 b0)]) (css' := [List.map AV.p (J0 r2.2)]) rfl rfl rfl (by simp [Jl, J9]) (Jv p h3) rfl rfl (by simp [Jl, J9])
  try simp only [Nf] at f4
  try simp only [↓Da, Ua, Ra, J1a, Je, Ji, Jd, *, ↓reduceIte, reduceEqDiff, reduceAdd, reduceLT, reduceMul, Nat.reduceBEq]
  rcases J8 h with ⟨h5, h⟩ | ⟨h5, h⟩
  ·have h5n : ((r2.1 : Int) != 0) = false := by rw [bne, h5]; rfl
   try simp only [↓Da, Ua, Ra, J1a, Je, Ji, Jd, *, ↓reduceIte, reduceEqDiff, reduceAdd, reduceLT, reduceMul, Nat.reduceBEq]
   have e0 := Jbj p h
   exact e0
  ·have h5n : ((r2.1 : Int) != 0) = true := by rw [bne, h5]; rfl
   obtain ⟨r6, h7, h⟩ := bi h
   have f8 : ∀ ws new s, JG ws s [0] [List.map AV.p (J0 r2.2)] → (Jm (AF (J1 p)) J6t ([.ptr 0 0, .p (.i .i64 x4)], ws) 0 new).run s = some ⟨.p (.s r6.1), ws ++ [(0, .box (List.map AV.p (J0 r6.2)))]⟩ := Jy (args' := [.ptr 0 0, .p (.i .i64 x4)]) (bs := [0]) (css := [List.map AV.p (J0 r2.2)]) (css' := [List.map AV.p (J0 r6.2)]) rfl rfl rfl (by simp [Jl, J9]) (JoM p h7) rfl rfl (by simp [Jl, J9])
   try simp only [Nf] at f8
   have f9 : ∀ ws k new s, JG ws s [0] [List.map AV.p (J0 r2.2)] → Jg ((Jm (AF (J1 p)) J6t ([.ptr 0 0, .p (.i .i64 x4)], ws) k new).reads s) = [0] ++ ([0] ++ [0]) := J9C (args' := [.ptr 0 0, .p (.i .i64 x4)]) (bs := [0]) (css := [List.map AV.p (J0 r2.2)]) rfl rfl rfl (by simp [Jl, J9])
   try simp only [Nf] at f9
   obtain ⟨r10, h11, h⟩ := bi h
   have f12 := Jps p h11
   try simp only [Nf] at f12
   have f13 : ∀ ws k new s, Jg ((Jm (AF (J1 p)) J7o ([.data (J3 b2), .p (.i .i64 x4), .p (.s r6.1)], ws) k new).reads s) = [] := J05 rfl
   try simp only [Nf] at f13
   try simp only [↓Da, Ua, Ra, J1a, Je, Ji, Jd, *, ↓reduceIte, reduceEqDiff, reduceAdd, reduceLT, reduceMul, Nat.reduceBEq]
   rcases J8 h with ⟨h14, h⟩ | ⟨h14, h⟩
   ·have h14n : ((r10.2 : Int) != 0) = false := by rw [bne, h14]; rfl
    try simp only [↓Da, Ua, Ra, J1a, Je, Ji, Jd, *, ↓reduceIte, reduceEqDiff, reduceAdd, reduceLT, reduceMul, Nat.reduceBEq]
    have e0 := Jbj p h
    exact e0
   ·have h14n : ((r10.2 : Int) != 0) = true := by rw [bne, h14]; rfl
    try simp only [↓Da, Ua, Ra, J1a, Je, Ji, Jd, *, ↓reduceIte, reduceEqDiff, reduceAdd, reduceLT, reduceMul, Nat.reduceBEq]
    have e0 := Jbj p h
    exact e0
 ·obtain ⟨o', h', rfl⟩ := mi h
  try simp only [↓Da, Ua, Ra, J1a, Je, Ji, Jd, *, ↓reduceIte, reduceEqDiff, reduceAdd, reduceLT, reduceMul, Nat.reduceBEq]
  have e0 := Jlu p h'
  exact e0
def Jbl (b1 : T_api_Image) (s : Int × T_pagemenddraw_Codes × T_api_Image) : Option (T_api_Image × T_pagemenddraw_Codes) :=
 Jr (fun s => J7Q b1 s.1 s.2.1 s.2.2) s
theorem Jjf {b1 : T_api_Image} {s : Int × T_pagemenddraw_Codes × T_api_Image} {o : T_api_Image × T_pagemenddraw_Codes} (h : Jbl b1 s = some o) :
  rk (J1 p) J2o 1 [.bl 0, .td 3 [2, 3], .sq (.keep [2, 3] J46)] (X (J1 p) (.lp 3 [0, 2, 3, 4] J1a) ⟨[(0, .ptr 0 0), (2, .ptr 1 0), (3, .ptr 2 0), (4, .p (.i .i64 s.1))], [.box (List.map AV.p (J0 s.2.1)), .box (List.map AV.p (J3 b1)), .box (List.map AV.p (J3 s.2.2))]⟩) = J7I o := by
 have h0 : Jr (fun s => J7Q b1 s.1 s.2.1 s.2.2) s = some o := h
 exact J04 (P := fun (s : Int × T_pagemenddraw_Codes × T_api_Image) (o : T_api_Image × T_pagemenddraw_Codes) => rk (J1 p) J2o 1 [.bl 0, .td 3 [2, 3], .sq (.keep [2, 3] J46)] (X (J1 p) (.lp 3 [0, 2, 3, 4] J1a) ⟨[(0, .ptr 0 0), (2, .ptr 1 0), (3, .ptr 2 0), (4, .p (.i .i64 s.1))], [.box (List.map AV.p (J0 s.2.1)), .box (List.map AV.p (J3 b1)), .box (List.map AV.p (J3 s.2.2))]⟩) = J7I o) (fun s r hs => by rw [J03]; exact Je4 p hs) (fun s s1 r hs ih => by rw [J03]; exact (Je4 p hs).trans ih) h0
def J7B (b0 : T_pagemenddraw_Codes) : Option (T_api_Image × T_pagemenddraw_Codes) :=
 Option.bind (Jp b0 5) fun r1 =>
 Option.bind (Jp r1.2 6) fun r4 =>
 Jbl (⟨0, 0, ([] : List T_api_Copy)⟩ : T_api_Image) (0, r4.2, (⟨(IntKind.wrap .i64 (1 + r1.1)), (IntKind.wrap .i64 (1 + r4.1)), ([] : List T_api_Copy)⟩ : T_api_Image))
theorem Jja {b0 : T_pagemenddraw_Codes} {o : T_api_Image × T_pagemenddraw_Codes} (h : J7B b0 = some o) :
  rk (J1 p) J2o 1 [] (X (J1 p) J93 ⟨[(0, .ptr 0 0)], [.box (List.map AV.p (J0 b0))]⟩) = J7I o := by
 unfold J7B at h
 obtain ⟨r1, h2, h⟩ := bi h
 have f3 : ∀ ws new s, JG ws s [0] [List.map AV.p (J0 b0)] → (Jm (AF (J1 p)) Jb ([.ptr 0 0, .p (.i .i64 5)], ws) 0 new).run s = some ⟨.p (.i .i64 r1.1), ws ++ [(0, .box (List.map AV.p (J0 r1.2)))]⟩ := Jy (args' := [.ptr 0 0, .p (.i .i64 5)]) (bs := [0]) (css := [List.map AV.p (J0 b0)]) (css' := [List.map AV.p (J0 r1.2)]) rfl rfl rfl (by simp [Jl, J9]) (Jv p h2) rfl rfl (by simp [Jl, J9])
 try simp only [Nf] at f3
 obtain ⟨r4, h5, h⟩ := bi h
 have f6 : ∀ ws new s, JG ws s [0] [List.map AV.p (J0 r1.2)] → (Jm (AF (J1 p)) Jb ([.ptr 0 0, .p (.i .i64 6)], ws) 0 new).run s = some ⟨.p (.i .i64 r4.1), ws ++ [(0, .box (List.map AV.p (J0 r4.2)))]⟩ := Jy (args' := [.ptr 0 0, .p (.i .i64 6)]) (bs := [0]) (css := [List.map AV.p (J0 r1.2)]) (css' := [List.map AV.p (J0 r4.2)]) rfl rfl rfl (by simp [Jl, J9]) (Jv p h5) rfl rfl (by simp [Jl, J9])
 try simp only [Nf] at f6
 try simp only [↓Da, Ua, J93, Je, Ji, Jd, *, ↓reduceIte, reduceEqDiff, reduceAdd, reduceLT, reduceMul]
 have e0 := Jjf p h
 exact e0
theorem Jnp {b0 : T_pagemenddraw_Codes} {o : T_api_Image × T_pagemenddraw_Codes} (h : J7B b0 = some o) : AF (J1 p) J7R [.ptr 0 0] [.box (List.map AV.p (J0 b0))] = J7I o :=
 (J00 (J1 p) (Jol p) rfl).trans (Jja p h)
end
end Go.Am
end
section
namespace Go.Am
set_option maxRecDepth 8000
set_option maxHeartbeats 4000000
set_option linter.unusedSimpArgs false
set_option linter.unusedVariables false
noncomputable section
variable (p : PS)
def J6j  (r : (List UInt8) × Int) : Option Res := some (.tup [.p (.s r.1), .p (.i .i64 r.2)], [])
def JiB (b0 : T_api_Image) (o : ((List UInt8) × Int) ⊕ ((List UInt8) × Int)) : Option Res := match o with
 | .inl s => rk (J1 p) J20 0 [.bl 0, .sq (.keep [5] J3U)] (X (J1 p) (.lp 1 [1, 5, 6] J2S) ⟨[(1, .ptr 0 0), (5, .p (.s s.1)), (6, .p (.i .i64 s.2))], [.box (List.map AV.p (J3 b0))]⟩)
 | .inr o => J6j o
def Ja9 (x5 : List UInt8) : Option ((List UInt8) × Int) :=
 some (x5, 0)
theorem JiJ {x5 : List UInt8} {B0 : List PV} {o : (List UInt8) × Int} (h : Ja9 x5 = some o) :
  rk (J1 p) J20 0 [] (X (J1 p) J3U ⟨[(5, .p (.s x5))], [.box (List.map AV.p B0)]⟩) = J6j o := by
 unfold Ja9 at h
 obtain rfl := sj h
 try simp only [↓Da, Ua, J3U, Jep, ↓reduceIte, reduceEqDiff, reduceAdd, reduceLT, reduceMul]
 rfl
def J3V (b0 : T_api_Image) (x5 : List UInt8) (x6 : Int) : Option ((((List UInt8) × Int) ⊕ ((List UInt8) × Int))) :=
 if (decide (x6 < ((List.length b0.Copies : Nat) : Int))) then
  Option.bind (idx b0.Copies x6) fun y2 =>
  Option.bind (J02 ([]) y2.Page 2) fun r5 =>
  Option.bind (J1Z r5 y2.Data) fun s9 =>
  Option.bind (J4L s9) fun r11 =>
  Option.bind (J1Z x5 r11) fun s15 =>
  some (.inl (s15, (IntKind.wrap .i64 (x6 + 1))))
 else
  Option.map (fun o => .inr o) (Ja9 x5)
theorem JcP {b0 : T_api_Image} {x5 : List UInt8} {x6 : Int} {o : (((List UInt8) × Int) ⊕ ((List UInt8) × Int))} (h : J3V b0 x5 x6 = some o) :
  rk (J1 p) J20 0 [.lo 1 [1, 5, 6] J2S, .bl 0, .sq (.keep [5] J3U)] (X (J1 p) J2S ⟨[(1, .ptr 0 0), (5, .p (.s x5)), (6, .p (.i .i64 x6))], [.box (List.map AV.p (J3 b0))]⟩) = (JiB p b0) o := by
 unfold J3V at h
 rcases J8 h with ⟨h1, h⟩ | ⟨h1, h⟩
 ·obtain ⟨y2, h3, h⟩ := bi h
  have f4 := J43 (r := J5) h3
  try simp only [Nf] at f4
  obtain ⟨r5, h6, h⟩ := bi h
  have f7 := J3E p h6
  try simp only [Nf] at f7
  have f8 : ∀ ws k new s, Jg ((Jm (AF (J1 p)) J14 ([.p (.s []), .p (.i .i64 y2.Page), .p (.i .i64 2)], ws) k new).reads s) = [] := J05 rfl
  try simp only [Nf] at f8
  obtain ⟨s9, h10, h⟩ := bi h
  obtain ⟨r11, h12, h⟩ := bi h
  have f13 := Jfy p h12
  try simp only [Nf] at f13
  have f14 : ∀ ws k new s, Jg ((Jm (AF (J1 p)) J4J ([.p (.s s9)], ws) k new).reads s) = [] := J05 rfl
  try simp only [Nf] at f14
  obtain ⟨s15, h16, h⟩ := bi h
  obtain rfl := sj h
  try simp only [↓Da, Ua, Ra, J2S, Je, Ji, *, ↓reduceIte, reduceEqDiff, reduceAdd, reduceLT, reduceMul, Nat.reduceBEq]
  rfl
 ·obtain ⟨o', h', rfl⟩ := mi h
  try simp only [↓Da, Ua, Ra, J2S, Je, Ji, *, ↓reduceIte, reduceEqDiff, reduceAdd, reduceLT, reduceMul, Nat.reduceBEq]
  have e0 := JiJ p (B0 := (J3 b0)) h'
  exact e0
def Ja5 (b0 : T_api_Image) (s : (List UInt8) × Int) : Option ((List UInt8) × Int) :=
 Jr (fun s => J3V b0 s.1 s.2) s
theorem Jg6 {b0 : T_api_Image} {s : (List UInt8) × Int} {o : (List UInt8) × Int} (h : Ja5 b0 s = some o) :
  rk (J1 p) J20 0 [.bl 0, .sq (.keep [5] J3U)] (X (J1 p) (.lp 1 [1, 5, 6] J2S) ⟨[(1, .ptr 0 0), (5, .p (.s s.1)), (6, .p (.i .i64 s.2))], [.box (List.map AV.p (J3 b0))]⟩) = J6j o := by
 have h0 : Jr (fun s => J3V b0 s.1 s.2) s = some o := h
 exact J04 (P := fun (s : (List UInt8) × Int) (o : (List UInt8) × Int) => rk (J1 p) J20 0 [.bl 0, .sq (.keep [5] J3U)] (X (J1 p) (.lp 1 [1, 5, 6] J2S) ⟨[(1, .ptr 0 0), (5, .p (.s s.1)), (6, .p (.i .i64 s.2))], [.box (List.map AV.p (J3 b0))]⟩) = J6j o) (fun s r hs => by rw [J03]; exact JcP p hs) (fun s s1 r hs ih => by rw [J03]; exact (JcP p hs).trans ih) h0
def J4a (x0 : T_api_Image) : Option ((List UInt8) × Int) :=
 Option.bind (J3J x0) fun r1 =>
 if r1 then
  Option.bind (J02 ([80, 77, 73, 77]) x0.ID 4) fun r5 =>
  Option.bind (J02 r5 x0.Pages 2) fun r8 =>
  Option.bind (J02 r8 ((List.length x0.Copies : Nat) : Int) 2) fun r11 =>
  Option.bind (J4L r11) fun r14 =>
  Ja5 x0 (r14, 0)
 else
  some (([] : List UInt8), 43)
theorem JgT {x0 : T_api_Image} {o : (List UInt8) × Int} (h : J4a x0 = some o) :
  rk (J1 p) J20 0 [] (X (J1 p) J5d ⟨[(0, .data (J3 x0))], []⟩) = J6j o := by
 unfold J4a at h
 obtain ⟨r1, h2, h⟩ := bi h
 have f3 := Jc1 p h2
 try simp only [Nf] at f3
 try simp only [↓Da, Ua, J5d, Je, Ji, *, ↓reduceIte, reduceEqDiff, reduceAdd, reduceLT, reduceMul]
 rcases J8 h with ⟨h4, h⟩ | ⟨h4, h⟩
 ·obtain ⟨r5, h6, h⟩ := bi h
  have f7 := J3E p h6
  try simp only [Nf] at f7
  obtain ⟨r8, h9, h⟩ := bi h
  have f10 := J3E p h9
  try simp only [Nf] at f10
  obtain ⟨r11, h12, h⟩ := bi h
  have f13 := J3E p h12
  try simp only [Nf] at f13
  obtain ⟨r14, h15, h⟩ := bi h
  have f16 := Jfy p h15
  try simp only [Nf] at f16
  try simp only [↓Da, Ua, J5d, Je, Ji, *, ↓reduceIte, reduceEqDiff, reduceAdd, reduceLT, reduceMul]
  have e0 := Jg6 p h
  exact e0
 ·obtain rfl := sj h
  try simp only [↓Da, Ua, J5d, Je, Ji, Jep, *, ↓reduceIte, reduceEqDiff, reduceAdd, reduceLT, reduceMul]
  rfl
theorem Jl1 {x0 : T_api_Image} {o : (List UInt8) × Int} (h : J4a x0 = some o) : AF (J1 p) J5j [.data (J3 x0)] [] = J6j o :=
 (J00 (J1 p) (Jls p) rfl).trans (JgT p h)
theorem Jeb {x0 : T_api_Image} {o : (List UInt8) × Int} (h : J4a x0 = some o) : ∀ ws new st, (Jm (AF (J1 p)) J5j ([.data (J3 x0)], ws) 0 new).run st = some ⟨.tup [.p (.s o.1), .p (.i .i64 o.2)], ws⟩ := Jt rfl (Jl1 p h) rfl
def J6b  (r : T_api_Image × Int) : Option Res := some (.tup [.data (J3 r.1), .p (.i .i64 r.2)], [])
def Jjb (x0 : List UInt8) (x8 : Int) (l0 : List T_api_Copy) (b1_0 b1_1 : Int) (b4_0 b4_1 : Int) (B3 : List (List PV)) (w0 w2 w3 : Bool) (o : (Int × Int × (List T_api_Copy)) ⊕ (T_api_Image × Int)) : Option Res := match o with
 | .inl s => rk (J1 p) J1X 0 [.bl 0, .td 5 [0, 2, 3, 5, 7], .sq (.keep [0, 2, 5, 7] J1H)] (X (J1 p) (.lp 5 [0, 2, 5, 7, 8, 9] J0W) ⟨[(0, .p (.s x0)), (2, .ptr 1 0), (5, .p (.i .i64 s.1)), (7, .ptr 4 0), (8, .p (.i .i64 x8)), (9, .p (.i .i64 s.2.1))], [.arr w0 3 (List.map J5 l0), .box [.p (.i .i64 b1_0), .p (.i .i64 b1_1), .slr 0 0 (List.length l0)], .arr w2 3 (List.map J5 s.2.2), .arr w3 3 B3, .box [.p (.i .i64 b4_0), .p (.i .i64 b4_1), .slr 2 0 (List.length s.2.2)]]⟩)
 | .inr o => J6b o
def J8f (x0 : List UInt8) (x5 : Int) (l0 : List T_api_Copy) (b1_0 b1_1 : Int) (l2 : List T_api_Copy) (b4_0 b4_1 : Int) : Option (T_api_Image × Int) :=
 if ((x5 : Int) != ((List.length x0 : Nat) : Int)) then
  some ((⟨0, 0, ([] : List T_api_Copy)⟩ : T_api_Image), 4)
 else
  Option.bind (J3J (⟨b4_0, b4_1, l2⟩ : T_api_Image)) fun r2 =>
  if r2 then
   some ((⟨b4_0, b4_1, l2⟩ : T_api_Image), 0)
  else
   some ((⟨0, 0, ([] : List T_api_Copy)⟩ : T_api_Image), 43)
theorem JiH {x0 : List UInt8} {x5 : Int} {l0 : List T_api_Copy} {b1_0 b1_1 : Int} {l2 : List T_api_Copy} {b4_0 b4_1 : Int} {w0 w2 : Bool} {B3 : List (List PV)} {w3 : Bool} {o : T_api_Image × Int} (h : J8f x0 x5 l0 b1_0 b1_1 l2 b4_0 b4_1 = some o) :
  rk (J1 p) J1X 0 [] (X (J1 p) J1H ⟨[(0, .p (.s x0)), (2, .ptr 1 0), (5, .p (.i .i64 x5)), (7, .ptr 4 0)], [.arr w0 3 (List.map J5 l0), .box [.p (.i .i64 b1_0), .p (.i .i64 b1_1), .slr 0 0 (List.length l0)], .arr w2 3 (List.map J5 l2), .arr w3 3 B3, .box [.p (.i .i64 b4_0), .p (.i .i64 b4_1), .slr 2 0 (List.length l2)]]⟩) = J6b o := by
 unfold J8f at h
 rcases J8 h with ⟨h1, h⟩ | ⟨h1, h⟩
 ·obtain rfl := sj h
  try simp only [↓Da, Ua, J1H, Ja, Jc, J3b, *, ↓reduceIte, reduceEqDiff, reduceAdd, reduceLT, reduceMul]
  rfl
 ·obtain ⟨r2, h3, h⟩ := bi h
  have f4 := Jc1 p h3
  try simp only [Nf, Ja, Jc] at f4
  try simp only [↓Da, Ua, J1H, Ja, Jc, *, ↓reduceIte, reduceEqDiff, reduceAdd, reduceLT, reduceMul]
  rcases J8 h with ⟨h5, h⟩ | ⟨h5, h⟩
  ·obtain rfl := sj h
   try simp only [↓Da, Ua, J1H, Ja, Jc, J3b, *, ↓reduceIte, reduceEqDiff, reduceAdd, reduceLT, reduceMul]
   rfl
  ·obtain rfl := sj h
   try simp only [↓Da, Ua, J1H, Ja, Jc, J3b, *, ↓reduceIte, reduceEqDiff, reduceAdd, reduceLT, reduceMul]
   rfl
def J2f (x0 : List UInt8) (x8 : Int) (l0 : List T_api_Copy) (b1_0 b1_1 : Int) (b4_0 b4_1 : Int) (x5 x9 : Int) (l2 : List T_api_Copy) : Option (((Int × Int × (List T_api_Copy)) ⊕ (T_api_Image × Int))) :=
 if (decide (x9 < x8)) then
  Option.bind (J2N x0 x5) fun r2 =>
  if ((r2.2.2 : Int) != 0) then
   some (.inr ((⟨0, 0, ([] : List T_api_Copy)⟩ : T_api_Image), r2.2.2))
  else
   if ((((List.length r2.1 : Nat) : Int) : Int) != 258) then
    some (.inr ((⟨0, 0, ([] : List T_api_Copy)⟩ : T_api_Image), 4))
   else
    Option.bind (J1x r2.1 0 2) fun r7 =>
    Option.bind (J0Z r2.1 (some 2) none) fun m11 =>
    Option.bind (J1j m11 r7) fun r14 =>
    Option.bind (Jbf 32 l2 ([(⟨r7, r14.1.LSN, m11⟩ : T_api_Copy)] : List T_api_Copy)) fun m17 =>
    some (.inl (r2.2.1, (IntKind.wrap .i64 (x9 + 1)), m17))
 else
  Option.map (fun o => .inr o) (J8f x0 x5 l0 b1_0 b1_1 l2 b4_0 b4_1)
theorem Jcv {x0 : List UInt8} {x8 : Int} {l0 : List T_api_Copy} {b1_0 b1_1 : Int} {b4_0 b4_1 : Int} {x5 x9 : Int} {l2 : List T_api_Copy} {w0 w2 : Bool} {B3 : List (List PV)} {w3 : Bool} {o : ((Int × Int × (List T_api_Copy)) ⊕ (T_api_Image × Int))} (h : J2f x0 x8 l0 b1_0 b1_1 b4_0 b4_1 x5 x9 l2 = some o) :
  rk (J1 p) J1X 0 [.lo 5 [0, 2, 5, 7, 8, 9] J0W, .bl 0, .td 5 [0, 2, 3, 5, 7], .sq (.keep [0, 2, 5, 7] J1H)] (X (J1 p) J0W ⟨[(0, .p (.s x0)), (2, .ptr 1 0), (5, .p (.i .i64 x5)), (7, .ptr 4 0), (8, .p (.i .i64 x8)), (9, .p (.i .i64 x9))], [.arr w0 3 (List.map J5 l0), .box [.p (.i .i64 b1_0), .p (.i .i64 b1_1), .slr 0 0 (List.length l0)], .arr w2 3 (List.map J5 l2), .arr w3 3 B3, .box [.p (.i .i64 b4_0), .p (.i .i64 b4_1), .slr 2 0 (List.length l2)]]⟩) = (Jjb p x0 x8 l0 b1_0 b1_1 b4_0 b4_1 B3 w0 w2 w3) o := by
 unfold J2f at h
 rcases J8 h with ⟨h1, h⟩ | ⟨h1, h⟩
 ·obtain ⟨r2, h3, h⟩ := bi h
  have f4 := JdB p h3
  try simp only [Nf, Ja, J0l, Jc] at f4
  try simp only [↓Da, Ua, Ra, J0W, Ja, J0l, J2, J6, Jc, *, ↓reduceIte, reduceEqDiff, reduceAdd, reduceLT, reduceMul, Nat.reduceBEq]
  rcases J8 h with ⟨h5, h⟩ | ⟨h5, h⟩
  ·obtain rfl := sj h
   try simp only [↓Da, Ua, Ra, J0W, Ja, J0l, J2, J6, Jc, J3b, *, ↓reduceIte, reduceEqDiff, reduceAdd, reduceLT, reduceMul, Nat.reduceBEq]
   rfl
  ·try simp only [↓Da, Ua, Ra, J0W, Ja, J0l, J2, J6, Jc, *, ↓reduceIte, reduceEqDiff, reduceAdd, reduceLT, reduceMul, Nat.reduceBEq]
   rcases J8 h with ⟨h6, h⟩ | ⟨h6, h⟩
   ·obtain rfl := sj h
    try simp only [↓Da, Ua, Ra, J0W, Ja, J0l, J2, J6, Jc, J3b, *, ↓reduceIte, reduceEqDiff, reduceAdd, reduceLT, reduceMul, Nat.reduceBEq]
    rfl
   ·obtain ⟨r7, h8, h⟩ := bi h
    have f9 := J9k p h8
    try simp only [Nf, Ja, J0l, Jc] at f9
    have f10 : ∀ ws k new s, Jg ((Jm (AF (J1 p)) J2B ([.p (.s r2.1), .p (.i .i64 0), .p (.i .i64 2)], ws) k new).reads s) = [] := J05 rfl
    try simp only [Nf, Ja, J0l, Jc] at f10
    obtain ⟨m11, h12, h⟩ := bi h
    have f13 : J13 (.p (.s r2.1)) (some (.p (.i .i64 2))) none = some (.p (.s m11)) := J0X (k := .i64) (lo := (some 2)) (hi := none) h12
    try simp only [Nf, Ja, J0l, Jc] at f13
    obtain ⟨r14, h15, h⟩ := bi h
    have f16 := J84 p h15
    try simp only [Nf, Ja, J0l, Jc] at f16
    obtain ⟨m17, h18, h⟩ := bi h
    have f19 : ∀ s : St, s.sto[2]? = some (.arr w2 3 (List.map J5 l2)) → (JT 3 (.p (.sl 3 (List.map J5 ([(⟨r7, r14.1.LSN, m11⟩ : T_api_Copy)] : List T_api_Copy))))).run s = some (List.map J5 ([(⟨r7, r14.1.LSN, m11⟩ : T_api_Copy)] : List T_api_Copy)) → (J4t 3 32 (.slr 2 0 (List.length l2)) (.p (.sl 3 (List.map J5 ([(⟨r7, r14.1.LSN, m11⟩ : T_api_Copy)] : List T_api_Copy))))).run s = some ⟨.slr 2 0 (List.length m17), [(2, .arr w2 3 (List.map J5 m17))]⟩ := by
     intro s e1 e2; have e3 := Jct h18 e1 e2; try simp only [List.length_cons, List.length_nil, Nat.zero_add] at e3
     exact e3
    try simp only [Nf, Ja, J0l, Jc] at f19
    obtain rfl := sj h
    try simp only [↓Da, Ua, Ra, J0W, Ja, J0l, J2, J6, Jc, *, ↓reduceIte, reduceEqDiff, reduceAdd, reduceLT, reduceMul, Nat.reduceBEq]
    rfl
 ·obtain ⟨o', h', rfl⟩ := mi h
  try simp only [↓Da, Ua, Ra, J0W, Ja, J0l, J2, J6, Jc, *, ↓reduceIte, reduceEqDiff, reduceAdd, reduceLT, reduceMul, Nat.reduceBEq]
  have e0 := JiH p (w0 := w0) (w2 := w2) (w3 := w3) (B3 := B3) h'
  exact e0
def Jcu (x0 : List UInt8) (x8 : Int) (l0 : List T_api_Copy) (b1_0 b1_1 : Int) (b4_0 b4_1 : Int) (s : Int × Int × (List T_api_Copy)) : Option (T_api_Image × Int) :=
 Jr (fun s => J2f x0 x8 l0 b1_0 b1_1 b4_0 b4_1 s.1 s.2.1 s.2.2) s
theorem JgF {x0 : List UInt8} {x8 : Int} {l0 : List T_api_Copy} {b1_0 b1_1 : Int} {b4_0 b4_1 : Int} {w0 w2 : Bool} {B3 : List (List PV)} {w3 : Bool} {s : Int × Int × (List T_api_Copy)} {o : T_api_Image × Int} (h : Jcu x0 x8 l0 b1_0 b1_1 b4_0 b4_1 s = some o) :
  rk (J1 p) J1X 0 [.bl 0, .td 5 [0, 2, 3, 5, 7], .sq (.keep [0, 2, 5, 7] J1H)] (X (J1 p) (.lp 5 [0, 2, 5, 7, 8, 9] J0W) ⟨[(0, .p (.s x0)), (2, .ptr 1 0), (5, .p (.i .i64 s.1)), (7, .ptr 4 0), (8, .p (.i .i64 x8)), (9, .p (.i .i64 s.2.1))], [.arr w0 3 (List.map J5 l0), .box [.p (.i .i64 b1_0), .p (.i .i64 b1_1), .slr 0 0 (List.length l0)], .arr w2 3 (List.map J5 s.2.2), .arr w3 3 B3, .box [.p (.i .i64 b4_0), .p (.i .i64 b4_1), .slr 2 0 (List.length s.2.2)]]⟩) = J6b o := by
 have h0 : Jr (fun s => J2f x0 x8 l0 b1_0 b1_1 b4_0 b4_1 s.1 s.2.1 s.2.2) s = some o := h
 exact J04 (P := fun (s : Int × Int × (List T_api_Copy)) (o : T_api_Image × Int) => rk (J1 p) J1X 0 [.bl 0, .td 5 [0, 2, 3, 5, 7], .sq (.keep [0, 2, 5, 7] J1H)] (X (J1 p) (.lp 5 [0, 2, 5, 7, 8, 9] J0W) ⟨[(0, .p (.s x0)), (2, .ptr 1 0), (5, .p (.i .i64 s.1)), (7, .ptr 4 0), (8, .p (.i .i64 x8)), (9, .p (.i .i64 s.2.1))], [.arr w0 3 (List.map J5 l0), .box [.p (.i .i64 b1_0), .p (.i .i64 b1_1), .slr 0 0 (List.length l0)], .arr w2 3 (List.map J5 s.2.2), .arr w3 3 B3, .box [.p (.i .i64 b4_0), .p (.i .i64 b4_1), .slr 2 0 (List.length s.2.2)]]⟩) = J6b o) (fun s r hs => by rw [J03]; exact Jcv p hs) (fun s s1 r hs ih => by rw [J03]; exact (Jcv p hs).trans ih) h0
def J53 (x0 : List UInt8) : Option (T_api_Image × Int) :=
 Option.bind (J2N x0 0) fun r1 =>
 if ((r1.2.2 : Int) != 0) then
  some ((⟨0, 0, ([] : List T_api_Copy)⟩ : T_api_Image), r1.2.2)
 else
  if ((((List.length r1.1 : Nat) : Int) : Int) != 12) then
   some ((⟨0, 0, ([] : List T_api_Copy)⟩ : T_api_Image), 4)
  else
   Option.bind (J0Z r1.1 none (some 4)) fun m6 =>
   if (m6 == [80, 77, 73, 77]) then
    Option.bind (J1x r1.1 4 4) fun r10 =>
    Option.bind (J1x r1.1 8 2) fun r13 =>
    Option.bind (J1x r1.1 10 2) fun r16 =>
    if (decide (r16 > 64)) then
     some ((⟨0, 0, ([] : List T_api_Copy)⟩ : T_api_Image), 4)
    else
     Jcu x0 r16 ([] : List T_api_Copy) 0 0 r10 r13 (r1.2.1, 0, ([] : List T_api_Copy))
   else
    some ((⟨0, 0, ([] : List T_api_Copy)⟩ : T_api_Image), 4)
theorem JgU {x0 : List UInt8} {o : T_api_Image × Int} (h : J53 x0 = some o) :
  rk (J1 p) J1X 0 [] (X (J1 p) J19 ⟨[(0, .p (.s x0))], []⟩) = J6b o := by
 unfold J53 at h
 obtain ⟨r1, h2, h⟩ := bi h
 have f3 := JdB p h2
 try simp only [Nf, Ja, Jc] at f3
 try simp only [↓Da, Ua, J19, Ja, Jc, *, ↓reduceIte, reduceEqDiff, reduceAdd, reduceLT, reduceMul]
 rcases J8 h with ⟨h4, h⟩ | ⟨h4, h⟩
 ·obtain rfl := sj h
  try simp only [↓Da, Ua, J19, Ja, Jc, J3b, *, ↓reduceIte, reduceEqDiff, reduceAdd, reduceLT, reduceMul]
  rfl
 ·try simp only [↓Da, Ua, J19, Ja, Jc, *, ↓reduceIte, reduceEqDiff, reduceAdd, reduceLT, reduceMul]
  rcases J8 h with ⟨h5, h⟩ | ⟨h5, h⟩
  ·obtain rfl := sj h
   try simp only [↓Da, Ua, J19, Ja, Jc, J3b, *, ↓reduceIte, reduceEqDiff, reduceAdd, reduceLT, reduceMul]
   rfl
  ·obtain ⟨m6, h7, h⟩ := bi h
   have f8 : J13 (.p (.s r1.1)) none (some (.p (.i .i64 4))) = some (.p (.s m6)) := J0X (k := .i64) (lo := none) (hi := (some 4)) h7
   try simp only [Nf, Ja, Jc] at f8
   try simp only [↓Da, Ua, J19, Ja, Jc, *, ↓reduceIte, reduceEqDiff, reduceAdd, reduceLT, reduceMul]
   rcases J8 h with ⟨h9, h⟩ | ⟨h9, h⟩
   ·obtain ⟨r10, h11, h⟩ := bi h
    have f12 := J9k p h11
    try simp only [Nf, Ja, Jc] at f12
    obtain ⟨r13, h14, h⟩ := bi h
    have f15 := J9k p h14
    try simp only [Nf, Ja, Jc] at f15
    obtain ⟨r16, h17, h⟩ := bi h
    have f18 := J9k p h17
    try simp only [Nf, Ja, Jc] at f18
    try simp only [↓Da, Ua, J19, Ja, Jc, *, ↓reduceIte, reduceEqDiff, reduceAdd, reduceLT, reduceMul]
    rcases J8 h with ⟨h19, h⟩ | ⟨h19, h⟩
    ·obtain rfl := sj h
     try simp only [↓Da, Ua, J19, Ja, Jc, J3b, *, ↓reduceIte, reduceEqDiff, reduceAdd, reduceLT, reduceMul]
     rfl
    ·try simp only [↓Da, Ua, J19, Ja, Jc, *, ↓reduceIte, reduceEqDiff, reduceAdd, reduceLT, reduceMul]
     have e0 := JgF p (w0 := true) (w2 := true) (w3 := true) (B3 := (List.map J5 ([] : List T_api_Copy))) h
     exact e0
   ·obtain rfl := sj h
    try simp only [↓Da, Ua, J19, Ja, Jc, J3b, *, ↓reduceIte, reduceEqDiff, reduceAdd, reduceLT, reduceMul]
    rfl
theorem Jl2 {x0 : List UInt8} {o : T_api_Image × Int} (h : J53 x0 = some o) : AF (J1 p) J6i [.p (.s x0)] [] = J6b o :=
 (J00 (J1 p) (Jlo p) rfl).trans (JgU p h)
theorem Jl7 {x0 : List UInt8} {o : T_api_Image × Int} (h : J53 x0 = some o) : ∀ ws new st, (Jm (AF (J1 p)) J6i ([.p (.s x0)], ws) 0 new).run st = some ⟨.tup [.data (J3 o.1), .p (.i .i64 o.2)], ws⟩ := Jt rfl (Jl2 p h) rfl
def J15  (r : Bool) : Option Res := some (.p (.b r), [])
def JeJ (x1 : List UInt8) (x39 : List T_api_Image) (x40 : Int) (b0 : T_pagemenddraw_Codes) (b1 : T_api_Image) (o : (Int) ⊕ (Bool)) : Option Res := match o with
 | .inl s => rk (J1 p) JU 0 [.bl 0, .td 2 [1, 4, 5, 6], .sq (.keep [1, 5, 6] J2e)] (X (J1 p) (.lp 2 [1, 5, 6, 39, 40, 41] J08) ⟨[(1, .p (.s x1)), (5, .ptr 0 0), (6, .ptr 1 0), (39, .p (.sl 3 (List.map J3 x39))), (40, .p (.i .i64 x40)), (41, .p (.i .i64 s))], [.box (List.map AV.p (J0 b0)), .box (List.map AV.p (J3 b1))]⟩)
 | .inr o => J15 o
def Jet (x82 : List (List UInt8)) (x83 : Int) (B0 B1 : List PV) (o : (Int) ⊕ (Bool)) : Option Res := match o with
 | .inl s => rk (J1 p) JU 0 [.bl 2, .td 2 [4], .sq (.keep [] J2j)] (X (J1 p) (.lp 2 [82, 83, 84] J09) ⟨[(82, .p (.sl 1 (List.map r_s x82))), (83, .p (.i .i64 x83)), (84, .p (.i .i64 s))], [.box (List.map AV.p B0), .box (List.map AV.p B1)]⟩)
 | .inr o => J15 o
def J82  : Option (Bool) :=
 some true
theorem JeP {B0 B1 : List PV} {o : Bool} (h : J82 = some o) :
  rk (J1 p) JU 0 [] (X (J1 p) J2j ⟨[], [.box (List.map AV.p B0), .box (List.map AV.p B1)]⟩) = J15 o := by
 unfold J82 at h
 obtain rfl := sj h
 try simp only [↓Da, Ua, J2j, J2P, ↓reduceIte, reduceEqDiff, reduceAdd, reduceLT, reduceMul]
 rfl
def J4q (x82 : List (List UInt8)) (x83 x84 : Int) : Option (((Int) ⊕ (Bool))) :=
 if (decide (x84 < x83)) then
  Option.bind (idx x82 x84) fun y2 =>
  Option.bind (J5a y2) fun r5 =>
  Option.bind (J53 y2) fun r8 =>
  if ((r5.2 : Int) != r8.2) then
   some (.inr false)
  else
   Option.bind (J6s r5.1 r8.1) fun r12 =>
   if r12 then
    some (.inl (IntKind.wrap .i64 (x84 + 1)))
   else
    some (.inr false)
 else
  Option.map (fun o => .inr o) (J82)
theorem JaP {x82 : List (List UInt8)} {x83 x84 : Int} {B0 B1 : List PV} {o : ((Int) ⊕ (Bool))} (h : J4q x82 x83 x84 = some o) :
  rk (J1 p) JU 0 [.lo 2 [82, 83, 84] J09, .bl 2, .td 2 [4], .sq (.keep [] J2j)] (X (J1 p) J09 ⟨[(82, .p (.sl 1 (List.map r_s x82))), (83, .p (.i .i64 x83)), (84, .p (.i .i64 x84))], [.box (List.map AV.p B0), .box (List.map AV.p B1)]⟩) = (Jet p x82 x83 B0 B1) o := by
 unfold J4q at h
 rcases J8 h with ⟨h1, h⟩ | ⟨h1, h⟩
 ·obtain ⟨y2, h3, h⟩ := bi h
  have f4 := J43 (r := r_s) h3
  try simp only [Nf] at f4
  obtain ⟨r5, h6, h⟩ := bi h
  have f7 := Jlk p h6
  try simp only [Nf] at f7
  obtain ⟨r8, h9, h⟩ := bi h
  have f10 := Jl7 p h9
  try simp only [Nf] at f10
  try simp only [↓Da, Ua, J09, Je, Ji, *, ↓reduceIte, reduceEqDiff, reduceAdd, reduceLT, reduceMul]
  rcases J8 h with ⟨h11, h⟩ | ⟨h11, h⟩
  ·obtain rfl := sj h
   try simp only [↓Da, Ua, J09, Je, Ji, J2P, *, ↓reduceIte, reduceEqDiff, reduceAdd, reduceLT, reduceMul]
   rfl
  ·obtain ⟨r12, h13, h⟩ := bi h
   have f14 := Jnu p h13
   try simp only [Nf] at f14
   try simp only [↓Da, Ua, J09, Je, Ji, *, ↓reduceIte, reduceEqDiff, reduceAdd, reduceLT, reduceMul]
   rcases J8 h with ⟨h15, h⟩ | ⟨h15, h⟩
   ·obtain rfl := sj h
    try simp only [↓Da, Ua, J09, Je, Ji, *, ↓reduceIte, reduceEqDiff, reduceAdd, reduceLT, reduceMul]
    rfl
   ·obtain rfl := sj h
    try simp only [↓Da, Ua, J09, Je, Ji, J2P, *, ↓reduceIte, reduceEqDiff, reduceAdd, reduceLT, reduceMul]
    rfl
 ·obtain ⟨o', h', rfl⟩ := mi h
  try simp only [↓Da, Ua, J09, Je, Ji, *, ↓reduceIte, reduceEqDiff, reduceAdd, reduceLT, reduceMul]
  have e0 := JeP p (B0 := B0) (B1 := B1) h'
  exact e0
def J8e (x82 : List (List UInt8)) (x83 s : Int) : Option (Bool) :=
 Jr (fun s => J4q x82 x83 s) s
theorem JdN {x82 : List (List UInt8)} {x83 : Int} {B0 B1 : List PV} {s : Int} {o : Bool} (h : J8e x82 x83 s = some o) :
  rk (J1 p) JU 0 [.bl 2, .td 2 [4], .sq (.keep [] J2j)] (X (J1 p) (.lp 2 [82, 83, 84] J09) ⟨[(82, .p (.sl 1 (List.map r_s x82))), (83, .p (.i .i64 x83)), (84, .p (.i .i64 s))], [.box (List.map AV.p B0), .box (List.map AV.p B1)]⟩) = J15 o := by
 have h0 : Jr (fun s => J4q x82 x83 s) s = some o := h
 exact J04 (P := fun (s : Int) (o : Bool) => rk (J1 p) JU 0 [.bl 2, .td 2 [4], .sq (.keep [] J2j)] (X (J1 p) (.lp 2 [82, 83, 84] J09) ⟨[(82, .p (.sl 1 (List.map r_s x82))), (83, .p (.i .i64 x83)), (84, .p (.i .i64 s))], [.box (List.map AV.p B0), .box (List.map AV.p B1)]⟩) = J15 o) (fun s r hs => by rw [J03]; exact JaP p hs) (fun s s1 r hs ih => by rw [J03]; exact (JaP p hs).trans ih) h0
def J5Z (x1 : List UInt8) (b0 : T_pagemenddraw_Codes) (b1 : T_api_Image) : Option (Bool) :=
 Option.bind (J4a b1) fun r1 =>
 Option.bind (J2D b0 r1.1) fun r4 =>
 Option.bind (J1Z r1.1 x1) fun s7 =>
 Option.bind (JqB .i64 ((List.length r1.1 : Nat) : Int) 2) fun q9 =>
 Option.bind (J0Z r1.1 none (some q9)) fun m11 =>
 J8e ([r1.1, r4.1, s7, x1, m11] : List (List UInt8)) ((List.length ([r1.1, r4.1, s7, x1, m11] : List (List UInt8)) : Nat) : Int) 0
theorem Jf7 {x1 : List UInt8} {b0 : T_pagemenddraw_Codes} {b1 : T_api_Image} {o : Bool} (h : J5Z x1 b0 b1 = some o) :
  rk (J1 p) JU 0 [] (X (J1 p) J2e ⟨[(1, .p (.s x1)), (5, .ptr 0 0), (6, .ptr 1 0)], [.box (List.map AV.p (J0 b0)), .box (List.map AV.p (J3 b1))]⟩) = J15 o := by
 unfold J5Z at h
 obtain ⟨r1, h2, h⟩ := bi h
 have f3 := Jeb p h2
 try simp only [Nf] at f3
 obtain ⟨r4, h5, h⟩ := bi h
 have f6 : ∀ ws new s, JG ws s [0] [List.map AV.p (J0 b0)] → (Jm (AF (J1 p)) J1O ([.ptr 0 0, .p (.s r1.1)], ws) 0 new).run s = some ⟨.p (.s r4.1), ws ++ [(0, .box (List.map AV.p (J0 r4.2)))]⟩ := Jy (args' := [.ptr 0 0, .p (.s r1.1)]) (bs := [0]) (css := [List.map AV.p (J0 b0)]) (css' := [List.map AV.p (J0 r4.2)]) rfl rfl rfl (by simp [Jl, J9]) (Jb2 p h5) rfl rfl (by simp [Jl, J9])
 try simp only [Nf] at f6
 obtain ⟨s7, h8, h⟩ := bi h
 obtain ⟨q9, h10, h⟩ := bi h
 obtain ⟨m11, h12, h⟩ := bi h
 have f13 : J13 (.p (.s r1.1)) none (some (.p (.i .i64 q9))) = some (.p (.s m11)) := J0X (k := .i64) (lo := none) (hi := (some q9)) h12
 try simp only [Nf] at f13
 try simp only [↓Da, Ua, J2e, Je, Ji, Jd, *, ↓reduceIte, reduceEqDiff, reduceAdd, reduceLT, reduceMul]
 have e0 := JdN p (B0 := (J0 r4.2)) (B1 := (J3 b1)) h
 exact e0
def J4i (x1 : List UInt8) (x39 : List T_api_Image) (x40 : Int) (b0 : T_pagemenddraw_Codes) (b1 : T_api_Image) (x41 : Int) : Option (((Int) ⊕ (Bool))) :=
 if (decide (x41 < x40)) then
  Option.bind (idx x39 x41) fun y2 =>
  Option.bind (J2w y2) fun r5 =>
  Option.bind (J4a y2) fun r8 =>
  if ((r5.2 : Int) != r8.2) then
   some (.inr false)
  else
   if (r5.1 == r8.1) then
    some (.inl (IntKind.wrap .i64 (x41 + 1)))
   else
    some (.inr false)
 else
  Option.map (fun o => .inr o) (J5Z x1 b0 b1)
theorem JaG {x1 : List UInt8} {x39 : List T_api_Image} {x40 : Int} {b0 : T_pagemenddraw_Codes} {b1 : T_api_Image} {x41 : Int} {o : ((Int) ⊕ (Bool))} (h : J4i x1 x39 x40 b0 b1 x41 = some o) :
  rk (J1 p) JU 0 [.lo 2 [1, 5, 6, 39, 40, 41] J08, .bl 0, .td 2 [1, 4, 5, 6], .sq (.keep [1, 5, 6] J2e)] (X (J1 p) J08 ⟨[(1, .p (.s x1)), (5, .ptr 0 0), (6, .ptr 1 0), (39, .p (.sl 3 (List.map J3 x39))), (40, .p (.i .i64 x40)), (41, .p (.i .i64 x41))], [.box (List.map AV.p (J0 b0)), .box (List.map AV.p (J3 b1))]⟩) = (JeJ p x1 x39 x40 b0 b1) o := by
 unfold J4i at h
 rcases J8 h with ⟨h1, h⟩ | ⟨h1, h⟩
 ·obtain ⟨y2, h3, h⟩ := bi h
  have f4 := J43 (r := J3) h3
  try simp only [Nf] at f4
  obtain ⟨r5, h6, h⟩ := bi h
  have f7 : ∀ ws new s, (Jm (AF (J1 p)) J0M ([.data (J3 y2)], ws) 0 new).run s = some ⟨.tup [.p (.s r5.1), .p (.i .i64 r5.2)], ws⟩ := Jt rfl (Jeo p h6) rfl
  try simp only [Nf] at f7
  obtain ⟨r8, h9, h⟩ := bi h
  have f10 := Jeb p h9
  try simp only [Nf] at f10
  try simp only [↓Da, Ua, J08, Je, Ji, *, ↓reduceIte, reduceEqDiff, reduceAdd, reduceLT, reduceMul]
  rcases J8 h with ⟨h11, h⟩ | ⟨h11, h⟩
  ·obtain rfl := sj h
   try simp only [↓Da, Ua, J08, Je, Ji, J2P, *, ↓reduceIte, reduceEqDiff, reduceAdd, reduceLT, reduceMul]
   rfl
  ·try simp only [↓Da, Ua, J08, Je, Ji, *, ↓reduceIte, reduceEqDiff, reduceAdd, reduceLT, reduceMul]
   rcases J8 h with ⟨h12, h⟩ | ⟨h12, h⟩
   ·obtain rfl := sj h
    try simp only [↓Da, Ua, J08, Je, Ji, *, ↓reduceIte, reduceEqDiff, reduceAdd, reduceLT, reduceMul]
    rfl
   ·obtain rfl := sj h
    try simp only [↓Da, Ua, J08, Je, Ji, J2P, *, ↓reduceIte, reduceEqDiff, reduceAdd, reduceLT, reduceMul]
    rfl
 ·obtain ⟨o', h', rfl⟩ := mi h
  try simp only [↓Da, Ua, J08, Je, Ji, *, ↓reduceIte, reduceEqDiff, reduceAdd, reduceLT, reduceMul]
  have e0 := Jf7 p h'
  exact e0
def J7Y (x1 : List UInt8) (x39 : List T_api_Image) (x40 : Int) (b0 : T_pagemenddraw_Codes) (b1 : T_api_Image) (s : Int) : Option (Bool) :=
 Jr (fun s => J4i x1 x39 x40 b0 b1 s) s
theorem JdG {x1 : List UInt8} {x39 : List T_api_Image} {x40 : Int} {b0 : T_pagemenddraw_Codes} {b1 : T_api_Image} {s : Int} {o : Bool} (h : J7Y x1 x39 x40 b0 b1 s = some o) :
  rk (J1 p) JU 0 [.bl 0, .td 2 [1, 4, 5, 6], .sq (.keep [1, 5, 6] J2e)] (X (J1 p) (.lp 2 [1, 5, 6, 39, 40, 41] J08) ⟨[(1, .p (.s x1)), (5, .ptr 0 0), (6, .ptr 1 0), (39, .p (.sl 3 (List.map J3 x39))), (40, .p (.i .i64 x40)), (41, .p (.i .i64 s))], [.box (List.map AV.p (J0 b0)), .box (List.map AV.p (J3 b1))]⟩) = J15 o := by
 have h0 : Jr (fun s => J4i x1 x39 x40 b0 b1 s) s = some o := h
 exact J04 (P := fun (s : Int) (o : Bool) => rk (J1 p) JU 0 [.bl 0, .td 2 [1, 4, 5, 6], .sq (.keep [1, 5, 6] J2e)] (X (J1 p) (.lp 2 [1, 5, 6, 39, 40, 41] J08) ⟨[(1, .p (.s x1)), (5, .ptr 0 0), (6, .ptr 1 0), (39, .p (.sl 3 (List.map J3 x39))), (40, .p (.i .i64 x40)), (41, .p (.i .i64 s))], [.box (List.map AV.p (J0 b0)), .box (List.map AV.p (J3 b1))]⟩) = J15 o) (fun s r hs => by rw [J03]; exact JaG p hs) (fun s s1 r hs ih => by rw [J03]; exact (JaG p hs).trans ih) h0
def J45 (x0 : List Int) (x1 : List UInt8) : Option (Bool) :=
 Option.bind (J5K) fun r1 =>
 if r1 then
  if (decide (((List.length x1 : Nat) : Int) > 2000)) then
   some true
  else
   Option.bind (J81 x0 400) fun r6 =>
   Option.bind (J7B r6) fun r9 =>
   Option.bind (J8G r9.2 r9.1) fun r12 =>
   J7Y x1 ([r9.1, r12.1] : List T_api_Image) ((List.length ([r9.1, r12.1] : List T_api_Image) : Nat) : Int) r12.2 r9.1 0
 else
  some (decide (((List.length x1 : Nat) : Int) > 2000))
theorem JdK {x0 : List Int} {x1 : List UInt8} {o : Bool} (h : J45 x0 x1 = some o) :
  rk (J1 p) JU 0 [] (X (J1 p) J1B ⟨[(0, .p (.sl 1 (List.map (r_i .u8) x0))), (1, .p (.s x1))], []⟩) = J15 o := by
 unfold J45 at h
 obtain ⟨r1, h2, h⟩ := bi h
 have f3 := Jms p h2
 try simp only [Nf] at f3
 try simp only [↓Da, Ua, Ra, J1B, Je, Ji, Jd, *, ↓reduceIte, reduceEqDiff, reduceAdd, reduceLT, reduceMul, Nat.reduceBEq]
 rcases J8 h with ⟨h4, h⟩ | ⟨h4, h⟩
 ·try simp only [↓Da, Ua, Ra, J1B, Je, Ji, Jd, *, ↓reduceIte, reduceEqDiff, reduceAdd, reduceLT, reduceMul, Nat.reduceBEq]
  rcases J8 h with ⟨h5, h⟩ | ⟨h5, h⟩
  ·obtain rfl := sj h
   try simp only [↓Da, Ua, Ra, J1B, Je, Ji, Jd, J2P, *, ↓reduceIte, reduceEqDiff, reduceAdd, reduceLT, reduceMul, Nat.reduceBEq]
   rfl
  ·obtain ⟨r6, h7, h⟩ := bi h
   have f8 : ∀ ws new s, (Jm (AF (J1 p)) J9s ([.p (.sl 1 (List.map (r_i .u8) x0)), .p (.i .i64 400)], ws) 1 new).run s = some ⟨.ptr new 0, ws ++ [(new, .box (List.map AV.p (J0 r6)))]⟩ := JqA rfl (Jrb p h7) (J9 _)
   try simp only [Nf] at f8
   obtain ⟨r9, h10, h⟩ := bi h
   have f11 : ∀ ws new s, JG ws s [0] [List.map AV.p (J0 r6)] → (Jm (AF (J1 p)) J7R ([.ptr 0 0], ws) 0 new).run s = some ⟨.data (J3 r9.1), ws ++ [(0, .box (List.map AV.p (J0 r9.2)))]⟩ := Jy (args' := [.ptr 0 0]) (bs := [0]) (css := [List.map AV.p (J0 r6)]) (css' := [List.map AV.p (J0 r9.2)]) rfl rfl rfl (by simp [Jl, J9]) (Jnp p h10) rfl rfl (by simp [Jl, J9])
   try simp only [Nf] at f11
   obtain ⟨r12, h13, h⟩ := bi h
   have f14 : ∀ ws new s, JG ws s [0] [List.map AV.p (J0 r9.2)] → (Jm (AF (J1 p)) J7p ([.ptr 0 0, .data (J3 r9.1)], ws) 0 new).run s = some ⟨.data (J3 r12.1), ws ++ [(0, .box (List.map AV.p (J0 r12.2)))]⟩ := Jy (args' := [.ptr 0 0, .data (J3 r9.1)]) (bs := [0]) (css := [List.map AV.p (J0 r9.2)]) (css' := [List.map AV.p (J0 r12.2)]) rfl rfl rfl (by simp [Jl, J9]) (Jpp p h13) rfl rfl (by simp [Jl, J9])
   try simp only [Nf] at f14
   have f15 : ∀ ws k new s, JG ws s [0] [List.map AV.p (J0 r9.2)] → Jg ((Jm (AF (J1 p)) J7p ([.ptr 0 0, .data (J3 r9.1)], ws) k new).reads s) = [0] ++ ([0] ++ [0]) := J9C (args' := [.ptr 0 0, .data (J3 r9.1)]) (bs := [0]) (css := [List.map AV.p (J0 r9.2)]) rfl rfl rfl (by simp [Jl, J9])
   try simp only [Nf] at f15
   try simp only [↓Da, Ua, Ra, J1B, Je, Ji, Jd, *, ↓reduceIte, reduceEqDiff, reduceAdd, reduceLT, reduceMul, Nat.reduceBEq]
   have e0 := JdG p h
   exact e0
 ·obtain rfl := sj h
  try simp only [↓Da, Ua, Ra, J1B, Je, Ji, Jd, J2P, *, ↓reduceIte, reduceEqDiff, reduceAdd, reduceLT, reduceMul, Nat.reduceBEq]
  rfl
theorem Jga {x0 : List Int} {x1 : List UInt8} {o : Bool} (h : J45 x0 x1 = some o) : AF (J1 p) J79 [.p (.sl 1 (List.map (r_i .u8) x0)), .p (.s x1)] [] = J15 o :=
 (J00 (J1 p) (Jgg p) rfl).trans (JdK p h)
end
end Go.Am
end
section
end
section
namespace Go.Am
theorem wrap64 {n : Int} (h1 : -9223372036854775808 ≤ n) (h2 : n ≤ 9223372036854775807) : IntKind.i64.wrap n = n := by
 simp [IntKind.wrap_i64]; omega
theorem J9w {n : Int} (h1 : 0 ≤ n) (h2 : n < 18446744073709551616) : IntKind.u64.wrap n = n := by
 rw [show IntKind.u64.wrap n = n % 18446744073709551616 by simp [IntKind.wrap, IntKind.bits, IntKind.signed]]; omega
theorem J3y {α : Type} (l : List α) (k : Nat) : idx l (k : Int) = l[k]? := by simp [idx]
theorem J56 {α : Type} {n : Nat} (v : Vector α n) (k : Nat) (h : k < n) : J8R v (k : Int) = some v[k] := by
 have e : (0 : Int) ≤ k ∧ (k : Int) < n := by omega
 simp [J8R, e, h]
theorem J9v {n k : Nat} (h : k < n) : inb n (k : Int) = some () := by
 have e : (0 : Int) ≤ k ∧ (k : Int) < n := by omega
 simp [inb, e]
theorem J2q {k : Nat} (h : k < 1000000) : IntKind.i64.wrap ((k : Int) + 1) = ((k + 1 : Nat) : Int) := by
 rw [wrap64 (by omega) (by omega)]; simp
theorem J0R {σ ρ : Type} {f : σ → Option (σ ⊕ ρ)} (I : σ → Prop) (m : σ → Nat) (Q : ρ → Prop)
  (h : ∀ s, I s → (∃ s', f s = some (.inl s') ∧ I s' ∧ m s' < m s) ∨ (∃ r, f s = some (.inr r) ∧ Q r)) : ∀ s, I s → ∃ r, Jr f s = some r ∧ Q r := by
 have key : ∀ n s, m s ≤ n → I s → ∃ r, Jr f s = some r ∧ Q r := by
  intro n
  induction n with
  | zero =>
   intro s hm hs
   rcases h s hs with ⟨s', e, hs', hlt⟩ | ⟨r, e, hq⟩
   ·omega
   ·exact ⟨r, J0E e, hq⟩
  | succ n ih =>
   intro s hm hs
   rcases h s hs with ⟨s', e, hs', hlt⟩ | ⟨r, e, hq⟩
   ·obtain ⟨r, hr, hq⟩ := ih s' (by omega) hs'
    exact ⟨r, (J2b e).trans hr, hq⟩
   ·exact ⟨r, J0E e, hq⟩
 exact fun s hs => key (m s) s (Nat.le_refl _) hs
structure J0r (b : T_pagemenddraw_Codes) : Prop where
 at0 : 0 ≤ b.at_
 at1 : b.at_ ≤ b.l_.length
 len : b.l_.length ≤ 1000
 byte : ∀ x ∈ b.l_, 0 ≤ x ∧ x ≤ 255
theorem Jki {b : T_pagemenddraw_Codes} (hb : J0r b) {n : Int} (h1 : 1 ≤ n) (h2 : n ≤ 256) (m : Nat) : ∃ r b', J0t (m + 1) b n = some (r, b') ∧ J0r b' ∧ 0 ≤ r ∧ r < n := by
 obtain ⟨ha, hb1, hl, hx⟩ := hb
 simp only [J0t, J2G]
 by_cases hc : b.at_ ≥ (b.l_.length : Int)
 ·exact ⟨0, b, by simp [hc], ⟨ha, hb1, hl, hx⟩, by omega, by omega⟩
 ·obtain ⟨k, hk⟩ : ∃ k : Nat, b.at_ = (k : Int) := ⟨b.at_.toNat, by omega⟩
  have hk2 : k < b.l_.length := by omega
  have hy := hx _ (List.getElem_mem hk2)
  have e1 : ¬ n < 1 := by omega
  have e2 : ¬ n > 256 := by omega
  have e3 : idx b.l_ b.at_ = some b.l_[k] := by rw [hk, J3y, List.getElem?_eq_getElem hk2]
  have e4 : ¬ n = 0 := by omega
  refine ⟨(b.l_[k]).tmod n, ⟨b.l_, b.at_ + 1⟩, ?_, ⟨by show 0 ≤ b.at_ + 1; omega, by show b.at_ + 1 ≤ (b.l_.length : Int); omega, hl, hx⟩, Int.tmod_nonneg _ hy.1, Int.tmod_lt_of_pos _ (by omega)⟩
  simp only [hc, decide_false, e1, e2, e3, Option.bind_some, Jl0, e4, if_false, Bool.false_eq_true]
  rw [wrap64 (by omega) (by omega), wrap64 (by omega) (by omega)]
theorem J39 {b : T_pagemenddraw_Codes} (hb : J0r b) {n : Int} (h1 : 1 ≤ n) (h2 : n ≤ 256) : ∃ r b', Jp b n = some (r, b') ∧ J0r b' ∧ 0 ≤ r ∧ r < n := Jki hb h1 h2 11
theorem Jwf {l : List Int} (h : ∀ x ∈ l, 0 ≤ x ∧ x ≤ 255) {n : Nat} (hn : n ≤ 1000) : ∃ b, J81 l (n : Int) = some b ∧ J0r b := by
 unfold J81 J91
 by_cases hc : (l.length : Int) > n
 ·have : J0Z l none (some (n : Int)) = some (l.take n) := by
   have e1 : (0 : Int) ≤ n ∧ n ≤ l.length := by omega
   have e2 : n ≤ l.length := by omega
   simp [J0Z, JgX, JdH, e2]
  refine ⟨⟨l.take n, 0⟩, by simp [hc, this], ⟨by show (0 : Int) ≤ 0; omega, by show (0 : Int) ≤ _; omega, by simp; omega, fun x hx => h x (List.mem_of_mem_take hx)⟩⟩
 ·exact ⟨⟨l, 0⟩, by simp [hc], ⟨by show (0 : Int) ≤ 0; omega, by show (0 : Int) ≤ _; omega, by show l.length ≤ 1000; omega, h⟩⟩
theorem JpR {b : T_pagemenddraw_Codes} (hb : J0r b) {n : Int} (h0 : 0 ≤ n) (h1 : n ≤ 20) : ∃ s b', J3v n b = some (s, b') ∧ J0r b' := by
 have e0 : mkS 1 0 n (0 : Int) = some [] := by
  have : (0 : Int) ≤ n ∧ 1 * n ≤ 281474976710656 ∧ n ≤ 281474976710656 := by omega
  simp [mkS]; omega
 unfold J3v
 simp only [e0, Option.bind_some]
 obtain ⟨r, hr, hq⟩ := J0R (f := fun s : Int × T_pagemenddraw_Codes × List Int => J2J n s.1 s.2.1 s.2.2)
  (fun s => ∃ k : Nat, s.1 = k ∧ (k : Int) ≤ n ∧ J0r s.2.1 ∧ s.2.2.length = k) (fun s => (n - s.1).toNat) (fun r => J0r r.2)
  (fun s ⟨k, hk, hn, hc, hl⟩ => by
   obtain ⟨i, b, l⟩ := s
   simp only at hk hc hl
   subst hk
   by_cases hlt : (k : Int) < n
   ·left
    obtain ⟨r, b', e1, hb', _, _⟩ := J39 hc (n := 3) (by omega) (by omega)
    have e2 : J5n (l.length + 1) 1 = true := by simp [J5n]; omega
    have e3 : ∀ z : Int, Jbf 1 l [z] = some (l ++ [z]) := fun z => by simp only [Jbf, List.length_cons, List.length_nil, Nat.zero_add, e2, if_true]
    refine ⟨⟨((k + 1 : Nat) : Int), b', l ++ [IntKind.wrap .u8 (IntKind.wrap .i64 (97 + r))]⟩, ?_, ⟨k + 1, rfl, by simp; omega, hb', by simp [hl]⟩, by simp; omega⟩
    simp only [J2J, hlt, decide_true, if_true, e1, e3, Option.bind_some, J2q (show k < 1000000 by omega)]
   ·right
    refine ⟨(toStr l, b), ?_, hc⟩
    simp [J2J, J6B, hlt])
  (0, b, []) ⟨0, rfl, by simpa using h0, hb, rfl⟩
 exact ⟨r.1, r.2, hr, hq⟩
def JpM (c : Jf) : Prop := c.Data.length ≤ 12 ∧ (c.Set = false → c.Data = [])
theorem JrW {b : T_pagemenddraw_Codes} (hb : J0r b) : ∃ c b', J4z b = some (c, b') ∧ J0r b' ∧ JpM c := by
 obtain ⟨r, b1, e1, hb1, _, _⟩ := J39 hb (n := 3) (by omega) (by omega)
 unfold J4z
 simp only [e1, Option.bind_some]
 by_cases h0 : r = 0
 ·exact ⟨⟨false, []⟩, b1, by simp [h0], hb1, by simp [JpM]⟩
 ·have hd : ∃ s b', J4E b1 = some (s, b') ∧ J0r b' := by
   unfold J4E
   obtain ⟨r1, b2, e2, hb2, h21, h22⟩ := J39 hb1 (n := 5) (by omega) (by omega)
   obtain ⟨r2, b3, e3, hb3, _, _⟩ := J39 hb2 (n := 6) (by omega) (by omega)
   simp only [e2, e3, Option.bind_some]
   by_cases h6 : r2 = 0
   ·obtain ⟨r3, b4, e4, hb4, h41, h42⟩ := J39 hb3 (n := 14) (by omega) (by omega)
    obtain ⟨s, b5, e5, hb5⟩ := JpR hb4 h41 (by omega)
    exact ⟨s, b5, by simp [h6, e4, e5], hb5⟩
   ·obtain ⟨s, b5, e5, hb5⟩ := JpR hb3 h21 (by omega)
    exact ⟨s, b5, by simp [h6, e5], hb5⟩
  obtain ⟨s, b2, e2, hb2⟩ := hd
  have e3 : J0Z s none (some (Jji (s.length : Int) 12)) = some (s.take (min s.length 12)) := by
   have e4 : Jji (s.length : Int) 12 = ((min s.length 12 : Nat) : Int) := by unfold Jji; split <;> omega
   have e5 : min s.length 12 ≤ s.length := by omega
   rw [e4]
   simp only [J0Z, JgX, JdH]
   have e6 : (0 : Int) ≤ ((min s.length 12 : Nat) : Int) ∧ ((min s.length 12 : Nat) : Int) ≤ ((s.length : Nat) : Int) := by omega
   simp only [e6, and_self, if_true, Int.toNat_natCast, List.drop_zero, Nat.sub_zero]
  refine ⟨⟨true, s.take (min s.length 12)⟩, b2, ?_, hb2, ?_⟩
  ·simp only [e2, Option.bind_some, e3]
   simp [h0]
  ·refine ⟨?_, fun h => by cases h⟩
   simp only [List.length_take]; omega
def J5V (lsn : Int) (c : Jf) : Prop := c.Data.length ≤ 12 ∧ (c.Set = false → c.Data = []) ∧ (c.Set = true → lsn ≠ 0)
structure J6r (p : T_api_Page) : Prop where
 id0 : 0 ≤ p.ID
 id1 : p.ID < 64
 lsn0 : 0 ≤ p.LSN
 lsn1 : p.LSN ≤ 1099511627776
 cells : ∀ (i : Nat) (h : i < 16), J5V p.LSN (p.Cells[i])
theorem Joe {id lsn : Int} (h0 : 0 ≤ id) (h1 : id < 64) (h2 : 0 ≤ lsn) (h3 : lsn ≤ 1099511627776) : J6r ⟨id, lsn, Vector.replicate 16 ⟨false, []⟩⟩ :=
 ⟨h0, h1, h2, h3, fun i h => by simp [J5V]⟩
theorem Js2 {b : T_pagemenddraw_Codes} (hb : J0r b) {id : Int} (h0 : 0 ≤ id) (h1 : id < 64) : ∃ p b', J3g b id = some (p, b') ∧ J0r b' ∧ J6r p ∧ p.ID = id := by
 have go : ∀ (b : T_pagemenddraw_Codes) (lsn : Int) (b1 : T_api_Page), J0r b → 0 ≤ lsn → lsn ≤ 1099511627776 →
   ∃ p b', J3x b b1 ⟨id, lsn, Vector.replicate 16 ⟨false, []⟩⟩ = some (p, b') ∧ J0r b' ∧ J6r p ∧ p.ID = id := by
  intro b lsn b1 hb hl0 hl1
  unfold J3x
  by_cases hl : lsn > 0
  ·obtain ⟨r, b2, e1, hb2, hr0, hr1⟩ := J39 hb (n := 6) (by omega) (by omega)
   obtain ⟨o, ho, hq⟩ := J0R (f := fun s : Int × T_pagemenddraw_Codes × T_api_Page => J2E b1 s.1 s.2.1 s.2.2)
    (fun s => 0 ≤ s.1 ∧ s.1 ≤ 6 ∧ J0r s.2.1 ∧ J6r s.2.2 ∧ s.2.2.ID = id ∧ s.2.2.LSN = lsn) (fun s => s.1.toNat) (fun r => J0r r.2 ∧ J6r r.1 ∧ r.1.ID = id)
    (fun s ⟨i0, i1, hc, hp, hid, hlsn⟩ => by
     obtain ⟨i, b, p⟩ := s
     simp only at i0 i1 hc hp hid hlsn
     by_cases hi : i > 0
     ·left
      obtain ⟨r, b2, e1, hb2, hr0, hr1⟩ := J39 hc (n := 16) (by omega) (by omega)
      obtain ⟨c, b3, e2, hb3, hcf⟩ := JrW hb2
      obtain ⟨k, rfl⟩ : ∃ k : Nat, r = (k : Int) := ⟨r.toNat, by omega⟩
      have hk : k < 16 := by omega
      refine ⟨⟨i - 1, b3, ⟨p.ID, p.LSN, Ja7 p.Cells (k : Int) c⟩⟩, ?_, ⟨by show 0 ≤ i - 1; omega, by show i - 1 ≤ 6; omega, hb3, ?_, hid, hlsn⟩, by show (i - 1).toNat < i.toNat; omega⟩
      ·simp only [J2E, hi, decide_true, if_true, e1, e2, Option.bind_some, J9v hk, J56 _ k hk, wrap64 (show -9223372036854775808 ≤ i - 1 by omega) (by omega)]
      ·refine ⟨hp.id0, hp.id1, hp.lsn0, hp.lsn1, fun j hj => ?_⟩
       show J5V p.LSN ((Ja7 p.Cells (k : Int) c)[j])
       simp only [Ja7, Int.toNat_natCast, Vector.getElem_setIfInBounds]
       split
       ·exact ⟨hcf.1, hcf.2, fun _ => by rw [hlsn]; omega⟩
       ·exact hp.cells j hj
     ·right
      exact ⟨(p, b), by simp [J2E, J3s, hi], hc, hp, hid⟩)
    (r, b2, ⟨id, lsn, Vector.replicate 16 ⟨false, []⟩⟩) ⟨hr0, by show r ≤ 6; omega, hb2, Joe h0 h1 hl0 hl1, rfl, rfl⟩
   refine ⟨o.1, o.2, ?_, hq.1, hq.2⟩
   simp only [hl, decide_true, if_true, e1, Option.bind_some]
   exact ho
  ·exact ⟨_, b, by simp [hl, J3s], hb, Joe h0 h1 hl0 hl1, rfl⟩
 obtain ⟨r, b1, e1, hb1, hr0, hr1⟩ := J39 hb (n := 50) (by omega) (by omega)
 obtain ⟨r2, b2, e2, hb2, _, _⟩ := J39 hb1 (n := 10) (by omega) (by omega)
 unfold J3g
 simp only [e1, e2, Option.bind_some]
 by_cases h9 : r2 = 9
 ·obtain ⟨r3, b3, e3, hb3, h30, h31⟩ := J39 hb2 (n := 2) (by omega) (by omega)
  have e4 : IntKind.wrap .i64 (1099511627776 - r3) = 1099511627776 - r3 := wrap64 (by omega) (by omega)
  simp only [h9, e3, Option.bind_some, e4]
  exact go b3 _ _ hb3 (by omega) (by omega)
 ·have e5 : ((r2 : Int) == 9) = false := by simpa using h9
  simp only [e5, Bool.false_eq_true, if_false]
  exact go b2 _ _ hb2 (by omega) (by omega)
end Go.Am
end
section
namespace Go.Am
theorem Jxl (x : Int) : ∃ k : Nat, J5e .u32 x 15 = (k : Int) ∧ k < 16 := by
 have h : (BitVec.ofInt 32 x &&& BitVec.ofInt 32 15).toNat ≤ 15 := by
  rw [BitVec.toNat_and]
  exact Nat.and_le_right
 refine ⟨(BitVec.ofInt 32 x &&& BitVec.ofInt 32 15).toNat, ?_, by omega⟩
 show (((BitVec.ofInt 32 x &&& BitVec.ofInt 32 15).toNat : Nat) : Int) % 4294967296 = _
 omega
theorem Jnb : ∃ v, J2V = some v := by
 have inner : ∀ (k : Nat) (b0 b1 : Vector Int 16), k < 16 → ∀ r : Int, ∃ o, J8a k k b0 b1 (r, 0) = some o ∧ ∃ v, o = .inl (((k + 1 : Nat) : Int), v) := by
  intro k b0 b1 hk r
  refine J0R (f := fun s : Int × Int => J0j k k b0 b1 s.1 s.2) (fun s => ∃ j : Nat, s.2 = j ∧ j ≤ 4) (fun s => (4 - s.2).toNat) _ (fun s ⟨j, hj, h4⟩ => ?_) (r, 0) ⟨0, rfl, by omega⟩
  obtain ⟨x, j'⟩ := s
  simp only at hj
  subst hj
  by_cases hlt : j < 4
  ·left
   have e1 : ((j : Nat) : Int) < 4 := by omega
   have e2 : J8O .u32 x 1 = some (x.fdiv (2 ^ (min (1 : Int).toNat IntKind.u32.bits))) := rfl
   by_cases hb : J5e .u32 x 1 = 1
   ·exact ⟨⟨_, ((j + 1 : Nat) : Int)⟩, by simp only [J0j, e1, decide_true, if_true, hb, beq_self_eq_true, e2, Option.bind_some, J2q (show j < 1000000 by omega)]; rfl, ⟨j + 1, rfl, by omega⟩, by simp; omega⟩
   ·have e3 : (J5e .u32 x 1 == 1) = false := by simpa using hb
    exact ⟨⟨_, ((j + 1 : Nat) : Int)⟩, by simp only [J0j, e1, decide_true, if_true, e3, Bool.false_eq_true, if_false, e2, Option.bind_some, J2q (show j < 1000000 by omega)]; rfl, ⟨j + 1, rfl, by omega⟩, by simp; omega⟩
  ·right
   have e1 : ¬ ((j : Nat) : Int) < 4 := by omega
   exact ⟨.inl (((k + 1 : Nat) : Int), Ja7 b1 k x), by simp only [J0j, e1, decide_false, Bool.false_eq_true, if_false, J4p, J4u, J9v hk, J56 _ k hk, Option.bind_some, Option.map_some, J2q (show k < 1000000 by omega)], _, rfl⟩
 obtain ⟨v, hv, _⟩ := J0R (f := fun s : Int × Vector Int 16 => J0H (Vector.replicate 16 0) s.1 s.2) (fun s => ∃ j : Nat, s.1 = j ∧ j ≤ 16) (fun s => (16 - s.1).toNat) (fun _ => True) (fun s ⟨j, hj, h4⟩ => by
  obtain ⟨j', b1⟩ := s
  simp only at hj
  subst hj
  by_cases hlt : j < 16
  ·left
   have e1 : ((j : Nat) : Int) < 16 := by omega
   obtain ⟨o, ho, v, rfl⟩ := inner j (Vector.replicate 16 0) b1 hlt (IntKind.wrap .u32 (j : Int))
   exact ⟨⟨((j + 1 : Nat) : Int), v⟩, by simp only [J0H, e1, decide_true, if_true]; exact ho, ⟨j + 1, rfl, by omega⟩, by simp; omega⟩
  ·right
   have e1 : ¬ ((j : Nat) : Int) < 16 := by omega
   exact ⟨b1, by simp only [J0H, e1, decide_false, Bool.false_eq_true, if_false, J4j, Option.map_some], trivial⟩) (0, Vector.replicate 16 0) ⟨0, rfl, by omega⟩
 exact ⟨v, hv⟩
theorem J8t {l : List UInt8} {k : Nat} (h : k < l.length) : JcR l (k : Int) = some ((l[k]).toNat : Int) := by
 have e : (0 : Int) ≤ k := by omega
 simp [JcR, e, h]
theorem JnI (l : List UInt8) (hl : l.length ≤ 1000) : ∃ r, J24 l = some r := by
 obtain ⟨v, hv⟩ := Jnb
 obtain ⟨r, hr, _⟩ := J0R (f := fun s : Int × Int => J33 l (l.length : Int) v s.1 s.2) (fun s => ∃ j : Nat, s.2 = j ∧ j ≤ l.length) (fun s => (l.length - s.2).toNat) (fun _ => True) (fun s ⟨j, hj, h4⟩ => by
  obtain ⟨x, j'⟩ := s
  simp only at hj
  subst hj
  by_cases hlt : j < l.length
  ·left
   have e1 : ((j : Nat) : Int) < (l.length : Int) := by omega
   have e2 : ∀ z : Int, J8O .u32 z 4 = some (z.fdiv (2 ^ (min (4 : Int).toNat IntKind.u32.bits))) := fun _ => rfl
   have e3 : ∀ z : Int, ∃ y, inb 16 (J5e .u32 z 15) = some () ∧ J8R v (J5e .u32 z 15) = some y := by
    intro z
    obtain ⟨k, hk, hk2⟩ := Jxl z
    rw [hk]
    exact ⟨_, J9v hk2, J56 _ k hk2⟩
   obtain ⟨y1, a1, a2⟩ := e3 (J5J .u32 x (IntKind.wrap .u32 (((l[j]).toNat : Nat) : Int)))
   obtain ⟨y2, a3, a4⟩ := e3 (J5J .u32 ((J5J .u32 x (IntKind.wrap .u32 (((l[j]).toNat : Nat) : Int))).fdiv (2 ^ (min (4 : Int).toNat IntKind.u32.bits))) y1)
   exact ⟨⟨_, ((j + 1 : Nat) : Int)⟩, by simp only [J33, e1, decide_true, if_true, J8t hlt, Option.bind_some, e2, a1, a2, a3, a4, J2q (show j < 1000000 by omega)]; rfl, ⟨j + 1, rfl, by omega⟩, by simp; omega⟩
  ·right
   have e1 : ¬ ((j : Nat) : Int) < (l.length : Int) := by omega
   exact ⟨_, by simp only [J33, e1, decide_false, Bool.false_eq_true, if_false, J8h, Option.map_some]; rfl, trivial⟩) (4294967295, 0) ⟨0, rfl, by omega⟩
 exact ⟨r, by unfold J24; rw [hv]; exact hr⟩
theorem J9L (l : List UInt8) (n : Int) {k : Nat} (h1 : 1 ≤ k) (h8 : k ≤ 8) (hl : l.length ≤ 1000) : J0i l n (k : Int) = some (l ++ JD n k) := by
 have e1 : ¬ ((k : Int) < 1 ∨ 8 < (k : Int)) := by omega
 have e2 : l.length + 8 ≤ 140737488355328 := by omega
 show JgL l n k = _
 rw [JgL, if_neg e1, if_pos e2]
 simp
theorem Jed {a b : List UInt8} (ha : a.length ≤ 1000) (hb : b.length ≤ 1000) : J1Z a b = some (a ++ b) := by
 have e : a.length + b.length ≤ 4611686018427387904 := by omega
 simp [J1Z, e]
theorem JcX {n : Int} (h0 : 0 ≤ n) (h1 : n ≤ 1000) : J3S [0] n = some (List.replicate n.toNat 0) := by
 show JkW [0] n = _
 have e : (0 : Int) ≤ n ∧ n ≤ 9223372036854775807 ∧ ([0] : List UInt8).length * n.toNat ≤ 140737488355328 := by
  refine ⟨h0, by omega, ?_⟩
  simp; omega
 rw [JkW, if_pos e]
 have : ∀ k : Nat, (List.replicate k ([0] : List UInt8)).flatten = List.replicate k 0 := by
  intro k
  induction k with
  | zero => rfl
  | succ k ih => rw [List.replicate_succ, List.flatten_cons, ih]; rfl
 rw [this]
theorem Jqq (b : T_page_builder) (c : Jf) (hc : c.Data.length ≤ 12) (hb : b.s_.length ≤ 300) : ∃ t, J1P b c = some ⟨b.s_ ++ t⟩ ∧ t.length = 13 := by
 have go : ∀ x : Int, ∃ t, J1k x b c = some ⟨b.s_ ++ t⟩ ∧ t.length = 13 := by
  intro x
  have e0 : IntKind.wrap .i64 (12 - ((c.Data.length : Nat) : Int)) = ((12 - c.Data.length : Nat) : Int) := by rw [wrap64 (by omega) (by omega)]; omega
  have e1 := J9L b.s_ x (k := 1) (by omega) (by omega) (by omega)
  have e2 : J1Z (b.s_ ++ JD x 1) c.Data = some (b.s_ ++ JD x 1 ++ c.Data) := Jed (by rw [List.length_append, Jx]; omega) (by omega)
  have e3 := JcX (n := ((12 - c.Data.length : Nat) : Int)) (by omega) (by omega)
  have e4 : J1Z (b.s_ ++ JD x 1 ++ c.Data) (List.replicate (((12 - c.Data.length : Nat) : Int)).toNat 0) = some (b.s_ ++ JD x 1 ++ c.Data ++ List.replicate (((12 - c.Data.length : Nat) : Int)).toNat 0) := Jed (by simp only [List.length_append, Jx]; omega) (by simp; omega)
  refine ⟨JD x 1 ++ c.Data ++ List.replicate (((12 - c.Data.length : Nat) : Int)).toNat 0, ?_, ?_⟩
  ·unfold J1k
   rw [show (1 : Int) = ((1 : Nat) : Int) by rfl, e1, Option.bind_some, e2, Option.bind_some, e0, e3, Option.bind_some, e4, Option.bind_some]
   simp only [List.append_assoc]
  ·simp only [List.length_append, Jx, List.length_replicate]; omega
 unfold J1P
 split
 ·exact go _
 ·exact go _
structure Jri (p : T_api_Page) (r : List UInt8 × Int) : Prop where
 ok : r.2 = 0
 len : r.1.length = 256
 head : r.1.take 8 = JD p.LSN 8
 tail : r.1.drop 248 = JD p.LSN 8
 id : (r.1.drop 8).take 4 = JD p.ID 4
theorem JlX (p : T_api_Page) : ∃ b, J5v p = some b ∧ (b = true → ∀ (i : Nat) (h : i < 16), (p.Cells[i]).Data.length ≤ 12) ∧ ((∀ (i : Nat) (h : i < 16), J5V p.LSN p.Cells[i]) → b = true) := by
 refine J0R (f := fun s : Int => J06 p.Cells p s) (fun s => ∃ j : Nat, s = j ∧ j ≤ 16 ∧ ∀ (i : Nat) (h : i < 16), i < j → (p.Cells[i]).Data.length ≤ 12) (fun s => (16 - s).toNat)
  (fun b => (b = true → ∀ (i : Nat) (h : i < 16), (p.Cells[i]).Data.length ≤ 12) ∧ ((∀ (i : Nat) (h : i < 16), J5V p.LSN p.Cells[i]) → b = true)) (fun s ⟨j, hj, h4, hc⟩ => ?_) 0 ⟨0, rfl, by omega, fun i h hh => by omega⟩
 subst hj
 by_cases hlt : j < 16
 ·have e1 : ((j : Nat) : Int) < 16 := by omega
  have e2 := J56 p.Cells j hlt
  have e3 := J2q (show j < 1000000 by omega)
  have bad : ¬ J5V p.LSN p.Cells[j] → (∀ (i : Nat) (h : i < 16), J5V p.LSN p.Cells[i]) → false = true := fun h1 h2 => (h1 (h2 j hlt)).elim
  by_cases h12 : (((p.Cells[j]).Data.length : Nat) : Int) > 12
  ·right
   exact ⟨false, by simp only [J06, e1, decide_true, if_true, e2, Option.bind_some, h12], fun h => (by cases h), bad fun h => by have := h.1; omega⟩
  ·have nxt : ∀ (i : Nat) (h : i < 16), i < j + 1 → (p.Cells[i]).Data.length ≤ 12 := by
    intro i hi hij
    by_cases hh : i < j
    ·exact hc i hi hh
    ·obtain rfl : i = j := by omega
     omega
   by_cases hs : (p.Cells[j]).Set = true
   ·by_cases hl : p.LSN = 0
    ·right
     exact ⟨false, by simp only [J06, e1, decide_true, if_true, e2, Option.bind_some, h12, decide_false, Bool.false_eq_true, if_false, hs, hl, beq_self_eq_true], fun h => (by cases h), bad fun h => h.2.2 hs hl⟩
    ·left
     have e4 : (p.LSN == 0) = false := by simpa using hl
     exact ⟨((j + 1 : Nat) : Int), by simp only [J06, e1, decide_true, if_true, e2, Option.bind_some, h12, decide_false, Bool.false_eq_true, if_false, hs, e4, e3], ⟨j + 1, rfl, by omega, nxt⟩, by omega⟩
   ·have hs' : (p.Cells[j]).Set = false := by simpa using hs
    by_cases hd : (p.Cells[j]).Data = []
    ·left
     exact ⟨((j + 1 : Nat) : Int), by simp only [J06, e1, decide_true, if_true, e2, Option.bind_some, h12, decide_false, Bool.false_eq_true, if_false, hs', hd, beq_self_eq_true, e3]; rfl, ⟨j + 1, rfl, by omega, nxt⟩, by omega⟩
    ·right
     have e4 : ((p.Cells[j]).Data == []) = false := by simpa using hd
     exact ⟨false, by simp only [J06, e1, decide_true, if_true, e2, Option.bind_some, h12, decide_false, Bool.false_eq_true, if_false, hs', e4], fun h => (by cases h), bad fun h => hd (h.2.1 hs')⟩
 ·right
  have e1 : ¬ ((j : Nat) : Int) < 16 := by omega
  exact ⟨true, by simp only [J06, e1, decide_false, Bool.false_eq_true, if_false, J7J, Option.map_some], fun _ i h => hc i h (by omega), fun _ => rfl⟩
end Go.Am
end
section
namespace Go.Am
theorem Jpq {σ ρ : Type} {f g : σ → Option (σ ⊕ ρ)} (I : σ → Prop) (h1 : ∀ s, I s → f s = g s) (h2 : ∀ s s', I s → f s = some (.inl s') → I s') {s : σ} (hs : I s) : Jr f s = Jr g s := by
 have key : ∀ (f g : σ → Option (σ ⊕ ρ)), (∀ s, I s → f s = g s) → (∀ s s', I s → f s = some (.inl s') → I s') → ∀ r s, I s → Jr f s = some r → Jr g s = some r := by
  intro f g h1 h2 r s hs h
  exact J04 (P := fun s r => I s → Jr g s = some r) (fun s r e hs => J0E ((h1 s hs) ▸ e)) (fun s s' r e ih hs => (J2b ((h1 s hs) ▸ e)).trans (ih (h2 s s' hs e))) h hs
 cases hf : Jr f s with
 | some r => exact (key f g h1 h2 r s hs hf).symm
 | none =>
  cases hg : Jr g s with
  | none => rfl
  | some r => rw [key g f (fun s hs => (h1 s hs).symm) (fun s s' hs e => h2 s s' hs ((h1 s hs).trans e)) r s hs hg] at hf; cases hf
theorem Jsu {σ ρ τ ρ' : Type} {f : σ → Option (σ ⊕ ρ)} {g : τ → Option (τ ⊕ ρ')} (R : σ → τ → Prop) (K : ρ → ρ' → Prop)
  (h1 : ∀ s t s', R s t → f s = some (.inl s') → ∃ t', g t = some (.inl t') ∧ R s' t') (h2 : ∀ s t r, R s t → f s = some (.inr r) → ∃ r', g t = some (.inr r') ∧ K r r')
  {s : σ} {t : τ} {r : ρ} (hR : R s t) (h : Jr f s = some r) : ∃ r', Jr g t = some r' ∧ K r r' := by
 exact J04 (P := fun s r => ∀ t, R s t → ∃ r', Jr g t = some r' ∧ K r r')
  (fun s r e t ht => by obtain ⟨r', a, b⟩ := h2 s t r ht e; exact ⟨r', J0E a, b⟩)
  (fun s s' r e ih t ht => by obtain ⟨t', a, b⟩ := h1 s t s' ht e; obtain ⟨r', c, d⟩ := ih t' b; exact ⟨r', (J2b a).trans c, d⟩) h t hR
theorem J5y {a b : List UInt8} (h : a.length + b.length ≤ 1000000000) : J1Z a b = some (a ++ b) := by
 have e : a.length + b.length ≤ 4611686018427387904 := by omega
 simp [J1Z, e]
theorem Jh6 (l : List UInt8) (n : Int) {k : Nat} (h1 : 1 ≤ k) (h8 : k ≤ 8) (hl : l.length ≤ 1000000) : J0i l n (k : Int) = some (l ++ JD n k) := by
 have e1 : ¬ ((k : Int) < 1 ∨ 8 < (k : Int)) := by omega
 have e2 : l.length + 8 ≤ 140737488355328 := by omega
 show JgL l n k = _
 rw [JgL, if_neg e1, if_pos e2]
 simp
theorem Joy {n : Int} (h1 : 0 ≤ n) (h2 : n < 1000000) : IntKind.wrap .u64 (IntKind.wrap .i64 n) = n := by
 rw [wrap64 (by omega) (by omega), J9w h1 (by omega)]
theorem J64 (l : List UInt8) (n : Int) {k : Nat} (h1 : 1 ≤ k) (h8 : k ≤ 8) (hl : l.length ≤ 1000000) : J02 l n (k : Int) = some (l ++ JD n k) := by
 have c1 : ¬ (k : Int) < 1 := by omega
 have c2 : ¬ (k : Int) > 8 := by omega
 have key : ∀ (m j : Nat), j + m = k → Jr (fun s : List UInt8 × Int => J5L n k s.1 s.2) (l ++ JD n j, (j : Int)) = some (l ++ JD n k) := by
  intro m
  induction m with
  | zero =>
   intro j hj
   obtain rfl : j = k := by omega
   have e1 : ¬ ((j : Nat) : Int) < (j : Int) := by omega
   refine J0E ?_
   simp only [J5L, e1, decide_false, Bool.false_eq_true, if_false, J9O, Option.map_some]
  | succ m ih =>
   intro j hj
   have e1 : ((j : Nat) : Int) < (k : Int) := by omega
   have e2 : IntKind.wrap .u64 (IntKind.wrap .i64 (8 * (j : Int))) = 8 * (j : Int) := Joy (by omega) (by omega)
   have e3 : J8O .u64 (IntKind.wrap .u64 n) (8 * (j : Int)) = some ((IntKind.wrap .u64 n).fdiv (2 ^ (8 * j))) := by
    simp only [J8O]
    rw [if_neg (by omega)]
    have : min (8 * (j : Int)).toNat IntKind.u64.bits = 8 * j := by
     rw [show (8 * (j : Int)).toNat = 8 * j by omega]
     exact Nat.min_eq_left (by show 8 * j ≤ 64; omega)
    rw [this]
   have e4 : toStr [IntKind.wrap .u8 ((IntKind.wrap .u64 n).fdiv (2 ^ (8 * j)))] = [UInt8.ofNat (J6A n j).toNat] := rfl
   have e5 : J1Z (l ++ JD n j) [UInt8.ofNat (J6A n j).toNat] = some (l ++ JD n (j + 1)) := by
    rw [J5y (by rw [List.length_append, Jx]; simp; omega), JlW, List.append_assoc]
   refine (J2b (s' := (l ++ JD n (j + 1), ((j + 1 : Nat) : Int))) ?_).trans (ih (j + 1) (by omega))
   simp only [J5L, e1, decide_true, if_true, e2, e3, Option.bind_some, e4, e5, J2q (show j < 1000000 by omega)]
 unfold J02
 simp only [c1, c2, decide_false, Bool.false_eq_true, if_false]
 have h0 := key k 0 (by omega)
 have e : JD n 0 = [] := rfl
 rw [e, List.append_nil] at h0
 exact h0
theorem Jh1 (s : List UInt8) (at_ : Int) {k : Int} (h1 : 1 ≤ k) (h8 : k ≤ 8) : J1o s at_ k = JO s at_ k := by
 have key : JbJ s at_ k (0, 0) = JbM s at_ k (0, 0) := by
  refine Jpq (fun q : Int × Int => 0 ≤ q.2 ∧ q.2 ≤ k) (fun q ⟨h0, h2⟩ => ?_) (fun q q' ⟨h0, h2⟩ e => ?_) ⟨by simp, by simp; omega⟩
  ·have e2 : IntKind.wrap .u64 (IntKind.wrap .i64 (8 * q.2)) = 8 * q.2 := Joy (by omega) (by omega)
   have e3 : IntKind.wrap .i64 (8 * q.2) = 8 * q.2 := wrap64 (by omega) (by omega)
   have e4 : IntKind.wrap .u64 (8 * q.2) = 8 * q.2 := J9w (by omega) (by omega)
   simp only [J6K, J0a, e3, e4]
   rfl
  ·simp only [J6K] at e
   split at e
   ·rename_i hlt
    simp only [decide_eq_true_eq] at hlt
    simp only [Option.bind_eq_some_iff, Option.some.injEq, Sum.inl.injEq] at e
    obtain ⟨_, _, _, _, rfl⟩ := e
    have e3 : IntKind.wrap .i64 (q.2 + 1) = q.2 + 1 := wrap64 (by omega) (by omega)
    simp only [e3]
    omega
   ·simp [J9V] at e
 unfold J1o JO
 rw [key]
def P32 : Nat := 2197175160
def gb (c : Nat) : Nat := if c % 2 = 1 then c / 2 ^^^ P32 else c / 2
def gN : Nat → Nat → Nat
 | 0, c => c
 | j + 1, c => gN j (gb c)
def sl (b : Nat) : Nat := if b = 1 then P32 else 0
theorem JjE (c : Nat) : gb c = c / 2 ^^^ sl (c % 2) := by
 unfold gb sl
 split
 ·rfl
 ·rw [Nat.xor_zero]
theorem JwE (x y : Nat) : gb (x ^^^ y) = gb x ^^^ gb y := by
 have e1 : (x ^^^ y) / 2 = x / 2 ^^^ y / 2 := by have := @Nat.xor_div_two_pow x y 1; simpa using this
 have e2 : (x ^^^ y) % 2 = x % 2 ^^^ y % 2 := by have := @Nat.xor_mod_two_pow x y 1; simpa using this
 simp only [JjE, e1, e2]
 have e3 : sl (x % 2 ^^^ y % 2) = sl (x % 2) ^^^ sl (y % 2) := by
  rcases Nat.mod_two_eq_zero_or_one x with h | h <;> rcases Nat.mod_two_eq_zero_or_one y with h' | h' <;> rw [h, h'] <;> decide
 rw [e3]
 ac_rfl
theorem Jjt : ∀ (j x y : Nat), gN j (x ^^^ y) = gN j x ^^^ gN j y
 | 0, _, _ => rfl
 | j + 1, x, y => by simp only [gN]; rw [JwE, Jjt j]
theorem Jrn : ∀ (i j x : Nat), gN (i + j) x = gN j (gN i x)
 | 0, j, x => by simp [gN]
 | i + 1, j, x => by rw [Nat.succ_add]; simp only [gN]; exact Jrn i j _
theorem Jq6 (c : Nat) : gN 4 c = c / 16 ^^^ (sl (c / 8 % 2) ^^^ gN 1 (sl (c / 4 % 2)) ^^^ gN 2 (sl (c / 2 % 2)) ^^^ gN 3 (sl (c % 2))) := by
 have s1 : gN 4 c = gN 3 (c / 2) ^^^ gN 3 (sl (c % 2)) := by
  rw [← Jjt, ← JjE]; rfl
 have s2 : gN 3 (c / 2) = gN 2 (c / 4) ^^^ gN 2 (sl (c / 2 % 2)) := by
  rw [← Jjt, show c / 4 = c / 2 / 2 by omega, ← JjE]; rfl
 have s3 : gN 2 (c / 4) = gN 1 (c / 8) ^^^ gN 1 (sl (c / 4 % 2)) := by
  rw [← Jjt, show c / 8 = c / 4 / 2 by omega, ← JjE]; rfl
 have s4 : gN 1 (c / 8) = c / 16 ^^^ sl (c / 8 % 2) := by
  rw [show c / 16 = c / 8 / 2 by omega, ← JjE]; rfl
 rw [s1, s2, s3, s4]
 ac_rfl
theorem Jt7 (c : Nat) : gN 4 c = c / 16 ^^^ gN 4 (c % 16) := by
 rw [Jq6 c, Jq6 (c % 16)]
 have a0 : c % 16 / 16 = 0 := by omega
 have a1 : c % 16 / 8 % 2 = c / 8 % 2 := by omega
 have a2 : c % 16 / 4 % 2 = c / 4 % 2 := by omega
 have a3 : c % 16 / 2 % 2 = c / 2 % 2 := by omega
 have a4 : c % 16 % 2 = c % 2 := by omega
 rw [a0, a1, a2, a3, a4, Nat.zero_xor]
theorem Jo6 : P32 < 2 ^ 32 := by decide
theorem Jqr {c : Nat} (h : c < 2 ^ 32) : gb c < 2 ^ 32 := by
 unfold gb
 split
 ·exact Nat.xor_lt_two_pow (by omega) Jo6
 ·omega
theorem Jhi : ∀ {j c : Nat}, c < 2 ^ 32 → gN j c < 2 ^ 32
 | 0, _, h => h
 | j + 1, _, h => Jhi (j := j) (Jqr h)
theorem Jar (n : Nat) (h : n < 2 ^ 32) : IntKind.wrap .u32 (n : Int) = (n : Int) := by
 rw [show IntKind.wrap .u32 (n : Int) = (n : Int) % 4294967296 from rfl]; omega
theorem Jli {n : Nat} (h : n < 2 ^ 32) : (BitVec.ofInt 32 (n : Int)).toNat = n := by
 rw [BitVec.toNat_ofInt]; omega
theorem Jd3 {x y : Nat} (hx : x < 2 ^ 32) (hy : y < 2 ^ 32) : J5J .u32 (x : Int) (y : Int) = ((x ^^^ y : Nat) : Int) := by
 show IntKind.wrap .u32 (((BitVec.ofInt 32 (x : Int) ^^^ BitVec.ofInt 32 (y : Int)).toNat : Nat) : Int) = _
 rw [BitVec.toNat_xor, Jli hx, Jli hy, Jar _ (Nat.xor_lt_two_pow hx hy)]
theorem JnT {x : Nat} (hx : x < 2 ^ 32) (k : Nat) (hk : k ≤ 20) : J5e .u32 (x : Int) ((2 ^ k - 1 : Nat) : Int) = ((x % 2 ^ k : Nat) : Int) := by
 show IntKind.wrap .u32 (((BitVec.ofInt 32 (x : Int) &&& BitVec.ofInt 32 ((2 ^ k - 1 : Nat) : Int)).toNat : Nat) : Int) = _
 have h2 : 2 ^ k - 1 < 2 ^ 32 := by
  have : (2 : Nat) ^ k ≤ 2 ^ 20 := Nat.pow_le_pow_right (by omega) hk
  omega
 rw [BitVec.toNat_and, Jli hx, Jli h2, Nat.and_two_pow_sub_one_eq_mod, Jar _ (Nat.lt_of_le_of_lt (Nat.mod_le _ _) hx)]
theorem Jx4 {x : Nat} (hx : x < 2 ^ 32) : J5e .u32 (x : Int) 1 = ((x % 2 : Nat) : Int) := JnT hx 1 (by omega)
theorem Jwd {x : Nat} (hx : x < 2 ^ 32) : J5e .u32 (x : Int) 15 = ((x % 16 : Nat) : Int) := JnT hx 4 (by omega)
theorem JwA (x : Nat) : J8O .u32 (x : Int) 1 = some ((x / 2 : Nat) : Int) := by
 show some ((x : Int).fdiv 2) = _
 rw [Int.fdiv_eq_ediv_of_nonneg _ (by omega)]; simp
theorem Jy1 (x : Nat) : J8O .u32 (x : Int) 4 = some ((x / 16 : Nat) : Int) := by
 show some ((x : Int).fdiv 16) = _
 rw [Int.fdiv_eq_ediv_of_nonneg _ (by omega)]; simp
def Jif : List UInt8 → Nat → Nat
 | [], c => c
 | b :: r, c => Jif r (gN 8 (c ^^^ b.toNat))
theorem Jbc (b : UInt8) : b.toNat < 2 ^ 32 := by have := UInt8.toNat_lt b; omega
theorem Jq2 : ∀ {l : List UInt8} {c : Nat}, c < 2 ^ 32 → Jif l c < 2 ^ 32
 | [], _, h => h
 | b :: r, _, h => Jq2 (l := r) (Jhi (Nat.xor_lt_two_pow h (Jbc b)))
def crc (l : List UInt8) : Nat := Jif l 4294967295 ^^^ 4294967295
theorem JcM (l : List UInt8) : crc l < 2 ^ 32 := Nat.xor_lt_two_pow (Jq2 (by decide)) (by decide)
theorem Joa {x : Nat} (hx : x < 2 ^ 32) : Jr6 .u32 (x : Int) = ((x ^^^ 4294967295 : Nat) : Int) := by
 show IntKind.wrap .u32 (((BitVec.ofInt 32 4294967295 ^^^ BitVec.ofInt 32 (x : Int)).toNat : Nat) : Int) = _
 rw [BitVec.toNat_xor, Jli hx, show (4294967295 : Int) = ((4294967295 : Nat) : Int) by rfl, Jli (by decide), Nat.xor_comm, Jar _ (Nat.xor_lt_two_pow hx (by decide))]
theorem JgZ (l : List UInt8) (hl : l.length ≤ 100000) : J5o l = some ((crc l : Nat) : Int) := by
 have inner : ∀ (x : Nat) (m k c : Nat), c < 2 ^ 32 → x < 200000 → k + m = 8 → Jr (fun s : Int × Int => J5I l (x : Int) s.1 s.2) ((c : Int), (k : Int)) = some (.inl (((gN m c : Nat) : Int), ((x + 1 : Nat) : Int))) := by
  intro x m
  induction m with
  | zero =>
   intro k c hc hx hk
   obtain rfl : k = 8 := by omega
   refine J0E ?_
   have e1 : ¬ (((8 : Nat) : Nat) : Int) < 8 := by omega
   simp only [J5I, e1, decide_false, Bool.false_eq_true, if_false, J9N, Option.map_some, J2q (show x < 1000000 by omega), gN]
  | succ m ih =>
   intro k c hc hx hk
   have e1 : ((k : Nat) : Int) < 8 := by omega
   refine (J2b (s' := (((gb c : Nat) : Int), ((k + 1 : Nat) : Int))) ?_).trans (ih (k + 1) (gb c) (Jqr hc) hx (by omega))
   have e2 := Jx4 hc
   simp only [J5I, e1, decide_true, if_true, e2, JwA, Option.bind_some, J8s, J2q (show k < 1000000 by omega)]
   unfold gb
   by_cases hb : c % 2 = 1
   ·simp only [hb, if_true, Int.natCast_one, beq_self_eq_true]
    rw [show (2197175160 : Int) = ((P32 : Nat) : Int) by rfl, Jd3 (by omega) Jo6]
   ·have e3 : (((c % 2 : Nat) : Int) == 1) = false := by simp; omega
    simp only [hb, if_false, e3, Bool.false_eq_true]
 have outer : ∀ (m j c : Nat), c < 2 ^ 32 → j + m = l.length → Jr (fun s : Int × Int => J5N l s.1 s.2) ((c : Int), (j : Int)) = some (((Jif (l.drop j) c ^^^ 4294967295 : Nat) : Int)) := by
  intro m
  induction m with
  | zero =>
   intro j c hc hj
   obtain rfl : j = l.length := by omega
   refine J0E ?_
   have e1 : ¬ ((l.length : Nat) : Int) < ((l.length : Nat) : Int) := by omega
   simp only [J5N, e1, decide_false, Bool.false_eq_true, if_false, J9W, Option.map_some, Joa hc, List.drop_length, Jif]
  | succ m ih =>
   intro j c hc hj
   have hlt : j < l.length := by omega
   have e1 : ((j : Nat) : Int) < ((l.length : Nat) : Int) := by omega
   have hx := Nat.xor_lt_two_pow hc (Jbc l[j])
   refine (J2b (s' := (((gN 8 (c ^^^ (l[j]).toNat) : Nat) : Int), ((j + 1 : Nat) : Int))) ?_).trans ((ih (j + 1) _ (Jhi hx) (by omega)).trans ?_)
   ·simp only [J5N, e1, decide_true, if_true, J8t hlt, Option.bind_some]
    rw [Jar _ (Jbc _), Jd3 hc (Jbc _)]
    exact inner j 8 0 _ hx (by omega) (by omega)
   ·rw [List.drop_eq_getElem_cons hlt]
    rfl
 exact outer l.length 0 4294967295 (by decide) (by omega)
theorem JjD : ∃ v, J2V = some v ∧ ∀ (i : Nat) (h : i < 16), v[i] = ((gN 4 i : Nat) : Int) := by
 have inner : ∀ (k : Nat) (b0 b1 : Vector Int 16), k < 16 → ∀ (m j c : Nat), c < 2 ^ 32 → j + m = 4 → Jr (fun s : Int × Int => J0j k k b0 b1 s.1 s.2) ((c : Int), (j : Int)) = some (.inl (((k + 1 : Nat) : Int), Ja7 b1 k ((gN m c : Nat) : Int))) := by
  intro k b0 b1 hk m
  induction m with
  | zero =>
   intro j c hc hj
   obtain rfl : j = 4 := by omega
   refine J0E ?_
   have e1 : ¬ (((4 : Nat) : Nat) : Int) < 4 := by omega
   simp only [J0j, e1, decide_false, Bool.false_eq_true, if_false, J4p, J4u, J9v hk, J56 _ k hk, Option.bind_some, Option.map_some, J2q (show k < 1000000 by omega), gN]
  | succ m ih =>
   intro j c hc hj
   have e1 : ((j : Nat) : Int) < 4 := by omega
   refine (J2b (s' := (((gb c : Nat) : Int), ((j + 1 : Nat) : Int))) ?_).trans (ih (j + 1) (gb c) (Jqr hc) (by omega))
   have e2 := Jx4 hc
   simp only [J0j, e1, decide_true, if_true, e2, JwA, Option.bind_some, J2q (show j < 1000000 by omega)]
   unfold gb
   by_cases hb : c % 2 = 1
   ·simp only [hb, if_true, Int.natCast_one, beq_self_eq_true]
    rw [show (2197175160 : Int) = ((P32 : Nat) : Int) by rfl, Jd3 (by omega) Jo6]
   ·have e3 : (((c % 2 : Nat) : Int) == 1) = false := by simp; omega
    simp only [hb, if_false, e3, Bool.false_eq_true]
 refine J0R (f := fun s : Int × Vector Int 16 => J0H (Vector.replicate 16 0) s.1 s.2) (fun s => ∃ j : Nat, s.1 = j ∧ j ≤ 16 ∧ ∀ (i : Nat) (h : i < 16), i < j → s.2[i] = ((gN 4 i : Nat) : Int)) (fun s => (16 - s.1).toNat) (fun v => ∀ (i : Nat) (h : i < 16), v[i] = ((gN 4 i : Nat) : Int)) (fun s ⟨j, hj, h4, hv⟩ => ?_) (0, Vector.replicate 16 0) ⟨0, rfl, by omega, fun i h hh => by omega⟩
 obtain ⟨j', b1⟩ := s
 simp only at hj hv
 subst hj
 by_cases hlt : j < 16
 ·left
  have e1 : ((j : Nat) : Int) < 16 := by omega
  have ho := inner j (Vector.replicate 16 0) b1 hlt 4 0 j (by omega) (by omega)
  refine ⟨⟨((j + 1 : Nat) : Int), Ja7 b1 j ((gN 4 j : Nat) : Int)⟩, by simp only [J0H, e1, decide_true, if_true, Jar j (by omega)]; exact ho, ⟨j + 1, rfl, by omega, fun i h hh => ?_⟩, by simp; omega⟩
  simp only [Ja7, Int.toNat_natCast, Vector.getElem_setIfInBounds]
  by_cases hij : j = i
  ·subst hij; simp
  ·rw [if_neg hij]; exact hv i h (by omega)
 ·right
  obtain rfl : j = 16 := by omega
  have e1 : ¬ (((16 : Nat) : Nat) : Int) < 16 := by omega
  exact ⟨b1, by simp only [J0H, e1, decide_false, Bool.false_eq_true, if_false, J4j, Option.map_some], fun i h => hv i h h⟩
theorem Jfb (l : List UInt8) (hl : l.length ≤ 100000) : J24 l = some ((crc l : Nat) : Int) := by
 obtain ⟨v, hv, ht⟩ := JjD
 have outer : ∀ (m j c : Nat), c < 2 ^ 32 → j + m = l.length → Jr (fun s : Int × Int => J33 l (l.length : Int) v s.1 s.2) ((c : Int), (j : Int)) = some (((Jif (l.drop j) c ^^^ 4294967295 : Nat) : Int)) := by
  intro m
  induction m with
  | zero =>
   intro j c hc hj
   obtain rfl : j = l.length := by omega
   refine J0E ?_
   have e1 : ¬ ((l.length : Nat) : Int) < ((l.length : Nat) : Int) := by omega
   simp only [J33, e1, decide_false, Bool.false_eq_true, if_false, J8h, Option.map_some, Joa hc, List.drop_length, Jif]
  | succ m ih =>
   intro j c hc hj
   have hlt : j < l.length := by omega
   have e1 : ((j : Nat) : Int) < ((l.length : Nat) : Int) := by omega
   have hx := Nat.xor_lt_two_pow hc (Jbc l[j])
   have step : ∀ x : Nat, x < 2 ^ 32 → inb 16 (J5e .u32 (x : Int) 15) = some () ∧ J8R v (J5e .u32 (x : Int) 15) = some ((gN 4 (x % 16) : Nat) : Int) ∧ J5J .u32 ((x / 16 : Nat) : Int) ((gN 4 (x % 16) : Nat) : Int) = ((gN 4 x : Nat) : Int) := by
    intro x hx
    have h16 : x % 16 < 16 := by omega
    rw [Jwd hx]
    refine ⟨J9v h16, by rw [J56 _ _ h16, ht _ h16], ?_⟩
    rw [Jd3 (by omega) (Jhi (by omega)), ← Jt7]
   refine (J2b (s' := (((gN 8 (c ^^^ (l[j]).toNat) : Nat) : Int), ((j + 1 : Nat) : Int))) ?_).trans ((ih (j + 1) _ (Jhi hx) (by omega)).trans ?_)
   ·obtain ⟨a1, a2, a3⟩ := step _ hx
    obtain ⟨b1, b2, b3⟩ := step (gN 4 (c ^^^ (l[j]).toNat)) (Jhi hx)
    simp only [J33, e1, decide_true, if_true, J8t hlt, Option.bind_some, Jar _ (Jbc l[j]), Jd3 hc (Jbc l[j]), Jy1, a1, a2, a3, b1, b2, b3, J2q (show j < 1000000 by omega)]
    rw [← Jrn 4 4]
   ·rw [List.drop_eq_getElem_cons hlt]
    rfl
 unfold J24
 rw [hv]
 exact outer l.length 0 4294967295 (by decide) (by omega)
end Go.Am
end
