/-
  Parts of a proof.
-/
import Derived.Test.YtiallbcnaadmoaaM9
open Nat (reduceEqDiff reduceAdd reduceLT reduceMul)
set_option linter.unusedSimpArgs false
set_option linter.unusedVariables false
section
namespace Go.Am
set_option maxRecDepth 8000
set_option maxHeartbeats 4000000
set_option linter.unusedSimpArgs false
set_option linter.unusedVariables false
noncomputable section
variable (p : FuncId → Option (List AV → List Blk → Option Res))
def Jez  (r : T_pagemenddraw_Codes) : Option Res := some (.ptr 0 0, [.box (List.map AV.p (J0 r))])
def J9p (x0 : List Int) : Option (T_pagemenddraw_Codes) :=
 some (⟨x0, 0⟩ : T_pagemenddraw_Codes)
theorem JgP {x0 : List Int} {o : T_pagemenddraw_Codes} (h : J9p x0 = some o) :
  rk (J2 p) J8p 0 [] (X (J2 p) Jd8 ⟨[(0, .p (.sl 1 (List.map (r_i .u8) x0)))], []⟩) = Jez o := by
 unfold J9p at h
 obtain rfl := sj h
 try simp only [↓Da, Ua, Jd8, Jd, JqT, ↓reduceIte, reduceEqDiff, reduceAdd, reduceLT, reduceMul]
 rfl
def J8l (x0 : List Int) (x1 : Int) : Option (T_pagemenddraw_Codes) :=
 if (decide (((List.length x0 : Nat) : Int) > x1)) then
  Option.bind (J2U x0 none (some x1)) fun m2 =>
  J9p m2
 else
  J9p x0
theorem Jl5 {x0 : List Int} {x1 : Int} {o : T_pagemenddraw_Codes} (h : J8l x0 x1 = some o) :
  rk (J2 p) J8p 0 [] (X (J2 p) J9J ⟨[(0, .p (.sl 1 (List.map (r_i .u8) x0))), (1, .p (.i .i64 x1))], []⟩) = Jez o := by
 unfold J8l at h
 rcases Ja h with ⟨h1, h⟩ | ⟨h1, h⟩
 ·obtain ⟨m2, h3, h⟩ := bi h
  have f4 : J9o 1 (.p (.sl 1 (List.map (r_i .u8) x0))) none (some (.p (.i .i64 x1))) = some (.p (.sl 1 (List.map (r_i .u8) m2))) := JrT (k := .i64) (lo := none) (hi := (some x1)) h3
  try simp only [Nf] at f4
  try simp only [↓Da, Ua, J9J, Jd, *, ↓reduceIte, reduceEqDiff, reduceAdd, reduceLT, reduceMul]
  have e0 := JgP p h
  exact e0
 ·try simp only [↓Da, Ua, J9J, Jd, *, ↓reduceIte, reduceEqDiff, reduceAdd, reduceLT, reduceMul]
  have e0 := JgP p h
  exact e0
theorem Jr3 {x0 : List Int} {x1 : Int} {o : T_pagemenddraw_Codes} (h : J8l x0 x1 = some o) : AF (J2 p) J9I [.p (.sl 1 (List.map (r_i .u8) x0)), .p (.i .i64 x1)] [] = Jez o :=
 (J0f (J2 p) (JqD p) rfl).trans (Jl5 p h)
def J86  (r : Bool) : Option Res := some (.p (.b r), [])
def Jlc (b0 b1 : T_api_Image) (o : (Int) ⊕ (Bool)) : Option Res := match o with
 | .inl s => rk (J2 p) J2V 0 [.bl 0, .sq (.keep [] J5g)] (X (J2 p) (.lp 2 [2, 3, 5] J2x) ⟨[(2, .ptr 0 0), (3, .ptr 1 0), (5, .p (.i .i64 s))], [.box (List.map AV.p (J3 b0)), .box (List.map AV.p (J3 b1))]⟩)
 | .inr o => J86 o
def JbB  : Option (Bool) :=
 some true
theorem JkI {B0 B1 : List PV} {o : Bool} (h : JbB = some o) :
  rk (J2 p) J2V 0 [] (X (J2 p) J5g ⟨[], [.box (List.map AV.p B0), .box (List.map AV.p B1)]⟩) = J86 o := by
 unfold JbB at h
 obtain rfl := sj h
 try simp only [↓Da, Ua, J5g, J9e, ↓reduceIte, reduceEqDiff, reduceAdd, reduceLT, reduceMul]
 rfl
def J6m (b0 b1 : T_api_Image) (x5 : Int) : Option (((Int) ⊕ (Bool))) :=
 if (decide (x5 < ((List.length b0.Copies : Nat) : Int))) then
  Option.bind (idx b0.Copies x5) fun y2 =>
  Option.bind (idx b1.Copies x5) fun y5 =>
  if (y2 == y5) then
   some (.inl (IntKind.wrap .i64 (x5 + 1)))
  else
   some (.inr false)
 else
  Option.map (fun o => .inr o) (JbB)
theorem Jed {b0 b1 : T_api_Image} {x5 : Int} {o : ((Int) ⊕ (Bool))} (h : J6m b0 b1 x5 = some o) :
  rk (J2 p) J2V 0 [.lo 2 [2, 3, 5] J2x, .bl 0, .sq (.keep [] J5g)] (X (J2 p) J2x ⟨[(2, .ptr 0 0), (3, .ptr 1 0), (5, .p (.i .i64 x5))], [.box (List.map AV.p (J3 b0)), .box (List.map AV.p (J3 b1))]⟩) = (Jlc p b0 b1) o := by
 unfold J6m at h
 rcases Ja h with ⟨h1, h⟩ | ⟨h1, h⟩
 ·obtain ⟨y2, h3, h⟩ := bi h
  have f4 := J2e (r := J4) h3
  try simp only [Nf] at f4
  obtain ⟨y5, h6, h⟩ := bi h
  have f7 := J2e (r := J4) h6
  try simp only [Nf] at f7
  try simp only [↓Da, Ua, J2x, J9, J8, J1q, *, ↓reduceIte, reduceEqDiff, reduceAdd, reduceLT, reduceMul]
  rcases Ja h with ⟨h9, h⟩ | ⟨h9, h⟩
  ·obtain rfl := sj h
   try simp only [↓Da, Ua, J2x, J9, J8, J1q, *, ↓reduceIte, reduceEqDiff, reduceAdd, reduceLT, reduceMul]
   rfl
  ·obtain rfl := sj h
   try simp only [↓Da, Ua, J2x, J9, J8, J1q, J9e, *, ↓reduceIte, reduceEqDiff, reduceAdd, reduceLT, reduceMul]
   rfl
 ·obtain ⟨o', h', rfl⟩ := mi h
  try simp only [↓Da, Ua, J2x, J9, J8, *, ↓reduceIte, reduceEqDiff, reduceAdd, reduceLT, reduceMul]
  have e0 := JkI p (B0 := (J3 b0)) (B1 := (J3 b1)) h'
  exact e0
def Jbu (b0 b1 : T_api_Image) (s : Int) : Option (Bool) :=
 Jx (fun s => J6m b0 b1 s) s
theorem JiX {b0 b1 : T_api_Image} {s : Int} {o : Bool} (h : Jbu b0 b1 s = some o) :
  rk (J2 p) J2V 0 [.bl 0, .sq (.keep [] J5g)] (X (J2 p) (.lp 2 [2, 3, 5] J2x) ⟨[(2, .ptr 0 0), (3, .ptr 1 0), (5, .p (.i .i64 s))], [.box (List.map AV.p (J3 b0)), .box (List.map AV.p (J3 b1))]⟩) = J86 o := by
 have h0 : Jx (fun s => J6m b0 b1 s) s = some o := h
 exact J0m (P := fun (s : Int) (o : Bool) => rk (J2 p) J2V 0 [.bl 0, .sq (.keep [] J5g)] (X (J2 p) (.lp 2 [2, 3, 5] J2x) ⟨[(2, .ptr 0 0), (3, .ptr 1 0), (5, .p (.i .i64 s))], [.box (List.map AV.p (J3 b0)), .box (List.map AV.p (J3 b1))]⟩) = J86 o) (fun s r hs => by rw [J0k]; exact Jed p hs) (fun s s1 r hs ih => by rw [J0k]; exact (Jed p hs).trans ih) h0
def J4m (x0 x1 : T_api_Image) : Option (Bool) :=
 if ((x0.ID : Int) != x1.ID) then
  some false
 else
  if ((x0.Pages : Int) != x1.Pages) then
   some false
  else
   if ((((List.length x0.Copies : Nat) : Int) : Int) != ((List.length x1.Copies : Nat) : Int)) then
    some false
   else
    Jbu x0 x1 0
theorem Jic {x0 x1 : T_api_Image} {o : Bool} (h : J4m x0 x1 = some o) :
  rk (J2 p) J2V 0 [] (X (J2 p) J3H ⟨[(0, .data (J3 x0)), (1, .data (J3 x1))], []⟩) = J86 o := by
 unfold J4m at h
 rcases Ja h with ⟨h1, h⟩ | ⟨h1, h⟩
 ·obtain rfl := sj h
  try simp only [↓Da, Ua, J3H, J9, J8, J9e, *, ↓reduceIte, reduceEqDiff, reduceAdd, reduceLT, reduceMul]
  rfl
 ·try simp only [↓Da, Ua, J3H, J9, J8, *, ↓reduceIte, reduceEqDiff, reduceAdd, reduceLT, reduceMul]
  rcases Ja h with ⟨h2, h⟩ | ⟨h2, h⟩
  ·obtain rfl := sj h
   try simp only [↓Da, Ua, J3H, J9, J8, J9e, *, ↓reduceIte, reduceEqDiff, reduceAdd, reduceLT, reduceMul]
   rfl
  ·try simp only [↓Da, Ua, J3H, J9, J8, *, ↓reduceIte, reduceEqDiff, reduceAdd, reduceLT, reduceMul]
   rcases Ja h with ⟨h3, h⟩ | ⟨h3, h⟩
   ·obtain rfl := sj h
    try simp only [↓Da, Ua, J3H, J9, J8, J9e, *, ↓reduceIte, reduceEqDiff, reduceAdd, reduceLT, reduceMul]
    rfl
   ·try simp only [↓Da, Ua, J3H, J9, J8, *, ↓reduceIte, reduceEqDiff, reduceAdd, reduceLT, reduceMul]
    have e0 := JiX p h
    exact e0
theorem JoO {x0 x1 : T_api_Image} {o : Bool} (h : J4m x0 x1 = some o) : AF (J2 p) J5u [.data (J3 x0), .data (J3 x1)] [] = J86 o :=
 (J0f (J2 p) (Jo0 p) rfl).trans (Jic p h)
theorem JgN {x0 x1 : T_api_Image} {o : Bool} (h : J4m x0 x1 = some o) : ∀ ws new st, (Jj (AF (J2 p)) J5u ([.data (J3 x0), .data (J3 x1)], ws) 0 new).run st = some ⟨.p (.b o), ws⟩ := Js rfl (JoO p h) rfl
def J7B  (r : Int × T_pagemenddraw_Codes) : Option Res := some (.p (.i .i64 r.1), [.box (List.map AV.p (J0 r.2))])
def J2J (rec : T_pagemenddraw_Codes → Int → Option (Int × T_pagemenddraw_Codes)) (b0 : T_pagemenddraw_Codes) (x1 : Int) : Option (Int × T_pagemenddraw_Codes) :=
 if (decide (b0.at_ ≥ ((List.length b0.l_ : Nat) : Int))) then
  some (0, b0)
 else
  if (decide (x1 < 1)) then
   some (0, b0)
  else
   Option.bind (idx b0.l_ b0.at_) fun y3 =>
   if (decide (x1 > 256)) then
    Option.bind (rec (⟨b0.l_, (IntKind.wrap .i64 (b0.at_ + 1))⟩ : T_pagemenddraw_Codes) 256) fun r7 =>
    Option.bind (JkO (IntKind.wrap .i64 ((IntKind.wrap .i64 (256 * (IntKind.wrap .i64 y3))) + r7.1)) x1) fun q10 =>
    some (q10, r7.2)
   else
    Option.bind (JkO (IntKind.wrap .i64 y3) x1) fun q12 =>
    some (q12, (⟨b0.l_, (IntKind.wrap .i64 (b0.at_ + 1))⟩ : T_pagemenddraw_Codes))
theorem Je5 {rec : T_pagemenddraw_Codes → Int → Option (Int × T_pagemenddraw_Codes)} (hrec : ∀ {b0 : T_pagemenddraw_Codes} {x1 : Int} {o : Int × T_pagemenddraw_Codes}, rec b0 x1 = some o → AF (J2 p) Jc [.ptr 0 0, .p (.i .i64 x1)] [.box (List.map AV.p (J0 b0))] = J7B o) {b0 : T_pagemenddraw_Codes} {x1 : Int} {o : Int × T_pagemenddraw_Codes} (h : J2J rec b0 x1 = some o) :
  rk (J2 p) J4L 1 [] (X (J2 p) J1x ⟨[(0, .ptr 0 0), (1, .p (.i .i64 x1))], [.box (List.map AV.p (J0 b0))]⟩) = J7B o := by
 unfold J2J at h
 rcases Ja h with ⟨h1, h⟩ | ⟨h1, h⟩
 ·obtain rfl := sj h
  try simp only [↓Da, Ua, J1x, Jd, J7H, *, ↓reduceIte, reduceEqDiff, reduceAdd, reduceLT, reduceMul]
  rfl
 ·try simp only [↓Da, Ua, J1x, Jd, *, ↓reduceIte, reduceEqDiff, reduceAdd, reduceLT, reduceMul]
  rcases Ja h with ⟨h2, h⟩ | ⟨h2, h⟩
  ·obtain rfl := sj h
   try simp only [↓Da, Ua, J1x, Jd, J7H, *, ↓reduceIte, reduceEqDiff, reduceAdd, reduceLT, reduceMul]
   rfl
  ·obtain ⟨y3, h4, h⟩ := bi h
   have f5 := J2e (r := (r_i .u8)) h4
   try simp only [Nf] at f5
   try simp only [↓Da, Ua, J1x, Jd, *, ↓reduceIte, reduceEqDiff, reduceAdd, reduceLT, reduceMul]
   rcases Ja h with ⟨h6, h⟩ | ⟨h6, h⟩
   ·obtain ⟨r7, h8, h⟩ := bi h
    have f9 : ∀ ws new s, JK ws s [0] [List.map AV.p (J0 (⟨b0.l_, (IntKind.wrap .i64 (b0.at_ + 1))⟩ : T_pagemenddraw_Codes))] → (Jj (AF (J2 p)) Jc ([.ptr 0 0, .p (.i .i64 256)], ws) 0 new).run s = some ⟨.p (.i .i64 r7.1), ws ++ [(0, .box (List.map AV.p (J0 r7.2)))]⟩ := Jy (args' := [.ptr 0 0, .p (.i .i64 256)]) (bs := [0]) (css := [List.map AV.p (J0 (⟨b0.l_, (IntKind.wrap .i64 (b0.at_ + 1))⟩ : T_pagemenddraw_Codes))]) (css' := [List.map AV.p (J0 r7.2)]) rfl rfl rfl (by simp [Jk, Jb]) (hrec h8) rfl rfl (by simp [Jk, Jb])
    try simp only [Nf] at f9
    obtain ⟨q10, h11, h⟩ := bi h
    obtain rfl := sj h
    try simp only [↓Da, Ua, J1x, Jd, J7H, *, ↓reduceIte, reduceEqDiff, reduceAdd, reduceLT, reduceMul]
    rfl
   ·obtain ⟨q12, h13, h⟩ := bi h
    obtain rfl := sj h
    try simp only [↓Da, Ua, J1x, Jd, J7H, *, ↓reduceIte, reduceEqDiff, reduceAdd, reduceLT, reduceMul]
    rfl
def J0G : Nat → T_pagemenddraw_Codes → Int → Option (Int × T_pagemenddraw_Codes)
 | 0 => fun _ _ => none
 | n + 1 => J2J (J0G n)
def Jp : T_pagemenddraw_Codes → Int → Option (Int × T_pagemenddraw_Codes) := J0G 12
theorem Jbj : ∀ n, ∀ {b0 : T_pagemenddraw_Codes} {x1 : Int} {o : Int × T_pagemenddraw_Codes}, J0G n b0 x1 = some o → AF (J2 p) Jc [.ptr 0 0, .p (.i .i64 x1)] [.box (List.map AV.p (J0 b0))] = J7B o
 | 0 => fun h => by cases h
 | n + 1 => fun h => (J0f (J2 p) (Jhr p) rfl).trans (Je5 p (Jbj n) h)
theorem Jv {b0 : T_pagemenddraw_Codes} {x1 : Int} {o : Int × T_pagemenddraw_Codes} (h : Jp b0 x1 = some o) : AF (J2 p) Jc [.ptr 0 0, .p (.i .i64 x1)] [.box (List.map AV.p (J0 b0))] = J7B o := Jbj p 12 h
def J4g  (r : (List UInt8) × T_pagemenddraw_Codes) : Option Res := some (.p (.s r.1), [.box (List.map AV.p (J0 r.2))])
def JaX (x4 : Int) (b0 : T_pagemenddraw_Codes) (o : (Int × (List Int)) ⊕ ((List UInt8) × T_pagemenddraw_Codes)) : Option Res := match o with
 | .inl s => rk (J2 p) J10 1 [.bl 0, .sq (.keep [0, 3] J2g)] (X (J2 p) (.lp 2 [0, 3, 4, 5] J1N) ⟨[(0, .ptr 0 0), (3, .slr 1 0 (List.length s.2)), (4, .p (.i .u8 x4)), (5, .p (.i .i64 s.1))], [.box (List.map AV.p (J0 b0)), .arr true 1 (List.map (r_i .u8) s.2)]⟩)
 | .inr o => J4g o
def J69 (b0 : T_pagemenddraw_Codes) (l1 : List Int) : Option ((List UInt8) × T_pagemenddraw_Codes) :=
 Option.bind (Jp b0 256) fun r1 =>
 Option.bind (Jp r1.2 256) fun r4 =>
 Option.bind (idx l1 r1.1) fun y7 =>
 Option.bind (some (List.set l1 (Int.toNat r1.1) (IntKind.wrap .u8 r4.1))) fun m11 =>
 some ((toStr m11), r4.2)
theorem Jf0 {b0 : T_pagemenddraw_Codes} {l1 : List Int} {o : (List UInt8) × T_pagemenddraw_Codes} (h : J69 b0 l1 = some o) :
  rk (J2 p) J10 1 [] (X (J2 p) J2g ⟨[(0, .ptr 0 0), (3, .slr 1 0 (List.length l1))], [.box (List.map AV.p (J0 b0)), .arr true 1 (List.map (r_i .u8) l1)]⟩) = J4g o := by
 unfold J69 at h
 obtain ⟨r1, h2, h⟩ := bi h
 have f3 : ∀ ws new s, JK ws s [0] [List.map AV.p (J0 b0)] → (Jj (AF (J2 p)) Jc ([.ptr 0 0, .p (.i .i64 256)], ws) 0 new).run s = some ⟨.p (.i .i64 r1.1), ws ++ [(0, .box (List.map AV.p (J0 r1.2)))]⟩ := Jy (args' := [.ptr 0 0, .p (.i .i64 256)]) (bs := [0]) (css := [List.map AV.p (J0 b0)]) (css' := [List.map AV.p (J0 r1.2)]) rfl rfl rfl (by simp [Jk, Jb]) (Jv p h2) rfl rfl (by simp [Jk, Jb])
 try simp only [Nf] at f3
 obtain ⟨r4, h5, h⟩ := bi h
 have f6 : ∀ ws new s, JK ws s [0] [List.map AV.p (J0 r1.2)] → (Jj (AF (J2 p)) Jc ([.ptr 0 0, .p (.i .i64 256)], ws) 0 new).run s = some ⟨.p (.i .i64 r4.1), ws ++ [(0, .box (List.map AV.p (J0 r4.2)))]⟩ := Jy (args' := [.ptr 0 0, .p (.i .i64 256)]) (bs := [0]) (css := [List.map AV.p (J0 r1.2)]) (css' := [List.map AV.p (J0 r4.2)]) rfl rfl rfl (by simp [Jk, Jb]) (Jv p h5) rfl rfl (by simp [Jk, Jb])
 try simp only [Nf] at f6
 obtain ⟨y7, h8, h⟩ := bi h
 have f9 := Jes (r := (r_i .u8)) h8
 try simp only [Nf] at f9
 have f10 : (0 ≤ (r1.1 : Int) ∧ (r1.1 : Int) < (((List.length l1) : Nat) : Int)) = True := eq_true (by have e0 := Jh5 h8; (try simp only [List.length_cons, List.length_nil, Nat.zero_add] at e0); omega)
 obtain ⟨m11, h12, h⟩ := bi h
 have f13 : List.set (List.map (r_i .u8) l1) (Int.toNat r1.1) ((r_i .u8) (IntKind.wrap .u8 r4.1)) = List.map (r_i .u8) m11 := by
  rw [← Option.some.inj h12, List.map_set]
 try simp only [Nf] at f13
 have g14 : List.length m11 = List.length l1 := by rw [← Option.some.inj h12, List.length_set]
 obtain rfl := sj h
 try simp only [↓Da, Ua, J2g, Jd, Jgp, *, ↓reduceIte, reduceEqDiff, reduceAdd, reduceLT, reduceMul]
 rfl
def J2h (x4 : Int) (b0 : T_pagemenddraw_Codes) (x5 : Int) (l1 : List Int) : Option (((Int × (List Int)) ⊕ ((List UInt8) × T_pagemenddraw_Codes))) :=
 if (decide (x5 < (((List.length l1) : Nat) : Int))) then
  Option.bind (idx l1 x5) fun y2 =>
  Option.bind (some (List.set l1 (Int.toNat x5) x4)) fun m6 =>
  some (.inl ((IntKind.wrap .i64 (x5 + 1)), m6))
 else
  Option.map (fun o => .inr o) (J69 b0 l1)
theorem Jbb {x4 : Int} {b0 : T_pagemenddraw_Codes} {x5 : Int} {l1 : List Int} {o : ((Int × (List Int)) ⊕ ((List UInt8) × T_pagemenddraw_Codes))} (h : J2h x4 b0 x5 l1 = some o) :
  rk (J2 p) J10 1 [.lo 2 [0, 3, 4, 5] J1N, .bl 0, .sq (.keep [0, 3] J2g)] (X (J2 p) J1N ⟨[(0, .ptr 0 0), (3, .slr 1 0 (List.length l1)), (4, .p (.i .u8 x4)), (5, .p (.i .i64 x5))], [.box (List.map AV.p (J0 b0)), .arr true 1 (List.map (r_i .u8) l1)]⟩) = (JaX p x4 b0) o := by
 unfold J2h at h
 rcases Ja h with ⟨h1, h⟩ | ⟨h1, h⟩
 ·obtain ⟨y2, h3, h⟩ := bi h
  have f4 := Jes (r := (r_i .u8)) h3
  try simp only [Nf] at f4
  have f5 : (0 ≤ (x5 : Int) ∧ (x5 : Int) < (((List.length l1) : Nat) : Int)) = True := eq_true (by have e0 := Jh5 h3; (try simp only [List.length_cons, List.length_nil, Nat.zero_add] at e0); omega)
  obtain ⟨m6, h7, h⟩ := bi h
  have f8 : List.set (List.map (r_i .u8) l1) (Int.toNat x5) ((r_i .u8) x4) = List.map (r_i .u8) m6 := by
   rw [← Option.some.inj h7, List.map_set]
  try simp only [Nf] at f8
  have g9 : List.length m6 = List.length l1 := by rw [← Option.some.inj h7, List.length_set]
  obtain rfl := sj h
  try simp only [↓Da, Ua, J1N, *, ↓reduceIte, reduceEqDiff, reduceAdd, reduceLT, reduceMul]
  try simp only [JaX, g9]
  try rfl
 ·obtain ⟨o', h', rfl⟩ := mi h
  try simp only [↓Da, Ua, J1N, *, ↓reduceIte, reduceEqDiff, reduceAdd, reduceLT, reduceMul]
  have e0 := Jf0 p h'
  exact e0
def Jb0 (x4 : Int) (b0 : T_pagemenddraw_Codes) (s : Int × (List Int)) : Option ((List UInt8) × T_pagemenddraw_Codes) :=
 Jx (fun s => J2h x4 b0 s.1 s.2) s
theorem JdJ {x4 : Int} {b0 : T_pagemenddraw_Codes} {s : Int × (List Int)} {o : (List UInt8) × T_pagemenddraw_Codes} (h : Jb0 x4 b0 s = some o) :
  rk (J2 p) J10 1 [.bl 0, .sq (.keep [0, 3] J2g)] (X (J2 p) (.lp 2 [0, 3, 4, 5] J1N) ⟨[(0, .ptr 0 0), (3, .slr 1 0 (List.length s.2)), (4, .p (.i .u8 x4)), (5, .p (.i .i64 s.1))], [.box (List.map AV.p (J0 b0)), .arr true 1 (List.map (r_i .u8) s.2)]⟩) = J4g o := by
 have h0 : Jx (fun s => J2h x4 b0 s.1 s.2) s = some o := h
 exact J0m (P := fun (s : Int × (List Int)) (o : (List UInt8) × T_pagemenddraw_Codes) => rk (J2 p) J10 1 [.bl 0, .sq (.keep [0, 3] J2g)] (X (J2 p) (.lp 2 [0, 3, 4, 5] J1N) ⟨[(0, .ptr 0 0), (3, .slr 1 0 (List.length s.2)), (4, .p (.i .u8 x4)), (5, .p (.i .i64 s.1))], [.box (List.map AV.p (J0 b0)), .arr true 1 (List.map (r_i .u8) s.2)]⟩) = J4g o) (fun s r hs => by rw [J0k]; exact Jbb p hs) (fun s s1 r hs ih => by rw [J0k]; exact (Jbb p hs).trans ih) h0
def J32 (b0 : T_pagemenddraw_Codes) : Option ((List UInt8) × T_pagemenddraw_Codes) :=
 Option.bind (mkS 1 256 256 0) fun m1 =>
 Option.bind (Jp b0 256) fun r6 =>
 Jb0 (IntKind.wrap .u8 r6.1) r6.2 (0, m1)
theorem JdL {b0 : T_pagemenddraw_Codes} {o : (List UInt8) × T_pagemenddraw_Codes} (h : J32 b0 = some o) :
  rk (J2 p) J10 1 [] (X (J2 p) J5w ⟨[(0, .ptr 0 0)], [.box (List.map AV.p (J0 b0))]⟩) = J4g o := by
 unfold J32 at h
 obtain ⟨m1, h2, h⟩ := bi h
 have f3 : (0 ≤ (256 : Int) ∧ (256 : Int) ≤ 256 ∧ ((1 : Nat) : Int) * 256 ≤ 281474976710656 ∧ (256 : Int) ≤ 281474976710656) = True := eq_true (JaH h2).1
 have f4 : List.replicate (Int.toNat 256) ((r_i .u8) 0) = List.map (r_i .u8) m1 := by rw [(JaH h2).2, List.map_replicate]
 try simp only [Nf] at f4
 have g5 : List.length m1 = Int.toNat 256 := by rw [(JaH h2).2, List.length_replicate]
 obtain ⟨r6, h7, h⟩ := bi h
 have f8 : ∀ ws new s, JK ws s [0] [List.map AV.p (J0 b0)] → (Jj (AF (J2 p)) Jc ([.ptr 0 0, .p (.i .i64 256)], ws) 0 new).run s = some ⟨.p (.i .i64 r6.1), ws ++ [(0, .box (List.map AV.p (J0 r6.2)))]⟩ := Jy (args' := [.ptr 0 0, .p (.i .i64 256)]) (bs := [0]) (css := [List.map AV.p (J0 b0)]) (css' := [List.map AV.p (J0 r6.2)]) rfl rfl rfl (by simp [Jk, Jb]) (Jv p h7) rfl rfl (by simp [Jk, Jb])
 try simp only [Nf] at f8
 try simp only [↓Da, Ua, J5w, Jd, *, ↓reduceIte, reduceEqDiff, reduceAdd, reduceLT, reduceMul]
 have e0 := JdJ p h
 try simp only [g5] at e0
 exact e0
theorem Jg7 {b0 : T_pagemenddraw_Codes} {o : (List UInt8) × T_pagemenddraw_Codes} (h : J32 b0 = some o) : AF (J2 p) J4f [.ptr 0 0] [.box (List.map AV.p (J0 b0))] = J4g o :=
 (J0f (J2 p) (Jgo p) rfl).trans (JdL p h)
def J3i  (r : (List UInt8) × T_pagemenddraw_Codes) : Option Res := some (.p (.s r.1), [.box (List.map AV.p (J0 r.2))])
def JfM (x3 : Int) (w1 : Bool) (o : (Int × T_pagemenddraw_Codes × (List Int)) ⊕ ((List UInt8) × T_pagemenddraw_Codes)) : Option Res := match o with
 | .inl s => rk (J2 p) J0R 1 [.bl 0, .sq (.keep [4] J2H)] (X (J2 p) (.lp 2 [0, 3, 4, 5] J1V) ⟨[(0, .ptr 0 0), (3, .p (.i .i64 x3)), (4, .slr 1 0 (List.length s.2.2)), (5, .p (.i .i64 s.1))], [.box (List.map AV.p (J0 s.2.1)), .arr w1 1 (List.map (r_i .u8) s.2.2)]⟩)
 | .inr o => J3i o
def J6C (b0 : T_pagemenddraw_Codes) (l1 : List Int) : Option ((List UInt8) × T_pagemenddraw_Codes) :=
 some ((toStr l1), b0)
theorem JfK {b0 : T_pagemenddraw_Codes} {l1 : List Int} {w1 : Bool} {o : (List UInt8) × T_pagemenddraw_Codes} (h : J6C b0 l1 = some o) :
  rk (J2 p) J0R 1 [] (X (J2 p) J2H ⟨[(4, .slr 1 0 (List.length l1))], [.box (List.map AV.p (J0 b0)), .arr w1 1 (List.map (r_i .u8) l1)]⟩) = J3i o := by
 unfold J6C at h
 obtain rfl := sj h
 try simp only [↓Da, Ua, J2H, JhH, ↓reduceIte, reduceEqDiff, reduceAdd, reduceLT, reduceMul]
 rfl
def J2F (x3 x5 : Int) (b0 : T_pagemenddraw_Codes) (l1 : List Int) : Option (((Int × T_pagemenddraw_Codes × (List Int)) ⊕ ((List UInt8) × T_pagemenddraw_Codes))) :=
 if (decide (x5 < x3)) then
  Option.bind (Jp b0 3) fun r2 =>
  Option.bind (JdS 1 l1 ([(IntKind.wrap .u8 (IntKind.wrap .i64 (97 + r2.1)))] : List Int)) fun m5 =>
  some (.inl ((IntKind.wrap .i64 (x5 + 1)), r2.2, m5))
 else
  Option.map (fun o => .inr o) (J6C b0 l1)
theorem Jbm {x3 x5 : Int} {b0 : T_pagemenddraw_Codes} {l1 : List Int} {w1 : Bool} {o : ((Int × T_pagemenddraw_Codes × (List Int)) ⊕ ((List UInt8) × T_pagemenddraw_Codes))} (h : J2F x3 x5 b0 l1 = some o) :
  rk (J2 p) J0R 1 [.lo 2 [0, 3, 4, 5] J1V, .bl 0, .sq (.keep [4] J2H)] (X (J2 p) J1V ⟨[(0, .ptr 0 0), (3, .p (.i .i64 x3)), (4, .slr 1 0 (List.length l1)), (5, .p (.i .i64 x5))], [.box (List.map AV.p (J0 b0)), .arr w1 1 (List.map (r_i .u8) l1)]⟩) = (JfM p x3 w1) o := by
 unfold J2F at h
 rcases Ja h with ⟨h1, h⟩ | ⟨h1, h⟩
 ·obtain ⟨r2, h3, h⟩ := bi h
  have f4 : ∀ ws new s, JK ws s [0] [List.map AV.p (J0 b0)] → (Jj (AF (J2 p)) Jc ([.ptr 0 0, .p (.i .i64 3)], ws) 0 new).run s = some ⟨.p (.i .i64 r2.1), ws ++ [(0, .box (List.map AV.p (J0 r2.2)))]⟩ := Jy (args' := [.ptr 0 0, .p (.i .i64 3)]) (bs := [0]) (css := [List.map AV.p (J0 b0)]) (css' := [List.map AV.p (J0 r2.2)]) rfl rfl rfl (by simp [Jk, Jb]) (Jv p h3) rfl rfl (by simp [Jk, Jb])
  try simp only [Nf] at f4
  obtain ⟨m5, h6, h⟩ := bi h
  have f7 : ∀ s : St, s.sto[1]? = some (.arr w1 1 (List.map (r_i .u8) l1)) → (J0a 1 (.p (.sl 1 (List.map (r_i .u8) ([(IntKind.wrap .u8 (IntKind.wrap .i64 (97 + r2.1)))] : List Int))))).run s = some (List.map (r_i .u8) ([(IntKind.wrap .u8 (IntKind.wrap .i64 (97 + r2.1)))] : List Int)) → (J5e 1 1 (.slr 1 0 (List.length l1)) (.p (.sl 1 (List.map (r_i .u8) ([(IntKind.wrap .u8 (IntKind.wrap .i64 (97 + r2.1)))] : List Int))))).run s = some ⟨.slr 1 0 (List.length m5), [(1, .arr w1 1 (List.map (r_i .u8) m5))]⟩ := by
   intro s e1 e2; have e3 := Jh2 h6 e1 e2; try simp only [List.length_cons, List.length_nil, Nat.zero_add] at e3
   exact e3
  try simp only [Nf] at f7
  obtain rfl := sj h
  try simp only [↓Da, Ua, J1V, Jd, *, ↓reduceIte, reduceEqDiff, reduceAdd, reduceLT, reduceMul]
  rfl
 ·obtain ⟨o', h', rfl⟩ := mi h
  try simp only [↓Da, Ua, J1V, Jd, *, ↓reduceIte, reduceEqDiff, reduceAdd, reduceLT, reduceMul]
  have e0 := JfK p (w1 := w1) h'
  exact e0
def Jbo (x3 : Int) (s : Int × T_pagemenddraw_Codes × (List Int)) : Option ((List UInt8) × T_pagemenddraw_Codes) :=
 Jx (fun s => J2F x3 s.1 s.2.1 s.2.2) s
theorem Jeb {x3 : Int} {w1 : Bool} {s : Int × T_pagemenddraw_Codes × (List Int)} {o : (List UInt8) × T_pagemenddraw_Codes} (h : Jbo x3 s = some o) :
  rk (J2 p) J0R 1 [.bl 0, .sq (.keep [4] J2H)] (X (J2 p) (.lp 2 [0, 3, 4, 5] J1V) ⟨[(0, .ptr 0 0), (3, .p (.i .i64 x3)), (4, .slr 1 0 (List.length s.2.2)), (5, .p (.i .i64 s.1))], [.box (List.map AV.p (J0 s.2.1)), .arr w1 1 (List.map (r_i .u8) s.2.2)]⟩) = J3i o := by
 have h0 : Jx (fun s => J2F x3 s.1 s.2.1 s.2.2) s = some o := h
 exact J0m (P := fun (s : Int × T_pagemenddraw_Codes × (List Int)) (o : (List UInt8) × T_pagemenddraw_Codes) => rk (J2 p) J0R 1 [.bl 0, .sq (.keep [4] J2H)] (X (J2 p) (.lp 2 [0, 3, 4, 5] J1V) ⟨[(0, .ptr 0 0), (3, .p (.i .i64 x3)), (4, .slr 1 0 (List.length s.2.2)), (5, .p (.i .i64 s.1))], [.box (List.map AV.p (J0 s.2.1)), .arr w1 1 (List.map (r_i .u8) s.2.2)]⟩) = J3i o) (fun s r hs => by rw [J0k]; exact Jbm p hs) (fun s s1 r hs ih => by rw [J0k]; exact (Jbm p hs).trans ih) h0
def J3F (x3 : Int) (b0 : T_pagemenddraw_Codes) : Option ((List UInt8) × T_pagemenddraw_Codes) :=
 Option.bind (mkS 1 0 x3 0) fun m1 =>
 Jbo x3 (0, b0, m1)
theorem Jbi {x3 : Int} {b0 : T_pagemenddraw_Codes} {o : (List UInt8) × T_pagemenddraw_Codes} (h : J3F x3 b0 = some o) :
  rk (J2 p) J0R 1 [] (X (J2 p) J90 ⟨[(0, .ptr 0 0), (3, .p (.i .i64 x3))], [.box (List.map AV.p (J0 b0))]⟩) = J3i o := by
 unfold J3F at h
 obtain ⟨m1, h2, h⟩ := bi h
 have f3 : (0 ≤ (0 : Int) ∧ (0 : Int) ≤ x3 ∧ ((1 : Nat) : Int) * x3 ≤ 281474976710656 ∧ (x3 : Int) ≤ 281474976710656) = True := eq_true (JaH h2).1
 have f4 : List.replicate (Int.toNat 0) ((r_i .u8) 0) = List.map (r_i .u8) m1 := by rw [(JaH h2).2, List.map_replicate]
 try simp only [Nf] at f4
 have g5 : List.length m1 = Int.toNat 0 := by rw [(JaH h2).2, List.length_replicate]
 try simp only [↓Da, Ua, J90, *, ↓reduceIte, reduceEqDiff, reduceAdd, reduceLT, reduceMul]
 have e0 := Jeb p (w1 := true) h
 try simp only [g5] at e0
 exact e0
def J4G (b0 : T_pagemenddraw_Codes) : Option ((List UInt8) × T_pagemenddraw_Codes) :=
 Option.bind (Jp b0 5) fun r1 =>
 Option.bind (Jp r1.2 6) fun r4 =>
 if ((r4.1 : Int) == 0) then
  Option.bind (Jp r4.2 14) fun r8 =>
  J3F r8.1 r8.2
 else
  J3F r1.1 r4.2
theorem Jek {b0 : T_pagemenddraw_Codes} {o : (List UInt8) × T_pagemenddraw_Codes} (h : J4G b0 = some o) :
  rk (J2 p) J0R 1 [] (X (J2 p) J3p ⟨[(0, .ptr 0 0)], [.box (List.map AV.p (J0 b0))]⟩) = J3i o := by
 unfold J4G at h
 obtain ⟨r1, h2, h⟩ := bi h
 have f3 : ∀ ws new s, JK ws s [0] [List.map AV.p (J0 b0)] → (Jj (AF (J2 p)) Jc ([.ptr 0 0, .p (.i .i64 5)], ws) 0 new).run s = some ⟨.p (.i .i64 r1.1), ws ++ [(0, .box (List.map AV.p (J0 r1.2)))]⟩ := Jy (args' := [.ptr 0 0, .p (.i .i64 5)]) (bs := [0]) (css := [List.map AV.p (J0 b0)]) (css' := [List.map AV.p (J0 r1.2)]) rfl rfl rfl (by simp [Jk, Jb]) (Jv p h2) rfl rfl (by simp [Jk, Jb])
 try simp only [Nf] at f3
 obtain ⟨r4, h5, h⟩ := bi h
 have f6 : ∀ ws new s, JK ws s [0] [List.map AV.p (J0 r1.2)] → (Jj (AF (J2 p)) Jc ([.ptr 0 0, .p (.i .i64 6)], ws) 0 new).run s = some ⟨.p (.i .i64 r4.1), ws ++ [(0, .box (List.map AV.p (J0 r4.2)))]⟩ := Jy (args' := [.ptr 0 0, .p (.i .i64 6)]) (bs := [0]) (css := [List.map AV.p (J0 r1.2)]) (css' := [List.map AV.p (J0 r4.2)]) rfl rfl rfl (by simp [Jk, Jb]) (Jv p h5) rfl rfl (by simp [Jk, Jb])
 try simp only [Nf] at f6
 try simp only [↓Da, Ua, J3p, Jd, *, ↓reduceIte, reduceEqDiff, reduceAdd, reduceLT, reduceMul]
 rcases Ja h with ⟨h7, h⟩ | ⟨h7, h⟩
 ·have h7n : ((r4.1 : Int) != 0) = false := by rw [bne, h7]; rfl
  obtain ⟨r8, h9, h⟩ := bi h
  have f10 : ∀ ws new s, JK ws s [0] [List.map AV.p (J0 r4.2)] → (Jj (AF (J2 p)) Jc ([.ptr 0 0, .p (.i .i64 14)], ws) 0 new).run s = some ⟨.p (.i .i64 r8.1), ws ++ [(0, .box (List.map AV.p (J0 r8.2)))]⟩ := Jy (args' := [.ptr 0 0, .p (.i .i64 14)]) (bs := [0]) (css := [List.map AV.p (J0 r4.2)]) (css' := [List.map AV.p (J0 r8.2)]) rfl rfl rfl (by simp [Jk, Jb]) (Jv p h9) rfl rfl (by simp [Jk, Jb])
  try simp only [Nf] at f10
  try simp only [↓Da, Ua, J3p, Jd, *, ↓reduceIte, reduceEqDiff, reduceAdd, reduceLT, reduceMul]
  have e0 := Jbi p h
  exact e0
 ·have h7n : ((r4.1 : Int) != 0) = true := by rw [bne, h7]; rfl
  try simp only [↓Da, Ua, J3p, Jd, *, ↓reduceIte, reduceEqDiff, reduceAdd, reduceLT, reduceMul]
  have e0 := Jbi p h
  exact e0
theorem JhK {b0 : T_pagemenddraw_Codes} {o : (List UInt8) × T_pagemenddraw_Codes} (h : J4G b0 = some o) : AF (J2 p) J4P [.ptr 0 0] [.box (List.map AV.p (J0 b0))] = J3i o :=
 (J0f (J2 p) (JhO p) rfl).trans (Jek p h)
def JcM  (r : Int × T_pagemenddraw_Codes) : Option Res := some (.p (.i .i64 r.1), [.box (List.map AV.p (J0 r.2))])
def J2W (b0 : T_pagemenddraw_Codes) : Option (Int × T_pagemenddraw_Codes) :=
 Option.bind (Jp b0 10) fun r1 =>
 if ((r1.1 : Int) == 0) then
  Option.bind (Jp r1.2 3) fun r5 =>
  some ((IntKind.wrap .i64 ((-1) - r5.1)), r5.2)
 else
  if ((r1.1 : Int) == 1) then
   Option.bind (Jp r1.2 16) fun r9 =>
   Option.bind (idx ([9223372036854775807, (-9223372036854775808), 1099511627776, 1099511627777, 1073741824, 1073741825, 64, 63, 16, 15, 256, 255, 4294967296, 65536, 256, 255] : List Int) r9.1) fun y12 =>
   some (y12, r9.2)
  else
   Option.bind (Jp r1.2 20) fun r15 =>
   some (r15.1, r15.2)
theorem JeU {b0 : T_pagemenddraw_Codes} {o : Int × T_pagemenddraw_Codes} (h : J2W b0 = some o) :
  rk (J2 p) J5b 1 [] (X (J2 p) J2k ⟨[(0, .ptr 0 0)], [.box (List.map AV.p (J0 b0))]⟩) = JcM o := by
 unfold J2W at h
 obtain ⟨r1, h2, h⟩ := bi h
 have f3 : ∀ ws new s, JK ws s [0] [List.map AV.p (J0 b0)] → (Jj (AF (J2 p)) Jc ([.ptr 0 0, .p (.i .i64 10)], ws) 0 new).run s = some ⟨.p (.i .i64 r1.1), ws ++ [(0, .box (List.map AV.p (J0 r1.2)))]⟩ := Jy (args' := [.ptr 0 0, .p (.i .i64 10)]) (bs := [0]) (css := [List.map AV.p (J0 b0)]) (css' := [List.map AV.p (J0 r1.2)]) rfl rfl rfl (by simp [Jk, Jb]) (Jv p h2) rfl rfl (by simp [Jk, Jb])
 try simp only [Nf] at f3
 try simp only [↓Da, Ua, J2k, Jd, *, ↓reduceIte, reduceEqDiff, reduceAdd, reduceLT, reduceMul]
 rcases Ja h with ⟨h4, h⟩ | ⟨h4, h⟩
 ·have h4n : ((r1.1 : Int) != 0) = false := by rw [bne, h4]; rfl
  obtain ⟨r5, h6, h⟩ := bi h
  have f7 : ∀ ws new s, JK ws s [0] [List.map AV.p (J0 r1.2)] → (Jj (AF (J2 p)) Jc ([.ptr 0 0, .p (.i .i64 3)], ws) 0 new).run s = some ⟨.p (.i .i64 r5.1), ws ++ [(0, .box (List.map AV.p (J0 r5.2)))]⟩ := Jy (args' := [.ptr 0 0, .p (.i .i64 3)]) (bs := [0]) (css := [List.map AV.p (J0 r1.2)]) (css' := [List.map AV.p (J0 r5.2)]) rfl rfl rfl (by simp [Jk, Jb]) (Jv p h6) rfl rfl (by simp [Jk, Jb])
  try simp only [Nf] at f7
  obtain rfl := sj h
  try simp only [↓Da, Ua, J2k, Jd, Jaq, *, ↓reduceIte, reduceEqDiff, reduceAdd, reduceLT, reduceMul]
  rfl
 ·have h4n : ((r1.1 : Int) != 0) = true := by rw [bne, h4]; rfl
  try simp only [↓Da, Ua, J2k, Jd, *, ↓reduceIte, reduceEqDiff, reduceAdd, reduceLT, reduceMul]
  rcases Ja h with ⟨h8, h⟩ | ⟨h8, h⟩
  ·have h8n : ((r1.1 : Int) != 1) = false := by rw [bne, h8]; rfl
   obtain ⟨r9, h10, h⟩ := bi h
   have f11 : ∀ ws new s, JK ws s [0] [List.map AV.p (J0 r1.2)] → (Jj (AF (J2 p)) Jc ([.ptr 0 0, .p (.i .i64 16)], ws) 0 new).run s = some ⟨.p (.i .i64 r9.1), ws ++ [(0, .box (List.map AV.p (J0 r9.2)))]⟩ := Jy (args' := [.ptr 0 0, .p (.i .i64 16)]) (bs := [0]) (css := [List.map AV.p (J0 r1.2)]) (css' := [List.map AV.p (J0 r9.2)]) rfl rfl rfl (by simp [Jk, Jb]) (Jv p h10) rfl rfl (by simp [Jk, Jb])
   try simp only [Nf] at f11
   obtain ⟨y12, h13, h⟩ := bi h
   have f14 := J2e (r := (r_i .i64)) h13
   try simp only [Nf] at f14
   obtain rfl := sj h
   try simp only [↓Da, Ua, J2k, Jd, Jaq, *, ↓reduceIte, reduceEqDiff, reduceAdd, reduceLT, reduceMul]
   rfl
  ·have h8n : ((r1.1 : Int) != 1) = true := by rw [bne, h8]; rfl
   obtain ⟨r15, h16, h⟩ := bi h
   have f17 : ∀ ws new s, JK ws s [0] [List.map AV.p (J0 r1.2)] → (Jj (AF (J2 p)) Jc ([.ptr 0 0, .p (.i .i64 20)], ws) 0 new).run s = some ⟨.p (.i .i64 r15.1), ws ++ [(0, .box (List.map AV.p (J0 r15.2)))]⟩ := Jy (args' := [.ptr 0 0, .p (.i .i64 20)]) (bs := [0]) (css := [List.map AV.p (J0 r1.2)]) (css' := [List.map AV.p (J0 r15.2)]) rfl rfl rfl (by simp [Jk, Jb]) (Jv p h16) rfl rfl (by simp [Jk, Jb])
   try simp only [Nf] at f17
   obtain rfl := sj h
   try simp only [↓Da, Ua, J2k, Jd, Jaq, *, ↓reduceIte, reduceEqDiff, reduceAdd, reduceLT, reduceMul]
   rfl
theorem JcX {b0 : T_pagemenddraw_Codes} {o : Int × T_pagemenddraw_Codes} (h : J2W b0 = some o) : AF (J2 p) J2X [.ptr 0 0] [.box (List.map AV.p (J0 b0))] = JcM o :=
 (J0f (J2 p) (Jiu p) rfl).trans (JeU p h)
def JhU (r : List UInt8) : Option Res := some (.p (.s r), [])
def J0w (x0 : List UInt8) (x1 x2 : Int) : Option (List UInt8) := JgC x0 x1 x2
theorem Ji0 {x0 : List UInt8} {x1 x2 : Int} {o : List UInt8} (h : J0w x0 x1 x2 = some o) : AF (J2 p) J1w [.p (.s x0), .p (.i .i64 x1), .p (.i .i64 x2)] [] = JhU o := by
 rw [Jh0 (JpC p)]
 have h' : JgC x0 x1 x2 = some o := h
 simp only [JoS, h', Option.map_some, JhU]
theorem J7w {x0 : List UInt8} {x1 x2 : Int} {o : List UInt8} (h : J0w x0 x1 x2 = some o) : ∀ ws new st, (Jj (AF (J2 p)) J1w ([.p (.s x0), .p (.i .i64 x1), .p (.i .i64 x2)], ws) 0 new).run st = some ⟨.p (.s o), ws⟩ := Js rfl (Ji0 p h) rfl
def J8O  (r : (List UInt8)) : Option Res := some (.p (.s r), [])
def JmE (x1 x2 : Int) (o : ((List UInt8) × Int) ⊕ ((List UInt8))) : Option Res := match o with
 | .inl s => rk (J2 p) J3K 0 [.bl 0, .sq (.keep [0] J5V)] (X (J2 p) (.lp 0 [0, 1, 2, 7] J4Y) ⟨[(0, .p (.s s.1)), (1, .p (.i .i64 x1)), (2, .p (.i .i64 x2)), (7, .p (.i .i64 s.2))], []⟩)
 | .inr o => J8O o
def Jak (x0 : List UInt8) : Option ((List UInt8)) :=
 some x0
theorem Jmk {x0 : List UInt8} {o : (List UInt8)} (h : Jak x0 = some o) :
  rk (J2 p) J3K 0 [] (X (J2 p) J5V ⟨[(0, .p (.s x0))], []⟩) = J8O o := by
 unfold Jak at h
 obtain rfl := sj h
 try simp only [↓Da, Ua, J5V, JdO, ↓reduceIte, reduceEqDiff, reduceAdd, reduceLT, reduceMul]
 rfl
def J5O (x1 x2 : Int) (x0 : List UInt8) (x7 : Int) : Option ((((List UInt8) × Int) ⊕ ((List UInt8)))) :=
 if (decide (x7 < x2)) then
  Option.bind (J8X .u64 (IntKind.wrap .u64 x1) (IntKind.wrap .u64 (IntKind.wrap .i64 (8 * x7)))) fun q2 =>
  Option.bind (J2I x0 (toStr ([(IntKind.wrap .u8 q2)] : List Int))) fun s5 =>
  some (.inl (s5, (IntKind.wrap .i64 (x7 + 1))))
 else
  Option.map (fun o => .inr o) (Jak x0)
theorem Jf6 {x1 x2 : Int} {x0 : List UInt8} {x7 : Int} {o : (((List UInt8) × Int) ⊕ ((List UInt8)))} (h : J5O x1 x2 x0 x7 = some o) :
  rk (J2 p) J3K 0 [.lo 0 [0, 1, 2, 7] J4Y, .bl 0, .sq (.keep [0] J5V)] (X (J2 p) J4Y ⟨[(0, .p (.s x0)), (1, .p (.i .i64 x1)), (2, .p (.i .i64 x2)), (7, .p (.i .i64 x7))], []⟩) = (JmE p x1 x2) o := by
 unfold J5O at h
 rcases Ja h with ⟨h1, h⟩ | ⟨h1, h⟩
 ·obtain ⟨q2, h3, h⟩ := bi h
  have f4 : ∀ env sto new, (cvR .toStr (.p (.sl 1 (List.map (r_i .u8) ([(IntKind.wrap .u8 q2)] : List Int)))) new).run ⟨env, sto⟩ = some ⟨.p (.s (toStr ([(IntKind.wrap .u8 q2)] : List Int))), []⟩ := fun env sto new => Jon env sto _ new
  try simp only [Nf] at f4
  obtain ⟨s5, h6, h⟩ := bi h
  obtain rfl := sj h
  try simp only [↓Da, Ua, J4Y, *, ↓reduceIte, reduceEqDiff, reduceAdd, reduceLT, reduceMul]
  rfl
 ·obtain ⟨o', h', rfl⟩ := mi h
  try simp only [↓Da, Ua, J4Y, *, ↓reduceIte, reduceEqDiff, reduceAdd, reduceLT, reduceMul]
  have e0 := Jmk p h'
  exact e0
def Jfl (x1 x2 : Int) (s : (List UInt8) × Int) : Option ((List UInt8)) :=
 Jx (fun s => J5O x1 x2 s.1 s.2) s
theorem Jju {x1 x2 : Int} {s : (List UInt8) × Int} {o : (List UInt8)} (h : Jfl x1 x2 s = some o) :
  rk (J2 p) J3K 0 [.bl 0, .sq (.keep [0] J5V)] (X (J2 p) (.lp 0 [0, 1, 2, 7] J4Y) ⟨[(0, .p (.s s.1)), (1, .p (.i .i64 x1)), (2, .p (.i .i64 x2)), (7, .p (.i .i64 s.2))], []⟩) = J8O o := by
 have h0 : Jx (fun s => J5O x1 x2 s.1 s.2) s = some o := h
 exact J0m (P := fun (s : (List UInt8) × Int) (o : (List UInt8)) => rk (J2 p) J3K 0 [.bl 0, .sq (.keep [0] J5V)] (X (J2 p) (.lp 0 [0, 1, 2, 7] J4Y) ⟨[(0, .p (.s s.1)), (1, .p (.i .i64 x1)), (2, .p (.i .i64 x2)), (7, .p (.i .i64 s.2))], []⟩) = J8O o) (fun s r hs => by rw [J0k]; exact Jf6 p hs) (fun s s1 r hs ih => by rw [J0k]; exact (Jf6 p hs).trans ih) h0
def J1z (x0 : List UInt8) (x1 x2 : Int) : Option ((List UInt8)) :=
 if (decide (x2 < 1)) then
  some x0
 else
  if (decide (x2 > 8)) then
   some x0
  else
   Jfl x1 x2 (x0, 0)
theorem JjF {x0 : List UInt8} {x1 x2 : Int} {o : (List UInt8)} (h : J1z x0 x1 x2 = some o) :
  rk (J2 p) J3K 0 [] (X (J2 p) J6f ⟨[(0, .p (.s x0)), (1, .p (.i .i64 x1)), (2, .p (.i .i64 x2))], []⟩) = J8O o := by
 unfold J1z at h
 rcases Ja h with ⟨h1, h⟩ | ⟨h1, h⟩
 ·obtain rfl := sj h
  try simp only [↓Da, Ua, J6f, JdO, *, ↓reduceIte, reduceEqDiff, reduceAdd, reduceLT, reduceMul]
  rfl
 ·try simp only [↓Da, Ua, J6f, *, ↓reduceIte, reduceEqDiff, reduceAdd, reduceLT, reduceMul]
  rcases Ja h with ⟨h2, h⟩ | ⟨h2, h⟩
  ·obtain rfl := sj h
   try simp only [↓Da, Ua, J6f, JdO, *, ↓reduceIte, reduceEqDiff, reduceAdd, reduceLT, reduceMul]
   rfl
  ·try simp only [↓Da, Ua, J6f, *, ↓reduceIte, reduceEqDiff, reduceAdd, reduceLT, reduceMul]
   have e0 := Jju p h
   exact e0
theorem JpP {x0 : List UInt8} {x1 x2 : Int} {o : (List UInt8)} (h : J1z x0 x1 x2 = some o) : AF (J2 p) J4h [.p (.s x0), .p (.i .i64 x1), .p (.i .i64 x2)] [] = J8O o :=
 (J0f (J2 p) (Jpn p) rfl).trans (JjF p h)
theorem J9Z {x0 : List UInt8} {x1 x2 : Int} {o : (List UInt8)} (h : J1z x0 x1 x2 = some o) : ∀ ws new st, (Jj (AF (J2 p)) J4h ([.p (.s x0), .p (.i .i64 x1), .p (.i .i64 x2)], ws) 0 new).run st = some ⟨.p (.s o), ws⟩ := Js rfl (JpP p h) rfl
def J8V  (r : Int × Int) : Option Res := some (.tup [.p (.i .i64 r.1), .p (.i .i64 r.2)], [])
def Jn6 (x0 : List UInt8) (x1 x34 : Int) (o : (Int × Int) ⊕ (Int × Int)) : Option Res := match o with
 | .inl s => rk (J2 p) J3I 0 [.bl 1, .sq (.keep [8] J5M)] (X (J2 p) (.lp 0 [0, 1, 8, 34, 35] J4U) ⟨[(0, .p (.s x0)), (1, .p (.i .i64 x1)), (8, .p (.i .u64 s.1)), (34, .p (.i .i64 x34)), (35, .p (.i .i64 s.2))], []⟩)
 | .inr o => J8V o
def J6V (x8 : Int) : Option (Int × Int) :=
 some ((IntKind.wrap .i64 x8), 0)
theorem Jmg {x8 : Int} {o : Int × Int} (h : J6V x8 = some o) :
  rk (J2 p) J3I 0 [] (X (J2 p) J5M ⟨[(8, .p (.i .u64 x8))], []⟩) = J8V o := by
 unfold J6V at h
 obtain rfl := sj h
 try simp only [↓Da, Ua, J5M, J8R, ↓reduceIte, reduceEqDiff, reduceAdd, reduceLT, reduceMul]
 rfl
def J0S (x0 : List UInt8) (x1 x34 : Int) (x8 x35 : Int) : Option (((Int × Int) ⊕ (Int × Int))) :=
 if (decide (x35 < x34)) then
  Option.bind (JcH x0 (IntKind.wrap .i64 (x1 + x35))) fun c2 =>
  Option.bind (Jgy .u64 (IntKind.wrap .u64 c2) (IntKind.wrap .i64 (8 * x35))) fun q4 =>
  some (.inl ((orI .u64 x8 q4), (IntKind.wrap .i64 (x35 + 1))))
 else
  Option.map (fun o => .inr o) (J6V x8)
theorem Jfp {x0 : List UInt8} {x1 x34 : Int} {x8 x35 : Int} {o : ((Int × Int) ⊕ (Int × Int))} (h : J0S x0 x1 x34 x8 x35 = some o) :
  rk (J2 p) J3I 0 [.lo 0 [0, 1, 8, 34, 35] J4U, .bl 1, .sq (.keep [8] J5M)] (X (J2 p) J4U ⟨[(0, .p (.s x0)), (1, .p (.i .i64 x1)), (8, .p (.i .u64 x8)), (34, .p (.i .i64 x34)), (35, .p (.i .i64 x35))], []⟩) = (Jn6 p x0 x1 x34) o := by
 unfold J0S at h
 rcases Ja h with ⟨h1, h⟩ | ⟨h1, h⟩
 ·obtain ⟨c2, h3, h⟩ := bi h
  obtain ⟨q4, h5, h⟩ := bi h
  obtain rfl := sj h
  try simp only [↓Da, Ua, J4U, *, ↓reduceIte, reduceEqDiff, reduceAdd, reduceLT, reduceMul]
  rfl
 ·obtain ⟨o', h', rfl⟩ := mi h
  try simp only [↓Da, Ua, J4U, *, ↓reduceIte, reduceEqDiff, reduceAdd, reduceLT, reduceMul]
  have e0 := Jmg p h'
  exact e0
def Jc4 (x0 : List UInt8) (x1 x34 : Int) (s : Int × Int) : Option (Int × Int) :=
 Jx (fun s => J0S x0 x1 x34 s.1 s.2) s
theorem JjM {x0 : List UInt8} {x1 x34 : Int} {s o : Int × Int} (h : Jc4 x0 x1 x34 s = some o) :
  rk (J2 p) J3I 0 [.bl 1, .sq (.keep [8] J5M)] (X (J2 p) (.lp 0 [0, 1, 8, 34, 35] J4U) ⟨[(0, .p (.s x0)), (1, .p (.i .i64 x1)), (8, .p (.i .u64 s.1)), (34, .p (.i .i64 x34)), (35, .p (.i .i64 s.2))], []⟩) = J8V o := by
 have h0 : Jx (fun s => J0S x0 x1 x34 s.1 s.2) s = some o := h
 exact J0m (P := fun (s : Int × Int) (o : Int × Int) => rk (J2 p) J3I 0 [.bl 1, .sq (.keep [8] J5M)] (X (J2 p) (.lp 0 [0, 1, 8, 34, 35] J4U) ⟨[(0, .p (.s x0)), (1, .p (.i .i64 x1)), (8, .p (.i .u64 s.1)), (34, .p (.i .i64 x34)), (35, .p (.i .i64 s.2))], []⟩) = J8V o) (fun s r hs => by rw [J0k]; exact Jfp p hs) (fun s s1 r hs ih => by rw [J0k]; exact (Jfp p hs).trans ih) h0
def J16 (x0 : List UInt8) (x1 x2 : Int) : Option (Int × Int) :=
 if (decide (x2 < 1)) then
  some (0, 1)
 else
  if (decide (x2 > 8)) then
   some (0, 1)
  else
   if (decide (x1 < 0)) then
    some (0, 1)
   else
    if (decide (x1 > ((List.length x0 : Nat) : Int))) then
     some (0, 5)
    else
     if (decide ((IntKind.wrap .i64 (((List.length x0 : Nat) : Int) - x1)) < x2)) then
      some (0, 5)
     else
      Jc4 x0 x1 x2 (0, 0)
theorem Jkg {x0 : List UInt8} {x1 x2 : Int} {o : Int × Int} (h : J16 x0 x1 x2 = some o) :
  rk (J2 p) J3I 0 [] (X (J2 p) J2b ⟨[(0, .p (.s x0)), (1, .p (.i .i64 x1)), (2, .p (.i .i64 x2))], []⟩) = J8V o := by
 unfold J16 at h
 rcases Ja h with ⟨h1, h⟩ | ⟨h1, h⟩
 ·obtain rfl := sj h
  try simp only [↓Da, Ua, J2b, J8R, *, ↓reduceIte, reduceEqDiff, reduceAdd, reduceLT, reduceMul]
  rfl
 ·try simp only [↓Da, Ua, J2b, *, ↓reduceIte, reduceEqDiff, reduceAdd, reduceLT, reduceMul]
  rcases Ja h with ⟨h2, h⟩ | ⟨h2, h⟩
  ·obtain rfl := sj h
   try simp only [↓Da, Ua, J2b, J8R, *, ↓reduceIte, reduceEqDiff, reduceAdd, reduceLT, reduceMul]
   rfl
  ·try simp only [↓Da, Ua, J2b, *, ↓reduceIte, reduceEqDiff, reduceAdd, reduceLT, reduceMul]
   rcases Ja h with ⟨h3, h⟩ | ⟨h3, h⟩
   ·obtain rfl := sj h
    try simp only [↓Da, Ua, J2b, J8R, *, ↓reduceIte, reduceEqDiff, reduceAdd, reduceLT, reduceMul]
    rfl
   ·try simp only [↓Da, Ua, J2b, *, ↓reduceIte, reduceEqDiff, reduceAdd, reduceLT, reduceMul]
    rcases Ja h with ⟨h4, h⟩ | ⟨h4, h⟩
    ·obtain rfl := sj h
     try simp only [↓Da, Ua, J2b, J8R, *, ↓reduceIte, reduceEqDiff, reduceAdd, reduceLT, reduceMul]
     rfl
    ·try simp only [↓Da, Ua, J2b, *, ↓reduceIte, reduceEqDiff, reduceAdd, reduceLT, reduceMul]
     rcases Ja h with ⟨h5, h⟩ | ⟨h5, h⟩
     ·obtain rfl := sj h
      try simp only [↓Da, Ua, J2b, J8R, *, ↓reduceIte, reduceEqDiff, reduceAdd, reduceLT, reduceMul]
      rfl
     ·try simp only [↓Da, Ua, J2b, *, ↓reduceIte, reduceEqDiff, reduceAdd, reduceLT, reduceMul]
      have e0 := JjM p h
      exact e0
theorem JpB {x0 : List UInt8} {x1 x2 : Int} {o : Int × Int} (h : J16 x0 x1 x2 = some o) : AF (J2 p) J8Q [.p (.s x0), .p (.i .i64 x1), .p (.i .i64 x2)] [] = J8V o :=
 (J0f (J2 p) (Jpr p) rfl).trans (Jkg p h)
theorem Jpc {x0 : List UInt8} {x1 x2 : Int} {o : Int × Int} (h : J16 x0 x1 x2 = some o) : ∀ ws new st, (Jj (AF (J2 p)) J8Q ([.p (.s x0), .p (.i .i64 x1), .p (.i .i64 x2)], ws) 0 new).run st = some ⟨.tup [.p (.i .i64 o.1), .p (.i .i64 o.2)], ws⟩ := Js rfl (JpB p h) rfl
def Jcb  (r : Je × T_pagemenddraw_Codes) : Option Res := some (.data (Ji r.1), [.box (List.map AV.p (J0 r.2))])
def J4N (b0 : T_pagemenddraw_Codes) : Option (Je × T_pagemenddraw_Codes) :=
 Option.bind (Jp b0 3) fun r1 =>
 if ((r1.1 : Int) == 0) then
  some ((⟨false, ([] : List UInt8)⟩ : Je), r1.2)
 else
  Option.bind (J4G r1.2) fun r5 =>
  Option.bind (J2U r5.1 none (some (Jii ((List.length r5.1 : Nat) : Int) 12))) fun m8 =>
  some ((⟨true, m8⟩ : Je), r5.2)
theorem Je9 {b0 : T_pagemenddraw_Codes} {o : Je × T_pagemenddraw_Codes} (h : J4N b0 = some o) :
  rk (J2 p) J4J 1 [] (X (J2 p) J3q ⟨[(0, .ptr 0 0)], [.box (List.map AV.p (J0 b0))]⟩) = Jcb o := by
 unfold J4N at h
 obtain ⟨r1, h2, h⟩ := bi h
 have f3 : ∀ ws new s, JK ws s [0] [List.map AV.p (J0 b0)] → (Jj (AF (J2 p)) Jc ([.ptr 0 0, .p (.i .i64 3)], ws) 0 new).run s = some ⟨.p (.i .i64 r1.1), ws ++ [(0, .box (List.map AV.p (J0 r1.2)))]⟩ := Jy (args' := [.ptr 0 0, .p (.i .i64 3)]) (bs := [0]) (css := [List.map AV.p (J0 b0)]) (css' := [List.map AV.p (J0 r1.2)]) rfl rfl rfl (by simp [Jk, Jb]) (Jv p h2) rfl rfl (by simp [Jk, Jb])
 try simp only [Nf] at f3
 try simp only [↓Da, Ua, J3q, J7, Jd, *, ↓reduceIte, reduceEqDiff, reduceAdd, reduceLT, reduceMul]
 rcases Ja h with ⟨h4, h⟩ | ⟨h4, h⟩
 ·have h4n : ((r1.1 : Int) != 0) = false := by rw [bne, h4]; rfl
  obtain rfl := sj h
  try simp only [↓Da, Ua, J3q, J7, Jd, Jcc, *, ↓reduceIte, reduceEqDiff, reduceAdd, reduceLT, reduceMul]
  rfl
 ·have h4n : ((r1.1 : Int) != 0) = true := by rw [bne, h4]; rfl
  obtain ⟨r5, h6, h⟩ := bi h
  have f7 : ∀ ws new s, JK ws s [0] [List.map AV.p (J0 r1.2)] → (Jj (AF (J2 p)) J4P ([.ptr 0 0], ws) 0 new).run s = some ⟨.p (.s r5.1), ws ++ [(0, .box (List.map AV.p (J0 r5.2)))]⟩ := Jy (args' := [.ptr 0 0]) (bs := [0]) (css := [List.map AV.p (J0 r1.2)]) (css' := [List.map AV.p (J0 r5.2)]) rfl rfl rfl (by simp [Jk, Jb]) (JhK p h6) rfl rfl (by simp [Jk, Jb])
  try simp only [Nf] at f7
  obtain ⟨m8, h9, h⟩ := bi h
  have f10 : J2Z (.p (.s r5.1)) none (some (.p (.i .i64 (Jii ((List.length r5.1 : Nat) : Int) 12)))) = some (.p (.s m8)) := J4b (k := .i64) (lo := none) (hi := (some (Jii ((List.length r5.1 : Nat) : Int) 12))) h9
  try simp only [Nf] at f10
  obtain rfl := sj h
  try simp only [↓Da, Ua, J3q, J7, Jd, Jcc, *, ↓reduceIte, reduceEqDiff, reduceAdd, reduceLT, reduceMul]
  rfl
theorem JhF {b0 : T_pagemenddraw_Codes} {o : Je × T_pagemenddraw_Codes} (h : J4N b0 = some o) : AF (J2 p) J4M [.ptr 0 0] [.box (List.map AV.p (J0 b0))] = Jcb o :=
 (J0f (J2 p) (Jhf p) rfl).trans (Je9 p h)
def Jfx  (r : (List UInt8)) : Option Res := some (.p (.s r), [])
def J2o (x0 : Int) : Option ((List UInt8)) :=
 Option.bind (mkS 1 x0 x0 0) fun m1 =>
 some (toStr m1)
theorem Jhq {x0 : Int} {o : (List UInt8)} (h : J2o x0 = some o) :
  rk (J2 p) J6I 0 [] (X (J2 p) J8t ⟨[(0, .p (.i .i64 x0))], []⟩) = Jfx o := by
 unfold J2o at h
 obtain ⟨m1, h2, h⟩ := bi h
 have f3 : (0 ≤ (x0 : Int) ∧ (x0 : Int) ≤ x0 ∧ ((1 : Nat) : Int) * x0 ≤ 281474976710656 ∧ (x0 : Int) ≤ 281474976710656) = True := eq_true (JaH h2).1
 have f4 : List.replicate (Int.toNat x0) ((r_i .u8) 0) = List.map (r_i .u8) m1 := by rw [(JaH h2).2, List.map_replicate]
 try simp only [Nf] at f4
 obtain rfl := sj h
 try simp only [↓Da, Ua, J8t, Jn8, *, ↓reduceIte, reduceEqDiff, reduceAdd, reduceLT, reduceMul]
 rfl
theorem Jn2 {x0 : Int} {o : (List UInt8)} (h : J2o x0 = some o) : AF (J2 p) J3P [.p (.i .i64 x0)] [] = Jfx o :=
 (J0f (J2 p) (JmT p) rfl).trans (Jhq p h)
theorem Jc1 {x0 : Int} {o : (List UInt8)} (h : J2o x0 = some o) : ∀ ws new st, (Jj (AF (J2 p)) J3P ([.p (.i .i64 x0)], ws) 0 new).run st = some ⟨.p (.s o), ws⟩ := Js rfl (Jn2 p h) rfl
def J8S  (r : Int) : Option Res := some (.p (.i .u32 r), [])
def J8y (x0 : List UInt8) (o : (Int × Int) ⊕ (Int)) : Option Res := match o with
 | .inl s => rk (J2 p) J1e 0 [.bl 0, .sq (.keep [3] J1H)] (X (J2 p) (.lp 0 [0, 3, 4] J1k) ⟨[(0, .p (.s x0)), (3, .p (.i .u32 s.1)), (4, .p (.i .i64 s.2))], []⟩)
 | .inr o => J8S o
def Jfy (x0 : List UInt8) (x4 : Int) (o : (Int × Int) ⊕ (((Int × Int) ⊕ (Int)))) : Option Res := match o with
 | .inl s => rk (J2 p) J1e 0 [.bl 2, .bl 1, .sq (.keep [0, 3, 4] J4X), .lo 0 [0, 3, 4] J1k, .bl 0, .sq (.keep [3] J1H)] (X (J2 p) (.lp 0 [0, 3, 4, 5] J2q) ⟨[(0, .p (.s x0)), (3, .p (.i .u32 s.1)), (4, .p (.i .i64 x4)), (5, .p (.i .i64 s.2))], []⟩)
 | .inr o => (J8y p x0) o
def J8C (x0 : List UInt8) (x3 x4 x5 : Int) : Option (((Int × Int) ⊕ (((Int × Int) ⊕ (Int))))) :=
 some (.inl (x3, (IntKind.wrap .i64 (x5 + 1))))
theorem Jf5 {x0 : List UInt8} {x3 x4 x5 : Int} {o : ((Int × Int) ⊕ (((Int × Int) ⊕ (Int))))} (h : J8C x0 x3 x4 x5 = some o) :
  rk (J2 p) J1e 0 [.lo 0 [0, 3, 4, 5] J2q, .bl 2, .bl 1, .sq (.keep [0, 3, 4] J4X), .lo 0 [0, 3, 4] J1k, .bl 0, .sq (.keep [3] J1H)] (X (J2 p) JbU ⟨[(0, .p (.s x0)), (3, .p (.i .u32 x3)), (4, .p (.i .i64 x4)), (5, .p (.i .i64 x5))], []⟩) = (Jfy p x0 x4) o := by
 unfold J8C at h
 obtain rfl := sj h
 try simp only [↓Da, Ua, JbU, ↓reduceIte, reduceEqDiff, reduceAdd, reduceLT, reduceMul]
 rfl
def Ja8 (x0 : List UInt8) (x3 x4 : Int) : Option (((Int × Int) ⊕ (Int))) :=
 some (.inl (x3, (IntKind.wrap .i64 (x4 + 1))))
theorem Jmv {x0 : List UInt8} {x3 x4 : Int} {o : ((Int × Int) ⊕ (Int))} (h : Ja8 x0 x3 x4 = some o) :
  rk (J2 p) J1e 0 [.lo 0 [0, 3, 4] J1k, .bl 0, .sq (.keep [3] J1H)] (X (J2 p) J4X ⟨[(0, .p (.s x0)), (3, .p (.i .u32 x3)), (4, .p (.i .i64 x4))], []⟩) = (J8y p x0) o := by
 unfold Ja8 at h
 obtain rfl := sj h
 try simp only [↓Da, Ua, J4X, ↓reduceIte, reduceEqDiff, reduceAdd, reduceLT, reduceMul]
 rfl
def J5Q (x0 : List UInt8) (x4 x3 x5 : Int) : Option (((Int × Int) ⊕ (((Int × Int) ⊕ (Int))))) :=
 if (decide (x5 < 8)) then
  if (((J59 .u32 x3 1) : Int) == 1) then
   Option.bind (J8X .u32 x3 1) fun q3 =>
   J8C x0 (J5Z .u32 q3 2197175160) x4 x5
  else
   Option.bind (J8X .u32 x3 1) fun q5 =>
   J8C x0 q5 x4 x5
 else
  Option.map (fun o => .inr o) (Ja8 x0 x3 x4)
theorem JfA {x0 : List UInt8} {x4 x3 x5 : Int} {o : ((Int × Int) ⊕ (((Int × Int) ⊕ (Int))))} (h : J5Q x0 x4 x3 x5 = some o) :
  rk (J2 p) J1e 0 [.lo 0 [0, 3, 4, 5] J2q, .bl 2, .bl 1, .sq (.keep [0, 3, 4] J4X), .lo 0 [0, 3, 4] J1k, .bl 0, .sq (.keep [3] J1H)] (X (J2 p) J2q ⟨[(0, .p (.s x0)), (3, .p (.i .u32 x3)), (4, .p (.i .i64 x4)), (5, .p (.i .i64 x5))], []⟩) = (Jfy p x0 x4) o := by
 unfold J5Q at h
 rcases Ja h with ⟨h1, h⟩ | ⟨h1, h⟩
 ·try simp only [↓Da, Ua, J2q, *, ↓reduceIte, reduceEqDiff, reduceAdd, reduceLT, reduceMul]
  rcases Ja h with ⟨h2, h⟩ | ⟨h2, h⟩
  ·have h2n : (((J59 .u32 x3 1) : Int) != 1) = false := by rw [bne, h2]; rfl
   obtain ⟨q3, h4, h⟩ := bi h
   try simp only [↓Da, Ua, J2q, *, ↓reduceIte, reduceEqDiff, reduceAdd, reduceLT, reduceMul]
   have e0 := Jf5 p h
   exact e0
  ·have h2n : (((J59 .u32 x3 1) : Int) != 1) = true := by rw [bne, h2]; rfl
   obtain ⟨q5, h6, h⟩ := bi h
   try simp only [↓Da, Ua, J2q, *, ↓reduceIte, reduceEqDiff, reduceAdd, reduceLT, reduceMul]
   have e0 := Jf5 p h
   exact e0
 ·obtain ⟨o', h', rfl⟩ := mi h
  try simp only [↓Da, Ua, J2q, *, ↓reduceIte, reduceEqDiff, reduceAdd, reduceLT, reduceMul]
  have e0 := Jmv p h'
  exact e0
def Jf7 (x0 : List UInt8) (x4 : Int) (s : Int × Int) : Option (((Int × Int) ⊕ (Int))) :=
 Jx (fun s => J5Q x0 x4 s.1 s.2) s
theorem Jjq {x0 : List UInt8} {x4 : Int} {s : Int × Int} {o : ((Int × Int) ⊕ (Int))} (h : Jf7 x0 x4 s = some o) :
  rk (J2 p) J1e 0 [.bl 2, .bl 1, .sq (.keep [0, 3, 4] J4X), .lo 0 [0, 3, 4] J1k, .bl 0, .sq (.keep [3] J1H)] (X (J2 p) (.lp 0 [0, 3, 4, 5] J2q) ⟨[(0, .p (.s x0)), (3, .p (.i .u32 s.1)), (4, .p (.i .i64 x4)), (5, .p (.i .i64 s.2))], []⟩) = (J8y p x0) o := by
 have h0 : Jx (fun s => J5Q x0 x4 s.1 s.2) s = some o := h
 exact J0m (P := fun (s : Int × Int) (o : ((Int × Int) ⊕ (Int))) => rk (J2 p) J1e 0 [.bl 2, .bl 1, .sq (.keep [0, 3, 4] J4X), .lo 0 [0, 3, 4] J1k, .bl 0, .sq (.keep [3] J1H)] (X (J2 p) (.lp 0 [0, 3, 4, 5] J2q) ⟨[(0, .p (.s x0)), (3, .p (.i .u32 s.1)), (4, .p (.i .i64 x4)), (5, .p (.i .i64 s.2))], []⟩) = (J8y p x0) o) (fun s r hs => by rw [J0k]; exact JfA p hs) (fun s s1 r hs ih => by rw [J0k]; exact (JfA p hs).trans ih) h0
def Jaa (x3 : Int) : Option (Int) :=
 some (JqK .u32 x3)
theorem JmS {x3 o : Int} (h : Jaa x3 = some o) :
  rk (J2 p) J1e 0 [] (X (J2 p) J1H ⟨[(3, .p (.i .u32 x3))], []⟩) = J8S o := by
 unfold Jaa at h
 obtain rfl := sj h
 try simp only [↓Da, Ua, J1H, JoY, ↓reduceIte, reduceEqDiff, reduceAdd, reduceLT, reduceMul]
 rfl
def J5K (x0 : List UInt8) (x3 x4 : Int) : Option (((Int × Int) ⊕ (Int))) :=
 if (decide (x4 < ((List.length x0 : Nat) : Int))) then
  Option.bind (JcH x0 x4) fun c2 =>
  Jf7 x0 x4 ((J5Z .u32 x3 (IntKind.wrap .u32 c2)), 0)
 else
  Option.map (fun o => .inr o) (Jaa x3)
theorem Jff {x0 : List UInt8} {x3 x4 : Int} {o : ((Int × Int) ⊕ (Int))} (h : J5K x0 x3 x4 = some o) :
  rk (J2 p) J1e 0 [.lo 0 [0, 3, 4] J1k, .bl 0, .sq (.keep [3] J1H)] (X (J2 p) J1k ⟨[(0, .p (.s x0)), (3, .p (.i .u32 x3)), (4, .p (.i .i64 x4))], []⟩) = (J8y p x0) o := by
 unfold J5K at h
 rcases Ja h with ⟨h1, h⟩ | ⟨h1, h⟩
 ·obtain ⟨c2, h3, h⟩ := bi h
  try simp only [↓Da, Ua, J1k, *, ↓reduceIte, reduceEqDiff, reduceAdd, reduceLT, reduceMul]
  have e0 := Jjq p h
  exact e0
 ·obtain ⟨o', h', rfl⟩ := mi h
  try simp only [↓Da, Ua, J1k, *, ↓reduceIte, reduceEqDiff, reduceAdd, reduceLT, reduceMul]
  have e0 := JmS p h'
  exact e0
def JfC (x0 : List UInt8) (s : Int × Int) : Option (Int) :=
 Jx (fun s => J5K x0 s.1 s.2) s
theorem Jkw {x0 : List UInt8} {s : Int × Int} {o : Int} (h : JfC x0 s = some o) :
  rk (J2 p) J1e 0 [.bl 0, .sq (.keep [3] J1H)] (X (J2 p) (.lp 0 [0, 3, 4] J1k) ⟨[(0, .p (.s x0)), (3, .p (.i .u32 s.1)), (4, .p (.i .i64 s.2))], []⟩) = J8S o := by
 have h0 : Jx (fun s => J5K x0 s.1 s.2) s = some o := h
 exact J0m (P := fun (s : Int × Int) (o : Int) => rk (J2 p) J1e 0 [.bl 0, .sq (.keep [3] J1H)] (X (J2 p) (.lp 0 [0, 3, 4] J1k) ⟨[(0, .p (.s x0)), (3, .p (.i .u32 s.1)), (4, .p (.i .i64 s.2))], []⟩) = J8S o) (fun s r hs => by rw [J0k]; exact Jff p hs) (fun s s1 r hs ih => by rw [J0k]; exact (Jff p hs).trans ih) h0
def J7y (x0 : List UInt8) : Option (Int) :=
 JfC x0 (4294967295, 0)
theorem JjA {x0 : List UInt8} {o : Int} (h : J7y x0 = some o) :
  rk (J2 p) J1e 0 [] (X (J2 p) Ja2 ⟨[(0, .p (.s x0))], []⟩) = J8S o := by
 unfold J7y at h
 try simp only [↓Da, Ua, Ja2, ↓reduceIte, reduceEqDiff, reduceAdd, reduceLT, reduceMul]
 have e0 := Jkw p h
 exact e0
theorem Jpb {x0 : List UInt8} {o : Int} (h : J7y x0 = some o) : AF (J2 p) J7v [.p (.s x0)] [] = J8S o :=
 (J0f (J2 p) (Jpe p) rfl).trans (JjA p h)
theorem Ji9 {x0 : List UInt8} {o : Int} (h : J7y x0 = some o) : ∀ ws new st, (Jj (AF (J2 p)) J7v ([.p (.s x0)], ws) 0 new).run st = some ⟨.p (.i .u32 o), ws⟩ := Js rfl (Jpb p h) rfl
end
end Go.Am
end
section
namespace Go.Am
set_option maxRecDepth 8000
set_option maxHeartbeats 4000000
set_option linter.unusedSimpArgs false
set_option linter.unusedVariables false
noncomputable section
variable (p : FuncId → Option (List AV → List Blk → Option Res))
def J7N  (r : Bool) : Option Res := some (.p (.b r), [])
def JkA (x6 : Vector Je 16) (b0 : T_api_Page) (o : (Int) ⊕ (Bool)) : Option Res := match o with
 | .inl s => rk (J2 p) J30 0 [.bl 0, .td 1 [2], .sq (.keep [] J5m)] (X (J2 p) (.lp 1 [1, 6, 7] J0z) ⟨[(1, .ptr 0 0), (6, .data ((J08 Ji) x6)), (7, .p (.i .i64 s))], [.box (List.map AV.p (J5 b0))]⟩)
 | .inr o => J7N o
def J8a  : Option (Bool) :=
 some true
theorem JkR {B0 : List PV} {o : Bool} (h : J8a = some o) :
  rk (J2 p) J30 0 [] (X (J2 p) J5m ⟨[], [.box (List.map AV.p B0)]⟩) = J7N o := by
 unfold J8a at h
 obtain rfl := sj h
 try simp only [↓Da, Ua, J5m, JaI, ↓reduceIte, reduceEqDiff, reduceAdd, reduceLT, reduceMul]
 rfl
def J0n (x6 : Vector Je 16) (b0 : T_api_Page) (x7 : Int) : Option (((Int) ⊕ (Bool))) :=
 if (decide (x7 < 16)) then
  Option.bind (J93 x6 x7) fun y2 =>
  if (decide (((List.length y2.Data : Nat) : Int) > 12)) then
   some (.inr false)
  else
   if y2.Set then
    if ((b0.LSN : Int) == 0) then
     some (.inr false)
    else
     some (.inl (IntKind.wrap .i64 (x7 + 1)))
   else
    if (y2.Data == []) then
     some (.inl (IntKind.wrap .i64 (x7 + 1)))
    else
     some (.inr false)
 else
  Option.map (fun o => .inr o) (J8a)
theorem Jel {x6 : Vector Je 16} {b0 : T_api_Page} {x7 : Int} {o : ((Int) ⊕ (Bool))} (h : J0n x6 b0 x7 = some o) :
  rk (J2 p) J30 0 [.lo 1 [1, 6, 7] J0z, .bl 0, .td 1 [2], .sq (.keep [] J5m)] (X (J2 p) J0z ⟨[(1, .ptr 0 0), (6, .data ((J08 Ji) x6)), (7, .p (.i .i64 x7))], [.box (List.map AV.p (J5 b0))]⟩) = (JkA p x6 b0) o := by
 unfold J0n at h
 rcases Ja h with ⟨h1, h⟩ | ⟨h1, h⟩
 ·obtain ⟨y2, h3, h⟩ := bi h
  have f4 : (0 ≤ (x7 : Int) ∧ (x7 : Int) < ((16 : Nat) : Int)) = True := eq_true (J5k h3).1
  have f5 : sub (J08 Ji x6) (Int.toNat x7 * 2) 2 = some (Ji y2) := J9X JZ (J5k h3).2
  try simp only [Nf] at f5
  try simp only [↓Da, Ua, J0z, J7, J1, J6, *, ↓reduceIte, reduceEqDiff, reduceAdd, reduceLT, reduceMul]
  rcases Ja h with ⟨h6, h⟩ | ⟨h6, h⟩
  ·obtain rfl := sj h
   try simp only [↓Da, Ua, J0z, J7, J1, J6, JaI, *, ↓reduceIte, reduceEqDiff, reduceAdd, reduceLT, reduceMul]
   rfl
  ·try simp only [↓Da, Ua, J0z, J7, J1, J6, *, ↓reduceIte, reduceEqDiff, reduceAdd, reduceLT, reduceMul]
   rcases Ja h with ⟨h7, h⟩ | ⟨h7, h⟩
   ·try simp only [↓Da, Ua, J0z, J7, J1, J6, *, ↓reduceIte, reduceEqDiff, reduceAdd, reduceLT, reduceMul]
    rcases Ja h with ⟨h8, h⟩ | ⟨h8, h⟩
    ·have h8n : ((b0.LSN : Int) != 0) = false := by rw [bne, h8]; rfl
     obtain rfl := sj h
     try simp only [↓Da, Ua, J0z, J7, J1, J6, JaI, *, ↓reduceIte, reduceEqDiff, reduceAdd, reduceLT, reduceMul]
     rfl
    ·have h8n : ((b0.LSN : Int) != 0) = true := by rw [bne, h8]; rfl
     obtain rfl := sj h
     try simp only [↓Da, Ua, J0z, J7, J1, J6, *, ↓reduceIte, reduceEqDiff, reduceAdd, reduceLT, reduceMul]
     rfl
   ·try simp only [↓Da, Ua, J0z, J7, J1, J6, *, ↓reduceIte, reduceEqDiff, reduceAdd, reduceLT, reduceMul]
    rcases Ja h with ⟨h9, h⟩ | ⟨h9, h⟩
    ·obtain rfl := sj h
     try simp only [↓Da, Ua, J0z, J7, J1, J6, *, ↓reduceIte, reduceEqDiff, reduceAdd, reduceLT, reduceMul]
     rfl
    ·obtain rfl := sj h
     try simp only [↓Da, Ua, J0z, J7, J1, J6, JaI, *, ↓reduceIte, reduceEqDiff, reduceAdd, reduceLT, reduceMul]
     rfl
 ·obtain ⟨o', h', rfl⟩ := mi h
  try simp only [↓Da, Ua, J0z, J7, J1, J6, *, ↓reduceIte, reduceEqDiff, reduceAdd, reduceLT, reduceMul]
  have e0 := JkR p (B0 := (J5 b0)) h'
  first | exact e0 | (simp only [*] at e0; exact e0)
def Je6 (x6 : Vector Je 16) (b0 : T_api_Page) (s : Int) : Option (Bool) :=
 Jx (fun s => J0n x6 b0 s) s
theorem Jjc {x6 : Vector Je 16} {b0 : T_api_Page} {s : Int} {o : Bool} (h : Je6 x6 b0 s = some o) :
  rk (J2 p) J30 0 [.bl 0, .td 1 [2], .sq (.keep [] J5m)] (X (J2 p) (.lp 1 [1, 6, 7] J0z) ⟨[(1, .ptr 0 0), (6, .data ((J08 Ji) x6)), (7, .p (.i .i64 s))], [.box (List.map AV.p (J5 b0))]⟩) = J7N o := by
 have h0 : Jx (fun s => J0n x6 b0 s) s = some o := h
 exact J0m (P := fun (s : Int) (o : Bool) => rk (J2 p) J30 0 [.bl 0, .td 1 [2], .sq (.keep [] J5m)] (X (J2 p) (.lp 1 [1, 6, 7] J0z) ⟨[(1, .ptr 0 0), (6, .data ((J08 Ji) x6)), (7, .p (.i .i64 s))], [.box (List.map AV.p (J5 b0))]⟩) = J7N o) (fun s r hs => by rw [J0k]; exact Jel p hs) (fun s s1 r hs ih => by rw [J0k]; exact (Jel p hs).trans ih) h0
def J5s (x0 : T_api_Page) : Option (Bool) :=
 Je6 x0.Cells x0 0
theorem JiZ {x0 : T_api_Page} {o : Bool} (h : J5s x0 = some o) :
  rk (J2 p) J30 0 [] (X (J2 p) J9m ⟨[(0, .data (J5 x0))], []⟩) = J7N o := by
 unfold J5s at h
 try simp only [↓Da, Ua, J9m, J7, J1, J6, ↓reduceIte, reduceEqDiff, reduceAdd, reduceLT, reduceMul]
 have e0 := Jjc p h
 first | exact e0 | (simp only [*] at e0; exact e0)
theorem JoK {x0 : T_api_Page} {o : Bool} (h : J5s x0 = some o) : AF (J2 p) J88 [.data (J5 x0)] [] = J7N o :=
 (J0f (J2 p) (Joh p) rfl).trans (JiZ p h)
theorem Jok {x0 : T_api_Page} {o : Bool} (h : J5s x0 = some o) : ∀ ws new st, (Jj (AF (J2 p)) J88 ([.data (J5 x0)], ws) 0 new).run st = some ⟨.p (.b o), ws⟩ := Js rfl (JoK p h) rfl
def JcV (r : List UInt8) : Option Res := some (.p (.s r), [])
def J40 (x0 : List UInt8) (x1 : Int) : Option (List UInt8) := Jlb x0 x1
theorem Jj2 {x0 : List UInt8} {x1 : Int} {o : List UInt8} (h : J40 x0 x1 = some o) : AF (J2 p) J2i [.p (.s x0), .p (.i .i64 x1)] [] = JcV o := by
 rw [Jh0 (Jil p)]
 have h' : Jlb x0 x1 = some o := h
 simp only [Jnj, h', Option.map_some, JcV]
theorem Jaz {x0 : List UInt8} {x1 : Int} {o : List UInt8} (h : J40 x0 x1 = some o) : ∀ ws new st, (Jj (AF (J2 p)) J2i ([.p (.s x0), .p (.i .i64 x1)], ws) 0 new).run st = some ⟨.p (.s o), ws⟩ := Js rfl (Jj2 p h) rfl
def J0K  (r : Bool) : Option Res := some (.p (.b r), [])
def J9R (x0 x1 : List T_api_Copy) (x12 : Int) (o : (Int) ⊕ (Bool)) : Option Res := match o with
 | .inl s => rk (J2 p) JN 0 [.bl 0, .sq (.keep [] J0l)] (X (J2 p) (.lp 0 [0, 1, 12, 13] JS) ⟨[(0, .p (.sl 3 (List.map J4 x0))), (1, .p (.sl 3 (List.map J4 x1))), (12, .p (.i .i64 x12)), (13, .p (.i .i64 s))], []⟩)
 | .inr o => J0K o
def J3n  : Option (Bool) :=
 some true
theorem J9Q  {o : Bool} (h : J3n = some o) :
  rk (J2 p) JN 0 [] (X (J2 p) J0l ⟨[], []⟩) = J0K o := by
 unfold J3n at h
 obtain rfl := sj h
 try simp only [↓Da, Ua, J0l, J41, ↓reduceIte, reduceEqDiff, reduceAdd, reduceLT, reduceMul]
 rfl
def J0B (x0 x1 : List T_api_Copy) (x12 x13 : Int) : Option (((Int) ⊕ (Bool))) :=
 if (decide (x13 < x12)) then
  Option.bind (idx x0 x13) fun y2 =>
  Option.bind (idx x1 x13) fun y5 =>
  if (y2 == y5) then
   some (.inl (IntKind.wrap .i64 (x13 + 1)))
  else
   some (.inr false)
 else
  Option.map (fun o => .inr o) (J3n)
theorem J63 {x0 x1 : List T_api_Copy} {x12 x13 : Int} {o : ((Int) ⊕ (Bool))} (h : J0B x0 x1 x12 x13 = some o) :
  rk (J2 p) JN 0 [.lo 0 [0, 1, 12, 13] JS, .bl 0, .sq (.keep [] J0l)] (X (J2 p) JS ⟨[(0, .p (.sl 3 (List.map J4 x0))), (1, .p (.sl 3 (List.map J4 x1))), (12, .p (.i .i64 x12)), (13, .p (.i .i64 x13))], []⟩) = (J9R p x0 x1 x12) o := by
 unfold J0B at h
 rcases Ja h with ⟨h1, h⟩ | ⟨h1, h⟩
 ·obtain ⟨y2, h3, h⟩ := bi h
  have f4 := J2e (r := J4) h3
  try simp only [Nf] at f4
  obtain ⟨y5, h6, h⟩ := bi h
  have f7 := J2e (r := J4) h6
  try simp only [Nf] at f7
  try simp only [↓Da, Ua, JS, J8, J1q, *, ↓reduceIte, reduceEqDiff, reduceAdd, reduceLT, reduceMul]
  rcases Ja h with ⟨h9, h⟩ | ⟨h9, h⟩
  ·obtain rfl := sj h
   try simp only [↓Da, Ua, JS, J8, J1q, *, ↓reduceIte, reduceEqDiff, reduceAdd, reduceLT, reduceMul]
   rfl
  ·obtain rfl := sj h
   try simp only [↓Da, Ua, JS, J8, J1q, J41, *, ↓reduceIte, reduceEqDiff, reduceAdd, reduceLT, reduceMul]
   rfl
 ·obtain ⟨o', h', rfl⟩ := mi h
  try simp only [↓Da, Ua, JS, J8, *, ↓reduceIte, reduceEqDiff, reduceAdd, reduceLT, reduceMul]
  have e0 := J9Q p h'
  exact e0
def J3j (x0 x1 : List T_api_Copy) (x12 s : Int) : Option (Bool) :=
 Jx (fun s => J0B x0 x1 x12 s) s
theorem J9l {x0 x1 : List T_api_Copy} {x12 s : Int} {o : Bool} (h : J3j x0 x1 x12 s = some o) :
  rk (J2 p) JN 0 [.bl 0, .sq (.keep [] J0l)] (X (J2 p) (.lp 0 [0, 1, 12, 13] JS) ⟨[(0, .p (.sl 3 (List.map J4 x0))), (1, .p (.sl 3 (List.map J4 x1))), (12, .p (.i .i64 x12)), (13, .p (.i .i64 s))], []⟩) = J0K o := by
 have h0 : Jx (fun s => J0B x0 x1 x12 s) s = some o := h
 exact J0m (P := fun (s : Int) (o : Bool) => rk (J2 p) JN 0 [.bl 0, .sq (.keep [] J0l)] (X (J2 p) (.lp 0 [0, 1, 12, 13] JS) ⟨[(0, .p (.sl 3 (List.map J4 x0))), (1, .p (.sl 3 (List.map J4 x1))), (12, .p (.i .i64 x12)), (13, .p (.i .i64 s))], []⟩) = J0K o) (fun s r hs => by rw [J0k]; exact J63 p hs) (fun s s1 r hs ih => by rw [J0k]; exact (J63 p hs).trans ih) h0
def J0J (x0 x1 : List T_api_Copy) : Option (Bool) :=
 if ((((List.length x0 : Nat) : Int) : Int) != ((List.length x1 : Nat) : Int)) then
  some false
 else
  J3j x0 x1 ((List.length x0 : Nat) : Int) 0
theorem J9b {x0 x1 : List T_api_Copy} {o : Bool} (h : J0J x0 x1 = some o) :
  rk (J2 p) JN 0 [] (X (J2 p) J0M ⟨[(0, .p (.sl 3 (List.map J4 x0))), (1, .p (.sl 3 (List.map J4 x1)))], []⟩) = J0K o := by
 unfold J0J at h
 rcases Ja h with ⟨h1, h⟩ | ⟨h1, h⟩
 ·obtain rfl := sj h
  try simp only [↓Da, Ua, J0M, J8, J41, *, ↓reduceIte, reduceEqDiff, reduceAdd, reduceLT, reduceMul]
  rfl
 ·try simp only [↓Da, Ua, J0M, J8, *, ↓reduceIte, reduceEqDiff, reduceAdd, reduceLT, reduceMul]
  have e0 := J9l p h
  exact e0
theorem JaB {x0 x1 : List T_api_Copy} {o : Bool} (h : J0J x0 x1 = some o) : AF (J2 p) J0L [.p (.sl 3 (List.map J4 x0)), .p (.sl 3 (List.map J4 x1))] [] = J0K o :=
 (J0f (J2 p) (Jap p) rfl).trans (J9b p h)
theorem Jay {x0 x1 : List T_api_Copy} {o : Bool} (h : J0J x0 x1 = some o) : ∀ ws new st, (Jj (AF (J2 p)) J0L ([.p (.sl 3 (List.map J4 x0)), .p (.sl 3 (List.map J4 x1))], ws) 0 new).run st = some ⟨.p (.b o), ws⟩ := Js rfl (JaB p h) rfl
def J1t (x0 : List T_api_Copy) : Option (List T_api_Copy) := if (2 * x0.length + 512) * 32 ≤ 281474976710656 then some x0 else none
theorem Jar {x0 o : List T_api_Copy} (h : J1t x0 = some o) : AF (J2 p) J0O [.p (.sl 3 (List.map J4 x0))] [] = some (.slr 0 0 o.length, [.arr true 3 (List.map J4 o)]) := by
 unfold J1t at h
 split at h
 ·rename_i h2
  injection h with h; subst h
  rw [Jve _ (JaA p)]
  cases x0 with
  | nil => simp [J1r, Jch, Jev, Jbc.af]
  | cons a r =>
   simp at h2
   simp [J1r, Jch, Jev, Jbc.af, h2]
 ·cases h
def J1g (x0 : List T_api_Copy) (x1 : Int) (x2 : List T_api_Copy) : Option (List T_api_Copy) := match x2 with
 | [v] => Jgi 32 x0 x1 v
 | _ => none
theorem J9Y {x0 x2 : List T_api_Copy} {x1 : Int} {o : List T_api_Copy} (h : J1g x0 x1 x2 = some o) : AF (J2 p) J1c [.slr 0 0 (List.length x0), .p (.i .i64 x1), .slr 1 0 (List.length x2)] [.arr true 3 (List.map J4 x0), .arr true 3 (List.map J4 x2)] = some (.slr 0 0 (List.length o), [.arr true 3 (List.map J4 o), .arr true 3 (List.map J4 x2)]) := by
 rw [Jh0 (Ja6 p)]
 unfold J1g at h
 split at h
 ·exact Jvo J4 h
 ·cases h
def Jdm  (r : Bool) : Option Res := some (.p (.b r), [])
def J4D (x0 : T_api_Page) : Option (Bool) :=
 if (decide (x0.ID ≥ 0)) then
  if (decide (x0.ID < 64)) then
   if (decide (x0.LSN ≥ 0)) then
    some (decide (x0.LSN ≤ 1099511627776))
   else
    some false
  else
   some false
 else
  some false
theorem JfE {x0 : T_api_Page} {o : Bool} (h : J4D x0 = some o) :
  rk (J2 p) J5G 0 [] (X (J2 p) J2d ⟨[(0, .data (J5 x0))], []⟩) = Jdm o := by
 unfold J4D at h
 rcases Ja h with ⟨h1, h⟩ | ⟨h1, h⟩
 ·try simp only [↓Da, Ua, J2d, J7, J1, J6, *, ↓reduceIte, reduceEqDiff, reduceAdd, reduceLT, reduceMul]
  rcases Ja h with ⟨h2, h⟩ | ⟨h2, h⟩
  ·try simp only [↓Da, Ua, J2d, J7, J1, J6, *, ↓reduceIte, reduceEqDiff, reduceAdd, reduceLT, reduceMul]
   rcases Ja h with ⟨h3, h⟩ | ⟨h3, h⟩
   ·obtain rfl := sj h
    try simp only [↓Da, Ua, J2d, J7, J1, J6, J98, *, ↓reduceIte, reduceEqDiff, reduceAdd, reduceLT, reduceMul]
    rfl
   ·obtain rfl := sj h
    try simp only [↓Da, Ua, J2d, J7, J1, J6, J98, *, ↓reduceIte, reduceEqDiff, reduceAdd, reduceLT, reduceMul]
    rfl
  ·obtain rfl := sj h
   try simp only [↓Da, Ua, J2d, J7, J1, J6, J98, *, ↓reduceIte, reduceEqDiff, reduceAdd, reduceLT, reduceMul]
   rfl
 ·obtain rfl := sj h
  try simp only [↓Da, Ua, J2d, J7, J1, J6, J98, *, ↓reduceIte, reduceEqDiff, reduceAdd, reduceLT, reduceMul]
  rfl
theorem JjR {x0 : T_api_Page} {o : Bool} (h : J4D x0 = some o) : AF (J2 p) J5D [.data (J5 x0)] [] = Jdm o :=
 (J0f (J2 p) (JjD p) rfl).trans (JfE p h)
theorem Jke {x0 : T_api_Page} {o : Bool} (h : J4D x0 = some o) : ∀ ws new st, (Jj (AF (J2 p)) J5D ([.data (J5 x0)], ws) 0 new).run st = some ⟨.p (.b o), ws⟩ := Js rfl (JjR p h) rfl
def J8E  (r : Int × Int) : Option Res := some (.tup [.p (.i .i64 r.1), .p (.i .i64 r.2)], [])
def Jm8 (x0 : List UInt8) (x1 x2 : Int) (o : (Int × Int) ⊕ (Int × Int)) : Option Res := match o with
 | .inl s => rk (J2 p) J3L 0 [.bl 0, .sq (.keep [8] J60)] (X (J2 p) (.lp 0 [0, 1, 2, 8, 9] J4V) ⟨[(0, .p (.s x0)), (1, .p (.i .i64 x1)), (2, .p (.i .i64 x2)), (8, .p (.i .u64 s.1)), (9, .p (.i .i64 s.2))], []⟩)
 | .inr o => J8E o
def Jai (x8 : Int) : Option (Int × Int) :=
 some ((IntKind.wrap .i64 x8), 0)
theorem Jm9 {x8 : Int} {o : Int × Int} (h : Jai x8 = some o) :
  rk (J2 p) J3L 0 [] (X (J2 p) J60 ⟨[(8, .p (.i .u64 x8))], []⟩) = J8E o := by
 unfold Jai at h
 obtain rfl := sj h
 try simp only [↓Da, Ua, J60, J8T, ↓reduceIte, reduceEqDiff, reduceAdd, reduceLT, reduceMul]
 rfl
def J70 (x0 : List UInt8) (x1 x2 : Int) (x8 x9 : Int) : Option (((Int × Int) ⊕ (Int × Int))) :=
 if (decide (x9 < x2)) then
  Option.bind (JcH x0 (IntKind.wrap .i64 (x1 + x9))) fun c2 =>
  Option.bind (Jgy .u64 (IntKind.wrap .u64 c2) (IntKind.wrap .u64 (IntKind.wrap .i64 (8 * x9)))) fun q4 =>
  some (.inl ((orI .u64 x8 q4), (IntKind.wrap .i64 (x9 + 1))))
 else
  Option.map (fun o => .inr o) (Jai x8)
theorem Jfk {x0 : List UInt8} {x1 x2 : Int} {x8 x9 : Int} {o : ((Int × Int) ⊕ (Int × Int))} (h : J70 x0 x1 x2 x8 x9 = some o) :
  rk (J2 p) J3L 0 [.lo 0 [0, 1, 2, 8, 9] J4V, .bl 0, .sq (.keep [8] J60)] (X (J2 p) J4V ⟨[(0, .p (.s x0)), (1, .p (.i .i64 x1)), (2, .p (.i .i64 x2)), (8, .p (.i .u64 x8)), (9, .p (.i .i64 x9))], []⟩) = (Jm8 p x0 x1 x2) o := by
 unfold J70 at h
 rcases Ja h with ⟨h1, h⟩ | ⟨h1, h⟩
 ·obtain ⟨c2, h3, h⟩ := bi h
  obtain ⟨q4, h5, h⟩ := bi h
  obtain rfl := sj h
  try simp only [↓Da, Ua, J4V, *, ↓reduceIte, reduceEqDiff, reduceAdd, reduceLT, reduceMul]
  rfl
 ·obtain ⟨o', h', rfl⟩ := mi h
  try simp only [↓Da, Ua, J4V, *, ↓reduceIte, reduceEqDiff, reduceAdd, reduceLT, reduceMul]
  have e0 := Jm9 p h'
  exact e0
def JbV (x0 : List UInt8) (x1 x2 : Int) (s : Int × Int) : Option (Int × Int) :=
 Jx (fun s => J70 x0 x1 x2 s.1 s.2) s
theorem Jjr {x0 : List UInt8} {x1 x2 : Int} {s o : Int × Int} (h : JbV x0 x1 x2 s = some o) :
  rk (J2 p) J3L 0 [.bl 0, .sq (.keep [8] J60)] (X (J2 p) (.lp 0 [0, 1, 2, 8, 9] J4V) ⟨[(0, .p (.s x0)), (1, .p (.i .i64 x1)), (2, .p (.i .i64 x2)), (8, .p (.i .u64 s.1)), (9, .p (.i .i64 s.2))], []⟩) = J8E o := by
 have h0 : Jx (fun s => J70 x0 x1 x2 s.1 s.2) s = some o := h
 exact J0m (P := fun (s : Int × Int) (o : Int × Int) => rk (J2 p) J3L 0 [.bl 0, .sq (.keep [8] J60)] (X (J2 p) (.lp 0 [0, 1, 2, 8, 9] J4V) ⟨[(0, .p (.s x0)), (1, .p (.i .i64 x1)), (2, .p (.i .i64 x2)), (8, .p (.i .u64 s.1)), (9, .p (.i .i64 s.2))], []⟩) = J8E o) (fun s r hs => by rw [J0k]; exact Jfk p hs) (fun s s1 r hs ih => by rw [J0k]; exact (Jfk p hs).trans ih) h0
def J36 (x0 : List UInt8) (x1 x2 : Int) : Option (Int × Int) :=
 if (decide (x2 < 1)) then
  some (0, 1)
 else
  if (decide (x2 > 8)) then
   some (0, 1)
  else
   if (decide (x1 < 0)) then
    some (0, 1)
   else
    if (decide (x1 > ((List.length x0 : Nat) : Int))) then
     some (0, 5)
    else
     if (decide ((IntKind.wrap .i64 (((List.length x0 : Nat) : Int) - x1)) < x2)) then
      some (0, 5)
     else
      JbV x0 x1 x2 (0, 0)
theorem Jjk {x0 : List UInt8} {x1 x2 : Int} {o : Int × Int} (h : J36 x0 x1 x2 = some o) :
  rk (J2 p) J3L 0 [] (X (J2 p) J2a ⟨[(0, .p (.s x0)), (1, .p (.i .i64 x1)), (2, .p (.i .i64 x2))], []⟩) = J8E o := by
 unfold J36 at h
 rcases Ja h with ⟨h1, h⟩ | ⟨h1, h⟩
 ·obtain rfl := sj h
  try simp only [↓Da, Ua, J2a, J8T, *, ↓reduceIte, reduceEqDiff, reduceAdd, reduceLT, reduceMul]
  rfl
 ·try simp only [↓Da, Ua, J2a, *, ↓reduceIte, reduceEqDiff, reduceAdd, reduceLT, reduceMul]
  rcases Ja h with ⟨h2, h⟩ | ⟨h2, h⟩
  ·obtain rfl := sj h
   try simp only [↓Da, Ua, J2a, J8T, *, ↓reduceIte, reduceEqDiff, reduceAdd, reduceLT, reduceMul]
   rfl
  ·try simp only [↓Da, Ua, J2a, *, ↓reduceIte, reduceEqDiff, reduceAdd, reduceLT, reduceMul]
   rcases Ja h with ⟨h3, h⟩ | ⟨h3, h⟩
   ·obtain rfl := sj h
    try simp only [↓Da, Ua, J2a, J8T, *, ↓reduceIte, reduceEqDiff, reduceAdd, reduceLT, reduceMul]
    rfl
   ·try simp only [↓Da, Ua, J2a, *, ↓reduceIte, reduceEqDiff, reduceAdd, reduceLT, reduceMul]
    rcases Ja h with ⟨h4, h⟩ | ⟨h4, h⟩
    ·obtain rfl := sj h
     try simp only [↓Da, Ua, J2a, J8T, *, ↓reduceIte, reduceEqDiff, reduceAdd, reduceLT, reduceMul]
     rfl
    ·try simp only [↓Da, Ua, J2a, *, ↓reduceIte, reduceEqDiff, reduceAdd, reduceLT, reduceMul]
     rcases Ja h with ⟨h5, h⟩ | ⟨h5, h⟩
     ·obtain rfl := sj h
      try simp only [↓Da, Ua, J2a, J8T, *, ↓reduceIte, reduceEqDiff, reduceAdd, reduceLT, reduceMul]
      rfl
     ·try simp only [↓Da, Ua, J2a, *, ↓reduceIte, reduceEqDiff, reduceAdd, reduceLT, reduceMul]
      have e0 := Jjr p h
      exact e0
theorem Jpg {x0 : List UInt8} {x1 x2 : Int} {o : Int × Int} (h : J36 x0 x1 x2 = some o) : AF (J2 p) J6g [.p (.s x0), .p (.i .i64 x1), .p (.i .i64 x2)] [] = J8E o :=
 (J0f (J2 p) (Jpl p) rfl).trans (Jjk p h)
theorem JdP {x0 : List UInt8} {x1 x2 : Int} {o : Int × Int} (h : J36 x0 x1 x2 = some o) : ∀ ws new st, (Jj (AF (J2 p)) J6g ([.p (.s x0), .p (.i .i64 x1), .p (.i .i64 x2)], ws) 0 new).run st = some ⟨.tup [.p (.i .i64 o.1), .p (.i .i64 o.2)], ws⟩ := Js rfl (Jpg p h) rfl
def JhS  (r : T_api_Page) : Option Res := some (.data (J5 r), [])
def J8F (x0 : Int) : Option (T_api_Page) :=
 some (⟨x0, 0, (Vector.replicate 16 (⟨false, []⟩ : Je))⟩ : T_api_Page)
theorem Jjm {x0 : Int} {o : T_api_Page} (h : J8F x0 = some o) :
  rk (J2 p) J8I 0 [] (X (J2 p) Ja7 ⟨[(0, .p (.i .i64 x0))], []⟩) = JhS o := by
 unfold J8F at h
 obtain rfl := sj h
 try simp only [↓Da, Ua, Ja7, J7, J1, J6, Jp1, ↓reduceIte, reduceEqDiff, reduceAdd, reduceLT, reduceMul]
 rfl
theorem JpH {x0 : Int} {o : T_api_Page} (h : J8F x0 = some o) : AF (J2 p) J8U [.p (.i .i64 x0)] [] = JhS o :=
 (J0f (J2 p) (Jp5 p) rfl).trans (Jjm p h)
theorem Jpo {x0 : Int} {o : T_api_Page} (h : J8F x0 = some o) : ∀ ws new st, (Jj (AF (J2 p)) J8U ([.p (.i .i64 x0)], ws) 0 new).run st = some ⟨.data (J5 o), ws⟩ := Js rfl (JpH p h) rfl
def JgA  (r : Bool) : Option Res := some (.p (.b r), [])
def J1I (x0 : Int) : Option (Bool) :=
 if (decide (x0 ≥ 0)) then
  some (decide (x0 < 64))
 else
  some false
theorem Jit {x0 : Int} {o : Bool} (h : J1I x0 = some o) :
  rk (J2 p) J81 0 [] (X (J2 p) J82 ⟨[(0, .p (.i .i64 x0))], []⟩) = JgA o := by
 unfold J1I at h
 rcases Ja h with ⟨h1, h⟩ | ⟨h1, h⟩
 ·obtain rfl := sj h
  try simp only [↓Da, Ua, J82, Jgm, *, ↓reduceIte, reduceEqDiff, reduceAdd, reduceLT, reduceMul]
  rfl
 ·obtain rfl := sj h
  try simp only [↓Da, Ua, J82, Jgm, *, ↓reduceIte, reduceEqDiff, reduceAdd, reduceLT, reduceMul]
  rfl
theorem Jnr {x0 : Int} {o : Bool} (h : J1I x0 = some o) : AF (J2 p) J6r [.p (.i .i64 x0)] [] = JgA o :=
 (J0f (J2 p) (Jo5 p) rfl).trans (Jit p h)
theorem JgD {x0 : Int} {o : Bool} (h : J1I x0 = some o) : ∀ ws new st, (Jj (AF (J2 p)) J6r ([.p (.i .i64 x0)], ws) 0 new).run st = some ⟨.p (.b o), ws⟩ := Js rfl (Jnr p h) rfl
def Jkl  (r : T_api_Page) : Option Res := some (.data (J5 r), [])
def J9K (x0 : Int) : Option (T_api_Page) :=
 some (⟨x0, 0, (Vector.replicate 16 (⟨false, []⟩ : Je))⟩ : T_api_Page)
theorem JkF {x0 : Int} {o : T_api_Page} (h : J9K x0 = some o) :
  rk (J2 p) J9M 0 [] (X (J2 p) Jb6 ⟨[(0, .p (.i .i64 x0))], []⟩) = Jkl o := by
 unfold J9K at h
 obtain rfl := sj h
 try simp only [↓Da, Ua, Jb6, J7, J1, J6, JqQ, ↓reduceIte, reduceEqDiff, reduceAdd, reduceLT, reduceMul]
 rfl
theorem Jr0 {x0 : Int} {o : T_api_Page} (h : J9K x0 = some o) : AF (J2 p) J9G [.p (.i .i64 x0)] [] = Jkl o :=
 (J0f (J2 p) (Jr2 p) rfl).trans (JkF p h)
theorem Jr9 {x0 : Int} {o : T_api_Page} (h : J9K x0 = some o) : ∀ ws new st, (Jj (AF (J2 p)) J9G ([.p (.i .i64 x0)], ws) 0 new).run st = some ⟨.data (J5 o), ws⟩ := Js rfl (Jr0 p h) rfl
def J4c  (r : (Vector Int 16)) : Option Res := some (.data ((J08 (r_i .u32)) r), [])
def J3g (b0 : Vector Int 16) (o : (Int × (Vector Int 16)) ⊕ ((Vector Int 16))) : Option Res := match o with
 | .inl s => rk (J2 p) J05 0 [.bl 0, .sq (.keep [0, 1] J0i)] (X (J2 p) (.lp 2 [0, 1, 4] J0d) ⟨[(0, .ptr 0 0), (1, .ptr 1 0), (4, .p (.i .i64 s.1))], [.box (List.map AV.p ((J08 (r_i .u32)) b0)), .box (List.map AV.p ((J08 (r_i .u32)) s.2))]⟩)
 | .inr o => J4c o
def Jey (x2 x4 : Int) (b0 b1 : Vector Int 16) (o : (Int × Int) ⊕ (((Int × (Vector Int 16)) ⊕ ((Vector Int 16))))) : Option Res := match o with
 | .inl s => rk (J2 p) J05 0 [.bl 2, .sq (.keep [0, 1, 2, 3, 4] J2j), .bl 1, .sq (.keep [0, 1, 4] J1J), .lo 2 [0, 1, 4] J0d, .bl 0, .sq (.keep [0, 1] J0i)] (X (J2 p) (.lp 2 [0, 1, 2, 3, 4, 9] J0U) ⟨[(0, .ptr 0 0), (1, .ptr 1 0), (2, .p (.i .i64 x2)), (3, .p (.i .u32 s.1)), (4, .p (.i .i64 x4)), (9, .p (.i .i64 s.2))], [.box (List.map AV.p ((J08 (r_i .u32)) b0)), .box (List.map AV.p ((J08 (r_i .u32)) b1))]⟩)
 | .inr o => (J3g p b0) o
def J4B (x4 : Int) (b0 b1 : Vector Int 16) : Option (((Int × (Vector Int 16)) ⊕ ((Vector Int 16)))) :=
 some (.inl ((IntKind.wrap .i64 (x4 + 1)), b1))
theorem JeY {x4 : Int} {b0 b1 : Vector Int 16} {o : ((Int × (Vector Int 16)) ⊕ ((Vector Int 16)))} (h : J4B x4 b0 b1 = some o) :
  rk (J2 p) J05 0 [.lo 2 [0, 1, 4] J0d, .bl 0, .sq (.keep [0, 1] J0i)] (X (J2 p) J1J ⟨[(0, .ptr 0 0), (1, .ptr 1 0), (4, .p (.i .i64 x4))], [.box (List.map AV.p ((J08 (r_i .u32)) b0)), .box (List.map AV.p ((J08 (r_i .u32)) b1))]⟩) = (J3g p b0) o := by
 unfold J4B at h
 obtain rfl := sj h
 try simp only [↓Da, Ua, J1J, ↓reduceIte, reduceEqDiff, reduceAdd, reduceLT, reduceMul]
 rfl
def J4u (x2 x3 x4 : Int) (b0 b1 : Vector Int 16) : Option (((Int × (Vector Int 16)) ⊕ ((Vector Int 16)))) :=
 Option.bind (inb 16 x2) fun u1 =>
 Option.bind (J93 b1 x2) fun y4 =>
 J4B x4 b0 (Jao b1 x2 x3)
theorem JeB {x2 x3 x4 : Int} {b0 b1 : Vector Int 16} {o : ((Int × (Vector Int 16)) ⊕ ((Vector Int 16)))} (h : J4u x2 x3 x4 b0 b1 = some o) :
  rk (J2 p) J05 0 [.bl 1, .sq (.keep [0, 1, 4] J1J), .lo 2 [0, 1, 4] J0d, .bl 0, .sq (.keep [0, 1] J0i)] (X (J2 p) J2j ⟨[(0, .ptr 0 0), (1, .ptr 1 0), (2, .p (.i .i64 x2)), (3, .p (.i .u32 x3)), (4, .p (.i .i64 x4))], [.box (List.map AV.p ((J08 (r_i .u32)) b0)), .box (List.map AV.p ((J08 (r_i .u32)) b1))]⟩) = (J3g p b0) o := by
 unfold J4u at h
 obtain ⟨u1, h2, h⟩ := bi h
 have f3 : (0 ≤ (x2 : Int) ∧ (x2 : Int) < ((16 : Nat) : Int)) = True := eq_true (J9A h2)
 obtain ⟨y4, h5, h⟩ := bi h
 have f6 : spl ((J08 (r_i .u32)) b1) (Int.toNat x2 * 1) ((r_i .u32) x3) = some ((J08 (r_i .u32)) (Jao b1 x2 x3)) := by
  have e0 := (JjT (v := b1) (Jbr .u32) (JgW h5) x3)
  exact e0
 try simp only [Nf] at f6
 try simp only [↓Da, Ua, J2j, *, ↓reduceIte, reduceEqDiff, reduceAdd, reduceLT, reduceMul]
 have e0 := JeY p h
 exact e0
def J0y (x2 x4 : Int) (b0 b1 : Vector Int 16) (x3 x9 : Int) : Option (((Int × Int) ⊕ (((Int × (Vector Int 16)) ⊕ ((Vector Int 16)))))) :=
 if (decide (x9 < 4)) then
  if (((J59 .u32 x3 1) : Int) == 1) then
   Option.bind (J8X .u32 x3 1) fun q3 =>
   some (.inl ((J5Z .u32 q3 2197175160), (IntKind.wrap .i64 (x9 + 1))))
  else
   Option.bind (J8X .u32 x3 1) fun q5 =>
   some (.inl (q5, (IntKind.wrap .i64 (x9 + 1))))
 else
  Option.map (fun o => .inr o) (J4u x2 x3 x4 b0 b1)
theorem JaJ {x2 x4 : Int} {b0 b1 : Vector Int 16} {x3 x9 : Int} {o : ((Int × Int) ⊕ (((Int × (Vector Int 16)) ⊕ ((Vector Int 16)))))} (h : J0y x2 x4 b0 b1 x3 x9 = some o) :
  rk (J2 p) J05 0 [.lo 2 [0, 1, 2, 3, 4, 9] J0U, .bl 2, .sq (.keep [0, 1, 2, 3, 4] J2j), .bl 1, .sq (.keep [0, 1, 4] J1J), .lo 2 [0, 1, 4] J0d, .bl 0, .sq (.keep [0, 1] J0i)] (X (J2 p) J0U ⟨[(0, .ptr 0 0), (1, .ptr 1 0), (2, .p (.i .i64 x2)), (3, .p (.i .u32 x3)), (4, .p (.i .i64 x4)), (9, .p (.i .i64 x9))], [.box (List.map AV.p ((J08 (r_i .u32)) b0)), .box (List.map AV.p ((J08 (r_i .u32)) b1))]⟩) = (Jey p x2 x4 b0 b1) o := by
 unfold J0y at h
 rcases Ja h with ⟨h1, h⟩ | ⟨h1, h⟩
 ·try simp only [↓Da, Ua, J0U, *, ↓reduceIte, reduceEqDiff, reduceAdd, reduceLT, reduceMul]
  rcases Ja h with ⟨h2, h⟩ | ⟨h2, h⟩
  ·have h2n : (((J59 .u32 x3 1) : Int) != 1) = false := by rw [bne, h2]; rfl
   obtain ⟨q3, h4, h⟩ := bi h
   obtain rfl := sj h
   try simp only [↓Da, Ua, J0U, *, ↓reduceIte, reduceEqDiff, reduceAdd, reduceLT, reduceMul]
   rfl
  ·have h2n : (((J59 .u32 x3 1) : Int) != 1) = true := by rw [bne, h2]; rfl
   obtain ⟨q5, h6, h⟩ := bi h
   obtain rfl := sj h
   try simp only [↓Da, Ua, J0U, *, ↓reduceIte, reduceEqDiff, reduceAdd, reduceLT, reduceMul]
   rfl
 ·obtain ⟨o', h', rfl⟩ := mi h
  try simp only [↓Da, Ua, J0U, *, ↓reduceIte, reduceEqDiff, reduceAdd, reduceLT, reduceMul]
  have e0 := JeB p h'
  exact e0
def J8m (x2 x4 : Int) (b0 b1 : Vector Int 16) (s : Int × Int) : Option (((Int × (Vector Int 16)) ⊕ ((Vector Int 16)))) :=
 Jx (fun s => J0y x2 x4 b0 b1 s.1 s.2) s
theorem JdH {x2 x4 : Int} {b0 b1 : Vector Int 16} {s : Int × Int} {o : ((Int × (Vector Int 16)) ⊕ ((Vector Int 16)))} (h : J8m x2 x4 b0 b1 s = some o) :
  rk (J2 p) J05 0 [.bl 2, .sq (.keep [0, 1, 2, 3, 4] J2j), .bl 1, .sq (.keep [0, 1, 4] J1J), .lo 2 [0, 1, 4] J0d, .bl 0, .sq (.keep [0, 1] J0i)] (X (J2 p) (.lp 2 [0, 1, 2, 3, 4, 9] J0U) ⟨[(0, .ptr 0 0), (1, .ptr 1 0), (2, .p (.i .i64 x2)), (3, .p (.i .u32 s.1)), (4, .p (.i .i64 x4)), (9, .p (.i .i64 s.2))], [.box (List.map AV.p ((J08 (r_i .u32)) b0)), .box (List.map AV.p ((J08 (r_i .u32)) b1))]⟩) = (J3g p b0) o := by
 have h0 : Jx (fun s => J0y x2 x4 b0 b1 s.1 s.2) s = some o := h
 exact J0m (P := fun (s : Int × Int) (o : ((Int × (Vector Int 16)) ⊕ ((Vector Int 16)))) => rk (J2 p) J05 0 [.bl 2, .sq (.keep [0, 1, 2, 3, 4] J2j), .bl 1, .sq (.keep [0, 1, 4] J1J), .lo 2 [0, 1, 4] J0d, .bl 0, .sq (.keep [0, 1] J0i)] (X (J2 p) (.lp 2 [0, 1, 2, 3, 4, 9] J0U) ⟨[(0, .ptr 0 0), (1, .ptr 1 0), (2, .p (.i .i64 x2)), (3, .p (.i .u32 s.1)), (4, .p (.i .i64 x4)), (9, .p (.i .i64 s.2))], [.box (List.map AV.p ((J08 (r_i .u32)) b0)), .box (List.map AV.p ((J08 (r_i .u32)) b1))]⟩) = (J3g p b0) o) (fun s r hs => by rw [J0k]; exact JaJ p hs) (fun s s1 r hs ih => by rw [J0k]; exact (JaJ p hs).trans ih) h0
def J4F (b0 b1 : Vector Int 16) : Option ((Vector Int 16)) :=
 some b1
theorem JeM {b0 b1 : Vector Int 16} {o : (Vector Int 16)} (h : J4F b0 b1 = some o) :
  rk (J2 p) J05 0 [] (X (J2 p) J0i ⟨[(0, .ptr 0 0), (1, .ptr 1 0)], [.box (List.map AV.p ((J08 (r_i .u32)) b0)), .box (List.map AV.p ((J08 (r_i .u32)) b1))]⟩) = J4c o := by
 unfold J4F at h
 obtain rfl := sj h
 try simp only [↓Da, Ua, J0i, J7r, Jgk, ↓reduceIte, reduceEqDiff, reduceAdd, reduceLT, reduceMul]
 rfl
def J0Y (b0 : Vector Int 16) (x4 : Int) (b1 : Vector Int 16) : Option (((Int × (Vector Int 16)) ⊕ ((Vector Int 16)))) :=
 if (decide (x4 < 16)) then
  J8m x4 x4 b0 b1 ((IntKind.wrap .u32 x4), 0)
 else
  Option.map (fun o => .inr o) (J4F b0 b1)
theorem JaW {b0 : Vector Int 16} {x4 : Int} {b1 : Vector Int 16} {o : ((Int × (Vector Int 16)) ⊕ ((Vector Int 16)))} (h : J0Y b0 x4 b1 = some o) :
  rk (J2 p) J05 0 [.lo 2 [0, 1, 4] J0d, .bl 0, .sq (.keep [0, 1] J0i)] (X (J2 p) J0d ⟨[(0, .ptr 0 0), (1, .ptr 1 0), (4, .p (.i .i64 x4))], [.box (List.map AV.p ((J08 (r_i .u32)) b0)), .box (List.map AV.p ((J08 (r_i .u32)) b1))]⟩) = (J3g p b0) o := by
 unfold J0Y at h
 rcases Ja h with ⟨h1, h⟩ | ⟨h1, h⟩
 ·try simp only [↓Da, Ua, J0d, *, ↓reduceIte, reduceEqDiff, reduceAdd, reduceLT, reduceMul]
  have e0 := JdH p h
  exact e0
 ·obtain ⟨o', h', rfl⟩ := mi h
  try simp only [↓Da, Ua, J0d, *, ↓reduceIte, reduceEqDiff, reduceAdd, reduceLT, reduceMul]
  have e0 := JeM p h'
  exact e0
def JaR (b0 : Vector Int 16) (s : Int × (Vector Int 16)) : Option ((Vector Int 16)) :=
 Jx (fun s => J0Y b0 s.1 s.2) s
theorem JdI {b0 : Vector Int 16} {s : Int × (Vector Int 16)} {o : (Vector Int 16)} (h : JaR b0 s = some o) :
  rk (J2 p) J05 0 [.bl 0, .sq (.keep [0, 1] J0i)] (X (J2 p) (.lp 2 [0, 1, 4] J0d) ⟨[(0, .ptr 0 0), (1, .ptr 1 0), (4, .p (.i .i64 s.1))], [.box (List.map AV.p ((J08 (r_i .u32)) b0)), .box (List.map AV.p ((J08 (r_i .u32)) s.2))]⟩) = J4c o := by
 have h0 : Jx (fun s => J0Y b0 s.1 s.2) s = some o := h
 exact J0m (P := fun (s : Int × (Vector Int 16)) (o : (Vector Int 16)) => rk (J2 p) J05 0 [.bl 0, .sq (.keep [0, 1] J0i)] (X (J2 p) (.lp 2 [0, 1, 4] J0d) ⟨[(0, .ptr 0 0), (1, .ptr 1 0), (4, .p (.i .i64 s.1))], [.box (List.map AV.p ((J08 (r_i .u32)) b0)), .box (List.map AV.p ((J08 (r_i .u32)) s.2))]⟩) = J4c o) (fun s r hs => by rw [J0k]; exact JaW p hs) (fun s s1 r hs ih => by rw [J0k]; exact (JaW p hs).trans ih) h0
def J2Q  : Option ((Vector Int 16)) :=
 JaR (Vector.replicate 16 0) (0, (Vector.replicate 16 0))
theorem JdN  {o : (Vector Int 16)} (h : J2Q = some o) :
  rk (J2 p) J05 0 [] (X (J2 p) J5B ⟨[], []⟩) = J4c o := by
 unfold J2Q at h
 try simp only [↓Da, Ua, J5B, J7r, ↓reduceIte, reduceEqDiff, reduceAdd, reduceLT, reduceMul]
 have e0 := JdI p h
 exact e0
theorem Jg3  {o : (Vector Int 16)} (h : J2Q = some o) : AF (J2 p) J49 [] [] = J4c o :=
 (J0f (J2 p) (JfQ p) rfl).trans (JdN p h)
theorem JgB  {o : (Vector Int 16)} (h : J2Q = some o) : ∀ ws new st, (Jj (AF (J2 p)) J49 ([], ws) 0 new).run st = some ⟨.data ((J08 (r_i .u32)) o), ws⟩ := Js rfl (Jg3 p h) rfl
def Jd6  (r : Int) : Option Res := some (.p (.i .i64 r), [])
def J2Y (x0 : T_api_Copy) (x1 : Int) : Option (Int) :=
 some (IntKind.wrap .i64 (x0.Page - x1))
theorem JeF {x0 : T_api_Copy} {x1 o : Int} (h : J2Y x0 x1 = some o) :
  rk (J2 p) J5f 0 [] (X (J2 p) J6A ⟨[(0, .data (J4 x0)), (1, .p (.i .i64 x1))], []⟩) = Jd6 o := by
 unfold J2Y at h
 obtain rfl := sj h
 try simp only [↓Da, Ua, J6A, J8, Jiq, ↓reduceIte, reduceEqDiff, reduceAdd, reduceLT, reduceMul]
 rfl
theorem Jib {x0 : T_api_Copy} {x1 o : Int} (h : J2Y x0 x1 = some o) : AF (J2 p) J0o [.data (J4 x0), .p (.i .i64 x1)] [] = Jd6 o :=
 (J0f (J2 p) (JiO p) rfl).trans (JeF p h)
theorem Jd5 {x0 : T_api_Copy} {x1 o : Int} (h : J2Y x0 x1 = some o) : ∀ ws new st, (Jj (AF (J2 p)) J0o ([.data (J4 x0), .p (.i .i64 x1)], ws) 0 new).run st = some ⟨.p (.i .i64 o), ws⟩ := Js rfl (Jib p h) rfl
def Jcd  (r : Bool) : Option Res := some (.p (.b r), [])
def J0C (x0 : Je) : Option (Bool) :=
 if (decide (((List.length x0.Data : Nat) : Int) ≤ 12)) then
  if x0.Set then
   some true
  else
   some (x0.Data == [])
 else
  some false
theorem Jeh {x0 : Je} {o : Bool} (h : J0C x0 = some o) :
  rk (J2 p) J4H 0 [] (X (J2 p) J2C ⟨[(0, .data (Ji x0))], []⟩) = Jcd o := by
 unfold J0C at h
 rcases Ja h with ⟨h1, h⟩ | ⟨h1, h⟩
 ·try simp only [↓Da, Ua, J2C, J7, *, ↓reduceIte, reduceEqDiff, reduceAdd, reduceLT, reduceMul]
  rcases Ja h with ⟨h2, h⟩ | ⟨h2, h⟩
  ·obtain rfl := sj h
   try simp only [↓Da, Ua, J2C, J7, J9T, *, ↓reduceIte, reduceEqDiff, reduceAdd, reduceLT, reduceMul]
   rfl
  ·obtain rfl := sj h
   try simp only [↓Da, Ua, J2C, J7, J9T, *, ↓reduceIte, reduceEqDiff, reduceAdd, reduceLT, reduceMul]
   rfl
 ·obtain rfl := sj h
  try simp only [↓Da, Ua, J2C, J7, J9T, *, ↓reduceIte, reduceEqDiff, reduceAdd, reduceLT, reduceMul]
  rfl
theorem JhJ {x0 : Je} {o : Bool} (h : J0C x0 = some o) : AF (J2 p) J4K [.data (Ji x0)] [] = Jcd o :=
 (J0f (J2 p) (JhG p) rfl).trans (Jeh p h)
theorem Jhh {x0 : Je} {o : Bool} (h : J0C x0 = some o) : ∀ ws new st, (Jj (AF (J2 p)) J4K ([.data (Ji x0)], ws) 0 new).run st = some ⟨.p (.b o), ws⟩ := Js rfl (JhJ p h) rfl
def Jfu  (r : Int) : Option Res := some (.p (.i .i64 r), [])
def JY (x0 : List UInt8) (x1 x2 : Int) : Option (Int) :=
 Option.bind (J16 x0 x1 x2) fun r1 =>
 some r1.1
theorem JhD {x0 : List UInt8} {x1 x2 o : Int} (h : JY x0 x1 x2 = some o) :
  rk (J2 p) J6U 0 [] (X (J2 p) J8D ⟨[(0, .p (.s x0)), (1, .p (.i .i64 x1)), (2, .p (.i .i64 x2))], []⟩) = Jfu o := by
 unfold JY at h
 obtain ⟨r1, h2, h⟩ := bi h
 have f3 := Jpc p h2
 try simp only [Nf] at f3
 obtain rfl := sj h
 try simp only [↓Da, Ua, J8D, JmZ, *, ↓reduceIte, reduceEqDiff, reduceAdd, reduceLT, reduceMul]
 rfl
theorem Jm7 {x0 : List UInt8} {x1 x2 o : Int} (h : JY x0 x1 x2 = some o) : AF (J2 p) J3U [.p (.s x0), .p (.i .i64 x1), .p (.i .i64 x2)] [] = Jfu o :=
 (J0f (J2 p) (Jmo p) rfl).trans (JhD p h)
theorem Jal {x0 : List UInt8} {x1 x2 o : Int} (h : JY x0 x1 x2 = some o) : ∀ ws new st, (Jj (AF (J2 p)) J3U ([.p (.s x0), .p (.i .i64 x1), .p (.i .i64 x2)], ws) 0 new).run st = some ⟨.p (.i .i64 o), ws⟩ := Js rfl (Jm7 p h) rfl
def J8N  (r : T_api_Page × Bool) : Option Res := some (.tup [.data (J5 r.1), .p (.b r.2)], [])
def Jmq (x0 : List UInt8) (b0 : T_api_Page) (o : (Int × T_api_Page) ⊕ (T_api_Page × Bool)) : Option Res := match o with
 | .inl s => rk (J2 p) J3G 0 [.bl 0, .sq (.keep [2, 4] J5U)] (X (J2 p) (.lp 2 [0, 2, 4, 13] J20) ⟨[(0, .p (.s x0)), (2, .ptr 0 0), (4, .ptr 1 0), (13, .p (.i .i64 s.1))], [.box (List.map AV.p (J5 b0)), .box (List.map AV.p (J5 s.2))]⟩)
 | .inr o => J8N o
def J78 (b0 b1 : T_api_Page) : Option (T_api_Page × Bool) :=
 some (b1, true)
theorem Jmh {b0 b1 : T_api_Page} {o : T_api_Page × Bool} (h : J78 b0 b1 = some o) :
  rk (J2 p) J3G 0 [] (X (J2 p) J5U ⟨[(2, .ptr 0 0), (4, .ptr 1 0)], [.box (List.map AV.p (J5 b0)), .box (List.map AV.p (J5 b1))]⟩) = J8N o := by
 unfold J78 at h
 obtain rfl := sj h
 try simp only [↓Da, Ua, J5U, J7, J1, J6, JhY, ↓reduceIte, reduceEqDiff, reduceAdd, reduceLT, reduceMul]
 rfl
def J1p (x0 : List UInt8) (b0 : T_api_Page) (x13 : Int) (b1 : T_api_Page) : Option (((Int × T_api_Page) ⊕ (T_api_Page × Bool))) :=
 if (decide (x13 < 16)) then
  Option.bind (JY x0 (IntKind.wrap .i64 (12 + (IntKind.wrap .i64 (x13 * 13)))) 1) fun r2 =>
  if ((r2 : Int) == 255) then
   some (.inl ((IntKind.wrap .i64 (x13 + 1)), b1))
  else
   if (decide (r2 > 12)) then
    some (.inr ((⟨0, 0, (Vector.replicate 16 (⟨false, []⟩ : Je))⟩ : T_api_Page), false))
   else
    Option.bind (J2U x0 (some (IntKind.wrap .i64 ((IntKind.wrap .i64 (12 + (IntKind.wrap .i64 (x13 * 13)))) + 1))) (some (IntKind.wrap .i64 ((IntKind.wrap .i64 ((IntKind.wrap .i64 (12 + (IntKind.wrap .i64 (x13 * 13)))) + 1)) + r2)))) fun m7 =>
    Option.bind (inb 16 x13) fun u10 =>
    Option.bind (J93 b1.Cells x13) fun y13 =>
    some (.inl ((IntKind.wrap .i64 (x13 + 1)), (⟨b1.ID, b1.LSN, (Jao b1.Cells x13 (⟨true, m7⟩ : Je))⟩ : T_api_Page)))
 else
  Option.map (fun o => .inr o) (J78 b0 b1)
theorem Jfb {x0 : List UInt8} {b0 : T_api_Page} {x13 : Int} {b1 : T_api_Page} {o : ((Int × T_api_Page) ⊕ (T_api_Page × Bool))} (h : J1p x0 b0 x13 b1 = some o) :
  rk (J2 p) J3G 0 [.lo 2 [0, 2, 4, 13] J20, .bl 0, .sq (.keep [2, 4] J5U)] (X (J2 p) J20 ⟨[(0, .p (.s x0)), (2, .ptr 0 0), (4, .ptr 1 0), (13, .p (.i .i64 x13))], [.box (List.map AV.p (J5 b0)), .box (List.map AV.p (J5 b1))]⟩) = (Jmq p x0 b0) o := by
 unfold J1p at h
 rcases Ja h with ⟨h1, h⟩ | ⟨h1, h⟩
 ·obtain ⟨r2, h3, h⟩ := bi h
  have f4 := Jal p h3
  try simp only [Nf] at f4
  try simp only [↓Da, Ua, J20, J7, J1, J6, *, ↓reduceIte, reduceEqDiff, reduceAdd, reduceLT, reduceMul]
  rcases Ja h with ⟨h5, h⟩ | ⟨h5, h⟩
  ·have h5n : ((r2 : Int) != 255) = false := by rw [bne, h5]; rfl
   obtain rfl := sj h
   try simp only [↓Da, Ua, J20, J7, J1, J6, *, ↓reduceIte, reduceEqDiff, reduceAdd, reduceLT, reduceMul]
   rfl
  ·have h5n : ((r2 : Int) != 255) = true := by rw [bne, h5]; rfl
   try simp only [↓Da, Ua, J20, J7, J1, J6, *, ↓reduceIte, reduceEqDiff, reduceAdd, reduceLT, reduceMul]
   rcases Ja h with ⟨h6, h⟩ | ⟨h6, h⟩
   ·obtain rfl := sj h
    try simp only [↓Da, Ua, J20, J7, J1, J6, JhY, *, ↓reduceIte, reduceEqDiff, reduceAdd, reduceLT, reduceMul]
    rfl
   ·obtain ⟨m7, h8, h⟩ := bi h
    have f9 : J2Z (.p (.s x0)) (some (.p (.i .i64 (IntKind.wrap .i64 ((IntKind.wrap .i64 (12 + (IntKind.wrap .i64 (x13 * 13)))) + 1))))) (some (.p (.i .i64 (IntKind.wrap .i64 ((IntKind.wrap .i64 ((IntKind.wrap .i64 (12 + (IntKind.wrap .i64 (x13 * 13)))) + 1)) + r2))))) = some (.p (.s m7)) := J4b (k := .i64) (lo := (some (IntKind.wrap .i64 ((IntKind.wrap .i64 (12 + (IntKind.wrap .i64 (x13 * 13)))) + 1)))) (hi := (some (IntKind.wrap .i64 ((IntKind.wrap .i64 ((IntKind.wrap .i64 (12 + (IntKind.wrap .i64 (x13 * 13)))) + 1)) + r2)))) h8
    try simp only [Nf] at f9
    obtain ⟨u10, h11, h⟩ := bi h
    have f12 : (0 ≤ (x13 : Int) ∧ (x13 : Int) < ((16 : Nat) : Int)) = True := eq_true (J9A h11)
    obtain ⟨y13, h14, h⟩ := bi h
    have f15 : spl (J5 b1) (2 + Int.toNat x13 * 2) (Ji (⟨true, m7⟩ : Je)) = some (J5 (⟨b1.ID, b1.LSN, (Jao b1.Cells x13 (⟨true, m7⟩ : Je))⟩ : T_api_Page)) := by
     have e0 := (Jkz (J1d b1) (JjT (v := b1.Cells) JZ (JgW h14) (⟨true, m7⟩ : Je)) (J7h b1 _))
     exact e0
    try simp only [Nf] at f15
    obtain rfl := sj h
    try simp only [↓Da, Ua, J20, J7, J1, J6, *, ↓reduceIte, reduceEqDiff, reduceAdd, reduceLT, reduceMul]
    rfl
 ·obtain ⟨o', h', rfl⟩ := mi h
  try simp only [↓Da, Ua, J20, J7, J1, J6, *, ↓reduceIte, reduceEqDiff, reduceAdd, reduceLT, reduceMul]
  have e0 := Jmh p h'
  exact e0
def Jah (x0 : List UInt8) (b0 : T_api_Page) (s : Int × T_api_Page) : Option (T_api_Page × Bool) :=
 Jx (fun s => J1p x0 b0 s.1 s.2) s
theorem Jjt {x0 : List UInt8} {b0 : T_api_Page} {s : Int × T_api_Page} {o : T_api_Page × Bool} (h : Jah x0 b0 s = some o) :
  rk (J2 p) J3G 0 [.bl 0, .sq (.keep [2, 4] J5U)] (X (J2 p) (.lp 2 [0, 2, 4, 13] J20) ⟨[(0, .p (.s x0)), (2, .ptr 0 0), (4, .ptr 1 0), (13, .p (.i .i64 s.1))], [.box (List.map AV.p (J5 b0)), .box (List.map AV.p (J5 s.2))]⟩) = J8N o := by
 have h0 : Jx (fun s => J1p x0 b0 s.1 s.2) s = some o := h
 exact J0m (P := fun (s : Int × T_api_Page) (o : T_api_Page × Bool) => rk (J2 p) J3G 0 [.bl 0, .sq (.keep [2, 4] J5U)] (X (J2 p) (.lp 2 [0, 2, 4, 13] J20) ⟨[(0, .p (.s x0)), (2, .ptr 0 0), (4, .ptr 1 0), (13, .p (.i .i64 s.1))], [.box (List.map AV.p (J5 b0)), .box (List.map AV.p (J5 s.2))]⟩) = J8N o) (fun s r hs => by rw [J0k]; exact Jfb p hs) (fun s s1 r hs ih => by rw [J0k]; exact (Jfb p hs).trans ih) h0
def J6i (x0 : List UInt8) : Option (T_api_Page × Bool) :=
 Option.bind (JY x0 8 4) fun r1 =>
 Option.bind (JY x0 0 8) fun r4 =>
 Jah x0 (⟨0, 0, (Vector.replicate 16 (⟨false, []⟩ : Je))⟩ : T_api_Page) (0, (⟨r1, r4, (Vector.replicate 16 (⟨false, []⟩ : Je))⟩ : T_api_Page))
theorem JjS {x0 : List UInt8} {o : T_api_Page × Bool} (h : J6i x0 = some o) :
  rk (J2 p) J3G 0 [] (X (J2 p) Ja4 ⟨[(0, .p (.s x0))], []⟩) = J8N o := by
 unfold J6i at h
 obtain ⟨r1, h2, h⟩ := bi h
 have f3 := Jal p h2
 try simp only [Nf] at f3
 obtain ⟨r4, h5, h⟩ := bi h
 have f6 := Jal p h5
 try simp only [Nf] at f6
 try simp only [↓Da, Ua, Ja4, J7, J1, J6, *, ↓reduceIte, reduceEqDiff, reduceAdd, reduceLT, reduceMul]
 have e0 := Jjt p h
 exact e0
theorem Jpp {x0 : List UInt8} {o : T_api_Page × Bool} (h : J6i x0 = some o) : AF (J2 p) J8K [.p (.s x0)] [] = J8N o :=
 (J0f (J2 p) (JpI p) rfl).trans (JjS p h)
theorem Jpv {x0 : List UInt8} {o : T_api_Page × Bool} (h : J6i x0 = some o) : ∀ ws new st, (Jj (AF (J2 p)) J8K ([.p (.s x0)], ws) 0 new).run st = some ⟨.tup [.data (J5 o.1), .p (.b o.2)], ws⟩ := Js rfl (Jpp p h) rfl
def Jbh  (r : (List UInt8) × T_pagemenddraw_Codes) : Option Res := some (.p (.s r.1), [.box (List.map AV.p (J0 r.2))])
def J3B (b0 : T_pagemenddraw_Codes) (x1 : List UInt8) : Option ((List UInt8) × T_pagemenddraw_Codes) :=
 if ((((List.length x1 : Nat) : Int) : Int) == 0) then
  Option.bind (Jp b0 256) fun r2 =>
  some ((toStr ([(IntKind.wrap .u8 r2.1)] : List Int)), r2.2)
 else
  Option.bind (Jp b0 ((List.length x1 : Nat) : Int)) fun r6 =>
  Option.bind (Jp r6.2 4) fun r9 =>
  if ((r9.1 : Int) == 0) then
   Option.bind (J2U x1 none (some r6.1)) fun m13 =>
   Option.bind (J2U x1 (some (IntKind.wrap .i64 (r6.1 + 1))) none) fun m16 =>
   Option.bind (J2I m13 m16) fun s19 =>
   some (s19, r9.2)
  else
   if ((r9.1 : Int) == 1) then
    Option.bind (Jp r9.2 256) fun r22 =>
    Option.bind (J2I x1 (toStr ([(IntKind.wrap .u8 r22.1)] : List Int))) fun s26 =>
    some (s26, r22.2)
   else
    Option.bind (J2U x1 none (some r6.1)) fun m28 =>
    Option.bind (JcH x1 r6.1) fun c31 =>
    Option.bind (Jp r9.2 255) fun r33 =>
    Option.bind (J2I m28 (toStr ([(J5Z .u8 c31 (IntKind.wrap .u8 (IntKind.wrap .i64 (1 + r33.1))))] : List Int))) fun s37 =>
    Option.bind (J2U x1 (some (IntKind.wrap .i64 (r6.1 + 1))) none) fun m39 =>
    Option.bind (J2I s37 m39) fun s42 =>
    some (s42, r33.2)
theorem Jdc {b0 : T_pagemenddraw_Codes} {x1 : List UInt8} {o : (List UInt8) × T_pagemenddraw_Codes} (h : J3B b0 x1 = some o) :
  rk (J2 p) J3D 1 [] (X (J2 p) J17 ⟨[(0, .ptr 0 0), (1, .p (.s x1))], [.box (List.map AV.p (J0 b0))]⟩) = Jbh o := by
 unfold J3B at h
 rcases Ja h with ⟨h1, h⟩ | ⟨h1, h⟩
 ·have h1n : ((((List.length x1 : Nat) : Int) : Int) != 0) = false := by rw [bne, h1]; rfl
  obtain ⟨r2, h3, h⟩ := bi h
  have f4 : ∀ ws new s, JK ws s [0] [List.map AV.p (J0 b0)] → (Jj (AF (J2 p)) Jc ([.ptr 0 0, .p (.i .i64 256)], ws) 0 new).run s = some ⟨.p (.i .i64 r2.1), ws ++ [(0, .box (List.map AV.p (J0 r2.2)))]⟩ := Jy (args' := [.ptr 0 0, .p (.i .i64 256)]) (bs := [0]) (css := [List.map AV.p (J0 b0)]) (css' := [List.map AV.p (J0 r2.2)]) rfl rfl rfl (by simp [Jk, Jb]) (Jv p h3) rfl rfl (by simp [Jk, Jb])
  try simp only [Nf] at f4
  have f5 : ∀ env sto new, (cvR .toStr (.p (.sl 1 (List.map (r_i .u8) ([(IntKind.wrap .u8 r2.1)] : List Int)))) new).run ⟨env, sto⟩ = some ⟨.p (.s (toStr ([(IntKind.wrap .u8 r2.1)] : List Int))), []⟩ := fun env sto new => Jon env sto _ new
  try simp only [Nf] at f5
  obtain rfl := sj h
  try simp only [↓Da, Ua, J17, Jd, J6B, *, ↓reduceIte, reduceEqDiff, reduceAdd, reduceLT, reduceMul]
  rfl
 ·have h1n : ((((List.length x1 : Nat) : Int) : Int) != 0) = true := by rw [bne, h1]; rfl
  obtain ⟨r6, h7, h⟩ := bi h
  have f8 : ∀ ws new s, JK ws s [0] [List.map AV.p (J0 b0)] → (Jj (AF (J2 p)) Jc ([.ptr 0 0, .p (.i .i64 ((List.length x1 : Nat) : Int))], ws) 0 new).run s = some ⟨.p (.i .i64 r6.1), ws ++ [(0, .box (List.map AV.p (J0 r6.2)))]⟩ := Jy (args' := [.ptr 0 0, .p (.i .i64 ((List.length x1 : Nat) : Int))]) (bs := [0]) (css := [List.map AV.p (J0 b0)]) (css' := [List.map AV.p (J0 r6.2)]) rfl rfl rfl (by simp [Jk, Jb]) (Jv p h7) rfl rfl (by simp [Jk, Jb])
  try simp only [Nf] at f8
  obtain ⟨r9, h10, h⟩ := bi h
  have f11 : ∀ ws new s, JK ws s [0] [List.map AV.p (J0 r6.2)] → (Jj (AF (J2 p)) Jc ([.ptr 0 0, .p (.i .i64 4)], ws) 0 new).run s = some ⟨.p (.i .i64 r9.1), ws ++ [(0, .box (List.map AV.p (J0 r9.2)))]⟩ := Jy (args' := [.ptr 0 0, .p (.i .i64 4)]) (bs := [0]) (css := [List.map AV.p (J0 r6.2)]) (css' := [List.map AV.p (J0 r9.2)]) rfl rfl rfl (by simp [Jk, Jb]) (Jv p h10) rfl rfl (by simp [Jk, Jb])
  try simp only [Nf] at f11
  try simp only [↓Da, Ua, J17, Jd, *, ↓reduceIte, reduceEqDiff, reduceAdd, reduceLT, reduceMul]
  rcases Ja h with ⟨h12, h⟩ | ⟨h12, h⟩
  ·have h12n : ((r9.1 : Int) != 0) = false := by rw [bne, h12]; rfl
   obtain ⟨m13, h14, h⟩ := bi h
   have f15 : J2Z (.p (.s x1)) none (some (.p (.i .i64 r6.1))) = some (.p (.s m13)) := J4b (k := .i64) (lo := none) (hi := (some r6.1)) h14
   try simp only [Nf] at f15
   obtain ⟨m16, h17, h⟩ := bi h
   have f18 : J2Z (.p (.s x1)) (some (.p (.i .i64 (IntKind.wrap .i64 (r6.1 + 1))))) none = some (.p (.s m16)) := J4b (k := .i64) (lo := (some (IntKind.wrap .i64 (r6.1 + 1)))) (hi := none) h17
   try simp only [Nf] at f18
   obtain ⟨s19, h20, h⟩ := bi h
   obtain rfl := sj h
   try simp only [↓Da, Ua, J17, Jd, J6B, *, ↓reduceIte, reduceEqDiff, reduceAdd, reduceLT, reduceMul]
   rfl
  ·have h12n : ((r9.1 : Int) != 0) = true := by rw [bne, h12]; rfl
   try simp only [↓Da, Ua, J17, Jd, *, ↓reduceIte, reduceEqDiff, reduceAdd, reduceLT, reduceMul]
   rcases Ja h with ⟨h21, h⟩ | ⟨h21, h⟩
   ·have h21n : ((r9.1 : Int) != 1) = false := by rw [bne, h21]; rfl
    obtain ⟨r22, h23, h⟩ := bi h
    have f24 : ∀ ws new s, JK ws s [0] [List.map AV.p (J0 r9.2)] → (Jj (AF (J2 p)) Jc ([.ptr 0 0, .p (.i .i64 256)], ws) 0 new).run s = some ⟨.p (.i .i64 r22.1), ws ++ [(0, .box (List.map AV.p (J0 r22.2)))]⟩ := Jy (args' := [.ptr 0 0, .p (.i .i64 256)]) (bs := [0]) (css := [List.map AV.p (J0 r9.2)]) (css' := [List.map AV.p (J0 r22.2)]) rfl rfl rfl (by simp [Jk, Jb]) (Jv p h23) rfl rfl (by simp [Jk, Jb])
    try simp only [Nf] at f24
    have f25 : ∀ env sto new, (cvR .toStr (.p (.sl 1 (List.map (r_i .u8) ([(IntKind.wrap .u8 r22.1)] : List Int)))) new).run ⟨env, sto⟩ = some ⟨.p (.s (toStr ([(IntKind.wrap .u8 r22.1)] : List Int))), []⟩ := fun env sto new => Jon env sto _ new
    try simp only [Nf] at f25
    obtain ⟨s26, h27, h⟩ := bi h
    obtain rfl := sj h
    try simp only [↓Da, Ua, J17, Jd, J6B, *, ↓reduceIte, reduceEqDiff, reduceAdd, reduceLT, reduceMul]
    rfl
   ·have h21n : ((r9.1 : Int) != 1) = true := by rw [bne, h21]; rfl
    obtain ⟨m28, h29, h⟩ := bi h
    have f30 : J2Z (.p (.s x1)) none (some (.p (.i .i64 r6.1))) = some (.p (.s m28)) := J4b (k := .i64) (lo := none) (hi := (some r6.1)) h29
    try simp only [Nf] at f30
    obtain ⟨c31, h32, h⟩ := bi h
    obtain ⟨r33, h34, h⟩ := bi h
    have f35 : ∀ ws new s, JK ws s [0] [List.map AV.p (J0 r9.2)] → (Jj (AF (J2 p)) Jc ([.ptr 0 0, .p (.i .i64 255)], ws) 0 new).run s = some ⟨.p (.i .i64 r33.1), ws ++ [(0, .box (List.map AV.p (J0 r33.2)))]⟩ := Jy (args' := [.ptr 0 0, .p (.i .i64 255)]) (bs := [0]) (css := [List.map AV.p (J0 r9.2)]) (css' := [List.map AV.p (J0 r33.2)]) rfl rfl rfl (by simp [Jk, Jb]) (Jv p h34) rfl rfl (by simp [Jk, Jb])
    try simp only [Nf] at f35
    have f36 : ∀ env sto new, (cvR .toStr (.p (.sl 1 (List.map (r_i .u8) ([(J5Z .u8 c31 (IntKind.wrap .u8 (IntKind.wrap .i64 (1 + r33.1))))] : List Int)))) new).run ⟨env, sto⟩ = some ⟨.p (.s (toStr ([(J5Z .u8 c31 (IntKind.wrap .u8 (IntKind.wrap .i64 (1 + r33.1))))] : List Int))), []⟩ := fun env sto new => Jon env sto _ new
    try simp only [Nf] at f36
    obtain ⟨s37, h38, h⟩ := bi h
    obtain ⟨m39, h40, h⟩ := bi h
    have f41 : J2Z (.p (.s x1)) (some (.p (.i .i64 (IntKind.wrap .i64 (r6.1 + 1))))) none = some (.p (.s m39)) := J4b (k := .i64) (lo := (some (IntKind.wrap .i64 (r6.1 + 1)))) (hi := none) h40
    try simp only [Nf] at f41
    obtain ⟨s42, h43, h⟩ := bi h
    obtain rfl := sj h
    try simp only [↓Da, Ua, J17, Jd, J6B, *, ↓reduceIte, reduceEqDiff, reduceAdd, reduceLT, reduceMul]
    rfl
theorem JfI {b0 : T_pagemenddraw_Codes} {x1 : List UInt8} {o : (List UInt8) × T_pagemenddraw_Codes} (h : J3B b0 x1 = some o) : AF (J2 p) J3z [.ptr 0 0, .p (.s x1)] [.box (List.map AV.p (J0 b0))] = Jbh o :=
 (J0f (J2 p) (JfN p) rfl).trans (Jdc p h)
end
end Go.Am
end
section
namespace Go.Am
set_option maxRecDepth 8000
set_option maxHeartbeats 4000000
set_option linter.unusedSimpArgs false
set_option linter.unusedVariables false
noncomputable section
variable (p : FuncId → Option (List AV → List Blk → Option Res))
def J3m  (r : T_api_Page × T_pagemenddraw_Codes) : Option Res := some (.data (J5 r.1), [.box (List.map AV.p (J0 r.2))])
def JfO (b1 : T_api_Page) (o : (Int × T_pagemenddraw_Codes × T_api_Page) ⊕ (T_api_Page × T_pagemenddraw_Codes)) : Option Res := match o with
 | .inl s => rk (J2 p) J0Q 1 [.bl 0, .sq (.keep [4, 5] J2E)] (X (J2 p) (.lp 3 [0, 4, 5, 6] J1W) ⟨[(0, .ptr 0 0), (4, .ptr 1 0), (5, .ptr 2 0), (6, .p (.i .i64 s.1))], [.box (List.map AV.p (J0 s.2.1)), .box (List.map AV.p (J5 b1)), .box (List.map AV.p (J5 s.2.2))]⟩)
 | .inr o => J3m o
def J3C (b0 : T_pagemenddraw_Codes) (b1 b2 : T_api_Page) : Option (T_api_Page × T_pagemenddraw_Codes) :=
 some (b2, b0)
theorem Jbn {b0 : T_pagemenddraw_Codes} {b1 b2 : T_api_Page} {o : T_api_Page × T_pagemenddraw_Codes} (h : J3C b0 b1 b2 = some o) :
  rk (J2 p) J0Q 1 [] (X (J2 p) J2E ⟨[(4, .ptr 1 0), (5, .ptr 2 0)], [.box (List.map AV.p (J0 b0)), .box (List.map AV.p (J5 b1)), .box (List.map AV.p (J5 b2))]⟩) = J3m o := by
 unfold J3C at h
 obtain rfl := sj h
 try simp only [↓Da, Ua, J2E, J7, J1, J6, JhL, ↓reduceIte, reduceEqDiff, reduceAdd, reduceLT, reduceMul]
 rfl
def J2G (b1 : T_api_Page) (x6 : Int) (b0 : T_pagemenddraw_Codes) (b2 : T_api_Page) : Option (((Int × T_pagemenddraw_Codes × T_api_Page) ⊕ (T_api_Page × T_pagemenddraw_Codes))) :=
 if (decide (x6 > 0)) then
  Option.bind (Jp b0 16) fun r2 =>
  Option.bind (J4N r2.2) fun r5 =>
  Option.bind (inb 16 r2.1) fun u8 =>
  Option.bind (J93 b2.Cells r2.1) fun y11 =>
  some (.inl ((IntKind.wrap .i64 (x6 - 1)), r5.2, (⟨b2.ID, b2.LSN, (Jao b2.Cells r2.1 r5.1)⟩ : T_api_Page)))
 else
  Option.map (fun o => .inr o) (J3C b0 b1 b2)
theorem Jbl {b1 : T_api_Page} {x6 : Int} {b0 : T_pagemenddraw_Codes} {b2 : T_api_Page} {o : ((Int × T_pagemenddraw_Codes × T_api_Page) ⊕ (T_api_Page × T_pagemenddraw_Codes))} (h : J2G b1 x6 b0 b2 = some o) :
  rk (J2 p) J0Q 1 [.lo 3 [0, 4, 5, 6] J1W, .bl 0, .sq (.keep [4, 5] J2E)] (X (J2 p) J1W ⟨[(0, .ptr 0 0), (4, .ptr 1 0), (5, .ptr 2 0), (6, .p (.i .i64 x6))], [.box (List.map AV.p (J0 b0)), .box (List.map AV.p (J5 b1)), .box (List.map AV.p (J5 b2))]⟩) = (JfO p b1) o := by
 unfold J2G at h
 rcases Ja h with ⟨h1, h⟩ | ⟨h1, h⟩
 ·obtain ⟨r2, h3, h⟩ := bi h
  have f4 : ∀ ws new s, JK ws s [0] [List.map AV.p (J0 b0)] → (Jj (AF (J2 p)) Jc ([.ptr 0 0, .p (.i .i64 16)], ws) 0 new).run s = some ⟨.p (.i .i64 r2.1), ws ++ [(0, .box (List.map AV.p (J0 r2.2)))]⟩ := Jy (args' := [.ptr 0 0, .p (.i .i64 16)]) (bs := [0]) (css := [List.map AV.p (J0 b0)]) (css' := [List.map AV.p (J0 r2.2)]) rfl rfl rfl (by simp [Jk, Jb]) (Jv p h3) rfl rfl (by simp [Jk, Jb])
  try simp only [Nf] at f4
  obtain ⟨r5, h6, h⟩ := bi h
  have f7 : ∀ ws new s, JK ws s [0] [List.map AV.p (J0 r2.2)] → (Jj (AF (J2 p)) J4M ([.ptr 0 0], ws) 0 new).run s = some ⟨.data (Ji r5.1), ws ++ [(0, .box (List.map AV.p (J0 r5.2)))]⟩ := Jy (args' := [.ptr 0 0]) (bs := [0]) (css := [List.map AV.p (J0 r2.2)]) (css' := [List.map AV.p (J0 r5.2)]) rfl rfl rfl (by simp [Jk, Jb]) (JhF p h6) rfl rfl (by simp [Jk, Jb])
  try simp only [Nf] at f7
  obtain ⟨u8, h9, h⟩ := bi h
  have f10 : (0 ≤ (r2.1 : Int) ∧ (r2.1 : Int) < ((16 : Nat) : Int)) = True := eq_true (J9A h9)
  obtain ⟨y11, h12, h⟩ := bi h
  have f13 : spl (J5 b2) (2 + Int.toNat r2.1 * 2) (Ji r5.1) = some (J5 (⟨b2.ID, b2.LSN, (Jao b2.Cells r2.1 r5.1)⟩ : T_api_Page)) := by
   have e0 := (Jkz (J1d b2) (JjT (v := b2.Cells) JZ (JgW h12) r5.1) (J7h b2 _))
   exact e0
  try simp only [Nf] at f13
  obtain rfl := sj h
  try simp only [↓Da, Ua, J1W, J7, Jd, *, ↓reduceIte, reduceEqDiff, reduceAdd, reduceLT, reduceMul]
  rfl
 ·obtain ⟨o', h', rfl⟩ := mi h
  try simp only [↓Da, Ua, J1W, J7, Jd, *, ↓reduceIte, reduceEqDiff, reduceAdd, reduceLT, reduceMul]
  have e0 := Jbn p h'
  exact e0
def Jbp (b1 : T_api_Page) (s : Int × T_pagemenddraw_Codes × T_api_Page) : Option (T_api_Page × T_pagemenddraw_Codes) :=
 Jx (fun s => J2G b1 s.1 s.2.1 s.2.2) s
theorem JdX {b1 : T_api_Page} {s : Int × T_pagemenddraw_Codes × T_api_Page} {o : T_api_Page × T_pagemenddraw_Codes} (h : Jbp b1 s = some o) :
  rk (J2 p) J0Q 1 [.bl 0, .sq (.keep [4, 5] J2E)] (X (J2 p) (.lp 3 [0, 4, 5, 6] J1W) ⟨[(0, .ptr 0 0), (4, .ptr 1 0), (5, .ptr 2 0), (6, .p (.i .i64 s.1))], [.box (List.map AV.p (J0 s.2.1)), .box (List.map AV.p (J5 b1)), .box (List.map AV.p (J5 s.2.2))]⟩) = J3m o := by
 have h0 : Jx (fun s => J2G b1 s.1 s.2.1 s.2.2) s = some o := h
 exact J0m (P := fun (s : Int × T_pagemenddraw_Codes × T_api_Page) (o : T_api_Page × T_pagemenddraw_Codes) => rk (J2 p) J0Q 1 [.bl 0, .sq (.keep [4, 5] J2E)] (X (J2 p) (.lp 3 [0, 4, 5, 6] J1W) ⟨[(0, .ptr 0 0), (4, .ptr 1 0), (5, .ptr 2 0), (6, .p (.i .i64 s.1))], [.box (List.map AV.p (J0 s.2.1)), .box (List.map AV.p (J5 b1)), .box (List.map AV.p (J5 s.2.2))]⟩) = J3m o) (fun s r hs => by rw [J0k]; exact Jbl p hs) (fun s s1 r hs ih => by rw [J0k]; exact (Jbl p hs).trans ih) h0
def J3E (b0 : T_pagemenddraw_Codes) (b1 b2 : T_api_Page) : Option (T_api_Page × T_pagemenddraw_Codes) :=
 if (decide (b2.LSN > 0)) then
  Option.bind (Jp b0 6) fun r2 =>
  Jbp b1 (r2.1, r2.2, b2)
 else
  J3C b0 b1 b2
theorem Jbk {b0 : T_pagemenddraw_Codes} {b1 b2 : T_api_Page} {o : T_api_Page × T_pagemenddraw_Codes} (h : J3E b0 b1 b2 = some o) :
  rk (J2 p) J0Q 1 [] (X (J2 p) J6D ⟨[(0, .ptr 0 0), (4, .ptr 1 0), (5, .ptr 2 0)], [.box (List.map AV.p (J0 b0)), .box (List.map AV.p (J5 b1)), .box (List.map AV.p (J5 b2))]⟩) = J3m o := by
 unfold J3E at h
 rcases Ja h with ⟨h1, h⟩ | ⟨h1, h⟩
 ·obtain ⟨r2, h3, h⟩ := bi h
  have f4 : ∀ ws new s, JK ws s [0] [List.map AV.p (J0 b0)] → (Jj (AF (J2 p)) Jc ([.ptr 0 0, .p (.i .i64 6)], ws) 0 new).run s = some ⟨.p (.i .i64 r2.1), ws ++ [(0, .box (List.map AV.p (J0 r2.2)))]⟩ := Jy (args' := [.ptr 0 0, .p (.i .i64 6)]) (bs := [0]) (css := [List.map AV.p (J0 b0)]) (css' := [List.map AV.p (J0 r2.2)]) rfl rfl rfl (by simp [Jk, Jb]) (Jv p h3) rfl rfl (by simp [Jk, Jb])
  try simp only [Nf] at f4
  try simp only [↓Da, Ua, J6D, J7, J1, J6, Jd, *, ↓reduceIte, reduceEqDiff, reduceAdd, reduceLT, reduceMul]
  have e0 := JdX p h
  exact e0
 ·try simp only [↓Da, Ua, J6D, J7, J1, J6, Jd, *, ↓reduceIte, reduceEqDiff, reduceAdd, reduceLT, reduceMul]
  have e0 := Jbn p h
  exact e0
def J3o (b0 : T_pagemenddraw_Codes) (x1 : Int) : Option (T_api_Page × T_pagemenddraw_Codes) :=
 Option.bind (Jp b0 50) fun r1 =>
 Option.bind (Jp r1.2 10) fun r4 =>
 if ((r4.1 : Int) == 9) then
  Option.bind (Jp r4.2 2) fun r8 =>
  J3E r8.2 (⟨0, 0, (Vector.replicate 16 (⟨false, []⟩ : Je))⟩ : T_api_Page) (⟨x1, (IntKind.wrap .i64 (1099511627776 - r8.1)), (Vector.replicate 16 (⟨false, []⟩ : Je))⟩ : T_api_Page)
 else
  J3E r4.2 (⟨0, 0, (Vector.replicate 16 (⟨false, []⟩ : Je))⟩ : T_api_Page) (⟨x1, r1.1, (Vector.replicate 16 (⟨false, []⟩ : Je))⟩ : T_api_Page)
theorem Je3 {b0 : T_pagemenddraw_Codes} {x1 : Int} {o : T_api_Page × T_pagemenddraw_Codes} (h : J3o b0 x1 = some o) :
  rk (J2 p) J0Q 1 [] (X (J2 p) J3k ⟨[(0, .ptr 0 0), (1, .p (.i .i64 x1))], [.box (List.map AV.p (J0 b0))]⟩) = J3m o := by
 unfold J3o at h
 obtain ⟨r1, h2, h⟩ := bi h
 have f3 : ∀ ws new s, JK ws s [0] [List.map AV.p (J0 b0)] → (Jj (AF (J2 p)) Jc ([.ptr 0 0, .p (.i .i64 50)], ws) 0 new).run s = some ⟨.p (.i .i64 r1.1), ws ++ [(0, .box (List.map AV.p (J0 r1.2)))]⟩ := Jy (args' := [.ptr 0 0, .p (.i .i64 50)]) (bs := [0]) (css := [List.map AV.p (J0 b0)]) (css' := [List.map AV.p (J0 r1.2)]) rfl rfl rfl (by simp [Jk, Jb]) (Jv p h2) rfl rfl (by simp [Jk, Jb])
 try simp only [Nf] at f3
 obtain ⟨r4, h5, h⟩ := bi h
 have f6 : ∀ ws new s, JK ws s [0] [List.map AV.p (J0 r1.2)] → (Jj (AF (J2 p)) Jc ([.ptr 0 0, .p (.i .i64 10)], ws) 0 new).run s = some ⟨.p (.i .i64 r4.1), ws ++ [(0, .box (List.map AV.p (J0 r4.2)))]⟩ := Jy (args' := [.ptr 0 0, .p (.i .i64 10)]) (bs := [0]) (css := [List.map AV.p (J0 r1.2)]) (css' := [List.map AV.p (J0 r4.2)]) rfl rfl rfl (by simp [Jk, Jb]) (Jv p h5) rfl rfl (by simp [Jk, Jb])
 try simp only [Nf] at f6
 try simp only [↓Da, Ua, J3k, J7, J1, J6, Jd, *, ↓reduceIte, reduceEqDiff, reduceAdd, reduceLT, reduceMul]
 rcases Ja h with ⟨h7, h⟩ | ⟨h7, h⟩
 ·have h7n : ((r4.1 : Int) != 9) = false := by rw [bne, h7]; rfl
  obtain ⟨r8, h9, h⟩ := bi h
  have f10 : ∀ ws new s, JK ws s [0] [List.map AV.p (J0 r4.2)] → (Jj (AF (J2 p)) Jc ([.ptr 0 0, .p (.i .i64 2)], ws) 0 new).run s = some ⟨.p (.i .i64 r8.1), ws ++ [(0, .box (List.map AV.p (J0 r8.2)))]⟩ := Jy (args' := [.ptr 0 0, .p (.i .i64 2)]) (bs := [0]) (css := [List.map AV.p (J0 r4.2)]) (css' := [List.map AV.p (J0 r8.2)]) rfl rfl rfl (by simp [Jk, Jb]) (Jv p h9) rfl rfl (by simp [Jk, Jb])
  try simp only [Nf] at f10
  try simp only [↓Da, Ua, J3k, J7, J1, J6, Jd, *, ↓reduceIte, reduceEqDiff, reduceAdd, reduceLT, reduceMul]
  have e0 := Jbk p h
  exact e0
 ·have h7n : ((r4.1 : Int) != 9) = true := by rw [bne, h7]; rfl
  try simp only [↓Da, Ua, J3k, J7, J1, J6, Jd, *, ↓reduceIte, reduceEqDiff, reduceAdd, reduceLT, reduceMul]
  have e0 := Jbk p h
  exact e0
theorem Jhu {b0 : T_pagemenddraw_Codes} {x1 : Int} {o : T_api_Page × T_pagemenddraw_Codes} (h : J3o b0 x1 = some o) : AF (J2 p) J4O [.ptr 0 0, .p (.i .i64 x1)] [.box (List.map AV.p (J0 b0))] = J3m o :=
 (J0f (J2 p) (JhM p) rfl).trans (Je3 p h)
def Jfd  (r : (List UInt8)) : Option Res := some (.p (.s r), [])
def J4W  : Option ((List UInt8)) :=
 Option.bind (J2o 256) fun r1 =>
 some r1
theorem Jhj  {o : (List UInt8)} (h : J4W = some o) :
  rk (J2 p) J6M 0 [] (X (J2 p) J8B ⟨[], []⟩) = Jfd o := by
 unfold J4W at h
 obtain ⟨r1, h2, h⟩ := bi h
 have f3 := Jc1 p h2
 try simp only [Nf] at f3
 obtain rfl := sj h
 try simp only [↓Da, Ua, J8B, Jma, *, ↓reduceIte, reduceEqDiff, reduceAdd, reduceLT, reduceMul]
 rfl
theorem Jn0  {o : (List UInt8)} (h : J4W = some o) : AF (J2 p) J5L [] [] = Jfd o :=
 (J0f (J2 p) (JmY p) rfl).trans (Jhj p h)
theorem Jfr  {o : (List UInt8)} (h : J4W = some o) : ∀ ws new st, (Jj (AF (J2 p)) J5L ([], ws) 0 new).run st = some ⟨.p (.s o), ws⟩ := Js rfl (Jn0 p h) rfl
def Jg1  (r : (List UInt8)) : Option Res := some (.p (.s r), [])
def J6q  : Option ((List UInt8)) :=
 Option.bind (J40 ([0]) 256) fun r1 =>
 some r1
theorem JiD  {o : (List UInt8)} (h : J6q = some o) :
  rk (J2 p) J7K 0 [] (X (J2 p) J9a ⟨[], []⟩) = Jg1 o := by
 unfold J6q at h
 obtain ⟨r1, h2, h⟩ := bi h
 have f3 := Jaz p h2
 try simp only [Nf] at f3
 obtain rfl := sj h
 try simp only [↓Da, Ua, J9a, JoC, *, ↓reduceIte, reduceEqDiff, reduceAdd, reduceLT, reduceMul]
 rfl
theorem Jnl  {o : (List UInt8)} (h : J6q = some o) : AF (J2 p) J7U [] [] = Jg1 o :=
 (J0f (J2 p) (Joj p) rfl).trans (JiD p h)
theorem JoG  {o : (List UInt8)} (h : J6q = some o) : ∀ ws new st, (Jj (AF (J2 p)) J7U ([], ws) 0 new).run st = some ⟨.p (.s o), ws⟩ := Js rfl (Jnl p h) rfl
def Jgt  (r : Bool) : Option Res := some (.p (.b r), [])
def J3M (x0 x1 : T_api_Image) : Option (Bool) :=
 if ((x0.ID : Int) == x1.ID) then
  if ((x0.Pages : Int) == x1.Pages) then
   Option.bind (J0J x0.Copies x1.Copies) fun r3 =>
   some r3
  else
   some false
 else
  some false
theorem Jjg {x0 x1 : T_api_Image} {o : Bool} (h : J3M x0 x1 = some o) :
  rk (J2 p) J80 0 [] (X (J2 p) J5t ⟨[(0, .data (J3 x0)), (1, .data (J3 x1))], []⟩) = Jgt o := by
 unfold J3M at h
 rcases Ja h with ⟨h1, h⟩ | ⟨h1, h⟩
 ·try simp only [↓Da, Ua, J5t, J9, J8, *, ↓reduceIte, reduceEqDiff, reduceAdd, reduceLT, reduceMul]
  rcases Ja h with ⟨h2, h⟩ | ⟨h2, h⟩
  ·obtain ⟨r3, h4, h⟩ := bi h
   have f5 := Jay p h4
   try simp only [Nf] at f5
   obtain rfl := sj h
   try simp only [↓Da, Ua, J5t, J9, J8, Jd7, *, ↓reduceIte, reduceEqDiff, reduceAdd, reduceLT, reduceMul]
   rfl
  ·obtain rfl := sj h
   try simp only [↓Da, Ua, J5t, J9, J8, Jd7, *, ↓reduceIte, reduceEqDiff, reduceAdd, reduceLT, reduceMul]
   rfl
 ·obtain rfl := sj h
  try simp only [↓Da, Ua, J5t, J9, J8, Jd7, *, ↓reduceIte, reduceEqDiff, reduceAdd, reduceLT, reduceMul]
  rfl
theorem JoL {x0 x1 : T_api_Image} {o : Bool} (h : J3M x0 x1 = some o) : AF (J2 p) J4y [.data (J3 x0), .data (J3 x1)] [] = Jgt o :=
 (J0f (J2 p) (Joy p) rfl).trans (Jjg p h)
theorem JfT {x0 x1 : T_api_Image} {o : Bool} (h : J3M x0 x1 = some o) : ∀ ws new st, (Jj (AF (J2 p)) J4y ([.data (J3 x0), .data (J3 x1)], ws) 0 new).run st = some ⟨.p (.b o), ws⟩ := Js rfl (JoL p h) rfl
def JfD  (r : Bool) : Option Res := some (.p (.b r), [])
def J1F (x0 : T_api_Page) : Option (Bool) :=
 Option.bind (J1I x0.ID) fun r1 =>
 if r1 then
  if (decide (x0.LSN ≥ 0)) then
   some (decide (x0.LSN ≤ 1099511627776))
  else
   some false
 else
  some false
theorem Jhy {x0 : T_api_Page} {o : Bool} (h : J1F x0 = some o) :
  rk (J2 p) J6J 0 [] (X (J2 p) J3Q ⟨[(0, .data (J5 x0))], []⟩) = JfD o := by
 unfold J1F at h
 obtain ⟨r1, h2, h⟩ := bi h
 have f3 := JgD p h2
 try simp only [Nf] at f3
 try simp only [↓Da, Ua, J3Q, J7, J1, J6, *, ↓reduceIte, reduceEqDiff, reduceAdd, reduceLT, reduceMul]
 rcases Ja h with ⟨h4, h⟩ | ⟨h4, h⟩
 ·try simp only [↓Da, Ua, J3Q, J7, J1, J6, *, ↓reduceIte, reduceEqDiff, reduceAdd, reduceLT, reduceMul]
  rcases Ja h with ⟨h5, h⟩ | ⟨h5, h⟩
  ·obtain rfl := sj h
   try simp only [↓Da, Ua, J3Q, J7, J1, J6, Jc5, *, ↓reduceIte, reduceEqDiff, reduceAdd, reduceLT, reduceMul]
   rfl
  ·obtain rfl := sj h
   try simp only [↓Da, Ua, J3Q, J7, J1, J6, Jc5, *, ↓reduceIte, reduceEqDiff, reduceAdd, reduceLT, reduceMul]
   rfl
 ·obtain rfl := sj h
  try simp only [↓Da, Ua, J3Q, J7, J1, J6, Jc5, *, ↓reduceIte, reduceEqDiff, reduceAdd, reduceLT, reduceMul]
  rfl
theorem Jn4 {x0 : T_api_Page} {o : Bool} (h : J1F x0 = some o) : AF (J2 p) J7a [.data (J5 x0)] [] = JfD o :=
 (J0f (J2 p) (JmX p) rfl).trans (Jhy p h)
theorem JmA {x0 : T_api_Page} {o : Bool} (h : J1F x0 = some o) : ∀ ws new st, (Jj (AF (J2 p)) J7a ([.data (J5 x0)], ws) 0 new).run st = some ⟨.p (.b o), ws⟩ := Js rfl (Jn4 p h) rfl
def J94  (r : T_page_builder) : Option Res := some (.tup [], [.box (List.map AV.p (J0P r))])
def J1v (x4 : Int) (b0 : T_page_builder) (b1 : Je) : Option (T_page_builder) :=
 Option.bind (J0w b0.s_ x4 1) fun r1 =>
 Option.bind (J2I r1 b1.Data) fun s5 =>
 Option.bind (J40 ([0]) (IntKind.wrap .i64 (12 - ((List.length b1.Data : Nat) : Int)))) fun r7 =>
 Option.bind (J2I s5 r7) fun s11 =>
 some (⟨s11⟩ : T_page_builder)
theorem JaE {x4 : Int} {b0 : T_page_builder} {b1 : Je} {o : T_page_builder} (h : J1v x4 b0 b1 = some o) :
  rk (J2 p) J2D 1 [] (X (J2 p) J85 ⟨[(0, .ptr 0 0), (3, .ptr 1 0), (4, .p (.i .i64 x4))], [.box (List.map AV.p (J0P b0)), .box (List.map AV.p (Ji b1))]⟩) = J94 o := by
 unfold J1v at h
 obtain ⟨r1, h2, h⟩ := bi h
 have f3 := J7w p h2
 try simp only [Nf, JD] at f3
 have f4 : ∀ ws k new s, Jf ((Jj (AF (J2 p)) J1w ([.p (.s b0.s_), .p (.i .i64 x4), .p (.i .i64 1)], ws) k new).reads s) = [] := J04 rfl
 try simp only [Nf, JD] at f4
 obtain ⟨s5, h6, h⟩ := bi h
 obtain ⟨r7, h8, h⟩ := bi h
 have f9 := Jaz p h8
 try simp only [Nf, JD] at f9
 have f10 : ∀ ws k new s, Jf ((Jj (AF (J2 p)) J2i ([.p (.s [0]), .p (.i .i64 (IntKind.wrap .i64 (12 - ((List.length b1.Data : Nat) : Int))))], ws) k new).reads s) = [] := J04 rfl
 try simp only [Nf, JD] at f10
 obtain ⟨s11, h12, h⟩ := bi h
 obtain rfl := sj h
 try simp only [↓Da, Ua, Ra, J85, J7, JD, JfF, *, ↓reduceIte, reduceEqDiff, reduceAdd, reduceLT, reduceMul, Nat.reduceBEq]
 rfl
def J1U (b0 : T_page_builder) (x1 : Je) : Option (T_page_builder) :=
 if x1.Set then
  J1v ((List.length x1.Data : Nat) : Int) b0 x1
 else
  J1v 255 b0 x1
theorem Jdd {b0 : T_page_builder} {x1 : Je} {o : T_page_builder} (h : J1U b0 x1 = some o) :
  rk (J2 p) J2D 1 [] (X (J2 p) J3A ⟨[(0, .ptr 0 0), (1, .data (Ji x1))], [.box (List.map AV.p (J0P b0))]⟩) = J94 o := by
 unfold J1U at h
 rcases Ja h with ⟨h1, h⟩ | ⟨h1, h⟩
 ·try simp only [↓Da, Ua, J3A, J7, JD, *, ↓reduceIte, reduceEqDiff, reduceAdd, reduceLT, reduceMul]
  have e0 := JaE p h
  first | exact e0 | (simp only [*] at e0; exact e0)
 ·try simp only [↓Da, Ua, J3A, J7, JD, *, ↓reduceIte, reduceEqDiff, reduceAdd, reduceLT, reduceMul]
  have e0 := JaE p h
  first | exact e0 | (simp only [*] at e0; exact e0)
theorem JfG {b0 : T_page_builder} {x1 : Je} {o : T_page_builder} (h : J1U b0 x1 = some o) : AF (J2 p) J15 [.ptr 0 0, .data (Ji x1)] [.box (List.map AV.p (J0P b0))] = J94 o :=
 (J0f (J2 p) (JfP p) rfl).trans (Jdd p h)
def J8G  (r : Int) : Option Res := some (.p (.i .u32 r), [])
def JmK (x0 : List UInt8) (x8 : Int) (b0 : Vector Int 16) (o : (Int × Int) ⊕ (Int)) : Option Res := match o with
 | .inl s => rk (J2 p) J3J 0 [.bl 0, .sq (.keep [4] J5H)] (X (J2 p) (.lp 1 [0, 3, 4, 8, 9] J4R) ⟨[(0, .p (.s x0)), (3, .ptr 0 0), (4, .p (.i .u32 s.1)), (8, .p (.i .i64 x8)), (9, .p (.i .i64 s.2))], [.box (List.map AV.p ((J08 (r_i .u32)) b0))]⟩)
 | .inr o => J8G o
def J8v (x4 : Int) : Option (Int) :=
 some (JqK .u32 x4)
theorem JmR {x4 : Int} {B0 : List PV} {o : Int} (h : J8v x4 = some o) :
  rk (J2 p) J3J 0 [] (X (J2 p) J5H ⟨[(4, .p (.i .u32 x4))], [.box (List.map AV.p B0)]⟩) = J8G o := by
 unfold J8v at h
 obtain rfl := sj h
 try simp only [↓Da, Ua, J5H, Jpk, ↓reduceIte, reduceEqDiff, reduceAdd, reduceLT, reduceMul]
 rfl
def J35 (x0 : List UInt8) (x8 : Int) (b0 : Vector Int 16) (x4 x9 : Int) : Option (((Int × Int) ⊕ (Int))) :=
 if (decide (x9 < x8)) then
  Option.bind (JcH x0 x9) fun c2 =>
  Option.bind (J8X .u32 (J5Z .u32 x4 (IntKind.wrap .u32 c2)) 4) fun q4 =>
  Option.bind (inb 16 (J59 .u32 (J5Z .u32 x4 (IntKind.wrap .u32 c2)) 15)) fun u6 =>
  Option.bind (J93 b0 (J59 .u32 (J5Z .u32 x4 (IntKind.wrap .u32 c2)) 15)) fun y9 =>
  Option.bind (J8X .u32 (J5Z .u32 q4 y9) 4) fun q12 =>
  Option.bind (inb 16 (J59 .u32 (J5Z .u32 q4 y9) 15)) fun u14 =>
  Option.bind (J93 b0 (J59 .u32 (J5Z .u32 q4 y9) 15)) fun y17 =>
  some (.inl ((J5Z .u32 q12 y17), (IntKind.wrap .i64 (x9 + 1))))
 else
  Option.map (fun o => .inr o) (J8v x4)
theorem Jfa {x0 : List UInt8} {x8 : Int} {b0 : Vector Int 16} {x4 x9 : Int} {o : ((Int × Int) ⊕ (Int))} (h : J35 x0 x8 b0 x4 x9 = some o) :
  rk (J2 p) J3J 0 [.lo 1 [0, 3, 4, 8, 9] J4R, .bl 0, .sq (.keep [4] J5H)] (X (J2 p) J4R ⟨[(0, .p (.s x0)), (3, .ptr 0 0), (4, .p (.i .u32 x4)), (8, .p (.i .i64 x8)), (9, .p (.i .i64 x9))], [.box (List.map AV.p ((J08 (r_i .u32)) b0))]⟩) = (JmK p x0 x8 b0) o := by
 unfold J35 at h
 rcases Ja h with ⟨h1, h⟩ | ⟨h1, h⟩
 ·obtain ⟨c2, h3, h⟩ := bi h
  obtain ⟨q4, h5, h⟩ := bi h
  obtain ⟨u6, h7, h⟩ := bi h
  have f8 : (0 ≤ ((J59 .u32 (J5Z .u32 x4 (IntKind.wrap .u32 c2)) 15) : Int) ∧ ((J59 .u32 (J5Z .u32 x4 (IntKind.wrap .u32 c2)) 15) : Int) < ((16 : Nat) : Int)) = True := eq_true (J9A h7)
  obtain ⟨y9, h10, h⟩ := bi h
  have f11 : sub ((J08 (r_i .u32)) b0) (Int.toNat (J59 .u32 (J5Z .u32 x4 (IntKind.wrap .u32 c2)) 15) * 1) 1 = some ((r_i .u32) y9) := by
   have e0 := (J9X (v := b0) (Jbr .u32) (J5k h10).2)
   exact e0
  try simp only [Nf] at f11
  obtain ⟨q12, h13, h⟩ := bi h
  obtain ⟨u14, h15, h⟩ := bi h
  have f16 : (0 ≤ ((J59 .u32 (J5Z .u32 q4 y9) 15) : Int) ∧ ((J59 .u32 (J5Z .u32 q4 y9) 15) : Int) < ((16 : Nat) : Int)) = True := eq_true (J9A h15)
  obtain ⟨y17, h18, h⟩ := bi h
  have f19 : sub ((J08 (r_i .u32)) b0) (Int.toNat (J59 .u32 (J5Z .u32 q4 y9) 15) * 1) 1 = some ((r_i .u32) y17) := by
   have e0 := (J9X (v := b0) (Jbr .u32) (J5k h18).2)
   exact e0
  try simp only [Nf] at f19
  obtain rfl := sj h
  try simp only [↓Da, Ua, J4R, J7r, *, ↓reduceIte, reduceEqDiff, reduceAdd, reduceLT, reduceMul]
  rfl
 ·obtain ⟨o', h', rfl⟩ := mi h
  try simp only [↓Da, Ua, J4R, J7r, *, ↓reduceIte, reduceEqDiff, reduceAdd, reduceLT, reduceMul]
  have e0 := JmR p (B0 := ((J08 (r_i .u32)) b0)) h'
  exact e0
def Jfn (x0 : List UInt8) (x8 : Int) (b0 : Vector Int 16) (s : Int × Int) : Option (Int) :=
 Jx (fun s => J35 x0 x8 b0 s.1 s.2) s
theorem Jkm {x0 : List UInt8} {x8 : Int} {b0 : Vector Int 16} {s : Int × Int} {o : Int} (h : Jfn x0 x8 b0 s = some o) :
  rk (J2 p) J3J 0 [.bl 0, .sq (.keep [4] J5H)] (X (J2 p) (.lp 1 [0, 3, 4, 8, 9] J4R) ⟨[(0, .p (.s x0)), (3, .ptr 0 0), (4, .p (.i .u32 s.1)), (8, .p (.i .i64 x8)), (9, .p (.i .i64 s.2))], [.box (List.map AV.p ((J08 (r_i .u32)) b0))]⟩) = J8G o := by
 have h0 : Jx (fun s => J35 x0 x8 b0 s.1 s.2) s = some o := h
 exact J0m (P := fun (s : Int × Int) (o : Int) => rk (J2 p) J3J 0 [.bl 0, .sq (.keep [4] J5H)] (X (J2 p) (.lp 1 [0, 3, 4, 8, 9] J4R) ⟨[(0, .p (.s x0)), (3, .ptr 0 0), (4, .p (.i .u32 s.1)), (8, .p (.i .i64 x8)), (9, .p (.i .i64 s.2))], [.box (List.map AV.p ((J08 (r_i .u32)) b0))]⟩) = J8G o) (fun s r hs => by rw [J0k]; exact Jfa p hs) (fun s s1 r hs ih => by rw [J0k]; exact (Jfa p hs).trans ih) h0
def J2B (x0 : List UInt8) : Option (Int) :=
 Option.bind (J2Q) fun r1 =>
 Jfn x0 ((List.length x0 : Nat) : Int) r1 (4294967295, 0)
theorem Jjh {x0 : List UInt8} {o : Int} (h : J2B x0 = some o) :
  rk (J2 p) J3J 0 [] (X (J2 p) Ja5 ⟨[(0, .p (.s x0))], []⟩) = J8G o := by
 unfold J2B at h
 obtain ⟨r1, h2, h⟩ := bi h
 have f3 := JgB p h2
 try simp only [Nf] at f3
 try simp only [↓Da, Ua, Ja5, J7r, *, ↓reduceIte, reduceEqDiff, reduceAdd, reduceLT, reduceMul]
 have e0 := Jkm p h
 exact e0
theorem Jpa {x0 : List UInt8} {o : Int} (h : J2B x0 = some o) : AF (J2 p) J5q [.p (.s x0)] [] = J8G o :=
 (J0f (J2 p) (JoX p) rfl).trans (Jjh p h)
theorem JdD {x0 : List UInt8} {o : Int} (h : J2B x0 = some o) : ∀ ws new st, (Jj (AF (J2 p)) J5q ([.p (.s x0)], ws) 0 new).run st = some ⟨.p (.i .u32 o), ws⟩ := Js rfl (Jpa p h) rfl
def JG  (r : Int × Bool) : Option Res := some (.tup [.p (.i .i64 r.1), .p (.b r.2)], [])
def J3S (x0 : List T_api_Copy) (x1 x8 : Int) (o : (Int × Int) ⊕ (Int × Bool)) : Option Res := match o with
 | .inl s => rk (J2 p) Jr 0 [.bl 0, .sq (.keep [0, 1, 2, 8, 9] JF)] (X (J2 p) (.lp 0 [0, 1, 2, 8, 9, 10] Jw) ⟨[(0, .p (.sl 3 (List.map J4 x0))), (1, .p (.i .i64 x1)), (2, .fn J0o [] []), (8, .p (.i .i64 x8)), (9, .p (.i .i64 s.1)), (10, .p (.i .i64 s.2))], []⟩)
 | .inr o => JG o
def J03 (x0 : List T_api_Copy) (x1 x8 x9 : Int) : Option (Int × Bool) :=
 if (decide (x9 < x8)) then
  Option.bind (idx x0 x9) fun y2 =>
  Option.bind (J2Y y2 x1) fun r5 =>
  some (x9, ((r5 : Int) == 0))
 else
  some (x9, false)
theorem J3V {x0 : List T_api_Copy} {x1 x8 x9 : Int} {o : Int × Bool} (h : J03 x0 x1 x8 x9 = some o) :
  rk (J2 p) Jr 0 [] (X (J2 p) JF ⟨[(0, .p (.sl 3 (List.map J4 x0))), (1, .p (.i .i64 x1)), (2, .fn J0o [] []), (8, .p (.i .i64 x8)), (9, .p (.i .i64 x9))], []⟩) = JG o := by
 unfold J03 at h
 rcases Ja h with ⟨h1, h⟩ | ⟨h1, h⟩
 ·obtain ⟨y2, h3, h⟩ := bi h
  have f4 := J2e (r := J4) h3
  try simp only [Nf] at f4
  obtain ⟨r5, h6, h⟩ := bi h
  have f7 := Jd5 p h6
  try simp only [Nf] at f7
  obtain rfl := sj h
  try simp only [↓Da, Ua, JF, J8, J37, *, ↓reduceIte, reduceEqDiff, reduceAdd, reduceLT, reduceMul]
  rfl
 ·obtain rfl := sj h
  try simp only [↓Da, Ua, JF, J8, J37, *, ↓reduceIte, reduceEqDiff, reduceAdd, reduceLT, reduceMul]
  rfl
def JL (x0 : List T_api_Copy) (x1 x8 : Int) (x9 x10 : Int) : Option (((Int × Int) ⊕ (Int × Bool))) :=
 if (decide (x9 < x10)) then
  Option.bind (J8X .u64 (IntKind.wrap .u64 (IntKind.wrap .i64 (x9 + x10))) 1) fun q2 =>
  Option.bind (idx x0 (IntKind.wrap .i64 q2)) fun y4 =>
  Option.bind (J2Y y4 x1) fun r7 =>
  if (decide (r7 < 0)) then
   some (.inl ((IntKind.wrap .i64 ((IntKind.wrap .i64 q2) + 1)), x10))
  else
   some (.inl (x9, (IntKind.wrap .i64 q2)))
 else
  Option.map (fun o => .inr o) (J03 x0 x1 x8 x9)
theorem J1l {x0 : List T_api_Copy} {x1 x8 : Int} {x9 x10 : Int} {o : ((Int × Int) ⊕ (Int × Bool))} (h : JL x0 x1 x8 x9 x10 = some o) :
  rk (J2 p) Jr 0 [.lo 0 [0, 1, 2, 8, 9, 10] Jw, .bl 0, .sq (.keep [0, 1, 2, 8, 9] JF)] (X (J2 p) Jw ⟨[(0, .p (.sl 3 (List.map J4 x0))), (1, .p (.i .i64 x1)), (2, .fn J0o [] []), (8, .p (.i .i64 x8)), (9, .p (.i .i64 x9)), (10, .p (.i .i64 x10))], []⟩) = (J3S p x0 x1 x8) o := by
 unfold JL at h
 rcases Ja h with ⟨h1, h⟩ | ⟨h1, h⟩
 ·obtain ⟨q2, h3, h⟩ := bi h
  obtain ⟨y4, h5, h⟩ := bi h
  have f6 := J2e (r := J4) h5
  try simp only [Nf] at f6
  obtain ⟨r7, h8, h⟩ := bi h
  have f9 := Jd5 p h8
  try simp only [Nf] at f9
  try simp only [↓Da, Ua, Jw, J8, *, ↓reduceIte, reduceEqDiff, reduceAdd, reduceLT, reduceMul]
  rcases Ja h with ⟨h10, h⟩ | ⟨h10, h⟩
  ·obtain rfl := sj h
   try simp only [↓Da, Ua, Jw, J8, *, ↓reduceIte, reduceEqDiff, reduceAdd, reduceLT, reduceMul]
   rfl
  ·obtain rfl := sj h
   try simp only [↓Da, Ua, Jw, J8, *, ↓reduceIte, reduceEqDiff, reduceAdd, reduceLT, reduceMul]
   rfl
 ·obtain ⟨o', h', rfl⟩ := mi h
  try simp only [↓Da, Ua, Jw, J8, *, ↓reduceIte, reduceEqDiff, reduceAdd, reduceLT, reduceMul]
  have e0 := J3V p h'
  exact e0
def J02 (x0 : List T_api_Copy) (x1 x8 : Int) (s : Int × Int) : Option (Int × Bool) :=
 Jx (fun s => JL x0 x1 x8 s.1 s.2) s
theorem J3y {x0 : List T_api_Copy} {x1 x8 : Int} {s : Int × Int} {o : Int × Bool} (h : J02 x0 x1 x8 s = some o) :
  rk (J2 p) Jr 0 [.bl 0, .sq (.keep [0, 1, 2, 8, 9] JF)] (X (J2 p) (.lp 0 [0, 1, 2, 8, 9, 10] Jw) ⟨[(0, .p (.sl 3 (List.map J4 x0))), (1, .p (.i .i64 x1)), (2, .fn J0o [] []), (8, .p (.i .i64 x8)), (9, .p (.i .i64 s.1)), (10, .p (.i .i64 s.2))], []⟩) = JG o := by
 have h0 : Jx (fun s => JL x0 x1 x8 s.1 s.2) s = some o := h
 exact J0m (P := fun (s : Int × Int) (o : Int × Bool) => rk (J2 p) Jr 0 [.bl 0, .sq (.keep [0, 1, 2, 8, 9] JF)] (X (J2 p) (.lp 0 [0, 1, 2, 8, 9, 10] Jw) ⟨[(0, .p (.sl 3 (List.map J4 x0))), (1, .p (.i .i64 x1)), (2, .fn J0o [] []), (8, .p (.i .i64 x8)), (9, .p (.i .i64 s.1)), (10, .p (.i .i64 s.2))], []⟩) = JG o) (fun s r hs => by rw [J0k]; exact J1l p hs) (fun s s1 r hs ih => by rw [J0k]; exact (J1l p hs).trans ih) h0
def JQ (x0 : List T_api_Copy) (x1 : Int) : Option (Int × Bool) :=
 J02 x0 x1 ((List.length x0 : Nat) : Int) (0, ((List.length x0 : Nat) : Int))
theorem J3x {x0 : List T_api_Copy} {x1 : Int} {o : Int × Bool} (h : JQ x0 x1 = some o) :
  rk (J2 p) Jr 0 [] (X (J2 p) J0h ⟨[(0, .p (.sl 3 (List.map J4 x0))), (1, .p (.i .i64 x1)), (2, .fn J0o [] [])], []⟩) = JG o := by
 unfold JQ at h
 try simp only [↓Da, Ua, J0h, J8, ↓reduceIte, reduceEqDiff, reduceAdd, reduceLT, reduceMul]
 have e0 := J3y p h
 exact e0
theorem J46 {x0 : List T_api_Copy} {x1 : Int} {o : Int × Bool} (h : JQ x0 x1 = some o) : AF (J2 p) J01 [.p (.sl 3 (List.map J4 x0)), .p (.i .i64 x1), .fn J0o [] []] [] = JG o :=
 (J0f (J2 p) (J6E p) rfl).trans (J3x p h)
def Jfg  (r : Int × Bool) : Option Res := some (.tup [.p (.i .i64 r.1), .p (.b r.2)], [])
def J4T (x0 : T_api_Image) (x1 : Int) : Option (Int × Bool) :=
 Option.bind (JQ x0.Copies x1) fun r1 =>
 some (r1.1, r1.2)
theorem Jhi {x0 : T_api_Image} {x1 : Int} {o : Int × Bool} (h : J4T x0 x1 = some o) :
  rk (J2 p) J6Z 0 [] (X (J2 p) J8x ⟨[(0, .data (J3 x0)), (1, .p (.i .i64 x1))], []⟩) = Jfg o := by
 unfold J4T at h
 obtain ⟨r1, h2, h⟩ := bi h
 have f3 : ∀ ws new s, (Jj (AF (J2 p)) J01 ([.p (.sl 3 (List.map J4 x0.Copies)), .p (.i .i64 x1), .fn J0o [] []], ws) 0 new).run s = some ⟨.tup [.p (.i .i64 r1.1), .p (.b r1.2)], ws⟩ := fun ws new s => (Jy (args' := [.p (.sl 3 (List.map J4 x0.Copies)), .p (.i .i64 x1), .fn J0o [] []]) (bs := []) (css := []) (css' := []) rfl rfl rfl rfl (J46 p h2) rfl rfl rfl ws new s trivial).trans (by simp)
 try simp only [Nf] at f3
 obtain rfl := sj h
 try simp only [↓Da, Ua, J8x, J9, J8, JmJ, *, ↓reduceIte, reduceEqDiff, reduceAdd, reduceLT, reduceMul]
 rfl
theorem Jmr {x0 : T_api_Image} {x1 : Int} {o : Int × Bool} (h : J4T x0 x1 = some o) : AF (J2 p) J5S [.data (J3 x0), .p (.i .i64 x1)] [] = Jfg o :=
 (J0f (J2 p) (JmD p) rfl).trans (Jhi p h)
theorem Jfj {x0 : T_api_Image} {x1 : Int} {o : Int × Bool} (h : J4T x0 x1 = some o) : ∀ ws new st, (Jj (AF (J2 p)) J5S ([.data (J3 x0), .p (.i .i64 x1)], ws) 0 new).run st = some ⟨.tup [.p (.i .i64 o.1), .p (.b o.2)], ws⟩ := Js rfl (Jmr p h) rfl
def J6R  (r : Bool) : Option Res := some (.p (.b r), [])
def Jk8 (b0 : T_api_Page) (o : (Int) ⊕ (Bool)) : Option Res := match o with
 | .inl s => rk (J2 p) J2p 0 [.bl 0, .sq (.keep [] J4v)] (X (J2 p) (.lp 1 [1, 3] J0H) ⟨[(1, .ptr 0 0), (3, .p (.i .i64 s))], [.box (List.map AV.p (J5 b0))]⟩)
 | .inr o => J6R o
def J97  : Option (Bool) :=
 some true
theorem Jkk {B0 : List PV} {o : Bool} (h : J97 = some o) :
  rk (J2 p) J2p 0 [] (X (J2 p) J4v ⟨[], [.box (List.map AV.p B0)]⟩) = J6R o := by
 unfold J97 at h
 obtain rfl := sj h
 try simp only [↓Da, Ua, J4v, Jc9, ↓reduceIte, reduceEqDiff, reduceAdd, reduceLT, reduceMul]
 rfl
def J1K (b0 : T_api_Page) (x3 : Int) : Option (((Int) ⊕ (Bool))) :=
 if (decide (x3 < 16)) then
  Option.bind (inb 16 x3) fun u2 =>
  Option.bind (J93 b0.Cells x3) fun y5 =>
  Option.bind (J0C y5) fun r8 =>
  if r8 then
   if ((b0.LSN : Int) == 0) then
    if y5.Set then
     some (.inr false)
    else
     some (.inl (IntKind.wrap .i64 (x3 + 1)))
   else
    some (.inl (IntKind.wrap .i64 (x3 + 1)))
  else
   some (.inr false)
 else
  Option.map (fun o => .inr o) (J97)
theorem JdB {b0 : T_api_Page} {x3 : Int} {o : ((Int) ⊕ (Bool))} (h : J1K b0 x3 = some o) :
  rk (J2 p) J2p 0 [.lo 1 [1, 3] J0H, .bl 0, .sq (.keep [] J4v)] (X (J2 p) J0H ⟨[(1, .ptr 0 0), (3, .p (.i .i64 x3))], [.box (List.map AV.p (J5 b0))]⟩) = (Jk8 p b0) o := by
 unfold J1K at h
 rcases Ja h with ⟨h1, h⟩ | ⟨h1, h⟩
 ·obtain ⟨u2, h3, h⟩ := bi h
  have f4 : (0 ≤ (x3 : Int) ∧ (x3 : Int) < ((16 : Nat) : Int)) = True := eq_true (J9A h3)
  obtain ⟨y5, h6, h⟩ := bi h
  have f7 : sub (J5 b0) (2 + Int.toNat x3 * 2) 2 = some (Ji y5) := by
   have e0 := (J89 (J1d b0) (J9X (v := b0.Cells) JZ (J5k h6).2))
   exact e0
  try simp only [Nf] at f7
  obtain ⟨r8, h9, h⟩ := bi h
  have f10 := Jhh p h9
  try simp only [Nf] at f10
  try simp only [↓Da, Ua, J0H, J7, J1, J6, *, ↓reduceIte, reduceEqDiff, reduceAdd, reduceLT, reduceMul]
  rcases Ja h with ⟨h11, h⟩ | ⟨h11, h⟩
  ·try simp only [↓Da, Ua, J0H, J7, J1, J6, *, ↓reduceIte, reduceEqDiff, reduceAdd, reduceLT, reduceMul]
   rcases Ja h with ⟨h12, h⟩ | ⟨h12, h⟩
   ·have h12n : ((b0.LSN : Int) != 0) = false := by rw [bne, h12]; rfl
    have f13 : sub (J5 b0) (2 + Int.toNat x3 * 2) 1 = some (r_b y5.Set) := by
     have e0 := (J89 (J89 (J1d b0) (J9X (v := b0.Cells) JZ (J5k h6).2)) (Jan y5))
     exact e0
    try simp only [Nf] at f13
    try simp only [↓Da, Ua, J0H, J7, J1, J6, *, ↓reduceIte, reduceEqDiff, reduceAdd, reduceLT, reduceMul]
    rcases Ja h with ⟨h14, h⟩ | ⟨h14, h⟩
    ·obtain rfl := sj h
     try simp only [↓Da, Ua, J0H, J7, J1, J6, Jc9, *, ↓reduceIte, reduceEqDiff, reduceAdd, reduceLT, reduceMul]
     rfl
    ·obtain rfl := sj h
     try simp only [↓Da, Ua, J0H, J7, J1, J6, *, ↓reduceIte, reduceEqDiff, reduceAdd, reduceLT, reduceMul]
     rfl
   ·have h12n : ((b0.LSN : Int) != 0) = true := by rw [bne, h12]; rfl
    obtain rfl := sj h
    try simp only [↓Da, Ua, J0H, J7, J1, J6, *, ↓reduceIte, reduceEqDiff, reduceAdd, reduceLT, reduceMul]
    rfl
  ·obtain rfl := sj h
   try simp only [↓Da, Ua, J0H, J7, J1, J6, Jc9, *, ↓reduceIte, reduceEqDiff, reduceAdd, reduceLT, reduceMul]
   rfl
 ·obtain ⟨o', h', rfl⟩ := mi h
  try simp only [↓Da, Ua, J0H, J7, J1, J6, *, ↓reduceIte, reduceEqDiff, reduceAdd, reduceLT, reduceMul]
  have e0 := Jkk p (B0 := (J5 b0)) h'
  first | exact e0 | (simp only [*] at e0; exact e0)
def Jdq (b0 : T_api_Page) (s : Int) : Option (Bool) :=
 Jx (fun s => J1K b0 s) s
theorem Jhz {b0 : T_api_Page} {s : Int} {o : Bool} (h : Jdq b0 s = some o) :
  rk (J2 p) J2p 0 [.bl 0, .sq (.keep [] J4v)] (X (J2 p) (.lp 1 [1, 3] J0H) ⟨[(1, .ptr 0 0), (3, .p (.i .i64 s))], [.box (List.map AV.p (J5 b0))]⟩) = J6R o := by
 have h0 : Jx (fun s => J1K b0 s) s = some o := h
 exact J0m (P := fun (s : Int) (o : Bool) => rk (J2 p) J2p 0 [.bl 0, .sq (.keep [] J4v)] (X (J2 p) (.lp 1 [1, 3] J0H) ⟨[(1, .ptr 0 0), (3, .p (.i .i64 s))], [.box (List.map AV.p (J5 b0))]⟩) = J6R o) (fun s r hs => by rw [J0k]; exact JdB p hs) (fun s s1 r hs ih => by rw [J0k]; exact (JdB p hs).trans ih) h0
def J5X (x0 : T_api_Page) : Option (Bool) :=
 Jdq x0 0
theorem JhE {x0 : T_api_Page} {o : Bool} (h : J5X x0 = some o) :
  rk (J2 p) J2p 0 [] (X (J2 p) J8q ⟨[(0, .data (J5 x0))], []⟩) = J6R o := by
 unfold J5X at h
 try simp only [↓Da, Ua, J8q, J7, J1, J6, ↓reduceIte, reduceEqDiff, reduceAdd, reduceLT, reduceMul]
 have e0 := Jhz p h
 first | exact e0 | (simp only [*] at e0; exact e0)
theorem Jme {x0 : T_api_Page} {o : Bool} (h : J5X x0 = some o) : AF (J2 p) J79 [.data (J5 x0)] [] = J6R o :=
 (J0f (J2 p) (JmL p) rfl).trans (JhE p h)
theorem Jmi {x0 : T_api_Page} {o : Bool} (h : J5X x0 = some o) : ∀ ws new st, (Jj (AF (J2 p)) J79 ([.data (J5 x0)], ws) 0 new).run st = some ⟨.p (.b o), ws⟩ := Js rfl (Jme p h) rfl
def Ji1  (r : T_api_Image × T_pagemenddraw_Codes) : Option Res := some (.data (J3 r.1), [.box (List.map AV.p (J0 r.2))])
def J8M (b0 : T_pagemenddraw_Codes) (x1 : T_api_Image) : Option (T_api_Image × T_pagemenddraw_Codes) :=
 Option.bind (Jrl 32 x1.Copies) fun u2 =>
 if (((((List.length x1.Copies) : Nat) : Int) : Int) == 0) then
  Option.bind (J2W b0) fun r5 =>
  Option.bind (J2W r5.2) fun r8 =>
  some ((⟨r5.1, r8.1, x1.Copies⟩ : T_api_Image), r8.2)
 else
  Option.bind (Jp b0 (((List.length x1.Copies) : Nat) : Int)) fun r11 =>
  Option.bind (idx x1.Copies r11.1) fun y15 =>
  Option.bind (Jp r11.2 4) fun r19 =>
  if ((r19.1 : Int) == 0) then
   Option.bind (Jp r19.2 8) fun r23 =>
   Option.bind (some (List.set x1.Copies (Int.toNat r11.1) (⟨(IntKind.wrap .i64 (r23.1 - 1)), y15.LSN, y15.Data⟩ : T_api_Copy))) fun m26 =>
   some ((⟨x1.ID, x1.Pages, m26⟩ : T_api_Image), r23.2)
  else
   if ((r19.1 : Int) == 1) then
    Option.bind (some (List.set x1.Copies (Int.toNat r11.1) (⟨y15.Page, (IntKind.wrap .i64 (y15.LSN + 1)), y15.Data⟩ : T_api_Copy))) fun m31 =>
    some ((⟨x1.ID, x1.Pages, m31⟩ : T_api_Image), r19.2)
   else
    if ((r19.1 : Int) == 2) then
     Option.bind (J3B r19.2 y15.Data) fun r36 =>
     Option.bind (some (List.set x1.Copies (Int.toNat r11.1) (⟨y15.Page, y15.LSN, r36.1⟩ : T_api_Copy))) fun m39 =>
     some ((⟨x1.ID, x1.Pages, m39⟩ : T_api_Image), r36.2)
    else
     if ((r19.1 : Int) == 3) then
      Option.bind (Jp r19.2 8) fun r44 =>
      some ((⟨x1.ID, r44.1, x1.Copies⟩ : T_api_Image), r44.2)
     else
      some ((⟨x1.ID, x1.Pages, x1.Copies⟩ : T_api_Image), r19.2)
theorem Jkf {b0 : T_pagemenddraw_Codes} {x1 : T_api_Image} {o : T_api_Image × T_pagemenddraw_Codes} (h : J8M b0 x1 = some o) :
  rk (J2 p) J8L 1 [] (X (J2 p) J1Q ⟨[(0, .ptr 0 0), (1, .data (J3 x1))], [.box (List.map AV.p (J0 b0))]⟩) = Ji1 o := by
 unfold J8M at h
 obtain ⟨u2, h3, h⟩ := bi h
 have f1 := (JtZ h3).1
 try simp only [Nf, Jl, Jm, JA] at f1
 try simp only [↓Da, Ua, Ra, J1Q, Jl, Jm, JA, *, ↓reduceIte, reduceEqDiff, reduceAdd, reduceLT, reduceMul, Nat.reduceBEq]
 rcases Ja h with ⟨h4, h⟩ | ⟨h4, h⟩
 ·have h4n : (((((List.length x1.Copies) : Nat) : Int) : Int) != 0) = false := by rw [bne, h4]; rfl
  obtain ⟨r5, h6, h⟩ := bi h
  have f7 : ∀ ws new s, JK ws s [0] [List.map AV.p (J0 b0)] → (Jj (AF (J2 p)) J2X ([.ptr 0 0], ws) 0 new).run s = some ⟨.p (.i .i64 r5.1), ws ++ [(0, .box (List.map AV.p (J0 r5.2)))]⟩ := Jy (args' := [.ptr 0 0]) (bs := [0]) (css := [List.map AV.p (J0 b0)]) (css' := [List.map AV.p (J0 r5.2)]) rfl rfl rfl (by simp [Jk, Jb]) (JcX p h6) rfl rfl (by simp [Jk, Jb])
  try simp only [Nf, Jl, Jm, JA] at f7
  obtain ⟨r8, h9, h⟩ := bi h
  have f10 : ∀ ws new s, JK ws s [0] [List.map AV.p (J0 r5.2)] → (Jj (AF (J2 p)) J2X ([.ptr 0 0], ws) 0 new).run s = some ⟨.p (.i .i64 r8.1), ws ++ [(0, .box (List.map AV.p (J0 r8.2)))]⟩ := Jy (args' := [.ptr 0 0]) (bs := [0]) (css := [List.map AV.p (J0 r5.2)]) (css' := [List.map AV.p (J0 r8.2)]) rfl rfl rfl (by simp [Jk, Jb]) (JcX p h9) rfl rfl (by simp [Jk, Jb])
  try simp only [Nf, Jl, Jm, JA] at f10
  obtain rfl := sj h
  try simp only [↓Da, Ua, Ra, J1Q, Jl, Jm, JA, J8P, *, ↓reduceIte, reduceEqDiff, reduceAdd, reduceLT, reduceMul, Nat.reduceBEq]
  rfl
 ·have h4n : (((((List.length x1.Copies) : Nat) : Int) : Int) != 0) = true := by rw [bne, h4]; rfl
  obtain ⟨r11, h12, h⟩ := bi h
  have f13 : ∀ ws new s, JK ws s [0] [List.map AV.p (J0 b0)] → (Jj (AF (J2 p)) Jc ([.ptr 0 0, .p (.i .i64 (((List.length x1.Copies) : Nat) : Int))], ws) 0 new).run s = some ⟨.p (.i .i64 r11.1), ws ++ [(0, .box (List.map AV.p (J0 r11.2)))]⟩ := Jy (args' := [.ptr 0 0, .p (.i .i64 (((List.length x1.Copies) : Nat) : Int))]) (bs := [0]) (css := [List.map AV.p (J0 b0)]) (css' := [List.map AV.p (J0 r11.2)]) rfl rfl rfl (by simp [Jk, Jb]) (Jv p h12) rfl rfl (by simp [Jk, Jb])
  try simp only [Nf, Jl, Jm, JA] at f13
  have f14 : ∀ ws k new s, JK ws s [0] [List.map AV.p (J0 b0)] → Jf ((Jj (AF (J2 p)) Jc ([.ptr 0 0, .p (.i .i64 (((List.length x1.Copies) : Nat) : Int))], ws) k new).reads s) = [0] ++ ([0] ++ [0]) := J9S (args' := [.ptr 0 0, .p (.i .i64 (((List.length x1.Copies) : Nat) : Int))]) (bs := [0]) (css := [List.map AV.p (J0 b0)]) rfl rfl rfl (by simp [Jk, Jb])
  try simp only [Nf, Jl, Jm, JA] at f14
  obtain ⟨y15, h16, h⟩ := bi h
  have f17 := Jes (r := J4) h16
  try simp only [Nf, Jl, Jm, JA] at f17
  have f18 : (0 ≤ (r11.1 : Int) ∧ (r11.1 : Int) < (((List.length x1.Copies) : Nat) : Int)) = True := eq_true (by have e0 := Jh5 h16; (try simp only [List.length_cons, List.length_nil, Nat.zero_add] at e0); omega)
  obtain ⟨r19, h20, h⟩ := bi h
  have f21 : ∀ ws new s, JK ws s [0] [List.map AV.p (J0 r11.2)] → (Jj (AF (J2 p)) Jc ([.ptr 0 0, .p (.i .i64 4)], ws) 0 new).run s = some ⟨.p (.i .i64 r19.1), ws ++ [(0, .box (List.map AV.p (J0 r19.2)))]⟩ := Jy (args' := [.ptr 0 0, .p (.i .i64 4)]) (bs := [0]) (css := [List.map AV.p (J0 r11.2)]) (css' := [List.map AV.p (J0 r19.2)]) rfl rfl rfl (by simp [Jk, Jb]) (Jv p h20) rfl rfl (by simp [Jk, Jb])
  try simp only [Nf, Jl, Jm, JA] at f21
  try simp only [↓Da, Ua, Ra, J1Q, Jl, Jm, JA, *, ↓reduceIte, reduceEqDiff, reduceAdd, reduceLT, reduceMul, Nat.reduceBEq]
  rcases Ja h with ⟨h22, h⟩ | ⟨h22, h⟩
  ·have h22n : ((r19.1 : Int) != 0) = false := by rw [bne, h22]; rfl
   obtain ⟨r23, h24, h⟩ := bi h
   have f25 : ∀ ws new s, JK ws s [0] [List.map AV.p (J0 r19.2)] → (Jj (AF (J2 p)) Jc ([.ptr 0 0, .p (.i .i64 8)], ws) 0 new).run s = some ⟨.p (.i .i64 r23.1), ws ++ [(0, .box (List.map AV.p (J0 r23.2)))]⟩ := Jy (args' := [.ptr 0 0, .p (.i .i64 8)]) (bs := [0]) (css := [List.map AV.p (J0 r19.2)]) (css' := [List.map AV.p (J0 r23.2)]) rfl rfl rfl (by simp [Jk, Jb]) (Jv p h24) rfl rfl (by simp [Jk, Jb])
   try simp only [Nf, Jl, Jm, JA] at f25
   obtain ⟨m26, h27, h⟩ := bi h
   have f28 : List.set (List.map J4 x1.Copies) (Int.toNat r11.1) (J4 (⟨(IntKind.wrap .i64 (r23.1 - 1)), y15.LSN, y15.Data⟩ : T_api_Copy)) = List.map J4 m26 := by
    rw [← Option.some.inj h27, List.map_set]
   try simp only [Nf, Jl, Jm, JA] at f28
   have g29 : List.length m26 = List.length x1.Copies := by rw [← Option.some.inj h27, List.length_set]
   obtain rfl := sj h
   try simp only [↓Da, Ua, Ra, J1Q, Jl, Jm, JA, J8P, *, ↓reduceIte, reduceEqDiff, reduceAdd, reduceLT, reduceMul, Nat.reduceBEq]
   rfl
  ·have h22n : ((r19.1 : Int) != 0) = true := by rw [bne, h22]; rfl
   try simp only [↓Da, Ua, Ra, J1Q, Jl, Jm, JA, *, ↓reduceIte, reduceEqDiff, reduceAdd, reduceLT, reduceMul, Nat.reduceBEq]
   rcases Ja h with ⟨h30, h⟩ | ⟨h30, h⟩
   ·have h30n : ((r19.1 : Int) != 1) = false := by rw [bne, h30]; rfl
    obtain ⟨m31, h32, h⟩ := bi h
    have f33 : List.set (List.map J4 x1.Copies) (Int.toNat r11.1) (J4 (⟨y15.Page, (IntKind.wrap .i64 (y15.LSN + 1)), y15.Data⟩ : T_api_Copy)) = List.map J4 m31 := by
     rw [← Option.some.inj h32, List.map_set]
    try simp only [Nf, Jl, Jm, JA] at f33
    have g34 : List.length m31 = List.length x1.Copies := by rw [← Option.some.inj h32, List.length_set]
    obtain rfl := sj h
    try simp only [↓Da, Ua, Ra, J1Q, Jl, Jm, JA, J8P, *, ↓reduceIte, reduceEqDiff, reduceAdd, reduceLT, reduceMul, Nat.reduceBEq]
    rfl
   ·have h30n : ((r19.1 : Int) != 1) = true := by rw [bne, h30]; rfl
    try simp only [↓Da, Ua, Ra, J1Q, Jl, Jm, JA, *, ↓reduceIte, reduceEqDiff, reduceAdd, reduceLT, reduceMul, Nat.reduceBEq]
    rcases Ja h with ⟨h35, h⟩ | ⟨h35, h⟩
    ·have h35n : ((r19.1 : Int) != 2) = false := by rw [bne, h35]; rfl
     obtain ⟨r36, h37, h⟩ := bi h
     have f38 : ∀ ws new s, JK ws s [0] [List.map AV.p (J0 r19.2)] → (Jj (AF (J2 p)) J3z ([.ptr 0 0, .p (.s y15.Data)], ws) 0 new).run s = some ⟨.p (.s r36.1), ws ++ [(0, .box (List.map AV.p (J0 r36.2)))]⟩ := Jy (args' := [.ptr 0 0, .p (.s y15.Data)]) (bs := [0]) (css := [List.map AV.p (J0 r19.2)]) (css' := [List.map AV.p (J0 r36.2)]) rfl rfl rfl (by simp [Jk, Jb]) (JfI p h37) rfl rfl (by simp [Jk, Jb])
     try simp only [Nf, Jl, Jm, JA] at f38
     obtain ⟨m39, h40, h⟩ := bi h
     have f41 : List.set (List.map J4 x1.Copies) (Int.toNat r11.1) (J4 (⟨y15.Page, y15.LSN, r36.1⟩ : T_api_Copy)) = List.map J4 m39 := by
      rw [← Option.some.inj h40, List.map_set]
     try simp only [Nf, Jl, Jm, JA] at f41
     have g42 : List.length m39 = List.length x1.Copies := by rw [← Option.some.inj h40, List.length_set]
     obtain rfl := sj h
     try simp only [↓Da, Ua, Ra, J1Q, Jl, Jm, JA, J8P, *, ↓reduceIte, reduceEqDiff, reduceAdd, reduceLT, reduceMul, Nat.reduceBEq]
     rfl
    ·have h35n : ((r19.1 : Int) != 2) = true := by rw [bne, h35]; rfl
     try simp only [↓Da, Ua, Ra, J1Q, Jl, Jm, JA, *, ↓reduceIte, reduceEqDiff, reduceAdd, reduceLT, reduceMul, Nat.reduceBEq]
     rcases Ja h with ⟨h43, h⟩ | ⟨h43, h⟩
     ·have h43n : ((r19.1 : Int) != 3) = false := by rw [bne, h43]; rfl
      obtain ⟨r44, h45, h⟩ := bi h
      have f46 : ∀ ws new s, JK ws s [0] [List.map AV.p (J0 r19.2)] → (Jj (AF (J2 p)) Jc ([.ptr 0 0, .p (.i .i64 8)], ws) 0 new).run s = some ⟨.p (.i .i64 r44.1), ws ++ [(0, .box (List.map AV.p (J0 r44.2)))]⟩ := Jy (args' := [.ptr 0 0, .p (.i .i64 8)]) (bs := [0]) (css := [List.map AV.p (J0 r19.2)]) (css' := [List.map AV.p (J0 r44.2)]) rfl rfl rfl (by simp [Jk, Jb]) (Jv p h45) rfl rfl (by simp [Jk, Jb])
      try simp only [Nf, Jl, Jm, JA] at f46
      obtain rfl := sj h
      try simp only [↓Da, Ua, Ra, J1Q, Jl, Jm, JA, J8P, *, ↓reduceIte, reduceEqDiff, reduceAdd, reduceLT, reduceMul, Nat.reduceBEq]
      rfl
     ·have h43n : ((r19.1 : Int) != 3) = true := by rw [bne, h43]; rfl
      obtain rfl := sj h
      try simp only [↓Da, Ua, Ra, J1Q, Jl, Jm, JA, J8P, *, ↓reduceIte, reduceEqDiff, reduceAdd, reduceLT, reduceMul, Nat.reduceBEq]
      rfl
theorem Jp4 {b0 : T_pagemenddraw_Codes} {x1 : T_api_Image} {o : T_api_Image × T_pagemenddraw_Codes} (h : J8M b0 x1 = some o) : AF (J2 p) J7z [.ptr 0 0, .data (J3 x1)] [.box (List.map AV.p (J0 b0))] = Ji1 o :=
 (J0f (J2 p) (JpN p) rfl).trans (Jkf p h)
def J6P  (r : (List UInt8) × Int) : Option Res := some (.tup [.p (.s r.1), .p (.i .i64 r.2)], [])
def JjP (x28 : Vector Je 16) (b0 : T_api_Page) (o : (Int × T_page_builder) ⊕ ((List UInt8) × Int)) : Option Res := match o with
 | .inl s => rk (J2 p) J2r 0 [.bl 1, .td 2 [1, 2, 3, 4], .sq (.keep [1, 4] J4o)] (X (J2 p) (.lp 2 [1, 4, 5, 28, 29] J3u) ⟨[(1, .ptr 0 0), (4, .ptr 1 0), (5, .fn J15 [.ptr 1 0] []), (28, .data ((J08 Ji) x28)), (29, .p (.i .i64 s.1))], [.box (List.map AV.p (J5 b0)), .box (List.map AV.p (J0P s.2))]⟩)
 | .inr o => J6P o
def J7k (b0 : T_api_Page) (b1 : T_page_builder) : Option ((List UInt8) × Int) :=
 Option.bind (J40 ([0]) (IntKind.wrap .i64 (244 - ((List.length b1.s_ : Nat) : Int)))) fun r1 =>
 Option.bind (J2I b1.s_ r1) fun s5 =>
 Option.bind (J2B s5) fun r7 =>
 Option.bind (J0w s5 (IntKind.wrap .i64 r7) 4) fun r11 =>
 Option.bind (J0w r11 b0.LSN 8) fun r15 =>
 some (r15, 0)
theorem Jka {b0 : T_api_Page} {b1 : T_page_builder} {o : (List UInt8) × Int} (h : J7k b0 b1 = some o) :
  rk (J2 p) J2r 0 [] (X (J2 p) J4o ⟨[(1, .ptr 0 0), (4, .ptr 1 0)], [.box (List.map AV.p (J5 b0)), .box (List.map AV.p (J0P b1))]⟩) = J6P o := by
 unfold J7k at h
 obtain ⟨r1, h2, h⟩ := bi h
 have f3 := Jaz p h2
 try simp only [Nf, JD] at f3
 have f4 : ∀ ws k new s, Jf ((Jj (AF (J2 p)) J2i ([.p (.s [0]), .p (.i .i64 (IntKind.wrap .i64 (244 - ((List.length b1.s_ : Nat) : Int))))], ws) k new).reads s) = [] := J04 rfl
 try simp only [Nf, JD] at f4
 obtain ⟨s5, h6, h⟩ := bi h
 obtain ⟨r7, h8, h⟩ := bi h
 have f9 := JdD p h8
 try simp only [Nf, JD] at f9
 have f10 : ∀ ws k new s, Jf ((Jj (AF (J2 p)) J5q ([.p (.s s5)], ws) k new).reads s) = [] := J04 rfl
 try simp only [Nf, JD] at f10
 obtain ⟨r11, h12, h⟩ := bi h
 have f13 := J7w p h12
 try simp only [Nf, JD] at f13
 have f14 : ∀ ws k new s, Jf ((Jj (AF (J2 p)) J1w ([.p (.s s5), .p (.i .i64 (IntKind.wrap .i64 r7)), .p (.i .i64 4)], ws) k new).reads s) = [] := J04 rfl
 try simp only [Nf, JD] at f14
 obtain ⟨r15, h16, h⟩ := bi h
 have f17 := J7w p h16
 try simp only [Nf, JD] at f17
 have f18 : ∀ ws k new s, Jf ((Jj (AF (J2 p)) J1w ([.p (.s r11), .p (.i .i64 b0.LSN), .p (.i .i64 8)], ws) k new).reads s) = [] := J04 rfl
 try simp only [Nf, JD] at f18
 obtain rfl := sj h
 try simp only [↓Da, Ua, Ra, J4o, J7, J1, J6, JD, JbS, *, ↓reduceIte, reduceEqDiff, reduceAdd, reduceLT, reduceMul, Nat.reduceBEq]
 rfl
def J28 (x28 : Vector Je 16) (b0 : T_api_Page) (x29 : Int) (b1 : T_page_builder) : Option (((Int × T_page_builder) ⊕ ((List UInt8) × Int))) :=
 if (decide (x29 < 16)) then
  Option.bind (J93 x28 x29) fun y2 =>
  Option.bind (J1U b1 y2) fun r6 =>
  some (.inl ((IntKind.wrap .i64 (x29 + 1)), r6))
 else
  Option.map (fun o => .inr o) (J7k b0 b1)
theorem Jdv {x28 : Vector Je 16} {b0 : T_api_Page} {x29 : Int} {b1 : T_page_builder} {o : ((Int × T_page_builder) ⊕ ((List UInt8) × Int))} (h : J28 x28 b0 x29 b1 = some o) :
  rk (J2 p) J2r 0 [.lo 2 [1, 4, 5, 28, 29] J3u, .bl 1, .td 2 [1, 2, 3, 4], .sq (.keep [1, 4] J4o)] (X (J2 p) J3u ⟨[(1, .ptr 0 0), (4, .ptr 1 0), (5, .fn J15 [.ptr 1 0] []), (28, .data ((J08 Ji) x28)), (29, .p (.i .i64 x29))], [.box (List.map AV.p (J5 b0)), .box (List.map AV.p (J0P b1))]⟩) = (JjP p x28 b0) o := by
 unfold J28 at h
 rcases Ja h with ⟨h1, h⟩ | ⟨h1, h⟩
 ·obtain ⟨y2, h3, h⟩ := bi h
  have f4 : (0 ≤ (x29 : Int) ∧ (x29 : Int) < ((16 : Nat) : Int)) = True := eq_true (J5k h3).1
  have f5 : sub (J08 Ji x28) (Int.toNat x29 * 2) 2 = some (Ji y2) := J9X JZ (J5k h3).2
  try simp only [Nf, JD] at f5
  obtain ⟨r6, h7, h⟩ := bi h
  have f8 : ∀ ws new s, JK ws s [1] [List.map AV.p (J0P b1)] → (Jj (AF (J2 p)) J15 ([.ptr 1 0, .data (Ji y2)], ws) 0 new).run s = some ⟨.tup [], ws ++ [(1, .box (List.map AV.p (J0P r6)))]⟩ := Jy (args' := [.ptr 0 0, .data (Ji y2)]) (bs := [1]) (css := [List.map AV.p (J0P b1)]) (css' := [List.map AV.p (J0P r6)]) rfl rfl rfl (by simp [Jk, Jb]) (JfG p h7) rfl rfl (by simp [Jk, Jb])
  try simp only [Nf, JD] at f8
  obtain rfl := sj h
  try simp only [↓Da, Ua, J3u, J7, JD, *, ↓reduceIte, reduceEqDiff, reduceAdd, reduceLT, reduceMul]
  rfl
 ·obtain ⟨o', h', rfl⟩ := mi h
  try simp only [↓Da, Ua, J3u, J7, JD, *, ↓reduceIte, reduceEqDiff, reduceAdd, reduceLT, reduceMul]
  have e0 := Jka p h'
  exact e0
def JaQ (x28 : Vector Je 16) (b0 : T_api_Page) (s : Int × T_page_builder) : Option ((List UInt8) × Int) :=
 Jx (fun s => J28 x28 b0 s.1 s.2) s
theorem JhI {x28 : Vector Je 16} {b0 : T_api_Page} {s : Int × T_page_builder} {o : (List UInt8) × Int} (h : JaQ x28 b0 s = some o) :
  rk (J2 p) J2r 0 [.bl 1, .td 2 [1, 2, 3, 4], .sq (.keep [1, 4] J4o)] (X (J2 p) (.lp 2 [1, 4, 5, 28, 29] J3u) ⟨[(1, .ptr 0 0), (4, .ptr 1 0), (5, .fn J15 [.ptr 1 0] []), (28, .data ((J08 Ji) x28)), (29, .p (.i .i64 s.1))], [.box (List.map AV.p (J5 b0)), .box (List.map AV.p (J0P s.2))]⟩) = J6P o := by
 have h0 : Jx (fun s => J28 x28 b0 s.1 s.2) s = some o := h
 exact J0m (P := fun (s : Int × T_page_builder) (o : (List UInt8) × Int) => rk (J2 p) J2r 0 [.bl 1, .td 2 [1, 2, 3, 4], .sq (.keep [1, 4] J4o)] (X (J2 p) (.lp 2 [1, 4, 5, 28, 29] J3u) ⟨[(1, .ptr 0 0), (4, .ptr 1 0), (5, .fn J15 [.ptr 1 0] []), (28, .data ((J08 Ji) x28)), (29, .p (.i .i64 s.1))], [.box (List.map AV.p (J5 b0)), .box (List.map AV.p (J0P s.2))]⟩) = J6P o) (fun s r hs => by rw [J0k]; exact Jdv p hs) (fun s s1 r hs ih => by rw [J0k]; exact (Jdv p hs).trans ih) h0
def J18 (x0 : T_api_Page) : Option ((List UInt8) × Int) :=
 Option.bind (J1F x0) fun r1 =>
 if r1 then
  Option.bind (J5s x0) fun r5 =>
  if r5 then
   Option.bind (J0w ([]) x0.LSN 8) fun r9 =>
   Option.bind (J0w r9 x0.ID 4) fun r13 =>
   JaQ x0.Cells x0 (0, (⟨r13⟩ : T_page_builder))
  else
   some (([] : List UInt8), 22)
 else
  some (([] : List UInt8), 1)
theorem Jhe {x0 : T_api_Page} {o : (List UInt8) × Int} (h : J18 x0 = some o) :
  rk (J2 p) J2r 0 [] (X (J2 p) J3X ⟨[(0, .data (J5 x0))], []⟩) = J6P o := by
 unfold J18 at h
 obtain ⟨r1, h2, h⟩ := bi h
 have f3 := JmA p h2
 try simp only [Nf, JD] at f3
 try simp only [↓Da, Ua, Ra, J3X, J7, J1, J6, JD, *, ↓reduceIte, reduceEqDiff, reduceAdd, reduceLT, reduceMul, Nat.reduceBEq]
 rcases Ja h with ⟨h4, h⟩ | ⟨h4, h⟩
 ·obtain ⟨r5, h6, h⟩ := bi h
  have f7 := Jok p h6
  try simp only [Nf, JD] at f7
  try simp only [↓Da, Ua, Ra, J3X, J7, J1, J6, JD, *, ↓reduceIte, reduceEqDiff, reduceAdd, reduceLT, reduceMul, Nat.reduceBEq]
  rcases Ja h with ⟨h8, h⟩ | ⟨h8, h⟩
  ·obtain ⟨r9, h10, h⟩ := bi h
   have f11 := J7w p h10
   try simp only [Nf, JD] at f11
   have f12 : ∀ ws k new s, Jf ((Jj (AF (J2 p)) J1w ([.p (.s []), .p (.i .i64 x0.LSN), .p (.i .i64 8)], ws) k new).reads s) = [] := J04 rfl
   try simp only [Nf, JD] at f12
   obtain ⟨r13, h14, h⟩ := bi h
   have f15 := J7w p h14
   try simp only [Nf, JD] at f15
   have f16 : ∀ ws k new s, Jf ((Jj (AF (J2 p)) J1w ([.p (.s r9), .p (.i .i64 x0.ID), .p (.i .i64 4)], ws) k new).reads s) = [] := J04 rfl
   try simp only [Nf, JD] at f16
   try simp only [↓Da, Ua, Ra, J3X, J7, J1, J6, JD, *, ↓reduceIte, reduceEqDiff, reduceAdd, reduceLT, reduceMul, Nat.reduceBEq]
   have e0 := JhI p h
   exact e0
  ·obtain rfl := sj h
   try simp only [↓Da, Ua, Ra, J3X, J7, J1, J6, JD, JbS, *, ↓reduceIte, reduceEqDiff, reduceAdd, reduceLT, reduceMul, Nat.reduceBEq]
   rfl
 ·obtain rfl := sj h
  try simp only [↓Da, Ua, Ra, J3X, J7, J1, J6, JD, JbS, *, ↓reduceIte, reduceEqDiff, reduceAdd, reduceLT, reduceMul, Nat.reduceBEq]
  rfl
theorem Jmp {x0 : T_api_Page} {o : (List UInt8) × Int} (h : J18 x0 = some o) : AF (J2 p) J75 [.data (J5 x0)] [] = J6P o :=
 (J0f (J2 p) (JmQ p) rfl).trans (Jhe p h)
theorem Jmn {x0 : T_api_Page} {o : (List UInt8) × Int} (h : J18 x0 = some o) : ∀ ws new st, (Jj (AF (J2 p)) J75 ([.data (J5 x0)], ws) 0 new).run st = some ⟨.tup [.p (.s o.1), .p (.i .i64 o.2)], ws⟩ := Js rfl (Jmp p h) rfl
end
end Go.Am
end
