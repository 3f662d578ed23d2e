/-
  Parts of a proof.
-/
import Derived.Test.YtiallbcnaadmoaaM9
open Nat (reduceEqDiff reduceAdd reduceLT reduceMul)
set_option linter.unusedSimpArgs false
set_option linter.unusedVariables false
section
namespace Go.Am
set_option maxRecDepth 8000
set_option maxHeartbeats 4000000
set_option linter.unusedSimpArgs false
set_option linter.unusedVariables false
noncomputable section
variable (p : FuncId → Option (List AV → List Blk → Option Res))
def JeN  (r : T_pagemenddraw_Codes) : Option Res := some (.ptr 0 0, [.box (List.map AV.p (J0 r))])
def J91 (x0 : List Int) : Option (T_pagemenddraw_Codes) :=
 some (⟨x0, 0⟩ : T_pagemenddraw_Codes)
theorem JgR {x0 : List Int} {o : T_pagemenddraw_Codes} (h : J91 x0 = some o) :
  rk (J1 p) J8g 0 [] (X (J1 p) Jd5 ⟨[(0, .p (.sl 1 (List.map (r_i .u8) x0)))], []⟩) = JeN o := by
 unfold J91 at h
 obtain rfl := sj h
 try simp only [↓Da, Ua, Jd5, Jd, JqP, ↓reduceIte, reduceEqDiff, reduceAdd, reduceLT, reduceMul]
 rfl
def J81 (x0 : List Int) (x1 : Int) : Option (T_pagemenddraw_Codes) :=
 if (decide (((List.length x0 : Nat) : Int) > x1)) then
  Option.bind (J0Z x0 none (some x1)) fun m2 =>
  J91 m2
 else
  J91 x0
theorem Jlg {x0 : List Int} {x1 : Int} {o : T_pagemenddraw_Codes} (h : J81 x0 x1 = some o) :
  rk (J1 p) J8g 0 [] (X (J1 p) J9l ⟨[(0, .p (.sl 1 (List.map (r_i .u8) x0))), (1, .p (.i .i64 x1))], []⟩) = JeN o := by
 unfold J81 at h
 rcases J8 h with ⟨h1, h⟩ | ⟨h1, h⟩
 ·obtain ⟨m2, h3, h⟩ := bi h
  have f4 : J8Z 1 (.p (.sl 1 (List.map (r_i .u8) x0))) none (some (.p (.i .i64 x1))) = some (.p (.sl 1 (List.map (r_i .u8) m2))) := Jsr (k := .i64) (lo := none) (hi := (some x1)) h3
  try simp only [Nf] at f4
  try simp only [↓Da, Ua, J9l, Jd, *, ↓reduceIte, reduceEqDiff, reduceAdd, reduceLT, reduceMul]
  have e0 := JgR p h
  exact e0
 ·try simp only [↓Da, Ua, J9l, Jd, *, ↓reduceIte, reduceEqDiff, reduceAdd, reduceLT, reduceMul]
  have e0 := JgR p h
  exact e0
theorem Jrb {x0 : List Int} {x1 : Int} {o : T_pagemenddraw_Codes} (h : J81 x0 x1 = some o) : AF (J1 p) J9s [.p (.sl 1 (List.map (r_i .u8) x0)), .p (.i .i64 x1)] [] = JeN o :=
 (J00 (J1 p) (Jr0 p) rfl).trans (Jlg p h)
def J7K  (r : Bool) : Option Res := some (.p (.b r), [])
def Jlm (b0 b1 : T_api_Image) (o : (Int) ⊕ (Bool)) : Option Res := match o with
 | .inl s => rk (J1 p) J2X 0 [.bl 0, .sq (.keep [] J54)] (X (J1 p) (.lp 2 [2, 3, 5] J2z) ⟨[(2, .ptr 0 0), (3, .ptr 1 0), (5, .p (.i .i64 s))], [.box (List.map AV.p (J3 b0)), .box (List.map AV.p (J3 b1))]⟩)
 | .inr o => J7K o
def Jbe  : Option (Bool) :=
 some true
theorem JkP {B0 B1 : List PV} {o : Bool} (h : Jbe = some o) :
  rk (J1 p) J2X 0 [] (X (J1 p) J54 ⟨[], [.box (List.map AV.p B0), .box (List.map AV.p B1)]⟩) = J7K o := by
 unfold Jbe at h
 obtain rfl := sj h
 try simp only [↓Da, Ua, J54, J90, ↓reduceIte, reduceEqDiff, reduceAdd, reduceLT, reduceMul]
 rfl
def J6d (b0 b1 : T_api_Image) (x5 : Int) : Option (((Int) ⊕ (Bool))) :=
 if (decide (x5 < ((List.length b0.Copies : Nat) : Int))) then
  Option.bind (idx b0.Copies x5) fun y2 =>
  Option.bind (idx b1.Copies x5) fun y5 =>
  if (y2 == y5) then
   some (.inl (IntKind.wrap .i64 (x5 + 1)))
  else
   some (.inr false)
 else
  Option.map (fun o => .inr o) (Jbe)
theorem Je6 {b0 b1 : T_api_Image} {x5 : Int} {o : ((Int) ⊕ (Bool))} (h : J6d b0 b1 x5 = some o) :
  rk (J1 p) J2X 0 [.lo 2 [2, 3, 5] J2z, .bl 0, .sq (.keep [] J54)] (X (J1 p) J2z ⟨[(2, .ptr 0 0), (3, .ptr 1 0), (5, .p (.i .i64 x5))], [.box (List.map AV.p (J3 b0)), .box (List.map AV.p (J3 b1))]⟩) = (Jlm p b0 b1) o := by
 unfold J6d at h
 rcases J8 h with ⟨h1, h⟩ | ⟨h1, h⟩
 ·obtain ⟨y2, h3, h⟩ := bi h
  have f4 := J43 (r := J5) h3
  try simp only [Nf] at f4
  obtain ⟨y5, h6, h⟩ := bi h
  have f7 := J43 (r := J5) h6
  try simp only [Nf] at f7
  try simp only [↓Da, Ua, J2z, Je, Ji, JcK, *, ↓reduceIte, reduceEqDiff, reduceAdd, reduceLT, reduceMul]
  rcases J8 h with ⟨h9, h⟩ | ⟨h9, h⟩
  ·obtain rfl := sj h
   try simp only [↓Da, Ua, J2z, Je, Ji, JcK, *, ↓reduceIte, reduceEqDiff, reduceAdd, reduceLT, reduceMul]
   rfl
  ·obtain rfl := sj h
   try simp only [↓Da, Ua, J2z, Je, Ji, JcK, J90, *, ↓reduceIte, reduceEqDiff, reduceAdd, reduceLT, reduceMul]
   rfl
 ·obtain ⟨o', h', rfl⟩ := mi h
  try simp only [↓Da, Ua, J2z, Je, Ji, *, ↓reduceIte, reduceEqDiff, reduceAdd, reduceLT, reduceMul]
  have e0 := JkP p (B0 := (J3 b0)) (B1 := (J3 b1)) h'
  exact e0
def Jbi (b0 b1 : T_api_Image) (s : Int) : Option (Bool) :=
 Jr (fun s => J6d b0 b1 s) s
theorem Jin {b0 b1 : T_api_Image} {s : Int} {o : Bool} (h : Jbi b0 b1 s = some o) :
  rk (J1 p) J2X 0 [.bl 0, .sq (.keep [] J54)] (X (J1 p) (.lp 2 [2, 3, 5] J2z) ⟨[(2, .ptr 0 0), (3, .ptr 1 0), (5, .p (.i .i64 s))], [.box (List.map AV.p (J3 b0)), .box (List.map AV.p (J3 b1))]⟩) = J7K o := by
 have h0 : Jr (fun s => J6d b0 b1 s) s = some o := h
 exact J04 (P := fun (s : Int) (o : Bool) => rk (J1 p) J2X 0 [.bl 0, .sq (.keep [] J54)] (X (J1 p) (.lp 2 [2, 3, 5] J2z) ⟨[(2, .ptr 0 0), (3, .ptr 1 0), (5, .p (.i .i64 s))], [.box (List.map AV.p (J3 b0)), .box (List.map AV.p (J3 b1))]⟩) = J7K o) (fun s r hs => by rw [J03]; exact Je6 p hs) (fun s s1 r hs ih => by rw [J03]; exact (Je6 p hs).trans ih) h0
def J6s (x0 x1 : T_api_Image) : Option (Bool) :=
 if ((x0.ID : Int) != x1.ID) then
  some false
 else
  if ((x0.Pages : Int) != x1.Pages) then
   some false
  else
   if ((((List.length x0.Copies : Nat) : Int) : Int) != ((List.length x1.Copies : Nat) : Int)) then
    some false
   else
    Jbi x0 x1 0
theorem Jjh {x0 x1 : T_api_Image} {o : Bool} (h : J6s x0 x1 = some o) :
  rk (J1 p) J2X 0 [] (X (J1 p) J3I ⟨[(0, .data (J3 x0)), (1, .data (J3 x1))], []⟩) = J7K o := by
 unfold J6s at h
 rcases J8 h with ⟨h1, h⟩ | ⟨h1, h⟩
 ·obtain rfl := sj h
  try simp only [↓Da, Ua, J3I, Je, Ji, J90, *, ↓reduceIte, reduceEqDiff, reduceAdd, reduceLT, reduceMul]
  rfl
 ·try simp only [↓Da, Ua, J3I, Je, Ji, *, ↓reduceIte, reduceEqDiff, reduceAdd, reduceLT, reduceMul]
  rcases J8 h with ⟨h2, h⟩ | ⟨h2, h⟩
  ·obtain rfl := sj h
   try simp only [↓Da, Ua, J3I, Je, Ji, J90, *, ↓reduceIte, reduceEqDiff, reduceAdd, reduceLT, reduceMul]
   rfl
  ·try simp only [↓Da, Ua, J3I, Je, Ji, *, ↓reduceIte, reduceEqDiff, reduceAdd, reduceLT, reduceMul]
   rcases J8 h with ⟨h3, h⟩ | ⟨h3, h⟩
   ·obtain rfl := sj h
    try simp only [↓Da, Ua, J3I, Je, Ji, J90, *, ↓reduceIte, reduceEqDiff, reduceAdd, reduceLT, reduceMul]
    rfl
   ·try simp only [↓Da, Ua, J3I, Je, Ji, *, ↓reduceIte, reduceEqDiff, reduceAdd, reduceLT, reduceMul]
    have e0 := Jin p h
    exact e0
theorem Jo1 {x0 x1 : T_api_Image} {o : Bool} (h : J6s x0 x1 = some o) : AF (J1 p) J7N [.data (J3 x0), .data (J3 x1)] [] = J7K o :=
 (J00 (J1 p) (JnF p) rfl).trans (Jjh p h)
theorem Jnu {x0 x1 : T_api_Image} {o : Bool} (h : J6s x0 x1 = some o) : ∀ ws new st, (Jm (AF (J1 p)) J7N ([.data (J3 x0), .data (J3 x1)], ws) 0 new).run st = some ⟨.p (.b o), ws⟩ := Jt rfl (Jo1 p h) rfl
def J7u  (r : Int × T_pagemenddraw_Codes) : Option Res := some (.p (.i .i64 r.1), [.box (List.map AV.p (J0 r.2))])
def J2G (rec : T_pagemenddraw_Codes → Int → Option (Int × T_pagemenddraw_Codes)) (b0 : T_pagemenddraw_Codes) (x1 : Int) : Option (Int × T_pagemenddraw_Codes) :=
 if (decide (b0.at_ ≥ ((List.length b0.l_ : Nat) : Int))) then
  some (0, b0)
 else
  if (decide (x1 < 1)) then
   some (0, b0)
  else
   Option.bind (idx b0.l_ b0.at_) fun y3 =>
   if (decide (x1 > 256)) then
    Option.bind (rec (⟨b0.l_, (IntKind.wrap .i64 (b0.at_ + 1))⟩ : T_pagemenddraw_Codes) 256) fun r7 =>
    Option.bind (Jl0 (IntKind.wrap .i64 ((IntKind.wrap .i64 (256 * (IntKind.wrap .i64 y3))) + r7.1)) x1) fun q10 =>
    some (q10, r7.2)
   else
    Option.bind (Jl0 (IntKind.wrap .i64 y3) x1) fun q12 =>
    some (q12, (⟨b0.l_, (IntKind.wrap .i64 (b0.at_ + 1))⟩ : T_pagemenddraw_Codes))
theorem Je5 {rec : T_pagemenddraw_Codes → Int → Option (Int × T_pagemenddraw_Codes)} (hrec : ∀ {b0 : T_pagemenddraw_Codes} {x1 : Int} {o : Int × T_pagemenddraw_Codes}, rec b0 x1 = some o → AF (J1 p) Jb [.ptr 0 0, .p (.i .i64 x1)] [.box (List.map AV.p (J0 b0))] = J7u o) {b0 : T_pagemenddraw_Codes} {x1 : Int} {o : Int × T_pagemenddraw_Codes} (h : J2G rec b0 x1 = some o) :
  rk (J1 p) J4D 1 [] (X (J1 p) J1q ⟨[(0, .ptr 0 0), (1, .p (.i .i64 x1))], [.box (List.map AV.p (J0 b0))]⟩) = J7u o := by
 unfold J2G at h
 rcases J8 h with ⟨h1, h⟩ | ⟨h1, h⟩
 ·obtain rfl := sj h
  try simp only [↓Da, Ua, J1q, Jd, J7y, *, ↓reduceIte, reduceEqDiff, reduceAdd, reduceLT, reduceMul]
  rfl
 ·try simp only [↓Da, Ua, J1q, Jd, *, ↓reduceIte, reduceEqDiff, reduceAdd, reduceLT, reduceMul]
  rcases J8 h with ⟨h2, h⟩ | ⟨h2, h⟩
  ·obtain rfl := sj h
   try simp only [↓Da, Ua, J1q, Jd, J7y, *, ↓reduceIte, reduceEqDiff, reduceAdd, reduceLT, reduceMul]
   rfl
  ·obtain ⟨y3, h4, h⟩ := bi h
   have f5 := J43 (r := (r_i .u8)) h4
   try simp only [Nf] at f5
   try simp only [↓Da, Ua, J1q, Jd, *, ↓reduceIte, reduceEqDiff, reduceAdd, reduceLT, reduceMul]
   rcases J8 h with ⟨h6, h⟩ | ⟨h6, h⟩
   ·obtain ⟨r7, h8, h⟩ := bi h
    have f9 : ∀ ws new s, JG ws s [0] [List.map AV.p (J0 (⟨b0.l_, (IntKind.wrap .i64 (b0.at_ + 1))⟩ : T_pagemenddraw_Codes))] → (Jm (AF (J1 p)) Jb ([.ptr 0 0, .p (.i .i64 256)], ws) 0 new).run s = some ⟨.p (.i .i64 r7.1), ws ++ [(0, .box (List.map AV.p (J0 r7.2)))]⟩ := Jy (args' := [.ptr 0 0, .p (.i .i64 256)]) (bs := [0]) (css := [List.map AV.p (J0 (⟨b0.l_, (IntKind.wrap .i64 (b0.at_ + 1))⟩ : T_pagemenddraw_Codes))]) (css' := [List.map AV.p (J0 r7.2)]) rfl rfl rfl (by simp [Jl, J9]) (hrec h8) rfl rfl (by simp [Jl, J9])
    try simp only [Nf] at f9
    obtain ⟨q10, h11, h⟩ := bi h
    obtain rfl := sj h
    try simp only [↓Da, Ua, J1q, Jd, J7y, *, ↓reduceIte, reduceEqDiff, reduceAdd, reduceLT, reduceMul]
    rfl
   ·obtain ⟨q12, h13, h⟩ := bi h
    obtain rfl := sj h
    try simp only [↓Da, Ua, J1q, Jd, J7y, *, ↓reduceIte, reduceEqDiff, reduceAdd, reduceLT, reduceMul]
    rfl
def J0t : Nat → T_pagemenddraw_Codes → Int → Option (Int × T_pagemenddraw_Codes)
 | 0 => fun _ _ => none
 | n + 1 => J2G (J0t n)
def Jp : T_pagemenddraw_Codes → Int → Option (Int × T_pagemenddraw_Codes) := J0t 12
theorem Jb1 : ∀ n, ∀ {b0 : T_pagemenddraw_Codes} {x1 : Int} {o : Int × T_pagemenddraw_Codes}, J0t n b0 x1 = some o → AF (J1 p) Jb [.ptr 0 0, .p (.i .i64 x1)] [.box (List.map AV.p (J0 b0))] = J7u o
 | 0 => fun h => by cases h
 | n + 1 => fun h => (J00 (J1 p) (JhB p) rfl).trans (Je5 p (Jb1 n) h)
theorem Jv {b0 : T_pagemenddraw_Codes} {x1 : Int} {o : Int × T_pagemenddraw_Codes} (h : Jp b0 x1 = some o) : AF (J1 p) Jb [.ptr 0 0, .p (.i .i64 x1)] [.box (List.map AV.p (J0 b0))] = J7u o := Jb1 p 12 h
def J48  (r : (List UInt8) × T_pagemenddraw_Codes) : Option Res := some (.p (.s r.1), [.box (List.map AV.p (J0 r.2))])
def JaS (x4 : Int) (b0 : T_pagemenddraw_Codes) (o : (Int × (List Int)) ⊕ ((List UInt8) × T_pagemenddraw_Codes)) : Option Res := match o with
 | .inl s => rk (J1 p) J0K 1 [.bl 0, .sq (.keep [0, 3] J2h)] (X (J1 p) (.lp 2 [0, 3, 4, 5] J1C) ⟨[(0, .ptr 0 0), (3, .slr 1 0 (List.length s.2)), (4, .p (.i .u8 x4)), (5, .p (.i .i64 s.1))], [.box (List.map AV.p (J0 b0)), .arr true 1 (List.map (r_i .u8) s.2)]⟩)
 | .inr o => J48 o
def J60 (b0 : T_pagemenddraw_Codes) (l1 : List Int) : Option ((List UInt8) × T_pagemenddraw_Codes) :=
 Option.bind (Jp b0 256) fun r1 =>
 Option.bind (Jp r1.2 256) fun r4 =>
 Option.bind (idx l1 r1.1) fun y7 =>
 Option.bind (some (List.set l1 (Int.toNat r1.1) (IntKind.wrap .u8 r4.1))) fun m11 =>
 some ((toStr m11), r4.2)
theorem JeA {b0 : T_pagemenddraw_Codes} {l1 : List Int} {o : (List UInt8) × T_pagemenddraw_Codes} (h : J60 b0 l1 = some o) :
  rk (J1 p) J0K 1 [] (X (J1 p) J2h ⟨[(0, .ptr 0 0), (3, .slr 1 0 (List.length l1))], [.box (List.map AV.p (J0 b0)), .arr true 1 (List.map (r_i .u8) l1)]⟩) = J48 o := by
 unfold J60 at h
 obtain ⟨r1, h2, h⟩ := bi h
 have f3 : ∀ ws new s, JG ws s [0] [List.map AV.p (J0 b0)] → (Jm (AF (J1 p)) Jb ([.ptr 0 0, .p (.i .i64 256)], ws) 0 new).run s = some ⟨.p (.i .i64 r1.1), ws ++ [(0, .box (List.map AV.p (J0 r1.2)))]⟩ := Jy (args' := [.ptr 0 0, .p (.i .i64 256)]) (bs := [0]) (css := [List.map AV.p (J0 b0)]) (css' := [List.map AV.p (J0 r1.2)]) rfl rfl rfl (by simp [Jl, J9]) (Jv p h2) rfl rfl (by simp [Jl, J9])
 try simp only [Nf] at f3
 obtain ⟨r4, h5, h⟩ := bi h
 have f6 : ∀ ws new s, JG ws s [0] [List.map AV.p (J0 r1.2)] → (Jm (AF (J1 p)) Jb ([.ptr 0 0, .p (.i .i64 256)], ws) 0 new).run s = some ⟨.p (.i .i64 r4.1), ws ++ [(0, .box (List.map AV.p (J0 r4.2)))]⟩ := Jy (args' := [.ptr 0 0, .p (.i .i64 256)]) (bs := [0]) (css := [List.map AV.p (J0 r1.2)]) (css' := [List.map AV.p (J0 r4.2)]) rfl rfl rfl (by simp [Jl, J9]) (Jv p h5) rfl rfl (by simp [Jl, J9])
 try simp only [Nf] at f6
 obtain ⟨y7, h8, h⟩ := bi h
 have f9 := Jj5 (r := (r_i .u8)) h8
 try simp only [Nf] at f9
 have f10 : (0 ≤ (r1.1 : Int) ∧ (r1.1 : Int) < (((List.length l1) : Nat) : Int)) = True := eq_true (by have e0 := Jlp h8; (try simp only [List.length_cons, List.length_nil, Nat.zero_add] at e0); omega)
 obtain ⟨m11, h12, h⟩ := bi h
 have f13 : List.set (List.map (r_i .u8) l1) (Int.toNat r1.1) ((r_i .u8) (IntKind.wrap .u8 r4.1)) = List.map (r_i .u8) m11 := by
  rw [← Option.some.inj h12, List.map_set]
 try simp only [Nf] at f13
 have g14 : List.length m11 = List.length l1 := by rw [← Option.some.inj h12, List.length_set]
 obtain rfl := sj h
 try simp only [↓Da, Ua, J2h, Jd, JgV, *, ↓reduceIte, reduceEqDiff, reduceAdd, reduceLT, reduceMul]
 rfl
def J2c (x4 : Int) (b0 : T_pagemenddraw_Codes) (x5 : Int) (l1 : List Int) : Option (((Int × (List Int)) ⊕ ((List UInt8) × T_pagemenddraw_Codes))) :=
 if (decide (x5 < (((List.length l1) : Nat) : Int))) then
  Option.bind (idx l1 x5) fun y2 =>
  Option.bind (some (List.set l1 (Int.toNat x5) x4)) fun m6 =>
  some (.inl ((IntKind.wrap .i64 (x5 + 1)), m6))
 else
  Option.map (fun o => .inr o) (J60 b0 l1)
theorem JaV {x4 : Int} {b0 : T_pagemenddraw_Codes} {x5 : Int} {l1 : List Int} {o : ((Int × (List Int)) ⊕ ((List UInt8) × T_pagemenddraw_Codes))} (h : J2c x4 b0 x5 l1 = some o) :
  rk (J1 p) J0K 1 [.lo 2 [0, 3, 4, 5] J1C, .bl 0, .sq (.keep [0, 3] J2h)] (X (J1 p) J1C ⟨[(0, .ptr 0 0), (3, .slr 1 0 (List.length l1)), (4, .p (.i .u8 x4)), (5, .p (.i .i64 x5))], [.box (List.map AV.p (J0 b0)), .arr true 1 (List.map (r_i .u8) l1)]⟩) = (JaS p x4 b0) o := by
 unfold J2c at h
 rcases J8 h with ⟨h1, h⟩ | ⟨h1, h⟩
 ·obtain ⟨y2, h3, h⟩ := bi h
  have f4 := Jj5 (r := (r_i .u8)) h3
  try simp only [Nf] at f4
  have f5 : (0 ≤ (x5 : Int) ∧ (x5 : Int) < (((List.length l1) : Nat) : Int)) = True := eq_true (by have e0 := Jlp h3; (try simp only [List.length_cons, List.length_nil, Nat.zero_add] at e0); omega)
  obtain ⟨m6, h7, h⟩ := bi h
  have f8 : List.set (List.map (r_i .u8) l1) (Int.toNat x5) ((r_i .u8) x4) = List.map (r_i .u8) m6 := by
   rw [← Option.some.inj h7, List.map_set]
  try simp only [Nf] at f8
  have g9 : List.length m6 = List.length l1 := by rw [← Option.some.inj h7, List.length_set]
  obtain rfl := sj h
  try simp only [↓Da, Ua, J1C, *, ↓reduceIte, reduceEqDiff, reduceAdd, reduceLT, reduceMul]
  try simp only [JaS, g9]
  try rfl
 ·obtain ⟨o', h', rfl⟩ := mi h
  try simp only [↓Da, Ua, J1C, *, ↓reduceIte, reduceEqDiff, reduceAdd, reduceLT, reduceMul]
  have e0 := JeA p h'
  exact e0
def Jax (x4 : Int) (b0 : T_pagemenddraw_Codes) (s : Int × (List Int)) : Option ((List UInt8) × T_pagemenddraw_Codes) :=
 Jr (fun s => J2c x4 b0 s.1 s.2) s
theorem JdW {x4 : Int} {b0 : T_pagemenddraw_Codes} {s : Int × (List Int)} {o : (List UInt8) × T_pagemenddraw_Codes} (h : Jax x4 b0 s = some o) :
  rk (J1 p) J0K 1 [.bl 0, .sq (.keep [0, 3] J2h)] (X (J1 p) (.lp 2 [0, 3, 4, 5] J1C) ⟨[(0, .ptr 0 0), (3, .slr 1 0 (List.length s.2)), (4, .p (.i .u8 x4)), (5, .p (.i .i64 s.1))], [.box (List.map AV.p (J0 b0)), .arr true 1 (List.map (r_i .u8) s.2)]⟩) = J48 o := by
 have h0 : Jr (fun s => J2c x4 b0 s.1 s.2) s = some o := h
 exact J04 (P := fun (s : Int × (List Int)) (o : (List UInt8) × T_pagemenddraw_Codes) => rk (J1 p) J0K 1 [.bl 0, .sq (.keep [0, 3] J2h)] (X (J1 p) (.lp 2 [0, 3, 4, 5] J1C) ⟨[(0, .ptr 0 0), (3, .slr 1 0 (List.length s.2)), (4, .p (.i .u8 x4)), (5, .p (.i .i64 s.1))], [.box (List.map AV.p (J0 b0)), .arr true 1 (List.map (r_i .u8) s.2)]⟩) = J48 o) (fun s r hs => by rw [J03]; exact JaV p hs) (fun s s1 r hs ih => by rw [J03]; exact (JaV p hs).trans ih) h0
def J2R (b0 : T_pagemenddraw_Codes) : Option ((List UInt8) × T_pagemenddraw_Codes) :=
 Option.bind (mkS 1 256 256 0) fun m1 =>
 Option.bind (Jp b0 256) fun r6 =>
 Jax (IntKind.wrap .u8 r6.1) r6.2 (0, m1)
theorem JdM {b0 : T_pagemenddraw_Codes} {o : (List UInt8) × T_pagemenddraw_Codes} (h : J2R b0 = some o) :
  rk (J1 p) J0K 1 [] (X (J1 p) J5r ⟨[(0, .ptr 0 0)], [.box (List.map AV.p (J0 b0))]⟩) = J48 o := by
 unfold J2R at h
 obtain ⟨m1, h2, h⟩ := bi h
 have f3 : (0 ≤ (256 : Int) ∧ (256 : Int) ≤ 256 ∧ ((1 : Nat) : Int) * 256 ≤ 281474976710656 ∧ (256 : Int) ≤ 281474976710656) = True := eq_true (Jao h2).1
 have f4 : List.replicate (Int.toNat 256) ((r_i .u8) 0) = List.map (r_i .u8) m1 := by rw [(Jao h2).2, List.map_replicate]
 try simp only [Nf] at f4
 have g5 : List.length m1 = Int.toNat 256 := by rw [(Jao h2).2, List.length_replicate]
 obtain ⟨r6, h7, h⟩ := bi h
 have f8 : ∀ ws new s, JG ws s [0] [List.map AV.p (J0 b0)] → (Jm (AF (J1 p)) Jb ([.ptr 0 0, .p (.i .i64 256)], ws) 0 new).run s = some ⟨.p (.i .i64 r6.1), ws ++ [(0, .box (List.map AV.p (J0 r6.2)))]⟩ := Jy (args' := [.ptr 0 0, .p (.i .i64 256)]) (bs := [0]) (css := [List.map AV.p (J0 b0)]) (css' := [List.map AV.p (J0 r6.2)]) rfl rfl rfl (by simp [Jl, J9]) (Jv p h7) rfl rfl (by simp [Jl, J9])
 try simp only [Nf] at f8
 try simp only [↓Da, Ua, J5r, Jd, *, ↓reduceIte, reduceEqDiff, reduceAdd, reduceLT, reduceMul]
 have e0 := JdW p h
 try simp only [g5] at e0
 exact e0
theorem JgJ {b0 : T_pagemenddraw_Codes} {o : (List UInt8) × T_pagemenddraw_Codes} (h : J2R b0 = some o) : AF (J1 p) J40 [.ptr 0 0] [.box (List.map AV.p (J0 b0))] = J48 o :=
 (J00 (J1 p) (JgC p) rfl).trans (JdM p h)
def J3f  (r : (List UInt8) × T_pagemenddraw_Codes) : Option Res := some (.p (.s r.1), [.box (List.map AV.p (J0 r.2))])
def JfO (x3 : Int) (w1 : Bool) (o : (Int × T_pagemenddraw_Codes × (List Int)) ⊕ ((List UInt8) × T_pagemenddraw_Codes)) : Option Res := match o with
 | .inl s => rk (J1 p) J0D 1 [.bl 0, .sq (.keep [4] J2H)] (X (J1 p) (.lp 2 [0, 3, 4, 5] J1M) ⟨[(0, .ptr 0 0), (3, .p (.i .i64 x3)), (4, .slr 1 0 (List.length s.2.2)), (5, .p (.i .i64 s.1))], [.box (List.map AV.p (J0 s.2.1)), .arr w1 1 (List.map (r_i .u8) s.2.2)]⟩)
 | .inr o => J3f o
def J6B (b0 : T_pagemenddraw_Codes) (l1 : List Int) : Option ((List UInt8) × T_pagemenddraw_Codes) :=
 some ((toStr l1), b0)
theorem JfY {b0 : T_pagemenddraw_Codes} {l1 : List Int} {w1 : Bool} {o : (List UInt8) × T_pagemenddraw_Codes} (h : J6B b0 l1 = some o) :
  rk (J1 p) J0D 1 [] (X (J1 p) J2H ⟨[(4, .slr 1 0 (List.length l1))], [.box (List.map AV.p (J0 b0)), .arr w1 1 (List.map (r_i .u8) l1)]⟩) = J3f o := by
 unfold J6B at h
 obtain rfl := sj h
 try simp only [↓Da, Ua, J2H, JhN, ↓reduceIte, reduceEqDiff, reduceAdd, reduceLT, reduceMul]
 rfl
def J2J (x3 x5 : Int) (b0 : T_pagemenddraw_Codes) (l1 : List Int) : Option (((Int × T_pagemenddraw_Codes × (List Int)) ⊕ ((List UInt8) × T_pagemenddraw_Codes))) :=
 if (decide (x5 < x3)) then
  Option.bind (Jp b0 3) fun r2 =>
  Option.bind (Jbf 1 l1 ([(IntKind.wrap .u8 (IntKind.wrap .i64 (97 + r2.1)))] : List Int)) fun m5 =>
  some (.inl ((IntKind.wrap .i64 (x5 + 1)), r2.2, m5))
 else
  Option.map (fun o => .inr o) (J6B b0 l1)
theorem Jb6 {x3 x5 : Int} {b0 : T_pagemenddraw_Codes} {l1 : List Int} {w1 : Bool} {o : ((Int × T_pagemenddraw_Codes × (List Int)) ⊕ ((List UInt8) × T_pagemenddraw_Codes))} (h : J2J x3 x5 b0 l1 = some o) :
  rk (J1 p) J0D 1 [.lo 2 [0, 3, 4, 5] J1M, .bl 0, .sq (.keep [4] J2H)] (X (J1 p) J1M ⟨[(0, .ptr 0 0), (3, .p (.i .i64 x3)), (4, .slr 1 0 (List.length l1)), (5, .p (.i .i64 x5))], [.box (List.map AV.p (J0 b0)), .arr w1 1 (List.map (r_i .u8) l1)]⟩) = (JfO p x3 w1) o := by
 unfold J2J at h
 rcases J8 h with ⟨h1, h⟩ | ⟨h1, h⟩
 ·obtain ⟨r2, h3, h⟩ := bi h
  have f4 : ∀ ws new s, JG ws s [0] [List.map AV.p (J0 b0)] → (Jm (AF (J1 p)) Jb ([.ptr 0 0, .p (.i .i64 3)], ws) 0 new).run s = some ⟨.p (.i .i64 r2.1), ws ++ [(0, .box (List.map AV.p (J0 r2.2)))]⟩ := Jy (args' := [.ptr 0 0, .p (.i .i64 3)]) (bs := [0]) (css := [List.map AV.p (J0 b0)]) (css' := [List.map AV.p (J0 r2.2)]) rfl rfl rfl (by simp [Jl, J9]) (Jv p h3) rfl rfl (by simp [Jl, J9])
  try simp only [Nf] at f4
  obtain ⟨m5, h6, h⟩ := bi h
  have f7 : ∀ s : St, s.sto[1]? = some (.arr w1 1 (List.map (r_i .u8) l1)) → (JT 1 (.p (.sl 1 (List.map (r_i .u8) ([(IntKind.wrap .u8 (IntKind.wrap .i64 (97 + r2.1)))] : List Int))))).run s = some (List.map (r_i .u8) ([(IntKind.wrap .u8 (IntKind.wrap .i64 (97 + r2.1)))] : List Int)) → (J4t 1 1 (.slr 1 0 (List.length l1)) (.p (.sl 1 (List.map (r_i .u8) ([(IntKind.wrap .u8 (IntKind.wrap .i64 (97 + r2.1)))] : List Int))))).run s = some ⟨.slr 1 0 (List.length m5), [(1, .arr w1 1 (List.map (r_i .u8) m5))]⟩ := by
   intro s e1 e2; have e3 := Jct h6 e1 e2; try simp only [List.length_cons, List.length_nil, Nat.zero_add] at e3
   exact e3
  try simp only [Nf] at f7
  obtain rfl := sj h
  try simp only [↓Da, Ua, J1M, Jd, *, ↓reduceIte, reduceEqDiff, reduceAdd, reduceLT, reduceMul]
  rfl
 ·obtain ⟨o', h', rfl⟩ := mi h
  try simp only [↓Da, Ua, J1M, Jd, *, ↓reduceIte, reduceEqDiff, reduceAdd, reduceLT, reduceMul]
  have e0 := JfY p (w1 := w1) h'
  exact e0
def Jb8 (x3 : Int) (s : Int × T_pagemenddraw_Codes × (List Int)) : Option ((List UInt8) × T_pagemenddraw_Codes) :=
 Jr (fun s => J2J x3 s.1 s.2.1 s.2.2) s
theorem Je1 {x3 : Int} {w1 : Bool} {s : Int × T_pagemenddraw_Codes × (List Int)} {o : (List UInt8) × T_pagemenddraw_Codes} (h : Jb8 x3 s = some o) :
  rk (J1 p) J0D 1 [.bl 0, .sq (.keep [4] J2H)] (X (J1 p) (.lp 2 [0, 3, 4, 5] J1M) ⟨[(0, .ptr 0 0), (3, .p (.i .i64 x3)), (4, .slr 1 0 (List.length s.2.2)), (5, .p (.i .i64 s.1))], [.box (List.map AV.p (J0 s.2.1)), .arr w1 1 (List.map (r_i .u8) s.2.2)]⟩) = J3f o := by
 have h0 : Jr (fun s => J2J x3 s.1 s.2.1 s.2.2) s = some o := h
 exact J04 (P := fun (s : Int × T_pagemenddraw_Codes × (List Int)) (o : (List UInt8) × T_pagemenddraw_Codes) => rk (J1 p) J0D 1 [.bl 0, .sq (.keep [4] J2H)] (X (J1 p) (.lp 2 [0, 3, 4, 5] J1M) ⟨[(0, .ptr 0 0), (3, .p (.i .i64 x3)), (4, .slr 1 0 (List.length s.2.2)), (5, .p (.i .i64 s.1))], [.box (List.map AV.p (J0 s.2.1)), .arr w1 1 (List.map (r_i .u8) s.2.2)]⟩) = J3f o) (fun s r hs => by rw [J03]; exact Jb6 p hs) (fun s s1 r hs ih => by rw [J03]; exact (Jb6 p hs).trans ih) h0
def J3v (x3 : Int) (b0 : T_pagemenddraw_Codes) : Option ((List UInt8) × T_pagemenddraw_Codes) :=
 Option.bind (mkS 1 0 x3 0) fun m1 =>
 Jb8 x3 (0, b0, m1)
theorem Jb3 {x3 : Int} {b0 : T_pagemenddraw_Codes} {o : (List UInt8) × T_pagemenddraw_Codes} (h : J3v x3 b0 = some o) :
  rk (J1 p) J0D 1 [] (X (J1 p) J8Q ⟨[(0, .ptr 0 0), (3, .p (.i .i64 x3))], [.box (List.map AV.p (J0 b0))]⟩) = J3f o := by
 unfold J3v at h
 obtain ⟨m1, h2, h⟩ := bi h
 have f3 : (0 ≤ (0 : Int) ∧ (0 : Int) ≤ x3 ∧ ((1 : Nat) : Int) * x3 ≤ 281474976710656 ∧ (x3 : Int) ≤ 281474976710656) = True := eq_true (Jao h2).1
 have f4 : List.replicate (Int.toNat 0) ((r_i .u8) 0) = List.map (r_i .u8) m1 := by rw [(Jao h2).2, List.map_replicate]
 try simp only [Nf] at f4
 have g5 : List.length m1 = Int.toNat 0 := by rw [(Jao h2).2, List.length_replicate]
 try simp only [↓Da, Ua, J8Q, *, ↓reduceIte, reduceEqDiff, reduceAdd, reduceLT, reduceMul]
 have e0 := Je1 p (w1 := true) h
 try simp only [g5] at e0
 exact e0
def J4E (b0 : T_pagemenddraw_Codes) : Option ((List UInt8) × T_pagemenddraw_Codes) :=
 Option.bind (Jp b0 5) fun r1 =>
 Option.bind (Jp r1.2 6) fun r4 =>
 if ((r4.1 : Int) == 0) then
  Option.bind (Jp r4.2 14) fun r8 =>
  J3v r8.1 r8.2
 else
  J3v r1.1 r4.2
theorem Jek {b0 : T_pagemenddraw_Codes} {o : (List UInt8) × T_pagemenddraw_Codes} (h : J4E b0 = some o) :
  rk (J1 p) J0D 1 [] (X (J1 p) J3j ⟨[(0, .ptr 0 0)], [.box (List.map AV.p (J0 b0))]⟩) = J3f o := by
 unfold J4E at h
 obtain ⟨r1, h2, h⟩ := bi h
 have f3 : ∀ ws new s, JG ws s [0] [List.map AV.p (J0 b0)] → (Jm (AF (J1 p)) Jb ([.ptr 0 0, .p (.i .i64 5)], ws) 0 new).run s = some ⟨.p (.i .i64 r1.1), ws ++ [(0, .box (List.map AV.p (J0 r1.2)))]⟩ := Jy (args' := [.ptr 0 0, .p (.i .i64 5)]) (bs := [0]) (css := [List.map AV.p (J0 b0)]) (css' := [List.map AV.p (J0 r1.2)]) rfl rfl rfl (by simp [Jl, J9]) (Jv p h2) rfl rfl (by simp [Jl, J9])
 try simp only [Nf] at f3
 obtain ⟨r4, h5, h⟩ := bi h
 have f6 : ∀ ws new s, JG ws s [0] [List.map AV.p (J0 r1.2)] → (Jm (AF (J1 p)) Jb ([.ptr 0 0, .p (.i .i64 6)], ws) 0 new).run s = some ⟨.p (.i .i64 r4.1), ws ++ [(0, .box (List.map AV.p (J0 r4.2)))]⟩ := Jy (args' := [.ptr 0 0, .p (.i .i64 6)]) (bs := [0]) (css := [List.map AV.p (J0 r1.2)]) (css' := [List.map AV.p (J0 r4.2)]) rfl rfl rfl (by simp [Jl, J9]) (Jv p h5) rfl rfl (by simp [Jl, J9])
 try simp only [Nf] at f6
 try simp only [↓Da, Ua, J3j, Jd, *, ↓reduceIte, reduceEqDiff, reduceAdd, reduceLT, reduceMul]
 rcases J8 h with ⟨h7, h⟩ | ⟨h7, h⟩
 ·have h7n : ((r4.1 : Int) != 0) = false := by rw [bne, h7]; rfl
  obtain ⟨r8, h9, h⟩ := bi h
  have f10 : ∀ ws new s, JG ws s [0] [List.map AV.p (J0 r4.2)] → (Jm (AF (J1 p)) Jb ([.ptr 0 0, .p (.i .i64 14)], ws) 0 new).run s = some ⟨.p (.i .i64 r8.1), ws ++ [(0, .box (List.map AV.p (J0 r8.2)))]⟩ := Jy (args' := [.ptr 0 0, .p (.i .i64 14)]) (bs := [0]) (css := [List.map AV.p (J0 r4.2)]) (css' := [List.map AV.p (J0 r8.2)]) rfl rfl rfl (by simp [Jl, J9]) (Jv p h9) rfl rfl (by simp [Jl, J9])
  try simp only [Nf] at f10
  try simp only [↓Da, Ua, J3j, Jd, *, ↓reduceIte, reduceEqDiff, reduceAdd, reduceLT, reduceMul]
  have e0 := Jb3 p h
  exact e0
 ·have h7n : ((r4.1 : Int) != 0) = true := by rw [bne, h7]; rfl
  try simp only [↓Da, Ua, J3j, Jd, *, ↓reduceIte, reduceEqDiff, reduceAdd, reduceLT, reduceMul]
  have e0 := Jb3 p h
  exact e0
theorem JhO {b0 : T_pagemenddraw_Codes} {o : (List UInt8) × T_pagemenddraw_Codes} (h : J4E b0 = some o) : AF (J1 p) J4F [.ptr 0 0] [.box (List.map AV.p (J0 b0))] = J3f o :=
 (J00 (J1 p) (JhA p) rfl).trans (Jek p h)
def JcN  (r : Int × T_pagemenddraw_Codes) : Option Res := some (.p (.i .i64 r.1), [.box (List.map AV.p (J0 r.2))])
def J2W (b0 : T_pagemenddraw_Codes) : Option (Int × T_pagemenddraw_Codes) :=
 Option.bind (Jp b0 10) fun r1 =>
 if ((r1.1 : Int) == 0) then
  Option.bind (Jp r1.2 3) fun r5 =>
  some ((IntKind.wrap .i64 ((-1) - r5.1)), r5.2)
 else
  if ((r1.1 : Int) == 1) then
   Option.bind (Jp r1.2 16) fun r9 =>
   Option.bind (idx ([9223372036854775807, (-9223372036854775808), 1099511627776, 1099511627777, 1073741824, 1073741825, 64, 63, 16, 15, 256, 255, 4294967296, 65536, 256, 255] : List Int) r9.1) fun y12 =>
   some (y12, r9.2)
  else
   Option.bind (Jp r1.2 20) fun r15 =>
   some (r15.1, r15.2)
theorem JeC {b0 : T_pagemenddraw_Codes} {o : Int × T_pagemenddraw_Codes} (h : J2W b0 = some o) :
  rk (J1 p) J58 1 [] (X (J1 p) J2g ⟨[(0, .ptr 0 0)], [.box (List.map AV.p (J0 b0))]⟩) = JcN o := by
 unfold J2W at h
 obtain ⟨r1, h2, h⟩ := bi h
 have f3 : ∀ ws new s, JG ws s [0] [List.map AV.p (J0 b0)] → (Jm (AF (J1 p)) Jb ([.ptr 0 0, .p (.i .i64 10)], ws) 0 new).run s = some ⟨.p (.i .i64 r1.1), ws ++ [(0, .box (List.map AV.p (J0 r1.2)))]⟩ := Jy (args' := [.ptr 0 0, .p (.i .i64 10)]) (bs := [0]) (css := [List.map AV.p (J0 b0)]) (css' := [List.map AV.p (J0 r1.2)]) rfl rfl rfl (by simp [Jl, J9]) (Jv p h2) rfl rfl (by simp [Jl, J9])
 try simp only [Nf] at f3
 try simp only [↓Da, Ua, J2g, Jd, *, ↓reduceIte, reduceEqDiff, reduceAdd, reduceLT, reduceMul]
 rcases J8 h with ⟨h4, h⟩ | ⟨h4, h⟩
 ·have h4n : ((r1.1 : Int) != 0) = false := by rw [bne, h4]; rfl
  obtain ⟨r5, h6, h⟩ := bi h
  have f7 : ∀ ws new s, JG ws s [0] [List.map AV.p (J0 r1.2)] → (Jm (AF (J1 p)) Jb ([.ptr 0 0, .p (.i .i64 3)], ws) 0 new).run s = some ⟨.p (.i .i64 r5.1), ws ++ [(0, .box (List.map AV.p (J0 r5.2)))]⟩ := Jy (args' := [.ptr 0 0, .p (.i .i64 3)]) (bs := [0]) (css := [List.map AV.p (J0 r1.2)]) (css' := [List.map AV.p (J0 r5.2)]) rfl rfl rfl (by simp [Jl, J9]) (Jv p h6) rfl rfl (by simp [Jl, J9])
  try simp only [Nf] at f7
  obtain rfl := sj h
  try simp only [↓Da, Ua, J2g, Jd, Ja3, *, ↓reduceIte, reduceEqDiff, reduceAdd, reduceLT, reduceMul]
  rfl
 ·have h4n : ((r1.1 : Int) != 0) = true := by rw [bne, h4]; rfl
  try simp only [↓Da, Ua, J2g, Jd, *, ↓reduceIte, reduceEqDiff, reduceAdd, reduceLT, reduceMul]
  rcases J8 h with ⟨h8, h⟩ | ⟨h8, h⟩
  ·have h8n : ((r1.1 : Int) != 1) = false := by rw [bne, h8]; rfl
   obtain ⟨r9, h10, h⟩ := bi h
   have f11 : ∀ ws new s, JG ws s [0] [List.map AV.p (J0 r1.2)] → (Jm (AF (J1 p)) Jb ([.ptr 0 0, .p (.i .i64 16)], ws) 0 new).run s = some ⟨.p (.i .i64 r9.1), ws ++ [(0, .box (List.map AV.p (J0 r9.2)))]⟩ := Jy (args' := [.ptr 0 0, .p (.i .i64 16)]) (bs := [0]) (css := [List.map AV.p (J0 r1.2)]) (css' := [List.map AV.p (J0 r9.2)]) rfl rfl rfl (by simp [Jl, J9]) (Jv p h10) rfl rfl (by simp [Jl, J9])
   try simp only [Nf] at f11
   obtain ⟨y12, h13, h⟩ := bi h
   have f14 := J43 (r := (r_i .i64)) h13
   try simp only [Nf] at f14
   obtain rfl := sj h
   try simp only [↓Da, Ua, J2g, Jd, Ja3, *, ↓reduceIte, reduceEqDiff, reduceAdd, reduceLT, reduceMul]
   rfl
  ·have h8n : ((r1.1 : Int) != 1) = true := by rw [bne, h8]; rfl
   obtain ⟨r15, h16, h⟩ := bi h
   have f17 : ∀ ws new s, JG ws s [0] [List.map AV.p (J0 r1.2)] → (Jm (AF (J1 p)) Jb ([.ptr 0 0, .p (.i .i64 20)], ws) 0 new).run s = some ⟨.p (.i .i64 r15.1), ws ++ [(0, .box (List.map AV.p (J0 r15.2)))]⟩ := Jy (args' := [.ptr 0 0, .p (.i .i64 20)]) (bs := [0]) (css := [List.map AV.p (J0 r1.2)]) (css' := [List.map AV.p (J0 r15.2)]) rfl rfl rfl (by simp [Jl, J9]) (Jv p h16) rfl rfl (by simp [Jl, J9])
   try simp only [Nf] at f17
   obtain rfl := sj h
   try simp only [↓Da, Ua, J2g, Jd, Ja3, *, ↓reduceIte, reduceEqDiff, reduceAdd, reduceLT, reduceMul]
   rfl
theorem JcV {b0 : T_pagemenddraw_Codes} {o : Int × T_pagemenddraw_Codes} (h : J2W b0 = some o) : AF (J1 p) J2Z [.ptr 0 0] [.box (List.map AV.p (J0 b0))] = JcN o :=
 (J00 (J1 p) (Jii p) rfl).trans (JeC p h)
def Ji6 (r : List UInt8) : Option Res := some (.p (.s r), [])
def J0i (x0 : List UInt8) (x1 x2 : Int) : Option (List UInt8) := JgL x0 x1 x2
theorem Ji2 {x0 : List UInt8} {x1 x2 : Int} {o : List UInt8} (h : J0i x0 x1 x2 = some o) : AF (J1 p) J1p [.p (.s x0), .p (.i .i64 x1), .p (.i .i64 x2)] [] = Ji6 o := by
 rw [JkZ (Jpr p)]
 have h' : JgL x0 x1 x2 = some o := h
 simp only [Jo5, h', Option.map_some, Ji6]
theorem J7q {x0 : List UInt8} {x1 x2 : Int} {o : List UInt8} (h : J0i x0 x1 x2 = some o) : ∀ ws new st, (Jm (AF (J1 p)) J1p ([.p (.s x0), .p (.i .i64 x1), .p (.i .i64 x2)], ws) 0 new).run st = some ⟨.p (.s o), ws⟩ := Jt rfl (Ji2 p h) rfl
def J8x  (r : (List UInt8)) : Option Res := some (.p (.s r), [])
def Jne (x1 x2 : Int) (o : ((List UInt8) × Int) ⊕ ((List UInt8))) : Option Res := match o with
 | .inl s => rk (J1 p) J3G 0 [.bl 0, .sq (.keep [0] J5R)] (X (J1 p) (.lp 0 [0, 1, 2, 7] J4G) ⟨[(0, .p (.s s.1)), (1, .p (.i .i64 x1)), (2, .p (.i .i64 x2)), (7, .p (.i .i64 s.2))], []⟩)
 | .inr o => J8x o
def J9O (x0 : List UInt8) : Option ((List UInt8)) :=
 some x0
theorem Jmj {x0 : List UInt8} {o : (List UInt8)} (h : J9O x0 = some o) :
  rk (J1 p) J3G 0 [] (X (J1 p) J5R ⟨[(0, .p (.s x0))], []⟩) = J8x o := by
 unfold J9O at h
 obtain rfl := sj h
 try simp only [↓Da, Ua, J5R, JdO, ↓reduceIte, reduceEqDiff, reduceAdd, reduceLT, reduceMul]
 rfl
def J5L (x1 x2 : Int) (x0 : List UInt8) (x7 : Int) : Option ((((List UInt8) × Int) ⊕ ((List UInt8)))) :=
 if (decide (x7 < x2)) then
  Option.bind (J8O .u64 (IntKind.wrap .u64 x1) (IntKind.wrap .u64 (IntKind.wrap .i64 (8 * x7)))) fun q2 =>
  Option.bind (J1Z x0 (toStr ([(IntKind.wrap .u8 q2)] : List Int))) fun s5 =>
  some (.inl (s5, (IntKind.wrap .i64 (x7 + 1))))
 else
  Option.map (fun o => .inr o) (J9O x0)
theorem Jfr {x1 x2 : Int} {x0 : List UInt8} {x7 : Int} {o : (((List UInt8) × Int) ⊕ ((List UInt8)))} (h : J5L x1 x2 x0 x7 = some o) :
  rk (J1 p) J3G 0 [.lo 0 [0, 1, 2, 7] J4G, .bl 0, .sq (.keep [0] J5R)] (X (J1 p) J4G ⟨[(0, .p (.s x0)), (1, .p (.i .i64 x1)), (2, .p (.i .i64 x2)), (7, .p (.i .i64 x7))], []⟩) = (Jne p x1 x2) o := by
 unfold J5L at h
 rcases J8 h with ⟨h1, h⟩ | ⟨h1, h⟩
 ·obtain ⟨q2, h3, h⟩ := bi h
  have f4 : ∀ env sto new, (cvR .toStr (.p (.sl 1 (List.map (r_i .u8) ([(IntKind.wrap .u8 q2)] : List Int)))) new).run ⟨env, sto⟩ = some ⟨.p (.s (toStr ([(IntKind.wrap .u8 q2)] : List Int))), []⟩ := fun env sto new => Jon env sto _ new
  try simp only [Nf] at f4
  obtain ⟨s5, h6, h⟩ := bi h
  obtain rfl := sj h
  try simp only [↓Da, Ua, J4G, *, ↓reduceIte, reduceEqDiff, reduceAdd, reduceLT, reduceMul]
  rfl
 ·obtain ⟨o', h', rfl⟩ := mi h
  try simp only [↓Da, Ua, J4G, *, ↓reduceIte, reduceEqDiff, reduceAdd, reduceLT, reduceMul]
  have e0 := Jmj p h'
  exact e0
def Jfx (x1 x2 : Int) (s : (List UInt8) × Int) : Option ((List UInt8)) :=
 Jr (fun s => J5L x1 x2 s.1 s.2) s
theorem Jkl {x1 x2 : Int} {s : (List UInt8) × Int} {o : (List UInt8)} (h : Jfx x1 x2 s = some o) :
  rk (J1 p) J3G 0 [.bl 0, .sq (.keep [0] J5R)] (X (J1 p) (.lp 0 [0, 1, 2, 7] J4G) ⟨[(0, .p (.s s.1)), (1, .p (.i .i64 x1)), (2, .p (.i .i64 x2)), (7, .p (.i .i64 s.2))], []⟩) = J8x o := by
 have h0 : Jr (fun s => J5L x1 x2 s.1 s.2) s = some o := h
 exact J04 (P := fun (s : (List UInt8) × Int) (o : (List UInt8)) => rk (J1 p) J3G 0 [.bl 0, .sq (.keep [0] J5R)] (X (J1 p) (.lp 0 [0, 1, 2, 7] J4G) ⟨[(0, .p (.s s.1)), (1, .p (.i .i64 x1)), (2, .p (.i .i64 x2)), (7, .p (.i .i64 s.2))], []⟩) = J8x o) (fun s r hs => by rw [J03]; exact Jfr p hs) (fun s s1 r hs ih => by rw [J03]; exact (Jfr p hs).trans ih) h0
def J02 (x0 : List UInt8) (x1 x2 : Int) : Option ((List UInt8)) :=
 if (decide (x2 < 1)) then
  some x0
 else
  if (decide (x2 > 8)) then
   some x0
  else
   Jfx x1 x2 (x0, 0)
theorem Jjz {x0 : List UInt8} {x1 x2 : Int} {o : (List UInt8)} (h : J02 x0 x1 x2 = some o) :
  rk (J1 p) J3G 0 [] (X (J1 p) J65 ⟨[(0, .p (.s x0)), (1, .p (.i .i64 x1)), (2, .p (.i .i64 x2))], []⟩) = J8x o := by
 unfold J02 at h
 rcases J8 h with ⟨h1, h⟩ | ⟨h1, h⟩
 ·obtain rfl := sj h
  try simp only [↓Da, Ua, J65, JdO, *, ↓reduceIte, reduceEqDiff, reduceAdd, reduceLT, reduceMul]
  rfl
 ·try simp only [↓Da, Ua, J65, *, ↓reduceIte, reduceEqDiff, reduceAdd, reduceLT, reduceMul]
  rcases J8 h with ⟨h2, h⟩ | ⟨h2, h⟩
  ·obtain rfl := sj h
   try simp only [↓Da, Ua, J65, JdO, *, ↓reduceIte, reduceEqDiff, reduceAdd, reduceLT, reduceMul]
   rfl
  ·try simp only [↓Da, Ua, J65, *, ↓reduceIte, reduceEqDiff, reduceAdd, reduceLT, reduceMul]
   have e0 := Jkl p h
   exact e0
theorem Jp3 {x0 : List UInt8} {x1 x2 : Int} {o : (List UInt8)} (h : J02 x0 x1 x2 = some o) : AF (J1 p) J14 [.p (.s x0), .p (.i .i64 x1), .p (.i .i64 x2)] [] = J8x o :=
 (J00 (J1 p) (Jpd p) rfl).trans (Jjz p h)
theorem J3E {x0 : List UInt8} {x1 x2 : Int} {o : (List UInt8)} (h : J02 x0 x1 x2 = some o) : ∀ ws new st, (Jm (AF (J1 p)) J14 ([.p (.s x0), .p (.i .i64 x1), .p (.i .i64 x2)], ws) 0 new).run st = some ⟨.p (.s o), ws⟩ := Jt rfl (Jp3 p h) rfl
def J8B  (r : Int × Int) : Option Res := some (.tup [.p (.i .i64 r.1), .p (.i .i64 r.2)], [])
def JmD (x0 : List UInt8) (x1 x34 : Int) (o : (Int × Int) ⊕ (Int × Int)) : Option Res := match o with
 | .inl s => rk (J1 p) J3B 0 [.bl 1, .sq (.keep [8] J5G)] (X (J1 p) (.lp 0 [0, 1, 8, 34, 35] J4I) ⟨[(0, .p (.s x0)), (1, .p (.i .i64 x1)), (8, .p (.i .u64 s.1)), (34, .p (.i .i64 x34)), (35, .p (.i .i64 s.2))], []⟩)
 | .inr o => J8B o
def J5O (x8 : Int) : Option (Int × Int) :=
 some ((IntKind.wrap .i64 x8), 0)
theorem Jn8 {x8 : Int} {o : Int × Int} (h : J5O x8 = some o) :
  rk (J1 p) J3B 0 [] (X (J1 p) J5G ⟨[(8, .p (.i .u64 x8))], []⟩) = J8B o := by
 unfold J5O at h
 obtain rfl := sj h
 try simp only [↓Da, Ua, J5G, J8K, ↓reduceIte, reduceEqDiff, reduceAdd, reduceLT, reduceMul]
 rfl
def J0a (x0 : List UInt8) (x1 x34 : Int) (x8 x35 : Int) : Option (((Int × Int) ⊕ (Int × Int))) :=
 if (decide (x35 < x34)) then
  Option.bind (JcR x0 (IntKind.wrap .i64 (x1 + x35))) fun c2 =>
  Option.bind (JdR .u64 (IntKind.wrap .u64 c2) (IntKind.wrap .i64 (8 * x35))) fun q4 =>
  some (.inl ((orI .u64 x8 q4), (IntKind.wrap .i64 (x35 + 1))))
 else
  Option.map (fun o => .inr o) (J5O x8)
theorem JfG {x0 : List UInt8} {x1 x34 : Int} {x8 x35 : Int} {o : ((Int × Int) ⊕ (Int × Int))} (h : J0a x0 x1 x34 x8 x35 = some o) :
  rk (J1 p) J3B 0 [.lo 0 [0, 1, 8, 34, 35] J4I, .bl 1, .sq (.keep [8] J5G)] (X (J1 p) J4I ⟨[(0, .p (.s x0)), (1, .p (.i .i64 x1)), (8, .p (.i .u64 x8)), (34, .p (.i .i64 x34)), (35, .p (.i .i64 x35))], []⟩) = (JmD p x0 x1 x34) o := by
 unfold J0a at h
 rcases J8 h with ⟨h1, h⟩ | ⟨h1, h⟩
 ·obtain ⟨c2, h3, h⟩ := bi h
  obtain ⟨q4, h5, h⟩ := bi h
  obtain rfl := sj h
  try simp only [↓Da, Ua, J4I, *, ↓reduceIte, reduceEqDiff, reduceAdd, reduceLT, reduceMul]
  rfl
 ·obtain ⟨o', h', rfl⟩ := mi h
  try simp only [↓Da, Ua, J4I, *, ↓reduceIte, reduceEqDiff, reduceAdd, reduceLT, reduceMul]
  have e0 := Jn8 p h'
  exact e0
def JbM (x0 : List UInt8) (x1 x34 : Int) (s : Int × Int) : Option (Int × Int) :=
 Jr (fun s => J0a x0 x1 x34 s.1 s.2) s
theorem JjB {x0 : List UInt8} {x1 x34 : Int} {s o : Int × Int} (h : JbM x0 x1 x34 s = some o) :
  rk (J1 p) J3B 0 [.bl 1, .sq (.keep [8] J5G)] (X (J1 p) (.lp 0 [0, 1, 8, 34, 35] J4I) ⟨[(0, .p (.s x0)), (1, .p (.i .i64 x1)), (8, .p (.i .u64 s.1)), (34, .p (.i .i64 x34)), (35, .p (.i .i64 s.2))], []⟩) = J8B o := by
 have h0 : Jr (fun s => J0a x0 x1 x34 s.1 s.2) s = some o := h
 exact J04 (P := fun (s : Int × Int) (o : Int × Int) => rk (J1 p) J3B 0 [.bl 1, .sq (.keep [8] J5G)] (X (J1 p) (.lp 0 [0, 1, 8, 34, 35] J4I) ⟨[(0, .p (.s x0)), (1, .p (.i .i64 x1)), (8, .p (.i .u64 s.1)), (34, .p (.i .i64 x34)), (35, .p (.i .i64 s.2))], []⟩) = J8B o) (fun s r hs => by rw [J03]; exact JfG p hs) (fun s s1 r hs ih => by rw [J03]; exact (JfG p hs).trans ih) h0
def JO (x0 : List UInt8) (x1 x2 : Int) : Option (Int × Int) :=
 if (decide (x2 < 1)) then
  some (0, 1)
 else
  if (decide (x2 > 8)) then
   some (0, 1)
  else
   if (decide (x1 < 0)) then
    some (0, 1)
   else
    if (decide (x1 > ((List.length x0 : Nat) : Int))) then
     some (0, 5)
    else
     if (decide ((IntKind.wrap .i64 (((List.length x0 : Nat) : Int) - x1)) < x2)) then
      some (0, 5)
     else
      JbM x0 x1 x2 (0, 0)
theorem Jjp {x0 : List UInt8} {x1 x2 : Int} {o : Int × Int} (h : JO x0 x1 x2 = some o) :
  rk (J1 p) J3B 0 [] (X (J1 p) J23 ⟨[(0, .p (.s x0)), (1, .p (.i .i64 x1)), (2, .p (.i .i64 x2))], []⟩) = J8B o := by
 unfold JO at h
 rcases J8 h with ⟨h1, h⟩ | ⟨h1, h⟩
 ·obtain rfl := sj h
  try simp only [↓Da, Ua, J23, J8K, *, ↓reduceIte, reduceEqDiff, reduceAdd, reduceLT, reduceMul]
  rfl
 ·try simp only [↓Da, Ua, J23, *, ↓reduceIte, reduceEqDiff, reduceAdd, reduceLT, reduceMul]
  rcases J8 h with ⟨h2, h⟩ | ⟨h2, h⟩
  ·obtain rfl := sj h
   try simp only [↓Da, Ua, J23, J8K, *, ↓reduceIte, reduceEqDiff, reduceAdd, reduceLT, reduceMul]
   rfl
  ·try simp only [↓Da, Ua, J23, *, ↓reduceIte, reduceEqDiff, reduceAdd, reduceLT, reduceMul]
   rcases J8 h with ⟨h3, h⟩ | ⟨h3, h⟩
   ·obtain rfl := sj h
    try simp only [↓Da, Ua, J23, J8K, *, ↓reduceIte, reduceEqDiff, reduceAdd, reduceLT, reduceMul]
    rfl
   ·try simp only [↓Da, Ua, J23, *, ↓reduceIte, reduceEqDiff, reduceAdd, reduceLT, reduceMul]
    rcases J8 h with ⟨h4, h⟩ | ⟨h4, h⟩
    ·obtain rfl := sj h
     try simp only [↓Da, Ua, J23, J8K, *, ↓reduceIte, reduceEqDiff, reduceAdd, reduceLT, reduceMul]
     rfl
    ·try simp only [↓Da, Ua, J23, *, ↓reduceIte, reduceEqDiff, reduceAdd, reduceLT, reduceMul]
     rcases J8 h with ⟨h5, h⟩ | ⟨h5, h⟩
     ·obtain rfl := sj h
      try simp only [↓Da, Ua, J23, J8K, *, ↓reduceIte, reduceEqDiff, reduceAdd, reduceLT, reduceMul]
      rfl
     ·try simp only [↓Da, Ua, J23, *, ↓reduceIte, reduceEqDiff, reduceAdd, reduceLT, reduceMul]
      have e0 := JjB p h
      exact e0
theorem Jpj {x0 : List UInt8} {x1 x2 : Int} {o : Int × Int} (h : JO x0 x1 x2 = some o) : AF (J1 p) J31 [.p (.s x0), .p (.i .i64 x1), .p (.i .i64 x2)] [] = J8B o :=
 (J00 (J1 p) (Jpf p) rfl).trans (Jjp p h)
theorem J7l {x0 : List UInt8} {x1 x2 : Int} {o : Int × Int} (h : JO x0 x1 x2 = some o) : ∀ ws new st, (Jm (AF (J1 p)) J31 ([.p (.s x0), .p (.i .i64 x1), .p (.i .i64 x2)], ws) 0 new).run st = some ⟨.tup [.p (.i .i64 o.1), .p (.i .i64 o.2)], ws⟩ := Jt rfl (Jpj p h) rfl
def Jc4  (r : Jf × T_pagemenddraw_Codes) : Option Res := some (.data (Jk r.1), [.box (List.map AV.p (J0 r.2))])
def J4z (b0 : T_pagemenddraw_Codes) : Option (Jf × T_pagemenddraw_Codes) :=
 Option.bind (Jp b0 3) fun r1 =>
 if ((r1.1 : Int) == 0) then
  some ((⟨false, ([] : List UInt8)⟩ : Jf), r1.2)
 else
  Option.bind (J4E r1.2) fun r5 =>
  Option.bind (J0Z r5.1 none (some (Jji ((List.length r5.1 : Nat) : Int) 12))) fun m8 =>
  some ((⟨true, m8⟩ : Jf), r5.2)
theorem Jeq {b0 : T_pagemenddraw_Codes} {o : Jf × T_pagemenddraw_Codes} (h : J4z b0 = some o) :
  rk (J1 p) J4y 1 [] (X (J1 p) J3k ⟨[(0, .ptr 0 0)], [.box (List.map AV.p (J0 b0))]⟩) = Jc4 o := by
 unfold J4z at h
 obtain ⟨r1, h2, h⟩ := bi h
 have f3 : ∀ ws new s, JG ws s [0] [List.map AV.p (J0 b0)] → (Jm (AF (J1 p)) Jb ([.ptr 0 0, .p (.i .i64 3)], ws) 0 new).run s = some ⟨.p (.i .i64 r1.1), ws ++ [(0, .box (List.map AV.p (J0 r1.2)))]⟩ := Jy (args' := [.ptr 0 0, .p (.i .i64 3)]) (bs := [0]) (css := [List.map AV.p (J0 b0)]) (css' := [List.map AV.p (J0 r1.2)]) rfl rfl rfl (by simp [Jl, J9]) (Jv p h2) rfl rfl (by simp [Jl, J9])
 try simp only [Nf] at f3
 try simp only [↓Da, Ua, J3k, J7, Jd, *, ↓reduceIte, reduceEqDiff, reduceAdd, reduceLT, reduceMul]
 rcases J8 h with ⟨h4, h⟩ | ⟨h4, h⟩
 ·have h4n : ((r1.1 : Int) != 0) = false := by rw [bne, h4]; rfl
  obtain rfl := sj h
  try simp only [↓Da, Ua, J3k, J7, Jd, Jc6, *, ↓reduceIte, reduceEqDiff, reduceAdd, reduceLT, reduceMul]
  rfl
 ·have h4n : ((r1.1 : Int) != 0) = true := by rw [bne, h4]; rfl
  obtain ⟨r5, h6, h⟩ := bi h
  have f7 : ∀ ws new s, JG ws s [0] [List.map AV.p (J0 r1.2)] → (Jm (AF (J1 p)) J4F ([.ptr 0 0], ws) 0 new).run s = some ⟨.p (.s r5.1), ws ++ [(0, .box (List.map AV.p (J0 r5.2)))]⟩ := Jy (args' := [.ptr 0 0]) (bs := [0]) (css := [List.map AV.p (J0 r1.2)]) (css' := [List.map AV.p (J0 r5.2)]) rfl rfl rfl (by simp [Jl, J9]) (JhO p h6) rfl rfl (by simp [Jl, J9])
  try simp only [Nf] at f7
  obtain ⟨m8, h9, h⟩ := bi h
  have f10 : J13 (.p (.s r5.1)) none (some (.p (.i .i64 (Jji ((List.length r5.1 : Nat) : Int) 12)))) = some (.p (.s m8)) := J0X (k := .i64) (lo := none) (hi := (some (Jji ((List.length r5.1 : Nat) : Int) 12))) h9
  try simp only [Nf] at f10
  obtain rfl := sj h
  try simp only [↓Da, Ua, J3k, J7, Jd, Jc6, *, ↓reduceIte, reduceEqDiff, reduceAdd, reduceLT, reduceMul]
  rfl
theorem JhF {b0 : T_pagemenddraw_Codes} {o : Jf × T_pagemenddraw_Codes} (h : J4z b0 = some o) : AF (J1 p) J4w [.ptr 0 0] [.box (List.map AV.p (J0 b0))] = Jc4 o :=
 (J00 (J1 p) (Jhr p) rfl).trans (Jeq p h)
def Jft  (r : (List UInt8)) : Option Res := some (.p (.s r), [])
def J2r (x0 : Int) : Option ((List UInt8)) :=
 Option.bind (mkS 1 x0 x0 0) fun m1 =>
 some (toStr m1)
theorem JhQ {x0 : Int} {o : (List UInt8)} (h : J2r x0 = some o) :
  rk (J1 p) J74 0 [] (X (J1 p) J8j ⟨[(0, .p (.i .i64 x0))], []⟩) = Jft o := by
 unfold J2r at h
 obtain ⟨m1, h2, h⟩ := bi h
 have f3 : (0 ≤ (x0 : Int) ∧ (x0 : Int) ≤ x0 ∧ ((1 : Nat) : Int) * x0 ≤ 281474976710656 ∧ (x0 : Int) ≤ 281474976710656) = True := eq_true (Jao h2).1
 have f4 : List.replicate (Int.toNat x0) ((r_i .u8) 0) = List.map (r_i .u8) m1 := by rw [(Jao h2).2, List.map_replicate]
 try simp only [Nf] at f4
 obtain rfl := sj h
 try simp only [↓Da, Ua, J8j, Jmk, *, ↓reduceIte, reduceEqDiff, reduceAdd, reduceLT, reduceMul]
 rfl
theorem JmP {x0 : Int} {o : (List UInt8)} (h : J2r x0 = some o) : AF (J1 p) J3L [.p (.i .i64 x0)] [] = Jft o :=
 (J00 (J1 p) (JmH p) rfl).trans (JhQ p h)
theorem JbO {x0 : Int} {o : (List UInt8)} (h : J2r x0 = some o) : ∀ ws new st, (Jm (AF (J1 p)) J3L ([.p (.i .i64 x0)], ws) 0 new).run st = some ⟨.p (.s o), ws⟩ := Jt rfl (JmP p h) rfl
def J8C  (r : Int) : Option Res := some (.p (.i .u32 r), [])
def J8r (x0 : List UInt8) (o : (Int × Int) ⊕ (Int)) : Option Res := match o with
 | .inl s => rk (J1 p) J10 0 [.bl 0, .sq (.keep [3] J1u)] (X (J1 p) (.lp 0 [0, 3, 4] J1i) ⟨[(0, .p (.s x0)), (3, .p (.i .u32 s.1)), (4, .p (.i .i64 s.2))], []⟩)
 | .inr o => J8C o
def Jfv (x0 : List UInt8) (x4 : Int) (o : (Int × Int) ⊕ (((Int × Int) ⊕ (Int)))) : Option Res := match o with
 | .inl s => rk (J1 p) J10 0 [.bl 2, .bl 1, .sq (.keep [0, 3, 4] J4P), .lo 0 [0, 3, 4] J1i, .bl 0, .sq (.keep [3] J1u)] (X (J1 p) (.lp 0 [0, 3, 4, 5] J2n) ⟨[(0, .p (.s x0)), (3, .p (.i .u32 s.1)), (4, .p (.i .i64 x4)), (5, .p (.i .i64 s.2))], []⟩)
 | .inr o => (J8r p x0) o
def J8s (x0 : List UInt8) (x3 x4 x5 : Int) : Option (((Int × Int) ⊕ (((Int × Int) ⊕ (Int))))) :=
 some (.inl (x3, (IntKind.wrap .i64 (x5 + 1))))
theorem Jfi {x0 : List UInt8} {x3 x4 x5 : Int} {o : ((Int × Int) ⊕ (((Int × Int) ⊕ (Int))))} (h : J8s x0 x3 x4 x5 = some o) :
  rk (J1 p) J10 0 [.lo 0 [0, 3, 4, 5] J2n, .bl 2, .bl 1, .sq (.keep [0, 3, 4] J4P), .lo 0 [0, 3, 4] J1i, .bl 0, .sq (.keep [3] J1u)] (X (J1 p) JbR ⟨[(0, .p (.s x0)), (3, .p (.i .u32 x3)), (4, .p (.i .i64 x4)), (5, .p (.i .i64 x5))], []⟩) = (Jfv p x0 x4) o := by
 unfold J8s at h
 obtain rfl := sj h
 try simp only [↓Da, Ua, JbR, ↓reduceIte, reduceEqDiff, reduceAdd, reduceLT, reduceMul]
 rfl
def J9N (x0 : List UInt8) (x3 x4 : Int) : Option (((Int × Int) ⊕ (Int))) :=
 some (.inl (x3, (IntKind.wrap .i64 (x4 + 1))))
theorem JmY {x0 : List UInt8} {x3 x4 : Int} {o : ((Int × Int) ⊕ (Int))} (h : J9N x0 x3 x4 = some o) :
  rk (J1 p) J10 0 [.lo 0 [0, 3, 4] J1i, .bl 0, .sq (.keep [3] J1u)] (X (J1 p) J4P ⟨[(0, .p (.s x0)), (3, .p (.i .u32 x3)), (4, .p (.i .i64 x4))], []⟩) = (J8r p x0) o := by
 unfold J9N at h
 obtain rfl := sj h
 try simp only [↓Da, Ua, J4P, ↓reduceIte, reduceEqDiff, reduceAdd, reduceLT, reduceMul]
 rfl
def J5I (x0 : List UInt8) (x4 x3 x5 : Int) : Option (((Int × Int) ⊕ (((Int × Int) ⊕ (Int))))) :=
 if (decide (x5 < 8)) then
  if (((J5e .u32 x3 1) : Int) == 1) then
   Option.bind (J8O .u32 x3 1) fun q3 =>
   J8s x0 (J5J .u32 q3 2197175160) x4 x5
  else
   Option.bind (J8O .u32 x3 1) fun q5 =>
   J8s x0 q5 x4 x5
 else
  Option.map (fun o => .inr o) (J9N x0 x3 x4)
theorem Jfn {x0 : List UInt8} {x4 x3 x5 : Int} {o : ((Int × Int) ⊕ (((Int × Int) ⊕ (Int))))} (h : J5I x0 x4 x3 x5 = some o) :
  rk (J1 p) J10 0 [.lo 0 [0, 3, 4, 5] J2n, .bl 2, .bl 1, .sq (.keep [0, 3, 4] J4P), .lo 0 [0, 3, 4] J1i, .bl 0, .sq (.keep [3] J1u)] (X (J1 p) J2n ⟨[(0, .p (.s x0)), (3, .p (.i .u32 x3)), (4, .p (.i .i64 x4)), (5, .p (.i .i64 x5))], []⟩) = (Jfv p x0 x4) o := by
 unfold J5I at h
 rcases J8 h with ⟨h1, h⟩ | ⟨h1, h⟩
 ·try simp only [↓Da, Ua, J2n, *, ↓reduceIte, reduceEqDiff, reduceAdd, reduceLT, reduceMul]
  rcases J8 h with ⟨h2, h⟩ | ⟨h2, h⟩
  ·have h2n : (((J5e .u32 x3 1) : Int) != 1) = false := by rw [bne, h2]; rfl
   obtain ⟨q3, h4, h⟩ := bi h
   try simp only [↓Da, Ua, J2n, *, ↓reduceIte, reduceEqDiff, reduceAdd, reduceLT, reduceMul]
   have e0 := Jfi p h
   exact e0
  ·have h2n : (((J5e .u32 x3 1) : Int) != 1) = true := by rw [bne, h2]; rfl
   obtain ⟨q5, h6, h⟩ := bi h
   try simp only [↓Da, Ua, J2n, *, ↓reduceIte, reduceEqDiff, reduceAdd, reduceLT, reduceMul]
   have e0 := Jfi p h
   exact e0
 ·obtain ⟨o', h', rfl⟩ := mi h
  try simp only [↓Da, Ua, J2n, *, ↓reduceIte, reduceEqDiff, reduceAdd, reduceLT, reduceMul]
  have e0 := JmY p h'
  exact e0
def Jfj (x0 : List UInt8) (x4 : Int) (s : Int × Int) : Option (((Int × Int) ⊕ (Int))) :=
 Jr (fun s => J5I x0 x4 s.1 s.2) s
theorem JjY {x0 : List UInt8} {x4 : Int} {s : Int × Int} {o : ((Int × Int) ⊕ (Int))} (h : Jfj x0 x4 s = some o) :
  rk (J1 p) J10 0 [.bl 2, .bl 1, .sq (.keep [0, 3, 4] J4P), .lo 0 [0, 3, 4] J1i, .bl 0, .sq (.keep [3] J1u)] (X (J1 p) (.lp 0 [0, 3, 4, 5] J2n) ⟨[(0, .p (.s x0)), (3, .p (.i .u32 s.1)), (4, .p (.i .i64 x4)), (5, .p (.i .i64 s.2))], []⟩) = (J8r p x0) o := by
 have h0 : Jr (fun s => J5I x0 x4 s.1 s.2) s = some o := h
 exact J04 (P := fun (s : Int × Int) (o : ((Int × Int) ⊕ (Int))) => rk (J1 p) J10 0 [.bl 2, .bl 1, .sq (.keep [0, 3, 4] J4P), .lo 0 [0, 3, 4] J1i, .bl 0, .sq (.keep [3] J1u)] (X (J1 p) (.lp 0 [0, 3, 4, 5] J2n) ⟨[(0, .p (.s x0)), (3, .p (.i .u32 s.1)), (4, .p (.i .i64 x4)), (5, .p (.i .i64 s.2))], []⟩) = (J8r p x0) o) (fun s r hs => by rw [J03]; exact Jfn p hs) (fun s s1 r hs ih => by rw [J03]; exact (Jfn p hs).trans ih) h0
def J9W (x3 : Int) : Option (Int) :=
 some (Jr6 .u32 x3)
theorem JmR {x3 o : Int} (h : J9W x3 = some o) :
  rk (J1 p) J10 0 [] (X (J1 p) J1u ⟨[(3, .p (.i .u32 x3))], []⟩) = J8C o := by
 unfold J9W at h
 obtain rfl := sj h
 try simp only [↓Da, Ua, J1u, Jpa, ↓reduceIte, reduceEqDiff, reduceAdd, reduceLT, reduceMul]
 rfl
def J5N (x0 : List UInt8) (x3 x4 : Int) : Option (((Int × Int) ⊕ (Int))) :=
 if (decide (x4 < ((List.length x0 : Nat) : Int))) then
  Option.bind (JcR x0 x4) fun c2 =>
  Jfj x0 x4 ((J5J .u32 x3 (IntKind.wrap .u32 c2)), 0)
 else
  Option.map (fun o => .inr o) (J9W x3)
theorem JfC {x0 : List UInt8} {x3 x4 : Int} {o : ((Int × Int) ⊕ (Int))} (h : J5N x0 x3 x4 = some o) :
  rk (J1 p) J10 0 [.lo 0 [0, 3, 4] J1i, .bl 0, .sq (.keep [3] J1u)] (X (J1 p) J1i ⟨[(0, .p (.s x0)), (3, .p (.i .u32 x3)), (4, .p (.i .i64 x4))], []⟩) = (J8r p x0) o := by
 unfold J5N at h
 rcases J8 h with ⟨h1, h⟩ | ⟨h1, h⟩
 ·obtain ⟨c2, h3, h⟩ := bi h
  try simp only [↓Da, Ua, J1i, *, ↓reduceIte, reduceEqDiff, reduceAdd, reduceLT, reduceMul]
  have e0 := JjY p h
  exact e0
 ·obtain ⟨o', h', rfl⟩ := mi h
  try simp only [↓Da, Ua, J1i, *, ↓reduceIte, reduceEqDiff, reduceAdd, reduceLT, reduceMul]
  have e0 := JmR p h'
  exact e0
def JfE (x0 : List UInt8) (s : Int × Int) : Option (Int) :=
 Jr (fun s => J5N x0 s.1 s.2) s
theorem Jkr {x0 : List UInt8} {s : Int × Int} {o : Int} (h : JfE x0 s = some o) :
  rk (J1 p) J10 0 [.bl 0, .sq (.keep [3] J1u)] (X (J1 p) (.lp 0 [0, 3, 4] J1i) ⟨[(0, .p (.s x0)), (3, .p (.i .u32 s.1)), (4, .p (.i .i64 s.2))], []⟩) = J8C o := by
 have h0 : Jr (fun s => J5N x0 s.1 s.2) s = some o := h
 exact J04 (P := fun (s : Int × Int) (o : Int) => rk (J1 p) J10 0 [.bl 0, .sq (.keep [3] J1u)] (X (J1 p) (.lp 0 [0, 3, 4] J1i) ⟨[(0, .p (.s x0)), (3, .p (.i .u32 s.1)), (4, .p (.i .i64 s.2))], []⟩) = J8C o) (fun s r hs => by rw [J03]; exact JfC p hs) (fun s s1 r hs ih => by rw [J03]; exact (JfC p hs).trans ih) h0
def J5o (x0 : List UInt8) : Option (Int) :=
 JfE x0 (4294967295, 0)
theorem JjQ {x0 : List UInt8} {o : Int} (h : J5o x0 = some o) :
  rk (J1 p) J10 0 [] (X (J1 p) J9G ⟨[(0, .p (.s x0))], []⟩) = J8C o := by
 unfold J5o at h
 try simp only [↓Da, Ua, J9G, ↓reduceIte, reduceEqDiff, reduceAdd, reduceLT, reduceMul]
 have e0 := Jkr p h
 exact e0
theorem JoZ {x0 : List UInt8} {o : Int} (h : J5o x0 = some o) : AF (J1 p) J5p [.p (.s x0)] [] = J8C o :=
 (J00 (J1 p) (JpI p) rfl).trans (JjQ p h)
theorem Jbw {x0 : List UInt8} {o : Int} (h : J5o x0 = some o) : ∀ ws new st, (Jm (AF (J1 p)) J5p ([.p (.s x0)], ws) 0 new).run st = some ⟨.p (.i .u32 o), ws⟩ := Jt rfl (JoZ p h) rfl
end
end Go.Am
end
section
namespace Go.Am
set_option maxRecDepth 8000
set_option maxHeartbeats 4000000
set_option linter.unusedSimpArgs false
set_option linter.unusedVariables false
noncomputable section
variable (p : FuncId → Option (List AV → List Blk → Option Res))
def J7L  (r : Bool) : Option Res := some (.p (.b r), [])
def JkG (x6 : Vector Jf 16) (b0 : T_api_Page) (o : (Int) ⊕ (Bool)) : Option Res := match o with
 | .inl s => rk (J1 p) J2Y 0 [.bl 0, .td 1 [2], .sq (.keep [] J5g)] (X (J1 p) (.lp 1 [1, 6, 7] J0n) ⟨[(1, .ptr 0 0), (6, .data ((JV Jk) x6)), (7, .p (.i .i64 s))], [.box (List.map AV.p (J4 b0))]⟩)
 | .inr o => J7L o
def J7J  : Option (Bool) :=
 some true
theorem JkK {B0 : List PV} {o : Bool} (h : J7J = some o) :
  rk (J1 p) J2Y 0 [] (X (J1 p) J5g ⟨[], [.box (List.map AV.p B0)]⟩) = J7L o := by
 unfold J7J at h
 obtain rfl := sj h
 try simp only [↓Da, Ua, J5g, JaO, ↓reduceIte, reduceEqDiff, reduceAdd, reduceLT, reduceMul]
 rfl
def J06 (x6 : Vector Jf 16) (b0 : T_api_Page) (x7 : Int) : Option (((Int) ⊕ (Bool))) :=
 if (decide (x7 < 16)) then
  Option.bind (J8R x6 x7) fun y2 =>
  if (decide (((List.length y2.Data : Nat) : Int) > 12)) then
   some (.inr false)
  else
   if y2.Set then
    if ((b0.LSN : Int) == 0) then
     some (.inr false)
    else
     some (.inl (IntKind.wrap .i64 (x7 + 1)))
   else
    if (y2.Data == []) then
     some (.inl (IntKind.wrap .i64 (x7 + 1)))
    else
     some (.inr false)
 else
  Option.map (fun o => .inr o) (J7J)
theorem Jej {x6 : Vector Jf 16} {b0 : T_api_Page} {x7 : Int} {o : ((Int) ⊕ (Bool))} (h : J06 x6 b0 x7 = some o) :
  rk (J1 p) J2Y 0 [.lo 1 [1, 6, 7] J0n, .bl 0, .td 1 [2], .sq (.keep [] J5g)] (X (J1 p) J0n ⟨[(1, .ptr 0 0), (6, .data ((JV Jk) x6)), (7, .p (.i .i64 x7))], [.box (List.map AV.p (J4 b0))]⟩) = (JkG p x6 b0) o := by
 unfold J06 at h
 rcases J8 h with ⟨h1, h⟩ | ⟨h1, h⟩
 ·obtain ⟨y2, h3, h⟩ := bi h
  have f4 : (0 ≤ (x7 : Int) ∧ (x7 : Int) < ((16 : Nat) : Int)) = True := eq_true (J5i h3).1
  have f5 : sub (JV Jk x6) (Int.toNat x7 * 2) 2 = some (Jk y2) := J9K JQ (J5i h3).2
  try simp only [Nf] at f5
  try simp only [↓Da, Ua, J0n, J7, J2, J6, *, ↓reduceIte, reduceEqDiff, reduceAdd, reduceLT, reduceMul]
  rcases J8 h with ⟨h6, h⟩ | ⟨h6, h⟩
  ·obtain rfl := sj h
   try simp only [↓Da, Ua, J0n, J7, J2, J6, JaO, *, ↓reduceIte, reduceEqDiff, reduceAdd, reduceLT, reduceMul]
   rfl
  ·try simp only [↓Da, Ua, J0n, J7, J2, J6, *, ↓reduceIte, reduceEqDiff, reduceAdd, reduceLT, reduceMul]
   rcases J8 h with ⟨h7, h⟩ | ⟨h7, h⟩
   ·try simp only [↓Da, Ua, J0n, J7, J2, J6, *, ↓reduceIte, reduceEqDiff, reduceAdd, reduceLT, reduceMul]
    rcases J8 h with ⟨h8, h⟩ | ⟨h8, h⟩
    ·have h8n : ((b0.LSN : Int) != 0) = false := by rw [bne, h8]; rfl
     obtain rfl := sj h
     try simp only [↓Da, Ua, J0n, J7, J2, J6, JaO, *, ↓reduceIte, reduceEqDiff, reduceAdd, reduceLT, reduceMul]
     rfl
    ·have h8n : ((b0.LSN : Int) != 0) = true := by rw [bne, h8]; rfl
     obtain rfl := sj h
     try simp only [↓Da, Ua, J0n, J7, J2, J6, *, ↓reduceIte, reduceEqDiff, reduceAdd, reduceLT, reduceMul]
     rfl
   ·try simp only [↓Da, Ua, J0n, J7, J2, J6, *, ↓reduceIte, reduceEqDiff, reduceAdd, reduceLT, reduceMul]
    rcases J8 h with ⟨h9, h⟩ | ⟨h9, h⟩
    ·obtain rfl := sj h
     try simp only [↓Da, Ua, J0n, J7, J2, J6, *, ↓reduceIte, reduceEqDiff, reduceAdd, reduceLT, reduceMul]
     rfl
    ·obtain rfl := sj h
     try simp only [↓Da, Ua, J0n, J7, J2, J6, JaO, *, ↓reduceIte, reduceEqDiff, reduceAdd, reduceLT, reduceMul]
     rfl
 ·obtain ⟨o', h', rfl⟩ := mi h
  try simp only [↓Da, Ua, J0n, J7, J2, J6, *, ↓reduceIte, reduceEqDiff, reduceAdd, reduceLT, reduceMul]
  have e0 := JkK p (B0 := (J4 b0)) h'
  first | exact e0 | (simp only [*] at e0; exact e0)
def Jec (x6 : Vector Jf 16) (b0 : T_api_Page) (s : Int) : Option (Bool) :=
 Jr (fun s => J06 x6 b0 s) s
theorem Jj3 {x6 : Vector Jf 16} {b0 : T_api_Page} {s : Int} {o : Bool} (h : Jec x6 b0 s = some o) :
  rk (J1 p) J2Y 0 [.bl 0, .td 1 [2], .sq (.keep [] J5g)] (X (J1 p) (.lp 1 [1, 6, 7] J0n) ⟨[(1, .ptr 0 0), (6, .data ((JV Jk) x6)), (7, .p (.i .i64 s))], [.box (List.map AV.p (J4 b0))]⟩) = J7L o := by
 have h0 : Jr (fun s => J06 x6 b0 s) s = some o := h
 exact J04 (P := fun (s : Int) (o : Bool) => rk (J1 p) J2Y 0 [.bl 0, .td 1 [2], .sq (.keep [] J5g)] (X (J1 p) (.lp 1 [1, 6, 7] J0n) ⟨[(1, .ptr 0 0), (6, .data ((JV Jk) x6)), (7, .p (.i .i64 s))], [.box (List.map AV.p (J4 b0))]⟩) = J7L o) (fun s r hs => by rw [J03]; exact Jej p hs) (fun s s1 r hs ih => by rw [J03]; exact (Jej p hs).trans ih) h0
def J5v (x0 : T_api_Page) : Option (Bool) :=
 Jec x0.Cells x0 0
theorem JiM {x0 : T_api_Page} {o : Bool} (h : J5v x0 = some o) :
  rk (J1 p) J2Y 0 [] (X (J1 p) J9c ⟨[(0, .data (J4 x0))], []⟩) = J7L o := by
 unfold J5v at h
 try simp only [↓Da, Ua, J9c, J7, J2, J6, ↓reduceIte, reduceEqDiff, reduceAdd, reduceLT, reduceMul]
 have e0 := Jj3 p h
 first | exact e0 | (simp only [*] at e0; exact e0)
theorem Joc {x0 : T_api_Page} {o : Bool} (h : J5v x0 = some o) : AF (J1 p) J7M [.data (J4 x0)] [] = J7L o :=
 (J00 (J1 p) (Jo7 p) rfl).trans (JiM p h)
theorem Job {x0 : T_api_Page} {o : Bool} (h : J5v x0 = some o) : ∀ ws new st, (Jm (AF (J1 p)) J7M ([.data (J4 x0)], ws) 0 new).run st = some ⟨.p (.b o), ws⟩ := Jt rfl (Joc p h) rfl
def JcS (r : List UInt8) : Option Res := some (.p (.s r), [])
def J3S (x0 : List UInt8) (x1 : Int) : Option (List UInt8) := JkW x0 x1
theorem Jj6 {x0 : List UInt8} {x1 : Int} {o : List UInt8} (h : J3S x0 x1 = some o) : AF (J1 p) J2k [.p (.s x0), .p (.i .i64 x1)] [] = JcS o := by
 rw [JkZ (JiW p)]
 have h' : JkW x0 x1 = some o := h
 simp only [Jnz, h', Option.map_some, JcS]
theorem Jad {x0 : List UInt8} {x1 : Int} {o : List UInt8} (h : J3S x0 x1 = some o) : ∀ ws new st, (Jm (AF (J1 p)) J2k ([.p (.s x0), .p (.i .i64 x1)], ws) 0 new).run st = some ⟨.p (.s o), ws⟩ := Jt rfl (Jj6 p h) rfl
def J3Y (x0 : List T_api_Copy) : Option (List T_api_Copy) := if (2 * x0.length + 512) * 32 ≤ 281474976710656 then some x0 else none
def J3C (x0 : List T_api_Copy) (x1 : Int) (x2 : List T_api_Copy) : Option (List T_api_Copy) := match x2 with
 | [v] => JqS 32 x0 x1 v
 | _ => none
def JdC  (r : Bool) : Option Res := some (.p (.b r), [])
def J4e (x0 : T_api_Page) : Option (Bool) :=
 if (decide (x0.ID ≥ 0)) then
  if (decide (x0.ID < 64)) then
   if (decide (x0.LSN ≥ 0)) then
    some (decide (x0.LSN ≤ 1099511627776))
   else
    some false
  else
   some false
 else
  some false
theorem JfK {x0 : T_api_Page} {o : Bool} (h : J4e x0 = some o) :
  rk (J1 p) J5A 0 [] (X (J1 p) J22 ⟨[(0, .data (J4 x0))], []⟩) = JdC o := by
 unfold J4e at h
 rcases J8 h with ⟨h1, h⟩ | ⟨h1, h⟩
 ·try simp only [↓Da, Ua, J22, J7, J2, J6, *, ↓reduceIte, reduceEqDiff, reduceAdd, reduceLT, reduceMul]
  rcases J8 h with ⟨h2, h⟩ | ⟨h2, h⟩
  ·try simp only [↓Da, Ua, J22, J7, J2, J6, *, ↓reduceIte, reduceEqDiff, reduceAdd, reduceLT, reduceMul]
   rcases J8 h with ⟨h3, h⟩ | ⟨h3, h⟩
   ·obtain rfl := sj h
    try simp only [↓Da, Ua, J22, J7, J2, J6, J8W, *, ↓reduceIte, reduceEqDiff, reduceAdd, reduceLT, reduceMul]
    rfl
   ·obtain rfl := sj h
    try simp only [↓Da, Ua, J22, J7, J2, J6, J8W, *, ↓reduceIte, reduceEqDiff, reduceAdd, reduceLT, reduceMul]
    rfl
  ·obtain rfl := sj h
   try simp only [↓Da, Ua, J22, J7, J2, J6, J8W, *, ↓reduceIte, reduceEqDiff, reduceAdd, reduceLT, reduceMul]
   rfl
 ·obtain rfl := sj h
  try simp only [↓Da, Ua, J22, J7, J2, J6, J8W, *, ↓reduceIte, reduceEqDiff, reduceAdd, reduceLT, reduceMul]
  rfl
theorem Jko {x0 : T_api_Page} {o : Bool} (h : J4e x0 = some o) : AF (J1 p) J5x [.data (J4 x0)] [] = JdC o :=
 (J00 (J1 p) (Jkq p) rfl).trans (JfK p h)
theorem Jkn {x0 : T_api_Page} {o : Bool} (h : J4e x0 = some o) : ∀ ws new st, (Jm (AF (J1 p)) J5x ([.data (J4 x0)], ws) 0 new).run st = some ⟨.p (.b o), ws⟩ := Jt rfl (Jko p h) rfl
def J6p  (r : Bool) : Option Res := some (.p (.b r), [])
def J0z (x0 x1 : List UInt8) : Option (Bool) :=
 if (decide (((List.length x0 : Nat) : Int) ≥ ((List.length x1 : Nat) : Int))) then
  Option.bind (J0Z x0 none (some ((List.length x1 : Nat) : Int))) fun m2 =>
  some (m2 == x1)
 else
  some false
theorem J8Y {x0 x1 : List UInt8} {o : Bool} (h : J0z x0 x1 = some o) :
  rk (J1 p) J0B 0 [] (X (J1 p) J0y ⟨[(0, .p (.s x0)), (1, .p (.s x1))], []⟩) = J6p o := by
 unfold J0z at h
 rcases J8 h with ⟨h1, h⟩ | ⟨h1, h⟩
 ·obtain ⟨m2, h3, h⟩ := bi h
  have f4 : J13 (.p (.s x0)) none (some (.p (.i .i64 ((List.length x1 : Nat) : Int)))) = some (.p (.s m2)) := J0X (k := .i64) (lo := none) (hi := (some ((List.length x1 : Nat) : Int))) h3
  try simp only [Nf] at f4
  obtain rfl := sj h
  try simp only [↓Da, Ua, J0y, J6u, *, ↓reduceIte, reduceEqDiff, reduceAdd, reduceLT, reduceMul]
  rfl
 ·obtain rfl := sj h
  try simp only [↓Da, Ua, J0y, J6u, *, ↓reduceIte, reduceEqDiff, reduceAdd, reduceLT, reduceMul]
  rfl
theorem Jai {x0 x1 : List UInt8} {o : Bool} (h : J0z x0 x1 = some o) : AF (J1 p) J0w [.p (.s x0), .p (.s x1)] [] = J6p o :=
 (J00 (J1 p) (Jac p) rfl).trans (J8Y p h)
theorem Jak {x0 x1 : List UInt8} {o : Bool} (h : J0z x0 x1 = some o) : ∀ ws new st, (Jm (AF (J1 p)) J0w ([.p (.s x0), .p (.s x1)], ws) 0 new).run st = some ⟨.p (.b o), ws⟩ := Jt rfl (Jai p h) rfl
def J8u  (r : Int × Int) : Option Res := some (.tup [.p (.i .i64 r.1), .p (.i .i64 r.2)], [])
def JmG (x0 : List UInt8) (x1 x2 : Int) (o : (Int × Int) ⊕ (Int × Int)) : Option Res := match o with
 | .inl s => rk (J1 p) J3H 0 [.bl 0, .sq (.keep [8] J5E)] (X (J1 p) (.lp 0 [0, 1, 2, 8, 9] J4R) ⟨[(0, .p (.s x0)), (1, .p (.i .i64 x1)), (2, .p (.i .i64 x2)), (8, .p (.i .u64 s.1)), (9, .p (.i .i64 s.2))], []⟩)
 | .inr o => J8u o
def J9V (x8 : Int) : Option (Int × Int) :=
 some ((IntKind.wrap .i64 x8), 0)
theorem Jmn {x8 : Int} {o : Int × Int} (h : J9V x8 = some o) :
  rk (J1 p) J3H 0 [] (X (J1 p) J5E ⟨[(8, .p (.i .u64 x8))], []⟩) = J8u o := by
 unfold J9V at h
 obtain rfl := sj h
 try simp only [↓Da, Ua, J5E, J8L, ↓reduceIte, reduceEqDiff, reduceAdd, reduceLT, reduceMul]
 rfl
def J6K (x0 : List UInt8) (x1 x2 : Int) (x8 x9 : Int) : Option (((Int × Int) ⊕ (Int × Int))) :=
 if (decide (x9 < x2)) then
  Option.bind (JcR x0 (IntKind.wrap .i64 (x1 + x9))) fun c2 =>
  Option.bind (JdR .u64 (IntKind.wrap .u64 c2) (IntKind.wrap .u64 (IntKind.wrap .i64 (8 * x9)))) fun q4 =>
  some (.inl ((orI .u64 x8 q4), (IntKind.wrap .i64 (x9 + 1))))
 else
  Option.map (fun o => .inr o) (J9V x8)
theorem JfB {x0 : List UInt8} {x1 x2 : Int} {x8 x9 : Int} {o : ((Int × Int) ⊕ (Int × Int))} (h : J6K x0 x1 x2 x8 x9 = some o) :
  rk (J1 p) J3H 0 [.lo 0 [0, 1, 2, 8, 9] J4R, .bl 0, .sq (.keep [8] J5E)] (X (J1 p) J4R ⟨[(0, .p (.s x0)), (1, .p (.i .i64 x1)), (2, .p (.i .i64 x2)), (8, .p (.i .u64 x8)), (9, .p (.i .i64 x9))], []⟩) = (JmG p x0 x1 x2) o := by
 unfold J6K at h
 rcases J8 h with ⟨h1, h⟩ | ⟨h1, h⟩
 ·obtain ⟨c2, h3, h⟩ := bi h
  obtain ⟨q4, h5, h⟩ := bi h
  obtain rfl := sj h
  try simp only [↓Da, Ua, J4R, *, ↓reduceIte, reduceEqDiff, reduceAdd, reduceLT, reduceMul]
  rfl
 ·obtain ⟨o', h', rfl⟩ := mi h
  try simp only [↓Da, Ua, J4R, *, ↓reduceIte, reduceEqDiff, reduceAdd, reduceLT, reduceMul]
  have e0 := Jmn p h'
  exact e0
def JbJ (x0 : List UInt8) (x1 x2 : Int) (s : Int × Int) : Option (Int × Int) :=
 Jr (fun s => J6K x0 x1 x2 s.1 s.2) s
theorem Jkx {x0 : List UInt8} {x1 x2 : Int} {s o : Int × Int} (h : JbJ x0 x1 x2 s = some o) :
  rk (J1 p) J3H 0 [.bl 0, .sq (.keep [8] J5E)] (X (J1 p) (.lp 0 [0, 1, 2, 8, 9] J4R) ⟨[(0, .p (.s x0)), (1, .p (.i .i64 x1)), (2, .p (.i .i64 x2)), (8, .p (.i .u64 s.1)), (9, .p (.i .i64 s.2))], []⟩) = J8u o := by
 have h0 : Jr (fun s => J6K x0 x1 x2 s.1 s.2) s = some o := h
 exact J04 (P := fun (s : Int × Int) (o : Int × Int) => rk (J1 p) J3H 0 [.bl 0, .sq (.keep [8] J5E)] (X (J1 p) (.lp 0 [0, 1, 2, 8, 9] J4R) ⟨[(0, .p (.s x0)), (1, .p (.i .i64 x1)), (2, .p (.i .i64 x2)), (8, .p (.i .u64 s.1)), (9, .p (.i .i64 s.2))], []⟩) = J8u o) (fun s r hs => by rw [J03]; exact JfB p hs) (fun s s1 r hs ih => by rw [J03]; exact (JfB p hs).trans ih) h0
def J1o (x0 : List UInt8) (x1 x2 : Int) : Option (Int × Int) :=
 if (decide (x2 < 1)) then
  some (0, 1)
 else
  if (decide (x2 > 8)) then
   some (0, 1)
  else
   if (decide (x1 < 0)) then
    some (0, 1)
   else
    if (decide (x1 > ((List.length x0 : Nat) : Int))) then
     some (0, 5)
    else
     if (decide ((IntKind.wrap .i64 (((List.length x0 : Nat) : Int) - x1)) < x2)) then
      some (0, 5)
     else
      JbJ x0 x1 x2 (0, 0)
theorem Jkc {x0 : List UInt8} {x1 x2 : Int} {o : Int × Int} (h : J1o x0 x1 x2 = some o) :
  rk (J1 p) J3H 0 [] (X (J1 p) J26 ⟨[(0, .p (.s x0)), (1, .p (.i .i64 x1)), (2, .p (.i .i64 x2))], []⟩) = J8u o := by
 unfold J1o at h
 rcases J8 h with ⟨h1, h⟩ | ⟨h1, h⟩
 ·obtain rfl := sj h
  try simp only [↓Da, Ua, J26, J8L, *, ↓reduceIte, reduceEqDiff, reduceAdd, reduceLT, reduceMul]
  rfl
 ·try simp only [↓Da, Ua, J26, *, ↓reduceIte, reduceEqDiff, reduceAdd, reduceLT, reduceMul]
  rcases J8 h with ⟨h2, h⟩ | ⟨h2, h⟩
  ·obtain rfl := sj h
   try simp only [↓Da, Ua, J26, J8L, *, ↓reduceIte, reduceEqDiff, reduceAdd, reduceLT, reduceMul]
   rfl
  ·try simp only [↓Da, Ua, J26, *, ↓reduceIte, reduceEqDiff, reduceAdd, reduceLT, reduceMul]
   rcases J8 h with ⟨h3, h⟩ | ⟨h3, h⟩
   ·obtain rfl := sj h
    try simp only [↓Da, Ua, J26, J8L, *, ↓reduceIte, reduceEqDiff, reduceAdd, reduceLT, reduceMul]
    rfl
   ·try simp only [↓Da, Ua, J26, *, ↓reduceIte, reduceEqDiff, reduceAdd, reduceLT, reduceMul]
    rcases J8 h with ⟨h4, h⟩ | ⟨h4, h⟩
    ·obtain rfl := sj h
     try simp only [↓Da, Ua, J26, J8L, *, ↓reduceIte, reduceEqDiff, reduceAdd, reduceLT, reduceMul]
     rfl
    ·try simp only [↓Da, Ua, J26, *, ↓reduceIte, reduceEqDiff, reduceAdd, reduceLT, reduceMul]
     rcases J8 h with ⟨h5, h⟩ | ⟨h5, h⟩
     ·obtain rfl := sj h
      try simp only [↓Da, Ua, J26, J8L, *, ↓reduceIte, reduceEqDiff, reduceAdd, reduceLT, reduceMul]
      rfl
     ·try simp only [↓Da, Ua, J26, *, ↓reduceIte, reduceEqDiff, reduceAdd, reduceLT, reduceMul]
      have e0 := Jkx p h
      exact e0
theorem Jpv {x0 : List UInt8} {x1 x2 : Int} {o : Int × Int} (h : J1o x0 x1 x2 = some o) : AF (J1 p) J3D [.p (.s x0), .p (.i .i64 x1), .p (.i .i64 x2)] [] = J8u o :=
 (J00 (J1 p) (Jpe p) rfl).trans (Jkc p h)
theorem J8H {x0 : List UInt8} {x1 x2 : Int} {o : Int × Int} (h : J1o x0 x1 x2 = some o) : ∀ ws new st, (Jm (AF (J1 p)) J3D ([.p (.s x0), .p (.i .i64 x1), .p (.i .i64 x2)], ws) 0 new).run st = some ⟨.tup [.p (.i .i64 o.1), .p (.i .i64 o.2)], ws⟩ := Jt rfl (Jpv p h) rfl
def Jib  (r : T_api_Page) : Option Res := some (.data (J4 r), [])
def J8A (x0 : Int) : Option (T_api_Page) :=
 some (⟨x0, 0, (Vector.replicate 16 (⟨false, []⟩ : Jf))⟩ : T_api_Page)
theorem JjR {x0 : Int} {o : T_api_Page} (h : J8A x0 = some o) :
  rk (J1 p) J8F 0 [] (X (J1 p) J9H ⟨[(0, .p (.i .i64 x0))], []⟩) = Jib o := by
 unfold J8A at h
 obtain rfl := sj h
 try simp only [↓Da, Ua, J9H, J7, J2, J6, JoU, ↓reduceIte, reduceEqDiff, reduceAdd, reduceLT, reduceMul]
 rfl
theorem Jpn {x0 : Int} {o : T_api_Page} (h : J8A x0 = some o) : AF (J1 p) J8z [.p (.i .i64 x0)] [] = Jib o :=
 (J00 (J1 p) (Jp9 p) rfl).trans (JjR p h)
theorem Jpc {x0 : Int} {o : T_api_Page} (h : J8A x0 = some o) : ∀ ws new st, (Jm (AF (J1 p)) J8z ([.p (.i .i64 x0)], ws) 0 new).run st = some ⟨.data (J4 o), ws⟩ := Jt rfl (Jpn p h) rfl
def Jgd  (r : Bool) : Option Res := some (.p (.b r), [])
def J1z (x0 : Int) : Option (Bool) :=
 if (decide (x0 ≥ 0)) then
  some (decide (x0 < 64))
 else
  some false
theorem Jil {x0 : Int} {o : Bool} (h : J1z x0 = some o) :
  rk (J1 p) J7V 0 [] (X (J1 p) J7T ⟨[(0, .p (.i .i64 x0))], []⟩) = Jgd o := by
 unfold J1z at h
 rcases J8 h with ⟨h1, h⟩ | ⟨h1, h⟩
 ·obtain rfl := sj h
  try simp only [↓Da, Ua, J7T, Jgm, *, ↓reduceIte, reduceEqDiff, reduceAdd, reduceLT, reduceMul]
  rfl
 ·obtain rfl := sj h
  try simp only [↓Da, Ua, J7T, Jgm, *, ↓reduceIte, reduceEqDiff, reduceAdd, reduceLT, reduceMul]
  rfl
theorem JoB {x0 : Int} {o : Bool} (h : J1z x0 = some o) : AF (J1 p) J6q [.p (.i .i64 x0)] [] = Jgd o :=
 (J00 (J1 p) (Jok p) rfl).trans (Jil p h)
theorem Jgc {x0 : Int} {o : Bool} (h : J1z x0 = some o) : ∀ ws new st, (Jm (AF (J1 p)) J6q ([.p (.i .i64 x0)], ws) 0 new).run st = some ⟨.p (.b o), ws⟩ := Jt rfl (JoB p h) rfl
def JjN  (r : T_api_Page) : Option Res := some (.data (J4 r), [])
def J9q (x0 : Int) : Option (T_api_Page) :=
 some (⟨x0, 0, (Vector.replicate 16 (⟨false, []⟩ : Jf))⟩ : T_api_Page)
theorem Jlh {x0 : Int} {o : T_api_Page} (h : J9q x0 = some o) :
  rk (J1 p) J9t 0 [] (X (J1 p) JaK ⟨[(0, .p (.i .i64 x0))], []⟩) = JjN o := by
 unfold J9q at h
 obtain rfl := sj h
 try simp only [↓Da, Ua, JaK, J7, J2, J6, Jr7, ↓reduceIte, reduceEqDiff, reduceAdd, reduceLT, reduceMul]
 rfl
theorem Jqp {x0 : Int} {o : T_api_Page} (h : J9q x0 = some o) : AF (J1 p) J9x [.p (.i .i64 x0)] [] = JjN o :=
 (J00 (J1 p) (JqO p) rfl).trans (Jlh p h)
theorem JqZ {x0 : Int} {o : T_api_Page} (h : J9q x0 = some o) : ∀ ws new st, (Jm (AF (J1 p)) J9x ([.p (.i .i64 x0)], ws) 0 new).run st = some ⟨.data (J4 o), ws⟩ := Jt rfl (Jqp p h) rfl
def J44  (r : (Vector Int 16)) : Option Res := some (.data ((JV (r_i .u32)) r), [])
def J3a (b0 : Vector Int 16) (o : (Int × (Vector Int 16)) ⊕ ((Vector Int 16))) : Option Res := match o with
 | .inl s => rk (J1 p) JS 0 [.bl 0, .sq (.keep [0, 1] J01)] (X (J1 p) (.lp 2 [0, 1, 4] JW) ⟨[(0, .ptr 0 0), (1, .ptr 1 0), (4, .p (.i .i64 s.1))], [.box (List.map AV.p ((JV (r_i .u32)) b0)), .box (List.map AV.p ((JV (r_i .u32)) s.2))]⟩)
 | .inr o => J44 o
def Jex (x2 x4 : Int) (b0 b1 : Vector Int 16) (o : (Int × Int) ⊕ (((Int × (Vector Int 16)) ⊕ ((Vector Int 16))))) : Option Res := match o with
 | .inl s => rk (J1 p) JS 0 [.bl 2, .sq (.keep [0, 1, 2, 3, 4] J2l), .bl 1, .sq (.keep [0, 1, 4] J1D), .lo 2 [0, 1, 4] JW, .bl 0, .sq (.keep [0, 1] J01)] (X (J1 p) (.lp 2 [0, 1, 2, 3, 4, 9] J0J) ⟨[(0, .ptr 0 0), (1, .ptr 1 0), (2, .p (.i .i64 x2)), (3, .p (.i .u32 s.1)), (4, .p (.i .i64 x4)), (9, .p (.i .i64 s.2))], [.box (List.map AV.p ((JV (r_i .u32)) b0)), .box (List.map AV.p ((JV (r_i .u32)) b1))]⟩)
 | .inr o => (J3a p b0) o
def J4u (x4 : Int) (b0 b1 : Vector Int 16) : Option (((Int × (Vector Int 16)) ⊕ ((Vector Int 16)))) :=
 some (.inl ((IntKind.wrap .i64 (x4 + 1)), b1))
theorem Jf5 {x4 : Int} {b0 b1 : Vector Int 16} {o : ((Int × (Vector Int 16)) ⊕ ((Vector Int 16)))} (h : J4u x4 b0 b1 = some o) :
  rk (J1 p) JS 0 [.lo 2 [0, 1, 4] JW, .bl 0, .sq (.keep [0, 1] J01)] (X (J1 p) J1D ⟨[(0, .ptr 0 0), (1, .ptr 1 0), (4, .p (.i .i64 x4))], [.box (List.map AV.p ((JV (r_i .u32)) b0)), .box (List.map AV.p ((JV (r_i .u32)) b1))]⟩) = (J3a p b0) o := by
 unfold J4u at h
 obtain rfl := sj h
 try simp only [↓Da, Ua, J1D, ↓reduceIte, reduceEqDiff, reduceAdd, reduceLT, reduceMul]
 rfl
def J4p (x2 x3 x4 : Int) (b0 b1 : Vector Int 16) : Option (((Int × (Vector Int 16)) ⊕ ((Vector Int 16)))) :=
 Option.bind (inb 16 x2) fun u1 =>
 Option.bind (J8R b1 x2) fun y4 =>
 J4u x4 b0 (Ja7 b1 x2 x3)
theorem Jez {x2 x3 x4 : Int} {b0 b1 : Vector Int 16} {o : ((Int × (Vector Int 16)) ⊕ ((Vector Int 16)))} (h : J4p x2 x3 x4 b0 b1 = some o) :
  rk (J1 p) JS 0 [.bl 1, .sq (.keep [0, 1, 4] J1D), .lo 2 [0, 1, 4] JW, .bl 0, .sq (.keep [0, 1] J01)] (X (J1 p) J2l ⟨[(0, .ptr 0 0), (1, .ptr 1 0), (2, .p (.i .i64 x2)), (3, .p (.i .u32 x3)), (4, .p (.i .i64 x4))], [.box (List.map AV.p ((JV (r_i .u32)) b0)), .box (List.map AV.p ((JV (r_i .u32)) b1))]⟩) = (J3a p b0) o := by
 unfold J4p at h
 obtain ⟨u1, h2, h⟩ := bi h
 have f3 : (0 ≤ (x2 : Int) ∧ (x2 : Int) < ((16 : Nat) : Int)) = True := eq_true (J9m h2)
 obtain ⟨y4, h5, h⟩ := bi h
 have f6 : spl ((JV (r_i .u32)) b1) (Int.toNat x2 * 1) ((r_i .u32) x3) = some ((JV (r_i .u32)) (Ja7 b1 x2 x3)) := by
  have e0 := (Jkv (v := b1) (Jbd .u32) (Jh5 h5) x3)
  exact e0
 try simp only [Nf] at f6
 try simp only [↓Da, Ua, J2l, *, ↓reduceIte, reduceEqDiff, reduceAdd, reduceLT, reduceMul]
 have e0 := Jf5 p h
 exact e0
def J0j (x2 x4 : Int) (b0 b1 : Vector Int 16) (x3 x9 : Int) : Option (((Int × Int) ⊕ (((Int × (Vector Int 16)) ⊕ ((Vector Int 16)))))) :=
 if (decide (x9 < 4)) then
  if (((J5e .u32 x3 1) : Int) == 1) then
   Option.bind (J8O .u32 x3 1) fun q3 =>
   some (.inl ((J5J .u32 q3 2197175160), (IntKind.wrap .i64 (x9 + 1))))
  else
   Option.bind (J8O .u32 x3 1) fun q5 =>
   some (.inl (q5, (IntKind.wrap .i64 (x9 + 1))))
 else
  Option.map (fun o => .inr o) (J4p x2 x3 x4 b0 b1)
theorem JaM {x2 x4 : Int} {b0 b1 : Vector Int 16} {x3 x9 : Int} {o : ((Int × Int) ⊕ (((Int × (Vector Int 16)) ⊕ ((Vector Int 16)))))} (h : J0j x2 x4 b0 b1 x3 x9 = some o) :
  rk (J1 p) JS 0 [.lo 2 [0, 1, 2, 3, 4, 9] J0J, .bl 2, .sq (.keep [0, 1, 2, 3, 4] J2l), .bl 1, .sq (.keep [0, 1, 4] J1D), .lo 2 [0, 1, 4] JW, .bl 0, .sq (.keep [0, 1] J01)] (X (J1 p) J0J ⟨[(0, .ptr 0 0), (1, .ptr 1 0), (2, .p (.i .i64 x2)), (3, .p (.i .u32 x3)), (4, .p (.i .i64 x4)), (9, .p (.i .i64 x9))], [.box (List.map AV.p ((JV (r_i .u32)) b0)), .box (List.map AV.p ((JV (r_i .u32)) b1))]⟩) = (Jex p x2 x4 b0 b1) o := by
 unfold J0j at h
 rcases J8 h with ⟨h1, h⟩ | ⟨h1, h⟩
 ·try simp only [↓Da, Ua, J0J, *, ↓reduceIte, reduceEqDiff, reduceAdd, reduceLT, reduceMul]
  rcases J8 h with ⟨h2, h⟩ | ⟨h2, h⟩
  ·have h2n : (((J5e .u32 x3 1) : Int) != 1) = false := by rw [bne, h2]; rfl
   obtain ⟨q3, h4, h⟩ := bi h
   obtain rfl := sj h
   try simp only [↓Da, Ua, J0J, *, ↓reduceIte, reduceEqDiff, reduceAdd, reduceLT, reduceMul]
   rfl
  ·have h2n : (((J5e .u32 x3 1) : Int) != 1) = true := by rw [bne, h2]; rfl
   obtain ⟨q5, h6, h⟩ := bi h
   obtain rfl := sj h
   try simp only [↓Da, Ua, J0J, *, ↓reduceIte, reduceEqDiff, reduceAdd, reduceLT, reduceMul]
   rfl
 ·obtain ⟨o', h', rfl⟩ := mi h
  try simp only [↓Da, Ua, J0J, *, ↓reduceIte, reduceEqDiff, reduceAdd, reduceLT, reduceMul]
  have e0 := Jez p h'
  exact e0
def J8a (x2 x4 : Int) (b0 b1 : Vector Int 16) (s : Int × Int) : Option (((Int × (Vector Int 16)) ⊕ ((Vector Int 16)))) :=
 Jr (fun s => J0j x2 x4 b0 b1 s.1 s.2) s
theorem JdJ {x2 x4 : Int} {b0 b1 : Vector Int 16} {s : Int × Int} {o : ((Int × (Vector Int 16)) ⊕ ((Vector Int 16)))} (h : J8a x2 x4 b0 b1 s = some o) :
  rk (J1 p) JS 0 [.bl 2, .sq (.keep [0, 1, 2, 3, 4] J2l), .bl 1, .sq (.keep [0, 1, 4] J1D), .lo 2 [0, 1, 4] JW, .bl 0, .sq (.keep [0, 1] J01)] (X (J1 p) (.lp 2 [0, 1, 2, 3, 4, 9] J0J) ⟨[(0, .ptr 0 0), (1, .ptr 1 0), (2, .p (.i .i64 x2)), (3, .p (.i .u32 s.1)), (4, .p (.i .i64 x4)), (9, .p (.i .i64 s.2))], [.box (List.map AV.p ((JV (r_i .u32)) b0)), .box (List.map AV.p ((JV (r_i .u32)) b1))]⟩) = (J3a p b0) o := by
 have h0 : Jr (fun s => J0j x2 x4 b0 b1 s.1 s.2) s = some o := h
 exact J04 (P := fun (s : Int × Int) (o : ((Int × (Vector Int 16)) ⊕ ((Vector Int 16)))) => rk (J1 p) JS 0 [.bl 2, .sq (.keep [0, 1, 2, 3, 4] J2l), .bl 1, .sq (.keep [0, 1, 4] J1D), .lo 2 [0, 1, 4] JW, .bl 0, .sq (.keep [0, 1] J01)] (X (J1 p) (.lp 2 [0, 1, 2, 3, 4, 9] J0J) ⟨[(0, .ptr 0 0), (1, .ptr 1 0), (2, .p (.i .i64 x2)), (3, .p (.i .u32 s.1)), (4, .p (.i .i64 x4)), (9, .p (.i .i64 s.2))], [.box (List.map AV.p ((JV (r_i .u32)) b0)), .box (List.map AV.p ((JV (r_i .u32)) b1))]⟩) = (J3a p b0) o) (fun s r hs => by rw [J03]; exact JaM p hs) (fun s s1 r hs ih => by rw [J03]; exact (JaM p hs).trans ih) h0
def J4j (b0 b1 : Vector Int 16) : Option ((Vector Int 16)) :=
 some b1
theorem JeT {b0 b1 : Vector Int 16} {o : (Vector Int 16)} (h : J4j b0 b1 = some o) :
  rk (J1 p) JS 0 [] (X (J1 p) J01 ⟨[(0, .ptr 0 0), (1, .ptr 1 0)], [.box (List.map AV.p ((JV (r_i .u32)) b0)), .box (List.map AV.p ((JV (r_i .u32)) b1))]⟩) = J44 o := by
 unfold J4j at h
 obtain rfl := sj h
 try simp only [↓Da, Ua, J01, J76, Jgy, ↓reduceIte, reduceEqDiff, reduceAdd, reduceLT, reduceMul]
 rfl
def J0H (b0 : Vector Int 16) (x4 : Int) (b1 : Vector Int 16) : Option (((Int × (Vector Int 16)) ⊕ ((Vector Int 16)))) :=
 if (decide (x4 < 16)) then
  J8a x4 x4 b0 b1 ((IntKind.wrap .u32 x4), 0)
 else
  Option.map (fun o => .inr o) (J4j b0 b1)
theorem JaE {b0 : Vector Int 16} {x4 : Int} {b1 : Vector Int 16} {o : ((Int × (Vector Int 16)) ⊕ ((Vector Int 16)))} (h : J0H b0 x4 b1 = some o) :
  rk (J1 p) JS 0 [.lo 2 [0, 1, 4] JW, .bl 0, .sq (.keep [0, 1] J01)] (X (J1 p) JW ⟨[(0, .ptr 0 0), (1, .ptr 1 0), (4, .p (.i .i64 x4))], [.box (List.map AV.p ((JV (r_i .u32)) b0)), .box (List.map AV.p ((JV (r_i .u32)) b1))]⟩) = (J3a p b0) o := by
 unfold J0H at h
 rcases J8 h with ⟨h1, h⟩ | ⟨h1, h⟩
 ·try simp only [↓Da, Ua, JW, *, ↓reduceIte, reduceEqDiff, reduceAdd, reduceLT, reduceMul]
  have e0 := JdJ p h
  exact e0
 ·obtain ⟨o', h', rfl⟩ := mi h
  try simp only [↓Da, Ua, JW, *, ↓reduceIte, reduceEqDiff, reduceAdd, reduceLT, reduceMul]
  have e0 := JeT p h'
  exact e0
def JaB (b0 : Vector Int 16) (s : Int × (Vector Int 16)) : Option ((Vector Int 16)) :=
 Jr (fun s => J0H b0 s.1 s.2) s
theorem JdS {b0 : Vector Int 16} {s : Int × (Vector Int 16)} {o : (Vector Int 16)} (h : JaB b0 s = some o) :
  rk (J1 p) JS 0 [.bl 0, .sq (.keep [0, 1] J01)] (X (J1 p) (.lp 2 [0, 1, 4] JW) ⟨[(0, .ptr 0 0), (1, .ptr 1 0), (4, .p (.i .i64 s.1))], [.box (List.map AV.p ((JV (r_i .u32)) b0)), .box (List.map AV.p ((JV (r_i .u32)) s.2))]⟩) = J44 o := by
 have h0 : Jr (fun s => J0H b0 s.1 s.2) s = some o := h
 exact J04 (P := fun (s : Int × (Vector Int 16)) (o : (Vector Int 16)) => rk (J1 p) JS 0 [.bl 0, .sq (.keep [0, 1] J01)] (X (J1 p) (.lp 2 [0, 1, 4] JW) ⟨[(0, .ptr 0 0), (1, .ptr 1 0), (4, .p (.i .i64 s.1))], [.box (List.map AV.p ((JV (r_i .u32)) b0)), .box (List.map AV.p ((JV (r_i .u32)) s.2))]⟩) = J44 o) (fun s r hs => by rw [J03]; exact JaE p hs) (fun s s1 r hs ih => by rw [J03]; exact (JaE p hs).trans ih) h0
def J2V  : Option ((Vector Int 16)) :=
 JaB (Vector.replicate 16 0) (0, (Vector.replicate 16 0))
theorem JdU  {o : (Vector Int 16)} (h : J2V = some o) :
  rk (J1 p) JS 0 [] (X (J1 p) J5q ⟨[], []⟩) = J44 o := by
 unfold J2V at h
 try simp only [↓Da, Ua, J5q, J76, ↓reduceIte, reduceEqDiff, reduceAdd, reduceLT, reduceMul]
 have e0 := JdS p h
 exact e0
theorem Jgf  {o : (Vector Int 16)} (h : J2V = some o) : AF (J1 p) J47 [] [] = J44 o :=
 (J00 (J1 p) (Jgb p) rfl).trans (JdU p h)
theorem Jg1  {o : (Vector Int 16)} (h : J2V = some o) : ∀ ws new st, (Jm (AF (J1 p)) J47 ([], ws) 0 new).run st = some ⟨.data ((JV (r_i .u32)) o), ws⟩ := Jt rfl (Jgf p h) rfl
def J89 (x0 : T_api_Copy) (x1 : Int) : Option (Int) :=
 some (IntKind.wrap .i64 (x0.Page - x1))
def Jc5  (r : Bool) : Option Res := some (.p (.b r), [])
def J0o (x0 : Jf) : Option (Bool) :=
 if (decide (((List.length x0.Data : Nat) : Int) ≤ 12)) then
  if x0.Set then
   some true
  else
   some (x0.Data == [])
 else
  some false
theorem Jef {x0 : Jf} {o : Bool} (h : J0o x0 = some o) :
  rk (J1 p) J4x 0 [] (X (J1 p) J2C ⟨[(0, .data (Jk x0))], []⟩) = Jc5 o := by
 unfold J0o at h
 rcases J8 h with ⟨h1, h⟩ | ⟨h1, h⟩
 ·try simp only [↓Da, Ua, J2C, J7, *, ↓reduceIte, reduceEqDiff, reduceAdd, reduceLT, reduceMul]
  rcases J8 h with ⟨h2, h⟩ | ⟨h2, h⟩
  ·obtain rfl := sj h
   try simp only [↓Da, Ua, J2C, J7, J9B, *, ↓reduceIte, reduceEqDiff, reduceAdd, reduceLT, reduceMul]
   rfl
  ·obtain rfl := sj h
   try simp only [↓Da, Ua, J2C, J7, J9B, *, ↓reduceIte, reduceEqDiff, reduceAdd, reduceLT, reduceMul]
   rfl
 ·obtain rfl := sj h
  try simp only [↓Da, Ua, J2C, J7, J9B, *, ↓reduceIte, reduceEqDiff, reduceAdd, reduceLT, reduceMul]
  rfl
theorem JhG {x0 : Jf} {o : Bool} (h : J0o x0 = some o) : AF (J1 p) J4C [.data (Jk x0)] [] = Jc5 o :=
 (J00 (J1 p) (JhE p) rfl).trans (Jef p h)
theorem Jhx {x0 : Jf} {o : Bool} (h : J0o x0 = some o) : ∀ ws new st, (Jm (AF (J1 p)) J4C ([.data (Jk x0)], ws) 0 new).run st = some ⟨.p (.b o), ws⟩ := Jt rfl (JhG p h) rfl
def Jfd  (r : Int) : Option Res := some (.p (.i .i64 r), [])
def JP (x0 : List UInt8) (x1 x2 : Int) : Option (Int) :=
 Option.bind (JO x0 x1 x2) fun r1 =>
 some r1.1
theorem Jhw {x0 : List UInt8} {x1 x2 o : Int} (h : JP x0 x1 x2 = some o) :
  rk (J1 p) J6Y 0 [] (X (J1 p) J8o ⟨[(0, .p (.s x0)), (1, .p (.i .i64 x1)), (2, .p (.i .i64 x2))], []⟩) = Jfd o := by
 unfold JP at h
 obtain ⟨r1, h2, h⟩ := bi h
 have f3 := J7l p h2
 try simp only [Nf] at f3
 obtain rfl := sj h
 try simp only [↓Da, Ua, J8o, Jn0, *, ↓reduceIte, reduceEqDiff, reduceAdd, reduceLT, reduceMul]
 rfl
theorem Jn2 {x0 : List UInt8} {x1 x2 o : Int} (h : JP x0 x1 x2 = some o) : AF (J1 p) J3M [.p (.s x0), .p (.i .i64 x1), .p (.i .i64 x2)] [] = Jfd o :=
 (J00 (J1 p) (Jmr p) rfl).trans (Jhw p h)
theorem Ja1 {x0 : List UInt8} {x1 x2 o : Int} (h : JP x0 x1 x2 = some o) : ∀ ws new st, (Jm (AF (J1 p)) J3M ([.p (.s x0), .p (.i .i64 x1), .p (.i .i64 x2)], ws) 0 new).run st = some ⟨.p (.i .i64 o), ws⟩ := Jt rfl (Jn2 p h) rfl
def J8E  (r : T_api_Page × Bool) : Option Res := some (.tup [.data (J4 r.1), .p (.b r.2)], [])
def JmX (x0 : List UInt8) (b0 : T_api_Page) (o : (Int × T_api_Page) ⊕ (T_api_Page × Bool)) : Option Res := match o with
 | .inl s => rk (J1 p) J3F 0 [.bl 0, .sq (.keep [2, 4] J5P)] (X (J1 p) (.lp 2 [0, 2, 4, 13] J1Q) ⟨[(0, .p (.s x0)), (2, .ptr 0 0), (4, .ptr 1 0), (13, .p (.i .i64 s.1))], [.box (List.map AV.p (J4 b0)), .box (List.map AV.p (J4 s.2))]⟩)
 | .inr o => J8E o
def J6Q (b0 b1 : T_api_Page) : Option (T_api_Page × Bool) :=
 some (b1, true)
theorem Jnc {b0 b1 : T_api_Page} {o : T_api_Page × Bool} (h : J6Q b0 b1 = some o) :
  rk (J1 p) J3F 0 [] (X (J1 p) J5P ⟨[(2, .ptr 0 0), (4, .ptr 1 0)], [.box (List.map AV.p (J4 b0)), .box (List.map AV.p (J4 b1))]⟩) = J8E o := by
 unfold J6Q at h
 obtain rfl := sj h
 try simp only [↓Da, Ua, J5P, J7, J2, J6, JhX, ↓reduceIte, reduceEqDiff, reduceAdd, reduceLT, reduceMul]
 rfl
def J1d (x0 : List UInt8) (b0 : T_api_Page) (x13 : Int) (b1 : T_api_Page) : Option (((Int × T_api_Page) ⊕ (T_api_Page × Bool))) :=
 if (decide (x13 < 16)) then
  Option.bind (JP x0 (IntKind.wrap .i64 (12 + (IntKind.wrap .i64 (x13 * 13)))) 1) fun r2 =>
  if ((r2 : Int) == 255) then
   some (.inl ((IntKind.wrap .i64 (x13 + 1)), b1))
  else
   if (decide (r2 > 12)) then
    some (.inr ((⟨0, 0, (Vector.replicate 16 (⟨false, []⟩ : Jf))⟩ : T_api_Page), false))
   else
    Option.bind (J0Z x0 (some (IntKind.wrap .i64 ((IntKind.wrap .i64 (12 + (IntKind.wrap .i64 (x13 * 13)))) + 1))) (some (IntKind.wrap .i64 ((IntKind.wrap .i64 ((IntKind.wrap .i64 (12 + (IntKind.wrap .i64 (x13 * 13)))) + 1)) + r2)))) fun m7 =>
    Option.bind (inb 16 x13) fun u10 =>
    Option.bind (J8R b1.Cells x13) fun y13 =>
    some (.inl ((IntKind.wrap .i64 (x13 + 1)), (⟨b1.ID, b1.LSN, (Ja7 b1.Cells x13 (⟨true, m7⟩ : Jf))⟩ : T_api_Page)))
 else
  Option.map (fun o => .inr o) (J6Q b0 b1)
theorem Jfg {x0 : List UInt8} {b0 : T_api_Page} {x13 : Int} {b1 : T_api_Page} {o : ((Int × T_api_Page) ⊕ (T_api_Page × Bool))} (h : J1d x0 b0 x13 b1 = some o) :
  rk (J1 p) J3F 0 [.lo 2 [0, 2, 4, 13] J1Q, .bl 0, .sq (.keep [2, 4] J5P)] (X (J1 p) J1Q ⟨[(0, .p (.s x0)), (2, .ptr 0 0), (4, .ptr 1 0), (13, .p (.i .i64 x13))], [.box (List.map AV.p (J4 b0)), .box (List.map AV.p (J4 b1))]⟩) = (JmX p x0 b0) o := by
 unfold J1d at h
 rcases J8 h with ⟨h1, h⟩ | ⟨h1, h⟩
 ·obtain ⟨r2, h3, h⟩ := bi h
  have f4 := Ja1 p h3
  try simp only [Nf] at f4
  try simp only [↓Da, Ua, J1Q, J7, J2, J6, *, ↓reduceIte, reduceEqDiff, reduceAdd, reduceLT, reduceMul]
  rcases J8 h with ⟨h5, h⟩ | ⟨h5, h⟩
  ·have h5n : ((r2 : Int) != 255) = false := by rw [bne, h5]; rfl
   obtain rfl := sj h
   try simp only [↓Da, Ua, J1Q, J7, J2, J6, *, ↓reduceIte, reduceEqDiff, reduceAdd, reduceLT, reduceMul]
   rfl
  ·have h5n : ((r2 : Int) != 255) = true := by rw [bne, h5]; rfl
   try simp only [↓Da, Ua, J1Q, J7, J2, J6, *, ↓reduceIte, reduceEqDiff, reduceAdd, reduceLT, reduceMul]
   rcases J8 h with ⟨h6, h⟩ | ⟨h6, h⟩
   ·obtain rfl := sj h
    try simp only [↓Da, Ua, J1Q, J7, J2, J6, JhX, *, ↓reduceIte, reduceEqDiff, reduceAdd, reduceLT, reduceMul]
    rfl
   ·obtain ⟨m7, h8, h⟩ := bi h
    have f9 : J13 (.p (.s x0)) (some (.p (.i .i64 (IntKind.wrap .i64 ((IntKind.wrap .i64 (12 + (IntKind.wrap .i64 (x13 * 13)))) + 1))))) (some (.p (.i .i64 (IntKind.wrap .i64 ((IntKind.wrap .i64 ((IntKind.wrap .i64 (12 + (IntKind.wrap .i64 (x13 * 13)))) + 1)) + r2))))) = some (.p (.s m7)) := J0X (k := .i64) (lo := (some (IntKind.wrap .i64 ((IntKind.wrap .i64 (12 + (IntKind.wrap .i64 (x13 * 13)))) + 1)))) (hi := (some (IntKind.wrap .i64 ((IntKind.wrap .i64 ((IntKind.wrap .i64 (12 + (IntKind.wrap .i64 (x13 * 13)))) + 1)) + r2)))) h8
    try simp only [Nf] at f9
    obtain ⟨u10, h11, h⟩ := bi h
    have f12 : (0 ≤ (x13 : Int) ∧ (x13 : Int) < ((16 : Nat) : Int)) = True := eq_true (J9m h11)
    obtain ⟨y13, h14, h⟩ := bi h
    have f15 : spl (J4 b1) (2 + Int.toNat x13 * 2) (Jk (⟨true, m7⟩ : Jf)) = some (J4 (⟨b1.ID, b1.LSN, (Ja7 b1.Cells x13 (⟨true, m7⟩ : Jf))⟩ : T_api_Page)) := by
     have e0 := (JkF (J11 b1) (Jkv (v := b1.Cells) JQ (Jh5 h14) (⟨true, m7⟩ : Jf)) (J7c b1 _))
     exact e0
    try simp only [Nf] at f15
    obtain rfl := sj h
    try simp only [↓Da, Ua, J1Q, J7, J2, J6, *, ↓reduceIte, reduceEqDiff, reduceAdd, reduceLT, reduceMul]
    rfl
 ·obtain ⟨o', h', rfl⟩ := mi h
  try simp only [↓Da, Ua, J1Q, J7, J2, J6, *, ↓reduceIte, reduceEqDiff, reduceAdd, reduceLT, reduceMul]
  have e0 := Jnc p h'
  exact e0
def Ja2 (x0 : List UInt8) (b0 : T_api_Page) (s : Int × T_api_Page) : Option (T_api_Page × Bool) :=
 Jr (fun s => J1d x0 b0 s.1 s.2) s
theorem Jkg {x0 : List UInt8} {b0 : T_api_Page} {s : Int × T_api_Page} {o : T_api_Page × Bool} (h : Ja2 x0 b0 s = some o) :
  rk (J1 p) J3F 0 [.bl 0, .sq (.keep [2, 4] J5P)] (X (J1 p) (.lp 2 [0, 2, 4, 13] J1Q) ⟨[(0, .p (.s x0)), (2, .ptr 0 0), (4, .ptr 1 0), (13, .p (.i .i64 s.1))], [.box (List.map AV.p (J4 b0)), .box (List.map AV.p (J4 s.2))]⟩) = J8E o := by
 have h0 : Jr (fun s => J1d x0 b0 s.1 s.2) s = some o := h
 exact J04 (P := fun (s : Int × T_api_Page) (o : T_api_Page × Bool) => rk (J1 p) J3F 0 [.bl 0, .sq (.keep [2, 4] J5P)] (X (J1 p) (.lp 2 [0, 2, 4, 13] J1Q) ⟨[(0, .p (.s x0)), (2, .ptr 0 0), (4, .ptr 1 0), (13, .p (.i .i64 s.1))], [.box (List.map AV.p (J4 b0)), .box (List.map AV.p (J4 s.2))]⟩) = J8E o) (fun s r hs => by rw [J03]; exact Jfg p hs) (fun s s1 r hs ih => by rw [J03]; exact (Jfg p hs).trans ih) h0
def J66 (x0 : List UInt8) : Option (T_api_Page × Bool) :=
 Option.bind (JP x0 8 4) fun r1 =>
 Option.bind (JP x0 0 8) fun r4 =>
 Ja2 x0 (⟨0, 0, (Vector.replicate 16 (⟨false, []⟩ : Jf))⟩ : T_api_Page) (0, (⟨r1, r4, (Vector.replicate 16 (⟨false, []⟩ : Jf))⟩ : T_api_Page))
theorem Jk5 {x0 : List UInt8} {o : T_api_Page × Bool} (h : J66 x0 = some o) :
  rk (J1 p) J3F 0 [] (X (J1 p) J9J ⟨[(0, .p (.s x0))], []⟩) = J8E o := by
 unfold J66 at h
 obtain ⟨r1, h2, h⟩ := bi h
 have f3 := Ja1 p h2
 try simp only [Nf] at f3
 obtain ⟨r4, h5, h⟩ := bi h
 have f6 := Ja1 p h5
 try simp only [Nf] at f6
 try simp only [↓Da, Ua, J9J, J7, J2, J6, *, ↓reduceIte, reduceEqDiff, reduceAdd, reduceLT, reduceMul]
 have e0 := Jkg p h
 exact e0
theorem Jpt {x0 : List UInt8} {o : T_api_Page × Bool} (h : J66 x0 = some o) : AF (J1 p) J8y [.p (.s x0)] [] = J8E o :=
 (J00 (J1 p) (Jpo p) rfl).trans (Jk5 p h)
theorem Jpk {x0 : List UInt8} {o : T_api_Page × Bool} (h : J66 x0 = some o) : ∀ ws new st, (Jm (AF (J1 p)) J8y ([.p (.s x0)], ws) 0 new).run st = some ⟨.tup [.data (J4 o.1), .p (.b o.2)], ws⟩ := Jt rfl (Jpt p h) rfl
def Jba  (r : (List UInt8) × T_pagemenddraw_Codes) : Option Res := some (.p (.s r.1), [.box (List.map AV.p (J0 r.2))])
def J2D (b0 : T_pagemenddraw_Codes) (x1 : List UInt8) : Option ((List UInt8) × T_pagemenddraw_Codes) :=
 if ((((List.length x1 : Nat) : Int) : Int) == 0) then
  Option.bind (Jp b0 256) fun r2 =>
  some ((toStr ([(IntKind.wrap .u8 r2.1)] : List Int)), r2.2)
 else
  Option.bind (Jp b0 ((List.length x1 : Nat) : Int)) fun r6 =>
  Option.bind (Jp r6.2 4) fun r9 =>
  if ((r9.1 : Int) == 0) then
   Option.bind (J0Z x1 none (some r6.1)) fun m13 =>
   Option.bind (J0Z x1 (some (IntKind.wrap .i64 (r6.1 + 1))) none) fun m16 =>
   Option.bind (J1Z m13 m16) fun s19 =>
   some (s19, r9.2)
  else
   if ((r9.1 : Int) == 1) then
    Option.bind (Jp r9.2 256) fun r22 =>
    Option.bind (J1Z x1 (toStr ([(IntKind.wrap .u8 r22.1)] : List Int))) fun s26 =>
    some (s26, r22.2)
   else
    Option.bind (J0Z x1 none (some r6.1)) fun m28 =>
    Option.bind (JcR x1 r6.1) fun c31 =>
    Option.bind (Jp r9.2 255) fun r33 =>
    Option.bind (J1Z m28 (toStr ([(J5J .u8 c31 (IntKind.wrap .u8 (IntKind.wrap .i64 (1 + r33.1))))] : List Int))) fun s37 =>
    Option.bind (J0Z x1 (some (IntKind.wrap .i64 (r6.1 + 1))) none) fun m39 =>
    Option.bind (J1Z s37 m39) fun s42 =>
    some (s42, r33.2)
theorem Jdc {b0 : T_pagemenddraw_Codes} {x1 : List UInt8} {o : (List UInt8) × T_pagemenddraw_Codes} (h : J2D b0 x1 = some o) :
  rk (J1 p) J3r 1 [] (X (J1 p) J0P ⟨[(0, .ptr 0 0), (1, .p (.s x1))], [.box (List.map AV.p (J0 b0))]⟩) = Jba o := by
 unfold J2D at h
 rcases J8 h with ⟨h1, h⟩ | ⟨h1, h⟩
 ·have h1n : ((((List.length x1 : Nat) : Int) : Int) != 0) = false := by rw [bne, h1]; rfl
  obtain ⟨r2, h3, h⟩ := bi h
  have f4 : ∀ ws new s, JG ws s [0] [List.map AV.p (J0 b0)] → (Jm (AF (J1 p)) Jb ([.ptr 0 0, .p (.i .i64 256)], ws) 0 new).run s = some ⟨.p (.i .i64 r2.1), ws ++ [(0, .box (List.map AV.p (J0 r2.2)))]⟩ := Jy (args' := [.ptr 0 0, .p (.i .i64 256)]) (bs := [0]) (css := [List.map AV.p (J0 b0)]) (css' := [List.map AV.p (J0 r2.2)]) rfl rfl rfl (by simp [Jl, J9]) (Jv p h3) rfl rfl (by simp [Jl, J9])
  try simp only [Nf] at f4
  have f5 : ∀ env sto new, (cvR .toStr (.p (.sl 1 (List.map (r_i .u8) ([(IntKind.wrap .u8 r2.1)] : List Int)))) new).run ⟨env, sto⟩ = some ⟨.p (.s (toStr ([(IntKind.wrap .u8 r2.1)] : List Int))), []⟩ := fun env sto new => Jon env sto _ new
  try simp only [Nf] at f5
  obtain rfl := sj h
  try simp only [↓Da, Ua, J0P, Jd, J6C, *, ↓reduceIte, reduceEqDiff, reduceAdd, reduceLT, reduceMul]
  rfl
 ·have h1n : ((((List.length x1 : Nat) : Int) : Int) != 0) = true := by rw [bne, h1]; rfl
  obtain ⟨r6, h7, h⟩ := bi h
  have f8 : ∀ ws new s, JG ws s [0] [List.map AV.p (J0 b0)] → (Jm (AF (J1 p)) Jb ([.ptr 0 0, .p (.i .i64 ((List.length x1 : Nat) : Int))], ws) 0 new).run s = some ⟨.p (.i .i64 r6.1), ws ++ [(0, .box (List.map AV.p (J0 r6.2)))]⟩ := Jy (args' := [.ptr 0 0, .p (.i .i64 ((List.length x1 : Nat) : Int))]) (bs := [0]) (css := [List.map AV.p (J0 b0)]) (css' := [List.map AV.p (J0 r6.2)]) rfl rfl rfl (by simp [Jl, J9]) (Jv p h7) rfl rfl (by simp [Jl, J9])
  try simp only [Nf] at f8
  obtain ⟨r9, h10, h⟩ := bi h
  have f11 : ∀ ws new s, JG ws s [0] [List.map AV.p (J0 r6.2)] → (Jm (AF (J1 p)) Jb ([.ptr 0 0, .p (.i .i64 4)], ws) 0 new).run s = some ⟨.p (.i .i64 r9.1), ws ++ [(0, .box (List.map AV.p (J0 r9.2)))]⟩ := Jy (args' := [.ptr 0 0, .p (.i .i64 4)]) (bs := [0]) (css := [List.map AV.p (J0 r6.2)]) (css' := [List.map AV.p (J0 r9.2)]) rfl rfl rfl (by simp [Jl, J9]) (Jv p h10) rfl rfl (by simp [Jl, J9])
  try simp only [Nf] at f11
  try simp only [↓Da, Ua, J0P, Jd, *, ↓reduceIte, reduceEqDiff, reduceAdd, reduceLT, reduceMul]
  rcases J8 h with ⟨h12, h⟩ | ⟨h12, h⟩
  ·have h12n : ((r9.1 : Int) != 0) = false := by rw [bne, h12]; rfl
   obtain ⟨m13, h14, h⟩ := bi h
   have f15 : J13 (.p (.s x1)) none (some (.p (.i .i64 r6.1))) = some (.p (.s m13)) := J0X (k := .i64) (lo := none) (hi := (some r6.1)) h14
   try simp only [Nf] at f15
   obtain ⟨m16, h17, h⟩ := bi h
   have f18 : J13 (.p (.s x1)) (some (.p (.i .i64 (IntKind.wrap .i64 (r6.1 + 1))))) none = some (.p (.s m16)) := J0X (k := .i64) (lo := (some (IntKind.wrap .i64 (r6.1 + 1)))) (hi := none) h17
   try simp only [Nf] at f18
   obtain ⟨s19, h20, h⟩ := bi h
   obtain rfl := sj h
   try simp only [↓Da, Ua, J0P, Jd, J6C, *, ↓reduceIte, reduceEqDiff, reduceAdd, reduceLT, reduceMul]
   rfl
  ·have h12n : ((r9.1 : Int) != 0) = true := by rw [bne, h12]; rfl
   try simp only [↓Da, Ua, J0P, Jd, *, ↓reduceIte, reduceEqDiff, reduceAdd, reduceLT, reduceMul]
   rcases J8 h with ⟨h21, h⟩ | ⟨h21, h⟩
   ·have h21n : ((r9.1 : Int) != 1) = false := by rw [bne, h21]; rfl
    obtain ⟨r22, h23, h⟩ := bi h
    have f24 : ∀ ws new s, JG ws s [0] [List.map AV.p (J0 r9.2)] → (Jm (AF (J1 p)) Jb ([.ptr 0 0, .p (.i .i64 256)], ws) 0 new).run s = some ⟨.p (.i .i64 r22.1), ws ++ [(0, .box (List.map AV.p (J0 r22.2)))]⟩ := Jy (args' := [.ptr 0 0, .p (.i .i64 256)]) (bs := [0]) (css := [List.map AV.p (J0 r9.2)]) (css' := [List.map AV.p (J0 r22.2)]) rfl rfl rfl (by simp [Jl, J9]) (Jv p h23) rfl rfl (by simp [Jl, J9])
    try simp only [Nf] at f24
    have f25 : ∀ env sto new, (cvR .toStr (.p (.sl 1 (List.map (r_i .u8) ([(IntKind.wrap .u8 r22.1)] : List Int)))) new).run ⟨env, sto⟩ = some ⟨.p (.s (toStr ([(IntKind.wrap .u8 r22.1)] : List Int))), []⟩ := fun env sto new => Jon env sto _ new
    try simp only [Nf] at f25
    obtain ⟨s26, h27, h⟩ := bi h
    obtain rfl := sj h
    try simp only [↓Da, Ua, J0P, Jd, J6C, *, ↓reduceIte, reduceEqDiff, reduceAdd, reduceLT, reduceMul]
    rfl
   ·have h21n : ((r9.1 : Int) != 1) = true := by rw [bne, h21]; rfl
    obtain ⟨m28, h29, h⟩ := bi h
    have f30 : J13 (.p (.s x1)) none (some (.p (.i .i64 r6.1))) = some (.p (.s m28)) := J0X (k := .i64) (lo := none) (hi := (some r6.1)) h29
    try simp only [Nf] at f30
    obtain ⟨c31, h32, h⟩ := bi h
    obtain ⟨r33, h34, h⟩ := bi h
    have f35 : ∀ ws new s, JG ws s [0] [List.map AV.p (J0 r9.2)] → (Jm (AF (J1 p)) Jb ([.ptr 0 0, .p (.i .i64 255)], ws) 0 new).run s = some ⟨.p (.i .i64 r33.1), ws ++ [(0, .box (List.map AV.p (J0 r33.2)))]⟩ := Jy (args' := [.ptr 0 0, .p (.i .i64 255)]) (bs := [0]) (css := [List.map AV.p (J0 r9.2)]) (css' := [List.map AV.p (J0 r33.2)]) rfl rfl rfl (by simp [Jl, J9]) (Jv p h34) rfl rfl (by simp [Jl, J9])
    try simp only [Nf] at f35
    have f36 : ∀ env sto new, (cvR .toStr (.p (.sl 1 (List.map (r_i .u8) ([(J5J .u8 c31 (IntKind.wrap .u8 (IntKind.wrap .i64 (1 + r33.1))))] : List Int)))) new).run ⟨env, sto⟩ = some ⟨.p (.s (toStr ([(J5J .u8 c31 (IntKind.wrap .u8 (IntKind.wrap .i64 (1 + r33.1))))] : List Int))), []⟩ := fun env sto new => Jon env sto _ new
    try simp only [Nf] at f36
    obtain ⟨s37, h38, h⟩ := bi h
    obtain ⟨m39, h40, h⟩ := bi h
    have f41 : J13 (.p (.s x1)) (some (.p (.i .i64 (IntKind.wrap .i64 (r6.1 + 1))))) none = some (.p (.s m39)) := J0X (k := .i64) (lo := (some (IntKind.wrap .i64 (r6.1 + 1)))) (hi := none) h40
    try simp only [Nf] at f41
    obtain ⟨s42, h43, h⟩ := bi h
    obtain rfl := sj h
    try simp only [↓Da, Ua, J0P, Jd, J6C, *, ↓reduceIte, reduceEqDiff, reduceAdd, reduceLT, reduceMul]
    rfl
theorem Jb2 {b0 : T_pagemenddraw_Codes} {x1 : List UInt8} {o : (List UInt8) × T_pagemenddraw_Codes} (h : J2D b0 x1 = some o) : AF (J1 p) J1O [.ptr 0 0, .p (.s x1)] [.box (List.map AV.p (J0 b0))] = Jba o :=
 (J00 (J1 p) (JfL p) rfl).trans (Jdc p h)
def J3h  (r : T_api_Page × T_pagemenddraw_Codes) : Option Res := some (.data (J4 r.1), [.box (List.map AV.p (J0 r.2))])
def JfM (b1 : T_api_Page) (o : (Int × T_pagemenddraw_Codes × T_api_Page) ⊕ (T_api_Page × T_pagemenddraw_Codes)) : Option Res := match o with
 | .inl s => rk (J1 p) J0C 1 [.bl 0, .sq (.keep [4, 5] J2I)] (X (J1 p) (.lp 3 [0, 4, 5, 6] J1N) ⟨[(0, .ptr 0 0), (4, .ptr 1 0), (5, .ptr 2 0), (6, .p (.i .i64 s.1))], [.box (List.map AV.p (J0 s.2.1)), .box (List.map AV.p (J4 b1)), .box (List.map AV.p (J4 s.2.2))]⟩)
 | .inr o => J3h o
def J3s (b0 : T_pagemenddraw_Codes) (b1 b2 : T_api_Page) : Option (T_api_Page × T_pagemenddraw_Codes) :=
 some (b2, b0)
theorem Jb5 {b0 : T_pagemenddraw_Codes} {b1 b2 : T_api_Page} {o : T_api_Page × T_pagemenddraw_Codes} (h : J3s b0 b1 b2 = some o) :
  rk (J1 p) J0C 1 [] (X (J1 p) J2I ⟨[(4, .ptr 1 0), (5, .ptr 2 0)], [.box (List.map AV.p (J0 b0)), .box (List.map AV.p (J4 b1)), .box (List.map AV.p (J4 b2))]⟩) = J3h o := by
 unfold J3s at h
 obtain rfl := sj h
 try simp only [↓Da, Ua, J2I, J7, J2, J6, JhM, ↓reduceIte, reduceEqDiff, reduceAdd, reduceLT, reduceMul]
 rfl
def J2E (b1 : T_api_Page) (x6 : Int) (b0 : T_pagemenddraw_Codes) (b2 : T_api_Page) : Option (((Int × T_pagemenddraw_Codes × T_api_Page) ⊕ (T_api_Page × T_pagemenddraw_Codes))) :=
 if (decide (x6 > 0)) then
  Option.bind (Jp b0 16) fun r2 =>
  Option.bind (J4z r2.2) fun r5 =>
  Option.bind (inb 16 r2.1) fun u8 =>
  Option.bind (J8R b2.Cells r2.1) fun y11 =>
  some (.inl ((IntKind.wrap .i64 (x6 - 1)), r5.2, (⟨b2.ID, b2.LSN, (Ja7 b2.Cells r2.1 r5.1)⟩ : T_api_Page)))
 else
  Option.map (fun o => .inr o) (J3s b0 b1 b2)
theorem Jb4 {b1 : T_api_Page} {x6 : Int} {b0 : T_pagemenddraw_Codes} {b2 : T_api_Page} {o : ((Int × T_pagemenddraw_Codes × T_api_Page) ⊕ (T_api_Page × T_pagemenddraw_Codes))} (h : J2E b1 x6 b0 b2 = some o) :
  rk (J1 p) J0C 1 [.lo 3 [0, 4, 5, 6] J1N, .bl 0, .sq (.keep [4, 5] J2I)] (X (J1 p) J1N ⟨[(0, .ptr 0 0), (4, .ptr 1 0), (5, .ptr 2 0), (6, .p (.i .i64 x6))], [.box (List.map AV.p (J0 b0)), .box (List.map AV.p (J4 b1)), .box (List.map AV.p (J4 b2))]⟩) = (JfM p b1) o := by
 unfold J2E at h
 rcases J8 h with ⟨h1, h⟩ | ⟨h1, h⟩
 ·obtain ⟨r2, h3, h⟩ := bi h
  have f4 : ∀ ws new s, JG ws s [0] [List.map AV.p (J0 b0)] → (Jm (AF (J1 p)) Jb ([.ptr 0 0, .p (.i .i64 16)], ws) 0 new).run s = some ⟨.p (.i .i64 r2.1), ws ++ [(0, .box (List.map AV.p (J0 r2.2)))]⟩ := Jy (args' := [.ptr 0 0, .p (.i .i64 16)]) (bs := [0]) (css := [List.map AV.p (J0 b0)]) (css' := [List.map AV.p (J0 r2.2)]) rfl rfl rfl (by simp [Jl, J9]) (Jv p h3) rfl rfl (by simp [Jl, J9])
  try simp only [Nf] at f4
  obtain ⟨r5, h6, h⟩ := bi h
  have f7 : ∀ ws new s, JG ws s [0] [List.map AV.p (J0 r2.2)] → (Jm (AF (J1 p)) J4w ([.ptr 0 0], ws) 0 new).run s = some ⟨.data (Jk r5.1), ws ++ [(0, .box (List.map AV.p (J0 r5.2)))]⟩ := Jy (args' := [.ptr 0 0]) (bs := [0]) (css := [List.map AV.p (J0 r2.2)]) (css' := [List.map AV.p (J0 r5.2)]) rfl rfl rfl (by simp [Jl, J9]) (JhF p h6) rfl rfl (by simp [Jl, J9])
  try simp only [Nf] at f7
  obtain ⟨u8, h9, h⟩ := bi h
  have f10 : (0 ≤ (r2.1 : Int) ∧ (r2.1 : Int) < ((16 : Nat) : Int)) = True := eq_true (J9m h9)
  obtain ⟨y11, h12, h⟩ := bi h
  have f13 : spl (J4 b2) (2 + Int.toNat r2.1 * 2) (Jk r5.1) = some (J4 (⟨b2.ID, b2.LSN, (Ja7 b2.Cells r2.1 r5.1)⟩ : T_api_Page)) := by
   have e0 := (JkF (J11 b2) (Jkv (v := b2.Cells) JQ (Jh5 h12) r5.1) (J7c b2 _))
   exact e0
  try simp only [Nf] at f13
  obtain rfl := sj h
  try simp only [↓Da, Ua, J1N, J7, Jd, *, ↓reduceIte, reduceEqDiff, reduceAdd, reduceLT, reduceMul]
  rfl
 ·obtain ⟨o', h', rfl⟩ := mi h
  try simp only [↓Da, Ua, J1N, J7, Jd, *, ↓reduceIte, reduceEqDiff, reduceAdd, reduceLT, reduceMul]
  have e0 := Jb5 p h'
  exact e0
def Jb9 (b1 : T_api_Page) (s : Int × T_pagemenddraw_Codes × T_api_Page) : Option (T_api_Page × T_pagemenddraw_Codes) :=
 Jr (fun s => J2E b1 s.1 s.2.1 s.2.2) s
theorem Jeg {b1 : T_api_Page} {s : Int × T_pagemenddraw_Codes × T_api_Page} {o : T_api_Page × T_pagemenddraw_Codes} (h : Jb9 b1 s = some o) :
  rk (J1 p) J0C 1 [.bl 0, .sq (.keep [4, 5] J2I)] (X (J1 p) (.lp 3 [0, 4, 5, 6] J1N) ⟨[(0, .ptr 0 0), (4, .ptr 1 0), (5, .ptr 2 0), (6, .p (.i .i64 s.1))], [.box (List.map AV.p (J0 s.2.1)), .box (List.map AV.p (J4 b1)), .box (List.map AV.p (J4 s.2.2))]⟩) = J3h o := by
 have h0 : Jr (fun s => J2E b1 s.1 s.2.1 s.2.2) s = some o := h
 exact J04 (P := fun (s : Int × T_pagemenddraw_Codes × T_api_Page) (o : T_api_Page × T_pagemenddraw_Codes) => rk (J1 p) J0C 1 [.bl 0, .sq (.keep [4, 5] J2I)] (X (J1 p) (.lp 3 [0, 4, 5, 6] J1N) ⟨[(0, .ptr 0 0), (4, .ptr 1 0), (5, .ptr 2 0), (6, .p (.i .i64 s.1))], [.box (List.map AV.p (J0 s.2.1)), .box (List.map AV.p (J4 b1)), .box (List.map AV.p (J4 s.2.2))]⟩) = J3h o) (fun s r hs => by rw [J03]; exact Jb4 p hs) (fun s s1 r hs ih => by rw [J03]; exact (Jb4 p hs).trans ih) h0
def J3x (b0 : T_pagemenddraw_Codes) (b1 b2 : T_api_Page) : Option (T_api_Page × T_pagemenddraw_Codes) :=
 if (decide (b2.LSN > 0)) then
  Option.bind (Jp b0 6) fun r2 =>
  Jb9 b1 (r2.1, r2.2, b2)
 else
  J3s b0 b1 b2
theorem Jb7 {b0 : T_pagemenddraw_Codes} {b1 b2 : T_api_Page} {o : T_api_Page × T_pagemenddraw_Codes} (h : J3x b0 b1 b2 = some o) :
  rk (J1 p) J0C 1 [] (X (J1 p) J6D ⟨[(0, .ptr 0 0), (4, .ptr 1 0), (5, .ptr 2 0)], [.box (List.map AV.p (J0 b0)), .box (List.map AV.p (J4 b1)), .box (List.map AV.p (J4 b2))]⟩) = J3h o := by
 unfold J3x at h
 rcases J8 h with ⟨h1, h⟩ | ⟨h1, h⟩
 ·obtain ⟨r2, h3, h⟩ := bi h
  have f4 : ∀ ws new s, JG ws s [0] [List.map AV.p (J0 b0)] → (Jm (AF (J1 p)) Jb ([.ptr 0 0, .p (.i .i64 6)], ws) 0 new).run s = some ⟨.p (.i .i64 r2.1), ws ++ [(0, .box (List.map AV.p (J0 r2.2)))]⟩ := Jy (args' := [.ptr 0 0, .p (.i .i64 6)]) (bs := [0]) (css := [List.map AV.p (J0 b0)]) (css' := [List.map AV.p (J0 r2.2)]) rfl rfl rfl (by simp [Jl, J9]) (Jv p h3) rfl rfl (by simp [Jl, J9])
  try simp only [Nf] at f4
  try simp only [↓Da, Ua, J6D, J7, J2, J6, Jd, *, ↓reduceIte, reduceEqDiff, reduceAdd, reduceLT, reduceMul]
  have e0 := Jeg p h
  exact e0
 ·try simp only [↓Da, Ua, J6D, J7, J2, J6, Jd, *, ↓reduceIte, reduceEqDiff, reduceAdd, reduceLT, reduceMul]
  have e0 := Jb5 p h
  exact e0
def J3g (b0 : T_pagemenddraw_Codes) (x1 : Int) : Option (T_api_Page × T_pagemenddraw_Codes) :=
 Option.bind (Jp b0 50) fun r1 =>
 Option.bind (Jp r1.2 10) fun r4 =>
 if ((r4.1 : Int) == 9) then
  Option.bind (Jp r4.2 2) fun r8 =>
  J3x r8.2 (⟨0, 0, (Vector.replicate 16 (⟨false, []⟩ : Jf))⟩ : T_api_Page) (⟨x1, (IntKind.wrap .i64 (1099511627776 - r8.1)), (Vector.replicate 16 (⟨false, []⟩ : Jf))⟩ : T_api_Page)
 else
  J3x r4.2 (⟨0, 0, (Vector.replicate 16 (⟨false, []⟩ : Jf))⟩ : T_api_Page) (⟨x1, r1.1, (Vector.replicate 16 (⟨false, []⟩ : Jf))⟩ : T_api_Page)
theorem Je3 {b0 : T_pagemenddraw_Codes} {x1 : Int} {o : T_api_Page × T_pagemenddraw_Codes} (h : J3g b0 x1 = some o) :
  rk (J1 p) J0C 1 [] (X (J1 p) J3e ⟨[(0, .ptr 0 0), (1, .p (.i .i64 x1))], [.box (List.map AV.p (J0 b0))]⟩) = J3h o := by
 unfold J3g at h
 obtain ⟨r1, h2, h⟩ := bi h
 have f3 : ∀ ws new s, JG ws s [0] [List.map AV.p (J0 b0)] → (Jm (AF (J1 p)) Jb ([.ptr 0 0, .p (.i .i64 50)], ws) 0 new).run s = some ⟨.p (.i .i64 r1.1), ws ++ [(0, .box (List.map AV.p (J0 r1.2)))]⟩ := Jy (args' := [.ptr 0 0, .p (.i .i64 50)]) (bs := [0]) (css := [List.map AV.p (J0 b0)]) (css' := [List.map AV.p (J0 r1.2)]) rfl rfl rfl (by simp [Jl, J9]) (Jv p h2) rfl rfl (by simp [Jl, J9])
 try simp only [Nf] at f3
 obtain ⟨r4, h5, h⟩ := bi h
 have f6 : ∀ ws new s, JG ws s [0] [List.map AV.p (J0 r1.2)] → (Jm (AF (J1 p)) Jb ([.ptr 0 0, .p (.i .i64 10)], ws) 0 new).run s = some ⟨.p (.i .i64 r4.1), ws ++ [(0, .box (List.map AV.p (J0 r4.2)))]⟩ := Jy (args' := [.ptr 0 0, .p (.i .i64 10)]) (bs := [0]) (css := [List.map AV.p (J0 r1.2)]) (css' := [List.map AV.p (J0 r4.2)]) rfl rfl rfl (by simp [Jl, J9]) (Jv p h5) rfl rfl (by simp [Jl, J9])
 try simp only [Nf] at f6
 try simp only [↓Da, Ua, J3e, J7, J2, J6, Jd, *, ↓reduceIte, reduceEqDiff, reduceAdd, reduceLT, reduceMul]
 rcases J8 h with ⟨h7, h⟩ | ⟨h7, h⟩
 ·have h7n : ((r4.1 : Int) != 9) = false := by rw [bne, h7]; rfl
  obtain ⟨r8, h9, h⟩ := bi h
  have f10 : ∀ ws new s, JG ws s [0] [List.map AV.p (J0 r4.2)] → (Jm (AF (J1 p)) Jb ([.ptr 0 0, .p (.i .i64 2)], ws) 0 new).run s = some ⟨.p (.i .i64 r8.1), ws ++ [(0, .box (List.map AV.p (J0 r8.2)))]⟩ := Jy (args' := [.ptr 0 0, .p (.i .i64 2)]) (bs := [0]) (css := [List.map AV.p (J0 r4.2)]) (css' := [List.map AV.p (J0 r8.2)]) rfl rfl rfl (by simp [Jl, J9]) (Jv p h9) rfl rfl (by simp [Jl, J9])
  try simp only [Nf] at f10
  try simp only [↓Da, Ua, J3e, J7, J2, J6, Jd, *, ↓reduceIte, reduceEqDiff, reduceAdd, reduceLT, reduceMul]
  have e0 := Jb7 p h
  exact e0
 ·have h7n : ((r4.1 : Int) != 9) = true := by rw [bne, h7]; rfl
  try simp only [↓Da, Ua, J3e, J7, J2, J6, Jd, *, ↓reduceIte, reduceEqDiff, reduceAdd, reduceLT, reduceMul]
  have e0 := Jb7 p h
  exact e0
theorem Jhn {b0 : T_pagemenddraw_Codes} {x1 : Int} {o : T_api_Page × T_pagemenddraw_Codes} (h : J3g b0 x1 = some o) : AF (J1 p) J4A [.ptr 0 0, .p (.i .i64 x1)] [.box (List.map AV.p (J0 b0))] = J3h o :=
 (J00 (J1 p) (Jhm p) rfl).trans (Je3 p h)
end
end Go.Am
end
section
namespace Go.Am
set_option maxRecDepth 8000
set_option maxHeartbeats 4000000
set_option linter.unusedSimpArgs false
set_option linter.unusedVariables false
noncomputable section
variable (p : FuncId → Option (List AV → List Blk → Option Res))
def Jfq  (r : (List UInt8)) : Option Res := some (.p (.s r), [])
def J4Q  : Option ((List UInt8)) :=
 Option.bind (J2r 256) fun r1 =>
 some r1
theorem Jhk  {o : (List UInt8)} (h : J4Q = some o) :
  rk (J1 p) J6X 0 [] (X (J1 p) J8p ⟨[], []⟩) = Jfq o := by
 unfold J4Q at h
 obtain ⟨r1, h2, h⟩ := bi h
 have f3 := JbO p h2
 try simp only [Nf] at f3
 obtain rfl := sj h
 try simp only [↓Da, Ua, J8p, JmN, *, ↓reduceIte, reduceEqDiff, reduceAdd, reduceLT, reduceMul]
 rfl
theorem JmI  {o : (List UInt8)} (h : J4Q = some o) : AF (J1 p) J5Q [] [] = Jfq o :=
 (J00 (J1 p) (JmQ p) rfl).trans (Jhk p h)
theorem JfJ  {o : (List UInt8)} (h : J4Q = some o) : ∀ ws new st, (Jm (AF (J1 p)) J5Q ([], ws) 0 new).run st = some ⟨.p (.s o), ws⟩ := Jt rfl (JmI p h) rfl
def Jgl  (r : (List UInt8)) : Option Res := some (.p (.s r), [])
def J6n  : Option ((List UInt8)) :=
 Option.bind (J3S ([0]) 256) fun r1 =>
 some r1
theorem JiV  {o : (List UInt8)} (h : J6n = some o) :
  rk (J1 p) J7z 0 [] (X (J1 p) J96 ⟨[], []⟩) = Jgl o := by
 unfold J6n at h
 obtain ⟨r1, h2, h⟩ := bi h
 have f3 := Jad p h2
 try simp only [Nf] at f3
 obtain rfl := sj h
 try simp only [↓Da, Ua, J96, JnS, *, ↓reduceIte, reduceEqDiff, reduceAdd, reduceLT, reduceMul]
 rfl
theorem JoF  {o : (List UInt8)} (h : J6n = some o) : AF (J1 p) J7O [] [] = Jgl o :=
 (J00 (J1 p) (Jo2 p) rfl).trans (JiV p h)
theorem JoN  {o : (List UInt8)} (h : J6n = some o) : ∀ ws new st, (Jm (AF (J1 p)) J7O ([], ws) 0 new).run st = some ⟨.p (.s o), ws⟩ := Jt rfl (JoF p h) rfl
def JfA  (r : (List UInt8)) : Option Res := some (.p (.s r), [])
def J4L (x0 : List UInt8) : Option ((List UInt8)) :=
 if (decide (((List.length x0 : Nat) : Int) > 8392)) then
  some ([] : List UInt8)
 else
  Option.bind (J02 ([]) ((List.length x0 : Nat) : Int) 4) fun r2 =>
  Option.bind (J1Z r2 x0) fun s5 =>
  Option.bind (J5o s5) fun r7 =>
  Option.bind (J02 s5 (IntKind.wrap .i64 r7) 4) fun r10 =>
  some r10
theorem JhD {x0 : List UInt8} {o : (List UInt8)} (h : J4L x0 = some o) :
  rk (J1 p) J6N 0 [] (X (J1 p) J71 ⟨[(0, .p (.s x0))], []⟩) = JfA o := by
 unfold J4L at h
 rcases J8 h with ⟨h1, h⟩ | ⟨h1, h⟩
 ·obtain rfl := sj h
  try simp only [↓Da, Ua, J71, Jff, *, ↓reduceIte, reduceEqDiff, reduceAdd, reduceLT, reduceMul]
  rfl
 ·obtain ⟨r2, h3, h⟩ := bi h
  have f4 := J3E p h3
  try simp only [Nf] at f4
  obtain ⟨s5, h6, h⟩ := bi h
  obtain ⟨r7, h8, h⟩ := bi h
  have f9 := Jbw p h8
  try simp only [Nf] at f9
  obtain ⟨r10, h11, h⟩ := bi h
  have f12 := J3E p h11
  try simp only [Nf] at f12
  obtain rfl := sj h
  try simp only [↓Da, Ua, J71, Jff, *, ↓reduceIte, reduceEqDiff, reduceAdd, reduceLT, reduceMul]
  rfl
theorem Jmz {x0 : List UInt8} {o : (List UInt8)} (h : J4L x0 = some o) : AF (J1 p) J4J [.p (.s x0)] [] = JfA o :=
 (J00 (J1 p) (Jn3 p) rfl).trans (JhD p h)
theorem Jfy {x0 : List UInt8} {o : (List UInt8)} (h : J4L x0 = some o) : ∀ ws new st, (Jm (AF (J1 p)) J4J ([.p (.s x0)], ws) 0 new).run st = some ⟨.p (.s o), ws⟩ := Jt rfl (Jmz p h) rfl
def Jbb  (r : Bool) : Option Res := some (.p (.b r), [])
def J2F (x0 x1 : List UInt8) : Option (Bool) :=
 Option.bind (J0z x0 x1) fun r1 =>
 some r1
theorem Jda {x0 x1 : List UInt8} {o : Bool} (h : J2F x0 x1 = some o) :
  rk (J1 p) J3w 0 [] (X (J1 p) J4X ⟨[(0, .p (.s x0)), (1, .p (.s x1))], []⟩) = Jbb o := by
 unfold J2F at h
 obtain ⟨r1, h2, h⟩ := bi h
 have f3 := Jak p h2
 try simp only [Nf] at f3
 obtain rfl := sj h
 try simp only [↓Da, Ua, J4X, JfR, *, ↓reduceIte, reduceEqDiff, reduceAdd, reduceLT, reduceMul]
 rfl
theorem JfS {x0 x1 : List UInt8} {o : Bool} (h : J2F x0 x1 = some o) : AF (J1 p) J3t [.p (.s x0), .p (.s x1)] [] = Jbb o :=
 (J00 (J1 p) (JfT p) rfl).trans (Jda p h)
theorem JfP {x0 x1 : List UInt8} {o : Bool} (h : J2F x0 x1 = some o) : ∀ ws new st, (Jm (AF (J1 p)) J3t ([.p (.s x0), .p (.s x1)], ws) 0 new).run st = some ⟨.p (.b o), ws⟩ := Jt rfl (JfS p h) rfl
def Jdl  (r : (List UInt8) × Int × Int) : Option Res := some (.tup [.p (.s r.1), .p (.i .i64 r.2.1), .p (.i .i64 r.2.2)], [])
def J2N (x0 : List UInt8) (x1 : Int) : Option ((List UInt8) × Int × Int) :=
 if (decide (x1 < 0)) then
  some (([] : List UInt8), 0, 1)
 else
  if (decide (x1 > ((List.length x0 : Nat) : Int))) then
   some (([] : List UInt8), 0, 1)
  else
   Option.bind (J1o x0 x1 4) fun r3 =>
   if ((r3.2 : Int) != 0) then
    some (([] : List UInt8), 0, 5)
   else
    if (decide (r3.1 > 8392)) then
     some (([] : List UInt8), 0, 2)
    else
     if (decide ((IntKind.wrap .i64 (((List.length x0 : Nat) : Int) - x1)) < (IntKind.wrap .i64 (r3.1 + 8)))) then
      some (([] : List UInt8), 0, 5)
     else
      Option.bind (J1o x0 (IntKind.wrap .i64 ((IntKind.wrap .i64 (x1 + 4)) + r3.1)) 4) fun r9 =>
      Option.bind (J0Z x0 (some x1) (some (IntKind.wrap .i64 ((IntKind.wrap .i64 (x1 + 4)) + r3.1)))) fun m12 =>
      Option.bind (J5o m12) fun r15 =>
      if (((IntKind.wrap .u32 r9.1) : Int) != r15) then
       some (([] : List UInt8), 0, 3)
      else
       Option.bind (J0Z x0 (some (IntKind.wrap .i64 (x1 + 4))) (some (IntKind.wrap .i64 ((IntKind.wrap .i64 (x1 + 4)) + r3.1)))) fun m19 =>
       some (m19, (IntKind.wrap .i64 ((IntKind.wrap .i64 (x1 + 8)) + r3.1)), 0)
theorem Jg0 {x0 : List UInt8} {x1 : Int} {o : (List UInt8) × Int × Int} (h : J2N x0 x1 = some o) :
  rk (J1 p) J5D 0 [] (X (J1 p) J0c ⟨[(0, .p (.s x0)), (1, .p (.i .i64 x1))], []⟩) = Jdl o := by
 unfold J2N at h
 rcases J8 h with ⟨h1, h⟩ | ⟨h1, h⟩
 ·obtain rfl := sj h
  try simp only [↓Da, Ua, J0c, J4m, *, ↓reduceIte, reduceEqDiff, reduceAdd, reduceLT, reduceMul]
  rfl
 ·try simp only [↓Da, Ua, J0c, *, ↓reduceIte, reduceEqDiff, reduceAdd, reduceLT, reduceMul]
  rcases J8 h with ⟨h2, h⟩ | ⟨h2, h⟩
  ·obtain rfl := sj h
   try simp only [↓Da, Ua, J0c, J4m, *, ↓reduceIte, reduceEqDiff, reduceAdd, reduceLT, reduceMul]
   rfl
  ·obtain ⟨r3, h4, h⟩ := bi h
   have f5 := J8H p h4
   try simp only [Nf] at f5
   try simp only [↓Da, Ua, J0c, *, ↓reduceIte, reduceEqDiff, reduceAdd, reduceLT, reduceMul]
   rcases J8 h with ⟨h6, h⟩ | ⟨h6, h⟩
   ·obtain rfl := sj h
    try simp only [↓Da, Ua, J0c, J4m, *, ↓reduceIte, reduceEqDiff, reduceAdd, reduceLT, reduceMul]
    rfl
   ·try simp only [↓Da, Ua, J0c, *, ↓reduceIte, reduceEqDiff, reduceAdd, reduceLT, reduceMul]
    rcases J8 h with ⟨h7, h⟩ | ⟨h7, h⟩
    ·obtain rfl := sj h
     try simp only [↓Da, Ua, J0c, J4m, *, ↓reduceIte, reduceEqDiff, reduceAdd, reduceLT, reduceMul]
     rfl
    ·try simp only [↓Da, Ua, J0c, *, ↓reduceIte, reduceEqDiff, reduceAdd, reduceLT, reduceMul]
     rcases J8 h with ⟨h8, h⟩ | ⟨h8, h⟩
     ·obtain rfl := sj h
      try simp only [↓Da, Ua, J0c, J4m, *, ↓reduceIte, reduceEqDiff, reduceAdd, reduceLT, reduceMul]
      rfl
     ·obtain ⟨r9, h10, h⟩ := bi h
      have f11 := J8H p h10
      try simp only [Nf] at f11
      obtain ⟨m12, h13, h⟩ := bi h
      have f14 : J13 (.p (.s x0)) (some (.p (.i .i64 x1))) (some (.p (.i .i64 (IntKind.wrap .i64 ((IntKind.wrap .i64 (x1 + 4)) + r3.1))))) = some (.p (.s m12)) := J0X (k := .i64) (lo := (some x1)) (hi := (some (IntKind.wrap .i64 ((IntKind.wrap .i64 (x1 + 4)) + r3.1)))) h13
      try simp only [Nf] at f14
      obtain ⟨r15, h16, h⟩ := bi h
      have f17 := Jbw p h16
      try simp only [Nf] at f17
      try simp only [↓Da, Ua, J0c, *, ↓reduceIte, reduceEqDiff, reduceAdd, reduceLT, reduceMul]
      rcases J8 h with ⟨h18, h⟩ | ⟨h18, h⟩
      ·obtain rfl := sj h
       try simp only [↓Da, Ua, J0c, J4m, *, ↓reduceIte, reduceEqDiff, reduceAdd, reduceLT, reduceMul]
       rfl
      ·obtain ⟨m19, h20, h⟩ := bi h
       have f21 : J13 (.p (.s x0)) (some (.p (.i .i64 (IntKind.wrap .i64 (x1 + 4))))) (some (.p (.i .i64 (IntKind.wrap .i64 ((IntKind.wrap .i64 (x1 + 4)) + r3.1))))) = some (.p (.s m19)) := J0X (k := .i64) (lo := (some (IntKind.wrap .i64 (x1 + 4)))) (hi := (some (IntKind.wrap .i64 ((IntKind.wrap .i64 (x1 + 4)) + r3.1)))) h20
       try simp only [Nf] at f21
       obtain rfl := sj h
       try simp only [↓Da, Ua, J0c, J4m, *, ↓reduceIte, reduceEqDiff, reduceAdd, reduceLT, reduceMul]
       rfl
theorem JkA {x0 : List UInt8} {x1 : Int} {o : (List UInt8) × Int × Int} (h : J2N x0 x1 = some o) : AF (J1 p) J4g [.p (.s x0), .p (.i .i64 x1)] [] = Jdl o :=
 (J00 (J1 p) (JjO p) rfl).trans (Jg0 p h)
theorem JdB {x0 : List UInt8} {x1 : Int} {o : (List UInt8) × Int × Int} (h : J2N x0 x1 = some o) : ∀ ws new st, (Jm (AF (J1 p)) J4g ([.p (.s x0), .p (.i .i64 x1)], ws) 0 new).run st = some ⟨.tup [.p (.s o.1), .p (.i .i64 o.2.1), .p (.i .i64 o.2.2)], ws⟩ := Jt rfl (JkA p h) rfl
def Jea  (r : Int) : Option Res := some (.p (.i .i64 r), [])
def J1x (x0 : List UInt8) (x1 x2 : Int) : Option (Int) :=
 Option.bind (J1o x0 x1 x2) fun r1 =>
 some r1.1
theorem JgY {x0 : List UInt8} {x1 x2 o : Int} (h : J1x x0 x1 x2 = some o) :
  rk (J1 p) J6g 0 [] (X (J1 p) J7H ⟨[(0, .p (.s x0)), (1, .p (.i .i64 x1)), (2, .p (.i .i64 x2))], []⟩) = Jea o := by
 unfold J1x at h
 obtain ⟨r1, h2, h⟩ := bi h
 have f3 := J8H p h2
 try simp only [Nf] at f3
 obtain rfl := sj h
 try simp only [↓Da, Ua, J7H, JkR, *, ↓reduceIte, reduceEqDiff, reduceAdd, reduceLT, reduceMul]
 rfl
theorem Jln {x0 : List UInt8} {x1 x2 o : Int} (h : J1x x0 x1 x2 = some o) : AF (J1 p) J2B [.p (.s x0), .p (.i .i64 x1), .p (.i .i64 x2)] [] = Jea o :=
 (J00 (J1 p) (Jll p) rfl).trans (JgY p h)
theorem J9k {x0 : List UInt8} {x1 x2 o : Int} (h : J1x x0 x1 x2 = some o) : ∀ ws new st, (Jm (AF (J1 p)) J2B ([.p (.s x0), .p (.i .i64 x1), .p (.i .i64 x2)], ws) 0 new).run st = some ⟨.p (.i .i64 o), ws⟩ := Jt rfl (Jln p h) rfl
def Jfh  (r : Bool) : Option Res := some (.p (.b r), [])
def J1t (x0 : T_api_Page) : Option (Bool) :=
 Option.bind (J1z x0.ID) fun r1 =>
 if r1 then
  if (decide (x0.LSN ≥ 0)) then
   some (decide (x0.LSN ≤ 1099511627776))
  else
   some false
 else
  some false
theorem JhP {x0 : T_api_Page} {o : Bool} (h : J1t x0 = some o) :
  rk (J1 p) J6F 0 [] (X (J1 p) J3N ⟨[(0, .data (J4 x0))], []⟩) = Jfh o := by
 unfold J1t at h
 obtain ⟨r1, h2, h⟩ := bi h
 have f3 := Jgc p h2
 try simp only [Nf] at f3
 try simp only [↓Da, Ua, J3N, J7, J2, J6, *, ↓reduceIte, reduceEqDiff, reduceAdd, reduceLT, reduceMul]
 rcases J8 h with ⟨h4, h⟩ | ⟨h4, h⟩
 ·try simp only [↓Da, Ua, J3N, J7, J2, J6, *, ↓reduceIte, reduceEqDiff, reduceAdd, reduceLT, reduceMul]
  rcases J8 h with ⟨h5, h⟩ | ⟨h5, h⟩
  ·obtain rfl := sj h
   try simp only [↓Da, Ua, J3N, J7, J2, J6, JbT, *, ↓reduceIte, reduceEqDiff, reduceAdd, reduceLT, reduceMul]
   rfl
  ·obtain rfl := sj h
   try simp only [↓Da, Ua, J3N, J7, J2, J6, JbT, *, ↓reduceIte, reduceEqDiff, reduceAdd, reduceLT, reduceMul]
   rfl
 ·obtain rfl := sj h
  try simp only [↓Da, Ua, J3N, J7, J2, J6, JbT, *, ↓reduceIte, reduceEqDiff, reduceAdd, reduceLT, reduceMul]
  rfl
theorem JmK {x0 : T_api_Page} {o : Bool} (h : J1t x0 = some o) : AF (J1 p) J6J [.data (J4 x0)] [] = Jfh o :=
 (J00 (J1 p) (Jmm p) rfl).trans (JhP p h)
theorem Jn4 {x0 : T_api_Page} {o : Bool} (h : J1t x0 = some o) : ∀ ws new st, (Jm (AF (J1 p)) J6J ([.data (J4 x0)], ws) 0 new).run st = some ⟨.p (.b o), ws⟩ := Jt rfl (JmK p h) rfl
def J8N  (r : T_page_builder) : Option Res := some (.tup [], [.box (List.map AV.p (J0x r))])
def J1k (x4 : Int) (b0 : T_page_builder) (b1 : Jf) : Option (T_page_builder) :=
 Option.bind (J0i b0.s_ x4 1) fun r1 =>
 Option.bind (J1Z r1 b1.Data) fun s5 =>
 Option.bind (J3S ([0]) (IntKind.wrap .i64 (12 - ((List.length b1.Data : Nat) : Int)))) fun r7 =>
 Option.bind (J1Z s5 r7) fun s11 =>
 some (⟨s11⟩ : T_page_builder)
theorem Jan {x4 : Int} {b0 : T_page_builder} {b1 : Jf} {o : T_page_builder} (h : J1k x4 b0 b1 = some o) :
  rk (J1 p) J2K 1 [] (X (J1 p) J7C ⟨[(0, .ptr 0 0), (3, .ptr 1 0), (4, .p (.i .i64 x4))], [.box (List.map AV.p (J0x b0)), .box (List.map AV.p (Jk b1))]⟩) = J8N o := by
 unfold J1k at h
 obtain ⟨r1, h2, h⟩ := bi h
 have f3 := J7q p h2
 try simp only [Nf, JB] at f3
 have f4 : ∀ ws k new s, Jg ((Jm (AF (J1 p)) J1p ([.p (.s b0.s_), .p (.i .i64 x4), .p (.i .i64 1)], ws) k new).reads s) = [] := J05 rfl
 try simp only [Nf, JB] at f4
 obtain ⟨s5, h6, h⟩ := bi h
 obtain ⟨r7, h8, h⟩ := bi h
 have f9 := Jad p h8
 try simp only [Nf, JB] at f9
 have f10 : ∀ ws k new s, Jg ((Jm (AF (J1 p)) J2k ([.p (.s [0]), .p (.i .i64 (IntKind.wrap .i64 (12 - ((List.length b1.Data : Nat) : Int))))], ws) k new).reads s) = [] := J05 rfl
 try simp only [Nf, JB] at f10
 obtain ⟨s11, h12, h⟩ := bi h
 obtain rfl := sj h
 try simp only [↓Da, Ua, Ra, J7C, J7, JB, JfQ, *, ↓reduceIte, reduceEqDiff, reduceAdd, reduceLT, reduceMul, Nat.reduceBEq]
 rfl
def J1P (b0 : T_page_builder) (x1 : Jf) : Option (T_page_builder) :=
 if x1.Set then
  J1k ((List.length x1.Data : Nat) : Int) b0 x1
 else
  J1k 255 b0 x1
theorem Jdd {b0 : T_page_builder} {x1 : Jf} {o : T_page_builder} (h : J1P b0 x1 = some o) :
  rk (J1 p) J2K 1 [] (X (J1 p) J3u ⟨[(0, .ptr 0 0), (1, .data (Jk x1))], [.box (List.map AV.p (J0x b0))]⟩) = J8N o := by
 unfold J1P at h
 rcases J8 h with ⟨h1, h⟩ | ⟨h1, h⟩
 ·try simp only [↓Da, Ua, J3u, J7, JB, *, ↓reduceIte, reduceEqDiff, reduceAdd, reduceLT, reduceMul]
  have e0 := Jan p h
  first | exact e0 | (simp only [*] at e0; exact e0)
 ·try simp only [↓Da, Ua, J3u, J7, JB, *, ↓reduceIte, reduceEqDiff, reduceAdd, reduceLT, reduceMul]
  have e0 := Jan p h
  first | exact e0 | (simp only [*] at e0; exact e0)
theorem JfV {b0 : T_page_builder} {x1 : Jf} {o : T_page_builder} (h : J1P b0 x1 = some o) : AF (J1 p) J0Q [.ptr 0 0, .data (Jk x1)] [.box (List.map AV.p (J0x b0))] = J8N o :=
 (J00 (J1 p) (JfU p) rfl).trans (Jdd p h)
def J8w  (r : Int) : Option Res := some (.p (.i .u32 r), [])
def JmL (x0 : List UInt8) (x8 : Int) (b0 : Vector Int 16) (o : (Int × Int) ⊕ (Int)) : Option Res := match o with
 | .inl s => rk (J1 p) J3z 0 [.bl 0, .sq (.keep [4] J5S)] (X (J1 p) (.lp 1 [0, 3, 4, 8, 9] J4M) ⟨[(0, .p (.s x0)), (3, .ptr 0 0), (4, .p (.i .u32 s.1)), (8, .p (.i .i64 x8)), (9, .p (.i .i64 s.2))], [.box (List.map AV.p ((JV (r_i .u32)) b0))]⟩)
 | .inr o => J8w o
def J8h (x4 : Int) : Option (Int) :=
 some (Jr6 .u32 x4)
theorem Jn7 {x4 : Int} {B0 : List PV} {o : Int} (h : J8h x4 = some o) :
  rk (J1 p) J3z 0 [] (X (J1 p) J5S ⟨[(4, .p (.i .u32 x4))], [.box (List.map AV.p B0)]⟩) = J8w o := by
 unfold J8h at h
 obtain rfl := sj h
 try simp only [↓Da, Ua, J5S, JpG, ↓reduceIte, reduceEqDiff, reduceAdd, reduceLT, reduceMul]
 rfl
def J33 (x0 : List UInt8) (x8 : Int) (b0 : Vector Int 16) (x4 x9 : Int) : Option (((Int × Int) ⊕ (Int))) :=
 if (decide (x9 < x8)) then
  Option.bind (JcR x0 x9) fun c2 =>
  Option.bind (J8O .u32 (J5J .u32 x4 (IntKind.wrap .u32 c2)) 4) fun q4 =>
  Option.bind (inb 16 (J5e .u32 (J5J .u32 x4 (IntKind.wrap .u32 c2)) 15)) fun u6 =>
  Option.bind (J8R b0 (J5e .u32 (J5J .u32 x4 (IntKind.wrap .u32 c2)) 15)) fun y9 =>
  Option.bind (J8O .u32 (J5J .u32 q4 y9) 4) fun q12 =>
  Option.bind (inb 16 (J5e .u32 (J5J .u32 q4 y9) 15)) fun u14 =>
  Option.bind (J8R b0 (J5e .u32 (J5J .u32 q4 y9) 15)) fun y17 =>
  some (.inl ((J5J .u32 q12 y17), (IntKind.wrap .i64 (x9 + 1))))
 else
  Option.map (fun o => .inr o) (J8h x4)
theorem JfI {x0 : List UInt8} {x8 : Int} {b0 : Vector Int 16} {x4 x9 : Int} {o : ((Int × Int) ⊕ (Int))} (h : J33 x0 x8 b0 x4 x9 = some o) :
  rk (J1 p) J3z 0 [.lo 1 [0, 3, 4, 8, 9] J4M, .bl 0, .sq (.keep [4] J5S)] (X (J1 p) J4M ⟨[(0, .p (.s x0)), (3, .ptr 0 0), (4, .p (.i .u32 x4)), (8, .p (.i .i64 x8)), (9, .p (.i .i64 x9))], [.box (List.map AV.p ((JV (r_i .u32)) b0))]⟩) = (JmL p x0 x8 b0) o := by
 unfold J33 at h
 rcases J8 h with ⟨h1, h⟩ | ⟨h1, h⟩
 ·obtain ⟨c2, h3, h⟩ := bi h
  obtain ⟨q4, h5, h⟩ := bi h
  obtain ⟨u6, h7, h⟩ := bi h
  have f8 : (0 ≤ ((J5e .u32 (J5J .u32 x4 (IntKind.wrap .u32 c2)) 15) : Int) ∧ ((J5e .u32 (J5J .u32 x4 (IntKind.wrap .u32 c2)) 15) : Int) < ((16 : Nat) : Int)) = True := eq_true (J9m h7)
  obtain ⟨y9, h10, h⟩ := bi h
  have f11 : sub ((JV (r_i .u32)) b0) (Int.toNat (J5e .u32 (J5J .u32 x4 (IntKind.wrap .u32 c2)) 15) * 1) 1 = some ((r_i .u32) y9) := by
   have e0 := (J9K (v := b0) (Jbd .u32) (J5i h10).2)
   exact e0
  try simp only [Nf] at f11
  obtain ⟨q12, h13, h⟩ := bi h
  obtain ⟨u14, h15, h⟩ := bi h
  have f16 : (0 ≤ ((J5e .u32 (J5J .u32 q4 y9) 15) : Int) ∧ ((J5e .u32 (J5J .u32 q4 y9) 15) : Int) < ((16 : Nat) : Int)) = True := eq_true (J9m h15)
  obtain ⟨y17, h18, h⟩ := bi h
  have f19 : sub ((JV (r_i .u32)) b0) (Int.toNat (J5e .u32 (J5J .u32 q4 y9) 15) * 1) 1 = some ((r_i .u32) y17) := by
   have e0 := (J9K (v := b0) (Jbd .u32) (J5i h18).2)
   exact e0
  try simp only [Nf] at f19
  obtain rfl := sj h
  try simp only [↓Da, Ua, J4M, J76, *, ↓reduceIte, reduceEqDiff, reduceAdd, reduceLT, reduceMul]
  rfl
 ·obtain ⟨o', h', rfl⟩ := mi h
  try simp only [↓Da, Ua, J4M, J76, *, ↓reduceIte, reduceEqDiff, reduceAdd, reduceLT, reduceMul]
  have e0 := Jn7 p (B0 := ((JV (r_i .u32)) b0)) h'
  exact e0
def Jfp (x0 : List UInt8) (x8 : Int) (b0 : Vector Int 16) (s : Int × Int) : Option (Int) :=
 Jr (fun s => J33 x0 x8 b0 s.1 s.2) s
theorem Jkj {x0 : List UInt8} {x8 : Int} {b0 : Vector Int 16} {s : Int × Int} {o : Int} (h : Jfp x0 x8 b0 s = some o) :
  rk (J1 p) J3z 0 [.bl 0, .sq (.keep [4] J5S)] (X (J1 p) (.lp 1 [0, 3, 4, 8, 9] J4M) ⟨[(0, .p (.s x0)), (3, .ptr 0 0), (4, .p (.i .u32 s.1)), (8, .p (.i .i64 x8)), (9, .p (.i .i64 s.2))], [.box (List.map AV.p ((JV (r_i .u32)) b0))]⟩) = J8w o := by
 have h0 : Jr (fun s => J33 x0 x8 b0 s.1 s.2) s = some o := h
 exact J04 (P := fun (s : Int × Int) (o : Int) => rk (J1 p) J3z 0 [.bl 0, .sq (.keep [4] J5S)] (X (J1 p) (.lp 1 [0, 3, 4, 8, 9] J4M) ⟨[(0, .p (.s x0)), (3, .ptr 0 0), (4, .p (.i .u32 s.1)), (8, .p (.i .i64 x8)), (9, .p (.i .i64 s.2))], [.box (List.map AV.p ((JV (r_i .u32)) b0))]⟩) = J8w o) (fun s r hs => by rw [J03]; exact JfI p hs) (fun s s1 r hs ih => by rw [J03]; exact (JfI p hs).trans ih) h0
def J24 (x0 : List UInt8) : Option (Int) :=
 Option.bind (J2V) fun r1 =>
 Jfp x0 ((List.length x0 : Nat) : Int) r1 (4294967295, 0)
theorem Jkz {x0 : List UInt8} {o : Int} (h : J24 x0 = some o) :
  rk (J1 p) J3z 0 [] (X (J1 p) J9E ⟨[(0, .p (.s x0))], []⟩) = J8w o := by
 unfold J24 at h
 obtain ⟨r1, h2, h⟩ := bi h
 have f3 := Jg1 p h2
 try simp only [Nf] at f3
 try simp only [↓Da, Ua, J9E, J76, *, ↓reduceIte, reduceEqDiff, reduceAdd, reduceLT, reduceMul]
 have e0 := Jkj p h
 exact e0
theorem JoX {x0 : List UInt8} {o : Int} (h : J24 x0 = some o) : AF (J1 p) J4c [.p (.s x0)] [] = J8w o :=
 (J00 (J1 p) (Jpy p) rfl).trans (Jkz p h)
theorem Jbx {x0 : List UInt8} {o : Int} (h : J24 x0 = some o) : ∀ ws new st, (Jm (AF (J1 p)) J4c ([.p (.s x0)], ws) 0 new).run st = some ⟨.p (.i .u32 o), ws⟩ := Jt rfl (JoX p h) rfl
def J1f (x0 : List T_api_Copy) (x1 x8 x9 : Int) : Option (Int × Bool) :=
 if (decide (x9 < x8)) then
  Option.bind (idx x0 x9) fun y2 =>
  Option.bind (J89 y2 x1) fun r5 =>
  some (x9, ((r5 : Int) == 0))
 else
  some (x9, false)
def J1e (x0 : List T_api_Copy) (x1 x8 : Int) (x9 x10 : Int) : Option (((Int × Int) ⊕ (Int × Bool))) :=
 if (decide (x9 < x10)) then
  Option.bind (J8O .u64 (IntKind.wrap .u64 (IntKind.wrap .i64 (x9 + x10))) 1) fun q2 =>
  Option.bind (idx x0 (IntKind.wrap .i64 q2)) fun y4 =>
  Option.bind (J89 y4 x1) fun r7 =>
  if (decide (r7 < 0)) then
   some (.inl ((IntKind.wrap .i64 ((IntKind.wrap .i64 q2) + 1)), x10))
  else
   some (.inl (x9, (IntKind.wrap .i64 q2)))
 else
  Option.map (fun o => .inr o) (J1f x0 x1 x8 x9)
def J07 (x0 : List T_api_Copy) (x1 x8 : Int) (s : Int × Int) : Option (Int × Bool) :=
 Jr (fun s => J1e x0 x1 x8 s.1 s.2) s
def J1l (x0 : List T_api_Copy) (x1 : Int) : Option (Int × Bool) :=
 J07 x0 x1 ((List.length x0 : Nat) : Int) (0, ((List.length x0 : Nat) : Int))
def JbZ (x0 : T_api_Image) (x1 : Int) : Option (Int × Bool) :=
 Option.bind (J1l x0.Copies x1) fun r1 =>
 some (r1.1, r1.2)
def J6W  (r : Bool) : Option Res := some (.p (.b r), [])
def Jjn (b0 : T_api_Page) (o : (Int) ⊕ (Bool)) : Option Res := match o with
 | .inl s => rk (J1 p) J2t 0 [.bl 0, .sq (.keep [] J4s)] (X (J1 p) (.lp 1 [1, 3] J0u) ⟨[(1, .ptr 0 0), (3, .p (.i .i64 s))], [.box (List.map AV.p (J4 b0))]⟩)
 | .inr o => J6W o
def J8U  : Option (Bool) :=
 some true
theorem Jjv {B0 : List PV} {o : Bool} (h : J8U = some o) :
  rk (J1 p) J2t 0 [] (X (J1 p) J4s ⟨[], [.box (List.map AV.p B0)]⟩) = J6W o := by
 unfold J8U at h
 obtain rfl := sj h
 try simp only [↓Da, Ua, J4s, JbQ, ↓reduceIte, reduceEqDiff, reduceAdd, reduceLT, reduceMul]
 rfl
def J1A (b0 : T_api_Page) (x3 : Int) : Option (((Int) ⊕ (Bool))) :=
 if (decide (x3 < 16)) then
  Option.bind (inb 16 x3) fun u2 =>
  Option.bind (J8R b0.Cells x3) fun y5 =>
  Option.bind (J0o y5) fun r8 =>
  if r8 then
   if ((b0.LSN : Int) == 0) then
    if y5.Set then
     some (.inr false)
    else
     some (.inl (IntKind.wrap .i64 (x3 + 1)))
   else
    some (.inl (IntKind.wrap .i64 (x3 + 1)))
  else
   some (.inr false)
 else
  Option.map (fun o => .inr o) (J8U)
theorem Jdo {b0 : T_api_Page} {x3 : Int} {o : ((Int) ⊕ (Bool))} (h : J1A b0 x3 = some o) :
  rk (J1 p) J2t 0 [.lo 1 [1, 3] J0u, .bl 0, .sq (.keep [] J4s)] (X (J1 p) J0u ⟨[(1, .ptr 0 0), (3, .p (.i .i64 x3))], [.box (List.map AV.p (J4 b0))]⟩) = (Jjn p b0) o := by
 unfold J1A at h
 rcases J8 h with ⟨h1, h⟩ | ⟨h1, h⟩
 ·obtain ⟨u2, h3, h⟩ := bi h
  have f4 : (0 ≤ (x3 : Int) ∧ (x3 : Int) < ((16 : Nat) : Int)) = True := eq_true (J9m h3)
  obtain ⟨y5, h6, h⟩ := bi h
  have f7 : sub (J4 b0) (2 + Int.toNat x3 * 2) 2 = some (Jk y5) := by
   have e0 := (J7P (J11 b0) (J9K (v := b0.Cells) JQ (J5i h6).2))
   exact e0
  try simp only [Nf] at f7
  obtain ⟨r8, h9, h⟩ := bi h
  have f10 := Jhx p h9
  try simp only [Nf] at f10
  try simp only [↓Da, Ua, J0u, J7, J2, J6, *, ↓reduceIte, reduceEqDiff, reduceAdd, reduceLT, reduceMul]
  rcases J8 h with ⟨h11, h⟩ | ⟨h11, h⟩
  ·try simp only [↓Da, Ua, J0u, J7, J2, J6, *, ↓reduceIte, reduceEqDiff, reduceAdd, reduceLT, reduceMul]
   rcases J8 h with ⟨h12, h⟩ | ⟨h12, h⟩
   ·have h12n : ((b0.LSN : Int) != 0) = false := by rw [bne, h12]; rfl
    have f13 : sub (J4 b0) (2 + Int.toNat x3 * 2) 1 = some (r_b y5.Set) := by
     have e0 := (J7P (J7P (J11 b0) (J9K (v := b0.Cells) JQ (J5i h6).2)) (Ja8 y5))
     exact e0
    try simp only [Nf] at f13
    try simp only [↓Da, Ua, J0u, J7, J2, J6, *, ↓reduceIte, reduceEqDiff, reduceAdd, reduceLT, reduceMul]
    rcases J8 h with ⟨h14, h⟩ | ⟨h14, h⟩
    ·obtain rfl := sj h
     try simp only [↓Da, Ua, J0u, J7, J2, J6, JbQ, *, ↓reduceIte, reduceEqDiff, reduceAdd, reduceLT, reduceMul]
     rfl
    ·obtain rfl := sj h
     try simp only [↓Da, Ua, J0u, J7, J2, J6, *, ↓reduceIte, reduceEqDiff, reduceAdd, reduceLT, reduceMul]
     rfl
   ·have h12n : ((b0.LSN : Int) != 0) = true := by rw [bne, h12]; rfl
    obtain rfl := sj h
    try simp only [↓Da, Ua, J0u, J7, J2, J6, *, ↓reduceIte, reduceEqDiff, reduceAdd, reduceLT, reduceMul]
    rfl
  ·obtain rfl := sj h
   try simp only [↓Da, Ua, J0u, J7, J2, J6, JbQ, *, ↓reduceIte, reduceEqDiff, reduceAdd, reduceLT, reduceMul]
   rfl
 ·obtain ⟨o', h', rfl⟩ := mi h
  try simp only [↓Da, Ua, J0u, J7, J2, J6, *, ↓reduceIte, reduceEqDiff, reduceAdd, reduceLT, reduceMul]
  have e0 := Jjv p (B0 := (J4 b0)) h'
  first | exact e0 | (simp only [*] at e0; exact e0)
def Jdr (b0 : T_api_Page) (s : Int) : Option (Bool) :=
 Jr (fun s => J1A b0 s) s
theorem Jhu {b0 : T_api_Page} {s : Int} {o : Bool} (h : Jdr b0 s = some o) :
  rk (J1 p) J2t 0 [.bl 0, .sq (.keep [] J4s)] (X (J1 p) (.lp 1 [1, 3] J0u) ⟨[(1, .ptr 0 0), (3, .p (.i .i64 s))], [.box (List.map AV.p (J4 b0))]⟩) = J6W o := by
 have h0 : Jr (fun s => J1A b0 s) s = some o := h
 exact J04 (P := fun (s : Int) (o : Bool) => rk (J1 p) J2t 0 [.bl 0, .sq (.keep [] J4s)] (X (J1 p) (.lp 1 [1, 3] J0u) ⟨[(1, .ptr 0 0), (3, .p (.i .i64 s))], [.box (List.map AV.p (J4 b0))]⟩) = J6W o) (fun s r hs => by rw [J03]; exact Jdo p hs) (fun s s1 r hs ih => by rw [J03]; exact (Jdo p hs).trans ih) h0
def J5F (x0 : T_api_Page) : Option (Bool) :=
 Jdr x0 0
theorem JhR {x0 : T_api_Page} {o : Bool} (h : J5F x0 = some o) :
  rk (J1 p) J2t 0 [] (X (J1 p) J8n ⟨[(0, .data (J4 x0))], []⟩) = J6W o := by
 unfold J5F at h
 try simp only [↓Da, Ua, J8n, J7, J2, J6, ↓reduceIte, reduceEqDiff, reduceAdd, reduceLT, reduceMul]
 have e0 := Jhu p h
 first | exact e0 | (simp only [*] at e0; exact e0)
theorem Jmy {x0 : T_api_Page} {o : Bool} (h : J5F x0 = some o) : AF (J1 p) J6V [.data (J4 x0)] [] = J6W o :=
 (J00 (J1 p) (JmO p) rfl).trans (JhR p h)
theorem JmZ {x0 : T_api_Page} {o : Bool} (h : J5F x0 = some o) : ∀ ws new st, (Jm (AF (J1 p)) J6V ([.data (J4 x0)], ws) 0 new).run st = some ⟨.p (.b o), ws⟩ := Jt rfl (Jmy p h) rfl
def Ji1  (r : T_api_Image × T_pagemenddraw_Codes) : Option Res := some (.data (J3 r.1), [.box (List.map AV.p (J0 r.2))])
def J8G (b0 : T_pagemenddraw_Codes) (x1 : T_api_Image) : Option (T_api_Image × T_pagemenddraw_Codes) :=
 Option.bind (Jqu 32 x1.Copies) fun u2 =>
 if (((((List.length x1.Copies) : Nat) : Int) : Int) == 0) then
  Option.bind (J2W b0) fun r5 =>
  Option.bind (J2W r5.2) fun r8 =>
  some ((⟨r5.1, r8.1, x1.Copies⟩ : T_api_Image), r8.2)
 else
  Option.bind (Jp b0 (((List.length x1.Copies) : Nat) : Int)) fun r11 =>
  Option.bind (idx x1.Copies r11.1) fun y15 =>
  Option.bind (Jp r11.2 4) fun r19 =>
  if ((r19.1 : Int) == 0) then
   Option.bind (Jp r19.2 8) fun r23 =>
   Option.bind (some (List.set x1.Copies (Int.toNat r11.1) (⟨(IntKind.wrap .i64 (r23.1 - 1)), y15.LSN, y15.Data⟩ : T_api_Copy))) fun m26 =>
   some ((⟨x1.ID, x1.Pages, m26⟩ : T_api_Image), r23.2)
  else
   if ((r19.1 : Int) == 1) then
    Option.bind (some (List.set x1.Copies (Int.toNat r11.1) (⟨y15.Page, (IntKind.wrap .i64 (y15.LSN + 1)), y15.Data⟩ : T_api_Copy))) fun m31 =>
    some ((⟨x1.ID, x1.Pages, m31⟩ : T_api_Image), r19.2)
   else
    if ((r19.1 : Int) == 2) then
     Option.bind (J2D r19.2 y15.Data) fun r36 =>
     Option.bind (some (List.set x1.Copies (Int.toNat r11.1) (⟨y15.Page, y15.LSN, r36.1⟩ : T_api_Copy))) fun m39 =>
     some ((⟨x1.ID, x1.Pages, m39⟩ : T_api_Image), r36.2)
    else
     if ((r19.1 : Int) == 3) then
      Option.bind (Jp r19.2 8) fun r44 =>
      some ((⟨x1.ID, r44.1, x1.Copies⟩ : T_api_Image), r44.2)
     else
      some ((⟨x1.ID, x1.Pages, x1.Copies⟩ : T_api_Image), r19.2)
theorem JjK {b0 : T_pagemenddraw_Codes} {x1 : T_api_Image} {o : T_api_Image × T_pagemenddraw_Codes} (h : J8G b0 x1 = some o) :
  rk (J1 p) J8J 1 [] (X (J1 p) J1I ⟨[(0, .ptr 0 0), (1, .data (J3 x1))], [.box (List.map AV.p (J0 b0))]⟩) = Ji1 o := by
 unfold J8G at h
 obtain ⟨u2, h3, h⟩ := bi h
 have f1 := (JsU h3).1
 try simp only [Nf, Ja, Jc, Jw] at f1
 try simp only [↓Da, Ua, Ra, J1I, Ja, Jc, Jw, *, ↓reduceIte, reduceEqDiff, reduceAdd, reduceLT, reduceMul, Nat.reduceBEq]
 rcases J8 h with ⟨h4, h⟩ | ⟨h4, h⟩
 ·have h4n : (((((List.length x1.Copies) : Nat) : Int) : Int) != 0) = false := by rw [bne, h4]; rfl
  obtain ⟨r5, h6, h⟩ := bi h
  have f7 : ∀ ws new s, JG ws s [0] [List.map AV.p (J0 b0)] → (Jm (AF (J1 p)) J2Z ([.ptr 0 0], ws) 0 new).run s = some ⟨.p (.i .i64 r5.1), ws ++ [(0, .box (List.map AV.p (J0 r5.2)))]⟩ := Jy (args' := [.ptr 0 0]) (bs := [0]) (css := [List.map AV.p (J0 b0)]) (css' := [List.map AV.p (J0 r5.2)]) rfl rfl rfl (by simp [Jl, J9]) (JcV p h6) rfl rfl (by simp [Jl, J9])
  try simp only [Nf, Ja, Jc, Jw] at f7
  obtain ⟨r8, h9, h⟩ := bi h
  have f10 : ∀ ws new s, JG ws s [0] [List.map AV.p (J0 r5.2)] → (Jm (AF (J1 p)) J2Z ([.ptr 0 0], ws) 0 new).run s = some ⟨.p (.i .i64 r8.1), ws ++ [(0, .box (List.map AV.p (J0 r8.2)))]⟩ := Jy (args' := [.ptr 0 0]) (bs := [0]) (css := [List.map AV.p (J0 r5.2)]) (css' := [List.map AV.p (J0 r8.2)]) rfl rfl rfl (by simp [Jl, J9]) (JcV p h9) rfl rfl (by simp [Jl, J9])
  try simp only [Nf, Ja, Jc, Jw] at f10
  obtain rfl := sj h
  try simp only [↓Da, Ua, Ra, J1I, Ja, Jc, Jw, J8I, *, ↓reduceIte, reduceEqDiff, reduceAdd, reduceLT, reduceMul, Nat.reduceBEq]
  rfl
 ·have h4n : (((((List.length x1.Copies) : Nat) : Int) : Int) != 0) = true := by rw [bne, h4]; rfl
  obtain ⟨r11, h12, h⟩ := bi h
  have f13 : ∀ ws new s, JG ws s [0] [List.map AV.p (J0 b0)] → (Jm (AF (J1 p)) Jb ([.ptr 0 0, .p (.i .i64 (((List.length x1.Copies) : Nat) : Int))], ws) 0 new).run s = some ⟨.p (.i .i64 r11.1), ws ++ [(0, .box (List.map AV.p (J0 r11.2)))]⟩ := Jy (args' := [.ptr 0 0, .p (.i .i64 (((List.length x1.Copies) : Nat) : Int))]) (bs := [0]) (css := [List.map AV.p (J0 b0)]) (css' := [List.map AV.p (J0 r11.2)]) rfl rfl rfl (by simp [Jl, J9]) (Jv p h12) rfl rfl (by simp [Jl, J9])
  try simp only [Nf, Ja, Jc, Jw] at f13
  have f14 : ∀ ws k new s, JG ws s [0] [List.map AV.p (J0 b0)] → Jg ((Jm (AF (J1 p)) Jb ([.ptr 0 0, .p (.i .i64 (((List.length x1.Copies) : Nat) : Int))], ws) k new).reads s) = [0] ++ ([0] ++ [0]) := J9C (args' := [.ptr 0 0, .p (.i .i64 (((List.length x1.Copies) : Nat) : Int))]) (bs := [0]) (css := [List.map AV.p (J0 b0)]) rfl rfl rfl (by simp [Jl, J9])
  try simp only [Nf, Ja, Jc, Jw] at f14
  obtain ⟨y15, h16, h⟩ := bi h
  have f17 := Jj5 (r := J5) h16
  try simp only [Nf, Ja, Jc, Jw] at f17
  have f18 : (0 ≤ (r11.1 : Int) ∧ (r11.1 : Int) < (((List.length x1.Copies) : Nat) : Int)) = True := eq_true (by have e0 := Jlp h16; (try simp only [List.length_cons, List.length_nil, Nat.zero_add] at e0); omega)
  obtain ⟨r19, h20, h⟩ := bi h
  have f21 : ∀ ws new s, JG ws s [0] [List.map AV.p (J0 r11.2)] → (Jm (AF (J1 p)) Jb ([.ptr 0 0, .p (.i .i64 4)], ws) 0 new).run s = some ⟨.p (.i .i64 r19.1), ws ++ [(0, .box (List.map AV.p (J0 r19.2)))]⟩ := Jy (args' := [.ptr 0 0, .p (.i .i64 4)]) (bs := [0]) (css := [List.map AV.p (J0 r11.2)]) (css' := [List.map AV.p (J0 r19.2)]) rfl rfl rfl (by simp [Jl, J9]) (Jv p h20) rfl rfl (by simp [Jl, J9])
  try simp only [Nf, Ja, Jc, Jw] at f21
  try simp only [↓Da, Ua, Ra, J1I, Ja, Jc, Jw, *, ↓reduceIte, reduceEqDiff, reduceAdd, reduceLT, reduceMul, Nat.reduceBEq]
  rcases J8 h with ⟨h22, h⟩ | ⟨h22, h⟩
  ·have h22n : ((r19.1 : Int) != 0) = false := by rw [bne, h22]; rfl
   obtain ⟨r23, h24, h⟩ := bi h
   have f25 : ∀ ws new s, JG ws s [0] [List.map AV.p (J0 r19.2)] → (Jm (AF (J1 p)) Jb ([.ptr 0 0, .p (.i .i64 8)], ws) 0 new).run s = some ⟨.p (.i .i64 r23.1), ws ++ [(0, .box (List.map AV.p (J0 r23.2)))]⟩ := Jy (args' := [.ptr 0 0, .p (.i .i64 8)]) (bs := [0]) (css := [List.map AV.p (J0 r19.2)]) (css' := [List.map AV.p (J0 r23.2)]) rfl rfl rfl (by simp [Jl, J9]) (Jv p h24) rfl rfl (by simp [Jl, J9])
   try simp only [Nf, Ja, Jc, Jw] at f25
   obtain ⟨m26, h27, h⟩ := bi h
   have f28 : List.set (List.map J5 x1.Copies) (Int.toNat r11.1) (J5 (⟨(IntKind.wrap .i64 (r23.1 - 1)), y15.LSN, y15.Data⟩ : T_api_Copy)) = List.map J5 m26 := by
    rw [← Option.some.inj h27, List.map_set]
   try simp only [Nf, Ja, Jc, Jw] at f28
   have g29 : List.length m26 = List.length x1.Copies := by rw [← Option.some.inj h27, List.length_set]
   obtain rfl := sj h
   try simp only [↓Da, Ua, Ra, J1I, Ja, Jc, Jw, J8I, *, ↓reduceIte, reduceEqDiff, reduceAdd, reduceLT, reduceMul, Nat.reduceBEq]
   rfl
  ·have h22n : ((r19.1 : Int) != 0) = true := by rw [bne, h22]; rfl
   try simp only [↓Da, Ua, Ra, J1I, Ja, Jc, Jw, *, ↓reduceIte, reduceEqDiff, reduceAdd, reduceLT, reduceMul, Nat.reduceBEq]
   rcases J8 h with ⟨h30, h⟩ | ⟨h30, h⟩
   ·have h30n : ((r19.1 : Int) != 1) = false := by rw [bne, h30]; rfl
    obtain ⟨m31, h32, h⟩ := bi h
    have f33 : List.set (List.map J5 x1.Copies) (Int.toNat r11.1) (J5 (⟨y15.Page, (IntKind.wrap .i64 (y15.LSN + 1)), y15.Data⟩ : T_api_Copy)) = List.map J5 m31 := by
     rw [← Option.some.inj h32, List.map_set]
    try simp only [Nf, Ja, Jc, Jw] at f33
    have g34 : List.length m31 = List.length x1.Copies := by rw [← Option.some.inj h32, List.length_set]
    obtain rfl := sj h
    try simp only [↓Da, Ua, Ra, J1I, Ja, Jc, Jw, J8I, *, ↓reduceIte, reduceEqDiff, reduceAdd, reduceLT, reduceMul, Nat.reduceBEq]
    rfl
   ·have h30n : ((r19.1 : Int) != 1) = true := by rw [bne, h30]; rfl
    try simp only [↓Da, Ua, Ra, J1I, Ja, Jc, Jw, *, ↓reduceIte, reduceEqDiff, reduceAdd, reduceLT, reduceMul, Nat.reduceBEq]
    rcases J8 h with ⟨h35, h⟩ | ⟨h35, h⟩
    ·have h35n : ((r19.1 : Int) != 2) = false := by rw [bne, h35]; rfl
     obtain ⟨r36, h37, h⟩ := bi h
     have f38 : ∀ ws new s, JG ws s [0] [List.map AV.p (J0 r19.2)] → (Jm (AF (J1 p)) J1O ([.ptr 0 0, .p (.s y15.Data)], ws) 0 new).run s = some ⟨.p (.s r36.1), ws ++ [(0, .box (List.map AV.p (J0 r36.2)))]⟩ := Jy (args' := [.ptr 0 0, .p (.s y15.Data)]) (bs := [0]) (css := [List.map AV.p (J0 r19.2)]) (css' := [List.map AV.p (J0 r36.2)]) rfl rfl rfl (by simp [Jl, J9]) (Jb2 p h37) rfl rfl (by simp [Jl, J9])
     try simp only [Nf, Ja, Jc, Jw] at f38
     obtain ⟨m39, h40, h⟩ := bi h
     have f41 : List.set (List.map J5 x1.Copies) (Int.toNat r11.1) (J5 (⟨y15.Page, y15.LSN, r36.1⟩ : T_api_Copy)) = List.map J5 m39 := by
      rw [← Option.some.inj h40, List.map_set]
     try simp only [Nf, Ja, Jc, Jw] at f41
     have g42 : List.length m39 = List.length x1.Copies := by rw [← Option.some.inj h40, List.length_set]
     obtain rfl := sj h
     try simp only [↓Da, Ua, Ra, J1I, Ja, Jc, Jw, J8I, *, ↓reduceIte, reduceEqDiff, reduceAdd, reduceLT, reduceMul, Nat.reduceBEq]
     rfl
    ·have h35n : ((r19.1 : Int) != 2) = true := by rw [bne, h35]; rfl
     try simp only [↓Da, Ua, Ra, J1I, Ja, Jc, Jw, *, ↓reduceIte, reduceEqDiff, reduceAdd, reduceLT, reduceMul, Nat.reduceBEq]
     rcases J8 h with ⟨h43, h⟩ | ⟨h43, h⟩
     ·have h43n : ((r19.1 : Int) != 3) = false := by rw [bne, h43]; rfl
      obtain ⟨r44, h45, h⟩ := bi h
      have f46 : ∀ ws new s, JG ws s [0] [List.map AV.p (J0 r19.2)] → (Jm (AF (J1 p)) Jb ([.ptr 0 0, .p (.i .i64 8)], ws) 0 new).run s = some ⟨.p (.i .i64 r44.1), ws ++ [(0, .box (List.map AV.p (J0 r44.2)))]⟩ := Jy (args' := [.ptr 0 0, .p (.i .i64 8)]) (bs := [0]) (css := [List.map AV.p (J0 r19.2)]) (css' := [List.map AV.p (J0 r44.2)]) rfl rfl rfl (by simp [Jl, J9]) (Jv p h45) rfl rfl (by simp [Jl, J9])
      try simp only [Nf, Ja, Jc, Jw] at f46
      obtain rfl := sj h
      try simp only [↓Da, Ua, Ra, J1I, Ja, Jc, Jw, J8I, *, ↓reduceIte, reduceEqDiff, reduceAdd, reduceLT, reduceMul, Nat.reduceBEq]
      rfl
     ·have h43n : ((r19.1 : Int) != 3) = true := by rw [bne, h43]; rfl
      obtain rfl := sj h
      try simp only [↓Da, Ua, Ra, J1I, Ja, Jc, Jw, J8I, *, ↓reduceIte, reduceEqDiff, reduceAdd, reduceLT, reduceMul, Nat.reduceBEq]
      rfl
theorem Jpp {b0 : T_pagemenddraw_Codes} {x1 : T_api_Image} {o : T_api_Image × T_pagemenddraw_Codes} (h : J8G b0 x1 = some o) : AF (J1 p) J7p [.ptr 0 0, .data (J3 x1)] [.box (List.map AV.p (J0 b0))] = Ji1 o :=
 (J00 (J1 p) (Jpu p) rfl).trans (JjK p h)
def J6H  (r : (List UInt8) × Int) : Option Res := some (.tup [.p (.s r.1), .p (.i .i64 r.2)], [])
def Jk2 (x28 : Vector Jf 16) (b0 : T_api_Page) (o : (Int × T_page_builder) ⊕ ((List UInt8) × Int)) : Option Res := match o with
 | .inl s => rk (J1 p) J2p 0 [.bl 1, .td 2 [1, 2, 3, 4], .sq (.keep [1, 4] J4h)] (X (J1 p) (.lp 2 [1, 4, 5, 28, 29] J3n) ⟨[(1, .ptr 0 0), (4, .ptr 1 0), (5, .fn J0Q [.ptr 1 0] []), (28, .data ((JV Jk) x28)), (29, .p (.i .i64 s.1))], [.box (List.map AV.p (J4 b0)), .box (List.map AV.p (J0x s.2))]⟩)
 | .inr o => J6H o
def J7h (b0 : T_api_Page) (b1 : T_page_builder) : Option ((List UInt8) × Int) :=
 Option.bind (J3S ([0]) (IntKind.wrap .i64 (244 - ((List.length b1.s_ : Nat) : Int)))) fun r1 =>
 Option.bind (J1Z b1.s_ r1) fun s5 =>
 Option.bind (J24 s5) fun r7 =>
 Option.bind (J0i s5 (IntKind.wrap .i64 r7) 4) fun r11 =>
 Option.bind (J0i r11 b0.LSN 8) fun r15 =>
 some (r15, 0)
theorem Jkf {b0 : T_api_Page} {b1 : T_page_builder} {o : (List UInt8) × Int} (h : J7h b0 b1 = some o) :
  rk (J1 p) J2p 0 [] (X (J1 p) J4h ⟨[(1, .ptr 0 0), (4, .ptr 1 0)], [.box (List.map AV.p (J4 b0)), .box (List.map AV.p (J0x b1))]⟩) = J6H o := by
 unfold J7h at h
 obtain ⟨r1, h2, h⟩ := bi h
 have f3 := Jad p h2
 try simp only [Nf, JB] at f3
 have f4 : ∀ ws k new s, Jg ((Jm (AF (J1 p)) J2k ([.p (.s [0]), .p (.i .i64 (IntKind.wrap .i64 (244 - ((List.length b1.s_ : Nat) : Int))))], ws) k new).reads s) = [] := J05 rfl
 try simp only [Nf, JB] at f4
 obtain ⟨s5, h6, h⟩ := bi h
 obtain ⟨r7, h8, h⟩ := bi h
 have f9 := Jbx p h8
 try simp only [Nf, JB] at f9
 have f10 : ∀ ws k new s, Jg ((Jm (AF (J1 p)) J4c ([.p (.s s5)], ws) k new).reads s) = [] := J05 rfl
 try simp only [Nf, JB] at f10
 obtain ⟨r11, h12, h⟩ := bi h
 have f13 := J7q p h12
 try simp only [Nf, JB] at f13
 have f14 : ∀ ws k new s, Jg ((Jm (AF (J1 p)) J1p ([.p (.s s5), .p (.i .i64 (IntKind.wrap .i64 r7)), .p (.i .i64 4)], ws) k new).reads s) = [] := J05 rfl
 try simp only [Nf, JB] at f14
 obtain ⟨r15, h16, h⟩ := bi h
 have f17 := J7q p h16
 try simp only [Nf, JB] at f17
 have f18 : ∀ ws k new s, Jg ((Jm (AF (J1 p)) J1p ([.p (.s r11), .p (.i .i64 b0.LSN), .p (.i .i64 8)], ws) k new).reads s) = [] := J05 rfl
 try simp only [Nf, JB] at f18
 obtain rfl := sj h
 try simp only [↓Da, Ua, Ra, J4h, J7, J2, J6, JB, JbX, *, ↓reduceIte, reduceEqDiff, reduceAdd, reduceLT, reduceMul, Nat.reduceBEq]
 rfl
def J21 (x28 : Vector Jf 16) (b0 : T_api_Page) (x29 : Int) (b1 : T_page_builder) : Option (((Int × T_page_builder) ⊕ ((List UInt8) × Int))) :=
 if (decide (x29 < 16)) then
  Option.bind (J8R x28 x29) fun y2 =>
  Option.bind (J1P b1 y2) fun r6 =>
  some (.inl ((IntKind.wrap .i64 (x29 + 1)), r6))
 else
  Option.map (fun o => .inr o) (J7h b0 b1)
theorem Jds {x28 : Vector Jf 16} {b0 : T_api_Page} {x29 : Int} {b1 : T_page_builder} {o : ((Int × T_page_builder) ⊕ ((List UInt8) × Int))} (h : J21 x28 b0 x29 b1 = some o) :
  rk (J1 p) J2p 0 [.lo 2 [1, 4, 5, 28, 29] J3n, .bl 1, .td 2 [1, 2, 3, 4], .sq (.keep [1, 4] J4h)] (X (J1 p) J3n ⟨[(1, .ptr 0 0), (4, .ptr 1 0), (5, .fn J0Q [.ptr 1 0] []), (28, .data ((JV Jk) x28)), (29, .p (.i .i64 x29))], [.box (List.map AV.p (J4 b0)), .box (List.map AV.p (J0x b1))]⟩) = (Jk2 p x28 b0) o := by
 unfold J21 at h
 rcases J8 h with ⟨h1, h⟩ | ⟨h1, h⟩
 ·obtain ⟨y2, h3, h⟩ := bi h
  have f4 : (0 ≤ (x29 : Int) ∧ (x29 : Int) < ((16 : Nat) : Int)) = True := eq_true (J5i h3).1
  have f5 : sub (JV Jk x28) (Int.toNat x29 * 2) 2 = some (Jk y2) := J9K JQ (J5i h3).2
  try simp only [Nf, JB] at f5
  obtain ⟨r6, h7, h⟩ := bi h
  have f8 : ∀ ws new s, JG ws s [1] [List.map AV.p (J0x b1)] → (Jm (AF (J1 p)) J0Q ([.ptr 1 0, .data (Jk y2)], ws) 0 new).run s = some ⟨.tup [], ws ++ [(1, .box (List.map AV.p (J0x r6)))]⟩ := Jy (args' := [.ptr 0 0, .data (Jk y2)]) (bs := [1]) (css := [List.map AV.p (J0x b1)]) (css' := [List.map AV.p (J0x r6)]) rfl rfl rfl (by simp [Jl, J9]) (JfV p h7) rfl rfl (by simp [Jl, J9])
  try simp only [Nf, JB] at f8
  obtain rfl := sj h
  try simp only [↓Da, Ua, J3n, J7, JB, *, ↓reduceIte, reduceEqDiff, reduceAdd, reduceLT, reduceMul]
  rfl
 ·obtain ⟨o', h', rfl⟩ := mi h
  try simp only [↓Da, Ua, J3n, J7, JB, *, ↓reduceIte, reduceEqDiff, reduceAdd, reduceLT, reduceMul]
  have e0 := Jkf p h'
  exact e0
def JaQ (x28 : Vector Jf 16) (b0 : T_api_Page) (s : Int × T_page_builder) : Option ((List UInt8) × Int) :=
 Jr (fun s => J21 x28 b0 s.1 s.2) s
theorem Jhl {x28 : Vector Jf 16} {b0 : T_api_Page} {s : Int × T_page_builder} {o : (List UInt8) × Int} (h : JaQ x28 b0 s = some o) :
  rk (J1 p) J2p 0 [.bl 1, .td 2 [1, 2, 3, 4], .sq (.keep [1, 4] J4h)] (X (J1 p) (.lp 2 [1, 4, 5, 28, 29] J3n) ⟨[(1, .ptr 0 0), (4, .ptr 1 0), (5, .fn J0Q [.ptr 1 0] []), (28, .data ((JV Jk) x28)), (29, .p (.i .i64 s.1))], [.box (List.map AV.p (J4 b0)), .box (List.map AV.p (J0x s.2))]⟩) = J6H o := by
 have h0 : Jr (fun s => J21 x28 b0 s.1 s.2) s = some o := h
 exact J04 (P := fun (s : Int × T_page_builder) (o : (List UInt8) × Int) => rk (J1 p) J2p 0 [.bl 1, .td 2 [1, 2, 3, 4], .sq (.keep [1, 4] J4h)] (X (J1 p) (.lp 2 [1, 4, 5, 28, 29] J3n) ⟨[(1, .ptr 0 0), (4, .ptr 1 0), (5, .fn J0Q [.ptr 1 0] []), (28, .data ((JV Jk) x28)), (29, .p (.i .i64 s.1))], [.box (List.map AV.p (J4 b0)), .box (List.map AV.p (J0x s.2))]⟩) = J6H o) (fun s r hs => by rw [J03]; exact Jds p hs) (fun s s1 r hs ih => by rw [J03]; exact (Jds p hs).trans ih) h0
def J0S (x0 : T_api_Page) : Option ((List UInt8) × Int) :=
 Option.bind (J1t x0) fun r1 =>
 if r1 then
  Option.bind (J5v x0) fun r5 =>
  if r5 then
   Option.bind (J0i ([]) x0.LSN 8) fun r9 =>
   Option.bind (J0i r9 x0.ID 4) fun r13 =>
   JaQ x0.Cells x0 (0, (⟨r13⟩ : T_page_builder))
  else
   some (([] : List UInt8), 22)
 else
  some (([] : List UInt8), 1)
theorem Jhv {x0 : T_api_Page} {o : (List UInt8) × Int} (h : J0S x0 = some o) :
  rk (J1 p) J2p 0 [] (X (J1 p) J3Q ⟨[(0, .data (J4 x0))], []⟩) = J6H o := by
 unfold J0S at h
 obtain ⟨r1, h2, h⟩ := bi h
 have f3 := Jn4 p h2
 try simp only [Nf, JB] at f3
 try simp only [↓Da, Ua, Ra, J3Q, J7, J2, J6, JB, *, ↓reduceIte, reduceEqDiff, reduceAdd, reduceLT, reduceMul, Nat.reduceBEq]
 rcases J8 h with ⟨h4, h⟩ | ⟨h4, h⟩
 ·obtain ⟨r5, h6, h⟩ := bi h
  have f7 := Job p h6
  try simp only [Nf, JB] at f7
  try simp only [↓Da, Ua, Ra, J3Q, J7, J2, J6, JB, *, ↓reduceIte, reduceEqDiff, reduceAdd, reduceLT, reduceMul, Nat.reduceBEq]
  rcases J8 h with ⟨h8, h⟩ | ⟨h8, h⟩
  ·obtain ⟨r9, h10, h⟩ := bi h
   have f11 := J7q p h10
   try simp only [Nf, JB] at f11
   have f12 : ∀ ws k new s, Jg ((Jm (AF (J1 p)) J1p ([.p (.s []), .p (.i .i64 x0.LSN), .p (.i .i64 8)], ws) k new).reads s) = [] := J05 rfl
   try simp only [Nf, JB] at f12
   obtain ⟨r13, h14, h⟩ := bi h
   have f15 := J7q p h14
   try simp only [Nf, JB] at f15
   have f16 : ∀ ws k new s, Jg ((Jm (AF (J1 p)) J1p ([.p (.s r9), .p (.i .i64 x0.ID), .p (.i .i64 4)], ws) k new).reads s) = [] := J05 rfl
   try simp only [Nf, JB] at f16
   try simp only [↓Da, Ua, Ra, J3Q, J7, J2, J6, JB, *, ↓reduceIte, reduceEqDiff, reduceAdd, reduceLT, reduceMul, Nat.reduceBEq]
   have e0 := Jhl p h
   exact e0
  ·obtain rfl := sj h
   try simp only [↓Da, Ua, Ra, J3Q, J7, J2, J6, JB, JbX, *, ↓reduceIte, reduceEqDiff, reduceAdd, reduceLT, reduceMul, Nat.reduceBEq]
   rfl
 ·obtain rfl := sj h
  try simp only [↓Da, Ua, Ra, J3Q, J7, J2, J6, JB, JbX, *, ↓reduceIte, reduceEqDiff, reduceAdd, reduceLT, reduceMul, Nat.reduceBEq]
  rfl
theorem Jmt {x0 : T_api_Page} {o : (List UInt8) × Int} (h : J0S x0 = some o) : AF (J1 p) J6L [.data (J4 x0)] [] = J6H o :=
 (J00 (J1 p) (JmT p) rfl).trans (Jhv p h)
theorem JmF {x0 : T_api_Page} {o : (List UInt8) × Int} (h : J0S x0 = some o) : ∀ ws new st, (Jm (AF (J1 p)) J6L ([.data (J4 x0)], ws) 0 new).run st = some ⟨.tup [.p (.s o.1), .p (.i .i64 o.2)], ws⟩ := Jt rfl (Jmt p h) rfl
end
end Go.Am
end
