/-
  Parts of a proof.
-/
import Derived.Test.YtiallbcnaadmoaaM9
open Nat (reduceEqDiff reduceAdd reduceLT reduceMul)
set_option linter.unusedSimpArgs false
set_option linter.unusedVariables false
section
namespace Go.Am
set_option maxRecDepth 8000
set_option maxHeartbeats 4000000
set_option linter.unusedSimpArgs false
set_option linter.unusedVariables false
noncomputable section
variable (p : FuncId → Option (List AV → List Blk → Option Res))
def Je7  (r : T_pagemenddraw_Codes) : Option Res := some (.ptr 0 0, [.box (List.map AV.p (J0 r))])
def J8k (x0 : List Int) : Option (T_pagemenddraw_Codes) :=
 some (⟨x0, 0⟩ : T_pagemenddraw_Codes)
theorem JfM {x0 : List Int} {o : T_pagemenddraw_Codes} (h : J8k x0 = some o) :
  rk (J2 p) J7s 0 [] (X (J2 p) Jco ⟨[(0, .p (.sl 1 (List.map (r_i .u8) x0)))], []⟩) = Je7 o := by
 unfold J8k at h
 obtain rfl := sj h
 try simp only [↓Da, Ua, Jco, J9, Jpw, ↓reduceIte, reduceEqDiff, reduceAdd, reduceLT, reduceMul]
 rfl
def J7t (x0 : List Int) (x1 : Int) : Option (T_pagemenddraw_Codes) :=
 if (decide (((List.length x0 : Nat) : Int) > x1)) then
  Option.bind (J1i x0 none (some x1)) fun m2 =>
  J8k m2
 else
  J8k x0
theorem JjB {x0 : List Int} {x1 : Int} {o : T_pagemenddraw_Codes} (h : J7t x0 x1 = some o) :
  rk (J2 p) J7s 0 [] (X (J2 p) J8B ⟨[(0, .p (.sl 1 (List.map (r_i .u8) x0))), (1, .p (.i .i64 x1))], []⟩) = Je7 o := by
 unfold J7t at h
 rcases J8 h with ⟨h1, h⟩ | ⟨h1, h⟩
 ·obtain ⟨m2, h3, h⟩ := bi h
  have f4 : J8m 1 (.p (.sl 1 (List.map (r_i .u8) x0))) none (some (.p (.i .i64 x1))) = some (.p (.sl 1 (List.map (r_i .u8) m2))) := JqR (k := .i64) (lo := none) (hi := (some x1)) h3
  try simp only [Nf] at f4
  try simp only [↓Da, Ua, J8B, J9, *, ↓reduceIte, reduceEqDiff, reduceAdd, reduceLT, reduceMul]
  have e0 := JfM p h
  exact e0
 ·try simp only [↓Da, Ua, J8B, J9, *, ↓reduceIte, reduceEqDiff, reduceAdd, reduceLT, reduceMul]
  have e0 := JfM p h
  exact e0
theorem JpD {x0 : List Int} {x1 : Int} {o : T_pagemenddraw_Codes} (h : J7t x0 x1 = some o) : AF (J2 p) J8F [.p (.sl 1 (List.map (r_i .u8) x0)), .p (.i .i64 x1)] [] = Je7 o :=
 (J0c (J2 p) (Jps p) rfl).trans (JjB p h)
def J72  (r : Int × T_pagemenddraw_Codes) : Option Res := some (.p (.i .i64 r.1), [.box (List.map AV.p (J0 r.2))])
def J65 (rec : T_pagemenddraw_Codes → Int → Option (Int × T_pagemenddraw_Codes)) (b0 : T_pagemenddraw_Codes) (x1 : Int) : Option (Int × T_pagemenddraw_Codes) :=
 if (decide (b0.at_ ≥ ((List.length b0.l_ : Nat) : Int))) then
  some (0, b0)
 else
  if (decide (x1 < 1)) then
   some (0, b0)
  else
   Option.bind (idx b0.l_ b0.at_) fun y3 =>
   if (decide (x1 > 256)) then
    Option.bind (rec (⟨b0.l_, (IntKind.wrap .i64 (b0.at_ + 1))⟩ : T_pagemenddraw_Codes) 256) fun r7 =>
    Option.bind (JfP (IntKind.wrap .i64 ((IntKind.wrap .i64 (256 * (IntKind.wrap .i64 y3))) + r7.1)) x1) fun q10 =>
    some (q10, r7.2)
   else
    Option.bind (JfP (IntKind.wrap .i64 y3) x1) fun q12 =>
    some (q12, (⟨b0.l_, (IntKind.wrap .i64 (b0.at_ + 1))⟩ : T_pagemenddraw_Codes))
theorem JdL {rec : T_pagemenddraw_Codes → Int → Option (Int × T_pagemenddraw_Codes)} (hrec : ∀ {b0 : T_pagemenddraw_Codes} {x1 : Int} {o : Int × T_pagemenddraw_Codes}, rec b0 x1 = some o → AF (J2 p) Ji [.ptr 0 0, .p (.i .i64 x1)] [.box (List.map AV.p (J0 b0))] = J72 o) {b0 : T_pagemenddraw_Codes} {x1 : Int} {o : Int × T_pagemenddraw_Codes} (h : J65 rec b0 x1 = some o) :
  rk (J2 p) J44 1 [] (X (J2 p) J1l ⟨[(0, .ptr 0 0), (1, .p (.i .i64 x1))], [.box (List.map AV.p (J0 b0))]⟩) = J72 o := by
 unfold J65 at h
 rcases J8 h with ⟨h1, h⟩ | ⟨h1, h⟩
 ·obtain rfl := sj h
  try simp only [↓Da, Ua, J1l, J9, J6Z, *, ↓reduceIte, reduceEqDiff, reduceAdd, reduceLT, reduceMul]
  rfl
 ·try simp only [↓Da, Ua, J1l, J9, *, ↓reduceIte, reduceEqDiff, reduceAdd, reduceLT, reduceMul]
  rcases J8 h with ⟨h2, h⟩ | ⟨h2, h⟩
  ·obtain rfl := sj h
   try simp only [↓Da, Ua, J1l, J9, J6Z, *, ↓reduceIte, reduceEqDiff, reduceAdd, reduceLT, reduceMul]
   rfl
  ·obtain ⟨y3, h4, h⟩ := bi h
   have f5 := J6M (r := (r_i .u8)) h4
   try simp only [Nf] at f5
   try simp only [↓Da, Ua, J1l, J9, *, ↓reduceIte, reduceEqDiff, reduceAdd, reduceLT, reduceMul]
   rcases J8 h with ⟨h6, h⟩ | ⟨h6, h⟩
   ·obtain ⟨r7, h8, h⟩ := bi h
    have f9 : ∀ ws new s, J06 ws s [0] [List.map AV.p (J0 (⟨b0.l_, (IntKind.wrap .i64 (b0.at_ + 1))⟩ : T_pagemenddraw_Codes))] → (Jl (AF (J2 p)) Ji ([.ptr 0 0, .p (.i .i64 256)], ws) 0 new).run s = some ⟨.p (.i .i64 r7.1), ws ++ [(0, .box (List.map AV.p (J0 r7.2)))]⟩ := JZ (args' := [.ptr 0 0, .p (.i .i64 256)]) (bs := [0]) (css := [List.map AV.p (J0 (⟨b0.l_, (IntKind.wrap .i64 (b0.at_ + 1))⟩ : T_pagemenddraw_Codes))]) (css' := [List.map AV.p (J0 r7.2)]) rfl rfl rfl (by simp [Jt, Jh]) (hrec h8) rfl rfl (by simp [Jt, Jh])
    try simp only [Nf] at f9
    obtain ⟨q10, h11, h⟩ := bi h
    obtain rfl := sj h
    try simp only [↓Da, Ua, J1l, J9, J6Z, *, ↓reduceIte, reduceEqDiff, reduceAdd, reduceLT, reduceMul]
    rfl
   ·obtain ⟨q12, h13, h⟩ := bi h
    obtain rfl := sj h
    try simp only [↓Da, Ua, J1l, J9, J6Z, *, ↓reduceIte, reduceEqDiff, reduceAdd, reduceLT, reduceMul]
    rfl
def J4D : Nat → T_pagemenddraw_Codes → Int → Option (Int × T_pagemenddraw_Codes)
 | 0 => fun _ _ => none
 | n + 1 => J65 (J4D n)
def JH : T_pagemenddraw_Codes → Int → Option (Int × T_pagemenddraw_Codes) := J4D 12
theorem Jat : ∀ n, ∀ {b0 : T_pagemenddraw_Codes} {x1 : Int} {o : Int × T_pagemenddraw_Codes}, J4D n b0 x1 = some o → AF (J2 p) Ji [.ptr 0 0, .p (.i .i64 x1)] [.box (List.map AV.p (J0 b0))] = J72 o
 | 0 => fun h => by cases h
 | n + 1 => fun h => (J0c (J2 p) (JgL p) rfl).trans (JdL p (Jat n) h)
theorem JT {b0 : T_pagemenddraw_Codes} {x1 : Int} {o : Int × T_pagemenddraw_Codes} (h : JH b0 x1 = some o) : AF (J2 p) Ji [.ptr 0 0, .p (.i .i64 x1)] [.box (List.map AV.p (J0 b0))] = J72 o := Jat p 12 h
def J3H  (r : (List UInt8) × T_pagemenddraw_Codes) : Option Res := some (.p (.s r.1), [.box (List.map AV.p (J0 r.2))])
def Ja9 (x4 : Int) (b0 : T_pagemenddraw_Codes) (o : (Int × (List Int)) ⊕ ((List UInt8) × T_pagemenddraw_Codes)) : Option Res := match o with
 | .inl s => rk (J2 p) J0L 1 [.bl 0, .sq (.keep [0, 3] J26)] (X (J2 p) (.lp 2 [0, 3, 4, 5] J1u) ⟨[(0, .ptr 0 0), (3, .slr 1 0 (List.length s.2)), (4, .p (.i .u8 x4)), (5, .p (.i .i64 s.1))], [.box (List.map AV.p (J0 b0)), .arr true 1 (List.map (r_i .u8) s.2)]⟩)
 | .inr o => J3H o
def J5u (b0 : T_pagemenddraw_Codes) (l1 : List Int) : Option ((List UInt8) × T_pagemenddraw_Codes) :=
 Option.bind (JH b0 256) fun r1 =>
 Option.bind (JH r1.2 256) fun r4 =>
 Option.bind (idx l1 r1.1) fun y7 =>
 Option.bind (some (List.set l1 (Int.toNat r1.1) (IntKind.wrap .u8 r4.1))) fun m11 =>
 some ((toStr m11), r4.2)
theorem Jeb {b0 : T_pagemenddraw_Codes} {l1 : List Int} {o : (List UInt8) × T_pagemenddraw_Codes} (h : J5u b0 l1 = some o) :
  rk (J2 p) J0L 1 [] (X (J2 p) J26 ⟨[(0, .ptr 0 0), (3, .slr 1 0 (List.length l1))], [.box (List.map AV.p (J0 b0)), .arr true 1 (List.map (r_i .u8) l1)]⟩) = J3H o := by
 unfold J5u at h
 obtain ⟨r1, h2, h⟩ := bi h
 have f3 : ∀ ws new s, J06 ws s [0] [List.map AV.p (J0 b0)] → (Jl (AF (J2 p)) Ji ([.ptr 0 0, .p (.i .i64 256)], ws) 0 new).run s = some ⟨.p (.i .i64 r1.1), ws ++ [(0, .box (List.map AV.p (J0 r1.2)))]⟩ := JZ (args' := [.ptr 0 0, .p (.i .i64 256)]) (bs := [0]) (css := [List.map AV.p (J0 b0)]) (css' := [List.map AV.p (J0 r1.2)]) rfl rfl rfl (by simp [Jt, Jh]) (JT p h2) rfl rfl (by simp [Jt, Jh])
 try simp only [Nf] at f3
 obtain ⟨r4, h5, h⟩ := bi h
 have f6 : ∀ ws new s, J06 ws s [0] [List.map AV.p (J0 r1.2)] → (Jl (AF (J2 p)) Ji ([.ptr 0 0, .p (.i .i64 256)], ws) 0 new).run s = some ⟨.p (.i .i64 r4.1), ws ++ [(0, .box (List.map AV.p (J0 r4.2)))]⟩ := JZ (args' := [.ptr 0 0, .p (.i .i64 256)]) (bs := [0]) (css := [List.map AV.p (J0 r1.2)]) (css' := [List.map AV.p (J0 r4.2)]) rfl rfl rfl (by simp [Jt, Jh]) (JT p h5) rfl rfl (by simp [Jt, Jh])
 try simp only [Nf] at f6
 obtain ⟨y7, h8, h⟩ := bi h
 have f9 := Jmb (r := (r_i .u8)) h8
 try simp only [Nf] at f9
 have f10 : (0 ≤ (r1.1 : Int) ∧ (r1.1 : Int) < (((List.length l1) : Nat) : Int)) = True := eq_true (by have e0 := JoL h8; (try simp only [List.length_cons, List.length_nil, Nat.zero_add] at e0); omega)
 obtain ⟨m11, h12, h⟩ := bi h
 have f13 : List.set (List.map (r_i .u8) l1) (Int.toNat r1.1) ((r_i .u8) (IntKind.wrap .u8 r4.1)) = List.map (r_i .u8) m11 := by
  rw [← Option.some.inj h12, List.map_set]
 try simp only [Nf] at f13
 have g14 : List.length m11 = List.length l1 := by rw [← Option.some.inj h12, List.length_set]
 obtain rfl := sj h
 try simp only [↓Da, Ua, J26, J9, Jf9, *, ↓reduceIte, reduceEqDiff, reduceAdd, reduceLT, reduceMul]
 rfl
def J22 (x4 : Int) (b0 : T_pagemenddraw_Codes) (x5 : Int) (l1 : List Int) : Option (((Int × (List Int)) ⊕ ((List UInt8) × T_pagemenddraw_Codes))) :=
 if (decide (x5 < (((List.length l1) : Nat) : Int))) then
  Option.bind (idx l1 x5) fun y2 =>
  Option.bind (some (List.set l1 (Int.toNat x5) x4)) fun m6 =>
  some (.inl ((IntKind.wrap .i64 (x5 + 1)), m6))
 else
  Option.map (fun o => .inr o) (J5u b0 l1)
theorem Jai {x4 : Int} {b0 : T_pagemenddraw_Codes} {x5 : Int} {l1 : List Int} {o : ((Int × (List Int)) ⊕ ((List UInt8) × T_pagemenddraw_Codes))} (h : J22 x4 b0 x5 l1 = some o) :
  rk (J2 p) J0L 1 [.lo 2 [0, 3, 4, 5] J1u, .bl 0, .sq (.keep [0, 3] J26)] (X (J2 p) J1u ⟨[(0, .ptr 0 0), (3, .slr 1 0 (List.length l1)), (4, .p (.i .u8 x4)), (5, .p (.i .i64 x5))], [.box (List.map AV.p (J0 b0)), .arr true 1 (List.map (r_i .u8) l1)]⟩) = (Ja9 p x4 b0) o := by
 unfold J22 at h
 rcases J8 h with ⟨h1, h⟩ | ⟨h1, h⟩
 ·obtain ⟨y2, h3, h⟩ := bi h
  have f4 := Jmb (r := (r_i .u8)) h3
  try simp only [Nf] at f4
  have f5 : (0 ≤ (x5 : Int) ∧ (x5 : Int) < (((List.length l1) : Nat) : Int)) = True := eq_true (by have e0 := JoL h3; (try simp only [List.length_cons, List.length_nil, Nat.zero_add] at e0); omega)
  obtain ⟨m6, h7, h⟩ := bi h
  have f8 : List.set (List.map (r_i .u8) l1) (Int.toNat x5) ((r_i .u8) x4) = List.map (r_i .u8) m6 := by
   rw [← Option.some.inj h7, List.map_set]
  try simp only [Nf] at f8
  have g9 : List.length m6 = List.length l1 := by rw [← Option.some.inj h7, List.length_set]
  obtain rfl := sj h
  try simp only [↓Da, Ua, J1u, *, ↓reduceIte, reduceEqDiff, reduceAdd, reduceLT, reduceMul]
  try simp only [Ja9, g9]
  try rfl
 ·obtain ⟨o', h', rfl⟩ := mi h
  try simp only [↓Da, Ua, J1u, *, ↓reduceIte, reduceEqDiff, reduceAdd, reduceLT, reduceMul]
  have e0 := Jeb p h'
  exact e0
def Jak (x4 : Int) (b0 : T_pagemenddraw_Codes) (s : Int × (List Int)) : Option ((List UInt8) × T_pagemenddraw_Codes) :=
 Jv (fun s => J22 x4 b0 s.1 s.2) s
theorem Jd8 {x4 : Int} {b0 : T_pagemenddraw_Codes} {s : Int × (List Int)} {o : (List UInt8) × T_pagemenddraw_Codes} (h : Jak x4 b0 s = some o) :
  rk (J2 p) J0L 1 [.bl 0, .sq (.keep [0, 3] J26)] (X (J2 p) (.lp 2 [0, 3, 4, 5] J1u) ⟨[(0, .ptr 0 0), (3, .slr 1 0 (List.length s.2)), (4, .p (.i .u8 x4)), (5, .p (.i .i64 s.1))], [.box (List.map AV.p (J0 b0)), .arr true 1 (List.map (r_i .u8) s.2)]⟩) = J3H o := by
 have h0 : Jv (fun s => J22 x4 b0 s.1 s.2) s = some o := h
 exact J0p (P := fun (s : Int × (List Int)) (o : (List UInt8) × T_pagemenddraw_Codes) => rk (J2 p) J0L 1 [.bl 0, .sq (.keep [0, 3] J26)] (X (J2 p) (.lp 2 [0, 3, 4, 5] J1u) ⟨[(0, .ptr 0 0), (3, .slr 1 0 (List.length s.2)), (4, .p (.i .u8 x4)), (5, .p (.i .i64 s.1))], [.box (List.map AV.p (J0 b0)), .arr true 1 (List.map (r_i .u8) s.2)]⟩) = J3H o) (fun s r hs => by rw [J0n]; exact Jai p hs) (fun s s1 r hs ih => by rw [J0n]; exact (Jai p hs).trans ih) h0
def J2E (b0 : T_pagemenddraw_Codes) : Option ((List UInt8) × T_pagemenddraw_Codes) :=
 Option.bind (mkS 1 256 256 0) fun m1 =>
 Option.bind (JH b0 256) fun r6 =>
 Jak (IntKind.wrap .u8 r6.1) r6.2 (0, m1)
theorem Jd5 {b0 : T_pagemenddraw_Codes} {o : (List UInt8) × T_pagemenddraw_Codes} (h : J2E b0 = some o) :
  rk (J2 p) J0L 1 [] (X (J2 p) J4Z ⟨[(0, .ptr 0 0)], [.box (List.map AV.p (J0 b0))]⟩) = J3H o := by
 unfold J2E at h
 obtain ⟨m1, h2, h⟩ := bi h
 have f3 : (0 ≤ (256 : Int) ∧ (256 : Int) ≤ 256 ∧ ((1 : Nat) : Int) * 256 ≤ 281474976710656 ∧ (256 : Int) ≤ 281474976710656) = True := eq_true (J9J h2).1
 have f4 : List.replicate (Int.toNat 256) ((r_i .u8) 0) = List.map (r_i .u8) m1 := by rw [(J9J h2).2, List.map_replicate]
 try simp only [Nf] at f4
 have g5 : List.length m1 = Int.toNat 256 := by rw [(J9J h2).2, List.length_replicate]
 obtain ⟨r6, h7, h⟩ := bi h
 have f8 : ∀ ws new s, J06 ws s [0] [List.map AV.p (J0 b0)] → (Jl (AF (J2 p)) Ji ([.ptr 0 0, .p (.i .i64 256)], ws) 0 new).run s = some ⟨.p (.i .i64 r6.1), ws ++ [(0, .box (List.map AV.p (J0 r6.2)))]⟩ := JZ (args' := [.ptr 0 0, .p (.i .i64 256)]) (bs := [0]) (css := [List.map AV.p (J0 b0)]) (css' := [List.map AV.p (J0 r6.2)]) rfl rfl rfl (by simp [Jt, Jh]) (JT p h7) rfl rfl (by simp [Jt, Jh])
 try simp only [Nf] at f8
 try simp only [↓Da, Ua, J4Z, J9, *, ↓reduceIte, reduceEqDiff, reduceAdd, reduceLT, reduceMul]
 have e0 := Jd8 p h
 try simp only [g5] at e0
 exact e0
theorem Jfs {b0 : T_pagemenddraw_Codes} {o : (List UInt8) × T_pagemenddraw_Codes} (h : J2E b0 = some o) : AF (J2 p) J3K [.ptr 0 0] [.box (List.map AV.p (J0 b0))] = J3H o :=
 (J0c (J2 p) (Jfn p) rfl).trans (Jd5 p h)
def J2S  (r : (List UInt8) × T_pagemenddraw_Codes) : Option Res := some (.p (.s r.1), [.box (List.map AV.p (J0 r.2))])
def JeU (x3 : Int) (w1 : Bool) (o : (Int × T_pagemenddraw_Codes × (List Int)) ⊕ ((List UInt8) × T_pagemenddraw_Codes)) : Option Res := match o with
 | .inl s => rk (J2 p) J0E 1 [.bl 0, .sq (.keep [4] J2o)] (X (J2 p) (.lp 2 [0, 3, 4, 5] J1F) ⟨[(0, .ptr 0 0), (3, .p (.i .i64 x3)), (4, .slr 1 0 (List.length s.2.2)), (5, .p (.i .i64 s.1))], [.box (List.map AV.p (J0 s.2.1)), .arr w1 1 (List.map (r_i .u8) s.2.2)]⟩)
 | .inr o => J2S o
def J66 (b0 : T_pagemenddraw_Codes) (l1 : List Int) : Option ((List UInt8) × T_pagemenddraw_Codes) :=
 some ((toStr l1), b0)
theorem JeX {b0 : T_pagemenddraw_Codes} {l1 : List Int} {w1 : Bool} {o : (List UInt8) × T_pagemenddraw_Codes} (h : J66 b0 l1 = some o) :
  rk (J2 p) J0E 1 [] (X (J2 p) J2o ⟨[(4, .slr 1 0 (List.length l1))], [.box (List.map AV.p (J0 b0)), .arr w1 1 (List.map (r_i .u8) l1)]⟩) = J2S o := by
 unfold J66 at h
 obtain rfl := sj h
 try simp only [↓Da, Ua, J2o, Jgr, ↓reduceIte, reduceEqDiff, reduceAdd, reduceLT, reduceMul]
 rfl
def J2p (x3 x5 : Int) (b0 : T_pagemenddraw_Codes) (l1 : List Int) : Option (((Int × T_pagemenddraw_Codes × (List Int)) ⊕ ((List UInt8) × T_pagemenddraw_Codes))) :=
 if (decide (x5 < x3)) then
  Option.bind (JH b0 3) fun r2 =>
  Option.bind (JaB 1 l1 ([(IntKind.wrap .u8 (IntKind.wrap .i64 (97 + r2.1)))] : List Int)) fun m5 =>
  some (.inl ((IntKind.wrap .i64 (x5 + 1)), r2.2, m5))
 else
  Option.map (fun o => .inr o) (J66 b0 l1)
theorem Jau {x3 x5 : Int} {b0 : T_pagemenddraw_Codes} {l1 : List Int} {w1 : Bool} {o : ((Int × T_pagemenddraw_Codes × (List Int)) ⊕ ((List UInt8) × T_pagemenddraw_Codes))} (h : J2p x3 x5 b0 l1 = some o) :
  rk (J2 p) J0E 1 [.lo 2 [0, 3, 4, 5] J1F, .bl 0, .sq (.keep [4] J2o)] (X (J2 p) J1F ⟨[(0, .ptr 0 0), (3, .p (.i .i64 x3)), (4, .slr 1 0 (List.length l1)), (5, .p (.i .i64 x5))], [.box (List.map AV.p (J0 b0)), .arr w1 1 (List.map (r_i .u8) l1)]⟩) = (JeU p x3 w1) o := by
 unfold J2p at h
 rcases J8 h with ⟨h1, h⟩ | ⟨h1, h⟩
 ·obtain ⟨r2, h3, h⟩ := bi h
  have f4 : ∀ ws new s, J06 ws s [0] [List.map AV.p (J0 b0)] → (Jl (AF (J2 p)) Ji ([.ptr 0 0, .p (.i .i64 3)], ws) 0 new).run s = some ⟨.p (.i .i64 r2.1), ws ++ [(0, .box (List.map AV.p (J0 r2.2)))]⟩ := JZ (args' := [.ptr 0 0, .p (.i .i64 3)]) (bs := [0]) (css := [List.map AV.p (J0 b0)]) (css' := [List.map AV.p (J0 r2.2)]) rfl rfl rfl (by simp [Jt, Jh]) (JT p h3) rfl rfl (by simp [Jt, Jh])
  try simp only [Nf] at f4
  obtain ⟨m5, h6, h⟩ := bi h
  have f7 : ∀ s : St, s.sto[1]? = some (.arr w1 1 (List.map (r_i .u8) l1)) → (JS 1 (.p (.sl 1 (List.map (r_i .u8) ([(IntKind.wrap .u8 (IntKind.wrap .i64 (97 + r2.1)))] : List Int))))).run s = some (List.map (r_i .u8) ([(IntKind.wrap .u8 (IntKind.wrap .i64 (97 + r2.1)))] : List Int)) → (J4s 1 1 (.slr 1 0 (List.length l1)) (.p (.sl 1 (List.map (r_i .u8) ([(IntKind.wrap .u8 (IntKind.wrap .i64 (97 + r2.1)))] : List Int))))).run s = some ⟨.slr 1 0 (List.length m5), [(1, .arr w1 1 (List.map (r_i .u8) m5))]⟩ := by
   intro s e1 e2; have e3 := JdE h6 e1 e2; try simp only [List.length_cons, List.length_nil, Nat.zero_add] at e3
   exact e3
  try simp only [Nf] at f7
  obtain rfl := sj h
  try simp only [↓Da, Ua, J1F, J9, *, ↓reduceIte, reduceEqDiff, reduceAdd, reduceLT, reduceMul]
  rfl
 ·obtain ⟨o', h', rfl⟩ := mi h
  try simp only [↓Da, Ua, J1F, J9, *, ↓reduceIte, reduceEqDiff, reduceAdd, reduceLT, reduceMul]
  have e0 := JeX p (w1 := w1) h'
  exact e0
def Jaq (x3 : Int) (s : Int × T_pagemenddraw_Codes × (List Int)) : Option ((List UInt8) × T_pagemenddraw_Codes) :=
 Jv (fun s => J2p x3 s.1 s.2.1 s.2.2) s
theorem Jdf {x3 : Int} {w1 : Bool} {s : Int × T_pagemenddraw_Codes × (List Int)} {o : (List UInt8) × T_pagemenddraw_Codes} (h : Jaq x3 s = some o) :
  rk (J2 p) J0E 1 [.bl 0, .sq (.keep [4] J2o)] (X (J2 p) (.lp 2 [0, 3, 4, 5] J1F) ⟨[(0, .ptr 0 0), (3, .p (.i .i64 x3)), (4, .slr 1 0 (List.length s.2.2)), (5, .p (.i .i64 s.1))], [.box (List.map AV.p (J0 s.2.1)), .arr w1 1 (List.map (r_i .u8) s.2.2)]⟩) = J2S o := by
 have h0 : Jv (fun s => J2p x3 s.1 s.2.1 s.2.2) s = some o := h
 exact J0p (P := fun (s : Int × T_pagemenddraw_Codes × (List Int)) (o : (List UInt8) × T_pagemenddraw_Codes) => rk (J2 p) J0E 1 [.bl 0, .sq (.keep [4] J2o)] (X (J2 p) (.lp 2 [0, 3, 4, 5] J1F) ⟨[(0, .ptr 0 0), (3, .p (.i .i64 x3)), (4, .slr 1 0 (List.length s.2.2)), (5, .p (.i .i64 s.1))], [.box (List.map AV.p (J0 s.2.1)), .arr w1 1 (List.map (r_i .u8) s.2.2)]⟩) = J2S o) (fun s r hs => by rw [J0n]; exact Jau p hs) (fun s s1 r hs ih => by rw [J0n]; exact (Jau p hs).trans ih) h0
def J39 (x3 : Int) (b0 : T_pagemenddraw_Codes) : Option ((List UInt8) × T_pagemenddraw_Codes) :=
 Option.bind (mkS 1 0 x3 0) fun m1 =>
 Jaq x3 (0, b0, m1)
theorem Jao {x3 : Int} {b0 : T_pagemenddraw_Codes} {o : (List UInt8) × T_pagemenddraw_Codes} (h : J39 x3 b0 = some o) :
  rk (J2 p) J0E 1 [] (X (J2 p) J84 ⟨[(0, .ptr 0 0), (3, .p (.i .i64 x3))], [.box (List.map AV.p (J0 b0))]⟩) = J2S o := by
 unfold J39 at h
 obtain ⟨m1, h2, h⟩ := bi h
 have f3 : (0 ≤ (0 : Int) ∧ (0 : Int) ≤ x3 ∧ ((1 : Nat) : Int) * x3 ≤ 281474976710656 ∧ (x3 : Int) ≤ 281474976710656) = True := eq_true (J9J h2).1
 have f4 : List.replicate (Int.toNat 0) ((r_i .u8) 0) = List.map (r_i .u8) m1 := by rw [(J9J h2).2, List.map_replicate]
 try simp only [Nf] at f4
 have g5 : List.length m1 = Int.toNat 0 := by rw [(J9J h2).2, List.length_replicate]
 try simp only [↓Da, Ua, J84, *, ↓reduceIte, reduceEqDiff, reduceAdd, reduceLT, reduceMul]
 have e0 := Jdf p (w1 := true) h
 try simp only [g5] at e0
 exact e0
def J4g (b0 : T_pagemenddraw_Codes) : Option ((List UInt8) × T_pagemenddraw_Codes) :=
 Option.bind (JH b0 5) fun r1 =>
 Option.bind (JH r1.2 6) fun r4 =>
 if ((r4.1 : Int) == 0) then
  Option.bind (JH r4.2 14) fun r8 =>
  J39 r8.1 r8.2
 else
  J39 r1.1 r4.2
theorem Jdo {b0 : T_pagemenddraw_Codes} {o : (List UInt8) × T_pagemenddraw_Codes} (h : J4g b0 = some o) :
  rk (J2 p) J0E 1 [] (X (J2 p) J2Y ⟨[(0, .ptr 0 0)], [.box (List.map AV.p (J0 b0))]⟩) = J2S o := by
 unfold J4g at h
 obtain ⟨r1, h2, h⟩ := bi h
 have f3 : ∀ ws new s, J06 ws s [0] [List.map AV.p (J0 b0)] → (Jl (AF (J2 p)) Ji ([.ptr 0 0, .p (.i .i64 5)], ws) 0 new).run s = some ⟨.p (.i .i64 r1.1), ws ++ [(0, .box (List.map AV.p (J0 r1.2)))]⟩ := JZ (args' := [.ptr 0 0, .p (.i .i64 5)]) (bs := [0]) (css := [List.map AV.p (J0 b0)]) (css' := [List.map AV.p (J0 r1.2)]) rfl rfl rfl (by simp [Jt, Jh]) (JT p h2) rfl rfl (by simp [Jt, Jh])
 try simp only [Nf] at f3
 obtain ⟨r4, h5, h⟩ := bi h
 have f6 : ∀ ws new s, J06 ws s [0] [List.map AV.p (J0 r1.2)] → (Jl (AF (J2 p)) Ji ([.ptr 0 0, .p (.i .i64 6)], ws) 0 new).run s = some ⟨.p (.i .i64 r4.1), ws ++ [(0, .box (List.map AV.p (J0 r4.2)))]⟩ := JZ (args' := [.ptr 0 0, .p (.i .i64 6)]) (bs := [0]) (css := [List.map AV.p (J0 r1.2)]) (css' := [List.map AV.p (J0 r4.2)]) rfl rfl rfl (by simp [Jt, Jh]) (JT p h5) rfl rfl (by simp [Jt, Jh])
 try simp only [Nf] at f6
 try simp only [↓Da, Ua, J2Y, J9, *, ↓reduceIte, reduceEqDiff, reduceAdd, reduceLT, reduceMul]
 rcases J8 h with ⟨h7, h⟩ | ⟨h7, h⟩
 ·have h7n : ((r4.1 : Int) != 0) = false := by rw [bne, h7]; rfl
  obtain ⟨r8, h9, h⟩ := bi h
  have f10 : ∀ ws new s, J06 ws s [0] [List.map AV.p (J0 r4.2)] → (Jl (AF (J2 p)) Ji ([.ptr 0 0, .p (.i .i64 14)], ws) 0 new).run s = some ⟨.p (.i .i64 r8.1), ws ++ [(0, .box (List.map AV.p (J0 r8.2)))]⟩ := JZ (args' := [.ptr 0 0, .p (.i .i64 14)]) (bs := [0]) (css := [List.map AV.p (J0 r4.2)]) (css' := [List.map AV.p (J0 r8.2)]) rfl rfl rfl (by simp [Jt, Jh]) (JT p h9) rfl rfl (by simp [Jt, Jh])
  try simp only [Nf] at f10
  try simp only [↓Da, Ua, J2Y, J9, *, ↓reduceIte, reduceEqDiff, reduceAdd, reduceLT, reduceMul]
  have e0 := Jao p h
  exact e0
 ·have h7n : ((r4.1 : Int) != 0) = true := by rw [bne, h7]; rfl
  try simp only [↓Da, Ua, J2Y, J9, *, ↓reduceIte, reduceEqDiff, reduceAdd, reduceLT, reduceMul]
  have e0 := Jao p h
  exact e0
theorem Jgj {b0 : T_pagemenddraw_Codes} {o : (List UInt8) × T_pagemenddraw_Codes} (h : J4g b0 = some o) : AF (J2 p) J45 [.ptr 0 0] [.box (List.map AV.p (J0 b0))] = J2S o :=
 (J0c (J2 p) (JgN p) rfl).trans (Jdo p h)
def JgV (r : List UInt8) : Option Res := some (.p (.s r), [])
def J0e (x0 : List UInt8) (x1 x2 : Int) : Option (List UInt8) := Jfr x0 x1 x2
theorem Jh4 {x0 : List UInt8} {x1 x2 : Int} {o : List UInt8} (h : J0e x0 x1 x2 = some o) : AF (J2 p) J1k [.p (.s x0), .p (.i .i64 x1), .p (.i .i64 x2)] [] = JgV o := by
 rw [Jkh (Jog p)]
 have h' : Jfr x0 x1 x2 = some o := h
 simp only [Jnw, h', Option.map_some, JgV]
theorem J6R {x0 : List UInt8} {x1 x2 : Int} {o : List UInt8} (h : J0e x0 x1 x2 = some o) : ∀ ws new st, (Jl (AF (J2 p)) J1k ([.p (.s x0), .p (.i .i64 x1), .p (.i .i64 x2)], ws) 0 new).run st = some ⟨.p (.s o), ws⟩ := Ju rfl (Jh4 p h) rfl
def J7P  (r : (List UInt8)) : Option Res := some (.p (.s r), [])
def Jm0 (x1 x2 : Int) (o : ((List UInt8) × Int) ⊕ ((List UInt8))) : Option Res := match o with
 | .inl s => rk (J2 p) J3k 0 [.bl 0, .sq (.keep [0] J5n)] (X (J2 p) (.lp 0 [0, 1, 2, 7] J4o) ⟨[(0, .p (.s s.1)), (1, .p (.i .i64 x1)), (2, .p (.i .i64 x2)), (7, .p (.i .i64 s.2))], []⟩)
 | .inr o => J7P o
def J9a (x0 : List UInt8) : Option ((List UInt8)) :=
 some x0
theorem JlR {x0 : List UInt8} {o : (List UInt8)} (h : J9a x0 = some o) :
  rk (J2 p) J3k 0 [] (X (J2 p) J5n ⟨[(0, .p (.s x0))], []⟩) = J7P o := by
 unfold J9a at h
 obtain rfl := sj h
 try simp only [↓Da, Ua, J5n, Jda, ↓reduceIte, reduceEqDiff, reduceAdd, reduceLT, reduceMul]
 rfl
def J5j (x1 x2 : Int) (x0 : List UInt8) (x7 : Int) : Option ((((List UInt8) × Int) ⊕ ((List UInt8)))) :=
 if (decide (x7 < x2)) then
  Option.bind (J8b .u64 (IntKind.wrap .u64 x1) (IntKind.wrap .u64 (IntKind.wrap .i64 (8 * x7)))) fun q2 =>
  Option.bind (J3z x0 (toStr ([(IntKind.wrap .u8 q2)] : List Int))) fun s5 =>
  some (.inl (s5, (IntKind.wrap .i64 (x7 + 1))))
 else
  Option.map (fun o => .inr o) (J9a x0)
theorem Jez {x1 x2 : Int} {x0 : List UInt8} {x7 : Int} {o : (((List UInt8) × Int) ⊕ ((List UInt8)))} (h : J5j x1 x2 x0 x7 = some o) :
  rk (J2 p) J3k 0 [.lo 0 [0, 1, 2, 7] J4o, .bl 0, .sq (.keep [0] J5n)] (X (J2 p) J4o ⟨[(0, .p (.s x0)), (1, .p (.i .i64 x1)), (2, .p (.i .i64 x2)), (7, .p (.i .i64 x7))], []⟩) = (Jm0 p x1 x2) o := by
 unfold J5j at h
 rcases J8 h with ⟨h1, h⟩ | ⟨h1, h⟩
 ·obtain ⟨q2, h3, h⟩ := bi h
  have f4 : ∀ env sto new, (cvR .toStr (.p (.sl 1 (List.map (r_i .u8) ([(IntKind.wrap .u8 q2)] : List Int)))) new).run ⟨env, sto⟩ = some ⟨.p (.s (toStr ([(IntKind.wrap .u8 q2)] : List Int))), []⟩ := fun env sto new => JrC env sto _ new
  try simp only [Nf] at f4
  obtain ⟨s5, h6, h⟩ := bi h
  obtain rfl := sj h
  try simp only [↓Da, Ua, J4o, *, ↓reduceIte, reduceEqDiff, reduceAdd, reduceLT, reduceMul]
  rfl
 ·obtain ⟨o', h', rfl⟩ := mi h
  try simp only [↓Da, Ua, J4o, *, ↓reduceIte, reduceEqDiff, reduceAdd, reduceLT, reduceMul]
  have e0 := JlR p h'
  exact e0
def JeN (x1 x2 : Int) (s : (List UInt8) × Int) : Option ((List UInt8)) :=
 Jv (fun s => J5j x1 x2 s.1 s.2) s
theorem Jjo {x1 x2 : Int} {s : (List UInt8) × Int} {o : (List UInt8)} (h : JeN x1 x2 s = some o) :
  rk (J2 p) J3k 0 [.bl 0, .sq (.keep [0] J5n)] (X (J2 p) (.lp 0 [0, 1, 2, 7] J4o) ⟨[(0, .p (.s s.1)), (1, .p (.i .i64 x1)), (2, .p (.i .i64 x2)), (7, .p (.i .i64 s.2))], []⟩) = J7P o := by
 have h0 : Jv (fun s => J5j x1 x2 s.1 s.2) s = some o := h
 exact J0p (P := fun (s : (List UInt8) × Int) (o : (List UInt8)) => rk (J2 p) J3k 0 [.bl 0, .sq (.keep [0] J5n)] (X (J2 p) (.lp 0 [0, 1, 2, 7] J4o) ⟨[(0, .p (.s s.1)), (1, .p (.i .i64 x1)), (2, .p (.i .i64 x2)), (7, .p (.i .i64 s.2))], []⟩) = J7P o) (fun s r hs => by rw [J0n]; exact Jez p hs) (fun s s1 r hs ih => by rw [J0n]; exact (Jez p hs).trans ih) h0
def J1m (x0 : List UInt8) (x1 x2 : Int) : Option ((List UInt8)) :=
 if (decide (x2 < 1)) then
  some x0
 else
  if (decide (x2 > 8)) then
   some x0
  else
   JeN x1 x2 (x0, 0)
theorem Jjs {x0 : List UInt8} {x1 x2 : Int} {o : (List UInt8)} (h : J1m x0 x1 x2 = some o) :
  rk (J2 p) J3k 0 [] (X (J2 p) J5C ⟨[(0, .p (.s x0)), (1, .p (.i .i64 x1)), (2, .p (.i .i64 x2))], []⟩) = J7P o := by
 unfold J1m at h
 rcases J8 h with ⟨h1, h⟩ | ⟨h1, h⟩
 ·obtain rfl := sj h
  try simp only [↓Da, Ua, J5C, Jda, *, ↓reduceIte, reduceEqDiff, reduceAdd, reduceLT, reduceMul]
  rfl
 ·try simp only [↓Da, Ua, J5C, *, ↓reduceIte, reduceEqDiff, reduceAdd, reduceLT, reduceMul]
  rcases J8 h with ⟨h2, h⟩ | ⟨h2, h⟩
  ·obtain rfl := sj h
   try simp only [↓Da, Ua, J5C, Jda, *, ↓reduceIte, reduceEqDiff, reduceAdd, reduceLT, reduceMul]
   rfl
  ·try simp only [↓Da, Ua, J5C, *, ↓reduceIte, reduceEqDiff, reduceAdd, reduceLT, reduceMul]
   have e0 := Jjo p h
   exact e0
theorem Jo2 {x0 : List UInt8} {x1 x2 : Int} {o : (List UInt8)} (h : J1m x0 x1 x2 = some o) : AF (J2 p) J3O [.p (.s x0), .p (.i .i64 x1), .p (.i .i64 x2)] [] = J7P o :=
 (J0c (J2 p) (Jom p) rfl).trans (Jjs p h)
theorem J94 {x0 : List UInt8} {x1 x2 : Int} {o : (List UInt8)} (h : J1m x0 x1 x2 = some o) : ∀ ws new st, (Jl (AF (J2 p)) J3O ([.p (.s x0), .p (.i .i64 x1), .p (.i .i64 x2)], ws) 0 new).run st = some ⟨.p (.s o), ws⟩ := Ju rfl (Jo2 p h) rfl
def J7T  (r : Int × Int) : Option Res := some (.tup [.p (.i .i64 r.1), .p (.i .i64 r.2)], [])
def Jlo (x0 : List UInt8) (x1 x34 : Int) (o : (Int × Int) ⊕ (Int × Int)) : Option Res := match o with
 | .inl s => rk (J2 p) J3e 0 [.bl 1, .sq (.keep [8] J5m)] (X (J2 p) (.lp 0 [0, 1, 8, 34, 35] J4r) ⟨[(0, .p (.s x0)), (1, .p (.i .i64 x1)), (8, .p (.i .u64 s.1)), (34, .p (.i .i64 x34)), (35, .p (.i .i64 s.2))], []⟩)
 | .inr o => J7T o
def J5d (x8 : Int) : Option (Int × Int) :=
 some ((IntKind.wrap .i64 x8), 0)
theorem JlK {x8 : Int} {o : Int × Int} (h : J5d x8 = some o) :
  rk (J2 p) J3e 0 [] (X (J2 p) J5m ⟨[(8, .p (.i .u64 x8))], []⟩) = J7T o := by
 unfold J5d at h
 obtain rfl := sj h
 try simp only [↓Da, Ua, J5m, J7V, ↓reduceIte, reduceEqDiff, reduceAdd, reduceLT, reduceMul]
 rfl
def J05 (x0 : List UInt8) (x1 x34 : Int) (x8 x35 : Int) : Option (((Int × Int) ⊕ (Int × Int))) :=
 if (decide (x35 < x34)) then
  Option.bind (JbO x0 (IntKind.wrap .i64 (x1 + x35))) fun c2 =>
  Option.bind (Jd3 .u64 (IntKind.wrap .u64 c2) (IntKind.wrap .i64 (8 * x35))) fun q4 =>
  some (.inl ((orI .u64 x8 q4), (IntKind.wrap .i64 (x35 + 1))))
 else
  Option.map (fun o => .inr o) (J5d x8)
theorem Jet {x0 : List UInt8} {x1 x34 : Int} {x8 x35 : Int} {o : ((Int × Int) ⊕ (Int × Int))} (h : J05 x0 x1 x34 x8 x35 = some o) :
  rk (J2 p) J3e 0 [.lo 0 [0, 1, 8, 34, 35] J4r, .bl 1, .sq (.keep [8] J5m)] (X (J2 p) J4r ⟨[(0, .p (.s x0)), (1, .p (.i .i64 x1)), (8, .p (.i .u64 x8)), (34, .p (.i .i64 x34)), (35, .p (.i .i64 x35))], []⟩) = (Jlo p x0 x1 x34) o := by
 unfold J05 at h
 rcases J8 h with ⟨h1, h⟩ | ⟨h1, h⟩
 ·obtain ⟨c2, h3, h⟩ := bi h
  obtain ⟨q4, h5, h⟩ := bi h
  obtain rfl := sj h
  try simp only [↓Da, Ua, J4r, *, ↓reduceIte, reduceEqDiff, reduceAdd, reduceLT, reduceMul]
  rfl
 ·obtain ⟨o', h', rfl⟩ := mi h
  try simp only [↓Da, Ua, J4r, *, ↓reduceIte, reduceEqDiff, reduceAdd, reduceLT, reduceMul]
  have e0 := JlK p h'
  exact e0
def Jb9 (x0 : List UInt8) (x1 x34 : Int) (s : Int × Int) : Option (Int × Int) :=
 Jv (fun s => J05 x0 x1 x34 s.1 s.2) s
theorem JiB {x0 : List UInt8} {x1 x34 : Int} {s o : Int × Int} (h : Jb9 x0 x1 x34 s = some o) :
  rk (J2 p) J3e 0 [.bl 1, .sq (.keep [8] J5m)] (X (J2 p) (.lp 0 [0, 1, 8, 34, 35] J4r) ⟨[(0, .p (.s x0)), (1, .p (.i .i64 x1)), (8, .p (.i .u64 s.1)), (34, .p (.i .i64 x34)), (35, .p (.i .i64 s.2))], []⟩) = J7T o := by
 have h0 : Jv (fun s => J05 x0 x1 x34 s.1 s.2) s = some o := h
 exact J0p (P := fun (s : Int × Int) (o : Int × Int) => rk (J2 p) J3e 0 [.bl 1, .sq (.keep [8] J5m)] (X (J2 p) (.lp 0 [0, 1, 8, 34, 35] J4r) ⟨[(0, .p (.s x0)), (1, .p (.i .i64 x1)), (8, .p (.i .u64 s.1)), (34, .p (.i .i64 x34)), (35, .p (.i .i64 s.2))], []⟩) = J7T o) (fun s r hs => by rw [J0n]; exact Jet p hs) (fun s s1 r hs ih => by rw [J0n]; exact (Jet p hs).trans ih) h0
def JM (x0 : List UInt8) (x1 x2 : Int) : Option (Int × Int) :=
 if (decide (x2 < 1)) then
  some (0, 1)
 else
  if (decide (x2 > 8)) then
   some (0, 1)
  else
   if (decide (x1 < 0)) then
    some (0, 1)
   else
    if (decide (x1 > ((List.length x0 : Nat) : Int))) then
     some (0, 5)
    else
     if (decide ((IntKind.wrap .i64 (((List.length x0 : Nat) : Int) - x1)) < x2)) then
      some (0, 5)
     else
      Jb9 x0 x1 x2 (0, 0)
theorem Jjc {x0 : List UInt8} {x1 x2 : Int} {o : Int × Int} (h : JM x0 x1 x2 = some o) :
  rk (J2 p) J3e 0 [] (X (J2 p) J1R ⟨[(0, .p (.s x0)), (1, .p (.i .i64 x1)), (2, .p (.i .i64 x2))], []⟩) = J7T o := by
 unfold JM at h
 rcases J8 h with ⟨h1, h⟩ | ⟨h1, h⟩
 ·obtain rfl := sj h
  try simp only [↓Da, Ua, J1R, J7V, *, ↓reduceIte, reduceEqDiff, reduceAdd, reduceLT, reduceMul]
  rfl
 ·try simp only [↓Da, Ua, J1R, *, ↓reduceIte, reduceEqDiff, reduceAdd, reduceLT, reduceMul]
  rcases J8 h with ⟨h2, h⟩ | ⟨h2, h⟩
  ·obtain rfl := sj h
   try simp only [↓Da, Ua, J1R, J7V, *, ↓reduceIte, reduceEqDiff, reduceAdd, reduceLT, reduceMul]
   rfl
  ·try simp only [↓Da, Ua, J1R, *, ↓reduceIte, reduceEqDiff, reduceAdd, reduceLT, reduceMul]
   rcases J8 h with ⟨h3, h⟩ | ⟨h3, h⟩
   ·obtain rfl := sj h
    try simp only [↓Da, Ua, J1R, J7V, *, ↓reduceIte, reduceEqDiff, reduceAdd, reduceLT, reduceMul]
    rfl
   ·try simp only [↓Da, Ua, J1R, *, ↓reduceIte, reduceEqDiff, reduceAdd, reduceLT, reduceMul]
    rcases J8 h with ⟨h4, h⟩ | ⟨h4, h⟩
    ·obtain rfl := sj h
     try simp only [↓Da, Ua, J1R, J7V, *, ↓reduceIte, reduceEqDiff, reduceAdd, reduceLT, reduceMul]
     rfl
    ·try simp only [↓Da, Ua, J1R, *, ↓reduceIte, reduceEqDiff, reduceAdd, reduceLT, reduceMul]
     rcases J8 h with ⟨h5, h⟩ | ⟨h5, h⟩
     ·obtain rfl := sj h
      try simp only [↓Da, Ua, J1R, J7V, *, ↓reduceIte, reduceEqDiff, reduceAdd, reduceLT, reduceMul]
      rfl
     ·try simp only [↓Da, Ua, J1R, *, ↓reduceIte, reduceEqDiff, reduceAdd, reduceLT, reduceMul]
      have e0 := JiB p h
      exact e0
theorem Jon {x0 : List UInt8} {x1 x2 : Int} {o : Int × Int} (h : JM x0 x1 x2 = some o) : AF (J2 p) J2H [.p (.s x0), .p (.i .i64 x1), .p (.i .i64 x2)] [] = J7T o :=
 (J0c (J2 p) (JnV p) rfl).trans (Jjc p h)
theorem J6T {x0 : List UInt8} {x1 x2 : Int} {o : Int × Int} (h : JM x0 x1 x2 = some o) : ∀ ws new st, (Jl (AF (J2 p)) J2H ([.p (.s x0), .p (.i .i64 x1), .p (.i .i64 x2)], ws) 0 new).run st = some ⟨.tup [.p (.i .i64 o.1), .p (.i .i64 o.2)], ws⟩ := Ju rfl (Jon p h) rfl
def Jbq  (r : Ja × T_pagemenddraw_Codes) : Option Res := some (.data (Jf r.1), [.box (List.map AV.p (J0 r.2))])
def J4b (b0 : T_pagemenddraw_Codes) : Option (Ja × T_pagemenddraw_Codes) :=
 Option.bind (JH b0 3) fun r1 =>
 if ((r1.1 : Int) == 0) then
  some ((⟨false, ([] : List UInt8)⟩ : Ja), r1.2)
 else
  Option.bind (J4g r1.2) fun r5 =>
  Option.bind (J1i r5.1 none (some (Jhj ((List.length r5.1 : Nat) : Int) 12))) fun m8 =>
  some ((⟨true, m8⟩ : Ja), r5.2)
theorem JdK {b0 : T_pagemenddraw_Codes} {o : Ja × T_pagemenddraw_Codes} (h : J4b b0 = some o) :
  rk (J2 p) J48 1 [] (X (J2 p) J2X ⟨[(0, .ptr 0 0)], [.box (List.map AV.p (J0 b0))]⟩) = Jbq o := by
 unfold J4b at h
 obtain ⟨r1, h2, h⟩ := bi h
 have f3 : ∀ ws new s, J06 ws s [0] [List.map AV.p (J0 b0)] → (Jl (AF (J2 p)) Ji ([.ptr 0 0, .p (.i .i64 3)], ws) 0 new).run s = some ⟨.p (.i .i64 r1.1), ws ++ [(0, .box (List.map AV.p (J0 r1.2)))]⟩ := JZ (args' := [.ptr 0 0, .p (.i .i64 3)]) (bs := [0]) (css := [List.map AV.p (J0 b0)]) (css' := [List.map AV.p (J0 r1.2)]) rfl rfl rfl (by simp [Jt, Jh]) (JT p h2) rfl rfl (by simp [Jt, Jh])
 try simp only [Nf] at f3
 try simp only [↓Da, Ua, J2X, J4, J9, *, ↓reduceIte, reduceEqDiff, reduceAdd, reduceLT, reduceMul]
 rcases J8 h with ⟨h4, h⟩ | ⟨h4, h⟩
 ·have h4n : ((r1.1 : Int) != 0) = false := by rw [bne, h4]; rfl
  obtain rfl := sj h
  try simp only [↓Da, Ua, J2X, J4, J9, Jbp, *, ↓reduceIte, reduceEqDiff, reduceAdd, reduceLT, reduceMul]
  rfl
 ·have h4n : ((r1.1 : Int) != 0) = true := by rw [bne, h4]; rfl
  obtain ⟨r5, h6, h⟩ := bi h
  have f7 : ∀ ws new s, J06 ws s [0] [List.map AV.p (J0 r1.2)] → (Jl (AF (J2 p)) J45 ([.ptr 0 0], ws) 0 new).run s = some ⟨.p (.s r5.1), ws ++ [(0, .box (List.map AV.p (J0 r5.2)))]⟩ := JZ (args' := [.ptr 0 0]) (bs := [0]) (css := [List.map AV.p (J0 r1.2)]) (css' := [List.map AV.p (J0 r5.2)]) rfl rfl rfl (by simp [Jt, Jh]) (Jgj p h6) rfl rfl (by simp [Jt, Jh])
  try simp only [Nf] at f7
  obtain ⟨m8, h9, h⟩ := bi h
  have f10 : J2b (.p (.s r5.1)) none (some (.p (.i .i64 (Jhj ((List.length r5.1 : Nat) : Int) 12)))) = some (.p (.s m8)) := J2z (k := .i64) (lo := none) (hi := (some (Jhj ((List.length r5.1 : Nat) : Int) 12))) h9
  try simp only [Nf] at f10
  obtain rfl := sj h
  try simp only [↓Da, Ua, J2X, J4, J9, Jbp, *, ↓reduceIte, reduceEqDiff, reduceAdd, reduceLT, reduceMul]
  rfl
theorem JgR {b0 : T_pagemenddraw_Codes} {o : Ja × T_pagemenddraw_Codes} (h : J4b b0 = some o) : AF (J2 p) J4d [.ptr 0 0] [.box (List.map AV.p (J0 b0))] = Jbq o :=
 (J0c (J2 p) (Jgm p) rfl).trans (JdK p h)
def Jew  (r : (List UInt8)) : Option Res := some (.p (.s r), [])
def J2e (x0 : Int) : Option ((List UInt8)) :=
 Option.bind (mkS 1 x0 x0 0) fun m1 =>
 some (toStr m1)
theorem JgH {x0 : Int} {o : (List UInt8)} (h : J2e x0 = some o) :
  rk (J2 p) J6c 0 [] (X (J2 p) J7M ⟨[(0, .p (.i .i64 x0))], []⟩) = Jew o := by
 unfold J2e at h
 obtain ⟨m1, h2, h⟩ := bi h
 have f3 : (0 ≤ (x0 : Int) ∧ (x0 : Int) ≤ x0 ∧ ((1 : Nat) : Int) * x0 ≤ 281474976710656 ∧ (x0 : Int) ≤ 281474976710656) = True := eq_true (J9J h2).1
 have f4 : List.replicate (Int.toNat x0) ((r_i .u8) 0) = List.map (r_i .u8) m1 := by rw [(J9J h2).2, List.map_replicate]
 try simp only [Nf] at f4
 obtain rfl := sj h
 try simp only [↓Da, Ua, J7M, JlT, *, ↓reduceIte, reduceEqDiff, reduceAdd, reduceLT, reduceMul]
 rfl
theorem JlS {x0 : Int} {o : (List UInt8)} (h : J2e x0 = some o) : AF (J2 p) J3r [.p (.i .i64 x0)] [] = Jew o :=
 (J0c (J2 p) (Jlv p) rfl).trans (JgH p h)
theorem Jbe {x0 : Int} {o : (List UInt8)} (h : J2e x0 = some o) : ∀ ws new st, (Jl (AF (J2 p)) J3r ([.p (.i .i64 x0)], ws) 0 new).run st = some ⟨.p (.s o), ws⟩ := Ju rfl (JlS p h) rfl
def J7U  (r : Int) : Option Res := some (.p (.i .u32 r), [])
def J7G (x0 : List UInt8) (o : (Int × Int) ⊕ (Int)) : Option Res := match o with
 | .inl s => rk (J2 p) J0X 0 [.bl 0, .sq (.keep [3] J1o)] (X (J2 p) (.lp 0 [0, 3, 4] J15) ⟨[(0, .p (.s x0)), (3, .p (.i .u32 s.1)), (4, .p (.i .i64 s.2))], []⟩)
 | .inr o => J7U o
def JeS (x0 : List UInt8) (x4 : Int) (o : (Int × Int) ⊕ (((Int × Int) ⊕ (Int)))) : Option Res := match o with
 | .inl s => rk (J2 p) J0X 0 [.bl 2, .bl 1, .sq (.keep [0, 3, 4] J4n), .lo 0 [0, 3, 4] J15, .bl 0, .sq (.keep [3] J1o)] (X (J2 p) (.lp 0 [0, 3, 4, 5] J2d) ⟨[(0, .p (.s x0)), (3, .p (.i .u32 s.1)), (4, .p (.i .i64 x4)), (5, .p (.i .i64 s.2))], []⟩)
 | .inr o => (J7G p x0) o
def J7E (x0 : List UInt8) (x3 x4 x5 : Int) : Option (((Int × Int) ⊕ (((Int × Int) ⊕ (Int))))) :=
 some (.inl (x3, (IntKind.wrap .i64 (x5 + 1))))
theorem JeT {x0 : List UInt8} {x3 x4 x5 : Int} {o : ((Int × Int) ⊕ (((Int × Int) ⊕ (Int))))} (h : J7E x0 x3 x4 x5 = some o) :
  rk (J2 p) J0X 0 [.lo 0 [0, 3, 4, 5] J2d, .bl 2, .bl 1, .sq (.keep [0, 3, 4] J4n), .lo 0 [0, 3, 4] J15, .bl 0, .sq (.keep [3] J1o)] (X (J2 p) Jbl ⟨[(0, .p (.s x0)), (3, .p (.i .u32 x3)), (4, .p (.i .i64 x4)), (5, .p (.i .i64 x5))], []⟩) = (JeS p x0 x4) o := by
 unfold J7E at h
 obtain rfl := sj h
 try simp only [↓Da, Ua, Jbl, ↓reduceIte, reduceEqDiff, reduceAdd, reduceLT, reduceMul]
 rfl
def J9m (x0 : List UInt8) (x3 x4 : Int) : Option (((Int × Int) ⊕ (Int))) :=
 some (.inl (x3, (IntKind.wrap .i64 (x4 + 1))))
theorem Jl7 {x0 : List UInt8} {x3 x4 : Int} {o : ((Int × Int) ⊕ (Int))} (h : J9m x0 x3 x4 = some o) :
  rk (J2 p) J0X 0 [.lo 0 [0, 3, 4] J15, .bl 0, .sq (.keep [3] J1o)] (X (J2 p) J4n ⟨[(0, .p (.s x0)), (3, .p (.i .u32 x3)), (4, .p (.i .i64 x4))], []⟩) = (J7G p x0) o := by
 unfold J9m at h
 obtain rfl := sj h
 try simp only [↓Da, Ua, J4n, ↓reduceIte, reduceEqDiff, reduceAdd, reduceLT, reduceMul]
 rfl
def J5i (x0 : List UInt8) (x4 x3 x5 : Int) : Option (((Int × Int) ⊕ (((Int × Int) ⊕ (Int))))) :=
 if (decide (x5 < 8)) then
  if (((J4L .u32 x3 1) : Int) == 1) then
   Option.bind (J8b .u32 x3 1) fun q3 =>
   J7E x0 (J4E .u32 q3 2197175160) x4 x5
  else
   Option.bind (J8b .u32 x3 1) fun q5 =>
   J7E x0 q5 x4 x5
 else
  Option.map (fun o => .inr o) (J9m x0 x3 x4)
theorem Jeu {x0 : List UInt8} {x4 x3 x5 : Int} {o : ((Int × Int) ⊕ (((Int × Int) ⊕ (Int))))} (h : J5i x0 x4 x3 x5 = some o) :
  rk (J2 p) J0X 0 [.lo 0 [0, 3, 4, 5] J2d, .bl 2, .bl 1, .sq (.keep [0, 3, 4] J4n), .lo 0 [0, 3, 4] J15, .bl 0, .sq (.keep [3] J1o)] (X (J2 p) J2d ⟨[(0, .p (.s x0)), (3, .p (.i .u32 x3)), (4, .p (.i .i64 x4)), (5, .p (.i .i64 x5))], []⟩) = (JeS p x0 x4) o := by
 unfold J5i at h
 rcases J8 h with ⟨h1, h⟩ | ⟨h1, h⟩
 ·try simp only [↓Da, Ua, J2d, *, ↓reduceIte, reduceEqDiff, reduceAdd, reduceLT, reduceMul]
  rcases J8 h with ⟨h2, h⟩ | ⟨h2, h⟩
  ·have h2n : (((J4L .u32 x3 1) : Int) != 1) = false := by rw [bne, h2]; rfl
   obtain ⟨q3, h4, h⟩ := bi h
   try simp only [↓Da, Ua, J2d, *, ↓reduceIte, reduceEqDiff, reduceAdd, reduceLT, reduceMul]
   have e0 := JeT p h
   exact e0
  ·have h2n : (((J4L .u32 x3 1) : Int) != 1) = true := by rw [bne, h2]; rfl
   obtain ⟨q5, h6, h⟩ := bi h
   try simp only [↓Da, Ua, J2d, *, ↓reduceIte, reduceEqDiff, reduceAdd, reduceLT, reduceMul]
   have e0 := JeT p h
   exact e0
 ·obtain ⟨o', h', rfl⟩ := mi h
  try simp only [↓Da, Ua, J2d, *, ↓reduceIte, reduceEqDiff, reduceAdd, reduceLT, reduceMul]
  have e0 := Jl7 p h'
  exact e0
def JeO (x0 : List UInt8) (x4 : Int) (s : Int × Int) : Option (((Int × Int) ⊕ (Int))) :=
 Jv (fun s => J5i x0 x4 s.1 s.2) s
theorem Jj0 {x0 : List UInt8} {x4 : Int} {s : Int × Int} {o : ((Int × Int) ⊕ (Int))} (h : JeO x0 x4 s = some o) :
  rk (J2 p) J0X 0 [.bl 2, .bl 1, .sq (.keep [0, 3, 4] J4n), .lo 0 [0, 3, 4] J15, .bl 0, .sq (.keep [3] J1o)] (X (J2 p) (.lp 0 [0, 3, 4, 5] J2d) ⟨[(0, .p (.s x0)), (3, .p (.i .u32 s.1)), (4, .p (.i .i64 x4)), (5, .p (.i .i64 s.2))], []⟩) = (J7G p x0) o := by
 have h0 : Jv (fun s => J5i x0 x4 s.1 s.2) s = some o := h
 exact J0p (P := fun (s : Int × Int) (o : ((Int × Int) ⊕ (Int))) => rk (J2 p) J0X 0 [.bl 2, .bl 1, .sq (.keep [0, 3, 4] J4n), .lo 0 [0, 3, 4] J15, .bl 0, .sq (.keep [3] J1o)] (X (J2 p) (.lp 0 [0, 3, 4, 5] J2d) ⟨[(0, .p (.s x0)), (3, .p (.i .u32 s.1)), (4, .p (.i .i64 x4)), (5, .p (.i .i64 s.2))], []⟩) = (J7G p x0) o) (fun s r hs => by rw [J0n]; exact Jeu p hs) (fun s s1 r hs ih => by rw [J0n]; exact (Jeu p hs).trans ih) h0
def J9i (x3 : Int) : Option (Int) :=
 some (JpI .u32 x3)
theorem JlE {x3 o : Int} (h : J9i x3 = some o) :
  rk (J2 p) J0X 0 [] (X (J2 p) J1o ⟨[(3, .p (.i .u32 x3))], []⟩) = J7U o := by
 unfold J9i at h
 obtain rfl := sj h
 try simp only [↓Da, Ua, J1o, Joh, ↓reduceIte, reduceEqDiff, reduceAdd, reduceLT, reduceMul]
 rfl
def J59 (x0 : List UInt8) (x3 x4 : Int) : Option (((Int × Int) ⊕ (Int))) :=
 if (decide (x4 < ((List.length x0 : Nat) : Int))) then
  Option.bind (JbO x0 x4) fun c2 =>
  JeO x0 x4 ((J4E .u32 x3 (IntKind.wrap .u32 c2)), 0)
 else
  Option.map (fun o => .inr o) (J9i x3)
theorem JeF {x0 : List UInt8} {x3 x4 : Int} {o : ((Int × Int) ⊕ (Int))} (h : J59 x0 x3 x4 = some o) :
  rk (J2 p) J0X 0 [.lo 0 [0, 3, 4] J15, .bl 0, .sq (.keep [3] J1o)] (X (J2 p) J15 ⟨[(0, .p (.s x0)), (3, .p (.i .u32 x3)), (4, .p (.i .i64 x4))], []⟩) = (J7G p x0) o := by
 unfold J59 at h
 rcases J8 h with ⟨h1, h⟩ | ⟨h1, h⟩
 ·obtain ⟨c2, h3, h⟩ := bi h
  try simp only [↓Da, Ua, J15, *, ↓reduceIte, reduceEqDiff, reduceAdd, reduceLT, reduceMul]
  have e0 := Jj0 p h
  exact e0
 ·obtain ⟨o', h', rfl⟩ := mi h
  try simp only [↓Da, Ua, J15, *, ↓reduceIte, reduceEqDiff, reduceAdd, reduceLT, reduceMul]
  have e0 := JlE p h'
  exact e0
def JeJ (x0 : List UInt8) (s : Int × Int) : Option (Int) :=
 Jv (fun s => J59 x0 s.1 s.2) s
theorem JiC {x0 : List UInt8} {s : Int × Int} {o : Int} (h : JeJ x0 s = some o) :
  rk (J2 p) J0X 0 [.bl 0, .sq (.keep [3] J1o)] (X (J2 p) (.lp 0 [0, 3, 4] J15) ⟨[(0, .p (.s x0)), (3, .p (.i .u32 s.1)), (4, .p (.i .i64 s.2))], []⟩) = J7U o := by
 have h0 : Jv (fun s => J59 x0 s.1 s.2) s = some o := h
 exact J0p (P := fun (s : Int × Int) (o : Int) => rk (J2 p) J0X 0 [.bl 0, .sq (.keep [3] J1o)] (X (J2 p) (.lp 0 [0, 3, 4] J15) ⟨[(0, .p (.s x0)), (3, .p (.i .u32 s.1)), (4, .p (.i .i64 s.2))], []⟩) = J7U o) (fun s r hs => by rw [J0n]; exact JeF p hs) (fun s s1 r hs ih => by rw [J0n]; exact (JeF p hs).trans ih) h0
def J5B (x0 : List UInt8) : Option (Int) :=
 JeJ x0 (4294967295, 0)
theorem Jje {x0 : List UInt8} {o : Int} (h : J5B x0 = some o) :
  rk (J2 p) J0X 0 [] (X (J2 p) J8Z ⟨[(0, .p (.s x0))], []⟩) = J7U o := by
 unfold J5B at h
 try simp only [↓Da, Ua, J8Z, ↓reduceIte, reduceEqDiff, reduceAdd, reduceLT, reduceMul]
 have e0 := JiC p h
 exact e0
theorem JnR {x0 : List UInt8} {o : Int} (h : J5B x0 = some o) : AF (J2 p) J5A [.p (.s x0)] [] = J7U o :=
 (J0c (J2 p) (Joe p) rfl).trans (Jje p h)
theorem Jhd {x0 : List UInt8} {o : Int} (h : J5B x0 = some o) : ∀ ws new st, (Jl (AF (J2 p)) J5A ([.p (.s x0)], ws) 0 new).run st = some ⟨.p (.i .u32 o), ws⟩ := Ju rfl (JnR p h) rfl
def J7h  (r : Bool) : Option Res := some (.p (.b r), [])
def JjT (x6 : Vector Ja 16) (b0 : T_api_Page) (o : (Int) ⊕ (Bool)) : Option Res := match o with
 | .inl s => rk (J2 p) J2F 0 [.bl 0, .td 1 [2], .sq (.keep [] J4K)] (X (J2 p) (.lp 1 [1, 6, 7] J0j) ⟨[(1, .ptr 0 0), (6, .data ((JU Jf) x6)), (7, .p (.i .i64 s))], [.box (List.map AV.p (J3 b0))]⟩)
 | .inr o => J7h o
def J75  : Option (Bool) :=
 some true
theorem Jk6 {B0 : List PV} {o : Bool} (h : J75 = some o) :
  rk (J2 p) J2F 0 [] (X (J2 p) J4K ⟨[], [.box (List.map AV.p B0)]⟩) = J7h o := by
 unfold J75 at h
 obtain rfl := sj h
 try simp only [↓Da, Ua, J4K, J9V, ↓reduceIte, reduceEqDiff, reduceAdd, reduceLT, reduceMul]
 rfl
def J02 (x6 : Vector Ja 16) (b0 : T_api_Page) (x7 : Int) : Option (((Int) ⊕ (Bool))) :=
 if (decide (x7 < 16)) then
  Option.bind (J85 x6 x7) fun y2 =>
  if (decide (((List.length y2.Data : Nat) : Int) > 12)) then
   some (.inr false)
  else
   if y2.Set then
    if ((b0.LSN : Int) == 0) then
     some (.inr false)
    else
     some (.inl (IntKind.wrap .i64 (x7 + 1)))
   else
    if (y2.Data == []) then
     some (.inl (IntKind.wrap .i64 (x7 + 1)))
    else
     some (.inr false)
 else
  Option.map (fun o => .inr o) (J75)
theorem JdD {x6 : Vector Ja 16} {b0 : T_api_Page} {x7 : Int} {o : ((Int) ⊕ (Bool))} (h : J02 x6 b0 x7 = some o) :
  rk (J2 p) J2F 0 [.lo 1 [1, 6, 7] J0j, .bl 0, .td 1 [2], .sq (.keep [] J4K)] (X (J2 p) J0j ⟨[(1, .ptr 0 0), (6, .data ((JU Jf) x6)), (7, .p (.i .i64 x7))], [.box (List.map AV.p (J3 b0))]⟩) = (JjT p x6 b0) o := by
 unfold J02 at h
 rcases J8 h with ⟨h1, h⟩ | ⟨h1, h⟩
 ·obtain ⟨y2, h3, h⟩ := bi h
  have f4 : (0 ≤ (x7 : Int) ∧ (x7 : Int) < ((16 : Nat) : Int)) = True := eq_true (J4H h3).1
  have f5 : sub (JU Jf x6) (Int.toNat x7 * 2) 2 = some (Jf y2) := J91 JP (J4H h3).2
  try simp only [Nf] at f5
  try simp only [↓Da, Ua, J0j, J4, J1, J6, *, ↓reduceIte, reduceEqDiff, reduceAdd, reduceLT, reduceMul]
  rcases J8 h with ⟨h6, h⟩ | ⟨h6, h⟩
  ·obtain rfl := sj h
   try simp only [↓Da, Ua, J0j, J4, J1, J6, J9V, *, ↓reduceIte, reduceEqDiff, reduceAdd, reduceLT, reduceMul]
   rfl
  ·try simp only [↓Da, Ua, J0j, J4, J1, J6, *, ↓reduceIte, reduceEqDiff, reduceAdd, reduceLT, reduceMul]
   rcases J8 h with ⟨h7, h⟩ | ⟨h7, h⟩
   ·try simp only [↓Da, Ua, J0j, J4, J1, J6, *, ↓reduceIte, reduceEqDiff, reduceAdd, reduceLT, reduceMul]
    rcases J8 h with ⟨h8, h⟩ | ⟨h8, h⟩
    ·have h8n : ((b0.LSN : Int) != 0) = false := by rw [bne, h8]; rfl
     obtain rfl := sj h
     try simp only [↓Da, Ua, J0j, J4, J1, J6, J9V, *, ↓reduceIte, reduceEqDiff, reduceAdd, reduceLT, reduceMul]
     rfl
    ·have h8n : ((b0.LSN : Int) != 0) = true := by rw [bne, h8]; rfl
     obtain rfl := sj h
     try simp only [↓Da, Ua, J0j, J4, J1, J6, *, ↓reduceIte, reduceEqDiff, reduceAdd, reduceLT, reduceMul]
     rfl
   ·try simp only [↓Da, Ua, J0j, J4, J1, J6, *, ↓reduceIte, reduceEqDiff, reduceAdd, reduceLT, reduceMul]
    rcases J8 h with ⟨h9, h⟩ | ⟨h9, h⟩
    ·obtain rfl := sj h
     try simp only [↓Da, Ua, J0j, J4, J1, J6, *, ↓reduceIte, reduceEqDiff, reduceAdd, reduceLT, reduceMul]
     rfl
    ·obtain rfl := sj h
     try simp only [↓Da, Ua, J0j, J4, J1, J6, J9V, *, ↓reduceIte, reduceEqDiff, reduceAdd, reduceLT, reduceMul]
     rfl
 ·obtain ⟨o', h', rfl⟩ := mi h
  try simp only [↓Da, Ua, J0j, J4, J1, J6, *, ↓reduceIte, reduceEqDiff, reduceAdd, reduceLT, reduceMul]
  have e0 := Jk6 p (B0 := (J3 b0)) h'
  first | exact e0 | (simp only [*] at e0; exact e0)
def Jdk (x6 : Vector Ja 16) (b0 : T_api_Page) (s : Int) : Option (Bool) :=
 Jv (fun s => J02 x6 b0 s) s
theorem JhF {x6 : Vector Ja 16} {b0 : T_api_Page} {s : Int} {o : Bool} (h : Jdk x6 b0 s = some o) :
  rk (J2 p) J2F 0 [.bl 0, .td 1 [2], .sq (.keep [] J4K)] (X (J2 p) (.lp 1 [1, 6, 7] J0j) ⟨[(1, .ptr 0 0), (6, .data ((JU Jf) x6)), (7, .p (.i .i64 s))], [.box (List.map AV.p (J3 b0))]⟩) = J7h o := by
 have h0 : Jv (fun s => J02 x6 b0 s) s = some o := h
 exact J0p (P := fun (s : Int) (o : Bool) => rk (J2 p) J2F 0 [.bl 0, .td 1 [2], .sq (.keep [] J4K)] (X (J2 p) (.lp 1 [1, 6, 7] J0j) ⟨[(1, .ptr 0 0), (6, .data ((JU Jf) x6)), (7, .p (.i .i64 s))], [.box (List.map AV.p (J3 b0))]⟩) = J7h o) (fun s r hs => by rw [J0n]; exact JdD p hs) (fun s s1 r hs ih => by rw [J0n]; exact (JdD p hs).trans ih) h0
def J50 (x0 : T_api_Page) : Option (Bool) :=
 Jdk x0.Cells x0 0
theorem Jhl {x0 : T_api_Page} {o : Bool} (h : J50 x0 = some o) :
  rk (J2 p) J2F 0 [] (X (J2 p) J8y ⟨[(0, .data (J3 x0))], []⟩) = J7h o := by
 unfold J50 at h
 try simp only [↓Da, Ua, J8y, J4, J1, J6, ↓reduceIte, reduceEqDiff, reduceAdd, reduceLT, reduceMul]
 have e0 := JhF p h
 first | exact e0 | (simp only [*] at e0; exact e0)
theorem Jnf {x0 : T_api_Page} {o : Bool} (h : J50 x0 = some o) : AF (J2 p) J79 [.data (J3 x0)] [] = J7h o :=
 (J0c (J2 p) (Jn6 p) rfl).trans (Jhl p h)
theorem Jm9 {x0 : T_api_Page} {o : Bool} (h : J50 x0 = some o) : ∀ ws new st, (Jl (AF (J2 p)) J79 ([.data (J3 x0)], ws) 0 new).run st = some ⟨.p (.b o), ws⟩ := Ju rfl (Jnf p h) rfl
end
end Go.Am
end
section
namespace Go.Am
set_option maxRecDepth 8000
set_option maxHeartbeats 4000000
set_option linter.unusedSimpArgs false
set_option linter.unusedVariables false
noncomputable section
variable (p : FuncId → Option (List AV → List Blk → Option Res))
def JbT (r : List UInt8) : Option Res := some (.p (.s r), [])
def J3u (x0 : List UInt8) (x1 : Int) : Option (List UInt8) := Jka x0 x1
theorem JhW {x0 : List UInt8} {x1 : Int} {o : List UInt8} (h : J3u x0 x1 = some o) : AF (J2 p) J24 [.p (.s x0), .p (.i .i64 x1)] [] = JbT o := by
 rw [Jkh (JhL p)]
 have h' : Jka x0 x1 = some o := h
 simp only [JmC, h', Option.map_some, JbT]
theorem J9v {x0 : List UInt8} {x1 : Int} {o : List UInt8} (h : J3u x0 x1 = some o) : ∀ ws new st, (Jl (AF (J2 p)) J24 ([.p (.s x0), .p (.i .i64 x1)], ws) 0 new).run st = some ⟨.p (.s o), ws⟩ := Ju rfl (JhW p h) rfl
def J0y  (r : Bool) : Option Res := some (.p (.b r), [])
def J8V (x0 x1 : List T_api_Copy) (x12 : Int) (o : (Int) ⊕ (Bool)) : Option Res := match o with
 | .inl s => rk (J2 p) JC 0 [.bl 0, .sq (.keep [] J01)] (X (J2 p) (.lp 0 [0, 1, 12, 13] JG) ⟨[(0, .p (.sl 3 (List.map J5 x0))), (1, .p (.sl 3 (List.map J5 x1))), (12, .p (.i .i64 x12)), (13, .p (.i .i64 s))], []⟩)
 | .inr o => J0y o
def J2W  : Option (Bool) :=
 some true
theorem J8X  {o : Bool} (h : J2W = some o) :
  rk (J2 p) JC 0 [] (X (J2 p) J01 ⟨[], []⟩) = J0y o := by
 unfold J2W at h
 obtain rfl := sj h
 try simp only [↓Da, Ua, J01, J3y, ↓reduceIte, reduceEqDiff, reduceAdd, reduceLT, reduceMul]
 rfl
def J0h (x0 x1 : List T_api_Copy) (x12 x13 : Int) : Option (((Int) ⊕ (Bool))) :=
 if (decide (x13 < x12)) then
  Option.bind (idx x0 x13) fun y2 =>
  Option.bind (idx x1 x13) fun y5 =>
  if (y2 == y5) then
   some (.inl (IntKind.wrap .i64 (x13 + 1)))
  else
   some (.inr false)
 else
  Option.map (fun o => .inr o) (J2W)
theorem J5q {x0 x1 : List T_api_Copy} {x12 x13 : Int} {o : ((Int) ⊕ (Bool))} (h : J0h x0 x1 x12 x13 = some o) :
  rk (J2 p) JC 0 [.lo 0 [0, 1, 12, 13] JG, .bl 0, .sq (.keep [] J01)] (X (J2 p) JG ⟨[(0, .p (.sl 3 (List.map J5 x0))), (1, .p (.sl 3 (List.map J5 x1))), (12, .p (.i .i64 x12)), (13, .p (.i .i64 x13))], []⟩) = (J8V p x0 x1 x12) o := by
 unfold J0h at h
 rcases J8 h with ⟨h1, h⟩ | ⟨h1, h⟩
 ·obtain ⟨y2, h3, h⟩ := bi h
  have f4 := J6M (r := J5) h3
  try simp only [Nf] at f4
  obtain ⟨y5, h6, h⟩ := bi h
  have f7 := J6M (r := J5) h6
  try simp only [Nf] at f7
  try simp only [↓Da, Ua, JG, Je, Jcg, *, ↓reduceIte, reduceEqDiff, reduceAdd, reduceLT, reduceMul]
  rcases J8 h with ⟨h9, h⟩ | ⟨h9, h⟩
  ·obtain rfl := sj h
   try simp only [↓Da, Ua, JG, Je, Jcg, *, ↓reduceIte, reduceEqDiff, reduceAdd, reduceLT, reduceMul]
   rfl
  ·obtain rfl := sj h
   try simp only [↓Da, Ua, JG, Je, Jcg, J3y, *, ↓reduceIte, reduceEqDiff, reduceAdd, reduceLT, reduceMul]
   rfl
 ·obtain ⟨o', h', rfl⟩ := mi h
  try simp only [↓Da, Ua, JG, Je, *, ↓reduceIte, reduceEqDiff, reduceAdd, reduceLT, reduceMul]
  have e0 := J8X p h'
  exact e0
def J30 (x0 x1 : List T_api_Copy) (x12 s : Int) : Option (Bool) :=
 Jv (fun s => J0h x0 x1 x12 s) s
theorem J8w {x0 x1 : List T_api_Copy} {x12 s : Int} {o : Bool} (h : J30 x0 x1 x12 s = some o) :
  rk (J2 p) JC 0 [.bl 0, .sq (.keep [] J01)] (X (J2 p) (.lp 0 [0, 1, 12, 13] JG) ⟨[(0, .p (.sl 3 (List.map J5 x0))), (1, .p (.sl 3 (List.map J5 x1))), (12, .p (.i .i64 x12)), (13, .p (.i .i64 s))], []⟩) = J0y o := by
 have h0 : Jv (fun s => J0h x0 x1 x12 s) s = some o := h
 exact J0p (P := fun (s : Int) (o : Bool) => rk (J2 p) JC 0 [.bl 0, .sq (.keep [] J01)] (X (J2 p) (.lp 0 [0, 1, 12, 13] JG) ⟨[(0, .p (.sl 3 (List.map J5 x0))), (1, .p (.sl 3 (List.map J5 x1))), (12, .p (.i .i64 x12)), (13, .p (.i .i64 s))], []⟩) = J0y o) (fun s r hs => by rw [J0n]; exact J5q p hs) (fun s s1 r hs ih => by rw [J0n]; exact (J5q p hs).trans ih) h0
def J0B (x0 x1 : List T_api_Copy) : Option (Bool) :=
 if ((((List.length x0 : Nat) : Int) : Int) != ((List.length x1 : Nat) : Int)) then
  some false
 else
  J30 x0 x1 ((List.length x0 : Nat) : Int) 0
theorem J8i {x0 x1 : List T_api_Copy} {o : Bool} (h : J0B x0 x1 = some o) :
  rk (J2 p) JC 0 [] (X (J2 p) J0D ⟨[(0, .p (.sl 3 (List.map J5 x0))), (1, .p (.sl 3 (List.map J5 x1)))], []⟩) = J0y o := by
 unfold J0B at h
 rcases J8 h with ⟨h1, h⟩ | ⟨h1, h⟩
 ·obtain rfl := sj h
  try simp only [↓Da, Ua, J0D, Je, J3y, *, ↓reduceIte, reduceEqDiff, reduceAdd, reduceLT, reduceMul]
  rfl
 ·try simp only [↓Da, Ua, J0D, Je, *, ↓reduceIte, reduceEqDiff, reduceAdd, reduceLT, reduceMul]
  have e0 := J8w p h
  exact e0
theorem J9p {x0 x1 : List T_api_Copy} {o : Bool} (h : J0B x0 x1 = some o) : AF (J2 p) J0w [.p (.sl 3 (List.map J5 x0)), .p (.sl 3 (List.map J5 x1))] [] = J0y o :=
 (J0c (J2 p) (J9E p) rfl).trans (J8i p h)
theorem J9z {x0 x1 : List T_api_Copy} {o : Bool} (h : J0B x0 x1 = some o) : ∀ ws new st, (Jl (AF (J2 p)) J0w ([.p (.sl 3 (List.map J5 x0)), .p (.sl 3 (List.map J5 x1))], ws) 0 new).run st = some ⟨.p (.b o), ws⟩ := Ju rfl (J9p p h) rfl
def J3x (x0 : List T_api_Copy) : Option (List T_api_Copy) := if (2 * x0.length + 512) * 32 ≤ 281474976710656 then some x0 else none
def J3d (x0 : List T_api_Copy) (x1 : Int) (x2 : List T_api_Copy) : Option (List T_api_Copy) := match x2 with
 | [v] => JpL 32 x0 x1 v
 | _ => none
def Jcx  (r : Bool) : Option Res := some (.p (.b r), [])
def J3W (x0 : T_api_Page) : Option (Bool) :=
 if (decide (x0.ID ≥ 0)) then
  if (decide (x0.ID < 64)) then
   if (decide (x0.LSN ≥ 0)) then
    some (decide (x0.LSN ≤ 1099511627776))
   else
    some false
  else
   some false
 else
  some false
theorem Jf7 {x0 : T_api_Page} {o : Bool} (h : J3W x0 = some o) :
  rk (J2 p) J53 0 [] (X (J2 p) J1S ⟨[(0, .data (J3 x0))], []⟩) = Jcx o := by
 unfold J3W at h
 rcases J8 h with ⟨h1, h⟩ | ⟨h1, h⟩
 ·try simp only [↓Da, Ua, J1S, J4, J1, J6, *, ↓reduceIte, reduceEqDiff, reduceAdd, reduceLT, reduceMul]
  rcases J8 h with ⟨h2, h⟩ | ⟨h2, h⟩
  ·try simp only [↓Da, Ua, J1S, J4, J1, J6, *, ↓reduceIte, reduceEqDiff, reduceAdd, reduceLT, reduceMul]
   rcases J8 h with ⟨h3, h⟩ | ⟨h3, h⟩
   ·obtain rfl := sj h
    try simp only [↓Da, Ua, J1S, J4, J1, J6, J8g, *, ↓reduceIte, reduceEqDiff, reduceAdd, reduceLT, reduceMul]
    rfl
   ·obtain rfl := sj h
    try simp only [↓Da, Ua, J1S, J4, J1, J6, J8g, *, ↓reduceIte, reduceEqDiff, reduceAdd, reduceLT, reduceMul]
    rfl
  ·obtain rfl := sj h
   try simp only [↓Da, Ua, J1S, J4, J1, J6, J8g, *, ↓reduceIte, reduceEqDiff, reduceAdd, reduceLT, reduceMul]
   rfl
 ·obtain rfl := sj h
  try simp only [↓Da, Ua, J1S, J4, J1, J6, J8g, *, ↓reduceIte, reduceEqDiff, reduceAdd, reduceLT, reduceMul]
  rfl
theorem JiF {x0 : T_api_Page} {o : Bool} (h : J3W x0 = some o) : AF (J2 p) J57 [.data (J3 x0)] [] = Jcx o :=
 (J0c (J2 p) (JiT p) rfl).trans (Jf7 p h)
theorem Jjl {x0 : T_api_Page} {o : Bool} (h : J3W x0 = some o) : ∀ ws new st, (Jl (AF (J2 p)) J57 ([.data (J3 x0)], ws) 0 new).run st = some ⟨.p (.b o), ws⟩ := Ju rfl (JiF p h) rfl
def J5P  (r : Bool) : Option Res := some (.p (.b r), [])
def J0x (x0 x1 : List UInt8) : Option (Bool) :=
 if (decide (((List.length x0 : Nat) : Int) ≥ ((List.length x1 : Nat) : Int))) then
  Option.bind (J1i x0 none (some ((List.length x1 : Nat) : Int))) fun m2 =>
  some (m2 == x1)
 else
  some false
theorem J8q {x0 x1 : List UInt8} {o : Bool} (h : J0x x0 x1 = some o) :
  rk (J2 p) J0u 0 [] (X (J2 p) J0C ⟨[(0, .p (.s x0)), (1, .p (.s x1))], []⟩) = J5P o := by
 unfold J0x at h
 rcases J8 h with ⟨h1, h⟩ | ⟨h1, h⟩
 ·obtain ⟨m2, h3, h⟩ := bi h
  have f4 : J2b (.p (.s x0)) none (some (.p (.i .i64 ((List.length x1 : Nat) : Int)))) = some (.p (.s m2)) := J2z (k := .i64) (lo := none) (hi := (some ((List.length x1 : Nat) : Int))) h3
  try simp only [Nf] at f4
  obtain rfl := sj h
  try simp only [↓Da, Ua, J0C, J60, *, ↓reduceIte, reduceEqDiff, reduceAdd, reduceLT, reduceMul]
  rfl
 ·obtain rfl := sj h
  try simp only [↓Da, Ua, J0C, J60, *, ↓reduceIte, reduceEqDiff, reduceAdd, reduceLT, reduceMul]
  rfl
theorem J9s {x0 x1 : List UInt8} {o : Bool} (h : J0x x0 x1 = some o) : AF (J2 p) J0A [.p (.s x0), .p (.s x1)] [] = J5P o :=
 (J0c (J2 p) (J9t p) rfl).trans (J8q p h)
theorem J9D {x0 x1 : List UInt8} {o : Bool} (h : J0x x0 x1 = some o) : ∀ ws new st, (Jl (AF (J2 p)) J0A ([.p (.s x0), .p (.s x1)], ws) 0 new).run st = some ⟨.p (.b o), ws⟩ := Ju rfl (J9s p h) rfl
def J7W  (r : Int × Int) : Option Res := some (.tup [.p (.i .i64 r.1), .p (.i .i64 r.2)], [])
def Jlr (x0 : List UInt8) (x1 x2 : Int) (o : (Int × Int) ⊕ (Int × Int)) : Option Res := match o with
 | .inl s => rk (J2 p) J3i 0 [.bl 0, .sq (.keep [8] J5a)] (X (J2 p) (.lp 0 [0, 1, 2, 8, 9] J4j) ⟨[(0, .p (.s x0)), (1, .p (.i .i64 x1)), (2, .p (.i .i64 x2)), (8, .p (.i .u64 s.1)), (9, .p (.i .i64 s.2))], []⟩)
 | .inr o => J7W o
def J9g (x8 : Int) : Option (Int × Int) :=
 some ((IntKind.wrap .i64 x8), 0)
theorem Jlp {x8 : Int} {o : Int × Int} (h : J9g x8 = some o) :
  rk (J2 p) J3i 0 [] (X (J2 p) J5a ⟨[(8, .p (.i .u64 x8))], []⟩) = J7W o := by
 unfold J9g at h
 obtain rfl := sj h
 try simp only [↓Da, Ua, J5a, J82, ↓reduceIte, reduceEqDiff, reduceAdd, reduceLT, reduceMul]
 rfl
def J6q (x0 : List UInt8) (x1 x2 : Int) (x8 x9 : Int) : Option (((Int × Int) ⊕ (Int × Int))) :=
 if (decide (x9 < x2)) then
  Option.bind (JbO x0 (IntKind.wrap .i64 (x1 + x9))) fun c2 =>
  Option.bind (Jd3 .u64 (IntKind.wrap .u64 c2) (IntKind.wrap .u64 (IntKind.wrap .i64 (8 * x9)))) fun q4 =>
  some (.inl ((orI .u64 x8 q4), (IntKind.wrap .i64 (x9 + 1))))
 else
  Option.map (fun o => .inr o) (J9g x8)
theorem JeK {x0 : List UInt8} {x1 x2 : Int} {x8 x9 : Int} {o : ((Int × Int) ⊕ (Int × Int))} (h : J6q x0 x1 x2 x8 x9 = some o) :
  rk (J2 p) J3i 0 [.lo 0 [0, 1, 2, 8, 9] J4j, .bl 0, .sq (.keep [8] J5a)] (X (J2 p) J4j ⟨[(0, .p (.s x0)), (1, .p (.i .i64 x1)), (2, .p (.i .i64 x2)), (8, .p (.i .u64 x8)), (9, .p (.i .i64 x9))], []⟩) = (Jlr p x0 x1 x2) o := by
 unfold J6q at h
 rcases J8 h with ⟨h1, h⟩ | ⟨h1, h⟩
 ·obtain ⟨c2, h3, h⟩ := bi h
  obtain ⟨q4, h5, h⟩ := bi h
  obtain rfl := sj h
  try simp only [↓Da, Ua, J4j, *, ↓reduceIte, reduceEqDiff, reduceAdd, reduceLT, reduceMul]
  rfl
 ·obtain ⟨o', h', rfl⟩ := mi h
  try simp only [↓Da, Ua, J4j, *, ↓reduceIte, reduceEqDiff, reduceAdd, reduceLT, reduceMul]
  have e0 := Jlp p h'
  exact e0
def Jbj (x0 : List UInt8) (x1 x2 : Int) (s : Int × Int) : Option (Int × Int) :=
 Jv (fun s => J6q x0 x1 x2 s.1 s.2) s
theorem Jjx {x0 : List UInt8} {x1 x2 : Int} {s o : Int × Int} (h : Jbj x0 x1 x2 s = some o) :
  rk (J2 p) J3i 0 [.bl 0, .sq (.keep [8] J5a)] (X (J2 p) (.lp 0 [0, 1, 2, 8, 9] J4j) ⟨[(0, .p (.s x0)), (1, .p (.i .i64 x1)), (2, .p (.i .i64 x2)), (8, .p (.i .u64 s.1)), (9, .p (.i .i64 s.2))], []⟩) = J7W o := by
 have h0 : Jv (fun s => J6q x0 x1 x2 s.1 s.2) s = some o := h
 exact J0p (P := fun (s : Int × Int) (o : Int × Int) => rk (J2 p) J3i 0 [.bl 0, .sq (.keep [8] J5a)] (X (J2 p) (.lp 0 [0, 1, 2, 8, 9] J4j) ⟨[(0, .p (.s x0)), (1, .p (.i .i64 x1)), (2, .p (.i .i64 x2)), (8, .p (.i .u64 s.1)), (9, .p (.i .i64 s.2))], []⟩) = J7W o) (fun s r hs => by rw [J0n]; exact JeK p hs) (fun s s1 r hs ih => by rw [J0n]; exact (JeK p hs).trans ih) h0
def J1n (x0 : List UInt8) (x1 x2 : Int) : Option (Int × Int) :=
 if (decide (x2 < 1)) then
  some (0, 1)
 else
  if (decide (x2 > 8)) then
   some (0, 1)
  else
   if (decide (x1 < 0)) then
    some (0, 1)
   else
    if (decide (x1 > ((List.length x0 : Nat) : Int))) then
     some (0, 5)
    else
     if (decide ((IntKind.wrap .i64 (((List.length x0 : Nat) : Int) - x1)) < x2)) then
      some (0, 5)
     else
      Jbj x0 x1 x2 (0, 0)
theorem Jip {x0 : List UInt8} {x1 x2 : Int} {o : Int × Int} (h : J1n x0 x1 x2 = some o) :
  rk (J2 p) J3i 0 [] (X (J2 p) J1U ⟨[(0, .p (.s x0)), (1, .p (.i .i64 x1)), (2, .p (.i .i64 x2))], []⟩) = J7W o := by
 unfold J1n at h
 rcases J8 h with ⟨h1, h⟩ | ⟨h1, h⟩
 ·obtain rfl := sj h
  try simp only [↓Da, Ua, J1U, J82, *, ↓reduceIte, reduceEqDiff, reduceAdd, reduceLT, reduceMul]
  rfl
 ·try simp only [↓Da, Ua, J1U, *, ↓reduceIte, reduceEqDiff, reduceAdd, reduceLT, reduceMul]
  rcases J8 h with ⟨h2, h⟩ | ⟨h2, h⟩
  ·obtain rfl := sj h
   try simp only [↓Da, Ua, J1U, J82, *, ↓reduceIte, reduceEqDiff, reduceAdd, reduceLT, reduceMul]
   rfl
  ·try simp only [↓Da, Ua, J1U, *, ↓reduceIte, reduceEqDiff, reduceAdd, reduceLT, reduceMul]
   rcases J8 h with ⟨h3, h⟩ | ⟨h3, h⟩
   ·obtain rfl := sj h
    try simp only [↓Da, Ua, J1U, J82, *, ↓reduceIte, reduceEqDiff, reduceAdd, reduceLT, reduceMul]
    rfl
   ·try simp only [↓Da, Ua, J1U, *, ↓reduceIte, reduceEqDiff, reduceAdd, reduceLT, reduceMul]
    rcases J8 h with ⟨h4, h⟩ | ⟨h4, h⟩
    ·obtain rfl := sj h
     try simp only [↓Da, Ua, J1U, J82, *, ↓reduceIte, reduceEqDiff, reduceAdd, reduceLT, reduceMul]
     rfl
    ·try simp only [↓Da, Ua, J1U, *, ↓reduceIte, reduceEqDiff, reduceAdd, reduceLT, reduceMul]
     rcases J8 h with ⟨h5, h⟩ | ⟨h5, h⟩
     ·obtain rfl := sj h
      try simp only [↓Da, Ua, J1U, J82, *, ↓reduceIte, reduceEqDiff, reduceAdd, reduceLT, reduceMul]
      rfl
     ·try simp only [↓Da, Ua, J1U, *, ↓reduceIte, reduceEqDiff, reduceAdd, reduceLT, reduceMul]
      have e0 := Jjx p h
      exact e0
theorem JnC {x0 : List UInt8} {x1 x2 : Int} {o : Int × Int} (h : J1n x0 x1 x2 = some o) : AF (J2 p) J3h [.p (.s x0), .p (.i .i64 x1), .p (.i .i64 x2)] [] = J7W o :=
 (J0c (J2 p) (JnF p) rfl).trans (Jip p h)
theorem Jd6 {x0 : List UInt8} {x1 x2 : Int} {o : Int × Int} (h : J1n x0 x1 x2 = some o) : ∀ ws new st, (Jl (AF (J2 p)) J3h ([.p (.s x0), .p (.i .i64 x1), .p (.i .i64 x2)], ws) 0 new).run st = some ⟨.tup [.p (.i .i64 o.1), .p (.i .i64 o.2)], ws⟩ := Ju rfl (JnC p h) rfl
def JgU  (r : T_api_Page) : Option Res := some (.data (J3 r), [])
def J7X (x0 : Int) : Option (T_api_Page) :=
 some (⟨x0, 0, (Vector.replicate 16 (⟨false, []⟩ : Ja))⟩ : T_api_Page)
theorem Jis {x0 : Int} {o : T_api_Page} (h : J7X x0 = some o) :
  rk (J2 p) J7S 0 [] (X (J2 p) J97 ⟨[(0, .p (.i .i64 x0))], []⟩) = JgU o := by
 unfold J7X at h
 obtain rfl := sj h
 try simp only [↓Da, Ua, J97, J4, J1, J6, JnH, ↓reduceIte, reduceEqDiff, reduceAdd, reduceLT, reduceMul]
 rfl
theorem JnW {x0 : Int} {o : T_api_Page} (h : J7X x0 = some o) : AF (J2 p) J7Z [.p (.i .i64 x0)] [] = JgU o :=
 (J0c (J2 p) (JnT p) rfl).trans (Jis p h)
theorem Job {x0 : Int} {o : T_api_Page} (h : J7X x0 = some o) : ∀ ws new st, (Jl (AF (J2 p)) J7Z ([.p (.i .i64 x0)], ws) 0 new).run st = some ⟨.data (J3 o), ws⟩ := Ju rfl (JnW p h) rfl
def JfS  (r : Bool) : Option Res := some (.p (.b r), [])
def J1y (x0 : Int) : Option (Bool) :=
 if (decide (x0 ≥ 0)) then
  some (decide (x0 < 64))
 else
  some false
theorem Jho {x0 : Int} {o : Bool} (h : J1y x0 = some o) :
  rk (J2 p) J7d 0 [] (X (J2 p) J76 ⟨[(0, .p (.i .i64 x0))], []⟩) = JfS o := by
 unfold J1y at h
 rcases J8 h with ⟨h1, h⟩ | ⟨h1, h⟩
 ·obtain rfl := sj h
  try simp only [↓Da, Ua, J76, JfF, *, ↓reduceIte, reduceEqDiff, reduceAdd, reduceLT, reduceMul]
  rfl
 ·obtain rfl := sj h
  try simp only [↓Da, Ua, J76, JfF, *, ↓reduceIte, reduceEqDiff, reduceAdd, reduceLT, reduceMul]
  rfl
theorem Jmm {x0 : Int} {o : Bool} (h : J1y x0 = some o) : AF (J2 p) J5R [.p (.i .i64 x0)] [] = JfS o :=
 (J0c (J2 p) (Jnd p) rfl).trans (Jho p h)
theorem Jfk {x0 : Int} {o : Bool} (h : J1y x0 = some o) : ∀ ws new st, (Jl (AF (J2 p)) J5R ([.p (.i .i64 x0)], ws) 0 new).run st = some ⟨.p (.b o), ws⟩ := Ju rfl (Jmm p h) rfl
def Jjn  (r : T_api_Page) : Option Res := some (.data (J3 r), [])
def J8R (x0 : Int) : Option (T_api_Page) :=
 some (⟨x0, 0, (Vector.replicate 16 (⟨false, []⟩ : Ja))⟩ : T_api_Page)
theorem JjR {x0 : Int} {o : T_api_Page} (h : J8R x0 = some o) :
  rk (J2 p) J8K 0 [] (X (J2 p) Jaf ⟨[(0, .p (.i .i64 x0))], []⟩) = Jjn o := by
 unfold J8R at h
 obtain rfl := sj h
 try simp only [↓Da, Ua, Jaf, J4, J1, J6, JpP, ↓reduceIte, reduceEqDiff, reduceAdd, reduceLT, reduceMul]
 rfl
theorem JpM {x0 : Int} {o : T_api_Page} (h : J8R x0 = some o) : AF (J2 p) J8O [.p (.i .i64 x0)] [] = Jjn o :=
 (J0c (J2 p) (JpK p) rfl).trans (JjR p h)
theorem Jpt {x0 : Int} {o : T_api_Page} (h : J8R x0 = some o) : ∀ ws new st, (Jl (AF (J2 p)) J8O ([.p (.i .i64 x0)], ws) 0 new).run st = some ⟨.data (J3 o), ws⟩ := Ju rfl (JpM p h) rfl
def J3C  (r : (Vector Int 16)) : Option Res := some (.data ((JU (r_i .u32)) r), [])
def J2Q (b0 : Vector Int 16) (o : (Int × (Vector Int 16)) ⊕ ((Vector Int 16))) : Option Res := match o with
 | .inl s => rk (J2 p) JR 0 [.bl 0, .sq (.keep [0, 1] J00)] (X (J2 p) (.lp 2 [0, 1, 4] JX) ⟨[(0, .ptr 0 0), (1, .ptr 1 0), (4, .p (.i .i64 s.1))], [.box (List.map AV.p ((JU (r_i .u32)) b0)), .box (List.map AV.p ((JU (r_i .u32)) s.2))]⟩)
 | .inr o => J3C o
def Jel (x2 x4 : Int) (b0 b1 : Vector Int 16) (o : (Int × Int) ⊕ (((Int × (Vector Int 16)) ⊕ ((Vector Int 16))))) : Option Res := match o with
 | .inl s => rk (J2 p) JR 0 [.bl 2, .sq (.keep [0, 1, 2, 3, 4] J21), .bl 1, .sq (.keep [0, 1, 4] J1z), .lo 2 [0, 1, 4] JX, .bl 0, .sq (.keep [0, 1] J00)] (X (J2 p) (.lp 2 [0, 1, 2, 3, 4, 9] J0G) ⟨[(0, .ptr 0 0), (1, .ptr 1 0), (2, .p (.i .i64 x2)), (3, .p (.i .u32 s.1)), (4, .p (.i .i64 x4)), (9, .p (.i .i64 s.2))], [.box (List.map AV.p ((JU (r_i .u32)) b0)), .box (List.map AV.p ((JU (r_i .u32)) b1))]⟩)
 | .inr o => (J2Q p b0) o
def J43 (x4 : Int) (b0 b1 : Vector Int 16) : Option (((Int × (Vector Int 16)) ⊕ ((Vector Int 16)))) :=
 some (.inl ((IntKind.wrap .i64 (x4 + 1)), b1))
theorem JdX {x4 : Int} {b0 b1 : Vector Int 16} {o : ((Int × (Vector Int 16)) ⊕ ((Vector Int 16)))} (h : J43 x4 b0 b1 = some o) :
  rk (J2 p) JR 0 [.lo 2 [0, 1, 4] JX, .bl 0, .sq (.keep [0, 1] J00)] (X (J2 p) J1z ⟨[(0, .ptr 0 0), (1, .ptr 1 0), (4, .p (.i .i64 x4))], [.box (List.map AV.p ((JU (r_i .u32)) b0)), .box (List.map AV.p ((JU (r_i .u32)) b1))]⟩) = (J2Q p b0) o := by
 unfold J43 at h
 obtain rfl := sj h
 try simp only [↓Da, Ua, J1z, ↓reduceIte, reduceEqDiff, reduceAdd, reduceLT, reduceMul]
 rfl
def J3Q (x2 x3 x4 : Int) (b0 b1 : Vector Int 16) : Option (((Int × (Vector Int 16)) ⊕ ((Vector Int 16)))) :=
 Option.bind (inb 16 x2) fun u1 =>
 Option.bind (J85 b1 x2) fun y4 =>
 J43 x4 b0 (J9G b1 x2 x3)
theorem Jee {x2 x3 x4 : Int} {b0 b1 : Vector Int 16} {o : ((Int × (Vector Int 16)) ⊕ ((Vector Int 16)))} (h : J3Q x2 x3 x4 b0 b1 = some o) :
  rk (J2 p) JR 0 [.bl 1, .sq (.keep [0, 1, 4] J1z), .lo 2 [0, 1, 4] JX, .bl 0, .sq (.keep [0, 1] J00)] (X (J2 p) J21 ⟨[(0, .ptr 0 0), (1, .ptr 1 0), (2, .p (.i .i64 x2)), (3, .p (.i .u32 x3)), (4, .p (.i .i64 x4))], [.box (List.map AV.p ((JU (r_i .u32)) b0)), .box (List.map AV.p ((JU (r_i .u32)) b1))]⟩) = (J2Q p b0) o := by
 unfold J3Q at h
 obtain ⟨u1, h2, h⟩ := bi h
 have f3 : (0 ≤ (x2 : Int) ∧ (x2 : Int) < ((16 : Nat) : Int)) = True := eq_true (J8M h2)
 obtain ⟨y4, h5, h⟩ := bi h
 have f6 : spl ((JU (r_i .u32)) b1) (Int.toNat x2 * 1) ((r_i .u32) x3) = some ((JU (r_i .u32)) (J9G b1 x2 x3)) := by
  have e0 := (JiH (v := b1) (JaK .u32) (Jg7 h5) x3)
  exact e0
 try simp only [Nf] at f6
 try simp only [↓Da, Ua, J21, *, ↓reduceIte, reduceEqDiff, reduceAdd, reduceLT, reduceMul]
 have e0 := JdX p h
 exact e0
def J0f (x2 x4 : Int) (b0 b1 : Vector Int 16) (x3 x9 : Int) : Option (((Int × Int) ⊕ (((Int × (Vector Int 16)) ⊕ ((Vector Int 16)))))) :=
 if (decide (x9 < 4)) then
  if (((J4L .u32 x3 1) : Int) == 1) then
   Option.bind (J8b .u32 x3 1) fun q3 =>
   some (.inl ((J4E .u32 q3 2197175160), (IntKind.wrap .i64 (x9 + 1))))
  else
   Option.bind (J8b .u32 x3 1) fun q5 =>
   some (.inl (q5, (IntKind.wrap .i64 (x9 + 1))))
 else
  Option.map (fun o => .inr o) (J3Q x2 x3 x4 b0 b1)
theorem J9U {x2 x4 : Int} {b0 b1 : Vector Int 16} {x3 x9 : Int} {o : ((Int × Int) ⊕ (((Int × (Vector Int 16)) ⊕ ((Vector Int 16)))))} (h : J0f x2 x4 b0 b1 x3 x9 = some o) :
  rk (J2 p) JR 0 [.lo 2 [0, 1, 2, 3, 4, 9] J0G, .bl 2, .sq (.keep [0, 1, 2, 3, 4] J21), .bl 1, .sq (.keep [0, 1, 4] J1z), .lo 2 [0, 1, 4] JX, .bl 0, .sq (.keep [0, 1] J00)] (X (J2 p) J0G ⟨[(0, .ptr 0 0), (1, .ptr 1 0), (2, .p (.i .i64 x2)), (3, .p (.i .u32 x3)), (4, .p (.i .i64 x4)), (9, .p (.i .i64 x9))], [.box (List.map AV.p ((JU (r_i .u32)) b0)), .box (List.map AV.p ((JU (r_i .u32)) b1))]⟩) = (Jel p x2 x4 b0 b1) o := by
 unfold J0f at h
 rcases J8 h with ⟨h1, h⟩ | ⟨h1, h⟩
 ·try simp only [↓Da, Ua, J0G, *, ↓reduceIte, reduceEqDiff, reduceAdd, reduceLT, reduceMul]
  rcases J8 h with ⟨h2, h⟩ | ⟨h2, h⟩
  ·have h2n : (((J4L .u32 x3 1) : Int) != 1) = false := by rw [bne, h2]; rfl
   obtain ⟨q3, h4, h⟩ := bi h
   obtain rfl := sj h
   try simp only [↓Da, Ua, J0G, *, ↓reduceIte, reduceEqDiff, reduceAdd, reduceLT, reduceMul]
   rfl
  ·have h2n : (((J4L .u32 x3 1) : Int) != 1) = true := by rw [bne, h2]; rfl
   obtain ⟨q5, h6, h⟩ := bi h
   obtain rfl := sj h
   try simp only [↓Da, Ua, J0G, *, ↓reduceIte, reduceEqDiff, reduceAdd, reduceLT, reduceMul]
   rfl
 ·obtain ⟨o', h', rfl⟩ := mi h
  try simp only [↓Da, Ua, J0G, *, ↓reduceIte, reduceEqDiff, reduceAdd, reduceLT, reduceMul]
  have e0 := Jee p h'
  exact e0
def J7y (x2 x4 : Int) (b0 b1 : Vector Int 16) (s : Int × Int) : Option (((Int × (Vector Int 16)) ⊕ ((Vector Int 16)))) :=
 Jv (fun s => J0f x2 x4 b0 b1 s.1 s.2) s
theorem Jd4 {x2 x4 : Int} {b0 b1 : Vector Int 16} {s : Int × Int} {o : ((Int × (Vector Int 16)) ⊕ ((Vector Int 16)))} (h : J7y x2 x4 b0 b1 s = some o) :
  rk (J2 p) JR 0 [.bl 2, .sq (.keep [0, 1, 2, 3, 4] J21), .bl 1, .sq (.keep [0, 1, 4] J1z), .lo 2 [0, 1, 4] JX, .bl 0, .sq (.keep [0, 1] J00)] (X (J2 p) (.lp 2 [0, 1, 2, 3, 4, 9] J0G) ⟨[(0, .ptr 0 0), (1, .ptr 1 0), (2, .p (.i .i64 x2)), (3, .p (.i .u32 s.1)), (4, .p (.i .i64 x4)), (9, .p (.i .i64 s.2))], [.box (List.map AV.p ((JU (r_i .u32)) b0)), .box (List.map AV.p ((JU (r_i .u32)) b1))]⟩) = (J2Q p b0) o := by
 have h0 : Jv (fun s => J0f x2 x4 b0 b1 s.1 s.2) s = some o := h
 exact J0p (P := fun (s : Int × Int) (o : ((Int × (Vector Int 16)) ⊕ ((Vector Int 16)))) => rk (J2 p) JR 0 [.bl 2, .sq (.keep [0, 1, 2, 3, 4] J21), .bl 1, .sq (.keep [0, 1, 4] J1z), .lo 2 [0, 1, 4] JX, .bl 0, .sq (.keep [0, 1] J00)] (X (J2 p) (.lp 2 [0, 1, 2, 3, 4, 9] J0G) ⟨[(0, .ptr 0 0), (1, .ptr 1 0), (2, .p (.i .i64 x2)), (3, .p (.i .u32 s.1)), (4, .p (.i .i64 x4)), (9, .p (.i .i64 s.2))], [.box (List.map AV.p ((JU (r_i .u32)) b0)), .box (List.map AV.p ((JU (r_i .u32)) b1))]⟩) = (J2Q p b0) o) (fun s r hs => by rw [J0n]; exact J9U p hs) (fun s s1 r hs ih => by rw [J0n]; exact (J9U p hs).trans ih) h0
def J3U (b0 b1 : Vector Int 16) : Option ((Vector Int 16)) :=
 some b1
theorem Jep {b0 b1 : Vector Int 16} {o : (Vector Int 16)} (h : J3U b0 b1 = some o) :
  rk (J2 p) JR 0 [] (X (J2 p) J00 ⟨[(0, .ptr 0 0), (1, .ptr 1 0)], [.box (List.map AV.p ((JU (r_i .u32)) b0)), .box (List.map AV.p ((JU (r_i .u32)) b1))]⟩) = J3C o := by
 unfold J3U at h
 obtain rfl := sj h
 try simp only [↓Da, Ua, J00, J6N, Jfq, ↓reduceIte, reduceEqDiff, reduceAdd, reduceLT, reduceMul]
 rfl
def J0K (b0 : Vector Int 16) (x4 : Int) (b1 : Vector Int 16) : Option (((Int × (Vector Int 16)) ⊕ ((Vector Int 16)))) :=
 if (decide (x4 < 16)) then
  J7y x4 x4 b0 b1 ((IntKind.wrap .u32 x4), 0)
 else
  Option.map (fun o => .inr o) (J3U b0 b1)
theorem Jab {b0 : Vector Int 16} {x4 : Int} {b1 : Vector Int 16} {o : ((Int × (Vector Int 16)) ⊕ ((Vector Int 16)))} (h : J0K b0 x4 b1 = some o) :
  rk (J2 p) JR 0 [.lo 2 [0, 1, 4] JX, .bl 0, .sq (.keep [0, 1] J00)] (X (J2 p) JX ⟨[(0, .ptr 0 0), (1, .ptr 1 0), (4, .p (.i .i64 x4))], [.box (List.map AV.p ((JU (r_i .u32)) b0)), .box (List.map AV.p ((JU (r_i .u32)) b1))]⟩) = (J2Q p b0) o := by
 unfold J0K at h
 rcases J8 h with ⟨h1, h⟩ | ⟨h1, h⟩
 ·try simp only [↓Da, Ua, JX, *, ↓reduceIte, reduceEqDiff, reduceAdd, reduceLT, reduceMul]
  have e0 := Jd4 p h
  exact e0
 ·obtain ⟨o', h', rfl⟩ := mi h
  try simp only [↓Da, Ua, JX, *, ↓reduceIte, reduceEqDiff, reduceAdd, reduceLT, reduceMul]
  have e0 := Jep p h'
  exact e0
def J9S (b0 : Vector Int 16) (s : Int × (Vector Int 16)) : Option ((Vector Int 16)) :=
 Jv (fun s => J0K b0 s.1 s.2) s
theorem Jd2 {b0 : Vector Int 16} {s : Int × (Vector Int 16)} {o : (Vector Int 16)} (h : J9S b0 s = some o) :
  rk (J2 p) JR 0 [.bl 0, .sq (.keep [0, 1] J00)] (X (J2 p) (.lp 2 [0, 1, 4] JX) ⟨[(0, .ptr 0 0), (1, .ptr 1 0), (4, .p (.i .i64 s.1))], [.box (List.map AV.p ((JU (r_i .u32)) b0)), .box (List.map AV.p ((JU (r_i .u32)) s.2))]⟩) = J3C o := by
 have h0 : Jv (fun s => J0K b0 s.1 s.2) s = some o := h
 exact J0p (P := fun (s : Int × (Vector Int 16)) (o : (Vector Int 16)) => rk (J2 p) JR 0 [.bl 0, .sq (.keep [0, 1] J00)] (X (J2 p) (.lp 2 [0, 1, 4] JX) ⟨[(0, .ptr 0 0), (1, .ptr 1 0), (4, .p (.i .i64 s.1))], [.box (List.map AV.p ((JU (r_i .u32)) b0)), .box (List.map AV.p ((JU (r_i .u32)) s.2))]⟩) = J3C o) (fun s r hs => by rw [J0n]; exact Jab p hs) (fun s s1 r hs ih => by rw [J0n]; exact (Jab p hs).trans ih) h0
def J2G  : Option ((Vector Int 16)) :=
 J9S (Vector.replicate 16 0) (0, (Vector.replicate 16 0))
theorem Jdc  {o : (Vector Int 16)} (h : J2G = some o) :
  rk (J2 p) JR 0 [] (X (J2 p) J51 ⟨[], []⟩) = J3C o := by
 unfold J2G at h
 try simp only [↓Da, Ua, J51, J6N, ↓reduceIte, reduceEqDiff, reduceAdd, reduceLT, reduceMul]
 have e0 := Jd2 p h
 exact e0
theorem JfA  {o : (Vector Int 16)} (h : J2G = some o) : AF (J2 p) J3L [] [] = J3C o :=
 (J0c (J2 p) (JfG p) rfl).trans (Jdc p h)
theorem Jfx  {o : (Vector Int 16)} (h : J2G = some o) : ∀ ws new st, (Jl (AF (J2 p)) J3L ([], ws) 0 new).run st = some ⟨.data ((JU (r_i .u32)) o), ws⟩ := Ju rfl (JfA p h) rfl
def J7w (x0 : T_api_Copy) (x1 : Int) : Option (Int) :=
 some (IntKind.wrap .i64 (x0.Page - x1))
def Jbo  (r : Bool) : Option Res := some (.p (.b r), [])
def J0l (x0 : Ja) : Option (Bool) :=
 if (decide (((List.length x0.Data : Nat) : Int) ≤ 12)) then
  if x0.Set then
   some true
  else
   some (x0.Data == [])
 else
  some false
theorem JdC {x0 : Ja} {o : Bool} (h : J0l x0 = some o) :
  rk (J2 p) J47 0 [] (X (J2 p) J2k ⟨[(0, .data (Jf x0))], []⟩) = Jbo o := by
 unfold J0l at h
 rcases J8 h with ⟨h1, h⟩ | ⟨h1, h⟩
 ·try simp only [↓Da, Ua, J2k, J4, *, ↓reduceIte, reduceEqDiff, reduceAdd, reduceLT, reduceMul]
  rcases J8 h with ⟨h2, h⟩ | ⟨h2, h⟩
  ·obtain rfl := sj h
   try simp only [↓Da, Ua, J2k, J4, J8U, *, ↓reduceIte, reduceEqDiff, reduceAdd, reduceLT, reduceMul]
   rfl
  ·obtain rfl := sj h
   try simp only [↓Da, Ua, J2k, J4, J8U, *, ↓reduceIte, reduceEqDiff, reduceAdd, reduceLT, reduceMul]
   rfl
 ·obtain rfl := sj h
  try simp only [↓Da, Ua, J2k, J4, J8U, *, ↓reduceIte, reduceEqDiff, reduceAdd, reduceLT, reduceMul]
  rfl
theorem Jgp {x0 : Ja} {o : Bool} (h : J0l x0 = some o) : AF (J2 p) J46 [.data (Jf x0)] [] = Jbo o :=
 (J0c (J2 p) (JgF p) rfl).trans (JdC p h)
theorem Jgi {x0 : Ja} {o : Bool} (h : J0l x0 = some o) : ∀ ws new st, (Jl (AF (J2 p)) J46 ([.data (Jf x0)], ws) 0 new).run st = some ⟨.p (.b o), ws⟩ := Ju rfl (Jgp p h) rfl
def Jey  (r : Int) : Option Res := some (.p (.i .i64 r), [])
def JO (x0 : List UInt8) (x1 x2 : Int) : Option (Int) :=
 Option.bind (JM x0 x1 x2) fun r1 =>
 some r1.1
theorem Jgs {x0 : List UInt8} {x1 x2 o : Int} (h : JO x0 x1 x2 = some o) :
  rk (J2 p) J6r 0 [] (X (J2 p) J7I ⟨[(0, .p (.s x0)), (1, .p (.i .i64 x1)), (2, .p (.i .i64 x2))], []⟩) = Jey o := by
 unfold JO at h
 obtain ⟨r1, h2, h⟩ := bi h
 have f3 := J6T p h2
 try simp only [Nf] at f3
 obtain rfl := sj h
 try simp only [↓Da, Ua, J7I, Jlq, *, ↓reduceIte, reduceEqDiff, reduceAdd, reduceLT, reduceMul]
 rfl
theorem JlU {x0 : List UInt8} {x1 x2 o : Int} (h : JO x0 x1 x2 = some o) : AF (J2 p) J3p [.p (.s x0), .p (.i .i64 x1), .p (.i .i64 x2)] [] = Jey o :=
 (J0c (J2 p) (JlZ p) rfl).trans (Jgs p h)
theorem J9b {x0 : List UInt8} {x1 x2 o : Int} (h : JO x0 x1 x2 = some o) : ∀ ws new st, (Jl (AF (J2 p)) J3p ([.p (.s x0), .p (.i .i64 x1), .p (.i .i64 x2)], ws) 0 new).run st = some ⟨.p (.i .i64 o), ws⟩ := Ju rfl (JlU p h) rfl
def J7Y  (r : T_api_Page × Bool) : Option Res := some (.tup [.data (J3 r.1), .p (.b r.2)], [])
def Jlx (x0 : List UInt8) (b0 : T_api_Page) (o : (Int × T_api_Page) ⊕ (T_api_Page × Bool)) : Option Res := match o with
 | .inl s => rk (J2 p) J3g 0 [.bl 0, .sq (.keep [2, 4] J5b)] (X (J2 p) (.lp 2 [0, 2, 4, 13] J1K) ⟨[(0, .p (.s x0)), (2, .ptr 0 0), (4, .ptr 1 0), (13, .p (.i .i64 s.1))], [.box (List.map AV.p (J3 b0)), .box (List.map AV.p (J3 s.2))]⟩)
 | .inr o => J7Y o
def J6k (b0 b1 : T_api_Page) : Option (T_api_Page × Bool) :=
 some (b1, true)
theorem JlM {b0 b1 : T_api_Page} {o : T_api_Page × Bool} (h : J6k b0 b1 = some o) :
  rk (J2 p) J3g 0 [] (X (J2 p) J5b ⟨[(2, .ptr 0 0), (4, .ptr 1 0)], [.box (List.map AV.p (J3 b0)), .box (List.map AV.p (J3 b1))]⟩) = J7Y o := by
 unfold J6k at h
 obtain rfl := sj h
 try simp only [↓Da, Ua, J5b, J4, J1, J6, Jh7, ↓reduceIte, reduceEqDiff, reduceAdd, reduceLT, reduceMul]
 rfl
def J19 (x0 : List UInt8) (b0 : T_api_Page) (x13 : Int) (b1 : T_api_Page) : Option (((Int × T_api_Page) ⊕ (T_api_Page × Bool))) :=
 if (decide (x13 < 16)) then
  Option.bind (JO x0 (IntKind.wrap .i64 (12 + (IntKind.wrap .i64 (x13 * 13)))) 1) fun r2 =>
  if ((r2 : Int) == 255) then
   some (.inl ((IntKind.wrap .i64 (x13 + 1)), b1))
  else
   if (decide (r2 > 12)) then
    some (.inr ((⟨0, 0, (Vector.replicate 16 (⟨false, []⟩ : Ja))⟩ : T_api_Page), false))
   else
    Option.bind (J1i x0 (some (IntKind.wrap .i64 ((IntKind.wrap .i64 (12 + (IntKind.wrap .i64 (x13 * 13)))) + 1))) (some (IntKind.wrap .i64 ((IntKind.wrap .i64 ((IntKind.wrap .i64 (12 + (IntKind.wrap .i64 (x13 * 13)))) + 1)) + r2)))) fun m7 =>
    Option.bind (inb 16 x13) fun u10 =>
    Option.bind (J85 b1.Cells x13) fun y13 =>
    some (.inl ((IntKind.wrap .i64 (x13 + 1)), (⟨b1.ID, b1.LSN, (J9G b1.Cells x13 (⟨true, m7⟩ : Ja))⟩ : T_api_Page)))
 else
  Option.map (fun o => .inr o) (J6k b0 b1)
theorem Jeq {x0 : List UInt8} {b0 : T_api_Page} {x13 : Int} {b1 : T_api_Page} {o : ((Int × T_api_Page) ⊕ (T_api_Page × Bool))} (h : J19 x0 b0 x13 b1 = some o) :
  rk (J2 p) J3g 0 [.lo 2 [0, 2, 4, 13] J1K, .bl 0, .sq (.keep [2, 4] J5b)] (X (J2 p) J1K ⟨[(0, .p (.s x0)), (2, .ptr 0 0), (4, .ptr 1 0), (13, .p (.i .i64 x13))], [.box (List.map AV.p (J3 b0)), .box (List.map AV.p (J3 b1))]⟩) = (Jlx p x0 b0) o := by
 unfold J19 at h
 rcases J8 h with ⟨h1, h⟩ | ⟨h1, h⟩
 ·obtain ⟨r2, h3, h⟩ := bi h
  have f4 := J9b p h3
  try simp only [Nf] at f4
  try simp only [↓Da, Ua, J1K, J4, J1, J6, *, ↓reduceIte, reduceEqDiff, reduceAdd, reduceLT, reduceMul]
  rcases J8 h with ⟨h5, h⟩ | ⟨h5, h⟩
  ·have h5n : ((r2 : Int) != 255) = false := by rw [bne, h5]; rfl
   obtain rfl := sj h
   try simp only [↓Da, Ua, J1K, J4, J1, J6, *, ↓reduceIte, reduceEqDiff, reduceAdd, reduceLT, reduceMul]
   rfl
  ·have h5n : ((r2 : Int) != 255) = true := by rw [bne, h5]; rfl
   try simp only [↓Da, Ua, J1K, J4, J1, J6, *, ↓reduceIte, reduceEqDiff, reduceAdd, reduceLT, reduceMul]
   rcases J8 h with ⟨h6, h⟩ | ⟨h6, h⟩
   ·obtain rfl := sj h
    try simp only [↓Da, Ua, J1K, J4, J1, J6, Jh7, *, ↓reduceIte, reduceEqDiff, reduceAdd, reduceLT, reduceMul]
    rfl
   ·obtain ⟨m7, h8, h⟩ := bi h
    have f9 : J2b (.p (.s x0)) (some (.p (.i .i64 (IntKind.wrap .i64 ((IntKind.wrap .i64 (12 + (IntKind.wrap .i64 (x13 * 13)))) + 1))))) (some (.p (.i .i64 (IntKind.wrap .i64 ((IntKind.wrap .i64 ((IntKind.wrap .i64 (12 + (IntKind.wrap .i64 (x13 * 13)))) + 1)) + r2))))) = some (.p (.s m7)) := J2z (k := .i64) (lo := (some (IntKind.wrap .i64 ((IntKind.wrap .i64 (12 + (IntKind.wrap .i64 (x13 * 13)))) + 1)))) (hi := (some (IntKind.wrap .i64 ((IntKind.wrap .i64 ((IntKind.wrap .i64 (12 + (IntKind.wrap .i64 (x13 * 13)))) + 1)) + r2)))) h8
    try simp only [Nf] at f9
    obtain ⟨u10, h11, h⟩ := bi h
    have f12 : (0 ≤ (x13 : Int) ∧ (x13 : Int) < ((16 : Nat) : Int)) = True := eq_true (J8M h11)
    obtain ⟨y13, h14, h⟩ := bi h
    have f15 : spl (J3 b1) (2 + Int.toNat x13 * 2) (Jf (⟨true, m7⟩ : Ja)) = some (J3 (⟨b1.ID, b1.LSN, (J9G b1.Cells x13 (⟨true, m7⟩ : Ja))⟩ : T_api_Page)) := by
     have e0 := (JjW (J0Z b1) (JiH (v := b1.Cells) JP (Jg7 h14) (⟨true, m7⟩ : Ja)) (J6H b1 _))
     exact e0
    try simp only [Nf] at f15
    obtain rfl := sj h
    try simp only [↓Da, Ua, J1K, J4, J1, J6, *, ↓reduceIte, reduceEqDiff, reduceAdd, reduceLT, reduceMul]
    rfl
 ·obtain ⟨o', h', rfl⟩ := mi h
  try simp only [↓Da, Ua, J1K, J4, J1, J6, *, ↓reduceIte, reduceEqDiff, reduceAdd, reduceLT, reduceMul]
  have e0 := JlM p h'
  exact e0
def J98 (x0 : List UInt8) (b0 : T_api_Page) (s : Int × T_api_Page) : Option (T_api_Page × Bool) :=
 Jv (fun s => J19 x0 b0 s.1 s.2) s
theorem Jiz {x0 : List UInt8} {b0 : T_api_Page} {s : Int × T_api_Page} {o : T_api_Page × Bool} (h : J98 x0 b0 s = some o) :
  rk (J2 p) J3g 0 [.bl 0, .sq (.keep [2, 4] J5b)] (X (J2 p) (.lp 2 [0, 2, 4, 13] J1K) ⟨[(0, .p (.s x0)), (2, .ptr 0 0), (4, .ptr 1 0), (13, .p (.i .i64 s.1))], [.box (List.map AV.p (J3 b0)), .box (List.map AV.p (J3 s.2))]⟩) = J7Y o := by
 have h0 : Jv (fun s => J19 x0 b0 s.1 s.2) s = some o := h
 exact J0p (P := fun (s : Int × T_api_Page) (o : T_api_Page × Bool) => rk (J2 p) J3g 0 [.bl 0, .sq (.keep [2, 4] J5b)] (X (J2 p) (.lp 2 [0, 2, 4, 13] J1K) ⟨[(0, .p (.s x0)), (2, .ptr 0 0), (4, .ptr 1 0), (13, .p (.i .i64 s.1))], [.box (List.map AV.p (J3 b0)), .box (List.map AV.p (J3 s.2))]⟩) = J7Y o) (fun s r hs => by rw [J0n]; exact Jeq p hs) (fun s s1 r hs ih => by rw [J0n]; exact (Jeq p hs).trans ih) h0
def J5y (x0 : List UInt8) : Option (T_api_Page × Bool) :=
 Option.bind (JO x0 8 4) fun r1 =>
 Option.bind (JO x0 0 8) fun r4 =>
 J98 x0 (⟨0, 0, (Vector.replicate 16 (⟨false, []⟩ : Ja))⟩ : T_api_Page) (0, (⟨r1, r4, (Vector.replicate 16 (⟨false, []⟩ : Ja))⟩ : T_api_Page))
theorem Jjr {x0 : List UInt8} {o : T_api_Page × Bool} (h : J5y x0 = some o) :
  rk (J2 p) J3g 0 [] (X (J2 p) J93 ⟨[(0, .p (.s x0))], []⟩) = J7Y o := by
 unfold J5y at h
 obtain ⟨r1, h2, h⟩ := bi h
 have f3 := J9b p h2
 try simp only [Nf] at f3
 obtain ⟨r4, h5, h⟩ := bi h
 have f6 := J9b p h5
 try simp only [Nf] at f6
 try simp only [↓Da, Ua, J93, J4, J1, J6, *, ↓reduceIte, reduceEqDiff, reduceAdd, reduceLT, reduceMul]
 have e0 := Jiz p h
 exact e0
theorem Jo8 {x0 : List UInt8} {o : T_api_Page × Bool} (h : J5y x0 = some o) : AF (J2 p) J80 [.p (.s x0)] [] = J7Y o :=
 (J0c (J2 p) (JnG p) rfl).trans (Jjr p h)
theorem Jos {x0 : List UInt8} {o : T_api_Page × Bool} (h : J5y x0 = some o) : ∀ ws new st, (Jl (AF (J2 p)) J80 ([.p (.s x0)], ws) 0 new).run st = some ⟨.tup [.data (J3 o.1), .p (.b o.2)], ws⟩ := Ju rfl (Jo8 p h) rfl
def J2T  (r : T_api_Page × T_pagemenddraw_Codes) : Option Res := some (.data (J3 r.1), [.box (List.map AV.p (J0 r.2))])
def Jf5 (b1 : T_api_Page) (o : (Int × T_pagemenddraw_Codes × T_api_Page) ⊕ (T_api_Page × T_pagemenddraw_Codes)) : Option Res := match o with
 | .inl s => rk (J2 p) J0F 1 [.bl 0, .sq (.keep [4, 5] J2q)] (X (J2 p) (.lp 3 [0, 4, 5, 6] J1H) ⟨[(0, .ptr 0 0), (4, .ptr 1 0), (5, .ptr 2 0), (6, .p (.i .i64 s.1))], [.box (List.map AV.p (J0 s.2.1)), .box (List.map AV.p (J3 b1)), .box (List.map AV.p (J3 s.2.2))]⟩)
 | .inr o => J2T o
def J3a (b0 : T_pagemenddraw_Codes) (b1 b2 : T_api_Page) : Option (T_api_Page × T_pagemenddraw_Codes) :=
 some (b2, b0)
theorem Jav {b0 : T_pagemenddraw_Codes} {b1 b2 : T_api_Page} {o : T_api_Page × T_pagemenddraw_Codes} (h : J3a b0 b1 b2 = some o) :
  rk (J2 p) J0F 1 [] (X (J2 p) J2q ⟨[(4, .ptr 1 0), (5, .ptr 2 0)], [.box (List.map AV.p (J0 b0)), .box (List.map AV.p (J3 b1)), .box (List.map AV.p (J3 b2))]⟩) = J2T o := by
 unfold J3a at h
 obtain rfl := sj h
 try simp only [↓Da, Ua, J2q, J4, J1, J6, Jgt, ↓reduceIte, reduceEqDiff, reduceAdd, reduceLT, reduceMul]
 rfl
def J2n (b1 : T_api_Page) (x6 : Int) (b0 : T_pagemenddraw_Codes) (b2 : T_api_Page) : Option (((Int × T_pagemenddraw_Codes × T_api_Page) ⊕ (T_api_Page × T_pagemenddraw_Codes))) :=
 if (decide (x6 > 0)) then
  Option.bind (JH b0 16) fun r2 =>
  Option.bind (J4b r2.2) fun r5 =>
  Option.bind (inb 16 r2.1) fun u8 =>
  Option.bind (J85 b2.Cells r2.1) fun y11 =>
  some (.inl ((IntKind.wrap .i64 (x6 - 1)), r5.2, (⟨b2.ID, b2.LSN, (J9G b2.Cells r2.1 r5.1)⟩ : T_api_Page)))
 else
  Option.map (fun o => .inr o) (J3a b0 b1 b2)
theorem Jar {b1 : T_api_Page} {x6 : Int} {b0 : T_pagemenddraw_Codes} {b2 : T_api_Page} {o : ((Int × T_pagemenddraw_Codes × T_api_Page) ⊕ (T_api_Page × T_pagemenddraw_Codes))} (h : J2n b1 x6 b0 b2 = some o) :
  rk (J2 p) J0F 1 [.lo 3 [0, 4, 5, 6] J1H, .bl 0, .sq (.keep [4, 5] J2q)] (X (J2 p) J1H ⟨[(0, .ptr 0 0), (4, .ptr 1 0), (5, .ptr 2 0), (6, .p (.i .i64 x6))], [.box (List.map AV.p (J0 b0)), .box (List.map AV.p (J3 b1)), .box (List.map AV.p (J3 b2))]⟩) = (Jf5 p b1) o := by
 unfold J2n at h
 rcases J8 h with ⟨h1, h⟩ | ⟨h1, h⟩
 ·obtain ⟨r2, h3, h⟩ := bi h
  have f4 : ∀ ws new s, J06 ws s [0] [List.map AV.p (J0 b0)] → (Jl (AF (J2 p)) Ji ([.ptr 0 0, .p (.i .i64 16)], ws) 0 new).run s = some ⟨.p (.i .i64 r2.1), ws ++ [(0, .box (List.map AV.p (J0 r2.2)))]⟩ := JZ (args' := [.ptr 0 0, .p (.i .i64 16)]) (bs := [0]) (css := [List.map AV.p (J0 b0)]) (css' := [List.map AV.p (J0 r2.2)]) rfl rfl rfl (by simp [Jt, Jh]) (JT p h3) rfl rfl (by simp [Jt, Jh])
  try simp only [Nf] at f4
  obtain ⟨r5, h6, h⟩ := bi h
  have f7 : ∀ ws new s, J06 ws s [0] [List.map AV.p (J0 r2.2)] → (Jl (AF (J2 p)) J4d ([.ptr 0 0], ws) 0 new).run s = some ⟨.data (Jf r5.1), ws ++ [(0, .box (List.map AV.p (J0 r5.2)))]⟩ := JZ (args' := [.ptr 0 0]) (bs := [0]) (css := [List.map AV.p (J0 r2.2)]) (css' := [List.map AV.p (J0 r5.2)]) rfl rfl rfl (by simp [Jt, Jh]) (JgR p h6) rfl rfl (by simp [Jt, Jh])
  try simp only [Nf] at f7
  obtain ⟨u8, h9, h⟩ := bi h
  have f10 : (0 ≤ (r2.1 : Int) ∧ (r2.1 : Int) < ((16 : Nat) : Int)) = True := eq_true (J8M h9)
  obtain ⟨y11, h12, h⟩ := bi h
  have f13 : spl (J3 b2) (2 + Int.toNat r2.1 * 2) (Jf r5.1) = some (J3 (⟨b2.ID, b2.LSN, (J9G b2.Cells r2.1 r5.1)⟩ : T_api_Page)) := by
   have e0 := (JjW (J0Z b2) (JiH (v := b2.Cells) JP (Jg7 h12) r5.1) (J6H b2 _))
   exact e0
  try simp only [Nf] at f13
  obtain rfl := sj h
  try simp only [↓Da, Ua, J1H, J4, J9, *, ↓reduceIte, reduceEqDiff, reduceAdd, reduceLT, reduceMul]
  rfl
 ·obtain ⟨o', h', rfl⟩ := mi h
  try simp only [↓Da, Ua, J1H, J4, J9, *, ↓reduceIte, reduceEqDiff, reduceAdd, reduceLT, reduceMul]
  have e0 := Jav p h'
  exact e0
def Jap (b1 : T_api_Page) (s : Int × T_pagemenddraw_Codes × T_api_Page) : Option (T_api_Page × T_pagemenddraw_Codes) :=
 Jv (fun s => J2n b1 s.1 s.2.1 s.2.2) s
theorem Jdp {b1 : T_api_Page} {s : Int × T_pagemenddraw_Codes × T_api_Page} {o : T_api_Page × T_pagemenddraw_Codes} (h : Jap b1 s = some o) :
  rk (J2 p) J0F 1 [.bl 0, .sq (.keep [4, 5] J2q)] (X (J2 p) (.lp 3 [0, 4, 5, 6] J1H) ⟨[(0, .ptr 0 0), (4, .ptr 1 0), (5, .ptr 2 0), (6, .p (.i .i64 s.1))], [.box (List.map AV.p (J0 s.2.1)), .box (List.map AV.p (J3 b1)), .box (List.map AV.p (J3 s.2.2))]⟩) = J2T o := by
 have h0 : Jv (fun s => J2n b1 s.1 s.2.1 s.2.2) s = some o := h
 exact J0p (P := fun (s : Int × T_pagemenddraw_Codes × T_api_Page) (o : T_api_Page × T_pagemenddraw_Codes) => rk (J2 p) J0F 1 [.bl 0, .sq (.keep [4, 5] J2q)] (X (J2 p) (.lp 3 [0, 4, 5, 6] J1H) ⟨[(0, .ptr 0 0), (4, .ptr 1 0), (5, .ptr 2 0), (6, .p (.i .i64 s.1))], [.box (List.map AV.p (J0 s.2.1)), .box (List.map AV.p (J3 b1)), .box (List.map AV.p (J3 s.2.2))]⟩) = J2T o) (fun s r hs => by rw [J0n]; exact Jar p hs) (fun s s1 r hs ih => by rw [J0n]; exact (Jar p hs).trans ih) h0
def J3c (b0 : T_pagemenddraw_Codes) (b1 b2 : T_api_Page) : Option (T_api_Page × T_pagemenddraw_Codes) :=
 if (decide (b2.LSN > 0)) then
  Option.bind (JH b0 6) fun r2 =>
  Jap b1 (r2.1, r2.2, b2)
 else
  J3a b0 b1 b2
theorem Jas {b0 : T_pagemenddraw_Codes} {b1 b2 : T_api_Page} {o : T_api_Page × T_pagemenddraw_Codes} (h : J3c b0 b1 b2 = some o) :
  rk (J2 p) J0F 1 [] (X (J2 p) J67 ⟨[(0, .ptr 0 0), (4, .ptr 1 0), (5, .ptr 2 0)], [.box (List.map AV.p (J0 b0)), .box (List.map AV.p (J3 b1)), .box (List.map AV.p (J3 b2))]⟩) = J2T o := by
 unfold J3c at h
 rcases J8 h with ⟨h1, h⟩ | ⟨h1, h⟩
 ·obtain ⟨r2, h3, h⟩ := bi h
  have f4 : ∀ ws new s, J06 ws s [0] [List.map AV.p (J0 b0)] → (Jl (AF (J2 p)) Ji ([.ptr 0 0, .p (.i .i64 6)], ws) 0 new).run s = some ⟨.p (.i .i64 r2.1), ws ++ [(0, .box (List.map AV.p (J0 r2.2)))]⟩ := JZ (args' := [.ptr 0 0, .p (.i .i64 6)]) (bs := [0]) (css := [List.map AV.p (J0 b0)]) (css' := [List.map AV.p (J0 r2.2)]) rfl rfl rfl (by simp [Jt, Jh]) (JT p h3) rfl rfl (by simp [Jt, Jh])
  try simp only [Nf] at f4
  try simp only [↓Da, Ua, J67, J4, J1, J6, J9, *, ↓reduceIte, reduceEqDiff, reduceAdd, reduceLT, reduceMul]
  have e0 := Jdp p h
  exact e0
 ·try simp only [↓Da, Ua, J67, J4, J1, J6, J9, *, ↓reduceIte, reduceEqDiff, reduceAdd, reduceLT, reduceMul]
  have e0 := Jav p h
  exact e0
def J2Z (b0 : T_pagemenddraw_Codes) (x1 : Int) : Option (T_api_Page × T_pagemenddraw_Codes) :=
 Option.bind (JH b0 50) fun r1 =>
 Option.bind (JH r1.2 10) fun r4 =>
 if ((r4.1 : Int) == 9) then
  Option.bind (JH r4.2 2) fun r8 =>
  J3c r8.2 (⟨0, 0, (Vector.replicate 16 (⟨false, []⟩ : Ja))⟩ : T_api_Page) (⟨x1, (IntKind.wrap .i64 (1099511627776 - r8.1)), (Vector.replicate 16 (⟨false, []⟩ : Ja))⟩ : T_api_Page)
 else
  J3c r4.2 (⟨0, 0, (Vector.replicate 16 (⟨false, []⟩ : Ja))⟩ : T_api_Page) (⟨x1, r1.1, (Vector.replicate 16 (⟨false, []⟩ : Ja))⟩ : T_api_Page)
theorem Jdm {b0 : T_pagemenddraw_Codes} {x1 : Int} {o : T_api_Page × T_pagemenddraw_Codes} (h : J2Z b0 x1 = some o) :
  rk (J2 p) J0F 1 [] (X (J2 p) J2V ⟨[(0, .ptr 0 0), (1, .p (.i .i64 x1))], [.box (List.map AV.p (J0 b0))]⟩) = J2T o := by
 unfold J2Z at h
 obtain ⟨r1, h2, h⟩ := bi h
 have f3 : ∀ ws new s, J06 ws s [0] [List.map AV.p (J0 b0)] → (Jl (AF (J2 p)) Ji ([.ptr 0 0, .p (.i .i64 50)], ws) 0 new).run s = some ⟨.p (.i .i64 r1.1), ws ++ [(0, .box (List.map AV.p (J0 r1.2)))]⟩ := JZ (args' := [.ptr 0 0, .p (.i .i64 50)]) (bs := [0]) (css := [List.map AV.p (J0 b0)]) (css' := [List.map AV.p (J0 r1.2)]) rfl rfl rfl (by simp [Jt, Jh]) (JT p h2) rfl rfl (by simp [Jt, Jh])
 try simp only [Nf] at f3
 obtain ⟨r4, h5, h⟩ := bi h
 have f6 : ∀ ws new s, J06 ws s [0] [List.map AV.p (J0 r1.2)] → (Jl (AF (J2 p)) Ji ([.ptr 0 0, .p (.i .i64 10)], ws) 0 new).run s = some ⟨.p (.i .i64 r4.1), ws ++ [(0, .box (List.map AV.p (J0 r4.2)))]⟩ := JZ (args' := [.ptr 0 0, .p (.i .i64 10)]) (bs := [0]) (css := [List.map AV.p (J0 r1.2)]) (css' := [List.map AV.p (J0 r4.2)]) rfl rfl rfl (by simp [Jt, Jh]) (JT p h5) rfl rfl (by simp [Jt, Jh])
 try simp only [Nf] at f6
 try simp only [↓Da, Ua, J2V, J4, J1, J6, J9, *, ↓reduceIte, reduceEqDiff, reduceAdd, reduceLT, reduceMul]
 rcases J8 h with ⟨h7, h⟩ | ⟨h7, h⟩
 ·have h7n : ((r4.1 : Int) != 9) = false := by rw [bne, h7]; rfl
  obtain ⟨r8, h9, h⟩ := bi h
  have f10 : ∀ ws new s, J06 ws s [0] [List.map AV.p (J0 r4.2)] → (Jl (AF (J2 p)) Ji ([.ptr 0 0, .p (.i .i64 2)], ws) 0 new).run s = some ⟨.p (.i .i64 r8.1), ws ++ [(0, .box (List.map AV.p (J0 r8.2)))]⟩ := JZ (args' := [.ptr 0 0, .p (.i .i64 2)]) (bs := [0]) (css := [List.map AV.p (J0 r4.2)]) (css' := [List.map AV.p (J0 r8.2)]) rfl rfl rfl (by simp [Jt, Jh]) (JT p h9) rfl rfl (by simp [Jt, Jh])
  try simp only [Nf] at f10
  try simp only [↓Da, Ua, J2V, J4, J1, J6, J9, *, ↓reduceIte, reduceEqDiff, reduceAdd, reduceLT, reduceMul]
  have e0 := Jas p h
  exact e0
 ·have h7n : ((r4.1 : Int) != 9) = true := by rw [bne, h7]; rfl
  try simp only [↓Da, Ua, J2V, J4, J1, J6, J9, *, ↓reduceIte, reduceEqDiff, reduceAdd, reduceLT, reduceMul]
  have e0 := Jas p h
  exact e0
theorem Jgz {b0 : T_pagemenddraw_Codes} {x1 : Int} {o : T_api_Page × T_pagemenddraw_Codes} (h : J2Z b0 x1 = some o) : AF (J2 p) J4e [.ptr 0 0, .p (.i .i64 x1)] [.box (List.map AV.p (J0 b0))] = J2T o :=
 (J0c (J2 p) (JgK p) rfl).trans (Jdm p h)
end
end Go.Am
end
section
namespace Go.Am
set_option maxRecDepth 8000
set_option maxHeartbeats 4000000
set_option linter.unusedSimpArgs false
set_option linter.unusedVariables false
noncomputable section
variable (p : FuncId → Option (List AV → List Blk → Option Res))
def JeL  (r : (List UInt8)) : Option Res := some (.p (.s r), [])
def J4m  : Option ((List UInt8)) :=
 Option.bind (J2e 256) fun r1 =>
 some r1
theorem Jgk  {o : (List UInt8)} (h : J4m = some o) :
  rk (J2 p) J68 0 [] (X (J2 p) J7F ⟨[], []⟩) = JeL o := by
 unfold J4m at h
 obtain ⟨r1, h2, h⟩ := bi h
 have f3 := Jbe p h2
 try simp only [Nf] at f3
 obtain rfl := sj h
 try simp only [↓Da, Ua, J7F, Jlu, *, ↓reduceIte, reduceEqDiff, reduceAdd, reduceLT, reduceMul]
 rfl
theorem JlA  {o : (List UInt8)} (h : J4m = some o) : AF (J2 p) J5k [] [] = JeL o :=
 (J0c (J2 p) (JlN p) rfl).trans (Jgk p h)
theorem JeA  {o : (List UInt8)} (h : J4m = some o) : ∀ ws new st, (Jl (AF (J2 p)) J5k ([], ws) 0 new).run st = some ⟨.p (.s o), ws⟩ := Ju rfl (JlA p h) rfl
def Jfm  (r : (List UInt8)) : Option Res := some (.p (.s r), [])
def J5X  : Option ((List UInt8)) :=
 Option.bind (J3u ([0]) 256) fun r1 =>
 some r1
theorem Jhr  {o : (List UInt8)} (h : J5X = some o) :
  rk (J2 p) J7g 0 [] (X (J2 p) J8s ⟨[], []⟩) = Jfm o := by
 unfold J5X at h
 obtain ⟨r1, h2, h⟩ := bi h
 have f3 := J9v p h2
 try simp only [Nf] at f3
 obtain rfl := sj h
 try simp only [↓Da, Ua, J8s, Jnk, *, ↓reduceIte, reduceEqDiff, reduceAdd, reduceLT, reduceMul]
 rfl
theorem Jmt  {o : (List UInt8)} (h : J5X = some o) : AF (J2 p) J7k [] [] = Jfm o :=
 (J0c (J2 p) (Jnt p) rfl).trans (Jhr p h)
theorem JmO  {o : (List UInt8)} (h : J5X = some o) : ∀ ws new st, (Jl (AF (J2 p)) J7k ([], ws) 0 new).run st = some ⟨.p (.s o), ws⟩ := Ju rfl (Jmt p h) rfl
def JfR  (r : Bool) : Option Res := some (.p (.b r), [])
def J62 (x0 x1 : T_api_Image) : Option (Bool) :=
 if ((x0.ID : Int) == x1.ID) then
  if ((x0.Pages : Int) == x1.Pages) then
   Option.bind (J0B x0.Copies x1.Copies) fun r3 =>
   some r3
  else
   some false
 else
  some false
theorem Jib {x0 x1 : T_api_Image} {o : Bool} (h : J62 x0 x1 = some o) :
  rk (J2 p) J7n 0 [] (X (J2 p) J4W ⟨[(0, .data (J7 x0)), (1, .data (J7 x1))], []⟩) = JfR o := by
 unfold J62 at h
 rcases J8 h with ⟨h1, h⟩ | ⟨h1, h⟩
 ·try simp only [↓Da, Ua, J4W, Jd, Je, *, ↓reduceIte, reduceEqDiff, reduceAdd, reduceLT, reduceMul]
  rcases J8 h with ⟨h2, h⟩ | ⟨h2, h⟩
  ·obtain ⟨r3, h4, h⟩ := bi h
   have f5 := J9z p h4
   try simp only [Nf] at f5
   obtain rfl := sj h
   try simp only [↓Da, Ua, J4W, Jd, Je, Jcc, *, ↓reduceIte, reduceEqDiff, reduceAdd, reduceLT, reduceMul]
   rfl
  ·obtain rfl := sj h
   try simp only [↓Da, Ua, J4W, Jd, Je, Jcc, *, ↓reduceIte, reduceEqDiff, reduceAdd, reduceLT, reduceMul]
   rfl
 ·obtain rfl := sj h
  try simp only [↓Da, Ua, J4W, Jd, Je, Jcc, *, ↓reduceIte, reduceEqDiff, reduceAdd, reduceLT, reduceMul]
  rfl
theorem Jnu {x0 x1 : T_api_Image} {o : Bool} (h : J62 x0 x1 = some o) : AF (J2 p) J5V [.data (J7 x0), .data (J7 x1)] [] = JfR o :=
 (J0c (J2 p) (Jne p) rfl).trans (Jib p h)
theorem JmT {x0 x1 : T_api_Image} {o : Bool} (h : J62 x0 x1 = some o) : ∀ ws new st, (Jl (AF (J2 p)) J5V ([.data (J7 x0), .data (J7 x1)], ws) 0 new).run st = some ⟨.p (.b o), ws⟩ := Ju rfl (Jnu p h) rfl
def Jan  (r : Bool) : Option Res := some (.p (.b r), [])
def J2r (x0 x1 : List UInt8) : Option (Bool) :=
 Option.bind (J0x x0 x1) fun r1 =>
 some r1
theorem Jcs {x0 x1 : List UInt8} {o : Bool} (h : J2r x0 x1 = some o) :
  rk (J2 p) J3b 0 [] (X (J2 p) J4w ⟨[(0, .p (.s x0)), (1, .p (.s x1))], []⟩) = Jan o := by
 unfold J2r at h
 obtain ⟨r1, h2, h⟩ := bi h
 have f3 := J9D p h2
 try simp only [Nf] at f3
 obtain rfl := sj h
 try simp only [↓Da, Ua, J4w, Jf2, *, ↓reduceIte, reduceEqDiff, reduceAdd, reduceLT, reduceMul]
 rfl
theorem Jf8 {x0 x1 : List UInt8} {o : Bool} (h : J2r x0 x1 = some o) : AF (J2 p) J37 [.p (.s x0), .p (.s x1)] [] = Jan o :=
 (J0c (J2 p) (Jf1 p) rfl).trans (Jcs p h)
theorem Jf4 {x0 x1 : List UInt8} {o : Bool} (h : J2r x0 x1 = some o) : ∀ ws new st, (Jl (AF (J2 p)) J37 ([.p (.s x0), .p (.s x1)], ws) 0 new).run st = some ⟨.p (.b o), ws⟩ := Ju rfl (Jf8 p h) rfl
def J6z (x0 : List UInt8) (x1 : Int) : Option ((List UInt8) × Int × Int) :=
 if (decide (x1 < 0)) then
  some (([] : List UInt8), 0, 1)
 else
  if (decide (x1 > ((List.length x0 : Nat) : Int))) then
   some (([] : List UInt8), 0, 1)
  else
   Option.bind (J1n x0 x1 4) fun r3 =>
   if ((r3.2 : Int) != 0) then
    some (([] : List UInt8), 0, 5)
   else
    if (decide (r3.1 > 8392)) then
     some (([] : List UInt8), 0, 2)
    else
     if (decide ((IntKind.wrap .i64 (((List.length x0 : Nat) : Int) - x1)) < (IntKind.wrap .i64 (r3.1 + 8)))) then
      some (([] : List UInt8), 0, 5)
     else
      Option.bind (J1n x0 (IntKind.wrap .i64 ((IntKind.wrap .i64 (x1 + 4)) + r3.1)) 4) fun r9 =>
      Option.bind (J1i x0 (some x1) (some (IntKind.wrap .i64 ((IntKind.wrap .i64 (x1 + 4)) + r3.1)))) fun m12 =>
      Option.bind (J5B m12) fun r15 =>
      if (((IntKind.wrap .u32 r9.1) : Int) != r15) then
       some (([] : List UInt8), 0, 3)
      else
       Option.bind (J1i x0 (some (IntKind.wrap .i64 (x1 + 4))) (some (IntKind.wrap .i64 ((IntKind.wrap .i64 (x1 + 4)) + r3.1)))) fun m19 =>
       some (m19, (IntKind.wrap .i64 ((IntKind.wrap .i64 (x1 + 8)) + r3.1)), 0)
def J3I (x0 : List UInt8) (x1 x2 : Int) : Option (Int) :=
 Option.bind (J1n x0 x1 x2) fun r1 =>
 some r1.1
def Jes  (r : Bool) : Option Res := some (.p (.b r), [])
def J1t (x0 : T_api_Page) : Option (Bool) :=
 Option.bind (J1y x0.ID) fun r1 =>
 if r1 then
  if (decide (x0.LSN ≥ 0)) then
   some (decide (x0.LSN ≤ 1099511627776))
  else
   some false
 else
  some false
theorem JgQ {x0 : T_api_Page} {o : Bool} (h : J1t x0 = some o) :
  rk (J2 p) J6o 0 [] (X (J2 p) J3n ⟨[(0, .data (J3 x0))], []⟩) = Jes o := by
 unfold J1t at h
 obtain ⟨r1, h2, h⟩ := bi h
 have f3 := Jfk p h2
 try simp only [Nf] at f3
 try simp only [↓Da, Ua, J3n, J4, J1, J6, *, ↓reduceIte, reduceEqDiff, reduceAdd, reduceLT, reduceMul]
 rcases J8 h with ⟨h4, h⟩ | ⟨h4, h⟩
 ·try simp only [↓Da, Ua, J3n, J4, J1, J6, *, ↓reduceIte, reduceEqDiff, reduceAdd, reduceLT, reduceMul]
  rcases J8 h with ⟨h5, h⟩ | ⟨h5, h⟩
  ·obtain rfl := sj h
   try simp only [↓Da, Ua, J3n, J4, J1, J6, Jbd, *, ↓reduceIte, reduceEqDiff, reduceAdd, reduceLT, reduceMul]
   rfl
  ·obtain rfl := sj h
   try simp only [↓Da, Ua, J3n, J4, J1, J6, Jbd, *, ↓reduceIte, reduceEqDiff, reduceAdd, reduceLT, reduceMul]
   rfl
 ·obtain rfl := sj h
  try simp only [↓Da, Ua, J3n, J4, J1, J6, Jbd, *, ↓reduceIte, reduceEqDiff, reduceAdd, reduceLT, reduceMul]
  rfl
theorem Jlj {x0 : T_api_Page} {o : Bool} (h : J1t x0 = some o) : AF (J2 p) J6m [.data (J3 x0)] [] = Jes o :=
 (J0c (J2 p) (JlI p) rfl).trans (JgQ p h)
theorem Jlz {x0 : T_api_Page} {o : Bool} (h : J1t x0 = some o) : ∀ ws new st, (Jl (AF (J2 p)) J6m ([.data (J3 x0)], ws) 0 new).run st = some ⟨.p (.b o), ws⟩ := Ju rfl (Jlj p h) rfl
def J88  (r : T_page_builder) : Option Res := some (.tup [], [.box (List.map AV.p (J0v r))])
def J1d (x4 : Int) (b0 : T_page_builder) (b1 : Ja) : Option (T_page_builder) :=
 Option.bind (J0e b0.s_ x4 1) fun r1 =>
 Option.bind (J3z r1 b1.Data) fun s5 =>
 Option.bind (J3u ([0]) (IntKind.wrap .i64 (12 - ((List.length b1.Data : Nat) : Int)))) fun r7 =>
 Option.bind (J3z s5 r7) fun s11 =>
 some (⟨s11⟩ : T_page_builder)
theorem J9H {x4 : Int} {b0 : T_page_builder} {b1 : Ja} {o : T_page_builder} (h : J1d x4 b0 b1 = some o) :
  rk (J2 p) J2s 1 [] (X (J2 p) J7f ⟨[(0, .ptr 0 0), (3, .ptr 1 0), (4, .p (.i .i64 x4))], [.box (List.map AV.p (J0v b0)), .box (List.map AV.p (Jf b1))]⟩) = J88 o := by
 unfold J1d at h
 obtain ⟨r1, h2, h⟩ := bi h
 have f3 := J6R p h2
 try simp only [Nf, Jy] at f3
 have f4 : ∀ ws k new s, Jc ((Jl (AF (J2 p)) J1k ([.p (.s b0.s_), .p (.i .i64 x4), .p (.i .i64 1)], ws) k new).reads s) = [] := J0q rfl
 try simp only [Nf, Jy] at f4
 obtain ⟨s5, h6, h⟩ := bi h
 obtain ⟨r7, h8, h⟩ := bi h
 have f9 := J9v p h8
 try simp only [Nf, Jy] at f9
 have f10 : ∀ ws k new s, Jc ((Jl (AF (J2 p)) J24 ([.p (.s [0]), .p (.i .i64 (IntKind.wrap .i64 (12 - ((List.length b1.Data : Nat) : Int))))], ws) k new).reads s) = [] := J0q rfl
 try simp only [Nf, Jy] at f10
 obtain ⟨s11, h12, h⟩ := bi h
 obtain rfl := sj h
 try simp only [↓Da, Ua, Ra, J7f, J4, Jy, Jf0, *, ↓reduceIte, reduceEqDiff, reduceAdd, reduceLT, reduceMul, Nat.reduceBEq]
 rfl
def J1G (b0 : T_page_builder) (x1 : Ja) : Option (T_page_builder) :=
 if x1.Set then
  J1d ((List.length x1.Data : Nat) : Int) b0 x1
 else
  J1d 255 b0 x1
theorem Jcr {b0 : T_page_builder} {x1 : Ja} {o : T_page_builder} (h : J1G b0 x1 = some o) :
  rk (J2 p) J2s 1 [] (X (J2 p) J38 ⟨[(0, .ptr 0 0), (1, .data (Jf x1))], [.box (List.map AV.p (J0v b0))]⟩) = J88 o := by
 unfold J1G at h
 rcases J8 h with ⟨h1, h⟩ | ⟨h1, h⟩
 ·try simp only [↓Da, Ua, J38, J4, Jy, *, ↓reduceIte, reduceEqDiff, reduceAdd, reduceLT, reduceMul]
  have e0 := J9H p h
  first | exact e0 | (simp only [*] at e0; exact e0)
 ·try simp only [↓Da, Ua, J38, J4, Jy, *, ↓reduceIte, reduceEqDiff, reduceAdd, reduceLT, reduceMul]
  have e0 := J9H p h
  first | exact e0 | (simp only [*] at e0; exact e0)
theorem JeZ {b0 : T_page_builder} {x1 : Ja} {o : T_page_builder} (h : J1G b0 x1 = some o) : AF (J2 p) J0Q [.ptr 0 0, .data (Jf x1)] [.box (List.map AV.p (J0v b0))] = J88 o :=
 (J0c (J2 p) (JeW p) rfl).trans (Jcr p h)
def J7R  (r : Int) : Option Res := some (.p (.i .u32 r), [])
def JlB (x0 : List UInt8) (x8 : Int) (b0 : Vector Int 16) (o : (Int × Int) ⊕ (Int)) : Option Res := match o with
 | .inl s => rk (J2 p) J3j 0 [.bl 0, .sq (.keep [4] J5h)] (X (J2 p) (.lp 1 [0, 3, 4, 8, 9] J4k) ⟨[(0, .p (.s x0)), (3, .ptr 0 0), (4, .p (.i .u32 s.1)), (8, .p (.i .i64 x8)), (9, .p (.i .i64 s.2))], [.box (List.map AV.p ((JU (r_i .u32)) b0))]⟩)
 | .inr o => J7R o
def J7K (x4 : Int) : Option (Int) :=
 some (JpI .u32 x4)
theorem Jlg {x4 : Int} {B0 : List PV} {o : Int} (h : J7K x4 = some o) :
  rk (J2 p) J3j 0 [] (X (J2 p) J5h ⟨[(4, .p (.i .u32 x4))], [.box (List.map AV.p B0)]⟩) = J7R o := by
 unfold J7K at h
 obtain rfl := sj h
 try simp only [↓Da, Ua, J5h, Jof, ↓reduceIte, reduceEqDiff, reduceAdd, reduceLT, reduceMul]
 rfl
def J2I (x0 : List UInt8) (x8 : Int) (b0 : Vector Int 16) (x4 x9 : Int) : Option (((Int × Int) ⊕ (Int))) :=
 if (decide (x9 < x8)) then
  Option.bind (JbO x0 x9) fun c2 =>
  Option.bind (J8b .u32 (J4E .u32 x4 (IntKind.wrap .u32 c2)) 4) fun q4 =>
  Option.bind (inb 16 (J4L .u32 (J4E .u32 x4 (IntKind.wrap .u32 c2)) 15)) fun u6 =>
  Option.bind (J85 b0 (J4L .u32 (J4E .u32 x4 (IntKind.wrap .u32 c2)) 15)) fun y9 =>
  Option.bind (J8b .u32 (J4E .u32 q4 y9) 4) fun q12 =>
  Option.bind (inb 16 (J4L .u32 (J4E .u32 q4 y9) 15)) fun u14 =>
  Option.bind (J85 b0 (J4L .u32 (J4E .u32 q4 y9) 15)) fun y17 =>
  some (.inl ((J4E .u32 q12 y17), (IntKind.wrap .i64 (x9 + 1))))
 else
  Option.map (fun o => .inr o) (J7K x4)
theorem JeC {x0 : List UInt8} {x8 : Int} {b0 : Vector Int 16} {x4 x9 : Int} {o : ((Int × Int) ⊕ (Int))} (h : J2I x0 x8 b0 x4 x9 = some o) :
  rk (J2 p) J3j 0 [.lo 1 [0, 3, 4, 8, 9] J4k, .bl 0, .sq (.keep [4] J5h)] (X (J2 p) J4k ⟨[(0, .p (.s x0)), (3, .ptr 0 0), (4, .p (.i .u32 x4)), (8, .p (.i .i64 x8)), (9, .p (.i .i64 x9))], [.box (List.map AV.p ((JU (r_i .u32)) b0))]⟩) = (JlB p x0 x8 b0) o := by
 unfold J2I at h
 rcases J8 h with ⟨h1, h⟩ | ⟨h1, h⟩
 ·obtain ⟨c2, h3, h⟩ := bi h
  obtain ⟨q4, h5, h⟩ := bi h
  obtain ⟨u6, h7, h⟩ := bi h
  have f8 : (0 ≤ ((J4L .u32 (J4E .u32 x4 (IntKind.wrap .u32 c2)) 15) : Int) ∧ ((J4L .u32 (J4E .u32 x4 (IntKind.wrap .u32 c2)) 15) : Int) < ((16 : Nat) : Int)) = True := eq_true (J8M h7)
  obtain ⟨y9, h10, h⟩ := bi h
  have f11 : sub ((JU (r_i .u32)) b0) (Int.toNat (J4L .u32 (J4E .u32 x4 (IntKind.wrap .u32 c2)) 15) * 1) 1 = some ((r_i .u32) y9) := by
   have e0 := (J91 (v := b0) (JaK .u32) (J4H h10).2)
   exact e0
  try simp only [Nf] at f11
  obtain ⟨q12, h13, h⟩ := bi h
  obtain ⟨u14, h15, h⟩ := bi h
  have f16 : (0 ≤ ((J4L .u32 (J4E .u32 q4 y9) 15) : Int) ∧ ((J4L .u32 (J4E .u32 q4 y9) 15) : Int) < ((16 : Nat) : Int)) = True := eq_true (J8M h15)
  obtain ⟨y17, h18, h⟩ := bi h
  have f19 : sub ((JU (r_i .u32)) b0) (Int.toNat (J4L .u32 (J4E .u32 q4 y9) 15) * 1) 1 = some ((r_i .u32) y17) := by
   have e0 := (J91 (v := b0) (JaK .u32) (J4H h18).2)
   exact e0
  try simp only [Nf] at f19
  obtain rfl := sj h
  try simp only [↓Da, Ua, J4k, J6N, *, ↓reduceIte, reduceEqDiff, reduceAdd, reduceLT, reduceMul]
  rfl
 ·obtain ⟨o', h', rfl⟩ := mi h
  try simp only [↓Da, Ua, J4k, J6N, *, ↓reduceIte, reduceEqDiff, reduceAdd, reduceLT, reduceMul]
  have e0 := Jlg p (B0 := ((JU (r_i .u32)) b0)) h'
  exact e0
def JeR (x0 : List UInt8) (x8 : Int) (b0 : Vector Int 16) (s : Int × Int) : Option (Int) :=
 Jv (fun s => J2I x0 x8 b0 s.1 s.2) s
theorem Jjt {x0 : List UInt8} {x8 : Int} {b0 : Vector Int 16} {s : Int × Int} {o : Int} (h : JeR x0 x8 b0 s = some o) :
  rk (J2 p) J3j 0 [.bl 0, .sq (.keep [4] J5h)] (X (J2 p) (.lp 1 [0, 3, 4, 8, 9] J4k) ⟨[(0, .p (.s x0)), (3, .ptr 0 0), (4, .p (.i .u32 s.1)), (8, .p (.i .i64 x8)), (9, .p (.i .i64 s.2))], [.box (List.map AV.p ((JU (r_i .u32)) b0))]⟩) = J7R o := by
 have h0 : Jv (fun s => J2I x0 x8 b0 s.1 s.2) s = some o := h
 exact J0p (P := fun (s : Int × Int) (o : Int) => rk (J2 p) J3j 0 [.bl 0, .sq (.keep [4] J5h)] (X (J2 p) (.lp 1 [0, 3, 4, 8, 9] J4k) ⟨[(0, .p (.s x0)), (3, .ptr 0 0), (4, .p (.i .u32 s.1)), (8, .p (.i .i64 x8)), (9, .p (.i .i64 s.2))], [.box (List.map AV.p ((JU (r_i .u32)) b0))]⟩) = J7R o) (fun s r hs => by rw [J0n]; exact JeC p hs) (fun s s1 r hs ih => by rw [J0n]; exact (JeC p hs).trans ih) h0
def J1W (x0 : List UInt8) : Option (Int) :=
 Option.bind (J2G) fun r1 =>
 JeR x0 ((List.length x0 : Nat) : Int) r1 (4294967295, 0)
theorem Jj7 {x0 : List UInt8} {o : Int} (h : J1W x0 = some o) :
  rk (J2 p) J3j 0 [] (X (J2 p) J8Y ⟨[(0, .p (.s x0))], []⟩) = J7R o := by
 unfold J1W at h
 obtain ⟨r1, h2, h⟩ := bi h
 have f3 := Jfx p h2
 try simp only [Nf] at f3
 try simp only [↓Da, Ua, J8Y, J6N, *, ↓reduceIte, reduceEqDiff, reduceAdd, reduceLT, reduceMul]
 have e0 := Jjt p h
 exact e0
theorem Joj {x0 : List UInt8} {o : Int} (h : J1W x0 = some o) : AF (J2 p) J3P [.p (.s x0)] [] = J7R o :=
 (J0c (J2 p) (Joq p) rfl).trans (Jj7 p h)
theorem JaL {x0 : List UInt8} {o : Int} (h : J1W x0 = some o) : ∀ ws new st, (Jl (AF (J2 p)) J3P ([.p (.s x0)], ws) 0 new).run st = some ⟨.p (.i .u32 o), ws⟩ := Ju rfl (Joj p h) rfl
def J18 (x0 : List T_api_Copy) (x1 x8 x9 : Int) : Option (Int × Bool) :=
 if (decide (x9 < x8)) then
  Option.bind (idx x0 x9) fun y2 =>
  Option.bind (J7w y2 x1) fun r5 =>
  some (x9, ((r5 : Int) == 0))
 else
  some (x9, false)
def J1a (x0 : List T_api_Copy) (x1 x8 : Int) (x9 x10 : Int) : Option (((Int × Int) ⊕ (Int × Bool))) :=
 if (decide (x9 < x10)) then
  Option.bind (J8b .u64 (IntKind.wrap .u64 (IntKind.wrap .i64 (x9 + x10))) 1) fun q2 =>
  Option.bind (idx x0 (IntKind.wrap .i64 q2)) fun y4 =>
  Option.bind (J7w y4 x1) fun r7 =>
  if (decide (r7 < 0)) then
   some (.inl ((IntKind.wrap .i64 ((IntKind.wrap .i64 q2) + 1)), x10))
  else
   some (.inl (x9, (IntKind.wrap .i64 q2)))
 else
  Option.map (fun o => .inr o) (J18 x0 x1 x8 x9)
def J04 (x0 : List T_api_Copy) (x1 x8 : Int) (s : Int × Int) : Option (Int × Bool) :=
 Jv (fun s => J1a x0 x1 x8 s.1 s.2) s
def J1f (x0 : List T_api_Copy) (x1 : Int) : Option (Int × Bool) :=
 J04 x0 x1 ((List.length x0 : Nat) : Int) (0, ((List.length x0 : Nat) : Int))
def Jbm (x0 : T_api_Image) (x1 : Int) : Option (Int × Bool) :=
 Option.bind (J1f x0.Copies x1) fun r1 =>
 some (r1.1, r1.2)
def J6s  (r : Bool) : Option Res := some (.p (.b r), [])
def Jj6 (b0 : T_api_Page) (o : (Int) ⊕ (Bool)) : Option Res := match o with
 | .inl s => rk (J2 p) J2c 0 [.bl 0, .sq (.keep [] J40)] (X (J2 p) (.lp 1 [1, 3] J0t) ⟨[(1, .ptr 0 0), (3, .p (.i .i64 s))], [.box (List.map AV.p (J3 b0))]⟩)
 | .inr o => J6s o
def J8d  : Option (Bool) :=
 some true
theorem Jj4 {B0 : List PV} {o : Bool} (h : J8d = some o) :
  rk (J2 p) J2c 0 [] (X (J2 p) J40 ⟨[], [.box (List.map AV.p B0)]⟩) = J6s o := by
 unfold J8d at h
 obtain rfl := sj h
 try simp only [↓Da, Ua, J40, Jb0, ↓reduceIte, reduceEqDiff, reduceAdd, reduceLT, reduceMul]
 rfl
def J1w (b0 : T_api_Page) (x3 : Int) : Option (((Int) ⊕ (Bool))) :=
 if (decide (x3 < 16)) then
  Option.bind (inb 16 x3) fun u2 =>
  Option.bind (J85 b0.Cells x3) fun y5 =>
  Option.bind (J0l y5) fun r8 =>
  if r8 then
   if ((b0.LSN : Int) == 0) then
    if y5.Set then
     some (.inr false)
    else
     some (.inl (IntKind.wrap .i64 (x3 + 1)))
   else
    some (.inl (IntKind.wrap .i64 (x3 + 1)))
  else
   some (.inr false)
 else
  Option.map (fun o => .inr o) (J8d)
theorem JcV {b0 : T_api_Page} {x3 : Int} {o : ((Int) ⊕ (Bool))} (h : J1w b0 x3 = some o) :
  rk (J2 p) J2c 0 [.lo 1 [1, 3] J0t, .bl 0, .sq (.keep [] J40)] (X (J2 p) J0t ⟨[(1, .ptr 0 0), (3, .p (.i .i64 x3))], [.box (List.map AV.p (J3 b0))]⟩) = (Jj6 p b0) o := by
 unfold J1w at h
 rcases J8 h with ⟨h1, h⟩ | ⟨h1, h⟩
 ·obtain ⟨u2, h3, h⟩ := bi h
  have f4 : (0 ≤ (x3 : Int) ∧ (x3 : Int) < ((16 : Nat) : Int)) = True := eq_true (J8M h3)
  obtain ⟨y5, h6, h⟩ := bi h
  have f7 : sub (J3 b0) (2 + Int.toNat x3 * 2) 2 = some (Jf y5) := by
   have e0 := (J77 (J0Z b0) (J91 (v := b0.Cells) JP (J4H h6).2))
   exact e0
  try simp only [Nf] at f7
  obtain ⟨r8, h9, h⟩ := bi h
  have f10 := Jgi p h9
  try simp only [Nf] at f10
  try simp only [↓Da, Ua, J0t, J4, J1, J6, *, ↓reduceIte, reduceEqDiff, reduceAdd, reduceLT, reduceMul]
  rcases J8 h with ⟨h11, h⟩ | ⟨h11, h⟩
  ·try simp only [↓Da, Ua, J0t, J4, J1, J6, *, ↓reduceIte, reduceEqDiff, reduceAdd, reduceLT, reduceMul]
   rcases J8 h with ⟨h12, h⟩ | ⟨h12, h⟩
   ·have h12n : ((b0.LSN : Int) != 0) = false := by rw [bne, h12]; rfl
    have f13 : sub (J3 b0) (2 + Int.toNat x3 * 2) 1 = some (r_b y5.Set) := by
     have e0 := (J77 (J77 (J0Z b0) (J91 (v := b0.Cells) JP (J4H h6).2)) (J9A y5))
     exact e0
    try simp only [Nf] at f13
    try simp only [↓Da, Ua, J0t, J4, J1, J6, *, ↓reduceIte, reduceEqDiff, reduceAdd, reduceLT, reduceMul]
    rcases J8 h with ⟨h14, h⟩ | ⟨h14, h⟩
    ·obtain rfl := sj h
     try simp only [↓Da, Ua, J0t, J4, J1, J6, Jb0, *, ↓reduceIte, reduceEqDiff, reduceAdd, reduceLT, reduceMul]
     rfl
    ·obtain rfl := sj h
     try simp only [↓Da, Ua, J0t, J4, J1, J6, *, ↓reduceIte, reduceEqDiff, reduceAdd, reduceLT, reduceMul]
     rfl
   ·have h12n : ((b0.LSN : Int) != 0) = true := by rw [bne, h12]; rfl
    obtain rfl := sj h
    try simp only [↓Da, Ua, J0t, J4, J1, J6, *, ↓reduceIte, reduceEqDiff, reduceAdd, reduceLT, reduceMul]
    rfl
  ·obtain rfl := sj h
   try simp only [↓Da, Ua, J0t, J4, J1, J6, Jb0, *, ↓reduceIte, reduceEqDiff, reduceAdd, reduceLT, reduceMul]
   rfl
 ·obtain ⟨o', h', rfl⟩ := mi h
  try simp only [↓Da, Ua, J0t, J4, J1, J6, *, ↓reduceIte, reduceEqDiff, reduceAdd, reduceLT, reduceMul]
  have e0 := Jj4 p (B0 := (J3 b0)) h'
  first | exact e0 | (simp only [*] at e0; exact e0)
def JcK (b0 : T_api_Page) (s : Int) : Option (Bool) :=
 Jv (fun s => J1w b0 s) s
theorem JgS {b0 : T_api_Page} {s : Int} {o : Bool} (h : JcK b0 s = some o) :
  rk (J2 p) J2c 0 [.bl 0, .sq (.keep [] J40)] (X (J2 p) (.lp 1 [1, 3] J0t) ⟨[(1, .ptr 0 0), (3, .p (.i .i64 s))], [.box (List.map AV.p (J3 b0))]⟩) = J6s o := by
 have h0 : Jv (fun s => J1w b0 s) s = some o := h
 exact J0p (P := fun (s : Int) (o : Bool) => rk (J2 p) J2c 0 [.bl 0, .sq (.keep [] J40)] (X (J2 p) (.lp 1 [1, 3] J0t) ⟨[(1, .ptr 0 0), (3, .p (.i .i64 s))], [.box (List.map AV.p (J3 b0))]⟩) = J6s o) (fun s r hs => by rw [J0n]; exact JcV p hs) (fun s s1 r hs ih => by rw [J0n]; exact (JcV p hs).trans ih) h0
def J5e (x0 : T_api_Page) : Option (Bool) :=
 JcK x0 0
theorem Jgy {x0 : T_api_Page} {o : Bool} (h : J5e x0 = some o) :
  rk (J2 p) J2c 0 [] (X (J2 p) J7L ⟨[(0, .data (J3 x0))], []⟩) = J6s o := by
 unfold J5e at h
 try simp only [↓Da, Ua, J7L, J4, J1, J6, ↓reduceIte, reduceEqDiff, reduceAdd, reduceLT, reduceMul]
 have e0 := JgS p h
 first | exact e0 | (simp only [*] at e0; exact e0)
theorem Jle {x0 : T_api_Page} {o : Bool} (h : J5e x0 = some o) : AF (J2 p) J6d [.data (J3 x0)] [] = J6s o :=
 (J0c (J2 p) (Jlf p) rfl).trans (Jgy p h)
theorem Jlh {x0 : T_api_Page} {o : Bool} (h : J5e x0 = some o) : ∀ ws new st, (Jl (AF (J2 p)) J6d ([.data (J3 x0)], ws) 0 new).run st = some ⟨.p (.b o), ws⟩ := Ju rfl (Jle p h) rfl
def J6h  (r : (List UInt8) × Int) : Option Res := some (.tup [.p (.s r.1), .p (.i .i64 r.2)], [])
def Jjg (x28 : Vector Ja 16) (b0 : T_api_Page) (o : (Int × T_page_builder) ⊕ ((List UInt8) × Int)) : Option Res := match o with
 | .inl s => rk (J2 p) J2a 0 [.bl 1, .td 2 [1, 2, 3, 4], .sq (.keep [1, 4] J41)] (X (J2 p) (.lp 2 [1, 4, 5, 28, 29] J33) ⟨[(1, .ptr 0 0), (4, .ptr 1 0), (5, .fn J0Q [.ptr 1 0] []), (28, .data ((JU Jf) x28)), (29, .p (.i .i64 s.1))], [.box (List.map AV.p (J3 b0)), .box (List.map AV.p (J0v s.2))]⟩)
 | .inr o => J6h o
def J6A (b0 : T_api_Page) (b1 : T_page_builder) : Option ((List UInt8) × Int) :=
 Option.bind (J3u ([0]) (IntKind.wrap .i64 (244 - ((List.length b1.s_ : Nat) : Int)))) fun r1 =>
 Option.bind (J3z b1.s_ r1) fun s5 =>
 Option.bind (J1W s5) fun r7 =>
 Option.bind (J0e s5 (IntKind.wrap .i64 r7) 4) fun r11 =>
 Option.bind (J0e r11 b0.LSN 8) fun r15 =>
 some (r15, 0)
theorem JiQ {b0 : T_api_Page} {b1 : T_page_builder} {o : (List UInt8) × Int} (h : J6A b0 b1 = some o) :
  rk (J2 p) J2a 0 [] (X (J2 p) J41 ⟨[(1, .ptr 0 0), (4, .ptr 1 0)], [.box (List.map AV.p (J3 b0)), .box (List.map AV.p (J0v b1))]⟩) = J6h o := by
 unfold J6A at h
 obtain ⟨r1, h2, h⟩ := bi h
 have f3 := J9v p h2
 try simp only [Nf, Jy] at f3
 have f4 : ∀ ws k new s, Jc ((Jl (AF (J2 p)) J24 ([.p (.s [0]), .p (.i .i64 (IntKind.wrap .i64 (244 - ((List.length b1.s_ : Nat) : Int))))], ws) k new).reads s) = [] := J0q rfl
 try simp only [Nf, Jy] at f4
 obtain ⟨s5, h6, h⟩ := bi h
 obtain ⟨r7, h8, h⟩ := bi h
 have f9 := JaL p h8
 try simp only [Nf, Jy] at f9
 have f10 : ∀ ws k new s, Jc ((Jl (AF (J2 p)) J3P ([.p (.s s5)], ws) k new).reads s) = [] := J0q rfl
 try simp only [Nf, Jy] at f10
 obtain ⟨r11, h12, h⟩ := bi h
 have f13 := J6R p h12
 try simp only [Nf, Jy] at f13
 have f14 : ∀ ws k new s, Jc ((Jl (AF (J2 p)) J1k ([.p (.s s5), .p (.i .i64 (IntKind.wrap .i64 r7)), .p (.i .i64 4)], ws) k new).reads s) = [] := J0q rfl
 try simp only [Nf, Jy] at f14
 obtain ⟨r15, h16, h⟩ := bi h
 have f17 := J6R p h16
 try simp only [Nf, Jy] at f17
 have f18 : ∀ ws k new s, Jc ((Jl (AF (J2 p)) J1k ([.p (.s r11), .p (.i .i64 b0.LSN), .p (.i .i64 8)], ws) k new).reads s) = [] := J0q rfl
 try simp only [Nf, Jy] at f18
 obtain rfl := sj h
 try simp only [↓Da, Ua, Ra, J41, J4, J1, J6, Jy, Jbf, *, ↓reduceIte, reduceEqDiff, reduceAdd, reduceLT, reduceMul, Nat.reduceBEq]
 rfl
def J1V (x28 : Vector Ja 16) (b0 : T_api_Page) (x29 : Int) (b1 : T_page_builder) : Option (((Int × T_page_builder) ⊕ ((List UInt8) × Int))) :=
 if (decide (x29 < 16)) then
  Option.bind (J85 x28 x29) fun y2 =>
  Option.bind (J1G b1 y2) fun r6 =>
  some (.inl ((IntKind.wrap .i64 (x29 + 1)), r6))
 else
  Option.map (fun o => .inr o) (J6A b0 b1)
theorem JcS {x28 : Vector Ja 16} {b0 : T_api_Page} {x29 : Int} {b1 : T_page_builder} {o : ((Int × T_page_builder) ⊕ ((List UInt8) × Int))} (h : J1V x28 b0 x29 b1 = some o) :
  rk (J2 p) J2a 0 [.lo 2 [1, 4, 5, 28, 29] J33, .bl 1, .td 2 [1, 2, 3, 4], .sq (.keep [1, 4] J41)] (X (J2 p) J33 ⟨[(1, .ptr 0 0), (4, .ptr 1 0), (5, .fn J0Q [.ptr 1 0] []), (28, .data ((JU Jf) x28)), (29, .p (.i .i64 x29))], [.box (List.map AV.p (J3 b0)), .box (List.map AV.p (J0v b1))]⟩) = (Jjg p x28 b0) o := by
 unfold J1V at h
 rcases J8 h with ⟨h1, h⟩ | ⟨h1, h⟩
 ·obtain ⟨y2, h3, h⟩ := bi h
  have f4 : (0 ≤ (x29 : Int) ∧ (x29 : Int) < ((16 : Nat) : Int)) = True := eq_true (J4H h3).1
  have f5 : sub (JU Jf x28) (Int.toNat x29 * 2) 2 = some (Jf y2) := J91 JP (J4H h3).2
  try simp only [Nf, Jy] at f5
  obtain ⟨r6, h7, h⟩ := bi h
  have f8 : ∀ ws new s, J06 ws s [1] [List.map AV.p (J0v b1)] → (Jl (AF (J2 p)) J0Q ([.ptr 1 0, .data (Jf y2)], ws) 0 new).run s = some ⟨.tup [], ws ++ [(1, .box (List.map AV.p (J0v r6)))]⟩ := JZ (args' := [.ptr 0 0, .data (Jf y2)]) (bs := [1]) (css := [List.map AV.p (J0v b1)]) (css' := [List.map AV.p (J0v r6)]) rfl rfl rfl (by simp [Jt, Jh]) (JeZ p h7) rfl rfl (by simp [Jt, Jh])
  try simp only [Nf, Jy] at f8
  obtain rfl := sj h
  try simp only [↓Da, Ua, J33, J4, Jy, *, ↓reduceIte, reduceEqDiff, reduceAdd, reduceLT, reduceMul]
  rfl
 ·obtain ⟨o', h', rfl⟩ := mi h
  try simp only [↓Da, Ua, J33, J4, Jy, *, ↓reduceIte, reduceEqDiff, reduceAdd, reduceLT, reduceMul]
  have e0 := JiQ p h'
  exact e0
def Jad (x28 : Vector Ja 16) (b0 : T_api_Page) (s : Int × T_page_builder) : Option ((List UInt8) × Int) :=
 Jv (fun s => J1V x28 b0 s.1 s.2) s
theorem JgI {x28 : Vector Ja 16} {b0 : T_api_Page} {s : Int × T_page_builder} {o : (List UInt8) × Int} (h : Jad x28 b0 s = some o) :
  rk (J2 p) J2a 0 [.bl 1, .td 2 [1, 2, 3, 4], .sq (.keep [1, 4] J41)] (X (J2 p) (.lp 2 [1, 4, 5, 28, 29] J33) ⟨[(1, .ptr 0 0), (4, .ptr 1 0), (5, .fn J0Q [.ptr 1 0] []), (28, .data ((JU Jf) x28)), (29, .p (.i .i64 s.1))], [.box (List.map AV.p (J3 b0)), .box (List.map AV.p (J0v s.2))]⟩) = J6h o := by
 have h0 : Jv (fun s => J1V x28 b0 s.1 s.2) s = some o := h
 exact J0p (P := fun (s : Int × T_page_builder) (o : (List UInt8) × Int) => rk (J2 p) J2a 0 [.bl 1, .td 2 [1, 2, 3, 4], .sq (.keep [1, 4] J41)] (X (J2 p) (.lp 2 [1, 4, 5, 28, 29] J33) ⟨[(1, .ptr 0 0), (4, .ptr 1 0), (5, .fn J0Q [.ptr 1 0] []), (28, .data ((JU Jf) x28)), (29, .p (.i .i64 s.1))], [.box (List.map AV.p (J3 b0)), .box (List.map AV.p (J0v s.2))]⟩) = J6h o) (fun s r hs => by rw [J0n]; exact JcS p hs) (fun s s1 r hs ih => by rw [J0n]; exact (JcS p hs).trans ih) h0
def J0V (x0 : T_api_Page) : Option ((List UInt8) × Int) :=
 Option.bind (J1t x0) fun r1 =>
 if r1 then
  Option.bind (J50 x0) fun r5 =>
  if r5 then
   Option.bind (J0e ([]) x0.LSN 8) fun r9 =>
   Option.bind (J0e r9 x0.ID 4) fun r13 =>
   Jad x0.Cells x0 (0, (⟨r13⟩ : T_page_builder))
  else
   some (([] : List UInt8), 22)
 else
  some (([] : List UInt8), 1)
theorem JgD {x0 : T_api_Page} {o : (List UInt8) × Int} (h : J0V x0 = some o) :
  rk (J2 p) J2a 0 [] (X (J2 p) J3s ⟨[(0, .data (J3 x0))], []⟩) = J6h o := by
 unfold J0V at h
 obtain ⟨r1, h2, h⟩ := bi h
 have f3 := Jlz p h2
 try simp only [Nf, Jy] at f3
 try simp only [↓Da, Ua, Ra, J3s, J4, J1, J6, Jy, *, ↓reduceIte, reduceEqDiff, reduceAdd, reduceLT, reduceMul, Nat.reduceBEq]
 rcases J8 h with ⟨h4, h⟩ | ⟨h4, h⟩
 ·obtain ⟨r5, h6, h⟩ := bi h
  have f7 := Jm9 p h6
  try simp only [Nf, Jy] at f7
  try simp only [↓Da, Ua, Ra, J3s, J4, J1, J6, Jy, *, ↓reduceIte, reduceEqDiff, reduceAdd, reduceLT, reduceMul, Nat.reduceBEq]
  rcases J8 h with ⟨h8, h⟩ | ⟨h8, h⟩
  ·obtain ⟨r9, h10, h⟩ := bi h
   have f11 := J6R p h10
   try simp only [Nf, Jy] at f11
   have f12 : ∀ ws k new s, Jc ((Jl (AF (J2 p)) J1k ([.p (.s []), .p (.i .i64 x0.LSN), .p (.i .i64 8)], ws) k new).reads s) = [] := J0q rfl
   try simp only [Nf, Jy] at f12
   obtain ⟨r13, h14, h⟩ := bi h
   have f15 := J6R p h14
   try simp only [Nf, Jy] at f15
   have f16 : ∀ ws k new s, Jc ((Jl (AF (J2 p)) J1k ([.p (.s r9), .p (.i .i64 x0.ID), .p (.i .i64 4)], ws) k new).reads s) = [] := J0q rfl
   try simp only [Nf, Jy] at f16
   try simp only [↓Da, Ua, Ra, J3s, J4, J1, J6, Jy, *, ↓reduceIte, reduceEqDiff, reduceAdd, reduceLT, reduceMul, Nat.reduceBEq]
   have e0 := JgI p h
   exact e0
  ·obtain rfl := sj h
   try simp only [↓Da, Ua, Ra, J3s, J4, J1, J6, Jy, Jbf, *, ↓reduceIte, reduceEqDiff, reduceAdd, reduceLT, reduceMul, Nat.reduceBEq]
   rfl
 ·obtain rfl := sj h
  try simp only [↓Da, Ua, Ra, J3s, J4, J1, J6, Jy, Jbf, *, ↓reduceIte, reduceEqDiff, reduceAdd, reduceLT, reduceMul, Nat.reduceBEq]
  rfl
theorem JlH {x0 : T_api_Page} {o : (List UInt8) × Int} (h : J0V x0 = some o) : AF (J2 p) J6n [.data (J3 x0)] [] = J6h o :=
 (J0c (J2 p) (JlQ p) rfl).trans (JgD p h)
theorem Jlm {x0 : T_api_Page} {o : (List UInt8) × Int} (h : J0V x0 = some o) : ∀ ws new st, (Jl (AF (J2 p)) J6n ([.data (J3 x0)], ws) 0 new).run st = some ⟨.tup [.p (.s o.1), .p (.i .i64 o.2)], ws⟩ := Ju rfl (JlH p h) rfl
def JeB  (r : (List UInt8)) : Option Res := some (.p (.s r), [])
def J2K (x0 : List UInt8) : Option ((List UInt8)) :=
 if (decide (((List.length x0 : Nat) : Int) > 8392)) then
  some ([] : List UInt8)
 else
  Option.bind (J0e ([]) ((List.length x0 : Nat) : Int) 4) fun r2 =>
  Option.bind (J3z r2 x0) fun s5 =>
  Option.bind (J1W s5) fun r7 =>
  Option.bind (J0e s5 (IntKind.wrap .i64 r7) 4) fun r10 =>
  some r10
theorem JgM {x0 : List UInt8} {o : (List UInt8)} (h : J2K x0 = some o) :
  rk (J2 p) J6p 0 [] (X (J2 p) J6i ⟨[(0, .p (.s x0))], []⟩) = JeB o := by
 unfold J2K at h
 rcases J8 h with ⟨h1, h⟩ | ⟨h1, h⟩
 ·obtain rfl := sj h
  try simp only [↓Da, Ua, J6i, JeQ, *, ↓reduceIte, reduceEqDiff, reduceAdd, reduceLT, reduceMul]
  rfl
 ·obtain ⟨r2, h3, h⟩ := bi h
  have f4 := J6R p h3
  try simp only [Nf] at f4
  obtain ⟨s5, h6, h⟩ := bi h
  obtain ⟨r7, h8, h⟩ := bi h
  have f9 := JaL p h8
  try simp only [Nf] at f9
  obtain ⟨r10, h11, h⟩ := bi h
  have f12 := J6R p h11
  try simp only [Nf] at f12
  obtain rfl := sj h
  try simp only [↓Da, Ua, J6i, JeQ, *, ↓reduceIte, reduceEqDiff, reduceAdd, reduceLT, reduceMul]
  rfl
theorem Jll {x0 : List UInt8} {o : (List UInt8)} (h : J2K x0 = some o) : AF (J2 p) J99 [.p (.s x0)] [] = JeB o :=
 (J0c (J2 p) (Jln p) rfl).trans (JgM p h)
def JcY  (r : (List UInt8) × Int × Int) : Option Res := some (.tup [.p (.s r.1), .p (.i .i64 r.2.1), .p (.i .i64 r.2.2)], [])
def J2u (x0 : List UInt8) (x1 : Int) : Option ((List UInt8) × Int × Int) :=
 if (decide (x1 < 0)) then
  some (([] : List UInt8), 0, 1)
 else
  if (decide (x1 > ((List.length x0 : Nat) : Int))) then
   some (([] : List UInt8), 0, 1)
  else
   Option.bind (JM x0 x1 4) fun r3 =>
   if ((r3.2 : Int) != 0) then
    some (([] : List UInt8), 0, r3.2)
   else
    if (decide (r3.1 > 8392)) then
     some (([] : List UInt8), 0, 2)
    else
     Option.bind (JM x0 (IntKind.wrap .i64 ((IntKind.wrap .i64 (x1 + 4)) + r3.1)) 4) fun r8 =>
     if ((r8.2 : Int) != 0) then
      some (([] : List UInt8), 0, r8.2)
     else
      Option.bind (J1i x0 (some x1) (some (IntKind.wrap .i64 ((IntKind.wrap .i64 (x1 + 4)) + r3.1)))) fun m12 =>
      Option.bind (J1W m12) fun r15 =>
      if ((r8.1 : Int) != (IntKind.wrap .i64 r15)) then
       some (([] : List UInt8), 0, 3)
      else
       Option.bind (J1i x0 (some (IntKind.wrap .i64 (x1 + 4))) (some (IntKind.wrap .i64 ((IntKind.wrap .i64 (x1 + 4)) + r3.1)))) fun m19 =>
       some (m19, (IntKind.wrap .i64 ((IntKind.wrap .i64 ((IntKind.wrap .i64 (x1 + 4)) + r3.1)) + 4)), 0)
theorem Jf3 {x0 : List UInt8} {x1 : Int} {o : (List UInt8) × Int × Int} (h : J2u x0 x1 = some o) :
  rk (J2 p) J58 0 [] (X (J2 p) J07 ⟨[(0, .p (.s x0)), (1, .p (.i .i64 x1))], []⟩) = JcY o := by
 unfold J2u at h
 rcases J8 h with ⟨h1, h⟩ | ⟨h1, h⟩
 ·obtain rfl := sj h
  try simp only [↓Da, Ua, J07, J3S, *, ↓reduceIte, reduceEqDiff, reduceAdd, reduceLT, reduceMul]
  rfl
 ·try simp only [↓Da, Ua, J07, *, ↓reduceIte, reduceEqDiff, reduceAdd, reduceLT, reduceMul]
  rcases J8 h with ⟨h2, h⟩ | ⟨h2, h⟩
  ·obtain rfl := sj h
   try simp only [↓Da, Ua, J07, J3S, *, ↓reduceIte, reduceEqDiff, reduceAdd, reduceLT, reduceMul]
   rfl
  ·obtain ⟨r3, h4, h⟩ := bi h
   have f5 := J6T p h4
   try simp only [Nf] at f5
   try simp only [↓Da, Ua, J07, *, ↓reduceIte, reduceEqDiff, reduceAdd, reduceLT, reduceMul]
   rcases J8 h with ⟨h6, h⟩ | ⟨h6, h⟩
   ·obtain rfl := sj h
    try simp only [↓Da, Ua, J07, J3S, *, ↓reduceIte, reduceEqDiff, reduceAdd, reduceLT, reduceMul]
    rfl
   ·try simp only [↓Da, Ua, J07, *, ↓reduceIte, reduceEqDiff, reduceAdd, reduceLT, reduceMul]
    rcases J8 h with ⟨h7, h⟩ | ⟨h7, h⟩
    ·obtain rfl := sj h
     try simp only [↓Da, Ua, J07, J3S, *, ↓reduceIte, reduceEqDiff, reduceAdd, reduceLT, reduceMul]
     rfl
    ·obtain ⟨r8, h9, h⟩ := bi h
     have f10 := J6T p h9
     try simp only [Nf] at f10
     try simp only [↓Da, Ua, J07, *, ↓reduceIte, reduceEqDiff, reduceAdd, reduceLT, reduceMul]
     rcases J8 h with ⟨h11, h⟩ | ⟨h11, h⟩
     ·obtain rfl := sj h
      try simp only [↓Da, Ua, J07, J3S, *, ↓reduceIte, reduceEqDiff, reduceAdd, reduceLT, reduceMul]
      rfl
     ·obtain ⟨m12, h13, h⟩ := bi h
      have f14 : J2b (.p (.s x0)) (some (.p (.i .i64 x1))) (some (.p (.i .i64 (IntKind.wrap .i64 ((IntKind.wrap .i64 (x1 + 4)) + r3.1))))) = some (.p (.s m12)) := J2z (k := .i64) (lo := (some x1)) (hi := (some (IntKind.wrap .i64 ((IntKind.wrap .i64 (x1 + 4)) + r3.1)))) h13
      try simp only [Nf] at f14
      obtain ⟨r15, h16, h⟩ := bi h
      have f17 := JaL p h16
      try simp only [Nf] at f17
      try simp only [↓Da, Ua, J07, *, ↓reduceIte, reduceEqDiff, reduceAdd, reduceLT, reduceMul]
      rcases J8 h with ⟨h18, h⟩ | ⟨h18, h⟩
      ·obtain rfl := sj h
       try simp only [↓Da, Ua, J07, J3S, *, ↓reduceIte, reduceEqDiff, reduceAdd, reduceLT, reduceMul]
       rfl
      ·obtain ⟨m19, h20, h⟩ := bi h
       have f21 : J2b (.p (.s x0)) (some (.p (.i .i64 (IntKind.wrap .i64 (x1 + 4))))) (some (.p (.i .i64 (IntKind.wrap .i64 ((IntKind.wrap .i64 (x1 + 4)) + r3.1))))) = some (.p (.s m19)) := J2z (k := .i64) (lo := (some (IntKind.wrap .i64 (x1 + 4)))) (hi := (some (IntKind.wrap .i64 ((IntKind.wrap .i64 (x1 + 4)) + r3.1)))) h20
       try simp only [Nf] at f21
       obtain rfl := sj h
       try simp only [↓Da, Ua, J07, J3S, *, ↓reduceIte, reduceEqDiff, reduceAdd, reduceLT, reduceMul]
       rfl
theorem JiV {x0 : List UInt8} {x1 : Int} {o : (List UInt8) × Int × Int} (h : J2u x0 x1 = some o) : AF (J2 p) J3V [.p (.s x0), .p (.i .i64 x1)] [] = JcY o :=
 (J0c (J2 p) (JiA p) rfl).trans (Jf3 p h)
theorem JcM {x0 : List UInt8} {x1 : Int} {o : (List UInt8) × Int × Int} (h : J2u x0 x1 = some o) : ∀ ws new st, (Jl (AF (J2 p)) J3V ([.p (.s x0), .p (.i .i64 x1)], ws) 0 new).run st = some ⟨.tup [.p (.s o.1), .p (.i .i64 o.2.1), .p (.i .i64 o.2.2)], ws⟩ := Ju rfl (JiV p h) rfl
end
end Go.Am
end
