/-
  Parts of a proof.
-/
import Derived.Test.YtiallbcnaadmoaaM9
open Nat (reduceEqDiff reduceAdd reduceLT reduceMul)
set_option linter.unusedSimpArgs false
set_option linter.unusedVariables false
section
namespace Go.Am
set_option maxRecDepth 8000
set_option maxHeartbeats 4000000
set_option linter.unusedSimpArgs false
set_option linter.unusedVariables false
noncomputable section
variable (p : FuncId → Option (List AV → List Blk → Option Res))
def Jf3  (r : T_pagemenddraw_Codes) : Option Res := some (.ptr 0 0, [.box (List.map AV.p (J1 r))])
def J93 (x0 : List Int) : Option (T_pagemenddraw_Codes) :=
 some (⟨x0, 0⟩ : T_pagemenddraw_Codes)
theorem Jgz {x0 : List Int} {o : T_pagemenddraw_Codes} (h : J93 x0 = some o) :
  rk (J6 p) J8e 0 [] (X (J6 p) JcI ⟨[(0, .p (.sl 1 (List.map (r_i .u8) x0)))], []⟩) = Jf3 o := by
 unfold J93 at h
 obtain rfl := sj h
 try simp only [↓Da, Ua, JcI, Jb, Jqt, ↓reduceIte, reduceEqDiff, reduceAdd, reduceLT, reduceMul]
 rfl
def J5U (x0 : List Int) (x1 : Int) : Option (T_pagemenddraw_Codes) :=
 if (decide (((List.length x0 : Nat) : Int) > x1)) then
  Option.bind (J8L x0 none (some x1)) fun m2 =>
  J93 m2
 else
  J93 x0
theorem JkO {x0 : List Int} {x1 : Int} {o : T_pagemenddraw_Codes} (h : J5U x0 x1 = some o) :
  rk (J6 p) J8e 0 [] (X (J6 p) J9m ⟨[(0, .p (.sl 1 (List.map (r_i .u8) x0))), (1, .p (.i .i64 x1))], []⟩) = Jf3 o := by
 unfold J5U at h
 rcases Jc h with ⟨h1, h⟩ | ⟨h1, h⟩
 ·obtain ⟨m2, h3, h⟩ := bi h
  have f4 : J7U 1 (.p (.sl 1 (List.map (r_i .u8) x0))) none (some (.p (.i .i64 x1))) = some (.p (.sl 1 (List.map (r_i .u8) m2))) := Jgo (k := .i64) (lo := none) (hi := (some x1)) h3
  try simp only [Nf] at f4
  try simp only [↓Da, Ua, J9m, Jb, *, ↓reduceIte, reduceEqDiff, reduceAdd, reduceLT, reduceMul]
  have e0 := Jgz p h
  exact e0
 ·try simp only [↓Da, Ua, J9m, Jb, *, ↓reduceIte, reduceEqDiff, reduceAdd, reduceLT, reduceMul]
  have e0 := Jgz p h
  exact e0
theorem Jqk {x0 : List Int} {x1 : Int} {o : T_pagemenddraw_Codes} (h : J5U x0 x1 = some o) : AF (J6 p) J9D [.p (.sl 1 (List.map (r_i .u8) x0)), .p (.i .i64 x1)] [] = Jf3 o :=
 (J0h (J6 p) (Jqo p) rfl).trans (JkO p h)
def J7u  (r : Int × T_pagemenddraw_Codes) : Option Res := some (.p (.i .i64 r.1), [.box (List.map AV.p (J1 r.2))])
def J2I (rec : T_pagemenddraw_Codes → Int → Option (Int × T_pagemenddraw_Codes)) (b0 : T_pagemenddraw_Codes) (x1 : Int) : Option (Int × T_pagemenddraw_Codes) :=
 if (decide (b0.at_ ≥ ((List.length b0.l_ : Nat) : Int))) then
  some (0, b0)
 else
  if (decide (x1 < 1)) then
   some (0, b0)
  else
   Option.bind (idx b0.l_ b0.at_) fun y3 =>
   if (decide (x1 > 256)) then
    Option.bind (rec (⟨b0.l_, (IntKind.wrap .i64 (b0.at_ + 1))⟩ : T_pagemenddraw_Codes) 256) fun r7 =>
    Option.bind (Jbm (IntKind.wrap .i64 ((IntKind.wrap .i64 (256 * (IntKind.wrap .i64 y3))) + r7.1)) x1) fun q10 =>
    some (q10, r7.2)
   else
    Option.bind (Jbm (IntKind.wrap .i64 y3) x1) fun q12 =>
    some (q12, (⟨b0.l_, (IntKind.wrap .i64 (b0.at_ + 1))⟩ : T_pagemenddraw_Codes))
theorem JdH {rec : T_pagemenddraw_Codes → Int → Option (Int × T_pagemenddraw_Codes)} (hrec : ∀ {b0 : T_pagemenddraw_Codes} {x1 : Int} {o : Int × T_pagemenddraw_Codes}, rec b0 x1 = some o → AF (J6 p) Jd [.ptr 0 0, .p (.i .i64 x1)] [.box (List.map AV.p (J1 b0))] = J7u o) {b0 : T_pagemenddraw_Codes} {x1 : Int} {o : Int × T_pagemenddraw_Codes} (h : J2I rec b0 x1 = some o) :
  rk (J6 p) J4I 1 [] (X (J6 p) J1u ⟨[(0, .ptr 0 0), (1, .p (.i .i64 x1))], [.box (List.map AV.p (J1 b0))]⟩) = J7u o := by
 unfold J2I at h
 rcases Jc h with ⟨h1, h⟩ | ⟨h1, h⟩
 ·obtain rfl := sj h
  try simp only [↓Da, Ua, J1u, Jb, J7q, *, ↓reduceIte, reduceEqDiff, reduceAdd, reduceLT, reduceMul]
  rfl
 ·try simp only [↓Da, Ua, J1u, Jb, *, ↓reduceIte, reduceEqDiff, reduceAdd, reduceLT, reduceMul]
  rcases Jc h with ⟨h2, h⟩ | ⟨h2, h⟩
  ·obtain rfl := sj h
   try simp only [↓Da, Ua, J1u, Jb, J7q, *, ↓reduceIte, reduceEqDiff, reduceAdd, reduceLT, reduceMul]
   rfl
  ·obtain ⟨y3, h4, h⟩ := bi h
   have f5 := J0f (r := (r_i .u8)) h4
   try simp only [Nf] at f5
   try simp only [↓Da, Ua, J1u, Jb, *, ↓reduceIte, reduceEqDiff, reduceAdd, reduceLT, reduceMul]
   rcases Jc h with ⟨h6, h⟩ | ⟨h6, h⟩
   ·obtain ⟨r7, h8, h⟩ := bi h
    have f9 : ∀ ws new s, JC ws s [0] [List.map AV.p (J1 (⟨b0.l_, (IntKind.wrap .i64 (b0.at_ + 1))⟩ : T_pagemenddraw_Codes))] → (Jl (AF (J6 p)) Jd ([.ptr 0 0, .p (.i .i64 256)], ws) 0 new).run s = some ⟨.p (.i .i64 r7.1), ws ++ [(0, .box (List.map AV.p (J1 r7.2)))]⟩ := Jv (args' := [.ptr 0 0, .p (.i .i64 256)]) (bs := [0]) (css := [List.map AV.p (J1 (⟨b0.l_, (IntKind.wrap .i64 (b0.at_ + 1))⟩ : T_pagemenddraw_Codes))]) (css' := [List.map AV.p (J1 r7.2)]) rfl rfl rfl (by simp [Jg, Ja]) (hrec h8) rfl rfl (by simp [Jg, Ja])
    try simp only [Nf] at f9
    obtain ⟨q10, h11, h⟩ := bi h
    obtain rfl := sj h
    try simp only [↓Da, Ua, J1u, Jb, J7q, *, ↓reduceIte, reduceEqDiff, reduceAdd, reduceLT, reduceMul]
    rfl
   ·obtain ⟨q12, h13, h⟩ := bi h
    obtain rfl := sj h
    try simp only [↓Da, Ua, J1u, Jb, J7q, *, ↓reduceIte, reduceEqDiff, reduceAdd, reduceLT, reduceMul]
    rfl
def J0H : Nat → T_pagemenddraw_Codes → Int → Option (Int × T_pagemenddraw_Codes)
 | 0 => fun _ _ => none
 | n + 1 => J2I (J0H n)
def Jp : T_pagemenddraw_Codes → Int → Option (Int × T_pagemenddraw_Codes) := J0H 12
theorem JaY : ∀ n, ∀ {b0 : T_pagemenddraw_Codes} {x1 : Int} {o : Int × T_pagemenddraw_Codes}, J0H n b0 x1 = some o → AF (J6 p) Jd [.ptr 0 0, .p (.i .i64 x1)] [.box (List.map AV.p (J1 b0))] = J7u o
 | 0 => fun h => by cases h
 | n + 1 => fun h => (J0h (J6 p) (JhJ p) rfl).trans (JdH p (JaY n) h)
theorem Ju {b0 : T_pagemenddraw_Codes} {x1 : Int} {o : Int × T_pagemenddraw_Codes} (h : Jp b0 x1 = some o) : AF (J6 p) Jd [.ptr 0 0, .p (.i .i64 x1)] [.box (List.map AV.p (J1 b0))] = J7u o := JaY p 12 h
def J3r  (r : (List UInt8) × T_pagemenddraw_Codes) : Option Res := some (.p (.s r.1), [.box (List.map AV.p (J1 r.2))])
def JfU (x3 : Int) (w1 : Bool) (o : (Int × T_pagemenddraw_Codes × (List Int)) ⊕ ((List UInt8) × T_pagemenddraw_Codes)) : Option Res := match o with
 | .inl s => rk (J6 p) J0V 1 [.bl 0, .sq (.keep [4] J2O)] (X (J6 p) (.lp 2 [0, 3, 4, 5] J1Y) ⟨[(0, .ptr 0 0), (3, .p (.i .i64 x3)), (4, .slr 1 0 (List.length s.2.2)), (5, .p (.i .i64 s.1))], [.box (List.map AV.p (J1 s.2.1)), .arr w1 1 (List.map (r_i .u8) s.2.2)]⟩)
 | .inr o => J3r o
def J6x (b0 : T_pagemenddraw_Codes) (l1 : List Int) : Option ((List UInt8) × T_pagemenddraw_Codes) :=
 some ((toStr l1), b0)
theorem JfI {b0 : T_pagemenddraw_Codes} {l1 : List Int} {w1 : Bool} {o : (List UInt8) × T_pagemenddraw_Codes} (h : J6x b0 l1 = some o) :
  rk (J6 p) J0V 1 [] (X (J6 p) J2O ⟨[(4, .slr 1 0 (List.length l1))], [.box (List.map AV.p (J1 b0)), .arr w1 1 (List.map (r_i .u8) l1)]⟩) = J3r o := by
 unfold J6x at h
 obtain rfl := sj h
 try simp only [↓Da, Ua, J2O, Jhb, ↓reduceIte, reduceEqDiff, reduceAdd, reduceLT, reduceMul]
 rfl
def J2Q (x3 x5 : Int) (b0 : T_pagemenddraw_Codes) (l1 : List Int) : Option (((Int × T_pagemenddraw_Codes × (List Int)) ⊕ ((List UInt8) × T_pagemenddraw_Codes))) :=
 if (decide (x5 < x3)) then
  Option.bind (Jp b0 3) fun r2 =>
  Option.bind (Jah 1 l1 ([(IntKind.wrap .u8 (IntKind.wrap .i64 (97 + r2.1)))] : List Int)) fun m5 =>
  some (.inl ((IntKind.wrap .i64 (x5 + 1)), r2.2, m5))
 else
  Option.map (fun o => .inr o) (J6x b0 l1)
theorem Jb3 {x3 x5 : Int} {b0 : T_pagemenddraw_Codes} {l1 : List Int} {w1 : Bool} {o : ((Int × T_pagemenddraw_Codes × (List Int)) ⊕ ((List UInt8) × T_pagemenddraw_Codes))} (h : J2Q x3 x5 b0 l1 = some o) :
  rk (J6 p) J0V 1 [.lo 2 [0, 3, 4, 5] J1Y, .bl 0, .sq (.keep [4] J2O)] (X (J6 p) J1Y ⟨[(0, .ptr 0 0), (3, .p (.i .i64 x3)), (4, .slr 1 0 (List.length l1)), (5, .p (.i .i64 x5))], [.box (List.map AV.p (J1 b0)), .arr w1 1 (List.map (r_i .u8) l1)]⟩) = (JfU p x3 w1) o := by
 unfold J2Q at h
 rcases Jc h with ⟨h1, h⟩ | ⟨h1, h⟩
 ·obtain ⟨r2, h3, h⟩ := bi h
  have f4 : ∀ ws new s, JC ws s [0] [List.map AV.p (J1 b0)] → (Jl (AF (J6 p)) Jd ([.ptr 0 0, .p (.i .i64 3)], ws) 0 new).run s = some ⟨.p (.i .i64 r2.1), ws ++ [(0, .box (List.map AV.p (J1 r2.2)))]⟩ := Jv (args' := [.ptr 0 0, .p (.i .i64 3)]) (bs := [0]) (css := [List.map AV.p (J1 b0)]) (css' := [List.map AV.p (J1 r2.2)]) rfl rfl rfl (by simp [Jg, Ja]) (Ju p h3) rfl rfl (by simp [Jg, Ja])
  try simp only [Nf] at f4
  obtain ⟨m5, h6, h⟩ := bi h
  have f7 : ∀ s : St, s.sto[1]? = some (.arr w1 1 (List.map (r_i .u8) l1)) → (J05 1 (.p (.sl 1 (List.map (r_i .u8) ([(IntKind.wrap .u8 (IntKind.wrap .i64 (97 + r2.1)))] : List Int))))).run s = some (List.map (r_i .u8) ([(IntKind.wrap .u8 (IntKind.wrap .i64 (97 + r2.1)))] : List Int)) → (J4S 1 1 (.slr 1 0 (List.length l1)) (.p (.sl 1 (List.map (r_i .u8) ([(IntKind.wrap .u8 (IntKind.wrap .i64 (97 + r2.1)))] : List Int))))).run s = some ⟨.slr 1 0 (List.length m5), [(1, .arr w1 1 (List.map (r_i .u8) m5))]⟩ := by
   intro s e1 e2; have e3 := JdY h6 e1 e2; try simp only [List.length_cons, List.length_nil, Nat.zero_add] at e3
   exact e3
  try simp only [Nf] at f7
  obtain rfl := sj h
  try simp only [↓Da, Ua, J1Y, Jb, *, ↓reduceIte, reduceEqDiff, reduceAdd, reduceLT, reduceMul]
  rfl
 ·obtain ⟨o', h', rfl⟩ := mi h
  try simp only [↓Da, Ua, J1Y, Jb, *, ↓reduceIte, reduceEqDiff, reduceAdd, reduceLT, reduceMul]
  have e0 := JfI p (w1 := w1) h'
  exact e0
def JaZ (x3 : Int) (s : Int × T_pagemenddraw_Codes × (List Int)) : Option ((List UInt8) × T_pagemenddraw_Codes) :=
 JO (fun s => J2Q x3 s.1 s.2.1 s.2.2) s
theorem Je6 {x3 : Int} {w1 : Bool} {s : Int × T_pagemenddraw_Codes × (List Int)} {o : (List UInt8) × T_pagemenddraw_Codes} (h : JaZ x3 s = some o) :
  rk (J6 p) J0V 1 [.bl 0, .sq (.keep [4] J2O)] (X (J6 p) (.lp 2 [0, 3, 4, 5] J1Y) ⟨[(0, .ptr 0 0), (3, .p (.i .i64 x3)), (4, .slr 1 0 (List.length s.2.2)), (5, .p (.i .i64 s.1))], [.box (List.map AV.p (J1 s.2.1)), .arr w1 1 (List.map (r_i .u8) s.2.2)]⟩) = J3r o := by
 have h0 : JO (fun s => J2Q x3 s.1 s.2.1 s.2.2) s = some o := h
 exact J0M (P := fun (s : Int × T_pagemenddraw_Codes × (List Int)) (o : (List UInt8) × T_pagemenddraw_Codes) => rk (J6 p) J0V 1 [.bl 0, .sq (.keep [4] J2O)] (X (J6 p) (.lp 2 [0, 3, 4, 5] J1Y) ⟨[(0, .ptr 0 0), (3, .p (.i .i64 x3)), (4, .slr 1 0 (List.length s.2.2)), (5, .p (.i .i64 s.1))], [.box (List.map AV.p (J1 s.2.1)), .arr w1 1 (List.map (r_i .u8) s.2.2)]⟩) = J3r o) (fun s r hs => by rw [J0w]; exact Jb3 p hs) (fun s s1 r hs ih => by rw [J0w]; exact (Jb3 p hs).trans ih) h0
def J3K (x3 : Int) (b0 : T_pagemenddraw_Codes) : Option ((List UInt8) × T_pagemenddraw_Codes) :=
 Option.bind (mkS 1 0 x3 0) fun m1 =>
 JaZ x3 (0, b0, m1)
theorem Jb6 {x3 : Int} {b0 : T_pagemenddraw_Codes} {o : (List UInt8) × T_pagemenddraw_Codes} (h : J3K x3 b0 = some o) :
  rk (J6 p) J0V 1 [] (X (J6 p) J8C ⟨[(0, .ptr 0 0), (3, .p (.i .i64 x3))], [.box (List.map AV.p (J1 b0))]⟩) = J3r o := by
 unfold J3K at h
 obtain ⟨m1, h2, h⟩ := bi h
 have f3 : (0 ≤ (0 : Int) ∧ (0 : Int) ≤ x3 ∧ ((1 : Nat) : Int) * x3 ≤ 281474976710656 ∧ (x3 : Int) ≤ 281474976710656) = True := eq_true (JkW h2).1
 have f4 : List.replicate (Int.toNat 0) ((r_i .u8) 0) = List.map (r_i .u8) m1 := by rw [(JkW h2).2, List.map_replicate]
 try simp only [Nf] at f4
 have g5 : List.length m1 = Int.toNat 0 := by rw [(JkW h2).2, List.length_replicate]
 try simp only [↓Da, Ua, J8C, *, ↓reduceIte, reduceEqDiff, reduceAdd, reduceLT, reduceMul]
 have e0 := Je6 p (w1 := true) h
 try simp only [g5] at e0
 exact e0
def J1Z (b0 : T_pagemenddraw_Codes) : Option ((List UInt8) × T_pagemenddraw_Codes) :=
 Option.bind (Jp b0 5) fun r1 =>
 Option.bind (Jp r1.2 6) fun r4 =>
 if ((r4.1 : Int) == 0) then
  Option.bind (Jp r4.2 14) fun r8 =>
  J3K r8.1 r8.2
 else
  J3K r1.1 r4.2
theorem Jei {b0 : T_pagemenddraw_Codes} {o : (List UInt8) × T_pagemenddraw_Codes} (h : J1Z b0 = some o) :
  rk (J6 p) J0V 1 [] (X (J6 p) J3z ⟨[(0, .ptr 0 0)], [.box (List.map AV.p (J1 b0))]⟩) = J3r o := by
 unfold J1Z at h
 obtain ⟨r1, h2, h⟩ := bi h
 have f3 : ∀ ws new s, JC ws s [0] [List.map AV.p (J1 b0)] → (Jl (AF (J6 p)) Jd ([.ptr 0 0, .p (.i .i64 5)], ws) 0 new).run s = some ⟨.p (.i .i64 r1.1), ws ++ [(0, .box (List.map AV.p (J1 r1.2)))]⟩ := Jv (args' := [.ptr 0 0, .p (.i .i64 5)]) (bs := [0]) (css := [List.map AV.p (J1 b0)]) (css' := [List.map AV.p (J1 r1.2)]) rfl rfl rfl (by simp [Jg, Ja]) (Ju p h2) rfl rfl (by simp [Jg, Ja])
 try simp only [Nf] at f3
 obtain ⟨r4, h5, h⟩ := bi h
 have f6 : ∀ ws new s, JC ws s [0] [List.map AV.p (J1 r1.2)] → (Jl (AF (J6 p)) Jd ([.ptr 0 0, .p (.i .i64 6)], ws) 0 new).run s = some ⟨.p (.i .i64 r4.1), ws ++ [(0, .box (List.map AV.p (J1 r4.2)))]⟩ := Jv (args' := [.ptr 0 0, .p (.i .i64 6)]) (bs := [0]) (css := [List.map AV.p (J1 r1.2)]) (css' := [List.map AV.p (J1 r4.2)]) rfl rfl rfl (by simp [Jg, Ja]) (Ju p h5) rfl rfl (by simp [Jg, Ja])
 try simp only [Nf] at f6
 try simp only [↓Da, Ua, J3z, Jb, *, ↓reduceIte, reduceEqDiff, reduceAdd, reduceLT, reduceMul]
 rcases Jc h with ⟨h7, h⟩ | ⟨h7, h⟩
 ·have h7n : ((r4.1 : Int) != 0) = false := by rw [bne, h7]; rfl
  obtain ⟨r8, h9, h⟩ := bi h
  have f10 : ∀ ws new s, JC ws s [0] [List.map AV.p (J1 r4.2)] → (Jl (AF (J6 p)) Jd ([.ptr 0 0, .p (.i .i64 14)], ws) 0 new).run s = some ⟨.p (.i .i64 r8.1), ws ++ [(0, .box (List.map AV.p (J1 r8.2)))]⟩ := Jv (args' := [.ptr 0 0, .p (.i .i64 14)]) (bs := [0]) (css := [List.map AV.p (J1 r4.2)]) (css' := [List.map AV.p (J1 r8.2)]) rfl rfl rfl (by simp [Jg, Ja]) (Ju p h9) rfl rfl (by simp [Jg, Ja])
  try simp only [Nf] at f10
  try simp only [↓Da, Ua, J3z, Jb, *, ↓reduceIte, reduceEqDiff, reduceAdd, reduceLT, reduceMul]
  have e0 := Jb6 p h
  exact e0
 ·have h7n : ((r4.1 : Int) != 0) = true := by rw [bne, h7]; rfl
  try simp only [↓Da, Ua, J3z, Jb, *, ↓reduceIte, reduceEqDiff, reduceAdd, reduceLT, reduceMul]
  have e0 := Jb6 p h
  exact e0
theorem Jc7 {b0 : T_pagemenddraw_Codes} {o : (List UInt8) × T_pagemenddraw_Codes} (h : J1Z b0 = some o) : AF (J6 p) J2F [.ptr 0 0] [.box (List.map AV.p (J1 b0))] = J3r o :=
 (J0h (J6 p) (Jhl p) rfl).trans (Jei p h)
def Jkk  (r : T_api_Pool × Int) : Option Res := some (.tup [.data (J3 r.1), .p (.i .i64 r.2)], [])
def J4s (x0 : Int) : Option (T_api_Pool × Int) :=
 if (decide (x0 < 1)) then
  some ((⟨0, ([] : List T_api_Frame), 0⟩ : T_api_Pool), 1)
 else
  if (decide (x0 > 64)) then
   some ((⟨0, ([] : List T_api_Frame), 0⟩ : T_api_Pool), 1)
  else
   some ((⟨x0, ([] : List T_api_Frame), 0⟩ : T_api_Pool), 0)
theorem JkH {x0 : Int} {o : T_api_Pool × Int} (h : J4s x0 = some o) :
  rk (J6 p) J9H 0 [] (X (J6 p) J6T ⟨[(0, .p (.i .i64 x0))], []⟩) = Jkk o := by
 unfold J4s at h
 rcases Jc h with ⟨h1, h⟩ | ⟨h1, h⟩
 ·obtain rfl := sj h
  try simp only [↓Da, Ua, J6T, J5, J0, J2, J8, J4, Jf6, *, ↓reduceIte, reduceEqDiff, reduceAdd, reduceLT, reduceMul]
  rfl
 ·try simp only [↓Da, Ua, J6T, J5, J0, J2, J8, J4, *, ↓reduceIte, reduceEqDiff, reduceAdd, reduceLT, reduceMul]
  rcases Jc h with ⟨h2, h⟩ | ⟨h2, h⟩
  ·obtain rfl := sj h
   try simp only [↓Da, Ua, J6T, J5, J0, J2, J8, J4, Jf6, *, ↓reduceIte, reduceEqDiff, reduceAdd, reduceLT, reduceMul]
   rfl
  ·obtain rfl := sj h
   try simp only [↓Da, Ua, J6T, J5, J0, J2, J8, J4, Jf6, *, ↓reduceIte, reduceEqDiff, reduceAdd, reduceLT, reduceMul]
   rfl
theorem Jqj {x0 : Int} {o : T_api_Pool × Int} (h : J4s x0 = some o) : AF (J6 p) J82 [.p (.i .i64 x0)] [] = Jkk o :=
 (J0h (J6 p) (Jq9 p) rfl).trans (JkH p h)
theorem JjS {x0 : Int} {o : T_api_Pool × Int} (h : J4s x0 = some o) : ∀ ws new st, (Jl (AF (J6 p)) J82 ([.p (.i .i64 x0)], ws) 0 new).run st = some ⟨.tup [.data (J3 o.1), .p (.i .i64 o.2)], ws⟩ := Jy rfl (Jqj p h) rfl
def J4B  (r : Bool) : Option Res := some (.p (.b r), [])
def JfM (x0 x1 : List T_api_Dirty) (o : (Int) ⊕ (Bool)) : Option Res := match o with
 | .inl s => rk (J6 p) J1d 0 [.bl 0, .sq (.keep [] J2R)] (X (J6 p) (.lp 0 [0, 1, 5] J19) ⟨[(0, .p (.sl 3 (List.map Je x0))), (1, .p (.sl 3 (List.map Je x1))), (5, .p (.i .i64 s))], []⟩)
 | .inr o => J4B o
def J6v  : Option (Bool) :=
 some true
theorem JfC  {o : Bool} (h : J6v = some o) :
  rk (J6 p) J1d 0 [] (X (J6 p) J2R ⟨[], []⟩) = J4B o := by
 unfold J6v at h
 obtain rfl := sj h
 try simp only [↓Da, Ua, J2R, J9R, ↓reduceIte, reduceEqDiff, reduceAdd, reduceLT, reduceMul]
 rfl
def J2S (x0 x1 : List T_api_Dirty) (x5 : Int) : Option (((Int) ⊕ (Bool))) :=
 if (decide (x5 < ((List.length x0 : Nat) : Int))) then
  Option.bind (idx x0 x5) fun y2 =>
  Option.bind (idx x1 x5) fun y5 =>
  if (y2 == y5) then
   some (.inl (IntKind.wrap .i64 (x5 + 1)))
  else
   some (.inr false)
 else
  Option.map (fun o => .inr o) (J6v)
theorem Jbc {x0 x1 : List T_api_Dirty} {x5 : Int} {o : ((Int) ⊕ (Bool))} (h : J2S x0 x1 x5 = some o) :
  rk (J6 p) J1d 0 [.lo 0 [0, 1, 5] J19, .bl 0, .sq (.keep [] J2R)] (X (J6 p) J19 ⟨[(0, .p (.sl 3 (List.map Je x0))), (1, .p (.sl 3 (List.map Je x1))), (5, .p (.i .i64 x5))], []⟩) = (JfM p x0 x1) o := by
 unfold J2S at h
 rcases Jc h with ⟨h1, h⟩ | ⟨h1, h⟩
 ·obtain ⟨y2, h3, h⟩ := bi h
  have f4 := J0f (r := Je) h3
  try simp only [Nf] at f4
  obtain ⟨y5, h6, h⟩ := bi h
  have f7 := J0f (r := Je) h6
  try simp only [Nf] at f7
  try simp only [↓Da, Ua, J19, J00, JbO, *, ↓reduceIte, reduceEqDiff, reduceAdd, reduceLT, reduceMul]
  rcases Jc h with ⟨h9, h⟩ | ⟨h9, h⟩
  ·obtain rfl := sj h
   try simp only [↓Da, Ua, J19, J00, JbO, *, ↓reduceIte, reduceEqDiff, reduceAdd, reduceLT, reduceMul]
   rfl
  ·obtain rfl := sj h
   try simp only [↓Da, Ua, J19, J00, JbO, J9R, *, ↓reduceIte, reduceEqDiff, reduceAdd, reduceLT, reduceMul]
   rfl
 ·obtain ⟨o', h', rfl⟩ := mi h
  try simp only [↓Da, Ua, J19, J00, *, ↓reduceIte, reduceEqDiff, reduceAdd, reduceLT, reduceMul]
  have e0 := JfC p h'
  exact e0
def J8D (x0 x1 : List T_api_Dirty) (s : Int) : Option (Bool) :=
 JO (fun s => J2S x0 x1 s) s
theorem JdM {x0 x1 : List T_api_Dirty} {s : Int} {o : Bool} (h : J8D x0 x1 s = some o) :
  rk (J6 p) J1d 0 [.bl 0, .sq (.keep [] J2R)] (X (J6 p) (.lp 0 [0, 1, 5] J19) ⟨[(0, .p (.sl 3 (List.map Je x0))), (1, .p (.sl 3 (List.map Je x1))), (5, .p (.i .i64 s))], []⟩) = J4B o := by
 have h0 : JO (fun s => J2S x0 x1 s) s = some o := h
 exact J0M (P := fun (s : Int) (o : Bool) => rk (J6 p) J1d 0 [.bl 0, .sq (.keep [] J2R)] (X (J6 p) (.lp 0 [0, 1, 5] J19) ⟨[(0, .p (.sl 3 (List.map Je x0))), (1, .p (.sl 3 (List.map Je x1))), (5, .p (.i .i64 s))], []⟩) = J4B o) (fun s r hs => by rw [J0w]; exact Jbc p hs) (fun s s1 r hs ih => by rw [J0w]; exact (Jbc p hs).trans ih) h0
def J3p (x0 x1 : List T_api_Dirty) : Option (Bool) :=
 if ((((List.length x0 : Nat) : Int) : Int) != ((List.length x1 : Nat) : Int)) then
  some false
 else
  J8D x0 x1 0
theorem JdX {x0 x1 : List T_api_Dirty} {o : Bool} (h : J3p x0 x1 = some o) :
  rk (J6 p) J1d 0 [] (X (J6 p) J4F ⟨[(0, .p (.sl 3 (List.map Je x0))), (1, .p (.sl 3 (List.map Je x1)))], []⟩) = J4B o := by
 unfold J3p at h
 rcases Jc h with ⟨h1, h⟩ | ⟨h1, h⟩
 ·obtain rfl := sj h
  try simp only [↓Da, Ua, J4F, J00, J9R, *, ↓reduceIte, reduceEqDiff, reduceAdd, reduceLT, reduceMul]
  rfl
 ·try simp only [↓Da, Ua, J4F, J00, *, ↓reduceIte, reduceEqDiff, reduceAdd, reduceLT, reduceMul]
  have e0 := JdM p h
  exact e0
theorem Jho {x0 x1 : List T_api_Dirty} {o : Bool} (h : J3p x0 x1 = some o) : AF (J6 p) J3y [.p (.sl 3 (List.map Je x0)), .p (.sl 3 (List.map Je x1))] [] = J4B o :=
 (J0h (J6 p) (Jhp p) rfl).trans (JdX p h)
theorem JhA {x0 x1 : List T_api_Dirty} {o : Bool} (h : J3p x0 x1 = some o) : ∀ ws new st, (Jl (AF (J6 p)) J3y ([.p (.sl 3 (List.map Je x0)), .p (.sl 3 (List.map Je x1))], ws) 0 new).run st = some ⟨.p (.b o), ws⟩ := Jy rfl (Jho p h) rfl
def J7S  (r : Bool) : Option Res := some (.p (.b r), [])
def Jkz (b0 b1 : T_api_Pool) (o : (Int) ⊕ (Bool)) : Option Res := match o with
 | .inl s => rk (J6 p) J2Z 0 [.bl 0, .sq (.keep [] J54)] (X (J6 p) (.lp 2 [2, 3, 5] J2x) ⟨[(2, .ptr 0 0), (3, .ptr 1 0), (5, .p (.i .i64 s))], [.box (List.map AV.p (J3 b0)), .box (List.map AV.p (J3 b1))]⟩)
 | .inr o => J7S o
def J9E  : Option (Bool) :=
 some true
theorem JkI {B0 B1 : List PV} {o : Bool} (h : J9E = some o) :
  rk (J6 p) J2Z 0 [] (X (J6 p) J54 ⟨[], [.box (List.map AV.p B0), .box (List.map AV.p B1)]⟩) = J7S o := by
 unfold J9E at h
 obtain rfl := sj h
 try simp only [↓Da, Ua, J54, J9d, ↓reduceIte, reduceEqDiff, reduceAdd, reduceLT, reduceMul]
 rfl
def J5a (b0 b1 : T_api_Pool) (x5 : Int) : Option (((Int) ⊕ (Bool))) :=
 if (decide (x5 < ((List.length b0.Frames : Nat) : Int))) then
  Option.bind (idx b0.Frames x5) fun y2 =>
  Option.bind (idx b1.Frames x5) fun y5 =>
  if (y2 == y5) then
   some (.inl (IntKind.wrap .i64 (x5 + 1)))
  else
   some (.inr false)
 else
  Option.map (fun o => .inr o) (J9E)
theorem JdI {b0 b1 : T_api_Pool} {x5 : Int} {o : ((Int) ⊕ (Bool))} (h : J5a b0 b1 x5 = some o) :
  rk (J6 p) J2Z 0 [.lo 2 [2, 3, 5] J2x, .bl 0, .sq (.keep [] J54)] (X (J6 p) J2x ⟨[(2, .ptr 0 0), (3, .ptr 1 0), (5, .p (.i .i64 x5))], [.box (List.map AV.p (J3 b0)), .box (List.map AV.p (J3 b1))]⟩) = (Jkz p b0 b1) o := by
 unfold J5a at h
 rcases Jc h with ⟨h1, h⟩ | ⟨h1, h⟩
 ·obtain ⟨y2, h3, h⟩ := bi h
  have f4 := J0f (r := J7) h3
  try simp only [Nf] at f4
  obtain ⟨y5, h6, h⟩ := bi h
  have f7 := J0f (r := J7) h6
  try simp only [Nf] at f7
  try simp only [↓Da, Ua, J2x, J5, J0, J2, J8, J4, JbI, *, ↓reduceIte, reduceEqDiff, reduceAdd, reduceLT, reduceMul]
  rcases Jc h with ⟨h9, h⟩ | ⟨h9, h⟩
  ·obtain rfl := sj h
   try simp only [↓Da, Ua, J2x, J5, J0, J2, J8, J4, JbI, *, ↓reduceIte, reduceEqDiff, reduceAdd, reduceLT, reduceMul]
   rfl
  ·obtain rfl := sj h
   try simp only [↓Da, Ua, J2x, J5, J0, J2, J8, J4, JbI, J9d, *, ↓reduceIte, reduceEqDiff, reduceAdd, reduceLT, reduceMul]
   rfl
 ·obtain ⟨o', h', rfl⟩ := mi h
  try simp only [↓Da, Ua, J2x, J5, J0, J2, J8, J4, *, ↓reduceIte, reduceEqDiff, reduceAdd, reduceLT, reduceMul]
  have e0 := JkI p (B0 := (J3 b0)) (B1 := (J3 b1)) h'
  exact e0
def Jbf (b0 b1 : T_api_Pool) (s : Int) : Option (Bool) :=
 JO (fun s => J5a b0 b1 s) s
theorem JiV {b0 b1 : T_api_Pool} {s : Int} {o : Bool} (h : Jbf b0 b1 s = some o) :
  rk (J6 p) J2Z 0 [.bl 0, .sq (.keep [] J54)] (X (J6 p) (.lp 2 [2, 3, 5] J2x) ⟨[(2, .ptr 0 0), (3, .ptr 1 0), (5, .p (.i .i64 s))], [.box (List.map AV.p (J3 b0)), .box (List.map AV.p (J3 b1))]⟩) = J7S o := by
 have h0 : JO (fun s => J5a b0 b1 s) s = some o := h
 exact J0M (P := fun (s : Int) (o : Bool) => rk (J6 p) J2Z 0 [.bl 0, .sq (.keep [] J54)] (X (J6 p) (.lp 2 [2, 3, 5] J2x) ⟨[(2, .ptr 0 0), (3, .ptr 1 0), (5, .p (.i .i64 s))], [.box (List.map AV.p (J3 b0)), .box (List.map AV.p (J3 b1))]⟩) = J7S o) (fun s r hs => by rw [J0w]; exact JdI p hs) (fun s s1 r hs ih => by rw [J0w]; exact (JdI p hs).trans ih) h0
def J1K (x0 x1 : T_api_Pool) : Option (Bool) :=
 if ((x0.Size : Int) != x1.Size) then
  some false
 else
  if ((x0.Hand : Int) != x1.Hand) then
   some false
  else
   if ((((List.length x0.Frames : Nat) : Int) : Int) != ((List.length x1.Frames : Nat) : Int)) then
    some false
   else
    Jbf x0 x1 0
theorem Jj6 {x0 x1 : T_api_Pool} {o : Bool} (h : J1K x0 x1 = some o) :
  rk (J6 p) J2Z 0 [] (X (J6 p) J3S ⟨[(0, .data (J3 x0)), (1, .data (J3 x1))], []⟩) = J7S o := by
 unfold J1K at h
 rcases Jc h with ⟨h1, h⟩ | ⟨h1, h⟩
 ·obtain rfl := sj h
  try simp only [↓Da, Ua, J3S, J5, J0, J2, J8, J4, J9d, *, ↓reduceIte, reduceEqDiff, reduceAdd, reduceLT, reduceMul]
  rfl
 ·try simp only [↓Da, Ua, J3S, J5, J0, J2, J8, J4, *, ↓reduceIte, reduceEqDiff, reduceAdd, reduceLT, reduceMul]
  rcases Jc h with ⟨h2, h⟩ | ⟨h2, h⟩
  ·obtain rfl := sj h
   try simp only [↓Da, Ua, J3S, J5, J0, J2, J8, J4, J9d, *, ↓reduceIte, reduceEqDiff, reduceAdd, reduceLT, reduceMul]
   rfl
  ·try simp only [↓Da, Ua, J3S, J5, J0, J2, J8, J4, *, ↓reduceIte, reduceEqDiff, reduceAdd, reduceLT, reduceMul]
   rcases Jc h with ⟨h3, h⟩ | ⟨h3, h⟩
   ·obtain rfl := sj h
    try simp only [↓Da, Ua, J3S, J5, J0, J2, J8, J4, J9d, *, ↓reduceIte, reduceEqDiff, reduceAdd, reduceLT, reduceMul]
    rfl
   ·try simp only [↓Da, Ua, J3S, J5, J0, J2, J8, J4, *, ↓reduceIte, reduceEqDiff, reduceAdd, reduceLT, reduceMul]
    have e0 := JiV p h
    exact e0
theorem JnI {x0 x1 : T_api_Pool} {o : Bool} (h : J1K x0 x1 = some o) : AF (J6 p) J2b [.data (J3 x0), .data (J3 x1)] [] = J7S o :=
 (J0h (J6 p) (Jo4 p) rfl).trans (Jj6 p h)
theorem J6q {x0 x1 : T_api_Pool} {o : Bool} (h : J1K x0 x1 = some o) : ∀ ws new st, (Jl (AF (J6 p)) J2b ([.data (J3 x0), .data (J3 x1)], ws) 0 new).run st = some ⟨.p (.b o), ws⟩ := Jy rfl (JnI p h) rfl
def JhY  (r : T_api_Pool × Int) : Option Res := some (.tup [.data (J3 r.1), .p (.i .i64 r.2)], [])
def J64 (x0 : Int) : Option (T_api_Pool × Int) :=
 if (decide (x0 < 1)) then
  some ((⟨0, ([] : List T_api_Frame), 0⟩ : T_api_Pool), 1)
 else
  if (decide (x0 > 64)) then
   some ((⟨0, ([] : List T_api_Frame), 0⟩ : T_api_Pool), 1)
  else
   some ((⟨x0, ([] : List T_api_Frame), 0⟩ : T_api_Pool), 0)
theorem JjX {x0 : Int} {o : T_api_Pool × Int} (h : J64 x0 = some o) :
  rk (J6 p) J8w 0 [] (X (J6 p) J67 ⟨[(0, .p (.i .i64 x0))], []⟩) = JhY o := by
 unfold J64 at h
 rcases Jc h with ⟨h1, h⟩ | ⟨h1, h⟩
 ·obtain rfl := sj h
  try simp only [↓Da, Ua, J67, J5, J0, J2, J8, J4, JdF, *, ↓reduceIte, reduceEqDiff, reduceAdd, reduceLT, reduceMul]
  rfl
 ·try simp only [↓Da, Ua, J67, J5, J0, J2, J8, J4, *, ↓reduceIte, reduceEqDiff, reduceAdd, reduceLT, reduceMul]
  rcases Jc h with ⟨h2, h⟩ | ⟨h2, h⟩
  ·obtain rfl := sj h
   try simp only [↓Da, Ua, J67, J5, J0, J2, J8, J4, JdF, *, ↓reduceIte, reduceEqDiff, reduceAdd, reduceLT, reduceMul]
   rfl
  ·obtain rfl := sj h
   try simp only [↓Da, Ua, J67, J5, J0, J2, J8, J4, JdF, *, ↓reduceIte, reduceEqDiff, reduceAdd, reduceLT, reduceMul]
   rfl
theorem JoZ {x0 : Int} {o : T_api_Pool × Int} (h : J64 x0 = some o) : AF (J6 p) J7f [.p (.i .i64 x0)] [] = JhY o :=
 (J0h (J6 p) (JoJ p) rfl).trans (JjX p h)
theorem Ji5 {x0 : Int} {o : T_api_Pool × Int} (h : J64 x0 = some o) : ∀ ws new st, (Jl (AF (J6 p)) J7f ([.p (.i .i64 x0)], ws) 0 new).run st = some ⟨.tup [.data (J3 o.1), .p (.i .i64 o.2)], ws⟩ := Jy rfl (JoZ p h) rfl
def JcA  (r : Int × T_pagemenddraw_Codes) : Option Res := some (.p (.i .i64 r.1), [.box (List.map AV.p (J1 r.2))])
def J1N (b0 : T_pagemenddraw_Codes) : Option (Int × T_pagemenddraw_Codes) :=
 Option.bind (Jp b0 10) fun r1 =>
 if ((r1.1 : Int) == 0) then
  Option.bind (Jp r1.2 3) fun r5 =>
  some ((IntKind.wrap .i64 ((-1) - r5.1)), r5.2)
 else
  if ((r1.1 : Int) == 1) then
   Option.bind (Jp r1.2 16) fun r9 =>
   Option.bind (idx ([9223372036854775807, (-9223372036854775808), 1099511627776, 1099511627777, 1073741824, 1073741825, 64, 63, 16, 15, 256, 255, 4294967296, 65536, 256, 255] : List Int) r9.1) fun y12 =>
   some (y12, r9.2)
  else
   Option.bind (Jp r1.2 20) fun r15 =>
   some (r15.1, r15.2)
theorem Jex {b0 : T_pagemenddraw_Codes} {o : Int × T_pagemenddraw_Codes} (h : J1N b0 = some o) :
  rk (J6 p) J58 1 [] (X (J6 p) J2i ⟨[(0, .ptr 0 0)], [.box (List.map AV.p (J1 b0))]⟩) = JcA o := by
 unfold J1N at h
 obtain ⟨r1, h2, h⟩ := bi h
 have f3 : ∀ ws new s, JC ws s [0] [List.map AV.p (J1 b0)] → (Jl (AF (J6 p)) Jd ([.ptr 0 0, .p (.i .i64 10)], ws) 0 new).run s = some ⟨.p (.i .i64 r1.1), ws ++ [(0, .box (List.map AV.p (J1 r1.2)))]⟩ := Jv (args' := [.ptr 0 0, .p (.i .i64 10)]) (bs := [0]) (css := [List.map AV.p (J1 b0)]) (css' := [List.map AV.p (J1 r1.2)]) rfl rfl rfl (by simp [Jg, Ja]) (Ju p h2) rfl rfl (by simp [Jg, Ja])
 try simp only [Nf] at f3
 try simp only [↓Da, Ua, J2i, Jb, *, ↓reduceIte, reduceEqDiff, reduceAdd, reduceLT, reduceMul]
 rcases Jc h with ⟨h4, h⟩ | ⟨h4, h⟩
 ·have h4n : ((r1.1 : Int) != 0) = false := by rw [bne, h4]; rfl
  obtain ⟨r5, h6, h⟩ := bi h
  have f7 : ∀ ws new s, JC ws s [0] [List.map AV.p (J1 r1.2)] → (Jl (AF (J6 p)) Jd ([.ptr 0 0, .p (.i .i64 3)], ws) 0 new).run s = some ⟨.p (.i .i64 r5.1), ws ++ [(0, .box (List.map AV.p (J1 r5.2)))]⟩ := Jv (args' := [.ptr 0 0, .p (.i .i64 3)]) (bs := [0]) (css := [List.map AV.p (J1 r1.2)]) (css' := [List.map AV.p (J1 r5.2)]) rfl rfl rfl (by simp [Jg, Ja]) (Ju p h6) rfl rfl (by simp [Jg, Ja])
  try simp only [Nf] at f7
  obtain rfl := sj h
  try simp only [↓Da, Ua, J2i, Jb, Jad, *, ↓reduceIte, reduceEqDiff, reduceAdd, reduceLT, reduceMul]
  rfl
 ·have h4n : ((r1.1 : Int) != 0) = true := by rw [bne, h4]; rfl
  try simp only [↓Da, Ua, J2i, Jb, *, ↓reduceIte, reduceEqDiff, reduceAdd, reduceLT, reduceMul]
  rcases Jc h with ⟨h8, h⟩ | ⟨h8, h⟩
  ·have h8n : ((r1.1 : Int) != 1) = false := by rw [bne, h8]; rfl
   obtain ⟨r9, h10, h⟩ := bi h
   have f11 : ∀ ws new s, JC ws s [0] [List.map AV.p (J1 r1.2)] → (Jl (AF (J6 p)) Jd ([.ptr 0 0, .p (.i .i64 16)], ws) 0 new).run s = some ⟨.p (.i .i64 r9.1), ws ++ [(0, .box (List.map AV.p (J1 r9.2)))]⟩ := Jv (args' := [.ptr 0 0, .p (.i .i64 16)]) (bs := [0]) (css := [List.map AV.p (J1 r1.2)]) (css' := [List.map AV.p (J1 r9.2)]) rfl rfl rfl (by simp [Jg, Ja]) (Ju p h10) rfl rfl (by simp [Jg, Ja])
   try simp only [Nf] at f11
   obtain ⟨y12, h13, h⟩ := bi h
   have f14 := J0f (r := (r_i .i64)) h13
   try simp only [Nf] at f14
   obtain rfl := sj h
   try simp only [↓Da, Ua, J2i, Jb, Jad, *, ↓reduceIte, reduceEqDiff, reduceAdd, reduceLT, reduceMul]
   rfl
  ·have h8n : ((r1.1 : Int) != 1) = true := by rw [bne, h8]; rfl
   obtain ⟨r15, h16, h⟩ := bi h
   have f17 : ∀ ws new s, JC ws s [0] [List.map AV.p (J1 r1.2)] → (Jl (AF (J6 p)) Jd ([.ptr 0 0, .p (.i .i64 20)], ws) 0 new).run s = some ⟨.p (.i .i64 r15.1), ws ++ [(0, .box (List.map AV.p (J1 r15.2)))]⟩ := Jv (args' := [.ptr 0 0, .p (.i .i64 20)]) (bs := [0]) (css := [List.map AV.p (J1 r1.2)]) (css' := [List.map AV.p (J1 r15.2)]) rfl rfl rfl (by simp [Jg, Ja]) (Ju p h16) rfl rfl (by simp [Jg, Ja])
   try simp only [Nf] at f17
   obtain rfl := sj h
   try simp only [↓Da, Ua, J2i, Jb, Jad, *, ↓reduceIte, reduceEqDiff, reduceAdd, reduceLT, reduceMul]
   rfl
theorem J8g {b0 : T_pagemenddraw_Codes} {o : Int × T_pagemenddraw_Codes} (h : J1N b0 = some o) : AF (J6 p) J1q [.ptr 0 0] [.box (List.map AV.p (J1 b0))] = JcA o :=
 (J0h (J6 p) (Jin p) rfl).trans (Jex p h)
def Ji1 (r : List UInt8) : Option Res := some (.p (.s r), [])
def J62 (x0 : List UInt8) (x1 x2 : Int) : Option (List UInt8) := Jl3 x0 x1 x2
theorem Joy {x0 : List UInt8} {x1 x2 : Int} {o : List UInt8} (h : J62 x0 x1 x2 = some o) : AF (J6 p) J2d [.p (.s x0), .p (.i .i64 x1), .p (.i .i64 x2)] [] = Ji1 o := by
 rw [JgZ (JoG p)]
 have h' : Jl3 x0 x1 x2 = some o := h
 simp only [JmY, h', Option.map_some, Ji1]
theorem Ja3 {x0 : List UInt8} {x1 x2 : Int} {o : List UInt8} (h : J62 x0 x1 x2 = some o) : ∀ ws new st, (Jl (AF (J6 p)) J2d ([.p (.s x0), .p (.i .i64 x1), .p (.i .i64 x2)], ws) 0 new).run st = some ⟨.p (.s o), ws⟩ := Jy rfl (Joy p h) rfl
def Jc6  (r : Jk × T_pagemenddraw_Codes) : Option Res := some (.data (Jm r.1), [.box (List.map AV.p (J1 r.2))])
def J3x (b0 : T_pagemenddraw_Codes) : Option (Jk × T_pagemenddraw_Codes) :=
 Option.bind (Jp b0 3) fun r1 =>
 if ((r1.1 : Int) == 0) then
  some ((⟨false, ([] : List UInt8)⟩ : Jk), r1.2)
 else
  Option.bind (J1Z r1.2) fun r5 =>
  Option.bind (J8L r5.1 none (some (JiC ((List.length r5.1 : Nat) : Int) 12))) fun m8 =>
  some ((⟨true, m8⟩ : Jk), r5.2)
theorem Je2 {b0 : T_pagemenddraw_Codes} {o : Jk × T_pagemenddraw_Codes} (h : J3x b0 = some o) :
  rk (J6 p) J4D 1 [] (X (J6 p) J3v ⟨[(0, .ptr 0 0)], [.box (List.map AV.p (J1 b0))]⟩) = Jc6 o := by
 unfold J3x at h
 obtain ⟨r1, h2, h⟩ := bi h
 have f3 : ∀ ws new s, JC ws s [0] [List.map AV.p (J1 b0)] → (Jl (AF (J6 p)) Jd ([.ptr 0 0, .p (.i .i64 3)], ws) 0 new).run s = some ⟨.p (.i .i64 r1.1), ws ++ [(0, .box (List.map AV.p (J1 r1.2)))]⟩ := Jv (args' := [.ptr 0 0, .p (.i .i64 3)]) (bs := [0]) (css := [List.map AV.p (J1 b0)]) (css' := [List.map AV.p (J1 r1.2)]) rfl rfl rfl (by simp [Jg, Ja]) (Ju p h2) rfl rfl (by simp [Jg, Ja])
 try simp only [Nf] at f3
 try simp only [↓Da, Ua, J3v, J5, Jb, *, ↓reduceIte, reduceEqDiff, reduceAdd, reduceLT, reduceMul]
 rcases Jc h with ⟨h4, h⟩ | ⟨h4, h⟩
 ·have h4n : ((r1.1 : Int) != 0) = false := by rw [bne, h4]; rfl
  obtain rfl := sj h
  try simp only [↓Da, Ua, J3v, J5, Jb, Jc8, *, ↓reduceIte, reduceEqDiff, reduceAdd, reduceLT, reduceMul]
  rfl
 ·have h4n : ((r1.1 : Int) != 0) = true := by rw [bne, h4]; rfl
  obtain ⟨r5, h6, h⟩ := bi h
  have f7 : ∀ ws new s, JC ws s [0] [List.map AV.p (J1 r1.2)] → (Jl (AF (J6 p)) J2F ([.ptr 0 0], ws) 0 new).run s = some ⟨.p (.s r5.1), ws ++ [(0, .box (List.map AV.p (J1 r5.2)))]⟩ := Jv (args' := [.ptr 0 0]) (bs := [0]) (css := [List.map AV.p (J1 r1.2)]) (css' := [List.map AV.p (J1 r5.2)]) rfl rfl rfl (by simp [Jg, Ja]) (Jc7 p h6) rfl rfl (by simp [Jg, Ja])
  try simp only [Nf] at f7
  obtain ⟨m8, h9, h⟩ := bi h
  have f10 : J94 (.p (.s r5.1)) none (some (.p (.i .i64 (JiC ((List.length r5.1 : Nat) : Int) 12)))) = some (.p (.s m8)) := Jrr (k := .i64) (lo := none) (hi := (some (JiC ((List.length r5.1 : Nat) : Int) 12))) h9
  try simp only [Nf] at f10
  obtain rfl := sj h
  try simp only [↓Da, Ua, J3v, J5, Jb, Jc8, *, ↓reduceIte, reduceEqDiff, reduceAdd, reduceLT, reduceMul]
  rfl
theorem Jc5 {b0 : T_pagemenddraw_Codes} {o : Jk × T_pagemenddraw_Codes} (h : J3x b0 = some o) : AF (J6 p) J2E [.ptr 0 0] [.box (List.map AV.p (J1 b0))] = Jc6 o :=
 (J0h (J6 p) (JhG p) rfl).trans (Je2 p h)
def J7F  (r : Bool) : Option Res := some (.p (.b r), [])
def Jl7 (x6 : Vector Jk 16) (b0 : T_api_Page) (o : (Int) ⊕ (Bool)) : Option Res := match o with
 | .inl s => rk (J6 p) J39 0 [.bl 0, .td 1 [2], .sq (.keep [] J57)] (X (J6 p) (.lp 1 [1, 6, 7] J0B) ⟨[(1, .ptr 0 0), (6, .data ((J06 Jm) x6)), (7, .p (.i .i64 s))], [.box (List.map AV.p (J9 b0))]⟩)
 | .inr o => J7F o
def J7H  : Option (Bool) :=
 some true
theorem Jkq {B0 : List PV} {o : Bool} (h : J7H = some o) :
  rk (J6 p) J39 0 [] (X (J6 p) J57 ⟨[], [.box (List.map AV.p B0)]⟩) = J7F o := by
 unfold J7H at h
 obtain rfl := sj h
 try simp only [↓Da, Ua, J57, Jax, ↓reduceIte, reduceEqDiff, reduceAdd, reduceLT, reduceMul]
 rfl
def J0m (x6 : Vector Jk 16) (b0 : T_api_Page) (x7 : Int) : Option (((Int) ⊕ (Bool))) :=
 if (decide (x7 < 16)) then
  Option.bind (J9L x6 x7) fun y2 =>
  if (decide (((List.length y2.Data : Nat) : Int) > 12)) then
   some (.inr false)
  else
   if y2.Set then
    if ((b0.LSN : Int) == 0) then
     some (.inr false)
    else
     some (.inl (IntKind.wrap .i64 (x7 + 1)))
   else
    if (y2.Data == []) then
     some (.inl (IntKind.wrap .i64 (x7 + 1)))
    else
     some (.inr false)
 else
  Option.map (fun o => .inr o) (J7H)
theorem JdV {x6 : Vector Jk 16} {b0 : T_api_Page} {x7 : Int} {o : ((Int) ⊕ (Bool))} (h : J0m x6 b0 x7 = some o) :
  rk (J6 p) J39 0 [.lo 1 [1, 6, 7] J0B, .bl 0, .td 1 [2], .sq (.keep [] J57)] (X (J6 p) J0B ⟨[(1, .ptr 0 0), (6, .data ((J06 Jm) x6)), (7, .p (.i .i64 x7))], [.box (List.map AV.p (J9 b0))]⟩) = (Jl7 p x6 b0) o := by
 unfold J0m at h
 rcases Jc h with ⟨h1, h⟩ | ⟨h1, h⟩
 ·obtain ⟨y2, h3, h⟩ := bi h
  have f4 : (0 ≤ (x7 : Int) ∧ (x7 : Int) < ((16 : Nat) : Int)) = True := eq_true (J8a h3).1
  have f5 : sub (J06 Jm x6) (Int.toNat x7 * 2) 2 = some (Jm y2) := Jen J0e (J8a h3).2
  try simp only [Nf] at f5
  try simp only [↓Da, Ua, J0B, J5, J0, J2, *, ↓reduceIte, reduceEqDiff, reduceAdd, reduceLT, reduceMul]
  rcases Jc h with ⟨h6, h⟩ | ⟨h6, h⟩
  ·obtain rfl := sj h
   try simp only [↓Da, Ua, J0B, J5, J0, J2, Jax, *, ↓reduceIte, reduceEqDiff, reduceAdd, reduceLT, reduceMul]
   rfl
  ·try simp only [↓Da, Ua, J0B, J5, J0, J2, *, ↓reduceIte, reduceEqDiff, reduceAdd, reduceLT, reduceMul]
   rcases Jc h with ⟨h7, h⟩ | ⟨h7, h⟩
   ·try simp only [↓Da, Ua, J0B, J5, J0, J2, *, ↓reduceIte, reduceEqDiff, reduceAdd, reduceLT, reduceMul]
    rcases Jc h with ⟨h8, h⟩ | ⟨h8, h⟩
    ·have h8n : ((b0.LSN : Int) != 0) = false := by rw [bne, h8]; rfl
     obtain rfl := sj h
     try simp only [↓Da, Ua, J0B, J5, J0, J2, Jax, *, ↓reduceIte, reduceEqDiff, reduceAdd, reduceLT, reduceMul]
     rfl
    ·have h8n : ((b0.LSN : Int) != 0) = true := by rw [bne, h8]; rfl
     obtain rfl := sj h
     try simp only [↓Da, Ua, J0B, J5, J0, J2, *, ↓reduceIte, reduceEqDiff, reduceAdd, reduceLT, reduceMul]
     rfl
   ·try simp only [↓Da, Ua, J0B, J5, J0, J2, *, ↓reduceIte, reduceEqDiff, reduceAdd, reduceLT, reduceMul]
    rcases Jc h with ⟨h9, h⟩ | ⟨h9, h⟩
    ·obtain rfl := sj h
     try simp only [↓Da, Ua, J0B, J5, J0, J2, *, ↓reduceIte, reduceEqDiff, reduceAdd, reduceLT, reduceMul]
     rfl
    ·obtain rfl := sj h
     try simp only [↓Da, Ua, J0B, J5, J0, J2, Jax, *, ↓reduceIte, reduceEqDiff, reduceAdd, reduceLT, reduceMul]
     rfl
 ·obtain ⟨o', h', rfl⟩ := mi h
  try simp only [↓Da, Ua, J0B, J5, J0, J2, *, ↓reduceIte, reduceEqDiff, reduceAdd, reduceLT, reduceMul]
  have e0 := Jkq p (B0 := (J9 b0)) h'
  first | exact e0 | (simp only [*] at e0; exact e0)
def Jel (x6 : Vector Jk 16) (b0 : T_api_Page) (s : Int) : Option (Bool) :=
 JO (fun s => J0m x6 b0 s) s
theorem Jiz {x6 : Vector Jk 16} {b0 : T_api_Page} {s : Int} {o : Bool} (h : Jel x6 b0 s = some o) :
  rk (J6 p) J39 0 [.bl 0, .td 1 [2], .sq (.keep [] J57)] (X (J6 p) (.lp 1 [1, 6, 7] J0B) ⟨[(1, .ptr 0 0), (6, .data ((J06 Jm) x6)), (7, .p (.i .i64 s))], [.box (List.map AV.p (J9 b0))]⟩) = J7F o := by
 have h0 : JO (fun s => J0m x6 b0 s) s = some o := h
 exact J0M (P := fun (s : Int) (o : Bool) => rk (J6 p) J39 0 [.bl 0, .td 1 [2], .sq (.keep [] J57)] (X (J6 p) (.lp 1 [1, 6, 7] J0B) ⟨[(1, .ptr 0 0), (6, .data ((J06 Jm) x6)), (7, .p (.i .i64 s))], [.box (List.map AV.p (J9 b0))]⟩) = J7F o) (fun s r hs => by rw [J0w]; exact JdV p hs) (fun s s1 r hs ih => by rw [J0w]; exact (JdV p hs).trans ih) h0
def J49 (x0 : T_api_Page) : Option (Bool) :=
 Jel x0.Cells x0 0
theorem Jje {x0 : T_api_Page} {o : Bool} (h : J49 x0 = some o) :
  rk (J6 p) J39 0 [] (X (J6 p) J92 ⟨[(0, .data (J9 x0))], []⟩) = J7F o := by
 unfold J49 at h
 try simp only [↓Da, Ua, J92, J5, J0, J2, ↓reduceIte, reduceEqDiff, reduceAdd, reduceLT, reduceMul]
 have e0 := Jiz p h
 first | exact e0 | (simp only [*] at e0; exact e0)
theorem Jn7 {x0 : T_api_Page} {o : Bool} (h : J49 x0 = some o) : AF (J6 p) J6p [.data (J9 x0)] [] = J7F o :=
 (J0h (J6 p) (JmZ p) rfl).trans (Jje p h)
theorem JgO {x0 : T_api_Page} {o : Bool} (h : J49 x0 = some o) : ∀ ws new st, (Jl (AF (J6 p)) J6p ([.data (J9 x0)], ws) 0 new).run st = some ⟨.p (.b o), ws⟩ := Jy rfl (Jn7 p h) rfl
def JcB (r : List UInt8) : Option Res := some (.p (.s r), [])
def J5b (x0 : List UInt8) (x1 : Int) : Option (List UInt8) := JkF x0 x1
theorem JiR {x0 : List UInt8} {x1 : Int} {o : List UInt8} (h : J5b x0 x1 = some o) : AF (J6 p) J30 [.p (.s x0), .p (.i .i64 x1)] [] = JcB o := by
 rw [JgZ (JiP p)]
 have h' : JkF x0 x1 = some o := h
 simp only [Jnv, h', Option.map_some, JcB]
theorem JcM {x0 : List UInt8} {x1 : Int} {o : List UInt8} (h : J5b x0 x1 = some o) : ∀ ws new st, (Jl (AF (J6 p)) J30 ([.p (.s x0), .p (.i .i64 x1)], ws) 0 new).run st = some ⟨.p (.s o), ws⟩ := Jy rfl (JiR p h) rfl
def JdZ (b0 : Int) (r : Bool) : Option Res := some (.p (.b r), [.box [.p (.i .i64 b0)]])
def J7M (x0 : T_api_Frame) (b0 : Int) : Option (Bool) :=
 some ((x0.Page.ID : Int) == b0)
theorem JgF {x0 : T_api_Frame} {b0 : Int} {o : Bool} (h : J7M x0 b0 = some o) :
  rk (J6 p) J6d 1 [] (X (J6 p) J7D ⟨[(0, .data (J7 x0)), (1, .ptr 0 0)], [.box [.p (.i .i64 b0)]]⟩) = (JdZ b0) o := by
 unfold J7M at h
 have f1 : sub (J7 x0) 0 1 = some ((r_i .i64) x0.Page.ID) := by
  have e0 := (J2w (JQ x0) (J2T x0.Page))
  exact e0
 try simp only [Nf] at f1
 obtain rfl := sj h
 try simp only [↓Da, Ua, J7D, J5, J0, J2, J4, Jkr, *, ↓reduceIte, reduceEqDiff, reduceAdd, reduceLT, reduceMul]
 rfl
theorem JkP {x0 : T_api_Frame} {b0 : Int} {o : Bool} (h : J7M x0 b0 = some o) : AF (J6 p) J13 [.data (J7 x0), .ptr 0 0] [.box [.p (.i .i64 b0)]] = (JdZ b0) o :=
 (J0h (J6 p) (Jl4 p) rfl).trans (JgF p h)
def JU (b0 r : Int) : Option Res := some (.p (.i .i64 r), [.box [.p (.i .i64 b0)]])
def J5u (x0 : List T_api_Frame) (x7 b0 : Int) (o : (Int) ⊕ (Int)) : Option Res := match o with
 | .inl s => rk (J6 p) JF 1 [.bl 0, .sq (.keep [] J04)] (X (J6 p) (.lp 1 [0, 1, 7, 8] JK) ⟨[(0, .p (.sl 37 (List.map J7 x0))), (1, .fn J13 [] [.ptr 0 0]), (7, .p (.i .i64 x7)), (8, .p (.i .i64 s))], [.box [.p (.i .i64 b0)]]⟩)
 | .inr o => (JU b0) o
def J0k (b0 : Int) : Option (Int) :=
 some (-1)
theorem J5o {b0 o : Int} (h : J0k b0 = some o) :
  rk (J6 p) JF 1 [] (X (J6 p) J04 ⟨[], [.box [.p (.i .i64 b0)]]⟩) = (JU b0) o := by
 unfold J0k at h
 obtain rfl := sj h
 try simp only [↓Da, Ua, J04, J4X, ↓reduceIte, reduceEqDiff, reduceAdd, reduceLT, reduceMul]
 rfl
def JM (x0 : List T_api_Frame) (x7 b0 x8 : Int) : Option (((Int) ⊕ (Int))) :=
 if (decide (x8 < x7)) then
  Option.bind (idx x0 x8) fun y2 =>
  Option.bind (J7M y2 b0) fun r5 =>
  if r5 then
   some (.inr x8)
  else
   some (.inl (IntKind.wrap .i64 (x8 + 1)))
 else
  Option.map (fun o => .inr o) (J0k b0)
theorem J2h {x0 : List T_api_Frame} {x7 b0 x8 : Int} {o : ((Int) ⊕ (Int))} (h : JM x0 x7 b0 x8 = some o) :
  rk (J6 p) JF 1 [.lo 1 [0, 1, 7, 8] JK, .bl 0, .sq (.keep [] J04)] (X (J6 p) JK ⟨[(0, .p (.sl 37 (List.map J7 x0))), (1, .fn J13 [] [.ptr 0 0]), (7, .p (.i .i64 x7)), (8, .p (.i .i64 x8))], [.box [.p (.i .i64 b0)]]⟩) = (J5u p x0 x7 b0) o := by
 unfold JM at h
 rcases Jc h with ⟨h1, h⟩ | ⟨h1, h⟩
 ·obtain ⟨y2, h3, h⟩ := bi h
  have f4 := J0f (r := J7) h3
  try simp only [Nf] at f4
  obtain ⟨r5, h6, h⟩ := bi h
  have f7 : ∀ ws new s, JC ws s [0] [[.p (.i .i64 b0)]] → (Jl (AF (J6 p)) J13 ([.data (J7 y2), .ptr 0 0], ws) 0 new).run s = some ⟨.p (.b r5), ws ++ [(0, .box ([.p (.i .i64 b0)]))]⟩ := Jv (args' := [.data (J7 y2), .ptr 0 0]) (bs := [0]) (css := [[.p (.i .i64 b0)]]) (css' := [[.p (.i .i64 b0)]]) rfl rfl rfl (by simp [Jg, Ja]) (JkP p h6) rfl rfl (by simp [Jg, Ja])
  try simp only [Nf] at f7
  try simp only [↓Da, Ua, JK, J5, J0, J2, J4, *, ↓reduceIte, reduceEqDiff, reduceAdd, reduceLT, reduceMul]
  rcases Jc h with ⟨h8, h⟩ | ⟨h8, h⟩
  ·obtain rfl := sj h
   try simp only [↓Da, Ua, JK, J5, J0, J2, J4, J4X, *, ↓reduceIte, reduceEqDiff, reduceAdd, reduceLT, reduceMul]
   rfl
  ·obtain rfl := sj h
   try simp only [↓Da, Ua, JK, J5, J0, J2, J4, *, ↓reduceIte, reduceEqDiff, reduceAdd, reduceLT, reduceMul]
   rfl
 ·obtain ⟨o', h', rfl⟩ := mi h
  try simp only [↓Da, Ua, JK, J5, J0, J2, J4, *, ↓reduceIte, reduceEqDiff, reduceAdd, reduceLT, reduceMul]
  have e0 := J5o p h'
  exact e0
def J2g (x0 : List T_api_Frame) (x7 b0 s : Int) : Option (Int) :=
 JO (fun s => JM x0 x7 b0 s) s
theorem J5f {x0 : List T_api_Frame} {x7 b0 : Int} {s o : Int} (h : J2g x0 x7 b0 s = some o) :
  rk (J6 p) JF 1 [.bl 0, .sq (.keep [] J04)] (X (J6 p) (.lp 1 [0, 1, 7, 8] JK) ⟨[(0, .p (.sl 37 (List.map J7 x0))), (1, .fn J13 [] [.ptr 0 0]), (7, .p (.i .i64 x7)), (8, .p (.i .i64 s))], [.box [.p (.i .i64 b0)]]⟩) = (JU b0) o := by
 have h0 : JO (fun s => JM x0 x7 b0 s) s = some o := h
 exact J0M (P := fun (s : Int) (o : Int) => rk (J6 p) JF 1 [.bl 0, .sq (.keep [] J04)] (X (J6 p) (.lp 1 [0, 1, 7, 8] JK) ⟨[(0, .p (.sl 37 (List.map J7 x0))), (1, .fn J13 [] [.ptr 0 0]), (7, .p (.i .i64 x7)), (8, .p (.i .i64 s))], [.box [.p (.i .i64 b0)]]⟩) = (JU b0) o) (fun s r hs => by rw [J0w]; exact J2h p hs) (fun s s1 r hs ih => by rw [J0w]; exact (J2h p hs).trans ih) h0
def J08 (x0 : List T_api_Frame) (b0 : Int) : Option (Int) :=
 J2g x0 ((List.length x0 : Nat) : Int) b0 0
theorem J53 {x0 : List T_api_Frame} {b0 o : Int} (h : J08 x0 b0 = some o) :
  rk (J6 p) JF 1 [] (X (J6 p) J0I ⟨[(0, .p (.sl 37 (List.map J7 x0))), (1, .fn J13 [] [.ptr 0 0])], [.box [.p (.i .i64 b0)]]⟩) = (JU b0) o := by
 unfold J08 at h
 try simp only [↓Da, Ua, J0I, J5, J0, J2, J4, ↓reduceIte, reduceEqDiff, reduceAdd, reduceLT, reduceMul]
 have e0 := J5f p h
 exact e0
theorem J5P {x0 : List T_api_Frame} {b0 o : Int} (h : J08 x0 b0 = some o) : AF (J6 p) J0l [.p (.sl 37 (List.map J7 x0)), .fn J13 [] [.ptr 0 0]] [.box [.p (.i .i64 b0)]] = (JU b0) o :=
 (J0h (J6 p) (J8F p) rfl).trans (J53 p h)
end
end Go.Am
end
section
namespace Go.Am
set_option maxRecDepth 8000
set_option maxHeartbeats 4000000
set_option linter.unusedSimpArgs false
set_option linter.unusedVariables false
noncomputable section
variable (p : FuncId → Option (List AV → List Blk → Option Res))
def Jic  (r : Int) : Option Res := some (.p (.i .i64 r), [])
def J1M (x0 : T_api_Pool) (x1 : Int) : Option (Int) :=
 Option.bind (J08 x0.Frames x1) fun r1 =>
 some r1
theorem Jjv {x0 : T_api_Pool} {x1 o : Int} (h : J1M x0 x1 = some o) :
  rk (J6 p) J8y 0 [] (X (J6 p) Ja0 ⟨[(0, .data (J3 x0)), (1, .p (.i .i64 x1))], []⟩) = Jic o := by
 unfold J1M at h
 obtain ⟨r1, h2, h⟩ := bi h
 have f3 : ∀ ws new s, JC ws s [1] [[.p (.i .i64 x1)]] → (Jl (AF (J6 p)) J0l ([.p (.sl 37 (List.map J7 x0.Frames)), .fn J13 [] [.ptr 1 0]], ws) 0 new).run s = some ⟨.p (.i .i64 r1), ws ++ [(1, .box ([.p (.i .i64 x1)]))]⟩ := Jv (args' := [.p (.sl 37 (List.map J7 x0.Frames)), .fn J13 [] [.ptr 0 0]]) (bs := [1]) (css := [[.p (.i .i64 x1)]]) (css' := [[.p (.i .i64 x1)]]) rfl rfl rfl (by simp [Jg, Ja]) (J5P p h2) rfl rfl (by simp [Jg, Ja])
 try simp only [Nf] at f3
 obtain rfl := sj h
 try simp only [↓Da, Ua, Ja0, J5, J0, J2, J8, J4, Jp7, *, ↓reduceIte, reduceEqDiff, reduceAdd, reduceLT, reduceMul]
 rfl
theorem Jpg {x0 : T_api_Pool} {x1 o : Int} (h : J1M x0 x1 = some o) : AF (J6 p) J3R [.data (J3 x0), .p (.i .i64 x1)] [] = Jic o :=
 (J0h (J6 p) (JoF p) rfl).trans (Jjv p h)
theorem J8z {x0 : T_api_Pool} {x1 o : Int} (h : J1M x0 x1 = some o) : ∀ ws new st, (Jl (AF (J6 p)) J3R ([.data (J3 x0), .p (.i .i64 x1)], ws) 0 new).run st = some ⟨.p (.i .i64 o), ws⟩ := Jy rfl (Jpg p h) rfl
def J69  (r : (List T_api_Frame)) : Option Res := some (.p (.slc 37 (List.map J7 r)), [])
def J0p (x0 : List T_api_Frame) : Option ((List T_api_Frame)) :=
 some x0
theorem J8Y {x0 : List T_api_Frame} {o : (List T_api_Frame)} (h : J0p x0 = some o) :
  rk (J6 p) J0G 0 [] (X (J6 p) J1i ⟨[(0, .p (.sl 37 (List.map J7 x0)))], []⟩) = J69 o := by
 unfold J0p at h
 have f1 : ∀ env sto, (slR (.sl 37) (.p (.sl 37 (List.map J7 x0))) none (some (.p (.i .i64 ((List.length x0 : Nat) : Int)))) (some (.p (.i .i64 ((List.length x0 : Nat) : Int))))).run ⟨env, sto⟩ = some ⟨.p (.slc 37 (List.map J7 x0)), []⟩ := fun env sto => JtP J7 _ env sto
 try simp only [Nf] at f1
 obtain rfl := sj h
 try simp only [↓Da, Ua, J1i, J5, J0, J2, J4, J9X, *, ↓reduceIte, reduceEqDiff, reduceAdd, reduceLT, reduceMul]
 rfl
theorem J9V {x0 : List T_api_Frame} {o : (List T_api_Frame)} (h : J0p x0 = some o) : AF (J6 p) J0o [.p (.sl 37 (List.map J7 x0))] [] = J69 o :=
 (J0h (J6 p) (Ja1 p) rfl).trans (J8Y p h)
theorem Ja2 {x0 : List T_api_Frame} {o : (List T_api_Frame)} (h : J0p x0 = some o) : ∀ ws new st, (Jl (AF (J6 p)) J0o ([.p (.sl 37 (List.map J7 x0))], ws) 0 new).run st = some ⟨.p (.slc 37 (List.map J7 o)), ws⟩ := Jy rfl (J9V p h) rfl
def J1x (x0 : List T_api_Dirty) : Option (List T_api_Dirty) := J9F (fun x : T_api_Dirty => x.Page) x0
theorem J90 {x0 o : List T_api_Dirty} (h : J1x x0 = some o) : AF (J6 p) J0R [.slr 0 0 (List.length x0), .fn 166 [] []] [.arr true 3 (List.map Je x0)] = some (.tup [], [.arr true 3 (List.map Je o)]) := by
 rw [JgZ (J8Z p)]
 have h' : J9F (fun x : T_api_Dirty => x.Page) x0 = some o := h
 exact Jt5 (dec := J8n) (r := Je) (fun _ => rfl) h'
theorem J8l {x0 o : List T_api_Dirty} (h : J1x x0 = some o) : List.length o = List.length x0 := by
 have h' : J9F (fun x : T_api_Dirty => x.Page) x0 = some o := h
 exact JqZ h'
def J1Q (x0 : List T_api_Frame) (x1 x2 : Int) : Option (List T_api_Frame) := Jiv x0 x1 x2
theorem J9s {x0 : List T_api_Frame} {x1 x2 : Int} {o : List T_api_Frame} (h : J1Q x0 x1 x2 = some o) : AF (J6 p) J16 [.slr 0 0 (List.length x0), .p (.i .i64 x1), .p (.i .i64 x2)] [.arr true 37 (List.map J7 x0)] = some (.p (.sl 37 (List.map J7 o)), [.arr false 37 (List.map J7 (o ++ List.replicate (List.length x0 - List.length o) (⟨(⟨0, 0, (Vector.replicate 16 (⟨false, []⟩ : Jk))⟩ : T_api_Page), false, 0, false⟩ : T_api_Frame)))]) := by
 rw [JgZ (J9p p)]
 exact Jv6 J7 (⟨(⟨0, 0, (Vector.replicate 16 (⟨false, []⟩ : Jk))⟩ : T_api_Page), false, 0, false⟩ : T_api_Frame) h
def J0j (x0 : List T_api_Frame) : Option (List T_api_Frame) := if (2 * x0.length + 512) * 424 ≤ 281474976710656 then some x0 else none
theorem J3w {x0 o : List T_api_Frame} (h : J0j x0 = some o) : AF (J6 p) JT [.p (.sl 37 (List.map J7 x0))] [] = some (.slr 0 0 o.length, [.arr true 37 (List.map J7 o)]) := by
 unfold J0j at h
 split at h
 ·rename_i h2
  injection h with h; subst h
  rw [JtW _ (J9O p)]
  cases x0 with
  | nil => simp [J1e, Jck, JeA, JaN.af]
  | cons a r =>
   simp at h2
   simp [J1e, Jck, JeA, JaN.af, h2]
 ·cases h
def Jdo  (r : Bool) : Option Res := some (.p (.b r), [])
def J3B (x0 : T_api_Page) : Option (Bool) :=
 if (decide (x0.ID ≥ 0)) then
  if (decide (x0.ID < 64)) then
   if (decide (x0.LSN ≥ 0)) then
    some (decide (x0.LSN ≤ 1099511627776))
   else
    some false
  else
   some false
 else
  some false
theorem JfA {x0 : T_api_Page} {o : Bool} (h : J3B x0 = some o) :
  rk (J6 p) J5x 0 [] (X (J6 p) J2c ⟨[(0, .data (J9 x0))], []⟩) = Jdo o := by
 unfold J3B at h
 rcases Jc h with ⟨h1, h⟩ | ⟨h1, h⟩
 ·try simp only [↓Da, Ua, J2c, J5, J0, J2, *, ↓reduceIte, reduceEqDiff, reduceAdd, reduceLT, reduceMul]
  rcases Jc h with ⟨h2, h⟩ | ⟨h2, h⟩
  ·try simp only [↓Da, Ua, J2c, J5, J0, J2, *, ↓reduceIte, reduceEqDiff, reduceAdd, reduceLT, reduceMul]
   rcases Jc h with ⟨h3, h⟩ | ⟨h3, h⟩
   ·obtain rfl := sj h
    try simp only [↓Da, Ua, J2c, J5, J0, J2, J8Q, *, ↓reduceIte, reduceEqDiff, reduceAdd, reduceLT, reduceMul]
    rfl
   ·obtain rfl := sj h
    try simp only [↓Da, Ua, J2c, J5, J0, J2, J8Q, *, ↓reduceIte, reduceEqDiff, reduceAdd, reduceLT, reduceMul]
    rfl
  ·obtain rfl := sj h
   try simp only [↓Da, Ua, J2c, J5, J0, J2, J8Q, *, ↓reduceIte, reduceEqDiff, reduceAdd, reduceLT, reduceMul]
   rfl
 ·obtain rfl := sj h
  try simp only [↓Da, Ua, J2c, J5, J0, J2, J8Q, *, ↓reduceIte, reduceEqDiff, reduceAdd, reduceLT, reduceMul]
  rfl
theorem JjM {x0 : T_api_Page} {o : Bool} (h : J3B x0 = some o) : AF (J6 p) J4q [.data (J9 x0)] [] = Jdo o :=
 (J0h (J6 p) (Jjz p) rfl).trans (JfA p h)
theorem Jdk {x0 : T_api_Page} {o : Bool} (h : J3B x0 = some o) : ∀ ws new st, (Jl (AF (J6 p)) J4q ([.data (J9 x0)], ws) 0 new).run st = some ⟨.p (.b o), ws⟩ := Jy rfl (JjM p h) rfl
def J7z  (r : Int) : Option Res := some (.p (.i .i64 r), [])
def JkQ (x1 : Int) (b0 : T_api_Pool) (o : (Int) ⊕ (Int)) : Option Res := match o with
 | .inl s => rk (J6 p) J37 0 [.bl 0, .sq (.keep [] J5c)] (X (J6 p) (.lp 1 [1, 2, 5] J2B) ⟨[(1, .p (.i .i64 x1)), (2, .ptr 0 0), (5, .p (.i .i64 s))], [.box (List.map AV.p (J3 b0))]⟩)
 | .inr o => J7z o
def J9w  : Option (Int) :=
 some (-1)
theorem Jl1 {B0 : List PV} {o : Int} (h : J9w = some o) :
  rk (J6 p) J37 0 [] (X (J6 p) J5c ⟨[], [.box (List.map AV.p B0)]⟩) = J7z o := by
 unfold J9w at h
 obtain rfl := sj h
 try simp only [↓Da, Ua, J5c, Jgx, ↓reduceIte, reduceEqDiff, reduceAdd, reduceLT, reduceMul]
 rfl
def J55 (x1 : Int) (b0 : T_api_Pool) (x5 : Int) : Option (((Int) ⊕ (Int))) :=
 if (decide (x5 < ((List.length b0.Frames : Nat) : Int))) then
  Option.bind (idx b0.Frames x5) fun y2 =>
  if ((y2.Page.ID : Int) == x1) then
   some (.inr x5)
  else
   some (.inl (IntKind.wrap .i64 (x5 + 1)))
 else
  Option.map (fun o => .inr o) (J9w)
theorem Je0 {x1 : Int} {b0 : T_api_Pool} {x5 : Int} {o : ((Int) ⊕ (Int))} (h : J55 x1 b0 x5 = some o) :
  rk (J6 p) J37 0 [.lo 1 [1, 2, 5] J2B, .bl 0, .sq (.keep [] J5c)] (X (J6 p) J2B ⟨[(1, .p (.i .i64 x1)), (2, .ptr 0 0), (5, .p (.i .i64 x5))], [.box (List.map AV.p (J3 b0))]⟩) = (JkQ p x1 b0) o := by
 unfold J55 at h
 rcases Jc h with ⟨h1, h⟩ | ⟨h1, h⟩
 ·obtain ⟨y2, h3, h⟩ := bi h
  have f4 := J0f (r := J7) h3
  try simp only [Nf] at f4
  have f5 : sub (J7 y2) 0 1 = some ((r_i .i64) y2.Page.ID) := by
   have e0 := (J2w (JQ y2) (J2T y2.Page))
   exact e0
  try simp only [Nf] at f5
  try simp only [↓Da, Ua, J2B, J5, J0, J2, J8, J4, *, ↓reduceIte, reduceEqDiff, reduceAdd, reduceLT, reduceMul]
  rcases Jc h with ⟨h6, h⟩ | ⟨h6, h⟩
  ·obtain rfl := sj h
   try simp only [↓Da, Ua, J2B, J5, J0, J2, J8, J4, Jgx, *, ↓reduceIte, reduceEqDiff, reduceAdd, reduceLT, reduceMul]
   rfl
  ·obtain rfl := sj h
   try simp only [↓Da, Ua, J2B, J5, J0, J2, J8, J4, *, ↓reduceIte, reduceEqDiff, reduceAdd, reduceLT, reduceMul]
   rfl
 ·obtain ⟨o', h', rfl⟩ := mi h
  try simp only [↓Da, Ua, J2B, J5, J0, J2, J8, J4, *, ↓reduceIte, reduceEqDiff, reduceAdd, reduceLT, reduceMul]
  have e0 := Jl1 p (B0 := (J3 b0)) h'
  exact e0
def Jbq (x1 : Int) (b0 : T_api_Pool) (s : Int) : Option (Int) :=
 JO (fun s => J55 x1 b0 s) s
theorem JiK {x1 : Int} {b0 : T_api_Pool} {s o : Int} (h : Jbq x1 b0 s = some o) :
  rk (J6 p) J37 0 [.bl 0, .sq (.keep [] J5c)] (X (J6 p) (.lp 1 [1, 2, 5] J2B) ⟨[(1, .p (.i .i64 x1)), (2, .ptr 0 0), (5, .p (.i .i64 s))], [.box (List.map AV.p (J3 b0))]⟩) = J7z o := by
 have h0 : JO (fun s => J55 x1 b0 s) s = some o := h
 exact J0M (P := fun (s : Int) (o : Int) => rk (J6 p) J37 0 [.bl 0, .sq (.keep [] J5c)] (X (J6 p) (.lp 1 [1, 2, 5] J2B) ⟨[(1, .p (.i .i64 x1)), (2, .ptr 0 0), (5, .p (.i .i64 s))], [.box (List.map AV.p (J3 b0))]⟩) = J7z o) (fun s r hs => by rw [J0w]; exact Je0 p hs) (fun s s1 r hs ih => by rw [J0w]; exact (Je0 p hs).trans ih) h0
def J1C (x0 : T_api_Pool) (x1 : Int) : Option (Int) :=
 Jbq x1 x0 0
theorem Jjb {x0 : T_api_Pool} {x1 o : Int} (h : J1C x0 x1 = some o) :
  rk (J6 p) J37 0 [] (X (J6 p) J9g ⟨[(0, .data (J3 x0)), (1, .p (.i .i64 x1))], []⟩) = J7z o := by
 unfold J1C at h
 try simp only [↓Da, Ua, J9g, J5, J0, J2, J8, J4, ↓reduceIte, reduceEqDiff, reduceAdd, reduceLT, reduceMul]
 have e0 := JiK p h
 exact e0
theorem Jo3 {x0 : T_api_Pool} {x1 o : Int} (h : J1C x0 x1 = some o) : AF (J6 p) J38 [.data (J3 x0), .p (.i .i64 x1)] [] = J7z o :=
 (J0h (J6 p) (Jok p) rfl).trans (Jjb p h)
theorem J7T {x0 : T_api_Pool} {x1 o : Int} (h : J1C x0 x1 = some o) : ∀ ws new st, (Jl (AF (J6 p)) J38 ([.data (J3 x0), .p (.i .i64 x1)], ws) 0 new).run st = some ⟨.p (.i .i64 o), ws⟩ := Jy rfl (Jo3 p h) rfl
def JhZ  (r : T_api_Pool) : Option Res := some (.data (J3 r), [])
def J3N (x0 : T_api_Pool) (x1 : Int) (x2 : T_api_Frame) : Option (T_api_Pool) :=
 Option.bind (Jf2 424 x0.Frames) fun u2 =>
 Option.bind (idx x0.Frames x1) fun y4 =>
 Option.bind (some (List.set x0.Frames (Int.toNat x1) x2)) fun m8 =>
 some (⟨x0.Size, m8, x0.Hand⟩ : T_api_Pool)
theorem Jke {x0 : T_api_Pool} {x1 : Int} {x2 : T_api_Frame} {o : T_api_Pool} (h : J3N x0 x1 x2 = some o) :
  rk (J6 p) J8s 0 [] (X (J6 p) Ja5 ⟨[(0, .data (J3 x0)), (1, .p (.i .i64 x1)), (2, .data (J7 x2))], []⟩) = JhZ o := by
 unfold J3N at h
 obtain ⟨u2, h3, h⟩ := bi h
 have f1 := (Jfc h3).1
 try simp only [Nf, Ji, Jh] at f1
 obtain ⟨y4, h5, h⟩ := bi h
 have f6 := JcG (r := J7) h5
 try simp only [Nf, Ji, Jh] at f6
 have f7 : (0 ≤ (x1 : Int) ∧ (x1 : Int) < (((List.length x0.Frames) : Nat) : Int)) = True := eq_true (by have e0 := Je7 h5; (try simp only [List.length_cons, List.length_nil, Nat.zero_add] at e0); omega)
 obtain ⟨m8, h9, h⟩ := bi h
 have f10 : List.set (List.map J7 x0.Frames) (Int.toNat x1) (J7 x2) = List.map J7 m8 := by
  rw [← Option.some.inj h9, List.map_set]
 try simp only [Nf, Ji, Jh] at f10
 have g11 : List.length m8 = List.length x0.Frames := by rw [← Option.some.inj h9, List.length_set]
 obtain rfl := sj h
 try simp only [↓Da, Ua, Ja5, Ji, J0, J2, Jh, J4, Jpf, *, ↓reduceIte, reduceEqDiff, reduceAdd, reduceLT, reduceMul]
 rfl
theorem JoX {x0 : T_api_Pool} {x1 : Int} {x2 : T_api_Frame} {o : T_api_Pool} (h : J3N x0 x1 x2 = some o) : AF (J6 p) J5m [.data (J3 x0), .p (.i .i64 x1), .data (J7 x2)] [] = JhZ o :=
 (J0h (J6 p) (JoA p) rfl).trans (Jke p h)
theorem Jbx {x0 : T_api_Pool} {x1 : Int} {x2 : T_api_Frame} {o : T_api_Pool} (h : J3N x0 x1 x2 = some o) : ∀ ws new st, (Jl (AF (J6 p)) J5m ([.data (J3 x0), .p (.i .i64 x1), .data (J7 x2)], ws) 0 new).run st = some ⟨.data (J3 o), ws⟩ := Jy rfl (JoX p h) rfl
def JgE  (r : Bool) : Option Res := some (.p (.b r), [])
def J5q (x0 : Int) : Option (Bool) :=
 if (decide (x0 ≥ 0)) then
  some (decide (x0 < 64))
 else
  some false
theorem JiB {x0 : Int} {o : Bool} (h : J5q x0 = some o) :
  rk (J6 p) J7A 0 [] (X (J6 p) J7x ⟨[(0, .p (.i .i64 x0))], []⟩) = JgE o := by
 unfold J5q at h
 rcases Jc h with ⟨h1, h⟩ | ⟨h1, h⟩
 ·obtain rfl := sj h
  try simp only [↓Da, Ua, J7x, Jgk, *, ↓reduceIte, reduceEqDiff, reduceAdd, reduceLT, reduceMul]
  rfl
 ·obtain rfl := sj h
  try simp only [↓Da, Ua, J7x, Jgk, *, ↓reduceIte, reduceEqDiff, reduceAdd, reduceLT, reduceMul]
  rfl
theorem Jns {x0 : Int} {o : Bool} (h : J5q x0 = some o) : AF (J6 p) J7P [.p (.i .i64 x0)] [] = JgE o :=
 (J0h (J6 p) (JmW p) rfl).trans (JiB p h)
theorem Jnj {x0 : Int} {o : Bool} (h : J5q x0 = some o) : ∀ ws new st, (Jl (AF (J6 p)) J7P ([.p (.i .i64 x0)], ws) 0 new).run st = some ⟨.p (.b o), ws⟩ := Jy rfl (Jns p h) rfl
def J46  (r : (Vector Int 16)) : Option Res := some (.data ((J06 (r_i .u32)) r), [])
def J3l (b0 : Vector Int 16) (o : (Int × (Vector Int 16)) ⊕ ((Vector Int 16))) : Option Res := match o with
 | .inl s => rk (J6 p) J01 0 [.bl 0, .sq (.keep [0, 1] J0g)] (X (J6 p) (.lp 2 [0, 1, 4] J0b) ⟨[(0, .ptr 0 0), (1, .ptr 1 0), (4, .p (.i .i64 s.1))], [.box (List.map AV.p ((J06 (r_i .u32)) b0)), .box (List.map AV.p ((J06 (r_i .u32)) s.2))]⟩)
 | .inr o => J46 o
def Jev (x2 x4 : Int) (b0 b1 : Vector Int 16) (o : (Int × Int) ⊕ (((Int × (Vector Int 16)) ⊕ ((Vector Int 16))))) : Option Res := match o with
 | .inl s => rk (J6 p) J01 0 [.bl 2, .sq (.keep [0, 1, 2, 3, 4] J2l), .bl 1, .sq (.keep [0, 1, 4] J1F), .lo 2 [0, 1, 4] J0b, .bl 0, .sq (.keep [0, 1] J0g)] (X (J6 p) (.lp 2 [0, 1, 2, 3, 4, 9] J0X) ⟨[(0, .ptr 0 0), (1, .ptr 1 0), (2, .p (.i .i64 x2)), (3, .p (.i .u32 s.1)), (4, .p (.i .i64 x4)), (9, .p (.i .i64 s.2))], [.box (List.map AV.p ((J06 (r_i .u32)) b0)), .box (List.map AV.p ((J06 (r_i .u32)) b1))]⟩)
 | .inr o => (J3l p b0) o
def J4n (x4 : Int) (b0 b1 : Vector Int 16) : Option (((Int × (Vector Int 16)) ⊕ ((Vector Int 16)))) :=
 some (.inl ((IntKind.wrap .i64 (x4 + 1)), b1))
theorem Jfe {x4 : Int} {b0 b1 : Vector Int 16} {o : ((Int × (Vector Int 16)) ⊕ ((Vector Int 16)))} (h : J4n x4 b0 b1 = some o) :
  rk (J6 p) J01 0 [.lo 2 [0, 1, 4] J0b, .bl 0, .sq (.keep [0, 1] J0g)] (X (J6 p) J1F ⟨[(0, .ptr 0 0), (1, .ptr 1 0), (4, .p (.i .i64 x4))], [.box (List.map AV.p ((J06 (r_i .u32)) b0)), .box (List.map AV.p ((J06 (r_i .u32)) b1))]⟩) = (J3l p b0) o := by
 unfold J4n at h
 obtain rfl := sj h
 try simp only [↓Da, Ua, J1F, ↓reduceIte, reduceEqDiff, reduceAdd, reduceLT, reduceMul]
 rfl
def J4m (x2 x3 x4 : Int) (b0 b1 : Vector Int 16) : Option (((Int × (Vector Int 16)) ⊕ ((Vector Int 16)))) :=
 Option.bind (inb 16 x2) fun u1 =>
 Option.bind (J9L b1 x2) fun y4 =>
 J4n x4 b0 (Jbh b1 x2 x3)
theorem JeJ {x2 x3 x4 : Int} {b0 b1 : Vector Int 16} {o : ((Int × (Vector Int 16)) ⊕ ((Vector Int 16)))} (h : J4m x2 x3 x4 b0 b1 = some o) :
  rk (J6 p) J01 0 [.bl 1, .sq (.keep [0, 1, 4] J1F), .lo 2 [0, 1, 4] J0b, .bl 0, .sq (.keep [0, 1] J0g)] (X (J6 p) J2l ⟨[(0, .ptr 0 0), (1, .ptr 1 0), (2, .p (.i .i64 x2)), (3, .p (.i .u32 x3)), (4, .p (.i .i64 x4))], [.box (List.map AV.p ((J06 (r_i .u32)) b0)), .box (List.map AV.p ((J06 (r_i .u32)) b1))]⟩) = (J3l p b0) o := by
 unfold J4m at h
 obtain ⟨u1, h2, h⟩ := bi h
 have f3 : (0 ≤ (x2 : Int) ∧ (x2 : Int) < ((16 : Nat) : Int)) = True := eq_true (Jbe h2)
 obtain ⟨y4, h5, h⟩ := bi h
 have f6 : spl ((J06 (r_i .u32)) b1) (Int.toNat x2 * 1) ((r_i .u32) x3) = some ((J06 (r_i .u32)) (Jbh b1 x2 x3)) := by
  have e0 := (JjB (v := b1) (Jbk .u32) (JgW h5) x3)
  exact e0
 try simp only [Nf] at f6
 try simp only [↓Da, Ua, J2l, *, ↓reduceIte, reduceEqDiff, reduceAdd, reduceLT, reduceMul]
 have e0 := Jfe p h
 exact e0
def J0y (x2 x4 : Int) (b0 b1 : Vector Int 16) (x3 x9 : Int) : Option (((Int × Int) ⊕ (((Int × (Vector Int 16)) ⊕ ((Vector Int 16)))))) :=
 if (decide (x9 < 4)) then
  if (((J60 .u32 x3 1) : Int) == 1) then
   Option.bind (Jdv .u32 x3 1) fun q3 =>
   some (.inl ((J7R .u32 q3 2197175160), (IntKind.wrap .i64 (x9 + 1))))
  else
   Option.bind (Jdv .u32 x3 1) fun q5 =>
   some (.inl (q5, (IntKind.wrap .i64 (x9 + 1))))
 else
  Option.map (fun o => .inr o) (J4m x2 x3 x4 b0 b1)
theorem JaW {x2 x4 : Int} {b0 b1 : Vector Int 16} {x3 x9 : Int} {o : ((Int × Int) ⊕ (((Int × (Vector Int 16)) ⊕ ((Vector Int 16)))))} (h : J0y x2 x4 b0 b1 x3 x9 = some o) :
  rk (J6 p) J01 0 [.lo 2 [0, 1, 2, 3, 4, 9] J0X, .bl 2, .sq (.keep [0, 1, 2, 3, 4] J2l), .bl 1, .sq (.keep [0, 1, 4] J1F), .lo 2 [0, 1, 4] J0b, .bl 0, .sq (.keep [0, 1] J0g)] (X (J6 p) J0X ⟨[(0, .ptr 0 0), (1, .ptr 1 0), (2, .p (.i .i64 x2)), (3, .p (.i .u32 x3)), (4, .p (.i .i64 x4)), (9, .p (.i .i64 x9))], [.box (List.map AV.p ((J06 (r_i .u32)) b0)), .box (List.map AV.p ((J06 (r_i .u32)) b1))]⟩) = (Jev p x2 x4 b0 b1) o := by
 unfold J0y at h
 rcases Jc h with ⟨h1, h⟩ | ⟨h1, h⟩
 ·try simp only [↓Da, Ua, J0X, *, ↓reduceIte, reduceEqDiff, reduceAdd, reduceLT, reduceMul]
  rcases Jc h with ⟨h2, h⟩ | ⟨h2, h⟩
  ·have h2n : (((J60 .u32 x3 1) : Int) != 1) = false := by rw [bne, h2]; rfl
   obtain ⟨q3, h4, h⟩ := bi h
   obtain rfl := sj h
   try simp only [↓Da, Ua, J0X, *, ↓reduceIte, reduceEqDiff, reduceAdd, reduceLT, reduceMul]
   rfl
  ·have h2n : (((J60 .u32 x3 1) : Int) != 1) = true := by rw [bne, h2]; rfl
   obtain ⟨q5, h6, h⟩ := bi h
   obtain rfl := sj h
   try simp only [↓Da, Ua, J0X, *, ↓reduceIte, reduceEqDiff, reduceAdd, reduceLT, reduceMul]
   rfl
 ·obtain ⟨o', h', rfl⟩ := mi h
  try simp only [↓Da, Ua, J0X, *, ↓reduceIte, reduceEqDiff, reduceAdd, reduceLT, reduceMul]
  have e0 := JeJ p h'
  exact e0
def J8c (x2 x4 : Int) (b0 b1 : Vector Int 16) (s : Int × Int) : Option (((Int × (Vector Int 16)) ⊕ ((Vector Int 16)))) :=
 JO (fun s => J0y x2 x4 b0 b1 s.1 s.2) s
theorem JdG {x2 x4 : Int} {b0 b1 : Vector Int 16} {s : Int × Int} {o : ((Int × (Vector Int 16)) ⊕ ((Vector Int 16)))} (h : J8c x2 x4 b0 b1 s = some o) :
  rk (J6 p) J01 0 [.bl 2, .sq (.keep [0, 1, 2, 3, 4] J2l), .bl 1, .sq (.keep [0, 1, 4] J1F), .lo 2 [0, 1, 4] J0b, .bl 0, .sq (.keep [0, 1] J0g)] (X (J6 p) (.lp 2 [0, 1, 2, 3, 4, 9] J0X) ⟨[(0, .ptr 0 0), (1, .ptr 1 0), (2, .p (.i .i64 x2)), (3, .p (.i .u32 s.1)), (4, .p (.i .i64 x4)), (9, .p (.i .i64 s.2))], [.box (List.map AV.p ((J06 (r_i .u32)) b0)), .box (List.map AV.p ((J06 (r_i .u32)) b1))]⟩) = (J3l p b0) o := by
 have h0 : JO (fun s => J0y x2 x4 b0 b1 s.1 s.2) s = some o := h
 exact J0M (P := fun (s : Int × Int) (o : ((Int × (Vector Int 16)) ⊕ ((Vector Int 16)))) => rk (J6 p) J01 0 [.bl 2, .sq (.keep [0, 1, 2, 3, 4] J2l), .bl 1, .sq (.keep [0, 1, 4] J1F), .lo 2 [0, 1, 4] J0b, .bl 0, .sq (.keep [0, 1] J0g)] (X (J6 p) (.lp 2 [0, 1, 2, 3, 4, 9] J0X) ⟨[(0, .ptr 0 0), (1, .ptr 1 0), (2, .p (.i .i64 x2)), (3, .p (.i .u32 s.1)), (4, .p (.i .i64 x4)), (9, .p (.i .i64 s.2))], [.box (List.map AV.p ((J06 (r_i .u32)) b0)), .box (List.map AV.p ((J06 (r_i .u32)) b1))]⟩) = (J3l p b0) o) (fun s r hs => by rw [J0w]; exact JaW p hs) (fun s s1 r hs ih => by rw [J0w]; exact (JaW p hs).trans ih) h0
def J4z (b0 b1 : Vector Int 16) : Option ((Vector Int 16)) :=
 some b1
theorem Jez {b0 b1 : Vector Int 16} {o : (Vector Int 16)} (h : J4z b0 b1 = some o) :
  rk (J6 p) J01 0 [] (X (J6 p) J0g ⟨[(0, .ptr 0 0), (1, .ptr 1 0)], [.box (List.map AV.p ((J06 (r_i .u32)) b0)), .box (List.map AV.p ((J06 (r_i .u32)) b1))]⟩) = J46 o := by
 unfold J4z at h
 obtain rfl := sj h
 try simp only [↓Da, Ua, J0g, J71, Jgl, ↓reduceIte, reduceEqDiff, reduceAdd, reduceLT, reduceMul]
 rfl
def J0Y (b0 : Vector Int 16) (x4 : Int) (b1 : Vector Int 16) : Option (((Int × (Vector Int 16)) ⊕ ((Vector Int 16)))) :=
 if (decide (x4 < 16)) then
  J8c x4 x4 b0 b1 ((IntKind.wrap .u32 x4), 0)
 else
  Option.map (fun o => .inr o) (J4z b0 b1)
theorem JaR {b0 : Vector Int 16} {x4 : Int} {b1 : Vector Int 16} {o : ((Int × (Vector Int 16)) ⊕ ((Vector Int 16)))} (h : J0Y b0 x4 b1 = some o) :
  rk (J6 p) J01 0 [.lo 2 [0, 1, 4] J0b, .bl 0, .sq (.keep [0, 1] J0g)] (X (J6 p) J0b ⟨[(0, .ptr 0 0), (1, .ptr 1 0), (4, .p (.i .i64 x4))], [.box (List.map AV.p ((J06 (r_i .u32)) b0)), .box (List.map AV.p ((J06 (r_i .u32)) b1))]⟩) = (J3l p b0) o := by
 unfold J0Y at h
 rcases Jc h with ⟨h1, h⟩ | ⟨h1, h⟩
 ·try simp only [↓Da, Ua, J0b, *, ↓reduceIte, reduceEqDiff, reduceAdd, reduceLT, reduceMul]
  have e0 := JdG p h
  exact e0
 ·obtain ⟨o', h', rfl⟩ := mi h
  try simp only [↓Da, Ua, J0b, *, ↓reduceIte, reduceEqDiff, reduceAdd, reduceLT, reduceMul]
  have e0 := Jez p h'
  exact e0
def JaA (b0 : Vector Int 16) (s : Int × (Vector Int 16)) : Option ((Vector Int 16)) :=
 JO (fun s => J0Y b0 s.1 s.2) s
theorem Jdz {b0 : Vector Int 16} {s : Int × (Vector Int 16)} {o : (Vector Int 16)} (h : JaA b0 s = some o) :
  rk (J6 p) J01 0 [.bl 0, .sq (.keep [0, 1] J0g)] (X (J6 p) (.lp 2 [0, 1, 4] J0b) ⟨[(0, .ptr 0 0), (1, .ptr 1 0), (4, .p (.i .i64 s.1))], [.box (List.map AV.p ((J06 (r_i .u32)) b0)), .box (List.map AV.p ((J06 (r_i .u32)) s.2))]⟩) = J46 o := by
 have h0 : JO (fun s => J0Y b0 s.1 s.2) s = some o := h
 exact J0M (P := fun (s : Int × (Vector Int 16)) (o : (Vector Int 16)) => rk (J6 p) J01 0 [.bl 0, .sq (.keep [0, 1] J0g)] (X (J6 p) (.lp 2 [0, 1, 4] J0b) ⟨[(0, .ptr 0 0), (1, .ptr 1 0), (4, .p (.i .i64 s.1))], [.box (List.map AV.p ((J06 (r_i .u32)) b0)), .box (List.map AV.p ((J06 (r_i .u32)) s.2))]⟩) = J46 o) (fun s r hs => by rw [J0w]; exact JaR p hs) (fun s s1 r hs ih => by rw [J0w]; exact (JaR p hs).trans ih) h0
def J35  : Option ((Vector Int 16)) :=
 JaA (Vector.replicate 16 0) (0, (Vector.replicate 16 0))
theorem Jdu  {o : (Vector Int 16)} (h : J35 = some o) :
  rk (J6 p) J01 0 [] (X (J6 p) J5v ⟨[], []⟩) = J46 o := by
 unfold J35 at h
 try simp only [↓Da, Ua, J5v, J71, ↓reduceIte, reduceEqDiff, reduceAdd, reduceLT, reduceMul]
 have e0 := Jdz p h
 exact e0
theorem Jgc  {o : (Vector Int 16)} (h : J35 = some o) : AF (J6 p) J45 [] [] = J46 o :=
 (J0h (J6 p) (JgQ p) rfl).trans (Jdu p h)
theorem JgC  {o : (Vector Int 16)} (h : J35 = some o) : ∀ ws new st, (Jl (AF (J6 p)) J45 ([], ws) 0 new).run st = some ⟨.data ((J06 (r_i .u32)) o), ws⟩ := Jy rfl (Jgc p h) rfl
def Jc4  (r : Bool) : Option Res := some (.p (.b r), [])
def J0z (x0 : Jk) : Option (Bool) :=
 if (decide (((List.length x0.Data : Nat) : Int) ≤ 12)) then
  if x0.Set then
   some true
  else
   some (x0.Data == [])
 else
  some false
theorem JdO {x0 : Jk} {o : Bool} (h : J0z x0 = some o) :
  rk (J6 p) J4J 0 [] (X (J6 p) J2C ⟨[(0, .data (Jm x0))], []⟩) = Jc4 o := by
 unfold J0z at h
 rcases Jc h with ⟨h1, h⟩ | ⟨h1, h⟩
 ·try simp only [↓Da, Ua, J2C, J5, *, ↓reduceIte, reduceEqDiff, reduceAdd, reduceLT, reduceMul]
  rcases Jc h with ⟨h2, h⟩ | ⟨h2, h⟩
  ·obtain rfl := sj h
   try simp only [↓Da, Ua, J2C, J5, J9S, *, ↓reduceIte, reduceEqDiff, reduceAdd, reduceLT, reduceMul]
   rfl
  ·obtain rfl := sj h
   try simp only [↓Da, Ua, J2C, J5, J9S, *, ↓reduceIte, reduceEqDiff, reduceAdd, reduceLT, reduceMul]
   rfl
 ·obtain rfl := sj h
  try simp only [↓Da, Ua, J2C, J5, J9S, *, ↓reduceIte, reduceEqDiff, reduceAdd, reduceLT, reduceMul]
  rfl
theorem Jht {x0 : Jk} {o : Bool} (h : J0z x0 = some o) : AF (J6 p) J4E [.data (Jm x0)] [] = Jc4 o :=
 (J0h (J6 p) (Jhz p) rfl).trans (JdO p h)
theorem Jhq {x0 : Jk} {o : Bool} (h : J0z x0 = some o) : ∀ ws new st, (Jl (AF (J6 p)) J4E ([.data (Jm x0)], ws) 0 new).run st = some ⟨.p (.b o), ws⟩ := Jy rfl (Jht p h) rfl
def J3q  (r : T_api_Page × T_pagemenddraw_Codes) : Option Res := some (.data (J9 r.1), [.box (List.map AV.p (J1 r.2))])
def Jfy (b1 : T_api_Page) (o : (Int × T_pagemenddraw_Codes × T_api_Page) ⊕ (T_api_Page × T_pagemenddraw_Codes)) : Option Res := match o with
 | .inl s => rk (J6 p) J0U 1 [.bl 0, .sq (.keep [4, 5] J2G)] (X (J6 p) (.lp 3 [0, 4, 5, 6] J1W) ⟨[(0, .ptr 0 0), (4, .ptr 1 0), (5, .ptr 2 0), (6, .p (.i .i64 s.1))], [.box (List.map AV.p (J1 s.2.1)), .box (List.map AV.p (J9 b1)), .box (List.map AV.p (J9 s.2.2))]⟩)
 | .inr o => J3q o
def J3J (b0 : T_pagemenddraw_Codes) (b1 b2 : T_api_Page) : Option (T_api_Page × T_pagemenddraw_Codes) :=
 some (b2, b0)
theorem Jb1 {b0 : T_pagemenddraw_Codes} {b1 b2 : T_api_Page} {o : T_api_Page × T_pagemenddraw_Codes} (h : J3J b0 b1 b2 = some o) :
  rk (J6 p) J0U 1 [] (X (J6 p) J2G ⟨[(4, .ptr 1 0), (5, .ptr 2 0)], [.box (List.map AV.p (J1 b0)), .box (List.map AV.p (J9 b1)), .box (List.map AV.p (J9 b2))]⟩) = J3q o := by
 unfold J3J at h
 obtain rfl := sj h
 try simp only [↓Da, Ua, J2G, J5, J0, J2, JhO, ↓reduceIte, reduceEqDiff, reduceAdd, reduceLT, reduceMul]
 rfl
def J2N (b1 : T_api_Page) (x6 : Int) (b0 : T_pagemenddraw_Codes) (b2 : T_api_Page) : Option (((Int × T_pagemenddraw_Codes × T_api_Page) ⊕ (T_api_Page × T_pagemenddraw_Codes))) :=
 if (decide (x6 > 0)) then
  Option.bind (Jp b0 16) fun r2 =>
  Option.bind (J3x r2.2) fun r5 =>
  Option.bind (inb 16 r2.1) fun u8 =>
  Option.bind (J9L b2.Cells r2.1) fun y11 =>
  some (.inl ((IntKind.wrap .i64 (x6 - 1)), r5.2, (⟨b2.ID, b2.LSN, (Jbh b2.Cells r2.1 r5.1)⟩ : T_api_Page)))
 else
  Option.map (fun o => .inr o) (J3J b0 b1 b2)
theorem Jba {b1 : T_api_Page} {x6 : Int} {b0 : T_pagemenddraw_Codes} {b2 : T_api_Page} {o : ((Int × T_pagemenddraw_Codes × T_api_Page) ⊕ (T_api_Page × T_pagemenddraw_Codes))} (h : J2N b1 x6 b0 b2 = some o) :
  rk (J6 p) J0U 1 [.lo 3 [0, 4, 5, 6] J1W, .bl 0, .sq (.keep [4, 5] J2G)] (X (J6 p) J1W ⟨[(0, .ptr 0 0), (4, .ptr 1 0), (5, .ptr 2 0), (6, .p (.i .i64 x6))], [.box (List.map AV.p (J1 b0)), .box (List.map AV.p (J9 b1)), .box (List.map AV.p (J9 b2))]⟩) = (Jfy p b1) o := by
 unfold J2N at h
 rcases Jc h with ⟨h1, h⟩ | ⟨h1, h⟩
 ·obtain ⟨r2, h3, h⟩ := bi h
  have f4 : ∀ ws new s, JC ws s [0] [List.map AV.p (J1 b0)] → (Jl (AF (J6 p)) Jd ([.ptr 0 0, .p (.i .i64 16)], ws) 0 new).run s = some ⟨.p (.i .i64 r2.1), ws ++ [(0, .box (List.map AV.p (J1 r2.2)))]⟩ := Jv (args' := [.ptr 0 0, .p (.i .i64 16)]) (bs := [0]) (css := [List.map AV.p (J1 b0)]) (css' := [List.map AV.p (J1 r2.2)]) rfl rfl rfl (by simp [Jg, Ja]) (Ju p h3) rfl rfl (by simp [Jg, Ja])
  try simp only [Nf] at f4
  obtain ⟨r5, h6, h⟩ := bi h
  have f7 : ∀ ws new s, JC ws s [0] [List.map AV.p (J1 r2.2)] → (Jl (AF (J6 p)) J2E ([.ptr 0 0], ws) 0 new).run s = some ⟨.data (Jm r5.1), ws ++ [(0, .box (List.map AV.p (J1 r5.2)))]⟩ := Jv (args' := [.ptr 0 0]) (bs := [0]) (css := [List.map AV.p (J1 r2.2)]) (css' := [List.map AV.p (J1 r5.2)]) rfl rfl rfl (by simp [Jg, Ja]) (Jc5 p h6) rfl rfl (by simp [Jg, Ja])
  try simp only [Nf] at f7
  obtain ⟨u8, h9, h⟩ := bi h
  have f10 : (0 ≤ (r2.1 : Int) ∧ (r2.1 : Int) < ((16 : Nat) : Int)) = True := eq_true (Jbe h9)
  obtain ⟨y11, h12, h⟩ := bi h
  have f13 : spl (J9 b2) (2 + Int.toNat r2.1 * 2) (Jm r5.1) = some (J9 (⟨b2.ID, b2.LSN, (Jbh b2.Cells r2.1 r5.1)⟩ : T_api_Page)) := by
   have e0 := (JgS (J41 b2) (JjB (v := b2.Cells) J0e (JgW h12) r5.1) (J79 b2 _))
   exact e0
  try simp only [Nf] at f13
  obtain rfl := sj h
  try simp only [↓Da, Ua, J1W, J5, Jb, *, ↓reduceIte, reduceEqDiff, reduceAdd, reduceLT, reduceMul]
  rfl
 ·obtain ⟨o', h', rfl⟩ := mi h
  try simp only [↓Da, Ua, J1W, J5, Jb, *, ↓reduceIte, reduceEqDiff, reduceAdd, reduceLT, reduceMul]
  have e0 := Jb1 p h'
  exact e0
def Jb5 (b1 : T_api_Page) (s : Int × T_pagemenddraw_Codes × T_api_Page) : Option (T_api_Page × T_pagemenddraw_Codes) :=
 JO (fun s => J2N b1 s.1 s.2.1 s.2.2) s
theorem JdT {b1 : T_api_Page} {s : Int × T_pagemenddraw_Codes × T_api_Page} {o : T_api_Page × T_pagemenddraw_Codes} (h : Jb5 b1 s = some o) :
  rk (J6 p) J0U 1 [.bl 0, .sq (.keep [4, 5] J2G)] (X (J6 p) (.lp 3 [0, 4, 5, 6] J1W) ⟨[(0, .ptr 0 0), (4, .ptr 1 0), (5, .ptr 2 0), (6, .p (.i .i64 s.1))], [.box (List.map AV.p (J1 s.2.1)), .box (List.map AV.p (J9 b1)), .box (List.map AV.p (J9 s.2.2))]⟩) = J3q o := by
 have h0 : JO (fun s => J2N b1 s.1 s.2.1 s.2.2) s = some o := h
 exact J0M (P := fun (s : Int × T_pagemenddraw_Codes × T_api_Page) (o : T_api_Page × T_pagemenddraw_Codes) => rk (J6 p) J0U 1 [.bl 0, .sq (.keep [4, 5] J2G)] (X (J6 p) (.lp 3 [0, 4, 5, 6] J1W) ⟨[(0, .ptr 0 0), (4, .ptr 1 0), (5, .ptr 2 0), (6, .p (.i .i64 s.1))], [.box (List.map AV.p (J1 s.2.1)), .box (List.map AV.p (J9 b1)), .box (List.map AV.p (J9 s.2.2))]⟩) = J3q o) (fun s r hs => by rw [J0w]; exact Jba p hs) (fun s s1 r hs ih => by rw [J0w]; exact (Jba p hs).trans ih) h0
def J3I (b0 : T_pagemenddraw_Codes) (b1 b2 : T_api_Page) : Option (T_api_Page × T_pagemenddraw_Codes) :=
 if (decide (b2.LSN > 0)) then
  Option.bind (Jp b0 6) fun r2 =>
  Jb5 b1 (r2.1, r2.2, b2)
 else
  J3J b0 b1 b2
theorem Jb8 {b0 : T_pagemenddraw_Codes} {b1 b2 : T_api_Page} {o : T_api_Page × T_pagemenddraw_Codes} (h : J3I b0 b1 b2 = some o) :
  rk (J6 p) J0U 1 [] (X (J6 p) J6s ⟨[(0, .ptr 0 0), (4, .ptr 1 0), (5, .ptr 2 0)], [.box (List.map AV.p (J1 b0)), .box (List.map AV.p (J9 b1)), .box (List.map AV.p (J9 b2))]⟩) = J3q o := by
 unfold J3I at h
 rcases Jc h with ⟨h1, h⟩ | ⟨h1, h⟩
 ·obtain ⟨r2, h3, h⟩ := bi h
  have f4 : ∀ ws new s, JC ws s [0] [List.map AV.p (J1 b0)] → (Jl (AF (J6 p)) Jd ([.ptr 0 0, .p (.i .i64 6)], ws) 0 new).run s = some ⟨.p (.i .i64 r2.1), ws ++ [(0, .box (List.map AV.p (J1 r2.2)))]⟩ := Jv (args' := [.ptr 0 0, .p (.i .i64 6)]) (bs := [0]) (css := [List.map AV.p (J1 b0)]) (css' := [List.map AV.p (J1 r2.2)]) rfl rfl rfl (by simp [Jg, Ja]) (Ju p h3) rfl rfl (by simp [Jg, Ja])
  try simp only [Nf] at f4
  try simp only [↓Da, Ua, J6s, J5, J0, J2, Jb, *, ↓reduceIte, reduceEqDiff, reduceAdd, reduceLT, reduceMul]
  have e0 := JdT p h
  exact e0
 ·try simp only [↓Da, Ua, J6s, J5, J0, J2, Jb, *, ↓reduceIte, reduceEqDiff, reduceAdd, reduceLT, reduceMul]
  have e0 := Jb1 p h
  exact e0
def J3s (b0 : T_pagemenddraw_Codes) (x1 : Int) : Option (T_api_Page × T_pagemenddraw_Codes) :=
 Option.bind (Jp b0 50) fun r1 =>
 Option.bind (Jp r1.2 10) fun r4 =>
 if ((r4.1 : Int) == 9) then
  Option.bind (Jp r4.2 2) fun r8 =>
  J3I r8.2 (⟨0, 0, (Vector.replicate 16 (⟨false, []⟩ : Jk))⟩ : T_api_Page) (⟨x1, (IntKind.wrap .i64 (1099511627776 - r8.1)), (Vector.replicate 16 (⟨false, []⟩ : Jk))⟩ : T_api_Page)
 else
  J3I r4.2 (⟨0, 0, (Vector.replicate 16 (⟨false, []⟩ : Jk))⟩ : T_api_Page) (⟨x1, r1.1, (Vector.replicate 16 (⟨false, []⟩ : Jk))⟩ : T_api_Page)
theorem Jea {b0 : T_pagemenddraw_Codes} {x1 : Int} {o : T_api_Page × T_pagemenddraw_Codes} (h : J3s b0 x1 = some o) :
  rk (J6 p) J0U 1 [] (X (J6 p) J3u ⟨[(0, .ptr 0 0), (1, .p (.i .i64 x1))], [.box (List.map AV.p (J1 b0))]⟩) = J3q o := by
 unfold J3s at h
 obtain ⟨r1, h2, h⟩ := bi h
 have f3 : ∀ ws new s, JC ws s [0] [List.map AV.p (J1 b0)] → (Jl (AF (J6 p)) Jd ([.ptr 0 0, .p (.i .i64 50)], ws) 0 new).run s = some ⟨.p (.i .i64 r1.1), ws ++ [(0, .box (List.map AV.p (J1 r1.2)))]⟩ := Jv (args' := [.ptr 0 0, .p (.i .i64 50)]) (bs := [0]) (css := [List.map AV.p (J1 b0)]) (css' := [List.map AV.p (J1 r1.2)]) rfl rfl rfl (by simp [Jg, Ja]) (Ju p h2) rfl rfl (by simp [Jg, Ja])
 try simp only [Nf] at f3
 obtain ⟨r4, h5, h⟩ := bi h
 have f6 : ∀ ws new s, JC ws s [0] [List.map AV.p (J1 r1.2)] → (Jl (AF (J6 p)) Jd ([.ptr 0 0, .p (.i .i64 10)], ws) 0 new).run s = some ⟨.p (.i .i64 r4.1), ws ++ [(0, .box (List.map AV.p (J1 r4.2)))]⟩ := Jv (args' := [.ptr 0 0, .p (.i .i64 10)]) (bs := [0]) (css := [List.map AV.p (J1 r1.2)]) (css' := [List.map AV.p (J1 r4.2)]) rfl rfl rfl (by simp [Jg, Ja]) (Ju p h5) rfl rfl (by simp [Jg, Ja])
 try simp only [Nf] at f6
 try simp only [↓Da, Ua, J3u, J5, J0, J2, Jb, *, ↓reduceIte, reduceEqDiff, reduceAdd, reduceLT, reduceMul]
 rcases Jc h with ⟨h7, h⟩ | ⟨h7, h⟩
 ·have h7n : ((r4.1 : Int) != 9) = false := by rw [bne, h7]; rfl
  obtain ⟨r8, h9, h⟩ := bi h
  have f10 : ∀ ws new s, JC ws s [0] [List.map AV.p (J1 r4.2)] → (Jl (AF (J6 p)) Jd ([.ptr 0 0, .p (.i .i64 2)], ws) 0 new).run s = some ⟨.p (.i .i64 r8.1), ws ++ [(0, .box (List.map AV.p (J1 r8.2)))]⟩ := Jv (args' := [.ptr 0 0, .p (.i .i64 2)]) (bs := [0]) (css := [List.map AV.p (J1 r4.2)]) (css' := [List.map AV.p (J1 r8.2)]) rfl rfl rfl (by simp [Jg, Ja]) (Ju p h9) rfl rfl (by simp [Jg, Ja])
  try simp only [Nf] at f10
  try simp only [↓Da, Ua, J3u, J5, J0, J2, Jb, *, ↓reduceIte, reduceEqDiff, reduceAdd, reduceLT, reduceMul]
  have e0 := Jb8 p h
  exact e0
 ·have h7n : ((r4.1 : Int) != 9) = true := by rw [bne, h7]; rfl
  try simp only [↓Da, Ua, J3u, J5, J0, J2, Jb, *, ↓reduceIte, reduceEqDiff, reduceAdd, reduceLT, reduceMul]
  have e0 := Jb8 p h
  exact e0
theorem JbZ {b0 : T_pagemenddraw_Codes} {x1 : Int} {o : T_api_Page × T_pagemenddraw_Codes} (h : J3s b0 x1 = some o) : AF (J6 p) J1v [.ptr 0 0, .p (.i .i64 x1)] [.box (List.map AV.p (J1 b0))] = J3q o :=
 (J0h (J6 p) (Jhv p) rfl).trans (Jea p h)
def JaF  (r : T_api_Page × T_pagemenddraw_Codes) : Option Res := some (.data (J9 r.1), [.box (List.map AV.p (J1 r.2))])
def J1E (b0 : T_pagemenddraw_Codes) (x1 : T_api_Page) : Option (T_api_Page × T_pagemenddraw_Codes) :=
 Option.bind (Jp b0 4) fun r1 =>
 if ((r1.1 : Int) == 0) then
  Option.bind (J1N r1.2) fun r5 =>
  some ((⟨r5.1, x1.LSN, x1.Cells⟩ : T_api_Page), r5.2)
 else
  if ((r1.1 : Int) == 1) then
   Option.bind (J1N r1.2) fun r9 =>
   some ((⟨x1.ID, r9.1, x1.Cells⟩ : T_api_Page), r9.2)
  else
   if ((r1.1 : Int) == 2) then
    Option.bind (Jp r1.2 16) fun r13 =>
    Option.bind (Jp r13.2 2) fun r16 =>
    Option.bind (J1Z r16.2) fun r19 =>
    Option.bind (inb 16 r13.1) fun u22 =>
    Option.bind (J9L x1.Cells r13.1) fun y25 =>
    some ((⟨x1.ID, x1.LSN, (Jbh x1.Cells r13.1 (⟨((r16.1 : Int) == 1), r19.1⟩ : Jk))⟩ : T_api_Page), r19.2)
   else
    if ((r1.1 : Int) == 3) then
     Option.bind (Jp r1.2 16) fun r29 =>
     Option.bind (J3x r29.2) fun r32 =>
     Option.bind (inb 16 r29.1) fun u35 =>
     Option.bind (J9L x1.Cells r29.1) fun y38 =>
     some ((⟨x1.ID, x1.LSN, (Jbh x1.Cells r29.1 r32.1)⟩ : T_api_Page), r32.2)
    else
     some (x1, r1.2)
theorem JcR {b0 : T_pagemenddraw_Codes} {x1 : T_api_Page} {o : T_api_Page × T_pagemenddraw_Codes} (h : J1E b0 x1 = some o) :
  rk (J6 p) J3j 1 [] (X (J6 p) J0i ⟨[(0, .ptr 0 0), (1, .data (J9 x1))], [.box (List.map AV.p (J1 b0))]⟩) = JaF o := by
 unfold J1E at h
 obtain ⟨r1, h2, h⟩ := bi h
 have f3 : ∀ ws new s, JC ws s [0] [List.map AV.p (J1 b0)] → (Jl (AF (J6 p)) Jd ([.ptr 0 0, .p (.i .i64 4)], ws) 0 new).run s = some ⟨.p (.i .i64 r1.1), ws ++ [(0, .box (List.map AV.p (J1 r1.2)))]⟩ := Jv (args' := [.ptr 0 0, .p (.i .i64 4)]) (bs := [0]) (css := [List.map AV.p (J1 b0)]) (css' := [List.map AV.p (J1 r1.2)]) rfl rfl rfl (by simp [Jg, Ja]) (Ju p h2) rfl rfl (by simp [Jg, Ja])
 try simp only [Nf] at f3
 try simp only [↓Da, Ua, J0i, J5, J0, J2, Jb, *, ↓reduceIte, reduceEqDiff, reduceAdd, reduceLT, reduceMul]
 rcases Jc h with ⟨h4, h⟩ | ⟨h4, h⟩
 ·have h4n : ((r1.1 : Int) != 0) = false := by rw [bne, h4]; rfl
  obtain ⟨r5, h6, h⟩ := bi h
  have f7 : ∀ ws new s, JC ws s [0] [List.map AV.p (J1 r1.2)] → (Jl (AF (J6 p)) J1q ([.ptr 0 0], ws) 0 new).run s = some ⟨.p (.i .i64 r5.1), ws ++ [(0, .box (List.map AV.p (J1 r5.2)))]⟩ := Jv (args' := [.ptr 0 0]) (bs := [0]) (css := [List.map AV.p (J1 r1.2)]) (css' := [List.map AV.p (J1 r5.2)]) rfl rfl rfl (by simp [Jg, Ja]) (J8g p h6) rfl rfl (by simp [Jg, Ja])
  try simp only [Nf] at f7
  obtain rfl := sj h
  try simp only [↓Da, Ua, J0i, J5, J0, J2, Jb, J4u, *, ↓reduceIte, reduceEqDiff, reduceAdd, reduceLT, reduceMul]
  rfl
 ·have h4n : ((r1.1 : Int) != 0) = true := by rw [bne, h4]; rfl
  try simp only [↓Da, Ua, J0i, J5, J0, J2, Jb, *, ↓reduceIte, reduceEqDiff, reduceAdd, reduceLT, reduceMul]
  rcases Jc h with ⟨h8, h⟩ | ⟨h8, h⟩
  ·have h8n : ((r1.1 : Int) != 1) = false := by rw [bne, h8]; rfl
   obtain ⟨r9, h10, h⟩ := bi h
   have f11 : ∀ ws new s, JC ws s [0] [List.map AV.p (J1 r1.2)] → (Jl (AF (J6 p)) J1q ([.ptr 0 0], ws) 0 new).run s = some ⟨.p (.i .i64 r9.1), ws ++ [(0, .box (List.map AV.p (J1 r9.2)))]⟩ := Jv (args' := [.ptr 0 0]) (bs := [0]) (css := [List.map AV.p (J1 r1.2)]) (css' := [List.map AV.p (J1 r9.2)]) rfl rfl rfl (by simp [Jg, Ja]) (J8g p h10) rfl rfl (by simp [Jg, Ja])
   try simp only [Nf] at f11
   obtain rfl := sj h
   try simp only [↓Da, Ua, J0i, J5, J0, J2, Jb, J4u, *, ↓reduceIte, reduceEqDiff, reduceAdd, reduceLT, reduceMul]
   rfl
  ·have h8n : ((r1.1 : Int) != 1) = true := by rw [bne, h8]; rfl
   try simp only [↓Da, Ua, J0i, J5, J0, J2, Jb, *, ↓reduceIte, reduceEqDiff, reduceAdd, reduceLT, reduceMul]
   rcases Jc h with ⟨h12, h⟩ | ⟨h12, h⟩
   ·have h12n : ((r1.1 : Int) != 2) = false := by rw [bne, h12]; rfl
    obtain ⟨r13, h14, h⟩ := bi h
    have f15 : ∀ ws new s, JC ws s [0] [List.map AV.p (J1 r1.2)] → (Jl (AF (J6 p)) Jd ([.ptr 0 0, .p (.i .i64 16)], ws) 0 new).run s = some ⟨.p (.i .i64 r13.1), ws ++ [(0, .box (List.map AV.p (J1 r13.2)))]⟩ := Jv (args' := [.ptr 0 0, .p (.i .i64 16)]) (bs := [0]) (css := [List.map AV.p (J1 r1.2)]) (css' := [List.map AV.p (J1 r13.2)]) rfl rfl rfl (by simp [Jg, Ja]) (Ju p h14) rfl rfl (by simp [Jg, Ja])
    try simp only [Nf] at f15
    obtain ⟨r16, h17, h⟩ := bi h
    have f18 : ∀ ws new s, JC ws s [0] [List.map AV.p (J1 r13.2)] → (Jl (AF (J6 p)) Jd ([.ptr 0 0, .p (.i .i64 2)], ws) 0 new).run s = some ⟨.p (.i .i64 r16.1), ws ++ [(0, .box (List.map AV.p (J1 r16.2)))]⟩ := Jv (args' := [.ptr 0 0, .p (.i .i64 2)]) (bs := [0]) (css := [List.map AV.p (J1 r13.2)]) (css' := [List.map AV.p (J1 r16.2)]) rfl rfl rfl (by simp [Jg, Ja]) (Ju p h17) rfl rfl (by simp [Jg, Ja])
    try simp only [Nf] at f18
    obtain ⟨r19, h20, h⟩ := bi h
    have f21 : ∀ ws new s, JC ws s [0] [List.map AV.p (J1 r16.2)] → (Jl (AF (J6 p)) J2F ([.ptr 0 0], ws) 0 new).run s = some ⟨.p (.s r19.1), ws ++ [(0, .box (List.map AV.p (J1 r19.2)))]⟩ := Jv (args' := [.ptr 0 0]) (bs := [0]) (css := [List.map AV.p (J1 r16.2)]) (css' := [List.map AV.p (J1 r19.2)]) rfl rfl rfl (by simp [Jg, Ja]) (Jc7 p h20) rfl rfl (by simp [Jg, Ja])
    try simp only [Nf] at f21
    obtain ⟨u22, h23, h⟩ := bi h
    have f24 : (0 ≤ (r13.1 : Int) ∧ (r13.1 : Int) < ((16 : Nat) : Int)) = True := eq_true (Jbe h23)
    obtain ⟨y25, h26, h⟩ := bi h
    have f27 : spl (J9 x1) (2 + Int.toNat r13.1 * 2) (Jm (⟨((r16.1 : Int) == 1), r19.1⟩ : Jk)) = some (J9 (⟨x1.ID, x1.LSN, (Jbh x1.Cells r13.1 (⟨((r16.1 : Int) == 1), r19.1⟩ : Jk))⟩ : T_api_Page)) := by
     have e0 := (JgS (J41 x1) (JjB (v := x1.Cells) J0e (JgW h26) (⟨((r16.1 : Int) == 1), r19.1⟩ : Jk)) (J79 x1 _))
     exact e0
    try simp only [Nf] at f27
    obtain rfl := sj h
    try simp only [↓Da, Ua, J0i, J5, J0, J2, Jb, J4u, *, ↓reduceIte, reduceEqDiff, reduceAdd, reduceLT, reduceMul]
    rfl
   ·have h12n : ((r1.1 : Int) != 2) = true := by rw [bne, h12]; rfl
    try simp only [↓Da, Ua, J0i, J5, J0, J2, Jb, *, ↓reduceIte, reduceEqDiff, reduceAdd, reduceLT, reduceMul]
    rcases Jc h with ⟨h28, h⟩ | ⟨h28, h⟩
    ·have h28n : ((r1.1 : Int) != 3) = false := by rw [bne, h28]; rfl
     obtain ⟨r29, h30, h⟩ := bi h
     have f31 : ∀ ws new s, JC ws s [0] [List.map AV.p (J1 r1.2)] → (Jl (AF (J6 p)) Jd ([.ptr 0 0, .p (.i .i64 16)], ws) 0 new).run s = some ⟨.p (.i .i64 r29.1), ws ++ [(0, .box (List.map AV.p (J1 r29.2)))]⟩ := Jv (args' := [.ptr 0 0, .p (.i .i64 16)]) (bs := [0]) (css := [List.map AV.p (J1 r1.2)]) (css' := [List.map AV.p (J1 r29.2)]) rfl rfl rfl (by simp [Jg, Ja]) (Ju p h30) rfl rfl (by simp [Jg, Ja])
     try simp only [Nf] at f31
     obtain ⟨r32, h33, h⟩ := bi h
     have f34 : ∀ ws new s, JC ws s [0] [List.map AV.p (J1 r29.2)] → (Jl (AF (J6 p)) J2E ([.ptr 0 0], ws) 0 new).run s = some ⟨.data (Jm r32.1), ws ++ [(0, .box (List.map AV.p (J1 r32.2)))]⟩ := Jv (args' := [.ptr 0 0]) (bs := [0]) (css := [List.map AV.p (J1 r29.2)]) (css' := [List.map AV.p (J1 r32.2)]) rfl rfl rfl (by simp [Jg, Ja]) (Jc5 p h33) rfl rfl (by simp [Jg, Ja])
     try simp only [Nf] at f34
     obtain ⟨u35, h36, h⟩ := bi h
     have f37 : (0 ≤ (r29.1 : Int) ∧ (r29.1 : Int) < ((16 : Nat) : Int)) = True := eq_true (Jbe h36)
     obtain ⟨y38, h39, h⟩ := bi h
     have f40 : spl (J9 x1) (2 + Int.toNat r29.1 * 2) (Jm r32.1) = some (J9 (⟨x1.ID, x1.LSN, (Jbh x1.Cells r29.1 r32.1)⟩ : T_api_Page)) := by
      have e0 := (JgS (J41 x1) (JjB (v := x1.Cells) J0e (JgW h39) r32.1) (J79 x1 _))
      exact e0
     try simp only [Nf] at f40
     obtain rfl := sj h
     try simp only [↓Da, Ua, J0i, J5, J0, J2, Jb, J4u, *, ↓reduceIte, reduceEqDiff, reduceAdd, reduceLT, reduceMul]
     rfl
    ·have h28n : ((r1.1 : Int) != 3) = true := by rw [bne, h28]; rfl
     obtain rfl := sj h
     try simp only [↓Da, Ua, J0i, J5, J0, J2, Jb, J4u, *, ↓reduceIte, reduceEqDiff, reduceAdd, reduceLT, reduceMul]
     rfl
theorem JaH {b0 : T_pagemenddraw_Codes} {x1 : T_api_Page} {o : T_api_Page × T_pagemenddraw_Codes} (h : J1E b0 x1 = some o) : AF (J6 p) J1g [.ptr 0 0, .data (J9 x1)] [.box (List.map AV.p (J1 b0))] = JaF o :=
 (J0h (J6 p) (JeU p) rfl).trans (JcR p h)
end
end Go.Am
end
section
namespace Go.Am
set_option maxRecDepth 8000
set_option maxHeartbeats 4000000
set_option linter.unusedSimpArgs false
set_option linter.unusedVariables false
noncomputable section
variable (p : FuncId → Option (List AV → List Blk → Option Res))
def Jfw  (r : Bool) : Option Res := some (.p (.b r), [])
def J22 (x0 : T_api_Page) : Option (Bool) :=
 Option.bind (J5q x0.ID) fun r1 =>
 if r1 then
  if (decide (x0.LSN ≥ 0)) then
   some (decide (x0.LSN ≤ 1099511627776))
  else
   some false
 else
  some false
theorem Jhf {x0 : T_api_Page} {o : Bool} (h : J22 x0 = some o) :
  rk (J6 p) J6O 0 [] (X (J6 p) J3U ⟨[(0, .data (J9 x0))], []⟩) = Jfw o := by
 unfold J22 at h
 obtain ⟨r1, h2, h⟩ := bi h
 have f3 := Jnj p h2
 try simp only [Nf] at f3
 try simp only [↓Da, Ua, J3U, J5, J0, J2, *, ↓reduceIte, reduceEqDiff, reduceAdd, reduceLT, reduceMul]
 rcases Jc h with ⟨h4, h⟩ | ⟨h4, h⟩
 ·try simp only [↓Da, Ua, J3U, J5, J0, J2, *, ↓reduceIte, reduceEqDiff, reduceAdd, reduceLT, reduceMul]
  rcases Jc h with ⟨h5, h⟩ | ⟨h5, h⟩
  ·obtain rfl := sj h
   try simp only [↓Da, Ua, J3U, J5, J0, J2, JbP, *, ↓reduceIte, reduceEqDiff, reduceAdd, reduceLT, reduceMul]
   rfl
  ·obtain rfl := sj h
   try simp only [↓Da, Ua, J3U, J5, J0, J2, JbP, *, ↓reduceIte, reduceEqDiff, reduceAdd, reduceLT, reduceMul]
   rfl
 ·obtain rfl := sj h
  try simp only [↓Da, Ua, J3U, J5, J0, J2, JbP, *, ↓reduceIte, reduceEqDiff, reduceAdd, reduceLT, reduceMul]
  rfl
theorem Jmp {x0 : T_api_Page} {o : Bool} (h : J22 x0 = some o) : AF (J6 p) J5N [.data (J9 x0)] [] = Jfw o :=
 (J0h (J6 p) (Jmw p) rfl).trans (Jhf p h)
theorem Jfp {x0 : T_api_Page} {o : Bool} (h : J22 x0 = some o) : ∀ ws new st, (Jl (AF (J6 p)) J5N ([.data (J9 x0)], ws) 0 new).run st = some ⟨.p (.b o), ws⟩ := Jy rfl (Jmp p h) rfl
def J8N  (r : T_page_builder) : Option Res := some (.tup [], [.box (List.map AV.p (J0O r))])
def J2Y (x4 : Int) (b0 : T_page_builder) (b1 : Jk) : Option (T_page_builder) :=
 Option.bind (J62 b0.s_ x4 1) fun r1 =>
 Option.bind (JdC r1 b1.Data) fun s5 =>
 Option.bind (J5b ([0]) (IntKind.wrap .i64 (12 - ((List.length b1.Data : Nat) : Int)))) fun r7 =>
 Option.bind (JdC s5 r7) fun s11 =>
 some (⟨s11⟩ : T_page_builder)
theorem Jam {x4 : Int} {b0 : T_page_builder} {b1 : Jk} {o : T_page_builder} (h : J2Y x4 b0 b1 = some o) :
  rk (J6 p) J2J 1 [] (X (J6 p) J7v ⟨[(0, .ptr 0 0), (3, .ptr 1 0), (4, .p (.i .i64 x4))], [.box (List.map AV.p (J0O b0)), .box (List.map AV.p (Jm b1))]⟩) = J8N o := by
 unfold J2Y at h
 obtain ⟨r1, h2, h⟩ := bi h
 have f3 := Ja3 p h2
 try simp only [Nf, JI] at f3
 have f4 : ∀ ws k new s, Jf ((Jl (AF (J6 p)) J2d ([.p (.s b0.s_), .p (.i .i64 x4), .p (.i .i64 1)], ws) k new).reads s) = [] := JP rfl
 try simp only [Nf, JI] at f4
 obtain ⟨s5, h6, h⟩ := bi h
 obtain ⟨r7, h8, h⟩ := bi h
 have f9 := JcM p h8
 try simp only [Nf, JI] at f9
 have f10 : ∀ ws k new s, Jf ((Jl (AF (J6 p)) J30 ([.p (.s [0]), .p (.i .i64 (IntKind.wrap .i64 (12 - ((List.length b1.Data : Nat) : Int))))], ws) k new).reads s) = [] := JP rfl
 try simp only [Nf, JI] at f10
 obtain ⟨s11, h12, h⟩ := bi h
 obtain rfl := sj h
 try simp only [↓Da, Ua, Ra, J7v, J5, JI, JfJ, *, ↓reduceIte, reduceEqDiff, reduceAdd, reduceLT, reduceMul, Nat.reduceBEq]
 rfl
def J3G (b0 : T_page_builder) (x1 : Jk) : Option (T_page_builder) :=
 if x1.Set then
  J2Y ((List.length x1.Data : Nat) : Int) b0 x1
 else
  J2Y 255 b0 x1
theorem JcV {b0 : T_page_builder} {x1 : Jk} {o : T_page_builder} (h : J3G b0 x1 = some o) :
  rk (J6 p) J2J 1 [] (X (J6 p) J3H ⟨[(0, .ptr 0 0), (1, .data (Jm x1))], [.box (List.map AV.p (J0O b0))]⟩) = J8N o := by
 unfold J3G at h
 rcases Jc h with ⟨h1, h⟩ | ⟨h1, h⟩
 ·try simp only [↓Da, Ua, J3H, J5, JI, *, ↓reduceIte, reduceEqDiff, reduceAdd, reduceLT, reduceMul]
  have e0 := Jam p h
  first | exact e0 | (simp only [*] at e0; exact e0)
 ·try simp only [↓Da, Ua, J3H, J5, JI, *, ↓reduceIte, reduceEqDiff, reduceAdd, reduceLT, reduceMul]
  have e0 := Jam p h
  first | exact e0 | (simp only [*] at e0; exact e0)
theorem JfL {b0 : T_page_builder} {x1 : Jk} {o : T_page_builder} (h : J3G b0 x1 = some o) : AF (J6 p) J18 [.ptr 0 0, .data (Jm x1)] [.box (List.map AV.p (J0O b0))] = J8N o :=
 (J0h (J6 p) (JfB p) rfl).trans (JcV p h)
def J8p  (r : Int) : Option Res := some (.p (.i .u32 r), [])
def JmG (x0 : List UInt8) (x8 : Int) (b0 : Vector Int 16) (o : (Int × Int) ⊕ (Int)) : Option Res := match o with
 | .inl s => rk (J6 p) J3O 0 [.bl 0, .sq (.keep [4] J5E)] (X (J6 p) (.lp 1 [0, 3, 4, 8, 9] J4K) ⟨[(0, .p (.s x0)), (3, .ptr 0 0), (4, .p (.i .u32 s.1)), (8, .p (.i .i64 x8)), (9, .p (.i .i64 s.2))], [.box (List.map AV.p ((J06 (r_i .u32)) b0))]⟩)
 | .inr o => J8p o
def J8k (x4 : Int) : Option (Int) :=
 some (Jsw .u32 x4)
theorem Jmz {x4 : Int} {B0 : List PV} {o : Int} (h : J8k x4 = some o) :
  rk (J6 p) J3O 0 [] (X (J6 p) J5E ⟨[(4, .p (.i .u32 x4))], [.box (List.map AV.p B0)]⟩) = J8p o := by
 unfold J8k at h
 obtain rfl := sj h
 try simp only [↓Da, Ua, J5E, Jph, ↓reduceIte, reduceEqDiff, reduceAdd, reduceLT, reduceMul]
 rfl
def J3d (x0 : List UInt8) (x8 : Int) (b0 : Vector Int 16) (x4 x9 : Int) : Option (((Int × Int) ⊕ (Int))) :=
 if (decide (x9 < x8)) then
  Option.bind (JkY x0 x9) fun c2 =>
  Option.bind (Jdv .u32 (J7R .u32 x4 (IntKind.wrap .u32 c2)) 4) fun q4 =>
  Option.bind (inb 16 (J60 .u32 (J7R .u32 x4 (IntKind.wrap .u32 c2)) 15)) fun u6 =>
  Option.bind (J9L b0 (J60 .u32 (J7R .u32 x4 (IntKind.wrap .u32 c2)) 15)) fun y9 =>
  Option.bind (Jdv .u32 (J7R .u32 q4 y9) 4) fun q12 =>
  Option.bind (inb 16 (J60 .u32 (J7R .u32 q4 y9) 15)) fun u14 =>
  Option.bind (J9L b0 (J60 .u32 (J7R .u32 q4 y9) 15)) fun y17 =>
  some (.inl ((J7R .u32 q12 y17), (IntKind.wrap .i64 (x9 + 1))))
 else
  Option.map (fun o => .inr o) (J8k x4)
theorem Jfq {x0 : List UInt8} {x8 : Int} {b0 : Vector Int 16} {x4 x9 : Int} {o : ((Int × Int) ⊕ (Int))} (h : J3d x0 x8 b0 x4 x9 = some o) :
  rk (J6 p) J3O 0 [.lo 1 [0, 3, 4, 8, 9] J4K, .bl 0, .sq (.keep [4] J5E)] (X (J6 p) J4K ⟨[(0, .p (.s x0)), (3, .ptr 0 0), (4, .p (.i .u32 x4)), (8, .p (.i .i64 x8)), (9, .p (.i .i64 x9))], [.box (List.map AV.p ((J06 (r_i .u32)) b0))]⟩) = (JmG p x0 x8 b0) o := by
 unfold J3d at h
 rcases Jc h with ⟨h1, h⟩ | ⟨h1, h⟩
 ·obtain ⟨c2, h3, h⟩ := bi h
  obtain ⟨q4, h5, h⟩ := bi h
  obtain ⟨u6, h7, h⟩ := bi h
  have f8 : (0 ≤ ((J60 .u32 (J7R .u32 x4 (IntKind.wrap .u32 c2)) 15) : Int) ∧ ((J60 .u32 (J7R .u32 x4 (IntKind.wrap .u32 c2)) 15) : Int) < ((16 : Nat) : Int)) = True := eq_true (Jbe h7)
  obtain ⟨y9, h10, h⟩ := bi h
  have f11 : sub ((J06 (r_i .u32)) b0) (Int.toNat (J60 .u32 (J7R .u32 x4 (IntKind.wrap .u32 c2)) 15) * 1) 1 = some ((r_i .u32) y9) := by
   have e0 := (Jen (v := b0) (Jbk .u32) (J8a h10).2)
   exact e0
  try simp only [Nf] at f11
  obtain ⟨q12, h13, h⟩ := bi h
  obtain ⟨u14, h15, h⟩ := bi h
  have f16 : (0 ≤ ((J60 .u32 (J7R .u32 q4 y9) 15) : Int) ∧ ((J60 .u32 (J7R .u32 q4 y9) 15) : Int) < ((16 : Nat) : Int)) = True := eq_true (Jbe h15)
  obtain ⟨y17, h18, h⟩ := bi h
  have f19 : sub ((J06 (r_i .u32)) b0) (Int.toNat (J60 .u32 (J7R .u32 q4 y9) 15) * 1) 1 = some ((r_i .u32) y17) := by
   have e0 := (Jen (v := b0) (Jbk .u32) (J8a h18).2)
   exact e0
  try simp only [Nf] at f19
  obtain rfl := sj h
  try simp only [↓Da, Ua, J4K, J71, *, ↓reduceIte, reduceEqDiff, reduceAdd, reduceLT, reduceMul]
  rfl
 ·obtain ⟨o', h', rfl⟩ := mi h
  try simp only [↓Da, Ua, J4K, J71, *, ↓reduceIte, reduceEqDiff, reduceAdd, reduceLT, reduceMul]
  have e0 := Jmz p (B0 := ((J06 (r_i .u32)) b0)) h'
  exact e0
def Jfx (x0 : List UInt8) (x8 : Int) (b0 : Vector Int 16) (s : Int × Int) : Option (Int) :=
 JO (fun s => J3d x0 x8 b0 s.1 s.2) s
theorem JjO {x0 : List UInt8} {x8 : Int} {b0 : Vector Int 16} {s : Int × Int} {o : Int} (h : Jfx x0 x8 b0 s = some o) :
  rk (J6 p) J3O 0 [.bl 0, .sq (.keep [4] J5E)] (X (J6 p) (.lp 1 [0, 3, 4, 8, 9] J4K) ⟨[(0, .p (.s x0)), (3, .ptr 0 0), (4, .p (.i .u32 s.1)), (8, .p (.i .i64 x8)), (9, .p (.i .i64 s.2))], [.box (List.map AV.p ((J06 (r_i .u32)) b0))]⟩) = J8p o := by
 have h0 : JO (fun s => J3d x0 x8 b0 s.1 s.2) s = some o := h
 exact J0M (P := fun (s : Int × Int) (o : Int) => rk (J6 p) J3O 0 [.bl 0, .sq (.keep [4] J5E)] (X (J6 p) (.lp 1 [0, 3, 4, 8, 9] J4K) ⟨[(0, .p (.s x0)), (3, .ptr 0 0), (4, .p (.i .u32 s.1)), (8, .p (.i .i64 x8)), (9, .p (.i .i64 s.2))], [.box (List.map AV.p ((J06 (r_i .u32)) b0))]⟩) = J8p o) (fun s r hs => by rw [J0w]; exact Jfq p hs) (fun s s1 r hs ih => by rw [J0w]; exact (Jfq p hs).trans ih) h0
def J3Q (x0 : List UInt8) : Option (Int) :=
 Option.bind (J35) fun r1 =>
 Jfx x0 ((List.length x0 : Nat) : Int) r1 (4294967295, 0)
theorem Jkh {x0 : List UInt8} {o : Int} (h : J3Q x0 = some o) :
  rk (J6 p) J3O 0 [] (X (J6 p) J9Z ⟨[(0, .p (.s x0))], []⟩) = J8p o := by
 unfold J3Q at h
 obtain ⟨r1, h2, h⟩ := bi h
 have f3 := JgC p h2
 try simp only [Nf] at f3
 try simp only [↓Da, Ua, J9Z, J71, *, ↓reduceIte, reduceEqDiff, reduceAdd, reduceLT, reduceMul]
 have e0 := JjO p h
 exact e0
theorem Jpe {x0 : List UInt8} {o : Int} (h : J3Q x0 = some o) : AF (J6 p) J7l [.p (.s x0)] [] = J8p o :=
 (J0h (J6 p) (Jp9 p) rfl).trans (Jkh p h)
theorem JoH {x0 : List UInt8} {o : Int} (h : J3Q x0 = some o) : ∀ ws new st, (Jl (AF (J6 p)) J7l ([.p (.s x0)], ws) 0 new).run st = some ⟨.p (.i .u32 o), ws⟩ := Jy rfl (Jpe p h) rfl
def Jak  (r : (List T_api_Frame)) : Option Res := some (.p (.sl 37 (List.map J7 r)), [])
def J17 (x0 : List T_api_Frame) (x1 : Int) (x2 : T_api_Frame) : Option ((List T_api_Frame)) :=
 Option.bind (J0j x0) fun r1 =>
 Option.bind (idx r1 x1) fun y4 =>
 Option.bind (some (List.set r1 (Int.toNat x1) x2)) fun m8 =>
 some m8
theorem Jcg {x0 : List T_api_Frame} {x1 : Int} {x2 : T_api_Frame} {o : (List T_api_Frame)} (h : J17 x0 x1 x2 = some o) :
  rk (J6 p) J2X 0 [] (X (J6 p) J42 ⟨[(0, .p (.sl 37 (List.map J7 x0))), (1, .p (.i .i64 x1)), (2, .data (J7 x2))], []⟩) = Jak o := by
 unfold J17 at h
 obtain ⟨r1, h2, h⟩ := bi h
 have f3 : ∀ ws new s, (Jl (AF (J6 p)) JT ([.p (.sl 37 (List.map J7 x0))], ws) 1 new).run s = some ⟨.slr new 0 (List.length r1), ws ++ [(new, .arr true 37 (List.map J7 r1))]⟩ := Jew rfl (J3w p h2)
 try simp only [Nf] at f3
 obtain ⟨y4, h5, h⟩ := bi h
 have f6 := JcG (r := J7) h5
 try simp only [Nf] at f6
 have f7 : (0 ≤ (x1 : Int) ∧ (x1 : Int) < (((List.length r1) : Nat) : Int)) = True := eq_true (by have e0 := Je7 h5; (try simp only [List.length_cons, List.length_nil, Nat.zero_add] at e0); omega)
 obtain ⟨m8, h9, h⟩ := bi h
 have f10 : List.set (List.map J7 r1) (Int.toNat x1) (J7 x2) = List.map J7 m8 := by
  rw [← Option.some.inj h9, List.map_set]
 try simp only [Nf] at f10
 have g11 : List.length m8 = List.length r1 := by rw [← Option.some.inj h9, List.length_set]
 obtain rfl := sj h
 try simp only [↓Da, Ua, J42, J5, J0, J2, J4, Jee, *, ↓reduceIte, reduceEqDiff, reduceAdd, reduceLT, reduceMul]
 rfl
theorem JdJ {x0 : List T_api_Frame} {x1 : Int} {x2 : T_api_Frame} {o : (List T_api_Frame)} (h : J17 x0 x1 x2 = some o) : AF (J6 p) J1s [.p (.sl 37 (List.map J7 x0)), .p (.i .i64 x1), .data (J7 x2)] [] = Jak o :=
 (J0h (J6 p) (Je5 p) rfl).trans (Jcg p h)
theorem J7I {x0 : List T_api_Frame} {x1 : Int} {x2 : T_api_Frame} {o : (List T_api_Frame)} (h : J17 x0 x1 x2 = some o) : ∀ ws new st, (Jl (AF (J6 p)) J1s ([.p (.sl 37 (List.map J7 x0)), .p (.i .i64 x1), .data (J7 x2)], ws) 0 new).run st = some ⟨.p (.sl 37 (List.map J7 o)), ws⟩ := Jy rfl (JdJ p h) rfl
def J6B  (r : Bool) : Option Res := some (.p (.b r), [])
def JjF (b0 : T_api_Page) (o : (Int) ⊕ (Bool)) : Option Res := match o with
 | .inl s => rk (J6 p) J2q 0 [.bl 0, .sq (.keep [] J4b)] (X (J6 p) (.lp 1 [1, 3] J0L) ⟨[(1, .ptr 0 0), (3, .p (.i .i64 s))], [.box (List.map AV.p (J9 b0))]⟩)
 | .inr o => J6B o
def J8W  : Option (Bool) :=
 some true
theorem Jk8 {B0 : List PV} {o : Bool} (h : J8W = some o) :
  rk (J6 p) J2q 0 [] (X (J6 p) J4b ⟨[], [.box (List.map AV.p B0)]⟩) = J6B o := by
 unfold J8W at h
 obtain rfl := sj h
 try simp only [↓Da, Ua, J4b, JbY, ↓reduceIte, reduceEqDiff, reduceAdd, reduceLT, reduceMul]
 rfl
def J1H (b0 : T_api_Page) (x3 : Int) : Option (((Int) ⊕ (Bool))) :=
 if (decide (x3 < 16)) then
  Option.bind (inb 16 x3) fun u2 =>
  Option.bind (J9L b0.Cells x3) fun y5 =>
  Option.bind (J0z y5) fun r8 =>
  if r8 then
   if ((b0.LSN : Int) == 0) then
    if y5.Set then
     some (.inr false)
    else
     some (.inl (IntKind.wrap .i64 (x3 + 1)))
   else
    some (.inl (IntKind.wrap .i64 (x3 + 1)))
  else
   some (.inr false)
 else
  Option.map (fun o => .inr o) (J8W)
theorem Jds {b0 : T_api_Page} {x3 : Int} {o : ((Int) ⊕ (Bool))} (h : J1H b0 x3 = some o) :
  rk (J6 p) J2q 0 [.lo 1 [1, 3] J0L, .bl 0, .sq (.keep [] J4b)] (X (J6 p) J0L ⟨[(1, .ptr 0 0), (3, .p (.i .i64 x3))], [.box (List.map AV.p (J9 b0))]⟩) = (JjF p b0) o := by
 unfold J1H at h
 rcases Jc h with ⟨h1, h⟩ | ⟨h1, h⟩
 ·obtain ⟨u2, h3, h⟩ := bi h
  have f4 : (0 ≤ (x3 : Int) ∧ (x3 : Int) < ((16 : Nat) : Int)) = True := eq_true (Jbe h3)
  obtain ⟨y5, h6, h⟩ := bi h
  have f7 : sub (J9 b0) (2 + Int.toNat x3 * 2) 2 = some (Jm y5) := by
   have e0 := (J2w (J41 b0) (Jen (v := b0.Cells) J0e (J8a h6).2))
   exact e0
  try simp only [Nf] at f7
  obtain ⟨r8, h9, h⟩ := bi h
  have f10 := Jhq p h9
  try simp only [Nf] at f10
  try simp only [↓Da, Ua, J0L, J5, J0, J2, *, ↓reduceIte, reduceEqDiff, reduceAdd, reduceLT, reduceMul]
  rcases Jc h with ⟨h11, h⟩ | ⟨h11, h⟩
  ·try simp only [↓Da, Ua, J0L, J5, J0, J2, *, ↓reduceIte, reduceEqDiff, reduceAdd, reduceLT, reduceMul]
   rcases Jc h with ⟨h12, h⟩ | ⟨h12, h⟩
   ·have h12n : ((b0.LSN : Int) != 0) = false := by rw [bne, h12]; rfl
    have f13 : sub (J9 b0) (2 + Int.toNat x3 * 2) 1 = some (r_b y5.Set) := by
     have e0 := (J2w (J2w (J41 b0) (Jen (v := b0.Cells) J0e (J8a h6).2)) (Jcz y5))
     exact e0
    try simp only [Nf] at f13
    try simp only [↓Da, Ua, J0L, J5, J0, J2, *, ↓reduceIte, reduceEqDiff, reduceAdd, reduceLT, reduceMul]
    rcases Jc h with ⟨h14, h⟩ | ⟨h14, h⟩
    ·obtain rfl := sj h
     try simp only [↓Da, Ua, J0L, J5, J0, J2, JbY, *, ↓reduceIte, reduceEqDiff, reduceAdd, reduceLT, reduceMul]
     rfl
    ·obtain rfl := sj h
     try simp only [↓Da, Ua, J0L, J5, J0, J2, *, ↓reduceIte, reduceEqDiff, reduceAdd, reduceLT, reduceMul]
     rfl
   ·have h12n : ((b0.LSN : Int) != 0) = true := by rw [bne, h12]; rfl
    obtain rfl := sj h
    try simp only [↓Da, Ua, J0L, J5, J0, J2, *, ↓reduceIte, reduceEqDiff, reduceAdd, reduceLT, reduceMul]
    rfl
  ·obtain rfl := sj h
   try simp only [↓Da, Ua, J0L, J5, J0, J2, JbY, *, ↓reduceIte, reduceEqDiff, reduceAdd, reduceLT, reduceMul]
   rfl
 ·obtain ⟨o', h', rfl⟩ := mi h
  try simp only [↓Da, Ua, J0L, J5, J0, J2, *, ↓reduceIte, reduceEqDiff, reduceAdd, reduceLT, reduceMul]
  have e0 := Jk8 p (B0 := (J9 b0)) h'
  first | exact e0 | (simp only [*] at e0; exact e0)
def Jdr (b0 : T_api_Page) (s : Int) : Option (Bool) :=
 JO (fun s => J1H b0 s) s
theorem JhC {b0 : T_api_Page} {s : Int} {o : Bool} (h : Jdr b0 s = some o) :
  rk (J6 p) J2q 0 [.bl 0, .sq (.keep [] J4b)] (X (J6 p) (.lp 1 [1, 3] J0L) ⟨[(1, .ptr 0 0), (3, .p (.i .i64 s))], [.box (List.map AV.p (J9 b0))]⟩) = J6B o := by
 have h0 : JO (fun s => J1H b0 s) s = some o := h
 exact J0M (P := fun (s : Int) (o : Bool) => rk (J6 p) J2q 0 [.bl 0, .sq (.keep [] J4b)] (X (J6 p) (.lp 1 [1, 3] J0L) ⟨[(1, .ptr 0 0), (3, .p (.i .i64 s))], [.box (List.map AV.p (J9 b0))]⟩) = J6B o) (fun s r hs => by rw [J0w]; exact Jds p hs) (fun s s1 r hs ih => by rw [J0w]; exact (Jds p hs).trans ih) h0
def J4Q (x0 : T_api_Page) : Option (Bool) :=
 Jdr x0 0
theorem Jhw {x0 : T_api_Page} {o : Bool} (h : J4Q x0 = some o) :
  rk (J6 p) J2q 0 [] (X (J6 p) J8j ⟨[(0, .data (J9 x0))], []⟩) = J6B o := by
 unfold J4Q at h
 try simp only [↓Da, Ua, J8j, J5, J0, J2, ↓reduceIte, reduceEqDiff, reduceAdd, reduceLT, reduceMul]
 have e0 := JhC p h
 first | exact e0 | (simp only [*] at e0; exact e0)
theorem Jmb {x0 : T_api_Page} {o : Bool} (h : J4Q x0 = some o) : AF (J6 p) J5A [.data (J9 x0)] [] = J6B o :=
 (J0h (J6 p) (Jmt p) rfl).trans (Jhw p h)
theorem Jfr {x0 : T_api_Page} {o : Bool} (h : J4Q x0 = some o) : ∀ ws new st, (Jl (AF (J6 p)) J5A ([.data (J9 x0)], ws) 0 new).run st = some ⟨.p (.b o), ws⟩ := Jy rfl (Jmb p h) rfl
def Jgw  (r : Bool) : Option Res := some (.p (.b r), [])
def J4a (x0 : T_api_Page) : Option (Bool) :=
 Option.bind (J22 x0) fun r1 =>
 if r1 then
  Option.bind (J49 x0) fun r5 =>
  some r5
 else
  some false
theorem Jiq {x0 : T_api_Page} {o : Bool} (h : J4a x0 = some o) :
  rk (J6 p) J7O 0 [] (X (J6 p) J6g ⟨[(0, .data (J9 x0))], []⟩) = Jgw o := by
 unfold J4a at h
 obtain ⟨r1, h2, h⟩ := bi h
 have f3 := Jfp p h2
 try simp only [Nf] at f3
 try simp only [↓Da, Ua, J6g, J5, J0, J2, *, ↓reduceIte, reduceEqDiff, reduceAdd, reduceLT, reduceMul]
 rcases Jc h with ⟨h4, h⟩ | ⟨h4, h⟩
 ·obtain ⟨r5, h6, h⟩ := bi h
  have f7 := JgO p h6
  try simp only [Nf] at f7
  obtain rfl := sj h
  try simp only [↓Da, Ua, J6g, J5, J0, J2, JgG, *, ↓reduceIte, reduceEqDiff, reduceAdd, reduceLT, reduceMul]
  rfl
 ·obtain rfl := sj h
  try simp only [↓Da, Ua, J6g, J5, J0, J2, JgG, *, ↓reduceIte, reduceEqDiff, reduceAdd, reduceLT, reduceMul]
  rfl
theorem JnZ {x0 : T_api_Page} {o : Bool} (h : J4a x0 = some o) : AF (J6 p) J7V [.data (J9 x0)] [] = Jgw o :=
 (J0h (J6 p) (JnV p) rfl).trans (Jiq p h)
theorem JnY {x0 : T_api_Page} {o : Bool} (h : J4a x0 = some o) : ∀ ws new st, (Jl (AF (J6 p)) J7V ([.data (J9 x0)], ws) 0 new).run st = some ⟨.p (.b o), ws⟩ := Jy rfl (JnZ p h) rfl
def J6C  (r : (List UInt8) × Int) : Option Res := some (.tup [.p (.s r.1), .p (.i .i64 r.2)], [])
def Jk5 (x28 : Vector Jk 16) (b0 : T_api_Page) (o : (Int × T_page_builder) ⊕ ((List UInt8) × Int)) : Option Res := match o with
 | .inl s => rk (J6 p) J2n 0 [.bl 1, .td 2 [1, 2, 3, 4], .sq (.keep [1, 4] J4c)] (X (J6 p) (.lp 2 [1, 4, 5, 28, 29] J3E) ⟨[(1, .ptr 0 0), (4, .ptr 1 0), (5, .fn J18 [.ptr 1 0] []), (28, .data ((J06 Jm) x28)), (29, .p (.i .i64 s.1))], [.box (List.map AV.p (J9 b0)), .box (List.map AV.p (J0O s.2))]⟩)
 | .inr o => J6C o
def J8V (b0 : T_api_Page) (b1 : T_page_builder) : Option ((List UInt8) × Int) :=
 Option.bind (J5b ([0]) (IntKind.wrap .i64 (244 - ((List.length b1.s_ : Nat) : Int)))) fun r1 =>
 Option.bind (JdC b1.s_ r1) fun s5 =>
 Option.bind (J3Q s5) fun r7 =>
 Option.bind (J62 s5 (IntKind.wrap .i64 r7) 4) fun r11 =>
 Option.bind (J62 r11 b0.LSN 8) fun r15 =>
 some (r15, 0)
theorem JjW {b0 : T_api_Page} {b1 : T_page_builder} {o : (List UInt8) × Int} (h : J8V b0 b1 = some o) :
  rk (J6 p) J2n 0 [] (X (J6 p) J4c ⟨[(1, .ptr 0 0), (4, .ptr 1 0)], [.box (List.map AV.p (J9 b0)), .box (List.map AV.p (J0O b1))]⟩) = J6C o := by
 unfold J8V at h
 obtain ⟨r1, h2, h⟩ := bi h
 have f3 := JcM p h2
 try simp only [Nf, JI] at f3
 have f4 : ∀ ws k new s, Jf ((Jl (AF (J6 p)) J30 ([.p (.s [0]), .p (.i .i64 (IntKind.wrap .i64 (244 - ((List.length b1.s_ : Nat) : Int))))], ws) k new).reads s) = [] := JP rfl
 try simp only [Nf, JI] at f4
 obtain ⟨s5, h6, h⟩ := bi h
 obtain ⟨r7, h8, h⟩ := bi h
 have f9 := JoH p h8
 try simp only [Nf, JI] at f9
 have f10 : ∀ ws k new s, Jf ((Jl (AF (J6 p)) J7l ([.p (.s s5)], ws) k new).reads s) = [] := JP rfl
 try simp only [Nf, JI] at f10
 obtain ⟨r11, h12, h⟩ := bi h
 have f13 := Ja3 p h12
 try simp only [Nf, JI] at f13
 have f14 : ∀ ws k new s, Jf ((Jl (AF (J6 p)) J2d ([.p (.s s5), .p (.i .i64 (IntKind.wrap .i64 r7)), .p (.i .i64 4)], ws) k new).reads s) = [] := JP rfl
 try simp only [Nf, JI] at f14
 obtain ⟨r15, h16, h⟩ := bi h
 have f17 := Ja3 p h16
 try simp only [Nf, JI] at f17
 have f18 : ∀ ws k new s, Jf ((Jl (AF (J6 p)) J2d ([.p (.s r11), .p (.i .i64 b0.LSN), .p (.i .i64 8)], ws) k new).reads s) = [] := JP rfl
 try simp only [Nf, JI] at f18
 obtain rfl := sj h
 try simp only [↓Da, Ua, Ra, J4c, J5, J0, J2, JI, JbQ, *, ↓reduceIte, reduceEqDiff, reduceAdd, reduceLT, reduceMul, Nat.reduceBEq]
 rfl
def J4f (x28 : Vector Jk 16) (b0 : T_api_Page) (x29 : Int) (b1 : T_page_builder) : Option (((Int × T_page_builder) ⊕ ((List UInt8) × Int))) :=
 if (decide (x29 < 16)) then
  Option.bind (J9L x28 x29) fun y2 =>
  Option.bind (J3G b1 y2) fun r6 =>
  some (.inl ((IntKind.wrap .i64 (x29 + 1)), r6))
 else
  Option.map (fun o => .inr o) (J8V b0 b1)
theorem Jdc {x28 : Vector Jk 16} {b0 : T_api_Page} {x29 : Int} {b1 : T_page_builder} {o : ((Int × T_page_builder) ⊕ ((List UInt8) × Int))} (h : J4f x28 b0 x29 b1 = some o) :
  rk (J6 p) J2n 0 [.lo 2 [1, 4, 5, 28, 29] J3E, .bl 1, .td 2 [1, 2, 3, 4], .sq (.keep [1, 4] J4c)] (X (J6 p) J3E ⟨[(1, .ptr 0 0), (4, .ptr 1 0), (5, .fn J18 [.ptr 1 0] []), (28, .data ((J06 Jm) x28)), (29, .p (.i .i64 x29))], [.box (List.map AV.p (J9 b0)), .box (List.map AV.p (J0O b1))]⟩) = (Jk5 p x28 b0) o := by
 unfold J4f at h
 rcases Jc h with ⟨h1, h⟩ | ⟨h1, h⟩
 ·obtain ⟨y2, h3, h⟩ := bi h
  have f4 : (0 ≤ (x29 : Int) ∧ (x29 : Int) < ((16 : Nat) : Int)) = True := eq_true (J8a h3).1
  have f5 : sub (J06 Jm x28) (Int.toNat x29 * 2) 2 = some (Jm y2) := Jen J0e (J8a h3).2
  try simp only [Nf, JI] at f5
  obtain ⟨r6, h7, h⟩ := bi h
  have f8 : ∀ ws new s, JC ws s [1] [List.map AV.p (J0O b1)] → (Jl (AF (J6 p)) J18 ([.ptr 1 0, .data (Jm y2)], ws) 0 new).run s = some ⟨.tup [], ws ++ [(1, .box (List.map AV.p (J0O r6)))]⟩ := Jv (args' := [.ptr 0 0, .data (Jm y2)]) (bs := [1]) (css := [List.map AV.p (J0O b1)]) (css' := [List.map AV.p (J0O r6)]) rfl rfl rfl (by simp [Jg, Ja]) (JfL p h7) rfl rfl (by simp [Jg, Ja])
  try simp only [Nf, JI] at f8
  obtain rfl := sj h
  try simp only [↓Da, Ua, J3E, J5, JI, *, ↓reduceIte, reduceEqDiff, reduceAdd, reduceLT, reduceMul]
  rfl
 ·obtain ⟨o', h', rfl⟩ := mi h
  try simp only [↓Da, Ua, J3E, J5, JI, *, ↓reduceIte, reduceEqDiff, reduceAdd, reduceLT, reduceMul]
  have e0 := JjW p h'
  exact e0
def Jdf (x28 : Vector Jk 16) (b0 : T_api_Page) (s : Int × T_page_builder) : Option ((List UInt8) × Int) :=
 JO (fun s => J4f x28 b0 s.1 s.2) s
theorem JhH {x28 : Vector Jk 16} {b0 : T_api_Page} {s : Int × T_page_builder} {o : (List UInt8) × Int} (h : Jdf x28 b0 s = some o) :
  rk (J6 p) J2n 0 [.bl 1, .td 2 [1, 2, 3, 4], .sq (.keep [1, 4] J4c)] (X (J6 p) (.lp 2 [1, 4, 5, 28, 29] J3E) ⟨[(1, .ptr 0 0), (4, .ptr 1 0), (5, .fn J18 [.ptr 1 0] []), (28, .data ((J06 Jm) x28)), (29, .p (.i .i64 s.1))], [.box (List.map AV.p (J9 b0)), .box (List.map AV.p (J0O s.2))]⟩) = J6C o := by
 have h0 : JO (fun s => J4f x28 b0 s.1 s.2) s = some o := h
 exact J0M (P := fun (s : Int × T_page_builder) (o : (List UInt8) × Int) => rk (J6 p) J2n 0 [.bl 1, .td 2 [1, 2, 3, 4], .sq (.keep [1, 4] J4c)] (X (J6 p) (.lp 2 [1, 4, 5, 28, 29] J3E) ⟨[(1, .ptr 0 0), (4, .ptr 1 0), (5, .fn J18 [.ptr 1 0] []), (28, .data ((J06 Jm) x28)), (29, .p (.i .i64 s.1))], [.box (List.map AV.p (J9 b0)), .box (List.map AV.p (J0O s.2))]⟩) = J6C o) (fun s r hs => by rw [J0w]; exact Jdc p hs) (fun s s1 r hs ih => by rw [J0w]; exact (Jdc p hs).trans ih) h0
def J1l (x0 : T_api_Page) : Option ((List UInt8) × Int) :=
 Option.bind (J22 x0) fun r1 =>
 if r1 then
  Option.bind (J49 x0) fun r5 =>
  if r5 then
   Option.bind (J62 ([]) x0.LSN 8) fun r9 =>
   Option.bind (J62 r9 x0.ID 4) fun r13 =>
   Jdf x0.Cells x0 (0, (⟨r13⟩ : T_page_builder))
  else
   some (([] : List UInt8), 22)
 else
  some (([] : List UInt8), 1)
theorem Jhy {x0 : T_api_Page} {o : (List UInt8) × Int} (h : J1l x0 = some o) :
  rk (J6 p) J2n 0 [] (X (J6 p) J3W ⟨[(0, .data (J9 x0))], []⟩) = J6C o := by
 unfold J1l at h
 obtain ⟨r1, h2, h⟩ := bi h
 have f3 := Jfp p h2
 try simp only [Nf, JI] at f3
 try simp only [↓Da, Ua, Ra, J3W, J5, J0, J2, JI, *, ↓reduceIte, reduceEqDiff, reduceAdd, reduceLT, reduceMul, Nat.reduceBEq]
 rcases Jc h with ⟨h4, h⟩ | ⟨h4, h⟩
 ·obtain ⟨r5, h6, h⟩ := bi h
  have f7 := JgO p h6
  try simp only [Nf, JI] at f7
  try simp only [↓Da, Ua, Ra, J3W, J5, J0, J2, JI, *, ↓reduceIte, reduceEqDiff, reduceAdd, reduceLT, reduceMul, Nat.reduceBEq]
  rcases Jc h with ⟨h8, h⟩ | ⟨h8, h⟩
  ·obtain ⟨r9, h10, h⟩ := bi h
   have f11 := Ja3 p h10
   try simp only [Nf, JI] at f11
   have f12 : ∀ ws k new s, Jf ((Jl (AF (J6 p)) J2d ([.p (.s []), .p (.i .i64 x0.LSN), .p (.i .i64 8)], ws) k new).reads s) = [] := JP rfl
   try simp only [Nf, JI] at f12
   obtain ⟨r13, h14, h⟩ := bi h
   have f15 := Ja3 p h14
   try simp only [Nf, JI] at f15
   have f16 : ∀ ws k new s, Jf ((Jl (AF (J6 p)) J2d ([.p (.s r9), .p (.i .i64 x0.ID), .p (.i .i64 4)], ws) k new).reads s) = [] := JP rfl
   try simp only [Nf, JI] at f16
   try simp only [↓Da, Ua, Ra, J3W, J5, J0, J2, JI, *, ↓reduceIte, reduceEqDiff, reduceAdd, reduceLT, reduceMul, Nat.reduceBEq]
   have e0 := JhH p h
   exact e0
  ·obtain rfl := sj h
   try simp only [↓Da, Ua, Ra, J3W, J5, J0, J2, JI, JbQ, *, ↓reduceIte, reduceEqDiff, reduceAdd, reduceLT, reduceMul, Nat.reduceBEq]
   rfl
 ·obtain rfl := sj h
  try simp only [↓Da, Ua, Ra, J3W, J5, J0, J2, JI, JbQ, *, ↓reduceIte, reduceEqDiff, reduceAdd, reduceLT, reduceMul, Nat.reduceBEq]
  rfl
theorem Jmy {x0 : T_api_Page} {o : (List UInt8) × Int} (h : J1l x0 = some o) : AF (J6 p) J5F [.data (J9 x0)] [] = J6C o :=
 (J0h (J6 p) (Jmc p) rfl).trans (Jhy p h)
theorem Jfm {x0 : T_api_Page} {o : (List UInt8) × Int} (h : J1l x0 = some o) : ∀ ws new st, (Jl (AF (J6 p)) J5F ([.data (J9 x0)], ws) 0 new).run st = some ⟨.tup [.p (.s o.1), .p (.i .i64 o.2)], ws⟩ := Jy rfl (Jmy p h) rfl
def Jfv  (r : Bool) : Option Res := some (.p (.b r), [])
def J5D (x0 : T_api_Page) : Option (Bool) :=
 Option.bind (J3B x0) fun r1 =>
 if r1 then
  Option.bind (J4Q x0) fun r5 =>
  some r5
 else
  some false
theorem JhB {x0 : T_api_Page} {o : Bool} (h : J5D x0 = some o) :
  rk (J6 p) J6E 0 [] (X (J6 p) J5I ⟨[(0, .data (J9 x0))], []⟩) = Jfv o := by
 unfold J5D at h
 obtain ⟨r1, h2, h⟩ := bi h
 have f3 := Jdk p h2
 try simp only [Nf] at f3
 try simp only [↓Da, Ua, J5I, J5, J0, J2, *, ↓reduceIte, reduceEqDiff, reduceAdd, reduceLT, reduceMul]
 rcases Jc h with ⟨h4, h⟩ | ⟨h4, h⟩
 ·obtain ⟨r5, h6, h⟩ := bi h
  have f7 := Jfr p h6
  try simp only [Nf] at f7
  obtain rfl := sj h
  try simp only [↓Da, Ua, J5I, J5, J0, J2, Jfs, *, ↓reduceIte, reduceEqDiff, reduceAdd, reduceLT, reduceMul]
  rfl
 ·obtain rfl := sj h
  try simp only [↓Da, Ua, J5I, J5, J0, J2, Jfs, *, ↓reduceIte, reduceEqDiff, reduceAdd, reduceLT, reduceMul]
  rfl
theorem JmJ {x0 : T_api_Page} {o : Bool} (h : J5D x0 = some o) : AF (J6 p) J6L [.data (J9 x0)] [] = Jfv o :=
 (J0h (J6 p) (JmI p) rfl).trans (JhB p h)
theorem Jmo {x0 : T_api_Page} {o : Bool} (h : J5D x0 = some o) : ∀ ws new st, (Jl (AF (J6 p)) J6L ([.data (J9 x0)], ws) 0 new).run st = some ⟨.p (.b o), ws⟩ := Jy rfl (JmJ p h) rfl
def Jib  (r : T_api_Pool × T_pagemenddraw_Codes) : Option Res := some (.data (J3 r.1), [.box (List.map AV.p (J1 r.2))])
def J7c (b0 : T_pagemenddraw_Codes) (x1 : T_api_Pool) : Option (T_api_Pool × T_pagemenddraw_Codes) :=
 Option.bind (Jf2 424 x1.Frames) fun u2 =>
 if (((((List.length x1.Frames) : Nat) : Int) : Int) == 0) then
  Option.bind (J1N b0) fun r5 =>
  Option.bind (Jp r5.2 4) fun r8 =>
  some ((⟨r5.1, x1.Frames, (IntKind.wrap .i64 (r8.1 - 1))⟩ : T_api_Pool), r8.2)
 else
  Option.bind (Jp b0 3) fun r11 =>
  if ((r11.1 : Int) == 0) then
   Option.bind (J1N r11.2) fun r15 =>
   Option.bind (Jp r15.2 4) fun r18 =>
   some ((⟨r15.1, x1.Frames, (IntKind.wrap .i64 (r18.1 - 1))⟩ : T_api_Pool), r18.2)
  else
   Option.bind (Jp r11.2 (((List.length x1.Frames) : Nat) : Int)) fun r21 =>
   Option.bind (idx x1.Frames r21.1) fun y25 =>
   Option.bind (Jp r21.2 4) fun r29 =>
   if ((r29.1 : Int) == 0) then
    Option.bind (J1E r29.2 y25.Page) fun r33 =>
    Option.bind (some (List.set x1.Frames (Int.toNat r21.1) (⟨r33.1, y25.Dirty, y25.Rec, y25.Used⟩ : T_api_Frame))) fun m36 =>
    some ((⟨x1.Size, m36, x1.Hand⟩ : T_api_Pool), r33.2)
   else
    if ((r29.1 : Int) == 1) then
     Option.bind (some (List.set x1.Frames (Int.toNat r21.1) (⟨y25.Page, (!y25.Dirty), y25.Rec, y25.Used⟩ : T_api_Frame))) fun m41 =>
     some ((⟨x1.Size, m41, x1.Hand⟩ : T_api_Pool), r29.2)
    else
     if ((r29.1 : Int) == 2) then
      Option.bind (Jp r29.2 5) fun r46 =>
      Option.bind (some (List.set x1.Frames (Int.toNat r21.1) (⟨y25.Page, y25.Dirty, r46.1, y25.Used⟩ : T_api_Frame))) fun m49 =>
      some ((⟨x1.Size, m49, x1.Hand⟩ : T_api_Pool), r46.2)
     else
      if ((r29.1 : Int) == 3) then
       Option.bind (Jp r29.2 6) fun r54 =>
       Option.bind (some (List.set x1.Frames (Int.toNat r21.1) (⟨(⟨r54.1, y25.Page.LSN, y25.Page.Cells⟩ : T_api_Page), y25.Dirty, y25.Rec, y25.Used⟩ : T_api_Frame))) fun m57 =>
       some ((⟨x1.Size, m57, x1.Hand⟩ : T_api_Pool), r54.2)
      else
       some ((⟨x1.Size, x1.Frames, x1.Hand⟩ : T_api_Pool), r29.2)
theorem JjY {b0 : T_pagemenddraw_Codes} {x1 : T_api_Pool} {o : T_api_Pool × T_pagemenddraw_Codes} (h : J7c b0 x1 = some o) :
  rk (J6 p) J8A 1 [] (X (J6 p) J1h ⟨[(0, .ptr 0 0), (1, .data (J3 x1))], [.box (List.map AV.p (J1 b0))]⟩) = Jib o := by
 unfold J7c at h
 obtain ⟨u2, h3, h⟩ := bi h
 have f1 := (Jfc h3).1
 try simp only [Nf, Ji, Jh, Jq] at f1
 try simp only [↓Da, Ua, Ra, J1h, Ji, J0, J2, Jh, Jq, J4, *, ↓reduceIte, reduceEqDiff, reduceAdd, reduceLT, reduceMul, Nat.reduceBEq]
 rcases Jc h with ⟨h4, h⟩ | ⟨h4, h⟩
 ·have h4n : (((((List.length x1.Frames) : Nat) : Int) : Int) != 0) = false := by rw [bne, h4]; rfl
  obtain ⟨r5, h6, h⟩ := bi h
  have f7 : ∀ ws new s, JC ws s [0] [List.map AV.p (J1 b0)] → (Jl (AF (J6 p)) J1q ([.ptr 0 0], ws) 0 new).run s = some ⟨.p (.i .i64 r5.1), ws ++ [(0, .box (List.map AV.p (J1 r5.2)))]⟩ := Jv (args' := [.ptr 0 0]) (bs := [0]) (css := [List.map AV.p (J1 b0)]) (css' := [List.map AV.p (J1 r5.2)]) rfl rfl rfl (by simp [Jg, Ja]) (J8g p h6) rfl rfl (by simp [Jg, Ja])
  try simp only [Nf, Ji, Jh, Jq] at f7
  obtain ⟨r8, h9, h⟩ := bi h
  have f10 : ∀ ws new s, JC ws s [0] [List.map AV.p (J1 r5.2)] → (Jl (AF (J6 p)) Jd ([.ptr 0 0, .p (.i .i64 4)], ws) 0 new).run s = some ⟨.p (.i .i64 r8.1), ws ++ [(0, .box (List.map AV.p (J1 r8.2)))]⟩ := Jv (args' := [.ptr 0 0, .p (.i .i64 4)]) (bs := [0]) (css := [List.map AV.p (J1 r5.2)]) (css' := [List.map AV.p (J1 r8.2)]) rfl rfl rfl (by simp [Jg, Ja]) (Ju p h9) rfl rfl (by simp [Jg, Ja])
  try simp only [Nf, Ji, Jh, Jq] at f10
  obtain rfl := sj h
  try simp only [↓Da, Ua, Ra, J1h, Ji, J0, J2, Jh, Jq, J4, J7g, *, ↓reduceIte, reduceEqDiff, reduceAdd, reduceLT, reduceMul, Nat.reduceBEq]
  rfl
 ·have h4n : (((((List.length x1.Frames) : Nat) : Int) : Int) != 0) = true := by rw [bne, h4]; rfl
  obtain ⟨r11, h12, h⟩ := bi h
  have f13 : ∀ ws new s, JC ws s [0] [List.map AV.p (J1 b0)] → (Jl (AF (J6 p)) Jd ([.ptr 0 0, .p (.i .i64 3)], ws) 0 new).run s = some ⟨.p (.i .i64 r11.1), ws ++ [(0, .box (List.map AV.p (J1 r11.2)))]⟩ := Jv (args' := [.ptr 0 0, .p (.i .i64 3)]) (bs := [0]) (css := [List.map AV.p (J1 b0)]) (css' := [List.map AV.p (J1 r11.2)]) rfl rfl rfl (by simp [Jg, Ja]) (Ju p h12) rfl rfl (by simp [Jg, Ja])
  try simp only [Nf, Ji, Jh, Jq] at f13
  try simp only [↓Da, Ua, Ra, J1h, Ji, J0, J2, Jh, Jq, J4, *, ↓reduceIte, reduceEqDiff, reduceAdd, reduceLT, reduceMul, Nat.reduceBEq]
  rcases Jc h with ⟨h14, h⟩ | ⟨h14, h⟩
  ·have h14n : ((r11.1 : Int) != 0) = false := by rw [bne, h14]; rfl
   obtain ⟨r15, h16, h⟩ := bi h
   have f17 : ∀ ws new s, JC ws s [0] [List.map AV.p (J1 r11.2)] → (Jl (AF (J6 p)) J1q ([.ptr 0 0], ws) 0 new).run s = some ⟨.p (.i .i64 r15.1), ws ++ [(0, .box (List.map AV.p (J1 r15.2)))]⟩ := Jv (args' := [.ptr 0 0]) (bs := [0]) (css := [List.map AV.p (J1 r11.2)]) (css' := [List.map AV.p (J1 r15.2)]) rfl rfl rfl (by simp [Jg, Ja]) (J8g p h16) rfl rfl (by simp [Jg, Ja])
   try simp only [Nf, Ji, Jh, Jq] at f17
   obtain ⟨r18, h19, h⟩ := bi h
   have f20 : ∀ ws new s, JC ws s [0] [List.map AV.p (J1 r15.2)] → (Jl (AF (J6 p)) Jd ([.ptr 0 0, .p (.i .i64 4)], ws) 0 new).run s = some ⟨.p (.i .i64 r18.1), ws ++ [(0, .box (List.map AV.p (J1 r18.2)))]⟩ := Jv (args' := [.ptr 0 0, .p (.i .i64 4)]) (bs := [0]) (css := [List.map AV.p (J1 r15.2)]) (css' := [List.map AV.p (J1 r18.2)]) rfl rfl rfl (by simp [Jg, Ja]) (Ju p h19) rfl rfl (by simp [Jg, Ja])
   try simp only [Nf, Ji, Jh, Jq] at f20
   obtain rfl := sj h
   try simp only [↓Da, Ua, Ra, J1h, Ji, J0, J2, Jh, Jq, J4, J7g, *, ↓reduceIte, reduceEqDiff, reduceAdd, reduceLT, reduceMul, Nat.reduceBEq]
   rfl
  ·have h14n : ((r11.1 : Int) != 0) = true := by rw [bne, h14]; rfl
   obtain ⟨r21, h22, h⟩ := bi h
   have f23 : ∀ ws new s, JC ws s [0] [List.map AV.p (J1 r11.2)] → (Jl (AF (J6 p)) Jd ([.ptr 0 0, .p (.i .i64 (((List.length x1.Frames) : Nat) : Int))], ws) 0 new).run s = some ⟨.p (.i .i64 r21.1), ws ++ [(0, .box (List.map AV.p (J1 r21.2)))]⟩ := Jv (args' := [.ptr 0 0, .p (.i .i64 (((List.length x1.Frames) : Nat) : Int))]) (bs := [0]) (css := [List.map AV.p (J1 r11.2)]) (css' := [List.map AV.p (J1 r21.2)]) rfl rfl rfl (by simp [Jg, Ja]) (Ju p h22) rfl rfl (by simp [Jg, Ja])
   try simp only [Nf, Ji, Jh, Jq] at f23
   have f24 : ∀ ws k new s, JC ws s [0] [List.map AV.p (J1 r11.2)] → Jf ((Jl (AF (J6 p)) Jd ([.ptr 0 0, .p (.i .i64 (((List.length x1.Frames) : Nat) : Int))], ws) k new).reads s) = [0] ++ ([0] ++ [0]) := J2D (args' := [.ptr 0 0, .p (.i .i64 (((List.length x1.Frames) : Nat) : Int))]) (bs := [0]) (css := [List.map AV.p (J1 r11.2)]) rfl rfl rfl (by simp [Jg, Ja])
   try simp only [Nf, Ji, Jh, Jq] at f24
   obtain ⟨y25, h26, h⟩ := bi h
   have f27 := JcG (r := J7) h26
   try simp only [Nf, Ji, Jh, Jq] at f27
   have f28 : (0 ≤ (r21.1 : Int) ∧ (r21.1 : Int) < (((List.length x1.Frames) : Nat) : Int)) = True := eq_true (by have e0 := Je7 h26; (try simp only [List.length_cons, List.length_nil, Nat.zero_add] at e0); omega)
   obtain ⟨r29, h30, h⟩ := bi h
   have f31 : ∀ ws new s, JC ws s [0] [List.map AV.p (J1 r21.2)] → (Jl (AF (J6 p)) Jd ([.ptr 0 0, .p (.i .i64 4)], ws) 0 new).run s = some ⟨.p (.i .i64 r29.1), ws ++ [(0, .box (List.map AV.p (J1 r29.2)))]⟩ := Jv (args' := [.ptr 0 0, .p (.i .i64 4)]) (bs := [0]) (css := [List.map AV.p (J1 r21.2)]) (css' := [List.map AV.p (J1 r29.2)]) rfl rfl rfl (by simp [Jg, Ja]) (Ju p h30) rfl rfl (by simp [Jg, Ja])
   try simp only [Nf, Ji, Jh, Jq] at f31
   try simp only [↓Da, Ua, Ra, J1h, Ji, J0, J2, Jh, Jq, J4, *, ↓reduceIte, reduceEqDiff, reduceAdd, reduceLT, reduceMul, Nat.reduceBEq]
   rcases Jc h with ⟨h32, h⟩ | ⟨h32, h⟩
   ·have h32n : ((r29.1 : Int) != 0) = false := by rw [bne, h32]; rfl
    obtain ⟨r33, h34, h⟩ := bi h
    have f35 : ∀ ws new s, JC ws s [0] [List.map AV.p (J1 r29.2)] → (Jl (AF (J6 p)) J1g ([.ptr 0 0, .data (J9 y25.Page)], ws) 0 new).run s = some ⟨.data (J9 r33.1), ws ++ [(0, .box (List.map AV.p (J1 r33.2)))]⟩ := Jv (args' := [.ptr 0 0, .data (J9 y25.Page)]) (bs := [0]) (css := [List.map AV.p (J1 r29.2)]) (css' := [List.map AV.p (J1 r33.2)]) rfl rfl rfl (by simp [Jg, Ja]) (JaH p h34) rfl rfl (by simp [Jg, Ja])
    try simp only [Nf, Ji, Jh, Jq] at f35
    obtain ⟨m36, h37, h⟩ := bi h
    have f38 : List.set (List.map J7 x1.Frames) (Int.toNat r21.1) (J7 (⟨r33.1, y25.Dirty, y25.Rec, y25.Used⟩ : T_api_Frame)) = List.map J7 m36 := by
     rw [← Option.some.inj h37, List.map_set]
    try simp only [Nf, Ji, Jh, Jq] at f38
    have g39 : List.length m36 = List.length x1.Frames := by rw [← Option.some.inj h37, List.length_set]
    obtain rfl := sj h
    try simp only [↓Da, Ua, Ra, J1h, Ji, J0, J2, Jh, Jq, J4, J7g, *, ↓reduceIte, reduceEqDiff, reduceAdd, reduceLT, reduceMul, Nat.reduceBEq]
    rfl
   ·have h32n : ((r29.1 : Int) != 0) = true := by rw [bne, h32]; rfl
    try simp only [↓Da, Ua, Ra, J1h, Ji, J0, J2, Jh, Jq, J4, *, ↓reduceIte, reduceEqDiff, reduceAdd, reduceLT, reduceMul, Nat.reduceBEq]
    rcases Jc h with ⟨h40, h⟩ | ⟨h40, h⟩
    ·have h40n : ((r29.1 : Int) != 1) = false := by rw [bne, h40]; rfl
     obtain ⟨m41, h42, h⟩ := bi h
     have f43 : List.set (List.map J7 x1.Frames) (Int.toNat r21.1) (J7 (⟨y25.Page, (!y25.Dirty), y25.Rec, y25.Used⟩ : T_api_Frame)) = List.map J7 m41 := by
      rw [← Option.some.inj h42, List.map_set]
     try simp only [Nf, Ji, Jh, Jq] at f43
     have g44 : List.length m41 = List.length x1.Frames := by rw [← Option.some.inj h42, List.length_set]
     obtain rfl := sj h
     try simp only [↓Da, Ua, Ra, J1h, Ji, J0, J2, Jh, Jq, J4, J7g, *, ↓reduceIte, reduceEqDiff, reduceAdd, reduceLT, reduceMul, Nat.reduceBEq]
     rfl
    ·have h40n : ((r29.1 : Int) != 1) = true := by rw [bne, h40]; rfl
     try simp only [↓Da, Ua, Ra, J1h, Ji, J0, J2, Jh, Jq, J4, *, ↓reduceIte, reduceEqDiff, reduceAdd, reduceLT, reduceMul, Nat.reduceBEq]
     rcases Jc h with ⟨h45, h⟩ | ⟨h45, h⟩
     ·have h45n : ((r29.1 : Int) != 2) = false := by rw [bne, h45]; rfl
      obtain ⟨r46, h47, h⟩ := bi h
      have f48 : ∀ ws new s, JC ws s [0] [List.map AV.p (J1 r29.2)] → (Jl (AF (J6 p)) Jd ([.ptr 0 0, .p (.i .i64 5)], ws) 0 new).run s = some ⟨.p (.i .i64 r46.1), ws ++ [(0, .box (List.map AV.p (J1 r46.2)))]⟩ := Jv (args' := [.ptr 0 0, .p (.i .i64 5)]) (bs := [0]) (css := [List.map AV.p (J1 r29.2)]) (css' := [List.map AV.p (J1 r46.2)]) rfl rfl rfl (by simp [Jg, Ja]) (Ju p h47) rfl rfl (by simp [Jg, Ja])
      try simp only [Nf, Ji, Jh, Jq] at f48
      obtain ⟨m49, h50, h⟩ := bi h
      have f51 : List.set (List.map J7 x1.Frames) (Int.toNat r21.1) (J7 (⟨y25.Page, y25.Dirty, r46.1, y25.Used⟩ : T_api_Frame)) = List.map J7 m49 := by
       rw [← Option.some.inj h50, List.map_set]
      try simp only [Nf, Ji, Jh, Jq] at f51
      have g52 : List.length m49 = List.length x1.Frames := by rw [← Option.some.inj h50, List.length_set]
      obtain rfl := sj h
      try simp only [↓Da, Ua, Ra, J1h, Ji, J0, J2, Jh, Jq, J4, J7g, *, ↓reduceIte, reduceEqDiff, reduceAdd, reduceLT, reduceMul, Nat.reduceBEq]
      rfl
     ·have h45n : ((r29.1 : Int) != 2) = true := by rw [bne, h45]; rfl
      try simp only [↓Da, Ua, Ra, J1h, Ji, J0, J2, Jh, Jq, J4, *, ↓reduceIte, reduceEqDiff, reduceAdd, reduceLT, reduceMul, Nat.reduceBEq]
      rcases Jc h with ⟨h53, h⟩ | ⟨h53, h⟩
      ·have h53n : ((r29.1 : Int) != 3) = false := by rw [bne, h53]; rfl
       obtain ⟨r54, h55, h⟩ := bi h
       have f56 : ∀ ws new s, JC ws s [0] [List.map AV.p (J1 r29.2)] → (Jl (AF (J6 p)) Jd ([.ptr 0 0, .p (.i .i64 6)], ws) 0 new).run s = some ⟨.p (.i .i64 r54.1), ws ++ [(0, .box (List.map AV.p (J1 r54.2)))]⟩ := Jv (args' := [.ptr 0 0, .p (.i .i64 6)]) (bs := [0]) (css := [List.map AV.p (J1 r29.2)]) (css' := [List.map AV.p (J1 r54.2)]) rfl rfl rfl (by simp [Jg, Ja]) (Ju p h55) rfl rfl (by simp [Jg, Ja])
       try simp only [Nf, Ji, Jh, Jq] at f56
       obtain ⟨m57, h58, h⟩ := bi h
       have f61 : spl (J7 y25) 0 ((r_i .i64) r54.1) = some (J7 (⟨(⟨r54.1, y25.Page.LSN, y25.Page.Cells⟩ : T_api_Page), y25.Dirty, y25.Rec, y25.Used⟩ : T_api_Frame)) := by
        have e0 := (JgS (JQ y25) (Jdj y25.Page r54.1) (JbG y25 _))
        exact e0
       try simp only [Nf, Ji, Jh, Jq] at f61
       have f59 : List.set (List.map J7 x1.Frames) (Int.toNat r21.1) (J7 (⟨(⟨r54.1, y25.Page.LSN, y25.Page.Cells⟩ : T_api_Page), y25.Dirty, y25.Rec, y25.Used⟩ : T_api_Frame)) = List.map J7 m57 := by
        rw [← Option.some.inj h58, List.map_set]
       try simp only [Nf, Ji, Jh, Jq] at f59
       have g60 : List.length m57 = List.length x1.Frames := by rw [← Option.some.inj h58, List.length_set]
       obtain rfl := sj h
       try simp only [↓Da, Ua, Ra, J1h, Ji, J0, J2, Jh, Jq, J4, J7g, *, ↓reduceIte, reduceEqDiff, reduceAdd, reduceLT, reduceMul, Nat.reduceBEq]
       rfl
      ·have h53n : ((r29.1 : Int) != 3) = true := by rw [bne, h53]; rfl
       obtain rfl := sj h
       try simp only [↓Da, Ua, Ra, J1h, Ji, J0, J2, Jh, Jq, J4, J7g, *, ↓reduceIte, reduceEqDiff, reduceAdd, reduceLT, reduceMul, Nat.reduceBEq]
       rfl
theorem JoP {b0 : T_pagemenddraw_Codes} {x1 : T_api_Pool} {o : T_api_Pool × T_pagemenddraw_Codes} (h : J7c b0 x1 = some o) : AF (J6 p) J7e [.ptr 0 0, .data (J3 x1)] [.box (List.map AV.p (J1 b0))] = Jib o :=
 (J0h (J6 p) (Jot p) rfl).trans (JjY p h)
def J7N  (r : Bool) : Option Res := some (.p (.b r), [])
def Jkw (x36 : List T_api_Frame) (x37 : Int) (b0 : T_api_Pool) (o : (Int) ⊕ (Bool)) : Option Res := match o with
 | .inl s => rk (J6 p) J34 0 [.bl 0, .td 1 [2], .sq (.keep [] J5d)] (X (J6 p) (.lp 1 [1, 36, 37, 38] J0c) ⟨[(1, .ptr 0 0), (36, .p (.sl 37 (List.map J7 x36))), (37, .p (.i .i64 x37)), (38, .p (.i .i64 s))], [.box (List.map AV.p (J3 b0))]⟩)
 | .inr o => J7N o
def J9z  : Option (Bool) :=
 some true
theorem Jlk {B0 : List PV} {o : Bool} (h : J9z = some o) :
  rk (J6 p) J34 0 [] (X (J6 p) J5d ⟨[], [.box (List.map AV.p B0)]⟩) = J7N o := by
 unfold J9z at h
 obtain rfl := sj h
 try simp only [↓Da, Ua, J5d, J32, ↓reduceIte, reduceEqDiff, reduceAdd, reduceLT, reduceMul]
 rfl
def J5g (x36 : List T_api_Frame) (x37 : Int) (b0 : T_api_Pool) (x38 : Int) : Option (((Int) ⊕ (Bool))) :=
 if (decide (x38 < x37)) then
  Option.bind (idx x36 x38) fun y2 =>
  Option.bind (J4a y2.Page) fun r5 =>
  if r5 then
   Option.bind (J1M b0 y2.Page.ID) fun r10 =>
   if ((r10 : Int) != x38) then
    some (.inr false)
   else
    if y2.Dirty then
     if (decide (y2.Rec < 1)) then
      some (.inr false)
     else
      if (decide (y2.Rec > y2.Page.LSN)) then
       some (.inr false)
      else
       some (.inl (IntKind.wrap .i64 (x38 + 1)))
    else
     if ((y2.Rec : Int) != 0) then
      some (.inr false)
     else
      some (.inl (IntKind.wrap .i64 (x38 + 1)))
  else
   some (.inr false)
 else
  Option.map (fun o => .inr o) (J9z)
theorem JdR {x36 : List T_api_Frame} {x37 : Int} {b0 : T_api_Pool} {x38 : Int} {o : ((Int) ⊕ (Bool))} (h : J5g x36 x37 b0 x38 = some o) :
  rk (J6 p) J34 0 [.lo 1 [1, 36, 37, 38] J0c, .bl 0, .td 1 [2], .sq (.keep [] J5d)] (X (J6 p) J0c ⟨[(1, .ptr 0 0), (36, .p (.sl 37 (List.map J7 x36))), (37, .p (.i .i64 x37)), (38, .p (.i .i64 x38))], [.box (List.map AV.p (J3 b0))]⟩) = (Jkw p x36 x37 b0) o := by
 unfold J5g at h
 rcases Jc h with ⟨h1, h⟩ | ⟨h1, h⟩
 ·obtain ⟨y2, h3, h⟩ := bi h
  have f4 := J0f (r := J7) h3
  try simp only [Nf] at f4
  obtain ⟨r5, h6, h⟩ := bi h
  have f7 := JnY p h6
  try simp only [Nf] at f7
  try simp only [↓Da, Ua, J0c, J5, J0, J2, J8, J4, *, ↓reduceIte, reduceEqDiff, reduceAdd, reduceLT, reduceMul]
  rcases Jc h with ⟨h8, h⟩ | ⟨h8, h⟩
  ·have f9 : sub (J7 y2) 0 1 = some ((r_i .i64) y2.Page.ID) := by
    have e0 := (J2w (JQ y2) (J2T y2.Page))
    exact e0
   try simp only [Nf] at f9
   obtain ⟨r10, h11, h⟩ := bi h
   have f12 := J8z p h11
   try simp only [Nf] at f12
   try simp only [↓Da, Ua, J0c, J5, J0, J2, J8, J4, *, ↓reduceIte, reduceEqDiff, reduceAdd, reduceLT, reduceMul]
   rcases Jc h with ⟨h13, h⟩ | ⟨h13, h⟩
   ·obtain rfl := sj h
    try simp only [↓Da, Ua, J0c, J5, J0, J2, J8, J4, J32, *, ↓reduceIte, reduceEqDiff, reduceAdd, reduceLT, reduceMul]
    rfl
   ·try simp only [↓Da, Ua, J0c, J5, J0, J2, J8, J4, *, ↓reduceIte, reduceEqDiff, reduceAdd, reduceLT, reduceMul]
    rcases Jc h with ⟨h14, h⟩ | ⟨h14, h⟩
    ·try simp only [↓Da, Ua, J0c, J5, J0, J2, J8, J4, *, ↓reduceIte, reduceEqDiff, reduceAdd, reduceLT, reduceMul]
     rcases Jc h with ⟨h15, h⟩ | ⟨h15, h⟩
     ·obtain rfl := sj h
      try simp only [↓Da, Ua, J0c, J5, J0, J2, J8, J4, J32, *, ↓reduceIte, reduceEqDiff, reduceAdd, reduceLT, reduceMul]
      rfl
     ·have f16 : sub (J7 y2) 1 1 = some ((r_i .i64) y2.Page.LSN) := by
       have e0 := (J2w (JQ y2) (J1p y2.Page))
       exact e0
      try simp only [Nf] at f16
      try simp only [↓Da, Ua, J0c, J5, J0, J2, J8, J4, *, ↓reduceIte, reduceEqDiff, reduceAdd, reduceLT, reduceMul]
      rcases Jc h with ⟨h17, h⟩ | ⟨h17, h⟩
      ·obtain rfl := sj h
       try simp only [↓Da, Ua, J0c, J5, J0, J2, J8, J4, J32, *, ↓reduceIte, reduceEqDiff, reduceAdd, reduceLT, reduceMul]
       rfl
      ·obtain rfl := sj h
       try simp only [↓Da, Ua, J0c, J5, J0, J2, J8, J4, *, ↓reduceIte, reduceEqDiff, reduceAdd, reduceLT, reduceMul]
       rfl
    ·try simp only [↓Da, Ua, J0c, J5, J0, J2, J8, J4, *, ↓reduceIte, reduceEqDiff, reduceAdd, reduceLT, reduceMul]
     rcases Jc h with ⟨h18, h⟩ | ⟨h18, h⟩
     ·obtain rfl := sj h
      try simp only [↓Da, Ua, J0c, J5, J0, J2, J8, J4, J32, *, ↓reduceIte, reduceEqDiff, reduceAdd, reduceLT, reduceMul]
      rfl
     ·obtain rfl := sj h
      try simp only [↓Da, Ua, J0c, J5, J0, J2, J8, J4, *, ↓reduceIte, reduceEqDiff, reduceAdd, reduceLT, reduceMul]
      rfl
  ·obtain rfl := sj h
   try simp only [↓Da, Ua, J0c, J5, J0, J2, J8, J4, J32, *, ↓reduceIte, reduceEqDiff, reduceAdd, reduceLT, reduceMul]
   rfl
 ·obtain ⟨o', h', rfl⟩ := mi h
  try simp only [↓Da, Ua, J0c, J5, J0, J2, J8, J4, *, ↓reduceIte, reduceEqDiff, reduceAdd, reduceLT, reduceMul]
  have e0 := Jlk p (B0 := (J3 b0)) h'
  first | exact e0 | (simp only [*] at e0; exact e0)
def Jed (x36 : List T_api_Frame) (x37 : Int) (b0 : T_api_Pool) (s : Int) : Option (Bool) :=
 JO (fun s => J5g x36 x37 b0 s) s
theorem JiS {x36 : List T_api_Frame} {x37 : Int} {b0 : T_api_Pool} {s : Int} {o : Bool} (h : Jed x36 x37 b0 s = some o) :
  rk (J6 p) J34 0 [.bl 0, .td 1 [2], .sq (.keep [] J5d)] (X (J6 p) (.lp 1 [1, 36, 37, 38] J0c) ⟨[(1, .ptr 0 0), (36, .p (.sl 37 (List.map J7 x36))), (37, .p (.i .i64 x37)), (38, .p (.i .i64 s))], [.box (List.map AV.p (J3 b0))]⟩) = J7N o := by
 have h0 : JO (fun s => J5g x36 x37 b0 s) s = some o := h
 exact J0M (P := fun (s : Int) (o : Bool) => rk (J6 p) J34 0 [.bl 0, .td 1 [2], .sq (.keep [] J5d)] (X (J6 p) (.lp 1 [1, 36, 37, 38] J0c) ⟨[(1, .ptr 0 0), (36, .p (.sl 37 (List.map J7 x36))), (37, .p (.i .i64 x37)), (38, .p (.i .i64 s))], [.box (List.map AV.p (J3 b0))]⟩) = J7N o) (fun s r hs => by rw [J0w]; exact JdR p hs) (fun s s1 r hs ih => by rw [J0w]; exact (JdR p hs).trans ih) h0
def J0J (x0 : T_api_Pool) : Option (Bool) :=
 if (decide (x0.Size < 1)) then
  some false
 else
  if (decide (x0.Size > 64)) then
   some false
  else
   if (decide (((List.length x0.Frames : Nat) : Int) > x0.Size)) then
    some false
   else
    if (decide (x0.Hand < 0)) then
     some false
    else
     if (decide (x0.Hand ≥ (Jai 1 ((List.length x0.Frames : Nat) : Int)))) then
      some false
     else
      Jed x0.Frames ((List.length x0.Frames : Nat) : Int) x0 0
theorem Jj7 {x0 : T_api_Pool} {o : Bool} (h : J0J x0 = some o) :
  rk (J6 p) J34 0 [] (X (J6 p) J1I ⟨[(0, .data (J3 x0))], []⟩) = J7N o := by
 unfold J0J at h
 rcases Jc h with ⟨h1, h⟩ | ⟨h1, h⟩
 ·obtain rfl := sj h
  try simp only [↓Da, Ua, J1I, J5, J0, J2, J8, J4, J32, *, ↓reduceIte, reduceEqDiff, reduceAdd, reduceLT, reduceMul]
  rfl
 ·try simp only [↓Da, Ua, J1I, J5, J0, J2, J8, J4, *, ↓reduceIte, reduceEqDiff, reduceAdd, reduceLT, reduceMul]
  rcases Jc h with ⟨h2, h⟩ | ⟨h2, h⟩
  ·obtain rfl := sj h
   try simp only [↓Da, Ua, J1I, J5, J0, J2, J8, J4, J32, *, ↓reduceIte, reduceEqDiff, reduceAdd, reduceLT, reduceMul]
   rfl
  ·try simp only [↓Da, Ua, J1I, J5, J0, J2, J8, J4, *, ↓reduceIte, reduceEqDiff, reduceAdd, reduceLT, reduceMul]
   rcases Jc h with ⟨h3, h⟩ | ⟨h3, h⟩
   ·obtain rfl := sj h
    try simp only [↓Da, Ua, J1I, J5, J0, J2, J8, J4, J32, *, ↓reduceIte, reduceEqDiff, reduceAdd, reduceLT, reduceMul]
    rfl
   ·try simp only [↓Da, Ua, J1I, J5, J0, J2, J8, J4, *, ↓reduceIte, reduceEqDiff, reduceAdd, reduceLT, reduceMul]
    rcases Jc h with ⟨h4, h⟩ | ⟨h4, h⟩
    ·obtain rfl := sj h
     try simp only [↓Da, Ua, J1I, J5, J0, J2, J8, J4, J32, *, ↓reduceIte, reduceEqDiff, reduceAdd, reduceLT, reduceMul]
     rfl
    ·try simp only [↓Da, Ua, J1I, J5, J0, J2, J8, J4, *, ↓reduceIte, reduceEqDiff, reduceAdd, reduceLT, reduceMul]
     rcases Jc h with ⟨h5, h⟩ | ⟨h5, h⟩
     ·obtain rfl := sj h
      try simp only [↓Da, Ua, J1I, J5, J0, J2, J8, J4, J32, *, ↓reduceIte, reduceEqDiff, reduceAdd, reduceLT, reduceMul]
      rfl
     ·try simp only [↓Da, Ua, J1I, J5, J0, J2, J8, J4, *, ↓reduceIte, reduceEqDiff, reduceAdd, reduceLT, reduceMul]
      have e0 := JiS p h
      first | exact e0 | (simp only [*] at e0; exact e0)
theorem Jna {x0 : T_api_Pool} {o : Bool} (h : J0J x0 = some o) : AF (J6 p) J1J [.data (J3 x0)] [] = J7N o :=
 (J0h (J6 p) (Joa p) rfl).trans (Jj7 p h)
theorem J5t {x0 : T_api_Pool} {o : Bool} (h : J0J x0 = some o) : ∀ ws new st, (Jl (AF (J6 p)) J1J ([.data (J3 x0)], ws) 0 new).run st = some ⟨.p (.b o), ws⟩ := Jy rfl (Jna p h) rfl
end
end Go.Am
end
