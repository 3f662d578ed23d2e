/-
  Parts of a proof.
-/
import Derived.ChangeArms
import Derived.OpenShut
import Derived.ChangeBears
import Derived.ChangeStays
import Derived.Handed
import Derived.RowKit3
import Derived.WalkKit
import Derived.ProofKit
import Derived.Test.YtkopficpneehnaaX2
import Derived.Test.YtkopficpneehnaaX3
import Derived.Test.YtkopficpneehnaaX4
set_option linter.unusedSimpArgs false
set_option linter.unusedVariables false
section
namespace Go.Am
noncomputable section
set_option maxRecDepth 20000
def J2B (x1 : List UInt8) : Option (Bool) :=
 some (neI (J5 x1) 256)
theorem Jde (x) : onO (J00 J3c x) (fun y => J0c (TG.of []) J4m y.1 y.2 (JJ J3c)) = J2B x := by kernel_rfl
def J2n (x1 : J6) : Option (J6 × Bool) :=
 if eqI x1.1 1 then
  some ((x1.1, x1.2.1, 0, 0, 0, 0), true)
 else
  if eqI x1.1 6 then
   some ((x1.1, x1.2.1, 0, 0, 0, 0), true)
  else
   if eqI x1.1 2 then
    some ((x1.1, x1.2.1, 0, x1.2.2.2.1, 0, 0), true)
   else
    if eqI x1.1 3 then
     some ((x1.1, x1.2.1, 0, 0, x1.2.2.2.2.1, 0), true)
    else
     if eqI x1.1 4 then
      some ((x1.1, x1.2.1, x1.2.2.1, 0, x1.2.2.2.2.1, x1.2.2.2.2.2), true)
     else
      if eqI x1.1 5 then
       some ((x1.1, x1.2.1, x1.2.2.1, 0, 0, 0), true)
      else
       some ((x1.1, x1.2.1, 0, 0, 0, 0), false)
theorem Jfj (x) : onO (J00 J42 x) (fun y => J0c (TG.of []) J5d y.1 y.2 (JJ J42)) = J2n x := by kernel_rfl
def J0d (x1 : T_api_Device × Int) : Option (Bool) :=
 if geI x1.2 0 then
  some (ltI x1.2 (J5 x1.1.1))
 else
  some false
theorem Jg9 (x) : onO (J00 J1P x) (fun y => J0c (TG.of []) J5I y.1 y.2 (JJ J1P)) = J0d x := by kernel_rfl
def J0K (x1 : T_api_Device × J6) : Option (Bool) :=
 (J2n x1.2).bind fun y2 =>
 if y2.2 then
  if eqT J4 y2.1 x1.2 then
   if gtI x1.2.2.1 x1.1.2.1 then
    if leI x1.2.2.1 1099511627776 then
     (J0d (x1.1, x1.2.2.2.1)).bind fun y3 =>
     if y3 then
      (J0d (x1.1, x1.2.2.2.2.1)).bind fun y4 =>
      if y4 then
       if geI x1.2.2.2.2.2.1 0 then
        if ltI x1.2.2.2.2.2.1 256 then
         if neI x1.2.1 4 = false then
          some (neI x1.2.2.2.2.2.2 0)
         else
          some true
        else
         some false
       else
        some false
      else
       some false
     else
      some false
    else
     some false
   else
    some false
  else
   some false
 else
  some false
theorem Jd9 (x) : onO (J00 J1U x) (fun y => J0c (TG.of [sigE J2q J42 J2n, sigE J0l J1P J0d]) J4l y.1 y.2 (JJ J1U)) = J0K x := by kernel_rfl
def J2N (z2 : (List (List UInt8)) × Int × Int) : Option (((List (List UInt8)) × Int × Int) ⊕ Int) :=
 if ltI z2.2.2 z2.2.1 then
  (idx z2.1 z2.2.2).bind fun y3 =>
  (J2B y3).bind fun y4 =>
  if y4 then
   some (.inr z2.2.2)
  else
   some (.inl (z2.1, z2.2.1, J9 .i64 z2.2.2 1))
 else
  some (.inr (-1))
def J04 (x1 : List (List UInt8)) : Option (Int) :=
 Jz (J2N) (x1, J5 x1, 0)
theorem J5J (x) : onO (J00 J0k x) (fun y => J0c (TG.of [sigE J11 J3c J2B]) J1f y.1 y.2 (JJ J0k)) = J04 x := by kernel_rfl
def JH (x1 : List (List UInt8)) : Option (Bool) :=
 (J04 x1).bind fun y2 =>
 some (geI y2 0)
theorem J58 (x) : onO (J00 J0a x) (fun y => J0c (TG.of [sigE JT J0k J04]) J0U y.1 y.2 (JJ J0a)) = JH x := by kernel_rfl
def J2A (x1 : J6 × T_api_Device) : Option (Bool × T_api_Device) :=
 (J0K (x1.2, x1.1)).bind fun y2 =>
 some (J0A y2, x1.2)
theorem Jdg (x) : onO (J00 J3a x) (fun y => J0c (TG.of [sigE J0J J1U J0K]) J4o y.1 y.2 (JJ J3a)) = J2A x := by kernel_rfl
def J2a (z2 : (List J6) × Int × Int × T_api_Device) : Option (((List J6) × Int × Int × T_api_Device) ⊕ (Int × T_api_Device)) :=
 if ltI z2.2.2.1 z2.2.1 then
  (idx z2.1 z2.2.2.1).bind fun y3 =>
  (J2A (y3, z2.2.2.2)).bind fun y4 =>
  if y4.1 then
   some (.inr (z2.2.2.1, y4.2))
  else
   some (.inl (z2.1, z2.2.1, J9 .i64 z2.2.2.1 1, y4.2))
 else
  some (.inr ((-1), z2.2.2.2))
def JK (x1 : (List J6) × T_api_Device) : Option (Int × T_api_Device) :=
 Jz (J2a) (x1.1, J5 x1.1, 0, x1.2)
theorem J4C (x) : onO (J00 J02 x) (fun y => J0c (TG.of [sigE J0X J3a J2A]) J0H y.1 y.2 (JJ J02)) = JK x := by kernel_rfl
def Jx (x1 : (List J6) × T_api_Device) : Option (Bool × T_api_Device) :=
 (JK (x1.1, x1.2)).bind fun y2 =>
 some (geI y2.1 0, y2.2)
theorem J4i (x) : onO (J00 JS x) (fun y => J0c (TG.of [sigE JE J02 JK]) J0p y.1 y.2 (JJ JS)) = Jx x := by kernel_rfl
def J93 (z2 : (List Int) × Int × Int × T_api_Device) : Option (((List Int) × Int × Int × T_api_Device) ⊕ Bool) :=
 if ltI z2.2.2.1 z2.2.1 then
  (idx z2.1 z2.2.2.1).bind fun y3 =>
  (J0d (z2.2.2.2, y3)).bind fun y4 =>
  if J0A y4 = false then
   if gtI z2.2.2.1 0 then
    (idx z2.2.2.2.2.2.1 (J23 .i64 z2.2.2.1 1)).bind fun y5 =>
    if geI y5 y3 then
     some (.inr false)
    else
     some (.inl (z2.1, z2.2.1, J9 .i64 z2.2.2.1 1, z2.2.2.2))
   else
    some (.inl (z2.1, z2.2.1, J9 .i64 z2.2.2.1 1, z2.2.2.2))
  else
   some (.inr false)
 else
  Option.map .inr (
   (JH z2.2.2.2.1).bind fun y6 =>
   if J0A y6 then
    (Jx (z2.2.2.2.2.2.2.2, z2.2.2.2)).bind fun y7 =>
    some (J0A y7.1)
   else
    some false)
def JQ (x1 : T_api_Device) : Option (Bool) :=
 if ltI (J5 x1.1) 1 = false then
  if gtI (J5 x1.1) 64 = false then
   if ltI x1.2.1 0 = false then
    if gtI x1.2.1 1099511627776 = false then
     if gtI (J5 x1.2.2.2.2) 64 then
      some false
     else
      Jz (J93) (x1.2.2.1, J5 x1.2.2.1, 0, x1)
    else
     some false
   else
    some false
  else
   some false
 else
  some false
theorem JgJ (x) : onO (J00 J17 x) (fun y => J0c (TG.of [sigE J0l J1P J0d, sigE JN J0a JH, sigE JC JS Jx]) J5G y.1 y.2 (JJ J17)) = JQ x := by kernel_rfl
def JO (x : List J6) : Option (List J6) := cloS 48 x
def J0Q (x1 : T_api_Device × J6) : Option (T_api_Device × Int) :=
 (JQ x1.1).bind fun y2 =>
 if J0A y2 then
  some (([], 0, [], false, []), 15)
 else
  (J0K (x1.1, x1.2)).bind fun y3 =>
  if J0A y3 then
   some (([], 0, [], false, []), 1)
  else
   if eqI (J5 x1.1.2.2.2.2) 64 then
    some (([], 0, [], false, []), 21)
   else
    (JO x1.1.2.2.2.2).bind fun y4 =>
    (J1V 48 y4 [x1.2]).bind fun y5 =>
    some ((x1.1.1, x1.1.2.1, x1.1.2.2.1, x1.1.2.2.2.1, y5), 0)
theorem Jf0 (x) : onO (J00 J2r x) (fun y => J0c (TG.of [sigE J05 J17 JQ, sigE J0J J1U J0K, sigE Jq J0q JO]) J5e y.1 y.2 (JJ J2r)) = J0Q x := by kernel_rfl
def J1A (x : (List (List UInt8)) × Int) : Option (List (List UInt8)) := Jgh x
def J3z (x : (List UInt8) × Int) : Option (List UInt8) := Jth x
def J1n (x1 : Int) : Option (List (List UInt8)) :=
 (J3z ([0], 256)).bind fun y2 =>
 (J1A ([y2], x1)).bind fun y3 =>
 some y3
theorem JgI (x) : onO (J00 J2J x) (fun y => J0c (TG.of [sigE J2L J6U J3z, sigE J0u J2E J1A]) J5V y.1 y.2 (JJ J2J)) = J1n x := by kernel_rfl
def J24 (x1 : Int) : Option (T_api_Device × Int) :=
 if ltI x1 1 = false then
  if gtI x1 64 then
   some (([], 0, [], false, []), 1)
  else
   (J1n x1).bind fun y2 =>
   some ((y2, 0, [], false, []), 0)
 else
  some (([], 0, [], false, []), 1)
theorem Jkq (x) : onO (J00 J3D x) (fun y => J0c (TG.of [sigE J1o J2J J1n]) J7k y.1 y.2 (JJ J3D)) = J24 x := by kernel_rfl
def J0n (x1 : T_api_Device × Int) : Option (Int) :=
 (JQ x1.1).bind fun y2 =>
 if J0A y2 then
  some 15
 else
  if x1.1.2.2.2.1 then
   some 10
  else
   (J0d (x1.1, x1.2)).bind fun y3 =>
   if J0A y3 then
    some 1
   else
    some 0
theorem JfH (x) : onO (J00 J2x x) (fun y => J0c (TG.of [sigE J05 J17 JQ, sigE J0l J1P J0d]) J5b y.1 y.2 (JJ J2x)) = J0n x := by kernel_rfl
def J5m (z2 : (List Int) × Int × Int × Int) : Option (((List Int) × Int × Int × Int) ⊕ Int) :=
 if ltI z2.2.2.2 z2.2.2.1 then
  (idx z2.1 z2.2.2.2).bind fun y3 =>
  if eqI z2.2.1 y3 then
   some (.inr z2.2.2.2)
  else
   some (.inl (z2.1, z2.2.1, z2.2.2.1, J9 .i64 z2.2.2.2 1))
 else
  some (.inr (-1))
def J1m (x1 : (List Int) × Int) : Option (Int) :=
 Jz (J5m) (x1.1, x1.2, J5 x1.1, 0)
theorem Ja5 (x) : onO (J00 J22 x) (fun y => J0c (TG.of []) J2O y.1 y.2 (JJ J22)) = J1m x := by kernel_rfl
def J0v (x1 : (List Int) × Int) : Option (Bool) :=
 (J1m (x1.1, x1.2)).bind fun y2 =>
 some (geI y2 0)
theorem J8H (x) : onO (J00 J1y x) (fun y => J0c (TG.of [sigE J0T J22 J1m]) J2h y.1 y.2 (JJ J1y)) = J0v x := by kernel_rfl
def J1i (x1 : T_api_Device × Int) : Option ((List UInt8) × Int) :=
 (J0n (x1.1, x1.2)).bind fun y2 =>
 if neI y2 0 then
  some ([], y2)
 else
  (J0v (x1.1.2.2.1, x1.2)).bind fun y3 =>
  if y3 then
   some ([], 11)
  else
   (idx x1.1.1 x1.2).bind fun y4 =>
   some (y4, 0)
theorem JhS (x) : onO (J00 J2Y x) (fun y => J0c (TG.of [sigE J1a J2x J0n, sigE J0w J1y J0v]) J6r y.1 y.2 (JJ J2Y)) = J1i x := by kernel_rfl
def J0b (x : T_api_Device × Int × (List UInt8)) : Option (T_api_Device × Int) := JeI (J0n (x.1, x.2.1)) x
def JU (rec : (Int × T_pagemenddraw_Codes) → Option (Int × T_pagemenddraw_Codes)) (x1 : Int × T_pagemenddraw_Codes) : Option (Int × T_pagemenddraw_Codes) :=
 if geI x1.2.2 (J5 x1.2.1) = false then
  if ltI x1.1 1 then
   some (0, x1.2)
  else
   (idx x1.2.1 x1.2.2).bind fun y2 =>
   if gtI x1.1 256 then
    (rec (256, x1.2.1, J9 .i64 x1.2.2 1)).bind fun y3 =>
    (Jcd (J9 .i64 (JjP .i64 256 (cvI .i64 y2)) y3.1) x1.1).bind fun y4 =>
    some (y4, y3.2)
   else
    (Jcd (cvI .i64 y2) x1.1).bind fun y5 =>
    some (y5, x1.2.1, J9 .i64 x1.2.2 1)
 else
  some (0, x1.2)
def S_draw_Codes_Next : (Int × T_pagemenddraw_Codes) → Option (Int × T_pagemenddraw_Codes) := Ja4 JU 100
theorem J68 (r x) : onO (J00 g_draw_Codes_Next x) (fun y => J0c (TG.of (sigE i_draw_Codes_Next g_draw_Codes_Next r :: [])) J10 y.1 y.2 (JJ g_draw_Codes_Next)) = JU r x := by kernel_rfl
def J7t (z4 : Int × Int × T_pagemenddraw_Codes × (List Int)) : Option ((Int × Int × T_pagemenddraw_Codes × (List Int)) ⊕ ((List UInt8) × T_pagemenddraw_Codes)) :=
 if ltI z4.2.1 (J5 z4.2.2.2) then
  (inb (List.length z4.2.2.2) z4.2.1).bind fun _ =>
  (lat z4.2.2.2 (Int.toNat z4.2.1)).bind fun _ =>
  some (.inl (z4.1, J9 .i64 z4.2.1 1, z4.2.2.1, J3n z4.2.2.2 (Int.toNat z4.2.1) z4.1))
 else
  Option.map .inr (
   (S_draw_Codes_Next (256, z4.2.2.1)).bind fun y7 =>
   (S_draw_Codes_Next (256, y7.2)).bind fun y8 =>
   (inb (List.length z4.2.2.2) y7.1).bind fun _ =>
   (lat z4.2.2.2 (Int.toNat y7.1)).bind fun _ =>
   some (toStr (J3n z4.2.2.2 (Int.toNat y7.1) (cvI .u8 y8.1)), y8.2))
def J08 (x1 : T_pagemenddraw_Codes) : Option ((List UInt8) × T_pagemenddraw_Codes) :=
 (mkS 1 256 256 0).bind fun y2 =>
 (S_draw_Codes_Next (256, x1)).bind fun y3 =>
 Jz (J7t) (cvI .u8 y3.1, 0, y3.2, y2)
theorem Jcc (x) : onO (J00 J1F x) (fun y => J0c (TG.of [sigE i_draw_Codes_Next g_draw_Codes_Next S_draw_Codes_Next]) J46 y.1 y.2 (JJ J1F)) = J08 x := by kernel_rfl
def S_draw_Codes_Int (x1 : T_pagemenddraw_Codes) : Option (Int × T_pagemenddraw_Codes) :=
 (S_draw_Codes_Next (10, x1)).bind fun y2 =>
 if eqI y2.1 0 then
  (S_draw_Codes_Next (3, y2.2)).bind fun y3 =>
  some (J23 .i64 (-1) y3.1, y3.2)
 else
  if eqI y2.1 1 then
   (S_draw_Codes_Next (16, y2.2)).bind fun y4 =>
   (idx [9223372036854775807, (-9223372036854775808), 1099511627776, 1099511627777, 1073741824, 1073741825, 64, 63, 16, 15, 256, 255, 4294967296, 65536, 256, 255] y4.1).bind fun y5 =>
   some (y5, y4.2)
  else
   (S_draw_Codes_Next (20, y2.2)).bind fun y6 =>
   some (y6.1, y6.2)
theorem J6S (x) : onO (J00 J0e x) (fun y => J0c (TG.of [sigE i_draw_Codes_Next g_draw_Codes_Next S_draw_Codes_Next]) J1g y.1 y.2 (JJ J0e)) = S_draw_Codes_Int x := by kernel_rfl
def S_draw_Codes_Fault (x1 : Int × Int × T_pagemenddraw_Codes) : Option (J6 × T_pagemenddraw_Codes) :=
 (S_draw_Codes_Next (6, x1.2.2)).bind fun y2 =>
 (S_draw_Codes_Next (6, y2.2)).bind fun y3 =>
 if eqI (J9 .i64 1 y2.1) 2 then
  (S_draw_Codes_Next (x1.1, y3.2)).bind fun y4 =>
  (S_draw_Codes_Next (16, y4.2)).bind fun y5 =>
  if eqI y5.1 12 then
   (S_draw_Codes_Int y5.2).bind fun y6 =>
   some ((J9 .i64 1 y2.1, y6.1, 0, y4.1, 0, 0), y6.2)
  else
   if eqI y5.1 13 then
    (S_draw_Codes_Int y5.2).bind fun y7 =>
    some ((J9 .i64 1 y2.1, J9 .i64 (J9 .i64 x1.2.1 1) y3.1, y7.1, y4.1, 0, 0), y7.2)
   else
    if eqI y5.1 14 then
     (S_draw_Codes_Int y5.2).bind fun y8 =>
     (S_draw_Codes_Int y8.2).bind fun y9 =>
     some ((J9 .i64 1 y2.1, J9 .i64 (J9 .i64 x1.2.1 1) y3.1, 0, y8.1, y9.1, 0), y9.2)
    else
     if eqI y5.1 15 then
      (S_draw_Codes_Next (9, y5.2)).bind fun y10 =>
      some ((J23 .i64 y10.1 1, J9 .i64 (J9 .i64 x1.2.1 1) y3.1, 0, y4.1, 0, 0), y10.2)
     else
      some ((J9 .i64 1 y2.1, J9 .i64 (J9 .i64 x1.2.1 1) y3.1, 0, y4.1, 0, 0), y5.2)
 else
  if eqI (J9 .i64 1 y2.1) 3 then
   (S_draw_Codes_Next (256, y3.2)).bind fun y11 =>
   (S_draw_Codes_Next (16, y11.2)).bind fun y12 =>
   if eqI y12.1 12 then
    (S_draw_Codes_Int y12.2).bind fun y13 =>
    some ((J9 .i64 1 y2.1, y13.1, 0, 0, y11.1, 0), y13.2)
   else
    if eqI y12.1 13 then
     (S_draw_Codes_Int y12.2).bind fun y14 =>
     some ((J9 .i64 1 y2.1, J9 .i64 (J9 .i64 x1.2.1 1) y3.1, y14.1, 0, y11.1, 0), y14.2)
    else
     if eqI y12.1 14 then
      (S_draw_Codes_Int y12.2).bind fun y15 =>
      (S_draw_Codes_Int y15.2).bind fun y16 =>
      some ((J9 .i64 1 y2.1, J9 .i64 (J9 .i64 x1.2.1 1) y3.1, 0, y15.1, y16.1, 0), y16.2)
     else
      if eqI y12.1 15 then
       (S_draw_Codes_Next (9, y12.2)).bind fun y17 =>
       some ((J23 .i64 y17.1 1, J9 .i64 (J9 .i64 x1.2.1 1) y3.1, 0, 0, y11.1, 0), y17.2)
      else
       some ((J9 .i64 1 y2.1, J9 .i64 (J9 .i64 x1.2.1 1) y3.1, 0, 0, y11.1, 0), y12.2)
  else
   if eqI (J9 .i64 1 y2.1) 4 then
    (S_draw_Codes_Next (x1.1, y3.2)).bind fun y18 =>
    (S_draw_Codes_Next (256, y18.2)).bind fun y19 =>
    (S_draw_Codes_Next (255, y19.2)).bind fun y20 =>
    (S_draw_Codes_Next (16, y20.2)).bind fun y21 =>
    if eqI y21.1 12 then
     (S_draw_Codes_Int y21.2).bind fun y22 =>
     some ((J9 .i64 1 y2.1, y22.1, y18.1, 0, y19.1, cvI .u8 (J9 .i64 1 y20.1)), y22.2)
    else
     if eqI y21.1 13 then
      (S_draw_Codes_Int y21.2).bind fun y23 =>
      some ((J9 .i64 1 y2.1, J9 .i64 (J9 .i64 x1.2.1 1) y3.1, y23.1, 0, y19.1, 0), y23.2)
     else
      if eqI y21.1 14 then
       (S_draw_Codes_Int y21.2).bind fun y24 =>
       (S_draw_Codes_Int y24.2).bind fun y25 =>
       some ((J9 .i64 1 y2.1, J9 .i64 (J9 .i64 x1.2.1 1) y3.1, y18.1, y24.1, y25.1, cvI .u8 (J9 .i64 1 y20.1)), y25.2)
      else
       if eqI y21.1 15 then
        (S_draw_Codes_Next (9, y21.2)).bind fun y26 =>
        some ((J23 .i64 y26.1 1, J9 .i64 (J9 .i64 x1.2.1 1) y3.1, y18.1, 0, y19.1, cvI .u8 (J9 .i64 1 y20.1)), y26.2)
       else
        some ((J9 .i64 1 y2.1, J9 .i64 (J9 .i64 x1.2.1 1) y3.1, y18.1, 0, y19.1, cvI .u8 (J9 .i64 1 y20.1)), y21.2)
   else
    if eqI (J9 .i64 1 y2.1) 5 then
     (S_draw_Codes_Next (x1.1, y3.2)).bind fun y27 =>
     (S_draw_Codes_Next (16, y27.2)).bind fun y28 =>
     if eqI y28.1 12 then
      (S_draw_Codes_Int y28.2).bind fun y29 =>
      some ((J9 .i64 1 y2.1, y29.1, y27.1, 0, 0, 0), y29.2)
     else
      if eqI y28.1 13 then
       (S_draw_Codes_Int y28.2).bind fun y30 =>
       some ((J9 .i64 1 y2.1, J9 .i64 (J9 .i64 x1.2.1 1) y3.1, y30.1, 0, 0, 0), y30.2)
      else
       if eqI y28.1 14 then
        (S_draw_Codes_Int y28.2).bind fun y31 =>
        (S_draw_Codes_Int y31.2).bind fun y32 =>
        some ((J9 .i64 1 y2.1, J9 .i64 (J9 .i64 x1.2.1 1) y3.1, y27.1, y31.1, y32.1, 0), y32.2)
       else
        if eqI y28.1 15 then
         (S_draw_Codes_Next (9, y28.2)).bind fun y33 =>
         some ((J23 .i64 y33.1 1, J9 .i64 (J9 .i64 x1.2.1 1) y3.1, y27.1, 0, 0, 0), y33.2)
        else
         some ((J9 .i64 1 y2.1, J9 .i64 (J9 .i64 x1.2.1 1) y3.1, y27.1, 0, 0, 0), y28.2)
    else
     (S_draw_Codes_Next (16, y3.2)).bind fun y34 =>
     if eqI y34.1 12 then
      (S_draw_Codes_Int y34.2).bind fun y35 =>
      some ((J9 .i64 1 y2.1, y35.1, 0, 0, 0, 0), y35.2)
     else
      if eqI y34.1 13 then
       (S_draw_Codes_Int y34.2).bind fun y36 =>
       some ((J9 .i64 1 y2.1, J9 .i64 (J9 .i64 x1.2.1 1) y3.1, y36.1, 0, 0, 0), y36.2)
      else
       if eqI y34.1 14 then
        (S_draw_Codes_Int y34.2).bind fun y37 =>
        (S_draw_Codes_Int y37.2).bind fun y38 =>
        some ((J9 .i64 1 y2.1, J9 .i64 (J9 .i64 x1.2.1 1) y3.1, 0, y37.1, y38.1, 0), y38.2)
       else
        if eqI y34.1 15 then
         (S_draw_Codes_Next (9, y34.2)).bind fun y39 =>
         some ((J23 .i64 y39.1 1, J9 .i64 (J9 .i64 x1.2.1 1) y3.1, 0, 0, 0, 0), y39.2)
        else
         some ((J9 .i64 1 y2.1, J9 .i64 (J9 .i64 x1.2.1 1) y3.1, 0, 0, 0, 0), y34.2)
theorem J5g (x) : onO (J00 JX x) (fun y => J0c (TG.of [sigE i_draw_Codes_Next g_draw_Codes_Next S_draw_Codes_Next, sigE Jo J0e S_draw_Codes_Int]) J0R y.1 y.2 (JJ JX)) = S_draw_Codes_Fault x := by kernel_rfl
def J4N (x1 : T_pagemenddraw_Codes) : Option (T_pagemenddraw_Codes) :=
 if gtI (J5 x1.1) x1.2 then
  (J7E x1.1 none (some x1.2)).bind fun y2 =>
  some (y2, 0)
 else
  some (x1.1, 0)
theorem Jnc (x) : onO (J00 J7e x) (fun y => J0c (TG.of []) J8z y.1 y.2 (JJ J7e)) = J4N x := by kernel_rfl
def J35 (x1 : Unit) : Option (Bool) :=
 (J24 1).bind fun y2 =>
 (J0Q (y2.1, 1, 2, 0, 0, 0, 0)).bind fun y3 =>
 (mkS 1 255 255 0).bind fun y4 =>
 (JbZ (toStr y4) [97]).bind fun y5 =>
 (mkS 1 255 255 0).bind fun y6 =>
 (JbZ (toStr y6) [98]).bind fun y7 =>
 (J0b (y3.1, 0, y5)).bind fun y8 =>
 (J0b (y8.1, 0, y7)).bind fun y9 =>
 (J1i (y9.1, 0)).bind fun y10 =>
 if eqI y2.2 0 then
  if eqI y3.2 0 then
   if eqI y8.2 0 then
    if eqI y9.2 0 then
     if eqI y10.2 0 then
      some (eqS y10.1 y5)
     else
      some false
    else
     some false
   else
    some false
  else
   some false
 else
  some false
theorem JhV (x) : onO (J00 J4T x) (fun y => J0c (TG.of [sigE J25 J3D J24, sigE J1b J2r J0Q, sigE J1p J4p J0b, sigE J1H J2Y J1i]) J6D y.1 y.2 (JJ J4T)) = J35 x := by kernel_rfl
def S_ref04_Copy (x1 : T_api_Device) : Option (Int × (List Int) × Bool × (List (List UInt8)) × (List J6)) :=
 (cloS 16 x1.1).bind fun y2 =>
 (cloS 8 x1.2.2.1).bind fun y3 =>
 (cloS 48 x1.2.2.2.2).bind fun y4 =>
 some (x1.2.1, y3, x1.2.2.2.1, y2, y4)
theorem J8Z (x) : onO (J00 J0G x) (fun y => J0c (TG.of []) J2v y.1 y.2 (JJ J0G)) = S_ref04_Copy x := by kernel_rfl
def J1I (x1 : T_api_Device × J6) : Option (Bool) :=
 if leI x1.2.2.1 x1.1.2.1 = false then
  if gtI x1.2.2.1 1099511627776 = false then
   if ltI x1.2.2.2.1 0 = false then
    if geI x1.2.2.2.1 (J5 x1.1.1) = false then
     if ltI x1.2.2.2.2.1 0 = false then
      if geI x1.2.2.2.2.1 (J5 x1.1.1) = false then
       if ltI x1.2.2.2.2.2.1 0 = false then
        if geI x1.2.2.2.2.2.1 256 then
         some false
        else
         if eqI x1.2.1 1 then
          some (eqT J4 x1.2 (x1.2.1, x1.2.2.1, 0, 0, 0, 0))
         else
          if eqI x1.2.1 6 then
           some (eqT J4 x1.2 (x1.2.1, x1.2.2.1, 0, 0, 0, 0))
          else
           if eqI x1.2.1 2 then
            some (eqT J4 x1.2 (x1.2.1, x1.2.2.1, 0, x1.2.2.2.2.1, 0, 0))
           else
            if eqI x1.2.1 3 then
             some (eqT J4 x1.2 (x1.2.1, x1.2.2.1, 0, 0, x1.2.2.2.2.2.1, 0))
            else
             if eqI x1.2.1 4 then
              if eqI x1.2.2.2.2.2.2 0 then
               some false
              else
               some (eqT J4 x1.2 (x1.2.1, x1.2.2.1, x1.2.2.2.1, 0, x1.2.2.2.2.2.1, x1.2.2.2.2.2.2))
             else
              if eqI x1.2.1 5 then
               some (eqT J4 x1.2 (x1.2.1, x1.2.2.1, x1.2.2.2.1, 0, 0, 0))
              else
               some false
       else
        some false
      else
       some false
     else
      some false
    else
     some false
   else
    some false
  else
   some false
 else
  some false
theorem JhL (x) : onO (J00 J33 x) (fun y => J0c (TG.of []) J6t y.1 y.2 (JJ J33)) = J1I x := by kernel_rfl
def J9t (z9 : Int × T_api_Device) : Option ((Int × T_api_Device) ⊕ Bool) :=
 if ltI z9.1 (J5 z9.2.2.2.2.2) then
  (idx z9.2.2.2.2.2 z9.1).bind fun y10 =>
  (J1I (z9.2, y10)).bind fun y11 =>
  if J0A y11 then
   some (.inr false)
  else
   some (.inl (J9 .i64 z9.1 1, z9.2))
 else
  some (.inr true)
def J9H (z4 : Int × Int × T_api_Device) : Option ((Int × Int × T_api_Device) ⊕ Bool) :=
 if ltI z4.2.1 (J5 z4.2.2.2.2.1) then
  (idx z4.2.2.2.2.1 z4.2.1).bind fun y5 =>
  if ltI y5 0 = false then
   (idx z4.2.2.2.2.1 z4.2.1).bind fun y6 =>
   if geI y6 z4.1 = false then
    if gtI z4.2.1 0 then
     (idx z4.2.2.2.2.1 (J23 .i64 z4.2.1 1)).bind fun y7 =>
     (idx z4.2.2.2.2.1 z4.2.1).bind fun y8 =>
     if geI y7 y8 then
      some (.inr false)
     else
      some (.inl (z4.1, J9 .i64 z4.2.1 1, z4.2.2))
    else
     some (.inl (z4.1, J9 .i64 z4.2.1 1, z4.2.2))
   else
    some (.inr false)
  else
   some (.inr false)
 else
  Option.map .inr (
   Jz (J9t) (0, z4.2.2))
def J9P (z2 : Int × Int × T_api_Device) : Option ((Int × Int × T_api_Device) ⊕ Bool) :=
 if ltI z2.2.1 z2.1 then
  (idx z2.2.2.1 z2.2.1).bind fun y3 =>
  if neI (J5 y3) 256 then
   some (.inr false)
  else
   some (.inl (z2.1, J9 .i64 z2.2.1 1, z2.2.2))
 else
  Option.map .inr (
   Jz (J9H) (z2.1, 0, z2.2.2))
def J01 (x1 : T_api_Device) : Option (Bool) :=
 if ltI (J5 x1.1) 1 = false then
  if gtI (J5 x1.1) 64 = false then
   if ltI x1.2.1 0 = false then
    if gtI x1.2.1 1099511627776 = false then
     if gtI (J5 x1.2.2.2.2) 64 then
      some false
     else
      Jz (J9P) (J5 x1.1, 0, x1)
    else
     some false
   else
    some false
  else
   some false
 else
  some false
theorem Jhy (x) : onO (J00 J1k x) (fun y => J0c (TG.of [sigE J1G J33 J1I]) J6y y.1 y.2 (JJ J1k)) = J01 x := by kernel_rfl
def J18 (x1 : T_api_Device × J6) : Option (T_api_Device × Int) :=
 (J01 x1.1).bind fun y2 =>
 if J0A y2 then
  some (([], 0, [], false, []), 15)
 else
  (J1I (x1.1, x1.2)).bind fun y3 =>
  if J0A y3 then
   some (([], 0, [], false, []), 1)
  else
   if eqI (J5 x1.1.2.2.2.2) 64 then
    some (([], 0, [], false, []), 21)
   else
    (S_ref04_Copy x1.1).bind fun y4 =>
    (J1V 48 y4.2.2.2.2 [x1.2]).bind fun y5 =>
    some ((y4.2.2.2.1, y4.1, y4.2.1, y4.2.2.1, y5), 0)
theorem JfX (x) : onO (J00 J2M x) (fun y => J0c (TG.of [sigE J0f J1k J01, sigE J1G J33 J1I, sigE JR J0G S_ref04_Copy]) J5M y.1 y.2 (JJ J2M)) = J18 x := by kernel_rfl
def J9e (z2 : Int × Int × (List (List UInt8))) : Option ((Int × Int × (List (List UInt8))) ⊕ (List (List UInt8))) :=
 if ltI z2.2.1 z2.1 then
  (mkS 1 256 256 0).bind fun y3 =>
  (J1V 16 z2.2.2 [toStr y3]).bind fun y4 =>
  some (.inl (z2.1, J9 .i64 z2.2.1 1, y4))
 else
  some (.inr z2.2.2)
def J1r (x1 : Int) : Option (List (List UInt8)) :=
 Jz (J9e) (x1, 0, [])
theorem Jg8 (x) : onO (J00 J2K x) (fun y => J0c (TG.of []) J5H y.1 y.2 (JJ J2K)) = J1r x := by kernel_rfl
def J2j (x1 : Int) : Option (T_api_Device × Int) :=
 if ltI x1 1 = false then
  if gtI x1 64 then
   some (([], 0, [], false, []), 1)
  else
   (J1r x1).bind fun y2 =>
   some ((y2, 0, [], false, []), 0)
 else
  some (([], 0, [], false, []), 1)
theorem Jl2 (x) : onO (J00 J49 x) (fun y => J0c (TG.of [sigE J1s J2K J1r]) J85 y.1 y.2 (JJ J49)) = J2j x := by kernel_rfl
def Jbq (z2 : (List Int) × Int × Int) : Option (((List Int) × Int × Int) ⊕ Bool) :=
 if ltI z2.2.2 (J5 z2.1) then
  (idx z2.1 z2.2.2).bind fun y3 =>
  if eqI y3 z2.2.1 then
   some (.inr true)
  else
   some (.inl (z2.1, z2.2.1, J9 .i64 z2.2.2 1))
 else
  some (.inr false)
def J4e (x1 : (List Int) × Int) : Option (Bool) :=
 Jz (Jbq) (x1.1, x1.2, 0)
theorem JkY (x) : onO (J00 J6m x) (fun y => J0c (TG.of []) J82 y.1 y.2 (JJ J6m)) = J4e x := by kernel_rfl
def J0z (x1 : T_api_Device × Int) : Option (Int) :=
 (J01 x1.1).bind fun y2 =>
 if J0A y2 then
  some 15
 else
  if x1.1.2.2.2.1 then
   some 10
  else
   if ltI x1.2 0 = false then
    if geI x1.2 (J5 x1.1.1) then
     some 1
    else
     some 0
   else
    some 1
theorem JfJ (x) : onO (J00 J1K x) (fun y => J0c (TG.of [sigE J0f J1k J01]) J5S y.1 y.2 (JJ J1K)) = J0z x := by kernel_rfl
def J2R (x1 : T_api_Device × Int) : Option ((List UInt8) × Int) :=
 (J0z (x1.1, x1.2)).bind fun y2 =>
 if neI y2 0 then
  some ([], y2)
 else
  (J4e (x1.1.2.2.1, x1.2)).bind fun y3 =>
  if y3 then
   some ([], 11)
  else
   (idx x1.1.1 x1.2).bind fun y4 =>
   some (y4, 0)
theorem JiH (x) : onO (J00 J5E x) (fun y => J0c (TG.of [sigE J0y J1K J0z, sigE J4j J6m J4e]) J7m y.1 y.2 (JJ J5E)) = J2R x := by kernel_rfl
def J8p (z2 : (List Int) × Int × Int × (List Int)) : Option (((List Int) × Int × Int × (List Int)) ⊕ (List Int)) :=
 if ltI z2.2.2.1 (J5 z2.1) then
  (idx z2.1 z2.2.2.1).bind fun y3 =>
  if neI y3 z2.2.1 then
   (idx z2.1 z2.2.2.1).bind fun y4 =>
   (J1V 8 z2.2.2.2 [y4]).bind fun y5 =>
   some (.inl (z2.1, z2.2.1, J9 .i64 z2.2.2.1 1, y5))
  else
   some (.inl (z2.1, z2.2.1, J9 .i64 z2.2.2.1 1, z2.2.2.2))
 else
  some (.inr z2.2.2.2)
def J2o (x1 : (List Int) × Int) : Option (List Int) :=
 Jz (J8p) (x1.1, x1.2, 0, [])
theorem JeH (x) : onO (J00 J43 x) (fun y => J0c (TG.of []) J5f y.1 y.2 (JJ J43)) = J2o x := by kernel_rfl
def J0N (x1 : Int × (List Int) × Bool × Int × (List UInt8) × Int × (List (List UInt8)) × (List J6)) : Option (Int × (List Int) × Bool × (List (List UInt8)) × (List J6)) :=
 (J7E x1.2.2.2.2.1 none (some x1.2.2.2.2.2.1)).bind fun y2 =>
 (inb (List.length x1.2.2.2.2.2.2.1) x1.2.2.2.1).bind fun _ =>
 (lat x1.2.2.2.2.2.2.1 (Int.toNat x1.2.2.2.1)).bind fun y4 =>
 (J7E y4 (some x1.2.2.2.2.2.1) none).bind fun y5 =>
 (JbZ y2 y5).bind fun y6 =>
 (inb (List.length x1.2.2.2.2.2.2.1) x1.2.2.2.1).bind fun _ =>
 (lat x1.2.2.2.2.2.2.1 (Int.toNat x1.2.2.2.1)).bind fun _ =>
 (J2o (x1.2.1, x1.2.2.2.1)).bind fun y9 =>
 some (x1.1, y9, x1.2.2.1, J3n x1.2.2.2.2.2.2.1 (Int.toNat x1.2.2.2.1) y6, x1.2.2.2.2.2.2.2)
theorem JhW (x) : onO (J00 J2Z x) (fun y => J0c (TG.of [sigE J2m J43 J2o]) J6E y.1 y.2 (JJ J2Z)) = J0N x := by kernel_rfl
def Jaq (z2 : (List Int) × Int × Bool × Int × (List Int)) : Option (((List Int) × Int × Bool × Int × (List Int)) ⊕ (List Int)) :=
 if ltI z2.2.2.2.1 (J5 z2.1) then
  if J0A z2.2.2.1 then
   (idx z2.1 z2.2.2.2.1).bind fun y3 =>
   if geI y3 z2.2.1 then
    (J1V 8 z2.2.2.2.2 [z2.2.1]).bind fun y4 =>
    (idx z2.1 z2.2.2.2.1).bind fun y5 =>
    if neI y5 z2.2.1 then
     (idx z2.1 z2.2.2.2.1).bind fun y6 =>
     (J1V 8 y4 [y6]).bind fun y7 =>
     some (.inl (z2.1, z2.2.1, true, J9 .i64 z2.2.2.2.1 1, y7))
    else
     some (.inl (z2.1, z2.2.1, true, J9 .i64 z2.2.2.2.1 1, y4))
   else
    (idx z2.1 z2.2.2.2.1).bind fun y8 =>
    if neI y8 z2.2.1 then
     (idx z2.1 z2.2.2.2.1).bind fun y9 =>
     (J1V 8 z2.2.2.2.2 [y9]).bind fun y10 =>
     some (.inl (z2.1, z2.2.1, z2.2.2.1, J9 .i64 z2.2.2.2.1 1, y10))
    else
     some (.inl (z2.1, z2.2.1, z2.2.2.1, J9 .i64 z2.2.2.2.1 1, z2.2.2.2.2))
  else
   (idx z2.1 z2.2.2.2.1).bind fun y11 =>
   if neI y11 z2.2.1 then
    (idx z2.1 z2.2.2.2.1).bind fun y12 =>
    (J1V 8 z2.2.2.2.2 [y12]).bind fun y13 =>
    some (.inl (z2.1, z2.2.1, z2.2.2.1, J9 .i64 z2.2.2.2.1 1, y13))
   else
    some (.inl (z2.1, z2.2.1, z2.2.2.1, J9 .i64 z2.2.2.2.1 1, z2.2.2.2.2))
 else
  Option.map .inr (
   if J0A z2.2.2.1 then
    (J1V 8 z2.2.2.2.2 [z2.2.1]).bind fun y14 =>
    some y14
   else
    some z2.2.2.2.2)
def J20 (x1 : (List Int) × Int) : Option (List Int) :=
 Jz (Jaq) (x1.1, x1.2, false, 0, [])
theorem JiY (x) : onO (J00 J5v x) (fun y => J0c (TG.of []) J7l y.1 y.2 (JJ J5v)) = J20 x := by kernel_rfl
def J2u (z20 : Int × T_api_Device × (List J6) × (List (List UInt8)) × Int × (List Int) × Bool × (List (List UInt8)) × (List J6) × (List J6) × Int × (List Int) × Bool × (List J6) × (List J6)) : Option ((Int × T_api_Device × (List J6) × (List (List UInt8)) × Int × (List Int) × Bool × (List (List UInt8)) × (List J6) × (List J6) × Int × (List Int) × Bool × (List J6) × (List J6)) ⊕ (T_api_Device × Int)) :=
 if ltI z20.1 (J5 z20.2.2.2.2.2.2.2.2.2.2.2.2.2.1) then
  (inb (List.length z20.2.2.2.2.2.2.2.2.2.2.2.2.2.1) z20.1).bind fun _ =>
  (lat z20.2.2.2.2.2.2.2.2.2.2.2.2.2.1 (Int.toNat z20.1)).bind fun y22 =>
  if eqI y22.1 4 then
   (inb (List.length z20.2.2.2.2.2.2.2.1) y22.2.2.1).bind fun _ =>
   (lat z20.2.2.2.2.2.2.2.1 (Int.toNat y22.2.2.1)).bind fun y24 =>
   (inb (List.length (toByt y24)) y22.2.2.2.2.1).bind fun _ =>
   (lat (toByt y24) (Int.toNat y22.2.2.2.2.1)).bind fun y26 =>
   (inb (List.length (toByt y24)) y22.2.2.2.2.1).bind fun _ =>
   (lat (toByt y24) (Int.toNat y22.2.2.2.2.1)).bind fun _ =>
   (inb (List.length z20.2.2.2.2.2.2.2.1) y22.2.2.1).bind fun _ =>
   (lat z20.2.2.2.2.2.2.2.1 (Int.toNat y22.2.2.1)).bind fun _ =>
   some (.inl (J9 .i64 z20.1 1, z20.2.1, z20.2.2.1, z20.2.2.2.1, z20.2.2.2.2.1, z20.2.2.2.2.2.1, z20.2.2.2.2.2.2.1, J3n z20.2.2.2.2.2.2.2.1 (Int.toNat y22.2.2.1) (toStr (J3n (toByt y24) (Int.toNat y22.2.2.2.2.1) (Jj9 .u8 y26 y22.2.2.2.2.2))), z20.2.2.2.2.2.2.2.2.1, z20.2.2.2.2.2.2.2.2.2.1, z20.2.2.2.2.2.2.2.2.2.2.1, z20.2.2.2.2.2.2.2.2.2.2.2.1, z20.2.2.2.2.2.2.2.2.2.2.2.2.1, z20.2.2.2.2.2.2.2.2.2.2.2.2.2.1, z20.2.2.2.2.2.2.2.2.2.2.2.2.2.2))
  else
   if eqI y22.1 5 then
    (J20 (z20.2.2.2.2.2.2.2.2.2.2.2.1, y22.2.2.1)).bind fun y31 =>
    some (.inl (J9 .i64 z20.1 1, z20.2.1, z20.2.2.1, z20.2.2.2.1, z20.2.2.2.2.1, z20.2.2.2.2.2.1, z20.2.2.2.2.2.2.1, z20.2.2.2.2.2.2.2.1, z20.2.2.2.2.2.2.2.2.1, z20.2.2.2.2.2.2.2.2.2.1, z20.2.2.2.2.2.2.2.2.2.2.1, y31, z20.2.2.2.2.2.2.2.2.2.2.2.2.1, z20.2.2.2.2.2.2.2.2.2.2.2.2.2.1, z20.2.2.2.2.2.2.2.2.2.2.2.2.2.2))
   else
    if eqI y22.1 6 then
     some (.inl (J9 .i64 z20.1 1, z20.2.1, z20.2.2.1, z20.2.2.2.1, z20.2.2.2.2.1, z20.2.2.2.2.2.1, z20.2.2.2.2.2.2.1, z20.2.2.2.2.2.2.2.1, z20.2.2.2.2.2.2.2.2.1, z20.2.2.2.2.2.2.2.2.2.1, z20.2.2.2.2.2.2.2.2.2.2.1, z20.2.2.2.2.2.2.2.2.2.2.2.1, true, z20.2.2.2.2.2.2.2.2.2.2.2.2.2.1, z20.2.2.2.2.2.2.2.2.2.2.2.2.2.2))
    else
     some (.inl (J9 .i64 z20.1 1, z20.2.1, z20.2.2.1, z20.2.2.2.1, z20.2.2.2.2.1, z20.2.2.2.2.2.1, z20.2.2.2.2.2.2.1, z20.2.2.2.2.2.2.2.1, z20.2.2.2.2.2.2.2.2.1, z20.2.2.2.2.2.2.2.2.2.1, z20.2.2.2.2.2.2.2.2.2.2.1, z20.2.2.2.2.2.2.2.2.2.2.2.1, z20.2.2.2.2.2.2.2.2.2.2.2.2.1, z20.2.2.2.2.2.2.2.2.2.2.2.2.2.1, z20.2.2.2.2.2.2.2.2.2.2.2.2.2.2))
 else
  some (.inr ((z20.2.2.2.2.2.2.2.1, z20.2.2.2.2.2.2.2.2.2.2.1, z20.2.2.2.2.2.2.2.2.2.2.2.1, z20.2.2.2.2.2.2.2.2.2.2.2.2.1, z20.2.2.2.2.2.2.2.2.2.2.2.2.2.2), 0))
def J9E (z32 : Int × T_api_Device × (List J6) × (List (List UInt8)) × Int × (List Int) × Bool × (List (List UInt8)) × (List J6) × (List J6) × Int × (List Int) × Bool × (List J6) × (List J6)) : Option ((Int × T_api_Device × (List J6) × (List (List UInt8)) × Int × (List Int) × Bool × (List (List UInt8)) × (List J6) × (List J6) × Int × (List Int) × Bool × (List J6) × (List J6)) ⊕ (T_api_Device × Int)) :=
 if ltI z32.1 (J5 z32.2.2.2.2.2.2.2.2.2.2.2.2.2.1) then
  (inb (List.length z32.2.2.2.2.2.2.2.2.2.2.2.2.2.1) z32.1).bind fun _ =>
  (lat z32.2.2.2.2.2.2.2.2.2.2.2.2.2.1 (Int.toNat z32.1)).bind fun y34 =>
  if eqI y34.1 4 then
   (inb (List.length z32.2.2.2.2.2.2.2.1) y34.2.2.1).bind fun _ =>
   (lat z32.2.2.2.2.2.2.2.1 (Int.toNat y34.2.2.1)).bind fun y36 =>
   (inb (List.length (toByt y36)) y34.2.2.2.2.1).bind fun _ =>
   (lat (toByt y36) (Int.toNat y34.2.2.2.2.1)).bind fun y38 =>
   (inb (List.length (toByt y36)) y34.2.2.2.2.1).bind fun _ =>
   (lat (toByt y36) (Int.toNat y34.2.2.2.2.1)).bind fun _ =>
   (inb (List.length z32.2.2.2.2.2.2.2.1) y34.2.2.1).bind fun _ =>
   (lat z32.2.2.2.2.2.2.2.1 (Int.toNat y34.2.2.1)).bind fun _ =>
   some (.inl (J9 .i64 z32.1 1, z32.2.1, z32.2.2.1, z32.2.2.2.1, z32.2.2.2.2.1, z32.2.2.2.2.2.1, z32.2.2.2.2.2.2.1, J3n z32.2.2.2.2.2.2.2.1 (Int.toNat y34.2.2.1) (toStr (J3n (toByt y36) (Int.toNat y34.2.2.2.2.1) (Jj9 .u8 y38 y34.2.2.2.2.2))), z32.2.2.2.2.2.2.2.2.1, z32.2.2.2.2.2.2.2.2.2.1, z32.2.2.2.2.2.2.2.2.2.2.1, z32.2.2.2.2.2.2.2.2.2.2.2.1, z32.2.2.2.2.2.2.2.2.2.2.2.2.1, z32.2.2.2.2.2.2.2.2.2.2.2.2.2.1, z32.2.2.2.2.2.2.2.2.2.2.2.2.2.2))
  else
   if eqI y34.1 5 then
    (J20 (z32.2.2.2.2.2.2.2.2.2.2.2.1, y34.2.2.1)).bind fun y43 =>
    some (.inl (J9 .i64 z32.1 1, z32.2.1, z32.2.2.1, z32.2.2.2.1, z32.2.2.2.2.1, z32.2.2.2.2.2.1, z32.2.2.2.2.2.2.1, z32.2.2.2.2.2.2.2.1, z32.2.2.2.2.2.2.2.2.1, z32.2.2.2.2.2.2.2.2.2.1, z32.2.2.2.2.2.2.2.2.2.2.1, y43, z32.2.2.2.2.2.2.2.2.2.2.2.2.1, z32.2.2.2.2.2.2.2.2.2.2.2.2.2.1, z32.2.2.2.2.2.2.2.2.2.2.2.2.2.2))
   else
    if eqI y34.1 6 then
     some (.inl (J9 .i64 z32.1 1, z32.2.1, z32.2.2.1, z32.2.2.2.1, z32.2.2.2.2.1, z32.2.2.2.2.2.1, z32.2.2.2.2.2.2.1, z32.2.2.2.2.2.2.2.1, z32.2.2.2.2.2.2.2.2.1, z32.2.2.2.2.2.2.2.2.2.1, z32.2.2.2.2.2.2.2.2.2.2.1, z32.2.2.2.2.2.2.2.2.2.2.2.1, true, z32.2.2.2.2.2.2.2.2.2.2.2.2.2.1, z32.2.2.2.2.2.2.2.2.2.2.2.2.2.2))
    else
     some (.inl (J9 .i64 z32.1 1, z32.2.1, z32.2.2.1, z32.2.2.2.1, z32.2.2.2.2.1, z32.2.2.2.2.2.1, z32.2.2.2.2.2.2.1, z32.2.2.2.2.2.2.2.1, z32.2.2.2.2.2.2.2.2.1, z32.2.2.2.2.2.2.2.2.2.1, z32.2.2.2.2.2.2.2.2.2.2.1, z32.2.2.2.2.2.2.2.2.2.2.2.1, z32.2.2.2.2.2.2.2.2.2.2.2.2.1, z32.2.2.2.2.2.2.2.2.2.2.2.2.2.1, z32.2.2.2.2.2.2.2.2.2.2.2.2.2.2))
 else
  some (.inr ((z32.2.2.2.2.2.2.2.1, z32.2.2.2.2.2.2.2.2.2.2.1, z32.2.2.2.2.2.2.2.2.2.2.2.1, z32.2.2.2.2.2.2.2.2.2.2.2.2.1, z32.2.2.2.2.2.2.2.2.2.2.2.2.2.2), 0))
def J9D (z45 : Int × T_api_Device × (List J6) × (List (List UInt8)) × Int × (List Int) × Bool × (List (List UInt8)) × (List J6) × (List J6) × Int × (List Int) × Bool × (List J6) × (List J6)) : Option ((Int × T_api_Device × (List J6) × (List (List UInt8)) × Int × (List Int) × Bool × (List (List UInt8)) × (List J6) × (List J6) × Int × (List Int) × Bool × (List J6) × (List J6)) ⊕ (T_api_Device × Int)) :=
 if ltI z45.1 (J5 z45.2.2.2.2.2.2.2.2.2.2.2.2.2.1) then
  (inb (List.length z45.2.2.2.2.2.2.2.2.2.2.2.2.2.1) z45.1).bind fun _ =>
  (lat z45.2.2.2.2.2.2.2.2.2.2.2.2.2.1 (Int.toNat z45.1)).bind fun y47 =>
  if eqI y47.1 4 then
   (inb (List.length z45.2.2.2.2.2.2.2.1) y47.2.2.1).bind fun _ =>
   (lat z45.2.2.2.2.2.2.2.1 (Int.toNat y47.2.2.1)).bind fun y49 =>
   (inb (List.length (toByt y49)) y47.2.2.2.2.1).bind fun _ =>
   (lat (toByt y49) (Int.toNat y47.2.2.2.2.1)).bind fun y51 =>
   (inb (List.length (toByt y49)) y47.2.2.2.2.1).bind fun _ =>
   (lat (toByt y49) (Int.toNat y47.2.2.2.2.1)).bind fun _ =>
   (inb (List.length z45.2.2.2.2.2.2.2.1) y47.2.2.1).bind fun _ =>
   (lat z45.2.2.2.2.2.2.2.1 (Int.toNat y47.2.2.1)).bind fun _ =>
   some (.inl (J9 .i64 z45.1 1, z45.2.1, z45.2.2.1, z45.2.2.2.1, z45.2.2.2.2.1, z45.2.2.2.2.2.1, z45.2.2.2.2.2.2.1, J3n z45.2.2.2.2.2.2.2.1 (Int.toNat y47.2.2.1) (toStr (J3n (toByt y49) (Int.toNat y47.2.2.2.2.1) (Jj9 .u8 y51 y47.2.2.2.2.2))), z45.2.2.2.2.2.2.2.2.1, z45.2.2.2.2.2.2.2.2.2.1, z45.2.2.2.2.2.2.2.2.2.2.1, z45.2.2.2.2.2.2.2.2.2.2.2.1, z45.2.2.2.2.2.2.2.2.2.2.2.2.1, z45.2.2.2.2.2.2.2.2.2.2.2.2.2.1, z45.2.2.2.2.2.2.2.2.2.2.2.2.2.2))
  else
   if eqI y47.1 5 then
    (J20 (z45.2.2.2.2.2.2.2.2.2.2.2.1, y47.2.2.1)).bind fun y56 =>
    some (.inl (J9 .i64 z45.1 1, z45.2.1, z45.2.2.1, z45.2.2.2.1, z45.2.2.2.2.1, z45.2.2.2.2.2.1, z45.2.2.2.2.2.2.1, z45.2.2.2.2.2.2.2.1, z45.2.2.2.2.2.2.2.2.1, z45.2.2.2.2.2.2.2.2.2.1, z45.2.2.2.2.2.2.2.2.2.2.1, y56, z45.2.2.2.2.2.2.2.2.2.2.2.2.1, z45.2.2.2.2.2.2.2.2.2.2.2.2.2.1, z45.2.2.2.2.2.2.2.2.2.2.2.2.2.2))
   else
    if eqI y47.1 6 then
     some (.inl (J9 .i64 z45.1 1, z45.2.1, z45.2.2.1, z45.2.2.2.1, z45.2.2.2.2.1, z45.2.2.2.2.2.1, z45.2.2.2.2.2.2.1, z45.2.2.2.2.2.2.2.1, z45.2.2.2.2.2.2.2.2.1, z45.2.2.2.2.2.2.2.2.2.1, z45.2.2.2.2.2.2.2.2.2.2.1, z45.2.2.2.2.2.2.2.2.2.2.2.1, true, z45.2.2.2.2.2.2.2.2.2.2.2.2.2.1, z45.2.2.2.2.2.2.2.2.2.2.2.2.2.2))
    else
     some (.inl (J9 .i64 z45.1 1, z45.2.1, z45.2.2.1, z45.2.2.2.1, z45.2.2.2.2.1, z45.2.2.2.2.2.1, z45.2.2.2.2.2.2.1, z45.2.2.2.2.2.2.2.1, z45.2.2.2.2.2.2.2.2.1, z45.2.2.2.2.2.2.2.2.2.1, z45.2.2.2.2.2.2.2.2.2.2.1, z45.2.2.2.2.2.2.2.2.2.2.2.1, z45.2.2.2.2.2.2.2.2.2.2.2.2.1, z45.2.2.2.2.2.2.2.2.2.2.2.2.2.1, z45.2.2.2.2.2.2.2.2.2.2.2.2.2.2))
 else
  some (.inr ((z45.2.2.2.2.2.2.2.1, z45.2.2.2.2.2.2.2.2.2.2.1, z45.2.2.2.2.2.2.2.2.2.2.2.1, z45.2.2.2.2.2.2.2.2.2.2.2.2.1, z45.2.2.2.2.2.2.2.2.2.2.2.2.2.2), 0))
def J9K (z57 : Int × T_api_Device × (List J6) × (List (List UInt8)) × Int × (List Int) × Bool × (List (List UInt8)) × (List J6) × (List J6) × Int × (List Int) × Bool × (List J6) × (List J6)) : Option ((Int × T_api_Device × (List J6) × (List (List UInt8)) × Int × (List Int) × Bool × (List (List UInt8)) × (List J6) × (List J6) × Int × (List Int) × Bool × (List J6) × (List J6)) ⊕ (T_api_Device × Int)) :=
 if ltI z57.1 (J5 z57.2.2.2.2.2.2.2.2.2.2.2.2.2.1) then
  (inb (List.length z57.2.2.2.2.2.2.2.2.2.2.2.2.2.1) z57.1).bind fun _ =>
  (lat z57.2.2.2.2.2.2.2.2.2.2.2.2.2.1 (Int.toNat z57.1)).bind fun y59 =>
  if eqI y59.1 4 then
   (inb (List.length z57.2.2.2.2.2.2.2.1) y59.2.2.1).bind fun _ =>
   (lat z57.2.2.2.2.2.2.2.1 (Int.toNat y59.2.2.1)).bind fun y61 =>
   (inb (List.length (toByt y61)) y59.2.2.2.2.1).bind fun _ =>
   (lat (toByt y61) (Int.toNat y59.2.2.2.2.1)).bind fun y63 =>
   (inb (List.length (toByt y61)) y59.2.2.2.2.1).bind fun _ =>
   (lat (toByt y61) (Int.toNat y59.2.2.2.2.1)).bind fun _ =>
   (inb (List.length z57.2.2.2.2.2.2.2.1) y59.2.2.1).bind fun _ =>
   (lat z57.2.2.2.2.2.2.2.1 (Int.toNat y59.2.2.1)).bind fun _ =>
   some (.inl (J9 .i64 z57.1 1, z57.2.1, z57.2.2.1, z57.2.2.2.1, z57.2.2.2.2.1, z57.2.2.2.2.2.1, z57.2.2.2.2.2.2.1, J3n z57.2.2.2.2.2.2.2.1 (Int.toNat y59.2.2.1) (toStr (J3n (toByt y61) (Int.toNat y59.2.2.2.2.1) (Jj9 .u8 y63 y59.2.2.2.2.2))), z57.2.2.2.2.2.2.2.2.1, z57.2.2.2.2.2.2.2.2.2.1, z57.2.2.2.2.2.2.2.2.2.2.1, z57.2.2.2.2.2.2.2.2.2.2.2.1, z57.2.2.2.2.2.2.2.2.2.2.2.2.1, z57.2.2.2.2.2.2.2.2.2.2.2.2.2.1, z57.2.2.2.2.2.2.2.2.2.2.2.2.2.2))
  else
   if eqI y59.1 5 then
    (J20 (z57.2.2.2.2.2.2.2.2.2.2.2.1, y59.2.2.1)).bind fun y68 =>
    some (.inl (J9 .i64 z57.1 1, z57.2.1, z57.2.2.1, z57.2.2.2.1, z57.2.2.2.2.1, z57.2.2.2.2.2.1, z57.2.2.2.2.2.2.1, z57.2.2.2.2.2.2.2.1, z57.2.2.2.2.2.2.2.2.1, z57.2.2.2.2.2.2.2.2.2.1, z57.2.2.2.2.2.2.2.2.2.2.1, y68, z57.2.2.2.2.2.2.2.2.2.2.2.2.1, z57.2.2.2.2.2.2.2.2.2.2.2.2.2.1, z57.2.2.2.2.2.2.2.2.2.2.2.2.2.2))
   else
    if eqI y59.1 6 then
     some (.inl (J9 .i64 z57.1 1, z57.2.1, z57.2.2.1, z57.2.2.2.1, z57.2.2.2.2.1, z57.2.2.2.2.2.1, z57.2.2.2.2.2.2.1, z57.2.2.2.2.2.2.2.1, z57.2.2.2.2.2.2.2.2.1, z57.2.2.2.2.2.2.2.2.2.1, z57.2.2.2.2.2.2.2.2.2.2.1, z57.2.2.2.2.2.2.2.2.2.2.2.1, true, z57.2.2.2.2.2.2.2.2.2.2.2.2.2.1, z57.2.2.2.2.2.2.2.2.2.2.2.2.2.2))
    else
     some (.inl (J9 .i64 z57.1 1, z57.2.1, z57.2.2.1, z57.2.2.2.1, z57.2.2.2.2.1, z57.2.2.2.2.2.1, z57.2.2.2.2.2.2.1, z57.2.2.2.2.2.2.2.1, z57.2.2.2.2.2.2.2.2.1, z57.2.2.2.2.2.2.2.2.2.1, z57.2.2.2.2.2.2.2.2.2.2.1, z57.2.2.2.2.2.2.2.2.2.2.2.1, z57.2.2.2.2.2.2.2.2.2.2.2.2.1, z57.2.2.2.2.2.2.2.2.2.2.2.2.2.1, z57.2.2.2.2.2.2.2.2.2.2.2.2.2.2))
 else
  some (.inr ((z57.2.2.2.2.2.2.2.1, z57.2.2.2.2.2.2.2.2.2.2.1, z57.2.2.2.2.2.2.2.2.2.2.2.1, z57.2.2.2.2.2.2.2.2.2.2.2.2.1, z57.2.2.2.2.2.2.2.2.2.2.2.2.2.2), 0))
def J7i (z10 : Int × (List UInt8) × Bool × Int × T_api_Device × (List J6) × (List (List UInt8)) × Int × (List Int) × Bool × (List (List UInt8)) × (List J6) × (List J6) × Int × (List Int) × Bool × (List J6) × (List J6)) : Option ((Int × (List UInt8) × Bool × Int × T_api_Device × (List J6) × (List (List UInt8)) × Int × (List Int) × Bool × (List (List UInt8)) × (List J6) × (List J6) × Int × (List Int) × Bool × (List J6) × (List J6)) ⊕ (T_api_Device × Int)) :=
 if ltI z10.2.2.2.1 (J5 z10.2.2.2.2.2.2.2.2.2.2.2.2.2.2.2.2.1) then
  if J0A z10.2.2.1 then
   (inb (List.length z10.2.2.2.2.2.2.2.2.2.2.2.2.2.2.2.2.1) z10.2.2.2.1).bind fun _ =>
   (lat z10.2.2.2.2.2.2.2.2.2.2.2.2.2.2.2.2.1 (Int.toNat z10.2.2.2.1)).bind fun y12 =>
   if eqI y12.1 1 then
    some (.inl (z10.1, z10.2.1, true, J9 .i64 z10.2.2.2.1 1, z10.2.2.2.2.1, z10.2.2.2.2.2.1, z10.2.2.2.2.2.2.1, z10.2.2.2.2.2.2.2.1, z10.2.2.2.2.2.2.2.2.1, z10.2.2.2.2.2.2.2.2.2.1, z10.2.2.2.2.2.2.2.2.2.2.1, z10.2.2.2.2.2.2.2.2.2.2.2.1, z10.2.2.2.2.2.2.2.2.2.2.2.2.1, z10.2.2.2.2.2.2.2.2.2.2.2.2.2.1, z10.2.2.2.2.2.2.2.2.2.2.2.2.2.2.1, z10.2.2.2.2.2.2.2.2.2.2.2.2.2.2.2.1, z10.2.2.2.2.2.2.2.2.2.2.2.2.2.2.2.2.1, z10.2.2.2.2.2.2.2.2.2.2.2.2.2.2.2.2.2))
   else
    if eqI y12.1 2 then
     (inb (List.length z10.2.2.2.2.2.2.2.2.2.2.2.2.2.2.2.2.1) z10.2.2.2.1).bind fun _ =>
     (lat z10.2.2.2.2.2.2.2.2.2.2.2.2.2.2.2.2.1 (Int.toNat z10.2.2.2.1)).bind fun y14 =>
     (J0N (z10.2.2.2.2.2.2.2.2.2.2.2.2.2.1, z10.2.2.2.2.2.2.2.2.2.2.2.2.2.2.1, z10.2.2.2.2.2.2.2.2.2.2.2.2.2.2.2.1, y14.2.2.2.1, z10.2.1, 256, z10.2.2.2.2.2.2.2.2.2.2.1, z10.2.2.2.2.2.2.2.2.2.2.2.2.2.2.2.2.2)).bind fun y15 =>
     some (.inl (z10.1, z10.2.1, true, J9 .i64 z10.2.2.2.1 1, z10.2.2.2.2.1, z10.2.2.2.2.2.1, z10.2.2.2.2.2.2.1, z10.2.2.2.2.2.2.2.1, z10.2.2.2.2.2.2.2.2.1, z10.2.2.2.2.2.2.2.2.2.1, y15.2.2.2.1, z10.2.2.2.2.2.2.2.2.2.2.2.1, z10.2.2.2.2.2.2.2.2.2.2.2.2.1, y15.1, y15.2.1, y15.2.2.1, z10.2.2.2.2.2.2.2.2.2.2.2.2.2.2.2.2.1, y15.2.2.2.2))
    else
     if eqI y12.1 3 then
      (inb (List.length z10.2.2.2.2.2.2.2.2.2.2.2.2.2.2.2.2.1) z10.2.2.2.1).bind fun _ =>
      (lat z10.2.2.2.2.2.2.2.2.2.2.2.2.2.2.2.2.1 (Int.toNat z10.2.2.2.1)).bind fun y17 =>
      (J0N (z10.2.2.2.2.2.2.2.2.2.2.2.2.2.1, z10.2.2.2.2.2.2.2.2.2.2.2.2.2.2.1, z10.2.2.2.2.2.2.2.2.2.2.2.2.2.2.2.1, z10.1, z10.2.1, y17.2.2.2.2.1, z10.2.2.2.2.2.2.2.2.2.2.1, z10.2.2.2.2.2.2.2.2.2.2.2.2.2.2.2.2.2)).bind fun y18 =>
      some (.inl (z10.1, z10.2.1, true, J9 .i64 z10.2.2.2.1 1, z10.2.2.2.2.1, z10.2.2.2.2.2.1, z10.2.2.2.2.2.2.1, z10.2.2.2.2.2.2.2.1, z10.2.2.2.2.2.2.2.2.1, z10.2.2.2.2.2.2.2.2.2.1, y18.2.2.2.1, z10.2.2.2.2.2.2.2.2.2.2.2.1, z10.2.2.2.2.2.2.2.2.2.2.2.2.1, y18.1, y18.2.1, y18.2.2.1, z10.2.2.2.2.2.2.2.2.2.2.2.2.2.2.2.2.1, y18.2.2.2.2))
     else
      some (.inl (z10.1, z10.2.1, z10.2.2.1, J9 .i64 z10.2.2.2.1 1, z10.2.2.2.2.1, z10.2.2.2.2.2.1, z10.2.2.2.2.2.2.1, z10.2.2.2.2.2.2.2.1, z10.2.2.2.2.2.2.2.2.1, z10.2.2.2.2.2.2.2.2.2.1, z10.2.2.2.2.2.2.2.2.2.2.1, z10.2.2.2.2.2.2.2.2.2.2.2.1, z10.2.2.2.2.2.2.2.2.2.2.2.2.1, z10.2.2.2.2.2.2.2.2.2.2.2.2.2.1, z10.2.2.2.2.2.2.2.2.2.2.2.2.2.2.1, z10.2.2.2.2.2.2.2.2.2.2.2.2.2.2.2.1, z10.2.2.2.2.2.2.2.2.2.2.2.2.2.2.2.2.1, z10.2.2.2.2.2.2.2.2.2.2.2.2.2.2.2.2.2))
  else
   Option.map .inr (
    if J0A z10.2.2.1 then
     (J0N (z10.2.2.2.2.2.2.2.2.2.2.2.2.2.1, z10.2.2.2.2.2.2.2.2.2.2.2.2.2.2.1, z10.2.2.2.2.2.2.2.2.2.2.2.2.2.2.2.1, z10.1, z10.2.1, 256, z10.2.2.2.2.2.2.2.2.2.2.1, z10.2.2.2.2.2.2.2.2.2.2.2.2.2.2.2.2.2)).bind fun y19 =>
     Jz (J2u) (0, z10.2.2.2.2.1, z10.2.2.2.2.2.1, z10.2.2.2.2.2.2.1, z10.2.2.2.2.2.2.2.1, z10.2.2.2.2.2.2.2.2.1, z10.2.2.2.2.2.2.2.2.2.1, y19.2.2.2.1, z10.2.2.2.2.2.2.2.2.2.2.2.1, z10.2.2.2.2.2.2.2.2.2.2.2.2.1, y19.1, y19.2.1, y19.2.2.1, z10.2.2.2.2.2.2.2.2.2.2.2.2.2.2.2.2.1, y19.2.2.2.2)
    else
     Jz (J9E) (0, z10.2.2.2.2.1, z10.2.2.2.2.2.1, z10.2.2.2.2.2.2.1, z10.2.2.2.2.2.2.2.1, z10.2.2.2.2.2.2.2.2.1, z10.2.2.2.2.2.2.2.2.2.1, z10.2.2.2.2.2.2.2.2.2.2.1, z10.2.2.2.2.2.2.2.2.2.2.2.1, z10.2.2.2.2.2.2.2.2.2.2.2.2.1, z10.2.2.2.2.2.2.2.2.2.2.2.2.2.1, z10.2.2.2.2.2.2.2.2.2.2.2.2.2.2.1, z10.2.2.2.2.2.2.2.2.2.2.2.2.2.2.2.1, z10.2.2.2.2.2.2.2.2.2.2.2.2.2.2.2.2.1, z10.2.2.2.2.2.2.2.2.2.2.2.2.2.2.2.2.2))
 else
  Option.map .inr (
   if J0A z10.2.2.1 then
    (J0N (z10.2.2.2.2.2.2.2.2.2.2.2.2.2.1, z10.2.2.2.2.2.2.2.2.2.2.2.2.2.2.1, z10.2.2.2.2.2.2.2.2.2.2.2.2.2.2.2.1, z10.1, z10.2.1, 256, z10.2.2.2.2.2.2.2.2.2.2.1, z10.2.2.2.2.2.2.2.2.2.2.2.2.2.2.2.2.2)).bind fun y44 =>
    Jz (J9D) (0, z10.2.2.2.2.1, z10.2.2.2.2.2.1, z10.2.2.2.2.2.2.1, z10.2.2.2.2.2.2.2.1, z10.2.2.2.2.2.2.2.2.1, z10.2.2.2.2.2.2.2.2.2.1, y44.2.2.2.1, z10.2.2.2.2.2.2.2.2.2.2.2.1, z10.2.2.2.2.2.2.2.2.2.2.2.2.1, y44.1, y44.2.1, y44.2.2.1, z10.2.2.2.2.2.2.2.2.2.2.2.2.2.2.2.2.1, y44.2.2.2.2)
   else
    Jz (J9K) (0, z10.2.2.2.2.1, z10.2.2.2.2.2.1, z10.2.2.2.2.2.2.1, z10.2.2.2.2.2.2.2.1, z10.2.2.2.2.2.2.2.2.1, z10.2.2.2.2.2.2.2.2.2.1, z10.2.2.2.2.2.2.2.2.2.2.1, z10.2.2.2.2.2.2.2.2.2.2.2.1, z10.2.2.2.2.2.2.2.2.2.2.2.2.1, z10.2.2.2.2.2.2.2.2.2.2.2.2.2.1, z10.2.2.2.2.2.2.2.2.2.2.2.2.2.2.1, z10.2.2.2.2.2.2.2.2.2.2.2.2.2.2.2.1, z10.2.2.2.2.2.2.2.2.2.2.2.2.2.2.2.2.1, z10.2.2.2.2.2.2.2.2.2.2.2.2.2.2.2.2.2))
def J7r (z4 : Int × (List UInt8) × Int × T_api_Device × (List J6) × (List (List UInt8)) × Int × (List Int) × Bool × (List (List UInt8)) × (List J6) × (List J6) × Int × (List Int) × Bool × (List J6) × (List J6)) : Option ((Int × (List UInt8) × Int × T_api_Device × (List J6) × (List (List UInt8)) × Int × (List Int) × Bool × (List (List UInt8)) × (List J6) × (List J6) × Int × (List Int) × Bool × (List J6) × (List J6)) ⊕ (T_api_Device × Int)) :=
 if ltI z4.2.2.1 (J5 z4.2.2.2.1.2.2.2.2) then
  (idx z4.2.2.2.1.2.2.2.2 z4.2.2.1).bind fun y5 =>
  if eqI y5.2.1 z4.2.2.2.2.2.2.2.2.2.2.2.2.1 then
   (idx z4.2.2.2.1.2.2.2.2 z4.2.2.1).bind fun y6 =>
   (J1V 48 z4.2.2.2.2.2.2.2.2.2.2.2.2.2.2.2.1 [y6]).bind fun y7 =>
   some (.inl (z4.1, z4.2.1, J9 .i64 z4.2.2.1 1, z4.2.2.2.1, z4.2.2.2.2.1, z4.2.2.2.2.2.1, z4.2.2.2.2.2.2.1, z4.2.2.2.2.2.2.2.1, z4.2.2.2.2.2.2.2.2.1, z4.2.2.2.2.2.2.2.2.2.1, z4.2.2.2.2.2.2.2.2.2.2.1, z4.2.2.2.2.2.2.2.2.2.2.2.1, z4.2.2.2.2.2.2.2.2.2.2.2.2.1, z4.2.2.2.2.2.2.2.2.2.2.2.2.2.1, z4.2.2.2.2.2.2.2.2.2.2.2.2.2.2.1, y7, z4.2.2.2.2.2.2.2.2.2.2.2.2.2.2.2.2))
  else
   (idx z4.2.2.2.1.2.2.2.2 z4.2.2.1).bind fun y8 =>
   (J1V 48 z4.2.2.2.2.2.2.2.2.2.2.2.2.2.2.2.2 [y8]).bind fun y9 =>
   some (.inl (z4.1, z4.2.1, J9 .i64 z4.2.2.1 1, z4.2.2.2.1, z4.2.2.2.2.1, z4.2.2.2.2.2.1, z4.2.2.2.2.2.2.1, z4.2.2.2.2.2.2.2.1, z4.2.2.2.2.2.2.2.2.1, z4.2.2.2.2.2.2.2.2.2.1, z4.2.2.2.2.2.2.2.2.2.2.1, z4.2.2.2.2.2.2.2.2.2.2.2.1, z4.2.2.2.2.2.2.2.2.2.2.2.2.1, z4.2.2.2.2.2.2.2.2.2.2.2.2.2.1, z4.2.2.2.2.2.2.2.2.2.2.2.2.2.2.1, z4.2.2.2.2.2.2.2.2.2.2.2.2.2.2.2.1, y9))
 else
  Option.map .inr (
   Jz (J7i) (z4.1, z4.2.1, false, 0, z4.2.2.2.1, z4.2.2.2.2.1, z4.2.2.2.2.2.1, z4.2.2.2.2.2.2.1, z4.2.2.2.2.2.2.2.1, z4.2.2.2.2.2.2.2.2.1, z4.2.2.2.2.2.2.2.2.2.1, z4.2.2.2.2.2.2.2.2.2.2.1, z4.2.2.2.2.2.2.2.2.2.2.2.1, z4.2.2.2.2.2.2.2.2.2.2.2.2.1, z4.2.2.2.2.2.2.2.2.2.2.2.2.2.1, z4.2.2.2.2.2.2.2.2.2.2.2.2.2.2.1, z4.2.2.2.2.2.2.2.2.2.2.2.2.2.2.2.1, z4.2.2.2.2.2.2.2.2.2.2.2.2.2.2.2.2))
def J0F (x1 : T_api_Device × Int × (List UInt8)) : Option (T_api_Device × Int) :=
 (J0z (x1.1, x1.2.1)).bind fun y2 =>
 if neI y2 0 then
  some (([], 0, [], false, []), y2)
 else
  if neI (J5 x1.2.2) 256 then
   some (([], 0, [], false, []), 2)
  else
   if eqI x1.1.2.1 1099511627776 then
    some (([], 0, [], false, []), 21)
   else
    (S_ref04_Copy x1.1).bind fun y3 =>
    Jz (J7r) (x1.2.1, x1.2.2, 0, x1.1, [], [], 0, [], false, y3.2.2.2.1, y3.2.2.2.2, [], J9 .i64 y3.1 1, y3.2.1, y3.2.2.1, [], [])
theorem JhX (x) : onO (J00 J32 x) (fun y => J0c (TG.of [sigE J0y J1K J0z, sigE JR J0G S_ref04_Copy, sigE J13 J2Z J0N, sigE J3u J5v J20]) J6B y.1 y.2 (JJ J32)) = J0F x := by kernel_rfl
def J0S (x1 : T_api_Device) : Option (T_api_Device × Int) :=
 (JQ x1).bind fun y2 =>
 if J0A y2 then
  some (([], 0, [], false, []), 15)
 else
  (J1n (J5 x1.1)).bind fun y3 =>
  (JO x1.2.2.2.2).bind fun y4 =>
  some ((y3, x1.2.1, [], false, y4), 0)
theorem Jel (x) : onO (J00 J3C x) (fun y => J0c (TG.of [sigE J05 J17 JQ, sigE J1o J2J J1n, sigE Jq J0q JO]) J4O y.1 y.2 (JJ J3C)) = J0S x := by kernel_rfl
def J4s (x : T_api_Device × Int × (List UInt8)) : Option (T_api_Device) := Jj7 x
def J2C (x1 : T_api_Device × Int × (List UInt8) × Int) : Option (T_api_Device × Int) :=
 (J0n (x1.1, x1.2.1)).bind fun y2 =>
 if neI y2 0 then
  some (([], 0, [], false, []), y2)
 else
  if ltI x1.2.2.2 0 = false then
   if gtI x1.2.2.2 256 then
    some (([], 0, [], false, []), 1)
   else
    if neI (J5 x1.2.2.1) 256 then
     some (([], 0, [], false, []), 2)
    else
     (J7E x1.2.2.1 none (some x1.2.2.2)).bind fun y3 =>
     (idx x1.1.1 x1.2.1).bind fun y4 =>
     (J7E y4 (some x1.2.2.2) none).bind fun y5 =>
     (JbZ y3 y5).bind fun y6 =>
     (J4s (x1.1, x1.2.1, y6)).bind fun y7 =>
     some (y7, 0)
  else
   some (([], 0, [], false, []), 1)
theorem JhI (x) : onO (J00 J4Z x) (fun y => J0c (TG.of [sigE J1a J2x J0n, sigE J4r J9f J4s]) J6v y.1 y.2 (JJ J4Z)) = J2C x := by kernel_rfl
def J1X (z6 : Int × Int × T_pagemenddraw_Codes × (List Int)) : Option ((Int × Int × T_pagemenddraw_Codes × (List Int)) ⊕ ((List UInt8) × T_pagemenddraw_Codes)) :=
 if ltI z6.2.1 z6.1 then
  (S_draw_Codes_Next (3, z6.2.2.1)).bind fun y7 =>
  (J1V 1 z6.2.2.2 [cvI .u8 (J9 .i64 97 y7.1)]).bind fun y8 =>
  some (.inl (z6.1, J9 .i64 z6.2.1 1, y7.2, y8))
 else
  some (.inr (toStr z6.2.2.2, z6.2.2.1))
def J3F (z10 : Int × Int × T_pagemenddraw_Codes × (List Int)) : Option ((Int × Int × T_pagemenddraw_Codes × (List Int)) ⊕ ((List UInt8) × T_pagemenddraw_Codes)) :=
 if ltI z10.2.1 z10.1 then
  (S_draw_Codes_Next (3, z10.2.2.1)).bind fun y11 =>
  (J1V 1 z10.2.2.2 [cvI .u8 (J9 .i64 97 y11.1)]).bind fun y12 =>
  some (.inl (z10.1, J9 .i64 z10.2.1 1, y11.2, y12))
 else
  some (.inr (toStr z10.2.2.2, z10.2.2.1))
def S_draw_Codes_Data (x1 : T_pagemenddraw_Codes) : Option ((List UInt8) × T_pagemenddraw_Codes) :=
 (S_draw_Codes_Next (5, x1)).bind fun y2 =>
 (S_draw_Codes_Next (6, y2.2)).bind fun y3 =>
 if eqI y3.1 0 then
  (S_draw_Codes_Next (14, y3.2)).bind fun y4 =>
  (mkS 1 0 y4.1 0).bind fun y5 =>
  Jz (J1X) (y4.1, 0, y4.2, y5)
 else
  (mkS 1 0 y2.1 0).bind fun y9 =>
  Jz (J3F) (y2.1, 0, y3.2, y9)
theorem J6f (x) : onO (J00 J0r x) (fun y => J0c (TG.of [sigE i_draw_Codes_Next g_draw_Codes_Next S_draw_Codes_Next]) J12 y.1 y.2 (JJ J0r)) = S_draw_Codes_Data x := by kernel_rfl
def J75 (z5 : Int × T_pagemenddraw_Codes × T_api_Device × T_api_Device) : Option ((Int × T_pagemenddraw_Codes × T_api_Device × T_api_Device) ⊕ (T_api_Device × T_pagemenddraw_Codes)) :=
 if gtI z5.1 0 then
  (S_draw_Codes_Fault (J5 z5.2.2.2.1, z5.2.2.2.2.1, z5.2.1)).bind fun y6 =>
  (J18 (z5.2.2.2, y6.1)).bind fun y7 =>
  if eqI y7.2 0 then
   (S_draw_Codes_Next (2, y6.2)).bind fun y8 =>
   if eqI y8.1 0 then
    (S_draw_Codes_Next (J5 y7.1.1, y8.2)).bind fun y9 =>
    (J08 y9.2).bind fun y10 =>
    (J0F (y7.1, y9.1, y10.1)).bind fun y11 =>
    if eqI y11.2 0 then
     some (.inl (J23 .i64 z5.1 1, y10.2, z5.2.2.1, y11.1))
    else
     some (.inl (J23 .i64 z5.1 1, y10.2, z5.2.2.1, y7.1))
   else
    (S_draw_Codes_Next (J5 z5.2.2.2.1, y8.2)).bind fun y12 =>
    (J08 y12.2).bind fun y13 =>
    (J0F (z5.2.2.2, y12.1, y13.1)).bind fun y14 =>
    if eqI y14.2 0 then
     some (.inl (J23 .i64 z5.1 1, y13.2, z5.2.2.1, y14.1))
    else
     some (.inl (J23 .i64 z5.1 1, y13.2, z5.2.2.1, z5.2.2.2))
  else
   (S_draw_Codes_Next (J5 z5.2.2.2.1, y6.2)).bind fun y15 =>
   (J08 y15.2).bind fun y16 =>
   (J0F (z5.2.2.2, y15.1, y16.1)).bind fun y17 =>
   if eqI y17.2 0 then
    some (.inl (J23 .i64 z5.1 1, y16.2, z5.2.2.1, y17.1))
   else
    some (.inl (J23 .i64 z5.1 1, y16.2, z5.2.2.1, z5.2.2.2))
 else
  some (.inr (z5.2.2.2, z5.2.1))
def J1u (x1 : T_pagemenddraw_Codes) : Option (T_api_Device × T_pagemenddraw_Codes) :=
 (S_draw_Codes_Next (4, x1)).bind fun y2 =>
 (J2j (J9 .i64 1 y2.1)).bind fun y3 =>
 (S_draw_Codes_Next (6, y2.2)).bind fun y4 =>
 Jz (J75) (y4.1, y4.2, ([], 0, [], false, []), y3.1)
theorem Jbx (x) : onO (J00 J2H x) (fun y => J0c (TG.of [sigE i_draw_Codes_Next g_draw_Codes_Next S_draw_Codes_Next, sigE J2k J49 J2j, sigE Jy JX S_draw_Codes_Fault, sigE J1q J2M J18, sigE J0x J1F J08, sigE J1J J32 J0F]) J3G y.1 y.2 (JJ J2H)) = J1u x := by kernel_rfl
def S_law04_odd (x : T_api_Device × T_pagemenddraw_Codes) : Option (T_api_Device × T_pagemenddraw_Codes) := Jpq x
def J27 (x1 : T_api_Device) : Option (Bool) :=
 if leI (J5 x1.1) 70 then
  if leI (J5 x1.2.2.1) 70 then
   some (leI (J5 x1.2.2.2.2) 70)
  else
   some false
 else
  some false
theorem Ji1 (x) : onO (J00 J4Y x) (fun y => J0c (TG.of []) J6x y.1 y.2 (JJ J4Y)) = J27 x := by kernel_rfl
def J1W (x1 : T_api_Device) : Option (T_api_Device × Int) :=
 (J01 x1).bind fun y2 =>
 if J0A y2 then
  some (([], 0, [], false, []), 15)
 else
  (J1r (J5 x1.1)).bind fun y3 =>
  (cloS 48 x1.2.2.2.2).bind fun y4 =>
  some ((y3, x1.2.1, [], false, y4), 0)
theorem Jfu (x) : onO (J00 J3T x) (fun y => J0c (TG.of [sigE J0f J1k J01, sigE J1s J2K J1r]) J5c y.1 y.2 (JJ J3T)) = J1W x := by kernel_rfl
def JaN (z8 : Int × T_api_Device × T_api_Device) : Option ((Int × T_api_Device × T_api_Device) ⊕ Bool) :=
 if ltI z8.1 (J5 z8.2.1.2.2.2.2) then
  (idx z8.2.1.2.2.2.2 z8.1).bind fun y9 =>
  (idx z8.2.2.2.2.2.2 z8.1).bind fun y10 =>
  if J0A (eqT J4 y9 y10) then
   some (.inr false)
  else
   some (.inl (J9 .i64 z8.1 1, z8.2.1, z8.2.2))
 else
  some (.inr true)
def Jae (z5 : Int × T_api_Device × T_api_Device) : Option ((Int × T_api_Device × T_api_Device) ⊕ Bool) :=
 if ltI z5.1 (J5 z5.2.1.2.2.1) then
  (idx z5.2.1.2.2.1 z5.1).bind fun y6 =>
  (idx z5.2.2.2.2.1 z5.1).bind fun y7 =>
  if neI y6 y7 then
   some (.inr false)
  else
   some (.inl (J9 .i64 z5.1 1, z5.2.1, z5.2.2))
 else
  Option.map .inr (
   Jz (JaN) (0, z5.2.1, z5.2.2))
def JaF (z2 : Int × T_api_Device × T_api_Device) : Option ((Int × T_api_Device × T_api_Device) ⊕ Bool) :=
 if ltI z2.1 (J5 z2.2.1.1) then
  (idx z2.2.1.1 z2.1).bind fun y3 =>
  (idx z2.2.2.1 z2.1).bind fun y4 =>
  if neS y3 y4 then
   some (.inr false)
  else
   some (.inl (J9 .i64 z2.1 1, z2.2.1, z2.2.2))
 else
  Option.map .inr (
   Jz (Jae) (0, z2.2.1, z2.2.2))
def J0s (x1 : T_api_Device × T_api_Device) : Option (Bool) :=
 if neI (J5 x1.1.1) (J5 x1.2.1) = false then
  if neI x1.1.2.1 x1.2.2.1 = false then
   if J0A (eqB x1.1.2.2.2.1 x1.2.2.2.2.1) = false then
    if neI (J5 x1.1.2.2.1) (J5 x1.2.2.2.1) = false then
     if neI (J5 x1.1.2.2.2.2) (J5 x1.2.2.2.2.2) then
      some false
     else
      Jz (JaF) (0, x1.1, x1.2)
    else
     some false
   else
    some false
  else
   some false
 else
  some false
theorem JiO (x) : onO (J00 J5i x) (fun y => J0c (TG.of []) J7b y.1 y.2 (JJ J5i)) = J0s x := by kernel_rfl
def J2T (x1 : T_api_Device × Int × (List UInt8) × Int) : Option (T_api_Device × Int) :=
 (J0z (x1.1, x1.2.1)).bind fun y2 =>
 if neI y2 0 then
  some (([], 0, [], false, []), y2)
 else
  if ltI x1.2.2.2 0 = false then
   if gtI x1.2.2.2 256 then
    some (([], 0, [], false, []), 1)
   else
    if neI (J5 x1.2.2.1) 256 then
     some (([], 0, [], false, []), 2)
    else
     (S_ref04_Copy x1.1).bind fun y3 =>
     (J0N (y3.1, y3.2.1, y3.2.2.1, x1.2.1, x1.2.2.1, x1.2.2.2, y3.2.2.2.1, y3.2.2.2.2)).bind fun y4 =>
     some ((y4.2.2.2.1, y4.1, y4.2.1, y4.2.2.1, y4.2.2.2.2), 0)
  else
   some (([], 0, [], false, []), 1)
theorem JiD (x) : onO (J00 J5B x) (fun y => J0c (TG.of [sigE J0y J1K J0z, sigE JR J0G S_ref04_Copy, sigE J13 J2Z J0N]) J7y y.1 y.2 (JJ J5B)) = J2T x := by kernel_rfl
def J4y (z29 : Int × Int × (List UInt8) × (List T_api_Device) × Int × Int × (List Int) × Int × Int × T_api_Device × J6 × T_pagemenddraw_Codes × T_api_Device × T_api_Device × T_api_Device × T_api_Device × T_api_Device × T_api_Device) : Option ((Int × Int × (List UInt8) × (List T_api_Device) × Int × Int × (List Int) × Int × Int × T_api_Device × J6 × T_pagemenddraw_Codes × T_api_Device × T_api_Device × T_api_Device × T_api_Device × T_api_Device × T_api_Device) ⊕ ((Int × (List T_api_Device) × Int × Int × T_api_Device × J6 × T_pagemenddraw_Codes × T_api_Device × T_api_Device × T_api_Device) ⊕ Bool)) :=
 if ltI z29.2.2.2.2.2.2.2.2.1 z29.2.2.2.2.2.2.2.1 then
  (idx z29.2.2.2.2.2.2.1 z29.2.2.2.2.2.2.2.2.1).bind fun y30 =>
  (J2C (z29.2.2.2.2.2.2.2.2.2.2.2.2.2.2.2.1, z29.2.1, z29.2.2.1, y30)).bind fun y31 =>
  (J2T (z29.2.2.2.2.2.2.2.2.2.2.2.2.2.2.2.1, z29.2.1, z29.2.2.1, y30)).bind fun y32 =>
  if neI y31.2 y32.2 = false then
   (J0s (y31.1, y32.1)).bind fun y33 =>
   if J0A y33 then
    Option.map .inr (
     some (.inr false))
   else
    some (.inl (z29.1, z29.2.1, z29.2.2.1, z29.2.2.2.1, z29.2.2.2.2.1, z29.2.2.2.2.2.1, z29.2.2.2.2.2.2.1, z29.2.2.2.2.2.2.2.1, J9 .i64 z29.2.2.2.2.2.2.2.2.1 1, z29.2.2.2.2.2.2.2.2.2.1, z29.2.2.2.2.2.2.2.2.2.2.1, z29.2.2.2.2.2.2.2.2.2.2.2.1, z29.2.2.2.2.2.2.2.2.2.2.2.2.1, z29.2.2.2.2.2.2.2.2.2.2.2.2.2.1, z29.2.2.2.2.2.2.2.2.2.2.2.2.2.2.1, z29.2.2.2.2.2.2.2.2.2.2.2.2.2.2.2.1, y31.1, y32.1))
  else
   Option.map .inr (
    some (.inr false))
 else
  Option.map .inr (
   (J0S z29.2.2.2.2.2.2.2.2.2.2.2.2.2.2.2.1).bind fun y34 =>
   (J1W z29.2.2.2.2.2.2.2.2.2.2.2.2.2.2.2.1).bind fun y35 =>
   (J1i (z29.2.2.2.2.2.2.2.2.2.2.2.2.2.2.2.1, z29.2.1)).bind fun y36 =>
   (J2R (z29.2.2.2.2.2.2.2.2.2.2.2.2.2.2.2.1, z29.2.1)).bind fun y37 =>
   if neI y34.2 y35.2 = false then
    (J0s (y34.1, y35.1)).bind fun y38 =>
    if J0A y38 = false then
     if neS y36.1 y37.1 = false then
      if neI y36.2 y37.2 then
       some (.inr false)
      else
       some (.inl (z29.1, z29.2.2.2.1, z29.2.2.2.2.1, J9 .i64 z29.2.2.2.2.2.1 1, z29.2.2.2.2.2.2.2.2.2.1, z29.2.2.2.2.2.2.2.2.2.2.1, z29.2.2.2.2.2.2.2.2.2.2.2.1, z29.2.2.2.2.2.2.2.2.2.2.2.2.1, z29.2.2.2.2.2.2.2.2.2.2.2.2.2.1, z29.2.2.2.2.2.2.2.2.2.2.2.2.2.2.1))
     else
      some (.inr false)
    else
     some (.inr false)
   else
    some (.inr false))
def J2d (z23 : Int × Int × (List UInt8) × (List T_api_Device) × Int × Int × (List J6) × Int × Int × T_api_Device × J6 × T_pagemenddraw_Codes × T_api_Device × T_api_Device × T_api_Device × T_api_Device × T_api_Device × T_api_Device) : Option ((Int × Int × (List UInt8) × (List T_api_Device) × Int × Int × (List J6) × Int × Int × T_api_Device × J6 × T_pagemenddraw_Codes × T_api_Device × T_api_Device × T_api_Device × T_api_Device × T_api_Device × T_api_Device) ⊕ ((Int × (List T_api_Device) × Int × Int × T_api_Device × J6 × T_pagemenddraw_Codes × T_api_Device × T_api_Device × T_api_Device) ⊕ Bool)) :=
 if ltI z23.2.2.2.2.2.2.2.2.1 z23.2.2.2.2.2.2.2.1 then
  (idx z23.2.2.2.2.2.2.1 z23.2.2.2.2.2.2.2.2.1).bind fun y24 =>
  (J0Q (z23.2.2.2.2.2.2.2.2.2.2.2.2.2.2.2.1, y24)).bind fun y25 =>
  (J18 (z23.2.2.2.2.2.2.2.2.2.2.2.2.2.2.2.1, y24)).bind fun y26 =>
  if neI y25.2 y26.2 = false then
   (J0s (y25.1, y26.1)).bind fun y27 =>
   if J0A y27 then
    Option.map .inr (
     some (.inr false))
   else
    some (.inl (z23.1, z23.2.1, z23.2.2.1, z23.2.2.2.1, z23.2.2.2.2.1, z23.2.2.2.2.2.1, z23.2.2.2.2.2.2.1, z23.2.2.2.2.2.2.2.1, J9 .i64 z23.2.2.2.2.2.2.2.2.1 1, z23.2.2.2.2.2.2.2.2.2.1, z23.2.2.2.2.2.2.2.2.2.2.1, z23.2.2.2.2.2.2.2.2.2.2.2.1, z23.2.2.2.2.2.2.2.2.2.2.2.2.1, z23.2.2.2.2.2.2.2.2.2.2.2.2.2.1, z23.2.2.2.2.2.2.2.2.2.2.2.2.2.2.1, z23.2.2.2.2.2.2.2.2.2.2.2.2.2.2.2.1, y25.1, y26.1))
  else
   Option.map .inr (
    some (.inr false))
 else
  Option.map .inr (
   (S_draw_Codes_Next (257, z23.2.2.2.2.2.2.2.2.2.2.2.1)).bind fun y28 =>
   Jz (J4y) (z23.1, z23.2.1, z23.2.2.1, z23.2.2.2.1, z23.2.2.2.2.1, z23.2.2.2.2.2.1, [z23.1, y28.1], J5 [z23.1, y28.1], 0, z23.2.2.2.2.2.2.2.2.2.1, z23.2.2.2.2.2.2.2.2.2.2.1, y28.2, z23.2.2.2.2.2.2.2.2.2.2.2.2.1, z23.2.2.2.2.2.2.2.2.2.2.2.2.2.1, z23.2.2.2.2.2.2.2.2.2.2.2.2.2.2.1, z23.2.2.2.2.2.2.2.2.2.2.2.2.2.2.2.1, z23.2.2.2.2.2.2.2.2.2.2.2.2.2.2.2.2.1, z23.2.2.2.2.2.2.2.2.2.2.2.2.2.2.2.2.2))
def JaB (z51 : Int × Int × (List UInt8) × (List T_api_Device) × Int × Int × (List Int) × Int × Int × T_api_Device × J6 × T_pagemenddraw_Codes × T_api_Device × T_api_Device × T_api_Device × T_api_Device × T_api_Device × T_api_Device) : Option ((Int × Int × (List UInt8) × (List T_api_Device) × Int × Int × (List Int) × Int × Int × T_api_Device × J6 × T_pagemenddraw_Codes × T_api_Device × T_api_Device × T_api_Device × T_api_Device × T_api_Device × T_api_Device) ⊕ ((Int × (List T_api_Device) × Int × Int × T_api_Device × J6 × T_pagemenddraw_Codes × T_api_Device × T_api_Device × T_api_Device) ⊕ Bool)) :=
 if ltI z51.2.2.2.2.2.2.2.2.1 z51.2.2.2.2.2.2.2.1 then
  (idx z51.2.2.2.2.2.2.1 z51.2.2.2.2.2.2.2.2.1).bind fun y52 =>
  (J2C (z51.2.2.2.2.2.2.2.2.2.2.2.2.2.2.2.1, z51.2.1, z51.2.2.1, y52)).bind fun y53 =>
  (J2T (z51.2.2.2.2.2.2.2.2.2.2.2.2.2.2.2.1, z51.2.1, z51.2.2.1, y52)).bind fun y54 =>
  if neI y53.2 y54.2 = false then
   (J0s (y53.1, y54.1)).bind fun y55 =>
   if J0A y55 then
    Option.map .inr (
     some (.inr false))
   else
    some (.inl (z51.1, z51.2.1, z51.2.2.1, z51.2.2.2.1, z51.2.2.2.2.1, z51.2.2.2.2.2.1, z51.2.2.2.2.2.2.1, z51.2.2.2.2.2.2.2.1, J9 .i64 z51.2.2.2.2.2.2.2.2.1 1, z51.2.2.2.2.2.2.2.2.2.1, z51.2.2.2.2.2.2.2.2.2.2.1, z51.2.2.2.2.2.2.2.2.2.2.2.1, z51.2.2.2.2.2.2.2.2.2.2.2.2.1, z51.2.2.2.2.2.2.2.2.2.2.2.2.2.1, z51.2.2.2.2.2.2.2.2.2.2.2.2.2.2.1, z51.2.2.2.2.2.2.2.2.2.2.2.2.2.2.2.1, y53.1, y54.1))
  else
   Option.map .inr (
    some (.inr false))
 else
  Option.map .inr (
   (J0S z51.2.2.2.2.2.2.2.2.2.2.2.2.2.2.2.1).bind fun y56 =>
   (J1W z51.2.2.2.2.2.2.2.2.2.2.2.2.2.2.2.1).bind fun y57 =>
   (J1i (z51.2.2.2.2.2.2.2.2.2.2.2.2.2.2.2.1, z51.2.1)).bind fun y58 =>
   (J2R (z51.2.2.2.2.2.2.2.2.2.2.2.2.2.2.2.1, z51.2.1)).bind fun y59 =>
   if neI y56.2 y57.2 = false then
    (J0s (y56.1, y57.1)).bind fun y60 =>
    if J0A y60 = false then
     if neS y58.1 y59.1 = false then
      if neI y58.2 y59.2 then
       some (.inr false)
      else
       some (.inl (z51.1, z51.2.2.2.1, z51.2.2.2.2.1, J9 .i64 z51.2.2.2.2.2.1 1, z51.2.2.2.2.2.2.2.2.2.1, z51.2.2.2.2.2.2.2.2.2.2.1, z51.2.2.2.2.2.2.2.2.2.2.2.1, z51.2.2.2.2.2.2.2.2.2.2.2.2.1, z51.2.2.2.2.2.2.2.2.2.2.2.2.2.1, z51.2.2.2.2.2.2.2.2.2.2.2.2.2.2.1))
     else
      some (.inr false)
    else
     some (.inr false)
   else
    some (.inr false))
def J74 (z45 : Int × Int × (List UInt8) × (List T_api_Device) × Int × Int × (List J6) × Int × Int × T_api_Device × J6 × T_pagemenddraw_Codes × T_api_Device × T_api_Device × T_api_Device × T_api_Device × T_api_Device × T_api_Device) : Option ((Int × Int × (List UInt8) × (List T_api_Device) × Int × Int × (List J6) × Int × Int × T_api_Device × J6 × T_pagemenddraw_Codes × T_api_Device × T_api_Device × T_api_Device × T_api_Device × T_api_Device × T_api_Device) ⊕ ((Int × (List T_api_Device) × Int × Int × T_api_Device × J6 × T_pagemenddraw_Codes × T_api_Device × T_api_Device × T_api_Device) ⊕ Bool)) :=
 if ltI z45.2.2.2.2.2.2.2.2.1 z45.2.2.2.2.2.2.2.1 then
  (idx z45.2.2.2.2.2.2.1 z45.2.2.2.2.2.2.2.2.1).bind fun y46 =>
  (J0Q (z45.2.2.2.2.2.2.2.2.2.2.2.2.2.2.2.1, y46)).bind fun y47 =>
  (J18 (z45.2.2.2.2.2.2.2.2.2.2.2.2.2.2.2.1, y46)).bind fun y48 =>
  if neI y47.2 y48.2 = false then
   (J0s (y47.1, y48.1)).bind fun y49 =>
   if J0A y49 then
    Option.map .inr (
     some (.inr false))
   else
    some (.inl (z45.1, z45.2.1, z45.2.2.1, z45.2.2.2.1, z45.2.2.2.2.1, z45.2.2.2.2.2.1, z45.2.2.2.2.2.2.1, z45.2.2.2.2.2.2.2.1, J9 .i64 z45.2.2.2.2.2.2.2.2.1 1, z45.2.2.2.2.2.2.2.2.2.1, z45.2.2.2.2.2.2.2.2.2.2.1, z45.2.2.2.2.2.2.2.2.2.2.2.1, z45.2.2.2.2.2.2.2.2.2.2.2.2.1, z45.2.2.2.2.2.2.2.2.2.2.2.2.2.1, z45.2.2.2.2.2.2.2.2.2.2.2.2.2.2.1, z45.2.2.2.2.2.2.2.2.2.2.2.2.2.2.2.1, y47.1, y48.1))
  else
   Option.map .inr (
    some (.inr false))
 else
  Option.map .inr (
   (S_draw_Codes_Next (257, z45.2.2.2.2.2.2.2.2.2.2.2.1)).bind fun y50 =>
   Jz (JaB) (z45.1, z45.2.1, z45.2.2.1, z45.2.2.2.1, z45.2.2.2.2.1, z45.2.2.2.2.2.1, [z45.1, y50.1], J5 [z45.1, y50.1], 0, z45.2.2.2.2.2.2.2.2.2.1, z45.2.2.2.2.2.2.2.2.2.2.1, y50.2, z45.2.2.2.2.2.2.2.2.2.2.2.2.1, z45.2.2.2.2.2.2.2.2.2.2.2.2.2.1, z45.2.2.2.2.2.2.2.2.2.2.2.2.2.2.1, z45.2.2.2.2.2.2.2.2.2.2.2.2.2.2.2.1, z45.2.2.2.2.2.2.2.2.2.2.2.2.2.2.2.2.1, z45.2.2.2.2.2.2.2.2.2.2.2.2.2.2.2.2.2))
def J6X (z11 : Int × (List T_api_Device) × Int × Int × T_api_Device × J6 × T_pagemenddraw_Codes × T_api_Device × T_api_Device × T_api_Device) : Option ((Int × (List T_api_Device) × Int × Int × T_api_Device × J6 × T_pagemenddraw_Codes × T_api_Device × T_api_Device × T_api_Device) ⊕ Bool) :=
 if ltI z11.2.2.2.1 z11.2.2.1 then
  (idx z11.2.1 z11.2.2.2.1).bind fun y12 =>
  (S_draw_Codes_Next (6, z11.2.2.2.2.2.2.1)).bind fun y13 =>
  (J08 y13.2).bind fun y14 =>
  (S_draw_Codes_Next (8, y14.2)).bind fun y15 =>
  if eqI y15.1 0 then
   (S_draw_Codes_Data y15.2).bind fun y16 =>
   (J0b (y12, J23 .i64 y13.1 1, y16.1)).bind fun y17 =>
   (J0F (y12, J23 .i64 y13.1 1, y16.1)).bind fun y18 =>
   if neI y17.2 y18.2 = false then
    (J0s (y17.1, y18.1)).bind fun y19 =>
    if J0A y19 = false then
     (JQ y12).bind fun y20 =>
     (J01 y12).bind fun y21 =>
     if J0A (eqB y20 y21) then
      some (.inr false)
     else
      (S_draw_Codes_Fault (J5 y12.1, y12.2.1, y16.2)).bind fun y22 =>
      Jz (J2d) (z11.1, J23 .i64 y13.1 1, y16.1, z11.2.1, z11.2.2.1, z11.2.2.2.1, [z11.2.2.2.2.2.1, y22.1], J5 [z11.2.2.2.2.2.1, y22.1], 0, z11.2.2.2.2.1, z11.2.2.2.2.2.1, y22.2, z11.2.2.2.2.2.2.2.1, z11.2.2.2.2.2.2.2.2.1, z11.2.2.2.2.2.2.2.2.2, y12, y17.1, y18.1)
    else
     some (.inr false)
   else
    some (.inr false)
  else
   (J0b (y12, J23 .i64 y13.1 1, y14.1)).bind fun y39 =>
   (J0F (y12, J23 .i64 y13.1 1, y14.1)).bind fun y40 =>
   if neI y39.2 y40.2 = false then
    (J0s (y39.1, y40.1)).bind fun y41 =>
    if J0A y41 = false then
     (JQ y12).bind fun y42 =>
     (J01 y12).bind fun y43 =>
     if J0A (eqB y42 y43) then
      some (.inr false)
     else
      (S_draw_Codes_Fault (J5 y12.1, y12.2.1, y15.2)).bind fun y44 =>
      Jz (J74) (z11.1, J23 .i64 y13.1 1, y14.1, z11.2.1, z11.2.2.1, z11.2.2.2.1, [z11.2.2.2.2.2.1, y44.1], J5 [z11.2.2.2.2.2.1, y44.1], 0, z11.2.2.2.2.1, z11.2.2.2.2.2.1, y44.2, z11.2.2.2.2.2.2.2.1, z11.2.2.2.2.2.2.2.2.1, z11.2.2.2.2.2.2.2.2.2, y12, y39.1, y40.1)
    else
     some (.inr false)
   else
    some (.inr false)
 else
  some (.inr true)
def J3I (x1 : (List Int) × T_api_Device × Int × Int × J6) : Option (Bool) :=
 (J35 ()).bind fun y2 =>
 if J0A y2 = false then
  (J27 x1.2.1).bind fun y3 =>
  if J0A y3 then
   (J27 x1.2.1).bind fun y4 =>
   some (J0A y4)
  else
   (J4N (x1.1, 300)).bind fun y5 =>
   (J1u y5).bind fun y6 =>
   (J24 x1.2.2.1).bind fun y7 =>
   (J2j x1.2.2.1).bind fun y8 =>
   if neI y7.2 y8.2 = false then
    (J0s (y7.1, y8.1)).bind fun y9 =>
    if J0A y9 then
     some false
    else
     (S_law04_odd (y6.1, y6.2)).bind fun y10 =>
     Jz (J6X) (x1.2.2.2.1, [x1.2.1, y6.1, y10.1], J5 [x1.2.1, y6.1, y10.1], 0, x1.2.1, x1.2.2.2.2, y10.2, y6.1, y7.1, y8.1)
   else
    some false
 else
  (J27 x1.2.1).bind fun y61 =>
  some (J0A y61)
theorem JbF (x) : onO (J00 J56 x) (fun y => J0c (TG.of [sigE J30 J4T J35, sigE J2D J4Y J27, sigE J4K J7e J4N, sigE J1v J2H J1u, sigE J25 J3D J24, sigE J2k J49 J2j, sigE J1C J5i J0s, sigE i_law04_odd g_law04_odd S_law04_odd, sigE i_draw_Codes_Next g_draw_Codes_Next S_draw_Codes_Next, sigE J0x J1F J08, sigE JP J0r S_draw_Codes_Data, sigE J1p J4p J0b, sigE J1J J32 J0F, sigE J05 J17 JQ, sigE J0f J1k J01, sigE Jy JX S_draw_Codes_Fault, sigE J1b J2r J0Q, sigE J1q J2M J18, sigE J36 J4Z J2C, sigE J3y J5B J2T, sigE J2b J3C J0S, sigE J2l J3T J1W, sigE J1H J2Y J1i, sigE J3s J5E J2R]) J3E y.1 y.2 (JJ J56)) = J3I x := by kernel_rfl
end
end Go.Am
end
section
namespace Go.Am
def Tot {ρ : Type} (o : Option ρ) (Q : ρ → Prop) : Prop := ∃ r, o = some r ∧ Q r
section
variable {α β ρ σ τ : Type} {Q : ρ → Prop}
theorem Tot.bind {P : α → Prop} {o : Option α} {f : α → Option ρ} (h : Tot o P) (h2 : ∀ r, P r → Tot (f r) Q) : Tot (o.bind f) Q := by
 obtain ⟨r, rfl, hq⟩ := h
 exact h2 r hq
theorem Tot.some {r : ρ} (h : Q r) : Tot (some r) Q := ⟨r, rfl, h⟩
theorem Tot.mono {P : ρ → Prop} {o : Option ρ} (h : Tot o P) (h2 : ∀ r, P r → Q r) : Tot o Q := by
 obtain ⟨r, e, hq⟩ := h
 exact ⟨r, e, h2 r hq⟩
theorem Tot.map {P : α → Prop} {o : Option α} {f : α → ρ} (h : Tot o P) (h2 : ∀ r, P r → Q (f r)) : Tot (Option.map f o) Q := by
 obtain ⟨r, rfl, hq⟩ := h
 exact ⟨f r, rfl, h2 r hq⟩
theorem Tot.get {o : Option ρ} {r : ρ} (h : Tot o Q) (e : o = Option.some r) : Q r := by
 obtain ⟨r', e', h⟩ := h
 rw [e] at e'; injection e' with e'; subst e'; exact h
variable {u v : Option ρ}
theorem Tot.ite {c : Bool} (h1 : c = true → Tot u Q) (h2 : c = false → Tot v Q) : Tot (if c = true then u else v) Q := by
 cases c with
 | true => exact h1 rfl
 | false => exact h2 rfl
theorem Tot.itf {c : Bool} (h1 : c = false → Tot u Q) (h2 : c = true → Tot v Q) : Tot (if c = false then u else v) Q := by
 cases c with
 | true => exact h2 rfl
 | false => exact h1 rfl
theorem Tot.not {c : Bool} (h1 : c = false → Tot u Q) (h2 : c = true → Tot v Q) : Tot (if J0A c = true then u else v) Q := by
 cases c with
 | true => exact h2 rfl
 | false => exact h1 rfl
theorem Tot.nof {c : Bool} (h1 : c = true → Tot u Q) (h2 : c = false → Tot v Q) : Tot (if J0A c = false then u else v) Q := by
 cases c with
 | true => exact h1 rfl
 | false => exact h2 rfl
variable {a c : Int}
theorem J6V : ltI a c = true ↔ a < c := by simp [ltI]
theorem JcK : gtI a c = true ↔ c < a := by simp [gtI]
theorem Jag : leI a c = true ↔ a ≤ c := by simp [leI]
theorem J7L : geI a c = true ↔ c ≤ a := by simp [geI]
theorem Jm1 : eqI a c = true ↔ a = c := by simp [eqI]
theorem Jar : neI a c = true ↔ ¬a = c := by simp [neI]
theorem Tot.by {p : Prop} {x : Bool} (hp : x = true ↔ p) (h1 : p → Tot u Q) (h2 : ¬p → Tot v Q) : Tot (if x = true then u else v) Q := .ite (fun h => h1 (hp.1 h)) fun h => h2 fun h3 => by rw [hp.2 h3] at h; cases h
theorem Tot.byf {p : Prop} {x : Bool} (hp : x = true ↔ p) (h1 : ¬p → Tot u Q) (h2 : p → Tot v Q) : Tot (if x = false then u else v) Q := .itf (fun h => h1 fun h3 => by rw [hp.2 h3] at h; cases h) fun h => h2 (hp.1 h)
theorem Tot.lt (h1 : a < c → Tot u Q) (h2 : ¬a < c → Tot v Q) : Tot (if ltI a c = true then u else v) Q := .by J6V h1 h2
theorem Tot.gt (h1 : c < a → Tot u Q) (h2 : ¬c < a → Tot v Q) : Tot (if gtI a c = true then u else v) Q := .by JcK h1 h2
theorem Tot.le (h1 : a ≤ c → Tot u Q) (h2 : ¬a ≤ c → Tot v Q) : Tot (if leI a c = true then u else v) Q := .by Jag h1 h2
theorem Tot.ge (h1 : c ≤ a → Tot u Q) (h2 : ¬c ≤ a → Tot v Q) : Tot (if geI a c = true then u else v) Q := .by J7L h1 h2
theorem Tot.eq (h1 : a = c → Tot u Q) (h2 : ¬a = c → Tot v Q) : Tot (if eqI a c = true then u else v) Q := .by Jm1 h1 h2
theorem Tot.ne (h1 : ¬a = c → Tot u Q) (h2 : a = c → Tot v Q) : Tot (if neI a c = true then u else v) Q := .by Jar h1 (fun h => h2 (Decidable.of_not_not h))
theorem Tot.ltf (h1 : ¬a < c → Tot u Q) (h2 : a < c → Tot v Q) : Tot (if ltI a c = false then u else v) Q := .byf J6V h1 h2
theorem Tot.gtf (h1 : ¬c < a → Tot u Q) (h2 : c < a → Tot v Q) : Tot (if gtI a c = false then u else v) Q := .byf JcK h1 h2
theorem Tot.lef (h1 : ¬a ≤ c → Tot u Q) (h2 : a ≤ c → Tot v Q) : Tot (if leI a c = false then u else v) Q := .byf Jag h1 h2
theorem Tot.gef (h1 : ¬c ≤ a → Tot u Q) (h2 : c ≤ a → Tot v Q) : Tot (if geI a c = false then u else v) Q := .byf J7L h1 h2
theorem Tot.nef (h1 : a = c → Tot u Q) (h2 : ¬a = c → Tot v Q) : Tot (if neI a c = false then u else v) Q := .byf Jar (fun h => h1 (Decidable.of_not_not h)) h2
end
def Ty.fit (B S : Int) : (t : Ty) → t.D → Prop
 | .b, _ => True
 | .i k, z => k.min ≤ z ∧ z ≤ k.max
 | .s, z => J5 (α := UInt8) z ≤ S
 | .l t, z => J5 (α := t.D) z ≤ B ∧ ∀ x ∈ (z : List t.D), t.fit B S x
 | .pr a c, x => a.fit B S x.1 ∧ c.fit B S x.2
 | .ar n t, v => ∀ (i : Nat) (h : i < n), t.fit B S ((v : Vector t.D n)[i])
 | .u, _ => True
 | .f, _ => True
theorem Ty.fit.up {B S B' S' : Int} (h1 : B ≤ B') (h2 : S ≤ S') : ∀ {t : Ty} {x : t.D}, t.fit B S x → t.fit B' S' x
 | .b, _, _ => trivial
 | .i _, _, h => h
 | .s, _, h => Int.le_trans h h2
 | .l _, _, h => ⟨Int.le_trans h.1 h1, fun x hx => (h.2 x hx).up h1 h2⟩
 | .pr _ _, _, h => ⟨h.1.up h1 h2, h.2.up h1 h2⟩
 | .ar _ _, _, h => fun i hi => (h i hi).up h1 h2
 | .u, _, _ => trivial
 | .f, _, _ => trivial
section
variable {α : Type} {l : List α}
theorem J1z : 0 ≤ J5 l := Int.natCast_nonneg _
theorem Jqv : J5 ([] : List α) = 0 := rfl
theorem J4f {x : α} : J5 [x] = 1 := rfl
theorem J3q {m : List α} : J5 (l ++ m) = J5 l + J5 m := by simp [J5]
end
theorem wrap64 (n : Int) : IntKind.i64.wrap n = (n + 9223372036854775808) % 18446744073709551616 - 9223372036854775808 := by
 simp [IntKind.wrap, IntKind.bits, IntKind.signed]
 omega
theorem JrX (k : IntKind) (n : Int) : k.min ≤ k.wrap n ∧ k.wrap n ≤ k.max := by
 cases k <;> simp [IntKind.wrap, IntKind.min, IntKind.max, IntKind.bits, IntKind.signed] <;> omega
theorem JcN (a b : Int) : J9 .i64 a b = (a + b + 9223372036854775808) % 18446744073709551616 - 9223372036854775808 := wrap64 _
theorem JtV (a b : Int) : J23 .i64 a b = (a - b + 9223372036854775808) % 18446744073709551616 - 9223372036854775808 := wrap64 _
theorem JtP (a b : Int) : JjP .i64 a b = (a * b + 9223372036854775808) % 18446744073709551616 - 9223372036854775808 := wrap64 _
theorem Jtk (a : Int) : cvI .i64 a = (a + 9223372036854775808) % 18446744073709551616 - 9223372036854775808 := wrap64 _
section
variable {B S : Int} {k : IntKind} {a b : Int}
theorem Ju1 (k : IntKind) (n : Int) (h : k.min ≤ n ∧ n ≤ k.max := by decide) : Ty.fit B S (.i k) n := h
end
section
variable {B S : Int} {t : Ty}
theorem JqA {α : Type} {l : List α} {k : Int} (h0 : 0 ≤ k) (h1 : k ≤ J5 l) : Tot (J7E l none (some k)) fun r => r = l.take k.toNat ∧ J5 r = k := by
 refine ⟨l.take k.toNat, ?_, rfl, ?_⟩
 ·unfold J7E Jgv JjG
  unfold J5 at h1
  simp only [if_pos (And.intro h0 h1)]
  simp
 ·unfold J5 at *; rw [List.length_take]; omega
theorem Jou {α : Type} {l : List α} {k : Int} (h0 : 0 ≤ k) (h1 : k ≤ J5 l) : Tot (J7E l (some k) none) fun r => r = l.drop k.toNat ∧ J5 r = J5 l - k := by
 refine ⟨l.drop k.toNat, ?_, rfl, ?_⟩
 ·unfold J7E Jgv JjG
  unfold J5 at h1
  simp only [if_pos (And.intro h0 h1)]
  rw [List.take_of_length_le]
  simp
 ·unfold J5 at *; rw [List.length_drop]; omega
theorem Jur {bytes : Nat} {n m : Int} {z : t.D} (hz : t.fit B S z) (h0 : 0 ≤ n := by omega) (h1 : n ≤ m := by omega) (h2 : m ≤ 34359738368 := by omega) (hn : n ≤ B := by omega) (hb : bytes ≤ 2048 := by decide) : Tot (mkS bytes n m z) fun r => Ty.fit B S (.l t) r ∧ J5 r = n := by
 refine ⟨List.replicate n.toNat z, ?_, ⟨?_, fun x hx => ?_⟩, ?_⟩
 ·unfold mkS
  have : (bytes : Int) * m ≤ 2048 * 34359738368 := Int.le_trans (Int.mul_le_mul_of_nonneg_right (by omega) (by omega)) (Int.mul_le_mul_of_nonneg_left h2 (by omega))
  rw [if_pos ⟨h0, h1, by omega, by omega⟩]
 ·unfold J5; rw [List.length_replicate]; omega
 ·rw [List.eq_of_mem_replicate hx]; exact hz
 ·unfold J5; rw [List.length_replicate]; omega
theorem JqN {x y : Int} (h : ¬y = 0) : Tot (Jcd x y) fun r => r = x.tmod y := ⟨_, by unfold Jcd; rw [if_neg h], rfl⟩
theorem Ju3 {n : Nat} {i : Int} (h0 : 0 ≤ i := by omega) (h1 : i < n := by omega) : Tot (inb n i) fun _ => True := ⟨(), by unfold inb; rw [if_pos ⟨h0, h1⟩], trivial⟩
theorem JjI {α : Type} {l : List α} {i : Nat} {x : α} : J5 (J3n l i x) = J5 l := by unfold J3n J5; rw [List.length_set]
theorem Jnv {l : List Int} : J5 (toStr l) = J5 l := by unfold toStr J5; rw [List.length_map]
end
theorem Ty.fit.u {B S B' S' : Int} {t : Ty} {x : t.D} (h : t.fit B S x) (h1 : B ≤ B' := by omega) (h2 : S ≤ S' := by omega) : t.fit B' S' x := h.up h1 h2
theorem Tot.inr {σ ρ : Type} {o : Option ρ} {Q : σ ⊕ ρ → Prop} (h : Tot o fun y => Q (.inr y)) : Tot (Option.map .inr o) Q := h.map fun _ h => h
section
variable {B S : Int} {t : Ty}
theorem J6C {α : Type} {l : List α} {i : Int} (h0 : 0 ≤ i := by omega) (h1 : i < J5 l := by omega) : Tot (inb l.length i) fun _ => True := Ju3 h0 h1
theorem Jll {x y : Int} (h : 0 ≤ x) : x.tmod y ≤ x := by
 obtain ⟨m, rfl⟩ := Int.eq_ofNat_of_zero_le h
 cases y with
 | ofNat n => show ((m % n : Nat) : Int) ≤ m; exact Int.ofNat_le.2 (Nat.mod_le _ _)
 | negSucc n => show ((m % (n + 1) : Nat) : Int) ≤ m; exact Int.ofNat_le.2 (Nat.mod_le _ _)
theorem Jcz {x y : Int} : (0 ≤ x → 0 ≤ x.tmod y) ∧ (0 < y → x.tmod y < y) ∧ (x ≤ 0 → x.tmod y ≤ 0) ∧ (0 ≤ x → x.tmod y ≤ x) ∧ (x ≤ 0 → x ≤ x.tmod y) := by
 refine ⟨fun h => Int.tmod_nonneg _ h, fun h => Int.tmod_lt_of_pos _ h, fun h => ?_, fun h => ?_, fun h => ?_⟩
 ·have := Int.tmod_nonneg (a := -x) y (by omega)
  rw [Int.neg_tmod] at this; omega
 ·exact Jll h
 ·have h2 : (-x).tmod y ≤ -x := Jll (by omega)
  rw [Int.neg_tmod] at h2; omega
end
theorem J3o {σ τ ρ : Type} {L : σ → Option (σ ⊕ ρ)} {Q : ρ → Prop} (e : τ → σ) (I : τ → Prop) (m : τ → Int)
  (h : ∀ c, I c → Tot (L (e c)) fun r => match r with | .inl z => ∃ c', z = e c' ∧ I c' ∧ m c' < m c ∧ 0 ≤ m c | .inr y => Q y) {z : σ} (c : τ) (hz : z = e c) (hI : I c) : Tot (Jz L z) Q := by
 subst hz
 have key : ∀ (n : Nat) (c : τ), (m c + 1).toNat < n → I c → Tot (Jz L (e c)) Q := by
  intro n
  induction n with
  | zero => intro c h1; omega
  | succ n ih =>
   intro c h1 hI
   obtain ⟨r, h2, h3⟩ := h c hI
   cases r with
   | inl z =>
    obtain ⟨c', rfl, h4, h5, h6⟩ := h3
    rw [Jmw h2]
    exact ih c' (by omega) h4
   | inr y => rw [Jnb h2]; exact ⟨y, rfl, h3⟩
 exact key _ c (Nat.lt_succ_self _) hI
def Ty.nl : Ty → Bool
 | .l _ => false
 | .pr a c => a.nl && c.nl
 | .ar _ t => t.nl
 | _ => true
theorem Ty.fit.z' {B S : Int} : ∀ {t : Ty} {x : t.D}, t.nl = true → Ty.fit B S t x → Ty.fit 0 S t x
 | .b, _, _, _ => trivial
 | .i _, _, _, h => h
 | .s, _, _, h => h
 | .l _, _, n, _ => by cases n
 | .pr a c, _, n, h => by
  have n : (a.nl && c.nl) = true := n
  rw [Bool.and_eq_true] at n
  exact ⟨Ty.fit.z' n.1 h.1, Ty.fit.z' n.2 h.2⟩
 | .ar _ _, _, n, h => fun i hi => Ty.fit.z' n (h i hi)
 | .u, _, _, _ => trivial
 | .f, _, _, _ => trivial
theorem Ty.fit.z {B S : Int} {t : Ty} {x : t.D} (h : Ty.fit B S t x) (n : t.nl = true := by rfl) : Ty.fit 0 S t x := Ty.fit.z' n h
theorem oo {p : Prop} (h : p := by omega) : p := h
end Go.Am
end
section
namespace Go.Am
theorem Tot.eqn {ρ : Type} {o : Option ρ} {Q : ρ → Prop} (h : Tot o Q) : Tot o fun r => Q r ∧ o = Option.some r := by
 obtain ⟨r, e, h⟩ := h
 exact ⟨r, e, h, e⟩
theorem Tot.same {α ρ : Type} {o : Option α} {f : α → Option ρ} {w : α} {Q : ρ → Prop} (e : o = Option.some w) (h : Tot (f w) Q) : Tot (o.bind f) Q := by
 rw [e]; exact h
def Par {ρ : Type} (o : Option ρ) (Q : ρ → Prop) : Prop := ∀ r, o = Option.some r → Q r
section
variable {α β ρ σ : Type} {Q : ρ → Prop} {u v : Option ρ}
theorem Par.bind {o : Option α} {f : α → Option ρ} (h : ∀ a, o = Option.some a → Par (f a) Q) : Par (o.bind f) Q := by
 intro r hr
 cases o with
 | none => cases hr
 | some a => exact h a rfl r hr
theorem Par.via {o : Option α} {f : α → Option ρ} {P : α → Prop} (h1 : Par o P) (h : ∀ a, P a → Par (f a) Q) : Par (o.bind f) Q := .bind fun a e => h a (h1 a e)
theorem Par.map {o : Option α} {f : α → ρ} (h : Par o fun a => Q (f a)) : Par (Option.map f o) Q := by
 intro r hr
 cases o with
 | none => cases hr
 | some a => injection hr with hr; subst hr; exact h a rfl
theorem Par.some {r : ρ} (h : Q r) : Par (Option.some r) Q := by
 intro r' e; injection e with e; subst e; exact h
theorem Par.none : Par (Option.none : Option ρ) Q := by
 intro r e; cases e
theorem Par.mono {o : Option ρ} {P : ρ → Prop} (h : Par o P) (h2 : ∀ r, P r → Q r) : Par o Q := fun r e => h2 r (h r e)
theorem Par.ite {c : Bool} (h1 : c = true → Par u Q) (h2 : c = false → Par v Q) : Par (if c = true then u else v) Q := by
 cases c with
 | true => exact h1 rfl
 | false => exact h2 rfl
theorem Par.itf {c : Bool} (h1 : c = false → Par u Q) (h2 : c = true → Par v Q) : Par (if c = false then u else v) Q := by
 cases c with
 | true => exact h2 rfl
 | false => exact h1 rfl
theorem Par.not {c : Bool} (h1 : c = false → Par u Q) (h2 : c = true → Par v Q) : Par (if J0A c = true then u else v) Q := by
 cases c with
 | true => exact h2 rfl
 | false => exact h1 rfl
theorem Par.nof {c : Bool} (h1 : c = true → Par u Q) (h2 : c = false → Par v Q) : Par (if J0A c = false then u else v) Q := by
 cases c with
 | true => exact h1 rfl
 | false => exact h2 rfl
variable {a c : Int}
theorem Par.by {p : Prop} {x : Bool} (hp : x = true ↔ p) (h1 : p → Par u Q) (h2 : ¬p → Par v Q) : Par (if x = true then u else v) Q := .ite (fun h => h1 (hp.1 h)) fun h => h2 fun h3 => by rw [hp.2 h3] at h; cases h
theorem Par.byf {p : Prop} {x : Bool} (hp : x = true ↔ p) (h1 : ¬p → Par u Q) (h2 : p → Par v Q) : Par (if x = false then u else v) Q := .itf (fun h => h1 fun h3 => by rw [hp.2 h3] at h; cases h) fun h => h2 (hp.1 h)
theorem Par.lt (h1 : a < c → Par u Q) (h2 : ¬a < c → Par v Q) : Par (if ltI a c = true then u else v) Q := .by J6V h1 h2
theorem Par.gt (h1 : c < a → Par u Q) (h2 : ¬c < a → Par v Q) : Par (if gtI a c = true then u else v) Q := .by JcK h1 h2
theorem Par.le (h1 : a ≤ c → Par u Q) (h2 : ¬a ≤ c → Par v Q) : Par (if leI a c = true then u else v) Q := .by Jag h1 h2
theorem Par.ge (h1 : c ≤ a → Par u Q) (h2 : ¬c ≤ a → Par v Q) : Par (if geI a c = true then u else v) Q := .by J7L h1 h2
theorem Par.eq (h1 : a = c → Par u Q) (h2 : ¬a = c → Par v Q) : Par (if eqI a c = true then u else v) Q := .by Jm1 h1 h2
theorem Par.ne (h1 : ¬a = c → Par u Q) (h2 : a = c → Par v Q) : Par (if neI a c = true then u else v) Q := .by Jar h1 (fun h => h2 (Decidable.of_not_not h))
theorem Par.ltf (h1 : ¬a < c → Par u Q) (h2 : a < c → Par v Q) : Par (if ltI a c = false then u else v) Q := .byf J6V h1 h2
theorem Par.gtf (h1 : ¬c < a → Par u Q) (h2 : c < a → Par v Q) : Par (if gtI a c = false then u else v) Q := .byf JcK h1 h2
theorem Par.lef (h1 : ¬a ≤ c → Par u Q) (h2 : a ≤ c → Par v Q) : Par (if leI a c = false then u else v) Q := .byf Jag h1 h2
theorem Par.gef (h1 : ¬c ≤ a → Par u Q) (h2 : c ≤ a → Par v Q) : Par (if geI a c = false then u else v) Q := .byf J7L h1 h2
theorem Par.nef (h1 : a = c → Par u Q) (h2 : ¬a = c → Par v Q) : Par (if neI a c = false then u else v) Q := .byf Jar (fun h => h1 (Decidable.of_not_not h)) h2
end
theorem Joj {α : Type} {l : List α} {i : Int} {r : α} (h : idx l i = Option.some r) : 0 ≤ i ∧ l[i.toNat]? = Option.some r := by
 unfold idx at h; split at h
 ·exact ⟨by assumption, h⟩
 ·cases h
def J9d {α : Type} (P : α → Prop) (l : List α) (i : Int) : Prop := 0 ≤ i ∧ ∀ x ∈ l.take i.toNat, P x
theorem J8g {α : Type} {P : α → Prop} {l : List α} : J9d P l 0 := ⟨by omega, fun x h => by simp at h⟩
theorem J5h {α : Type} {P : α → Prop} {l : List α} {i j : Int} {x : α} (h : J9d P l i) (e : idx l i = Option.some x) (hx : P x) (hj : j = i + 1) : J9d P l j := by
 obtain ⟨h0, h⟩ := h
 obtain ⟨_, e⟩ := Joj e
 subst hj
 refine ⟨by omega, fun y hy => ?_⟩
 have : (i + 1).toNat = i.toNat + 1 := by omega
 rw [this, List.take_add_one, e] at hy
 rcases List.mem_append.1 hy with hy | hy
 ·exact h y hy
 ·simp at hy; subst hy; exact hx
theorem J6K {α : Type} {P : α → Prop} {l : List α} {i : Int} (h : J9d P l i) (hi : ¬i < J5 l) : ∀ x ∈ l, P x := fun x hx => h.2 x (by
 rw [List.take_of_length_le]
 ·exact hx
 ·unfold J5 at hi; omega)
end Go.Am
end
section
namespace Go.Am
set_option maxRecDepth 20000
set_option linter.unusedVariables false
theorem J1w {ρ : Type} {o : Option ρ} {v : ρ} (h : Tot o fun y => y = v) : o = Option.some v := by obtain ⟨y, e, rfl⟩ := h; exact e
theorem Jc {ρ : Type} {o : Option ρ} {v : ρ} (h : o = Option.some v) : Tot o fun y => y = v := ⟨v, h, rfl⟩
structure J6i (c : T_pagemenddraw_Codes) : Prop where
 at0 : 0 ≤ c.2
 len : J5 c.1 ≤ 1000000
 byte : ∀ a ∈ c.1, 0 ≤ a ∧ a ≤ 255
 hi : c.2 ≤ J5 c.1
structure J3h (c d : T_pagemenddraw_Codes) : Prop where
 list : d.1 = c.1
 mono : c.2 ≤ d.2
 hi : c.2 ≤ J5 c.1 → d.2 ≤ J5 c.1
theorem J6i.to {c d : T_pagemenddraw_Codes} (h : J6i c) (t : J3h c d) : J6i d := ⟨Int.le_trans h.at0 t.mono, by rw [t.list]; exact h.len, by rw [t.list]; exact h.byte, by rw [t.list]; exact t.hi h.hi⟩
theorem J3h.refl (c : T_pagemenddraw_Codes) : J3h c c := ⟨rfl, Int.le_refl _, id⟩
theorem J3h.trans {a b c : T_pagemenddraw_Codes} (h : J3h a b) (k : J3h b c) : J3h a c := ⟨k.list.trans h.list, Int.le_trans h.mono k.mono, fun e => by have := k.hi (by rw [h.list]; exact h.hi e); rwa [h.list] at this⟩
theorem J1x {α : Type} {l : List α} {i : Int} (h0 : 0 ≤ i := by omega) (h1 : i < J5 l := by omega) : Tot (idx l i) fun r => l[i.toNat]? = some r ∧ r ∈ l := by
 have hl : i.toNat < l.length := by unfold J5 at h1; omega
 refine ⟨l[i.toNat], ?_, List.getElem?_eq_getElem hl, List.getElem_mem hl⟩
 unfold idx
 rw [if_pos (by unfold J5 at h1; omega)]
 exact List.getElem?_eq_getElem hl
theorem Jf3 (rec : (Int × T_pagemenddraw_Codes) → Option (Int × T_pagemenddraw_Codes)) (n : Int) (c : T_pagemenddraw_Codes) (hc : J6i c) (hn : n ≤ 256) :
  Tot (JU rec (n, c)) fun y => J3h c y.2 ∧ (c.2 < J5 c.1 → 1 ≤ n → c.2 < y.2.2) ∧ 0 ≤ y.1 ∧ (1 ≤ n → y.1 < n) := by
 unfold JU
 dsimp only
 have h0 := hc.at0
 have hl := hc.len
 refine .gef (fun c1 => .lt (fun c2 => .some ⟨.refl _, fun _ h => by omega, Int.le_refl _, fun h => by dsimp only; omega⟩) fun c2 => ?_) fun c1 => .some ⟨.refl _, fun h => by omega, Int.le_refl _, fun h => by dsimp only; omega⟩
 refine .bind (J1x (by omega) (by omega)) fun y hy => .gt (fun c3 => by omega) fun c3 => ?_
 obtain ⟨b0, b1⟩ := hc.byte y hy.2
 have e1 := Jtk y
 have e2 := JcN c.2 1
 refine .bind (JqN (show ¬n = 0 by omega)) fun r hr =>   .some ⟨⟨rfl, by show c.2 ≤ J9 .i64 c.2 1; omega, fun _ => by show J9 .i64 c.2 1 ≤ J5 c.1; omega⟩, fun _ _ => by show c.2 < J9 .i64 c.2 1; omega, ?_, fun _ => ?_⟩
 ·show 0 ≤ r
  rw [hr]; exact Jcz.1 (by omega)
 ·show r < n
  rw [hr]; exact Jcz.2.1 (by omega)
theorem JD (n : Int) (c : T_pagemenddraw_Codes) (hc : J6i c) : Tot (S_draw_Codes_Next (n, c)) fun y => J3h c y.2 ∧ (c.2 < J5 c.1 → 1 ≤ n → c.2 < y.2.2) ∧ 0 ≤ y.1 ∧ (1 ≤ n → y.1 < n) := by
 have e0 : S_draw_Codes_Next (n, c) = JU (Ja4 JU 99) (n, c) := rfl
 rw [e0]
 by_cases hn : n ≤ 256
 ·exact Jf3 _ n c hc hn
 ·have e3 : ∀ x, Ja4 JU 99 x = JU (Ja4 JU 98) x := fun _ => rfl
  generalize Ja4 JU 99 = rec at e3 ⊢
  unfold JU
  dsimp only
  have h0 := hc.at0
  have hl := hc.len
  refine .gef (fun c1 => .lt (fun c2 => by omega) fun c2 => ?_) fun c1 => .some ⟨.refl _, fun h => by omega, Int.le_refl _, fun h => by dsimp only; omega⟩
  refine .bind (J1x (by omega) (by omega)) fun y hy => .gt (fun c3 => ?_) fun c3 => by omega
  obtain ⟨b0, b1⟩ := hc.byte y hy.2
  have e1 := Jtk y
  have e2 := JcN c.2 1
  have hd : J6i (c.1, J9 .i64 c.2 1) := hc.to ⟨rfl, by show c.2 ≤ J9 .i64 c.2 1; omega, fun _ => by show J9 .i64 c.2 1 ≤ J5 c.1; omega⟩
  rw [e3]
  refine .bind (Jf3 _ 256 _ hd (Int.le_refl _)) fun z hz => ?_
  have hz2 := hz.2.2.2 (by decide)
  have hz1 := hz.2.2.1
  have hz3 := hz.1.mono
  have hz4 := hz.1.list
  have hz5 := hz.1.hi (by show J9 .i64 c.2 1 ≤ J5 c.1; omega)
  dsimp only at hz3 hz4 hz5
  have e4 := JtP 256 (cvI .i64 y)
  have e5 := JcN (JjP .i64 256 (cvI .i64 y)) z.1
  refine .bind (JqN (show ¬n = 0 by omega)) fun r hr => .some ⟨⟨hz4, by show c.2 ≤ z.2.2; omega, fun _ => hz5⟩, fun _ _ => by show c.2 < z.2.2; omega, ?_, fun _ => ?_⟩
  ·show 0 ≤ r
   rw [hr]; exact Jcz.1 (by omega)
  ·show r < n
   rw [hr]; exact Jcz.2.1 (by omega)
theorem Jrc (l : List Int) (k : Int) (hk : 0 ≤ k) (hk2 : k ≤ 1000000) (hb : ∀ a ∈ l, 0 ≤ a ∧ a ≤ 255) : Tot (J4N (l, k)) fun y => J6i y ∧ y.2 = 0 ∧ J5 y.1 ≤ k := by
 unfold J4N
 dsimp only
 refine .gt (fun c => .bind (JqA hk (by omega)) fun y hy => .some ⟨⟨Int.le_refl _, by show J5 y ≤ 1000000; omega, fun a ha => hb a (by rw [hy.1] at ha; exact List.mem_of_mem_take ha), J1z⟩, rfl, by show J5 y ≤ k; omega⟩)
  fun c => .some ⟨⟨Int.le_refl _, by show J5 l ≤ 1000000; omega, hb, J1z⟩, rfl, by show J5 l ≤ k; omega⟩
theorem J9L (c : T_pagemenddraw_Codes) (hc : J6i c) : Tot (J08 c) fun y => J3h c y.2 ∧ y.1.length = 256 := by
 unfold J08
 refine .bind (Jur (B := 256) (S := 0) (t := .i .u8) (z := (0 : Int)) (Ju1 .u8 0) (by decide) (by decide) (by decide) (by decide)) fun y2 h2 => .bind (JD 256 c hc) fun y3 h3 => ?_
 have hl : J5 y2 = 256 := h2.2
 refine J3o (τ := Int × List Int) (fun q => (cvI .u8 y3.1, q.1, y3.2, q.2)) (fun q => 0 ≤ q.1 ∧ q.1 ≤ 256 ∧ J5 q.2 = 256) (fun q => 256 - q.1) ?_ (0, y2) rfl ⟨Int.le_refl _, by show (0 : Int) ≤ 256; decide, hl⟩
 rintro ⟨i, l⟩ ⟨g1, g2, g3⟩
 dsimp only at g1 g2 g3
 unfold J7t
 dsimp only
 have hll : l.length = 256 := by unfold J5 at g3; omega
 refine .lt (fun c1 => .bind (J6C (by omega) (by omega)) fun _ _ => .bind (P := fun _ => True) ⟨l[i.toNat]'(by omega), List.getElem?_eq_getElem (by omega), trivial⟩ fun _ _ => .some ⟨(J9 .i64 i 1, J3n l i.toNat (cvI .u8 y3.1)), rfl, ?_, ?_⟩) fun c1 => .inr ?_
 ·have := JcN i 1
  refine ⟨?_, ?_, ?_⟩
  ·show 0 ≤ J9 .i64 i 1; omega
  ·show J9 .i64 i 1 ≤ 256; omega
  ·show J5 (J3n l i.toNat _) = 256; rw [JjI]; exact g3
 ·have := JcN i 1
  show 256 - J9 .i64 i 1 < 256 - i ∧ 0 ≤ 256 - i
  omega
 ·refine .bind (JD 256 y3.2 (hc.to h3.1)) fun y7 h7 => .bind (JD 256 y7.2 ((hc.to h3.1).to h7.1)) fun y8 h8 => ?_
  have k7 := h7.2.2.1
  have k8 := h7.2.2.2 (by decide)
  refine .bind (J6C (by omega) (by omega)) fun _ _ => .bind (P := fun _ => True) ⟨l[y7.1.toNat]'(by omega), List.getElem?_eq_getElem (by omega), trivial⟩ fun _ _ => .some ⟨(h3.1.trans h7.1).trans h8.1, ?_⟩
  show (toStr (J3n l y7.1.toNat _)).length = 256
  have e1 : J5 (toStr (J3n l y7.1.toNat (cvI .u8 y8.1))) = 256 := by rw [Jnv, JjI]; exact g3
  unfold J5 at e1
  omega
end Go.Am
end
section
namespace Go.Am
set_option maxRecDepth 20000
set_option linter.unusedVariables false
set_option linter.unusedSimpArgs false
theorem J1B {σ ρ : Type} {L : σ → Option (σ ⊕ ρ)} {Q : ρ → Prop} (e : Int → σ) (n : Int) (I : Int → Prop) (hn : 0 ≤ n) (h0 : I 0)
  (h : ∀ i, 0 ≤ i → i ≤ n → I i → Tot (L (e i)) fun r => match r with | .inl z => z = e (i + 1) ∧ I (i + 1) ∧ i < n | .inr y => Q y) : Tot (Jz L (e 0)) Q := by
 refine J3o (τ := Int) e (fun i => 0 ≤ i ∧ i ≤ n ∧ I i) (fun i => n - i) ?_ 0 rfl ⟨Int.le_refl _, hn, h0⟩
 rintro i ⟨g1, g2, g3⟩
 refine (h i g1 g2 g3).mono fun r hr => ?_
 cases r with
 | inl z => exact ⟨i + 1, hr.1, ⟨by omega, by have := hr.2.2; omega, hr.2.1⟩, by omega, by omega⟩
 | inr y => exact hr
theorem J2t {i : Int} (h0 : 0 ≤ i) (h1 : i < 4611686018427387904) : J9 .i64 i 1 = i + 1 := by have := JcN i 1; omega
theorem JpU {i : Int} (h0 : 0 ≤ i) (h1 : i < 4611686018427387904) : J23 .i64 i 1 = i - 1 := by have := JtV i 1; omega
def J6q (f : FT) : FT × Bool :=
 if f.1 = 1 then ((f.1, f.2.1, 0, 0, 0, 0), true) else if f.1 = 6 then ((f.1, f.2.1, 0, 0, 0, 0), true)
 else if f.1 = 2 then ((f.1, f.2.1, 0, f.2.2.2.1, 0, 0), true) else if f.1 = 3 then ((f.1, f.2.1, 0, 0, f.2.2.2.2.1, 0), true)
 else if f.1 = 4 then ((f.1, f.2.1, f.2.2.1, 0, f.2.2.2.2.1, f.2.2.2.2.2), true) else if f.1 = 5 then ((f.1, f.2.1, f.2.2.1, 0, 0, 0), true)
 else ((f.1, f.2.1, 0, 0, 0, 0), false)
structure J4a (n w : Int) (f : FT) : Prop where
 kind : (J6q f).2 = true
 used : (J6q f).1 = f
 after : w < f.2.1
 most : f.2.1 ≤ 1099511627776
 p0 : 0 ≤ f.2.2.1
 p1 : f.2.2.1 < n
 t0 : 0 ≤ f.2.2.2.1
 t1 : f.2.2.2.1 < n
 b0 : 0 ≤ f.2.2.2.2.1
 b1 : f.2.2.2.2.1 < 256
 mask : f.1 = 4 → ¬f.2.2.2.2.2 = 0
structure VD (x : DT) : Prop where
 p1 : 1 ≤ J5 x.1
 p64 : J5 x.1 ≤ 64
 w0 : 0 ≤ x.2.1
 w1 : x.2.1 ≤ 1099511627776
 f64 : J5 x.2.2.2.2 ≤ 64
 page : ∀ s ∈ x.1, J5 s = 256
 rng : ∀ p ∈ x.2.2.1, 0 ≤ p ∧ p < J5 x.1
 adj : ∀ (i : Nat) a b, x.2.2.1[i]? = some a → x.2.2.1[i + 1]? = some b → a < b
 flt : ∀ f ∈ x.2.2.2.2, J4a (J5 x.1) x.2.1 f
theorem Jo2 (f : FT) : J2n f = some (J6q f) := by
 unfold J2n J6q
 simp only [eqI, decide_eq_true_eq]
 repeat' split
 all_goals rfl
theorem Jlp (x : DT) (f : FT) : Tot (J0K (x, f)) fun y => (y = true ↔ J4a (J5 x.1) x.2.1 f) := by
 unfold J0K J0d
 dsimp only
 rw [Jo2]
 refine .bind (Jc rfl) fun y2 e => ?_
 subst e
 have no : ∀ {p : Prop}, ¬p → (false = true ↔ p) := fun h => ⟨nofun, fun k => absurd k h⟩
 refine .ite (fun k => .by J77 (fun c1 => .gt (fun c2 => .le (fun c3 => ?_) fun c => .some (no fun h => c h.most)) fun c => .some (no fun h => c h.after)) fun c => .some (no fun h => c h.used)) fun k => .some (no fun h => by rw [h.kind] at k; cases k)
 refine .bind (P := fun y => (y = true ↔ 0 ≤ f.2.2.1 ∧ f.2.2.1 < J5 x.1)) (.ge (fun c => .some (J6V.trans ⟨fun h => ⟨c, h⟩, fun h => h.2⟩)) fun c => .some (no fun h => c h.1)) fun y3 h3 => ?_
 refine .by h3 (fun c4 => ?_) fun c => .some (no fun h => c ⟨h.p0, h.p1⟩)
 refine .bind (P := fun y => (y = true ↔ 0 ≤ f.2.2.2.1 ∧ f.2.2.2.1 < J5 x.1)) (.ge (fun c => .some (J6V.trans ⟨fun h => ⟨c, h⟩, fun h => h.2⟩)) fun c => .some (no fun h => c h.1)) fun y4 h4 => ?_
 refine .by h4 (fun c5 => ?_) fun c => .some (no fun h => c ⟨h.t0, h.t1⟩)
 refine .ge (fun c6 => .lt (fun c7 => .nef (fun c8 => .some (Jar.trans ⟨fun h => ?_, fun h => h.mask c8⟩)) fun c8 => .some ⟨fun _ => ?_, fun _ => rfl⟩) fun c => .some (no fun h => c h.b1)) fun c => .some (no fun h => c h.b0)
 ·exact ⟨k, c1, c2, c3, c4.1, c4.2, c5.1, c5.2, c6, c7, fun _ => h⟩
 ·exact ⟨k, c1, c2, c3, c4.1, c4.2, c5.1, c5.2, c6, c7, fun h => absurd h c8⟩
theorem JeD (x : DT) (f : FT) : Tot (J1I (x, f)) fun y => (y = true ↔ J4a (J5 x.1) x.2.1 f) := by
 unfold J1I
 dsimp only
 have no : ∀ {p : Prop}, ¬p → (false = true ↔ p) := fun h => ⟨nofun, fun k => absurd k h⟩
 refine .lef (fun c1 => .gtf (fun c2 => .ltf (fun c3 => .gef (fun c4 => .ltf (fun c5 => .gef (fun c6 => .ltf (fun c7 => .ge (fun c => .some (no fun h => by have := h.b1; omega)) fun c8 => ?_) ?_) ?_) ?_) ?_) ?_) ?_) ?_
 ·have mk : ∀ u : FT × Bool, J6q f = u → u.2 = true → (f.1 = 4 → ¬f.2.2.2.2.2 = 0) → ∀ y, (y = true ↔ f = u.1) → (y = true ↔ J4a (J5 x.1) x.2.1 f) := by
   rintro u rfl hu hm y hy
   exact hy.trans ⟨fun h => ⟨hu, h.symm, by omega, by omega, by omega, by omega, by omega, by omega, by omega, by omega, hm⟩, fun h => h.used.symm⟩
  refine .eq (fun d1 => .some (mk (_, true) (by simp [J6q, d1]) rfl (fun h => by omega) _ J77)) fun d1 => .eq (fun d2 => .some (mk (_, true) (by simp [J6q, d2]) rfl (fun h => by omega) _ J77)) fun d2 =>
   .eq (fun d3 => .some (mk (_, true) (by simp [J6q, d3]) rfl (fun h => by omega) _ J77)) fun d3 => .eq (fun d4 => .some (mk (_, true) (by simp [J6q, d4]) rfl (fun h => by omega) _ J77)) fun d4 =>
   .eq (fun d5 => .eq (fun d => .some (no fun h => h.mask d5 d)) fun d => .some (mk (_, true) (by simp [J6q, d5]) rfl (fun _ => d) _ J77)) fun d5 => .eq (fun d6 => .some (mk (_, true) (by simp [J6q, d6]) rfl (fun h => by omega) _ J77)) fun d6 => .some (no fun h => ?_)
  have := h.kind
  simp [J6q, d1, d2, d3, d4, d5, d6] at this
 all_goals intro c; exact .some (no fun h => by have := h.1; have := h.after; have := h.most; have := h.p0; have := h.p1; have := h.t0; have := h.t1; have := h.b0; omega)
theorem JjQ {α : Type} (l : List α) : (J5 l).toNat = l.length := by unfold J5; omega
theorem JoG (l : List (List UInt8)) (hl : J5 l ≤ 1000000) : Tot (JH l) fun y => (y = true ↔ ¬∀ s ∈ l, J5 s = 256) := by
 unfold JH J04
 refine .bind (P := fun y => (0 ≤ y ↔ ¬∀ s ∈ l, J5 s = 256)) ?_ fun y h => .some (J7L.trans h)
 refine J1B (fun i => (l, J5 l, i)) (J5 l) (fun i => J9d (fun s => J5 s = 256) l i) J1z J8g fun i g1 g2 g3 => ?_
 unfold J2N J2B
 dsimp only
 refine .lt (fun c => .bind (J1x g1 c).eqn fun a ha => .bind (Jc rfl) fun y e => ?_) fun c => .some ⟨fun h => absurd h (show ¬(0:Int) ≤ -1 by decide), fun h => absurd (J6K g3 c) h⟩
 subst e
 refine .ne (fun d => .some ⟨fun _ h => d (h a ha.1.2), fun _ => g1⟩) fun d => .some ⟨by rw [J2t g1 (by omega)], J5h g3 ha.2 d rfl, c⟩
theorem Jqn (x : DT) (l : List FT) (hl : J5 l ≤ 1000000) : Tot (Jx (l, x)) fun y => (y.1 = true ↔ ¬∀ f ∈ l, J4a (J5 x.1) x.2.1 f) := by
 unfold Jx JK
 dsimp only
 refine .bind (P := fun y => (0 ≤ y.1 ↔ ¬∀ f ∈ l, J4a (J5 x.1) x.2.1 f)) ?_ fun y h => .some (J7L.trans h)
 refine J1B (fun i => (l, J5 l, i, x)) (J5 l) (fun i => J9d (J4a (J5 x.1) x.2.1) l i) J1z J8g fun i g1 g2 g3 => ?_
 unfold J2a J2A
 dsimp only
 refine .lt (fun c => .bind (J1x g1 c).eqn fun a ha => .bind (P := fun z => (z.1 = true ↔ ¬J4a (J5 x.1) x.2.1 a) ∧ z.2 = x) (.bind (Jlp x a) fun y hy => .some ⟨by unfold J0A; rw [← hy]; cases y <;> simp, rfl⟩) fun y e => ?_)
  fun c => .some ⟨fun h => absurd h (show ¬(0:Int) ≤ -1 by decide), fun h => absurd (J6K g3 c) h⟩
 refine .by e.1 (fun d => .some ⟨fun _ h => d (h a ha.1.2), fun _ => g1⟩) fun d => .some ⟨by rw [J2t g1 (by omega), e.2], J5h g3 ha.2 (Classical.not_not.1 (fun h => d h)) rfl, c⟩
structure Asc (n : Int) (l : List Int) (i : Int) : Prop where
 rng : J9d (fun p => 0 ≤ p ∧ p < n) l i
 adj : ∀ (j : Nat) a b, ((j : Int) + 1 < i) → l[j]? = some a → l[j + 1]? = some b → a < b
theorem Asc.next {n : Int} {l : List Int} {i b : Int} (h : Asc n l i) (e : idx l i = some b) (hb : 0 ≤ b ∧ b < n) (hp : 0 < i → ∀ a, l[(i - 1).toNat]? = some a → a < b) : Asc n l (i + 1) := by
 obtain ⟨e0, e1⟩ := Joj e
 refine ⟨J5h h.rng e hb rfl, fun j a b' hj ha hb' => ?_⟩
 by_cases hji : (j : Int) + 1 < i
 ·exact h.adj j a b' hji ha hb'
 ·have e2 : j + 1 = i.toNat := by omega
  rw [e2, e1] at hb'
  injection hb' with hb'; subst hb'
  refine hp (by omega) a ?_
  rw [show (i - 1).toNat = j by omega]; exact ha
theorem Asc.all {n : Int} {l : List Int} {i : Int} (h : Asc n l i) (hi : ¬i < J5 l) : (∀ p ∈ l, 0 ≤ p ∧ p < n) ∧ ∀ (j : Nat) a b, l[j]? = some a → l[j + 1]? = some b → a < b :=
 ⟨J6K h.rng hi, fun j a b ha hb => h.adj j a b (by have := (List.getElem?_eq_some_iff.1 hb).1; unfold J5 at hi; omega) ha hb⟩
theorem J8e (x : DT) (hu : J5 x.2.2.1 ≤ 1000000000000) : Tot (JQ x) fun y => (y = true ↔ VD x) := by
 unfold JQ
 have no : ∀ {p : Prop}, ¬p → (false = true ↔ p) := fun h => ⟨nofun, fun k => absurd k h⟩
 refine .ltf (fun c1 => .gtf (fun c2 => .ltf (fun c3 => .gtf (fun c4 => .gt (fun c => .some (no fun h => by have := h.f64; omega)) fun c5 => ?_) fun c => .some (no fun h => by have := h.w1; omega)) fun c => .some (no fun h => by have := h.w0; omega)) fun c => .some (no fun h => by have := h.p64; omega)) fun c => .some (no fun h => by have := h.p1; omega)
 refine J1B (fun i => (x.2.2.1, J5 x.2.2.1, i, x)) (J5 x.2.2.1) (fun i => Asc (J5 x.1) x.2.2.1 i) J1z ⟨J8g, fun j a b h => by omega⟩ fun i g1 g2 g3 => ?_
 unfold J93 J0d
 dsimp only
 refine .lt (fun c => .bind (J1x g1 c).eqn fun b hb => ?_) fun c => .inr ?_
 ·refine .bind (P := fun y => (y = true ↔ 0 ≤ b ∧ b < J5 x.1)) (.ge (fun c => .some (J6V.trans ⟨fun h => ⟨c, h⟩, fun h => h.2⟩)) fun c => .some (no fun h => c h.1)) fun y4 h4 => ?_
  refine .nof (fun k => ?_) fun k => .some (no fun h => by rw [h4.2 (h.rng b hb.1.2)] at k; cases k)
  refine .gt (fun d => ?_) fun d => .some ⟨by rw [J2t g1 (by omega)], g3.next hb.2 (h4.1 k) (fun h => absurd h d), c⟩
  rw [JpU g1 (by omega)]
  refine .bind (J1x (show 0 ≤ i - 1 by omega) (by omega)) fun a ha => .ge (fun d2 => .some (no fun h => ?_)) fun d2 => .some ⟨by rw [J2t g1 (by omega)], g3.next hb.2 (h4.1 k) (fun _ a' ha' => by rw [ha.1] at ha'; injection ha' with ha'; omega), c⟩
  have := h.adj (i - 1).toNat a b ha.1 (by rw [show (i - 1).toNat + 1 = i.toNat by omega]; exact hb.1.1)
  omega
 ·obtain ⟨r1, r2⟩ := g3.all c
  refine .bind (JoG x.1 (by omega)) fun y6 h6 => .not (fun k => ?_) fun k => .some (no fun h => h6.1 k h.page)
  have hpg : ∀ s ∈ x.1, J5 s = 256 := Classical.not_not.1 fun h => by rw [h6.2 h] at k; cases k
  refine .bind (Jqn x x.2.2.2.2 (by omega)) fun y7 h7 => .some ?_
  unfold J0A
  constructor
  ·intro h
   refine ⟨by omega, by omega, by omega, by omega, by omega, hpg, r1, r2, Classical.not_not.1 fun h' => ?_⟩
   rw [h7.2 h'] at h; cases h
  ·intro h
   cases hy : y7.1 with
   | false => rfl
   | true => exact absurd h.flt (h7.1 hy)
theorem J8D (x : DT) (hu : J5 x.2.2.1 ≤ 1000000000000) : Tot (J01 x) fun y => (y = true ↔ VD x) := by
 unfold J01
 have no : ∀ {p : Prop}, ¬p → (false = true ↔ p) := fun h => ⟨nofun, fun k => absurd k h⟩
 refine .ltf (fun c1 => .gtf (fun c2 => .ltf (fun c3 => .gtf (fun c4 => .gt (fun c => .some (no fun h => by have := h.f64; omega)) fun c5 => ?_) fun c => .some (no fun h => by have := h.w1; omega)) fun c => .some (no fun h => by have := h.w0; omega)) fun c => .some (no fun h => by have := h.p64; omega)) fun c => .some (no fun h => by have := h.p1; omega)
 refine J1B (fun i => (J5 x.1, i, x)) (J5 x.1) (fun i => J9d (fun s => J5 s = 256) x.1 i) J1z J8g fun i g1 g2 g3 => ?_
 unfold J9P
 dsimp only
 refine .lt (fun c => .bind (J1x g1 c).eqn fun a ha => .ne (fun d => .some (no fun h => d (h.page a ha.1.2))) fun d => .some ⟨by rw [J2t g1 (by omega)], J5h g3 ha.2 d rfl, c⟩) fun c => .inr ?_
 have hpg := J6K g3 c
 refine J1B (fun i => (J5 x.1, i, x)) (J5 x.2.2.1) (fun i => Asc (J5 x.1) x.2.2.1 i) J1z ⟨J8g, fun j a b h => by omega⟩ fun i g1 g2 g3 => ?_
 unfold J9H
 dsimp only
 refine .lt (fun c => .bind (J1x g1 c).eqn fun b hb => ?_) fun c => .inr ?_
 ·refine .ltf (fun d1 => .bind (Jc hb.2) fun b' e => ?_) fun d1 => .some (no fun h => by have := h.rng b hb.1.2; omega)
  subst e
  refine .gef (fun d2 => .gt (fun d => ?_) fun d => .some ⟨by rw [J2t g1 (by omega)], g3.next hb.2 ⟨by omega, by omega⟩ (fun h => absurd h d), c⟩) fun d2 => .some (no fun h => by have := h.rng _ hb.1.2; omega)
  rw [JpU g1 (by omega)]
  refine .bind (J1x (show 0 ≤ i - 1 by omega) (by omega)) fun a ha => .bind (Jc hb.2) fun b' e => ?_
  subst e
  refine .ge (fun d2 => .some (no fun h => ?_)) fun d2 => .some ⟨by rw [J2t g1 (by omega)], g3.next hb.2 ⟨by omega, by omega⟩ (fun _ a' ha' => by rw [ha.1] at ha'; injection ha' with ha'; omega), c⟩
  have := h.adj (i - 1).toNat a _ ha.1 (by rw [show (i - 1).toNat + 1 = i.toNat by omega]; exact hb.1.1)
  omega
 ·obtain ⟨r1, r2⟩ := g3.all c
  refine J1B (fun i => (i, x)) (J5 x.2.2.2.2) (fun i => J9d (J4a (J5 x.1) x.2.1) x.2.2.2.2 i) J1z J8g fun i g1 g2 g3 => ?_
  unfold J9t
  dsimp only
  refine .lt (fun c => .bind (J1x g1 c).eqn fun a ha => .bind (JeD x a) fun y hy => .not (fun k => .some (no fun h => by rw [hy.2 (h.flt a ha.1.2)] at k; cases k)) fun k => .some ⟨by rw [J2t g1 (by omega)], J5h g3 ha.2 (hy.1 k) rfl, c⟩)
   fun c => .some ⟨fun _ => ⟨by omega, by omega, by omega, by omega, by omega, hpg, r1, r2, J6K g3 c⟩, fun _ => rfl⟩
end Go.Am
end
section
namespace Go.Am
set_option maxRecDepth 20000
set_option linter.unusedVariables false
set_option linter.unusedSimpArgs false
noncomputable section
open Classical
def J4P : DT := ([], 0, [], false, [])
def J1R : List UInt8 := List.replicate 256 0
def usD (x : DT) (p : Int) : Int := if VD x then if x.2.2.2.1 = true then 10 else if 0 ≤ p ∧ p < J5 x.1 then 0 else 1 else 15
theorem Jjj {x : DT} {p : Int} (hv : VD x) (hd : x.2.2.2.1 = false) : usD x p = if 0 ≤ p ∧ p < J5 x.1 then 0 else 1 := by
 unfold usD
 rw [if_pos hv, if_neg (by rw [hd]; decide)]
theorem Jjz {x : DT} {p : Int} (hv : VD x) (hd : x.2.2.2.1 = true) : usD x p = 10 := by
 unfold usD
 rw [if_pos hv, if_pos hd]
theorem JlC {x : DT} {p : Int} (hv : ¬VD x) : usD x p = 15 := by
 unfold usD
 rw [if_neg hv]
theorem JiW (x : DT) (p : Int) (hu : J5 x.2.2.1 ≤ 1000000000000) : J0n (x, p) = some (usD x p) := by
 refine J1w ?_
 unfold J0n J0d
 dsimp only
 refine .bind (J8e x hu) fun y hy => .not (fun k => .some ?_) fun k => ?_
 ·rw [JlC fun h => by rw [hy.2 h] at k; cases k]
 ·refine .ite (fun d => .some (by rw [Jjz (hy.1 k) d])) fun d => ?_
  rw [Jjj (hy.1 k) d]
  refine .bind (P := fun y => (y = true ↔ 0 ≤ p ∧ p < J5 x.1)) (.ge (fun c => .some (J6V.trans ⟨fun h => ⟨c, h⟩, fun h => h.2⟩)) fun c => .some ⟨nofun, fun h => absurd h.1 c⟩) fun y3 h3 => ?_
  refine .not (fun k => .some ?_) fun k => .some ?_
  ·rw [if_neg fun h => by rw [h3.2 h] at k; cases k]
  ·rw [if_pos (h3.1 k)]
theorem JgB (x : DT) (p : Int) (hu : J5 x.2.2.1 ≤ 1000000000000) : J0z (x, p) = some (usD x p) := by
 refine J1w ?_
 unfold J0z
 dsimp only
 refine .bind (J8D x hu) fun y hy => .not (fun k => .some ?_) fun k => ?_
 ·rw [JlC fun h => by rw [hy.2 h] at k; cases k]
 ·refine .ite (fun d => .some (by rw [Jjz (hy.1 k) d])) fun d => ?_
  rw [Jjj (hy.1 k) d]
  exact .ltf (fun c => .ge (fun c2 => .some (if_neg (by omega)).symm) fun c2 => .some (if_pos (by omega)).symm) fun c => .some (if_neg (by omega)).symm
def Jcg (n : Int) : DT × Int := if 1 ≤ n ∧ n ≤ 64 then ((List.replicate n.toNat J1R, 0, [], false, []), 0) else (J4P, 1)
theorem Joz : J3z ([0], 256) = some J1R := by decide +kernel
theorem Jha (n : Int) (h0 : 1 ≤ n) (h1 : n ≤ 64) : J1n n = some (List.replicate n.toNat J1R) := by
 unfold J1n
 rw [Joz]
 show Option.bind (Jgh ([J1R], n)) _ = _
 unfold Jgh
 dsimp only
 rw [if_pos ⟨h0, by omega⟩]
 rfl
theorem Jot (n : Int) : J24 n = some (Jcg n) := by
 refine J1w ?_
 unfold J24 Jcg
 refine .ltf (fun c => .gt (fun d => .some (by rw [if_neg (by omega)]; rfl)) fun d => ?_) fun c => .some (by rw [if_neg (by omega)]; rfl)
 rw [if_pos ⟨by omega, by omega⟩]
 exact .bind (Jc (Jha n (by omega) (by omega))) fun y e => .some (by rw [e])
theorem JoY : (mkS 1 256 256 0 : Option (List Int)) = some (List.replicate 256 0) := rfl
theorem JnB : toStr (List.replicate 256 0) = J1R := by decide +kernel
theorem JfI (n : Int) (h0 : 1 ≤ n) (h1 : n ≤ 64) : J1r n = some (List.replicate n.toNat J1R) := by
 refine J1w ?_
 unfold J1r
 have : ([] : List (List UInt8)) = List.replicate (0 : Int).toNat J1R := rfl
 rw [this]
 refine J1B (fun i => (n, i, List.replicate i.toNat J1R)) n (fun i => True) (by omega) trivial fun i g1 g2 _ => ?_
 unfold J9e
 dsimp only
 refine .lt (fun c => .bind (Jc JoY) fun y e => ?_) fun c => .some (by rw [show i = n by omega])
 subst e
 rw [JnB]
 refine .bind (Jc (v := List.replicate i.toNat J1R ++ [J1R]) ?_) fun y e => .some ⟨?_, trivial, c⟩
 ·unfold J1V
  have hr : J1e ((List.replicate i.toNat J1R).length + [J1R].length) 16 = true := by
   unfold J1e
   simp only [List.length_replicate, List.length_singleton, decide_eq_true_eq]
   omega
  rw [if_pos hr]
 ·subst e
  rw [J2t g1 (by omega), show (i + 1).toNat = i.toNat + 1 by omega, List.replicate_succ']
theorem Jmb (n : Int) : J2j n = some (Jcg n) := by
 refine J1w ?_
 unfold J2j Jcg
 refine .ltf (fun c => .gt (fun d => .some (by rw [if_neg (by omega)]; rfl)) fun d => ?_) fun c => .some (by rw [if_neg (by omega)]; rfl)
 rw [if_pos ⟨by omega, by omega⟩]
 exact .bind (Jc (JfI n (by omega) (by omega))) fun y e => .some (by rw [e])
theorem JnZ : J1R.length = 256 := List.length_replicate
theorem Jed (n : Nat) (w : Int) (h1 : 1 ≤ n) (h2 : n ≤ 64) (hw : 0 ≤ w) (hw1 : w ≤ 1099511627776) : VD (List.replicate n J1R, w, [], false, []) where
 p1 := by show 1 ≤ J5 _; unfold J5; rw [List.length_replicate]; omega
 p64 := by show J5 _ ≤ 64; unfold J5; rw [List.length_replicate]; omega
 w0 := hw
 w1 := hw1
 f64 := by show J5 ([] : List FT) ≤ 64; decide
 page := fun s hs => by rw [List.eq_of_mem_replicate hs]; unfold J5; rw [JnZ]; rfl
 rng := fun p hp => by cases hp
 adj := fun i a b h => by simp at h
 flt := fun f hf => by cases hf
def JbL (x : DT) (f : FT) : DT × Int := if VD x then if J4a (J5 x.1) x.2.1 f then if J5 x.2.2.2.2 = 64 then (J4P, 21) else ((x.1, x.2.1, x.2.2.1, x.2.2.2.1, x.2.2.2.2 ++ [f]), 0) else (J4P, 1) else (J4P, 15)
theorem Jey (l : List FT) (h : J5 l ≤ 100) : cloS 48 l = some l := by
 unfold cloS
 have : J1e l.length 48 = true := by unfold J1e; unfold J5 at h; simp only [decide_eq_true_eq]; omega
 rw [if_pos this]
theorem JlP (l : List Int) (h : J5 l ≤ 1000000) : cloS 8 l = some l := by
 unfold cloS
 have : J1e l.length 8 = true := by unfold J1e; unfold J5 at h; simp only [decide_eq_true_eq]; omega
 rw [if_pos this]
theorem Jlt (l : List (List UInt8)) (h : J5 l ≤ 1000000) : cloS 16 l = some l := by
 unfold cloS
 have : J1e l.length 16 = true := by unfold J1e; unfold J5 at h; simp only [decide_eq_true_eq]; omega
 rw [if_pos this]
theorem JcO (l m : List FT) (h : J5 l ≤ 100) (h2 : J5 m ≤ 100) : J1V 48 l m = some (l ++ m) := by
 unfold J1V
 have : J1e (l.length + m.length) 48 = true := by unfold J1e; unfold J5 at h h2; simp only [decide_eq_true_eq]; omega
 rw [if_pos this]
theorem JoH (x : DT) (f : FT) (hu : J5 x.2.2.1 ≤ 1000000000000) : J0Q (x, f) = some (JbL x f) := by
 refine J1w ?_
 unfold J0Q JbL
 dsimp only
 refine .bind (J8e x hu) fun y hy => .not (fun k => .some ?_) fun k => ?_
 ·rw [if_neg fun h => by rw [hy.2 h] at k; cases k]; rfl
 have hv := hy.1 k
 rw [if_pos hv]
 refine .bind (Jlp x f) fun y hy => .not (fun k => .some ?_) fun k => ?_
 ·rw [if_neg fun h => by rw [hy.2 h] at k; cases k]; rfl
 rw [if_pos (hy.1 k)]
 refine .eq (fun c => .some (by rw [if_pos c]; rfl)) fun c => ?_
 rw [if_neg c]
 have := hv.f64
 refine .bind (Jc (Jey _ (by omega))) fun y e => ?_
 subst e
 exact .bind (Jc (JcO _ _ (by omega) (show (1 : Int) ≤ 100 by decide))) fun y e => .some (by rw [e])
def JcI (x : DT) (p : Int) : List UInt8 × Int := if usD x p = 0 then if p ∈ x.2.2.1 then ([], 11) else (x.1.getD p.toNat [], 0) else ([], usD x p)
theorem J7V {x : DT} {p : Int} (h : usD x p = 0) : VD x ∧ x.2.2.2.1 = false ∧ 0 ≤ p ∧ p < J5 x.1 := by
 unfold usD at h
 split at h
 ·rename_i hv
  split at h
  ·cases h
  ·rename_i hd
   split at h
   ·rename_i hp; exact ⟨hv, by cases hx : x.2.2.2.1 <;> simp_all, hp.1, hp.2⟩
   ·cases h
 ·cases h
theorem JqW {x : DT} {p : Int} (hv : VD x) (hd : x.2.2.2.1 = false) (h0 : 0 ≤ p) (h1 : p < J5 x.1) : usD x p = 0 := by
 unfold usD
 rw [if_pos hv, if_neg (by rw [hd]; decide), if_pos ⟨h0, h1⟩]
theorem Jrh (l : List Int) (p : Int) (hl : J5 l ≤ 1000000000000) : Tot (J0v (l, p)) fun y => (y = true ↔ p ∈ l) := by
 unfold J0v J1m
 refine .bind (P := fun y => (0 ≤ y ↔ p ∈ l)) ?_ fun y h => .some (J7L.trans h)
 refine J1B (fun i => (l, p, J5 l, i)) (J5 l) (fun i => J9d (fun a => ¬p = a) l i) J1z J8g fun i g1 g2 g3 => ?_
 unfold J5m
 dsimp only
 refine .lt (fun c => .bind (J1x g1 c).eqn fun a ha => .eq (fun d => .some ⟨fun _ => d ▸ ha.1.2, fun _ => g1⟩) fun d => .some ⟨by rw [J2t g1 (by omega)], J5h g3 ha.2 d rfl, c⟩)
  fun c => .some ⟨fun h => absurd h (show ¬(0 : Int) ≤ -1 by decide), fun h => absurd rfl (J6K g3 c p h)⟩
theorem Jpe (l : List Int) (p : Int) (hl : J5 l ≤ 1000000000000) : Tot (J4e (l, p)) fun y => (y = true ↔ p ∈ l) := by
 unfold J4e
 refine J1B (fun i => (l, p, i)) (J5 l) (fun i => J9d (fun a => ¬a = p) l i) J1z J8g fun i g1 g2 g3 => ?_
 unfold Jbq
 dsimp only
 refine .lt (fun c => .bind (J1x g1 c).eqn fun a ha => .eq (fun d => .some ⟨fun _ => d ▸ ha.1.2, fun _ => rfl⟩) fun d => .some ⟨by rw [J2t g1 (by omega)], J5h g3 ha.2 d rfl, c⟩)
  fun c => .some ⟨nofun, fun h => absurd rfl (J6K g3 c p h)⟩
theorem JfM {α : Type} {l : List α} {i : Nat} {a d : α} (h : l[i]? = some a) : l.getD i d = a := by rw [List.getD_eq_getElem?_getD, h]; rfl
theorem Jle (x : DT) (p : Int) (hu : J5 x.2.2.1 ≤ 1000000000000) : J1i (x, p) = some (JcI x p) := by
 refine J1w ?_
 unfold J1i JcI
 dsimp only
 refine .bind (Jc (JiW x p hu)) fun y e => ?_
 subst e
 refine .ne (fun c => .some (by rw [if_neg c])) fun c => ?_
 rw [if_pos c]
 obtain ⟨hv, _, h0, h1⟩ := J7V c
 refine .bind (Jrh _ p hu) fun y hy => .ite (fun k => .some (by rw [if_pos (hy.1 k)])) fun k => ?_
 rw [if_neg fun h => by rw [hy.2 h] at k; cases k]
 exact .bind (J1x h0 h1) fun a ha => .some (by rw [JfM ha.1])
theorem Jq2 (x : DT) (p : Int) (hu : J5 x.2.2.1 ≤ 1000000000000) : J2R (x, p) = some (JcI x p) := by
 refine J1w ?_
 unfold J2R JcI
 dsimp only
 refine .bind (Jc (JgB x p hu)) fun y e => ?_
 subst e
 refine .ne (fun c => .some (by rw [if_neg c])) fun c => ?_
 rw [if_pos c]
 obtain ⟨hv, _, h0, h1⟩ := J7V c
 refine .bind (Jpe _ p hu) fun y hy => .ite (fun k => .some (by rw [if_pos (hy.1 k)])) fun k => ?_
 rw [if_neg fun h => by rw [hy.2 h] at k; cases k]
 exact .bind (J1x h0 h1) fun a ha => .some (by rw [JfM ha.1])
end
end Go.Am
end
section
namespace Go.Am
set_option maxRecDepth 20000
set_option linter.unusedVariables false
set_option linter.unusedSimpArgs false
noncomputable section
open Classical
theorem Jf2 : ∀ (l : List Int), (∀ (i : Nat) a b, l[i]? = some a → l[i + 1]? = some b → a < b) → l.Pairwise (· < ·)
 | [], _ => .nil
 | [a], _ => List.pairwise_singleton _ _
 | a :: b :: l, h => by
  have ih := Jf2 (b :: l) fun i x y hx hy => h (i + 1) x y (by simpa using hx) (by simpa using hy)
  have hab : a < b := h 0 a b rfl rfl
  refine List.pairwise_cons.2 ⟨fun c hc => ?_, ih⟩
  rcases List.mem_cons.1 hc with rfl | hc
  ·exact hab
  ·exact Int.lt_trans hab ((List.pairwise_cons.1 ih).1 c hc)
theorem Jna {l : List Int} (h : l.Pairwise (· < ·)) (i : Nat) (a b : Int) (ha : l[i]? = some a) (hb : l[i + 1]? = some b) : a < b := by
 obtain ⟨h1, rfl⟩ := List.getElem?_eq_some_iff.1 ha
 obtain ⟨h2, rfl⟩ := List.getElem?_eq_some_iff.1 hb
 exact List.pairwise_iff_getElem.1 h i (i + 1) h1 h2 (Nat.lt_succ_self _)
theorem JlQ (p : Int) : ∀ {l : List Int}, l.Pairwise (· < ·) → l.take (l.countP (· < p)) = l.filter (· < p) ∧ l.drop (l.countP (· < p)) = l.filter (fun a => !(decide (a < p)))
 | [], _ => ⟨rfl, rfl⟩
 | a :: l, h => by
  obtain ⟨h1, h2⟩ := List.pairwise_cons.1 h
  obtain ⟨i1, i2⟩ := JlQ p h2
  by_cases ha : a < p
  ·simp only [List.countP_cons, ha, decide_true, if_true, List.take_succ_cons, List.drop_succ_cons, List.filter_cons, Bool.not_true, Bool.false_eq_true, if_false]
   exact ⟨by rw [i1], by rw [i2]⟩
  ·have hn : ∀ b ∈ a :: l, ¬b < p := fun b hb => by
    rcases List.mem_cons.1 hb with rfl | hb
    ·exact ha
    ·have := h1 b hb; omega
   have h0 : (a :: l).countP (fun b => decide (b < p)) = 0 := List.countP_eq_zero.2 fun b hb => by simpa using hn b hb
   rw [h0]
   refine ⟨?_, ?_⟩
   ·rw [List.take_zero]; exact (List.filter_eq_nil_iff.2 fun b hb => by simpa using hn b hb).symm
   ·rw [List.drop_zero]; exact (List.filter_eq_self.2 fun b hb => by simpa using hn b hb).symm
def J7H (l : List Int) (p : Int) : List Int := l.filter (· < p) ++ p :: l.filter (p < ·)
theorem Jr6 {l : List Int} {p : Int} (h : l.Pairwise (· < ·)) (hp : p ∉ l) : l.take (l.countP (· < p)) ++ p :: l.drop (l.countP (· < p)) = J7H l p := by
 obtain ⟨h1, h2⟩ := JlQ p h
 rw [h1, h2]
 unfold J7H
 congr 2
 refine List.filter_congr fun b hb => ?_
 have : b ≠ p := fun e => hp (e ▸ hb)
 by_cases hb' : b < p
 ·simp only [hb', decide_true, Bool.not_true]; exact (decide_eq_false (by omega)).symm
 ·simp only [hb', decide_false, Bool.not_false]; exact (decide_eq_true (by omega)).symm
theorem Jsf {l : List Int} {p : Int} (h : l.Pairwise (· < ·)) : (J7H l p).Pairwise (· < ·) := by
 unfold J7H
 refine List.pairwise_append.2 ⟨h.filter _, List.pairwise_cons.2 ⟨fun b hb => by simpa using (List.mem_filter.1 hb).2, h.filter _⟩, fun a ha b hb => ?_⟩
 have h1 : a < p := by simpa using (List.mem_filter.1 ha).2
 rcases List.mem_cons.1 hb with rfl | hb
 ·exact h1
 ·have h2 : p < b := by simpa using (List.mem_filter.1 hb).2
  omega
theorem JlX : ∀ {l : List Int} {p : Int}, l.Pairwise (· < ·) → p ∈ l → J7H l p = l
 | [], _, _, h => by cases h
 | a :: l, p, h, hp => by
  obtain ⟨h1, h2⟩ := List.pairwise_cons.1 h
  unfold J7H
  by_cases e : p = a
  ·subst e
   have e1 : (p :: l).filter (· < p) = [] := List.filter_eq_nil_iff.2 fun b hb => by
    rcases List.mem_cons.1 hb with rfl | hb
    ·simp
    ·have := h1 b hb; simp; omega
   have e2 : (p :: l).filter (p < ·) = l := by
    rw [List.filter_cons, if_neg (by simp)]
    exact List.filter_eq_self.2 fun b hb => by simpa using h1 b hb
   rw [e1, e2]; rfl
  ·have hp' : p ∈ l := (List.mem_cons.1 hp).resolve_left e
   have hap : a < p := h1 p hp'
   rw [List.filter_cons, if_pos (by simpa using hap), List.filter_cons, if_neg (by simp; omega)]
   have := JlX h2 hp'
   unfold J7H at this
   rw [List.cons_append, this]
theorem JrW {l : List Int} {p a : Int} (h : a ∈ J7H l p) : a = p ∨ a ∈ l := by
 unfold J7H at h
 rcases List.mem_append.1 h with h | h
 ·exact .inr (List.mem_filter.1 h).1
 ·rcases List.mem_cons.1 h with h | h
  ·exact .inl h
  ·exact .inr (List.mem_filter.1 h).1
structure VP (n : Int) (y : DT) : Prop where
 len : J5 y.1 = n
 page : ∀ s ∈ y.1, s.length = 256
 rng : ∀ p ∈ y.2.2.1, 0 ≤ p ∧ p < n
 srt : y.2.2.1.Pairwise (· < ·)
theorem VD.vp {x : DT} (h : VD x) : VP (J5 x.1) x := ⟨rfl, fun s hs => by have := h.page s hs; unfold J5 at this; omega, h.rng, Jf2 _ h.adj⟩
theorem Jma : ∀ (l : List Int) (n : Nat), l.Pairwise (· < ·) → (∀ p ∈ l, 0 ≤ p ∧ p < (n : Int)) → l.length ≤ n := by
 intro l n h hr
 have key : ∀ (l : List Int) (k : Int), l.Pairwise (· < ·) → (∀ p ∈ l, k ≤ p ∧ p < (n : Int)) → (l.length : Int) ≤ max 0 (n - k) := by
  intro l
  induction l with
  | nil => intro k _ _; simp; omega
  | cons a l ih =>
   intro k h hr
   obtain ⟨h1, h2⟩ := List.pairwise_cons.1 h
   have ha := hr a List.mem_cons_self
   have := ih (a + 1) h2 fun p hp => ⟨by have := h1 p hp; omega, (hr p (List.mem_cons_of_mem _ hp)).2⟩
   rw [List.length_cons]
   omega
 have := key l 0 h hr
 omega
theorem VD.unr {x : DT} (h : VD x) : J5 x.2.2.1 ≤ 64 := by
 have := Jma x.2.2.1 x.1.length h.vp.srt (fun p hp => h.rng p hp)
 have := h.p64
 unfold J5 at *; omega
theorem VP.unr {n : Int} {y : DT} (h : VP n y) (hn : n ≤ 64) : y.2.2.1.length ≤ 64 := by
 have hl := h.len
 have := Jma y.2.2.1 y.1.length h.srt (fun p hp => by have := h.rng p hp; unfold J5 at hl; omega)
 unfold J5 at hl; omega
theorem VP.set {n : Int} {y : DT} (h : VP n y) (t : Nat) {s : List UInt8} (hs : s.length = 256) : VP n (J4z y t s) where
 len := by show J5 (y.1.set t s) = n; unfold J5; rw [List.length_set]; exact h.len
 page := fun z hz => by
  rcases List.mem_or_eq_of_mem_set hz with hz | rfl
  ·exact h.page z hz
  ·exact hs
 rng := fun p hp => h.rng p (List.mem_filter.1 hp).1
 srt := h.srt.filter _
theorem JrR (l : List UInt8) (b : Nat) (m : Int) : (JjW l b m).length = l.length := by unfold JjW; simp
theorem VP.getD {n : Int} {y : DT} (h : VP n y) {p : Int} (h0 : 0 ≤ p) (h1 : p < n) : y.1[p.toNat]? = some (y.1.getD p.toNat []) ∧ (y.1.getD p.toNat []).length = 256 := by
 have hl : p.toNat < y.1.length := by have := h.len; unfold J5 at this; omega
 have e : y.1[p.toNat]? = some (y.1.getD p.toNat []) := by rw [List.getD_eq_getElem?_getD, List.getElem?_eq_getElem hl]; rfl
 exact ⟨e, h.page _ (List.mem_of_getElem? e)⟩
def J2w (x : DT) (f : FT) : DT :=
 if f.1 = 4 then (x.1.set f.2.2.1.toNat (JjW (x.1.getD f.2.2.1.toNat []) f.2.2.2.2.1.toNat f.2.2.2.2.2), x.2)
 else if f.1 = 5 then (x.1, x.2.1, J7H x.2.2.1 f.2.2.1, x.2.2.2)
 else if f.1 = 6 then (x.1, x.2.1, x.2.2.1, true, x.2.2.2.2)
 else x
theorem Jsm {n : Int} {y : DT} (h : VP n y) (f : FT) : J19 y f = J2w y f := by
 unfold J19 J2w
 split
 ·rfl
 ·split
  ·by_cases hc : f.2.2.1 ∈ y.2.2.1
   ·rw [if_pos (List.contains_iff_mem.2 hc), JlX h.srt hc]
   ·rw [if_neg (fun k => hc (List.contains_iff_mem.1 k)), Jr6 h.srt hc]
  ·rfl
theorem VP.harm {n w : Int} {y : DT} (h : VP n y) {f : FT} (hf : J4a n w f) : VP n (J2w y f) := by
 unfold J2w
 split
 ·refine ⟨?_, fun z hz => ?_, h.rng, h.srt⟩
  ·show J5 (List.set _ _ _) = n; unfold J5; rw [List.length_set]; exact h.len
  ·rcases List.mem_or_eq_of_mem_set hz with hz | rfl
   ·exact h.page z hz
   ·rw [JrR]; exact (h.getD hf.p0 hf.p1).2
 ·split
  ·exact ⟨h.len, h.page, fun p hp => (JrW hp).elim (fun e => e ▸ ⟨hf.p0, hf.p1⟩) (h.rng p), Jsf h.srt⟩
  ·split
   ·exact ⟨h.len, h.page, h.rng, h.srt⟩
   ·exact h
theorem Jmq (y : DT) (f : FT) : (J2w y f).2.1 = y.2.1 ∧ (J2w y f).2.2.2.2 = y.2.2.2.2 ∧ (J2w y f).1.length = y.1.length := by
 unfold J2w
 split
 ·exact ⟨rfl, rfl, List.length_set ..⟩
 ·split
  ·exact ⟨rfl, rfl, rfl⟩
  ·split <;> exact ⟨rfl, rfl, rfl⟩
def Byt (l : List FT) : Prop := ∀ f ∈ l, 0 ≤ f.2.2.2.2.2 ∧ f.2.2.2.2.2 ≤ 255
theorem Jtz {n w : Int} {y : DT} (h : VP n y) (hn : n ≤ 64) {f : FT} (hf : J4a n w f) (hm : 0 ≤ f.2.2.2.2.2 ∧ f.2.2.2.2.2 ≤ 255) : HOk y f where
 len := by have := h.len; unfold J5 at this; omega
 ulen := by have := h.unr hn; omega
 sorted := fun _ => h.srt.imp fun h => Int.le_of_lt h
 page := fun _ => ⟨hf.p0, by have := h.len; have := hf.p1; have := hf.p0; unfold J5 at *; omega⟩
 byte := fun _ => ⟨hf.b0, by rw [(h.getD hf.p0 hf.p1).2]; have := hf.b0; have := hf.b1; omega⟩
 mask := fun _ => hm
theorem Jhg {n w : Int} (hn : n ≤ 64) : ∀ {l : List FT} {y : DT}, VP n y → (∀ f ∈ l, J4a n w f) → Byt l → l.foldlM J1l y = some (l.foldl J2w y) ∧ VP n (l.foldl J2w y) ∧ (l.foldl J2w y).2.1 = y.2.1 ∧ (l.foldl J2w y).2.2.2.2 = y.2.2.2.2
 | [], y, h, _, _ => ⟨rfl, h, rfl, rfl⟩
 | f :: l, y, h, hf, hb => by
  have h1 := h.harm (hf f List.mem_cons_self)
  have e : J1l y f = some (J2w y f) := by
   unfold J1l
   rw [if_pos (Jtz h hn (hf f List.mem_cons_self) (hb f List.mem_cons_self)), Jsm h]
  obtain ⟨i1, i2, i3, i4⟩ := Jhg hn h1 (fun g hg => hf g (List.mem_cons_of_mem _ hg)) (fun g hg => hb g (List.mem_cons_of_mem _ hg))
  obtain ⟨k1, k2, _⟩ := Jmq y f
  refine ⟨?_, i2, i3.trans k1, i4.trans k2⟩
  rw [List.foldlM_cons, e]
  exact i1
def Jaa (e : Int × Int) (x : DT) (p : Int) (s : List UInt8) : DT :=
 if e.1 = 1 then x else if e.1 = 2 then J4z x e.2.toNat s else if e.1 = 3 then J4z x p.toNat (s.take e.2.toNat ++ (x.1.getD p.toNat []).drop e.2.toNat) else J4z x p.toNat s
def wM (x : DT) (p : Int) (s : List UInt8) : DT := (J7s x).foldl J2w (Jaa (J1T (J7s x)) (J79 x) p s)
theorem JgV {P : FT → Prop} : ∀ {l : List FT}, (∀ f ∈ l, P f) → (J1T l = (0, 0) ∧ ∀ f ∈ l, f.1 ≠ 1 ∧ f.1 ≠ 2 ∧ f.1 ≠ 3) ∨ J1T l = (1, 0) ∨ (∃ f, P f ∧ J1T l = (2, f.2.2.2.1)) ∨ ∃ f, P f ∧ J1T l = (3, f.2.2.2.2.1)
 | [], _ => .inl ⟨rfl, fun f h => by cases h⟩
 | f :: l, h => by
  unfold J1T
  split
  ·exact .inr (.inl rfl)
  ·split
   ·exact .inr (.inr (.inl ⟨f, h f List.mem_cons_self, rfl⟩))
   ·split
    ·exact .inr (.inr (.inr ⟨f, h f List.mem_cons_self, rfl⟩))
    ·rename_i h1 h2 h3
     rcases JgV (fun g hg => h g (List.mem_cons_of_mem _ hg)) with ⟨e, hh⟩ | e
     ·exact .inl ⟨e, fun g hg => by
       rcases List.mem_cons.1 hg with rfl | hg
       ·exact ⟨h1, h2, h3⟩
       ·exact hh g hg⟩
     ·exact .inr e
theorem JfR {x : DT} {f : FT} (h : f ∈ J7s x) : f ∈ x.2.2.2.2 ∧ f.2.1 = x.2.1 + 1 := by
 unfold J7s at h
 obtain ⟨h1, h2⟩ := List.mem_filter.1 h
 exact ⟨h1, by simpa using h2⟩
theorem Jip {x : DT} {f : FT} (h : f ∈ (J79 x).2.2.2.2) : f ∈ x.2.2.2.2 ∧ ¬f.2.1 = x.2.1 + 1 := by
 unfold J79 at h
 obtain ⟨h1, h2⟩ := List.mem_filter.1 h
 exact ⟨h1, by simpa using h2⟩
theorem Jo5 {n w : Int} {y : DT} (h : VP n y) (hn : n ≤ 64) {l : List FT} (hf : ∀ f ∈ l, J4a n w f) {p : Int} (h0 : 0 ≤ p) (h1 : p < n) {s : List UInt8} (hs : s.length = 256) :
  Jpw (J1T l) y p s = some (Jaa (J1T l) y p s) ∧ VP n (Jaa (J1T l) y p s) ∧ (Jaa (J1T l) y p s).2.1 = y.2.1 ∧ (Jaa (J1T l) y p s).2.2.2.2 = y.2.2.2.2 := by
 have hlen := h.len
 have hul := h.unr hn
 have hll : (y.1.length : Int) = n := hlen
 have hset : ∀ (t : Int) (z : List UInt8), 0 ≤ t → t < n → z.length = 256 → J8n y t z = some (J4z y t.toNat z) := fun t z ht0 ht1 hz => by
  unfold J8n
  rw [if_pos ⟨ht0, by omega, by omega, by omega⟩]
 rcases JgV hf with ⟨e, _⟩ | e | ⟨f, hf', e⟩ | ⟨f, hf', e⟩ <;> rw [e] <;> unfold Jpw Jaa <;> dsimp only
 ·rw [if_neg (by decide), if_neg (by decide), if_neg (by decide), if_neg (by decide), if_neg (by decide), if_neg (by decide)]
  exact ⟨hset p s h0 h1 hs, h.set _ hs, rfl, rfl⟩
 ·rw [if_pos rfl, if_pos rfl]; exact ⟨rfl, h, rfl, rfl⟩
 ·rw [if_neg (by decide), if_pos rfl, if_neg (by decide), if_pos rfl]
  exact ⟨hset _ s hf'.t0 hf'.t1 hs, h.set _ hs, rfl, rfl⟩
 ·rw [if_neg (by decide), if_neg (by decide), if_pos rfl, if_neg (by decide), if_neg (by decide), if_pos rfl]
  obtain ⟨_, g⟩ := h.getD h0 h1
  have b0 := hf'.b0
  have b1 := hf'.b1
  have hz : (s.take f.2.2.2.2.1.toNat ++ (y.1.getD p.toNat []).drop f.2.2.2.2.1.toNat).length = 256 := by
   rw [List.length_append, List.length_take, List.length_drop, g]; omega
  refine ⟨?_, h.set _ hz, rfl, rfl⟩
  unfold Ji2
  rw [if_pos ⟨b0, by omega, h0, by omega, by omega, g⟩]
  exact hset p _ h0 h1 hz
theorem Ji3 {x : DT} (hv : VD x) (hb : Byt x.2.2.2.2) {p : Int} (h0 : 0 ≤ p) (h1 : p < J5 x.1) {s : List UInt8} (hs : s.length = 256) (hw : x.2.1 < 1099511627776) :
  JbT x p s = some (wM x p s) ∧ VD (wM x p s) ∧ Byt (wM x p s).2.2.2.2 ∧ J5 (wM x p s).1 = J5 x.1 ∧ (wM x p s).2.1 = x.2.1 + 1 ∧ (wM x p s).2.2.2.2 = x.2.2.2.2.filter (fun f => !(f.2.1 == x.2.1 + 1)) := by
 have hvr : VP (J5 x.1) (J79 x) := ⟨rfl, hv.vp.page, hv.vp.rng, hv.vp.srt⟩
 have hn : ∀ f ∈ J7s x, J4a (J5 x.1) x.2.1 f := fun f hf => hv.flt f (JfR hf).1
 obtain ⟨e1, e2, e3, e4⟩ := Jo5 hvr hv.p64 hn h0 h1 hs
 obtain ⟨f1, f2, f3, f4⟩ := Jhg hv.p64 e2 hn (fun f hf => hb f (JfR hf).1)
 have k3 : (wM x p s).2.1 = x.2.1 + 1 := f3.trans e3
 have k4 : (wM x p s).2.2.2.2 = (J79 x).2.2.2.2 := f4.trans e4
 refine ⟨?_, ?_, ?_, f2.len, k3, k4⟩
 ·unfold JbT
  rw [e1, Option.bind_some]
  exact f1
 ·have hl := f2.len
  refine ⟨?_, ?_, ?_, ?_, ?_, ?_, ?_, ?_, ?_⟩
  ·show 1 ≤ J5 (wM x p s).1; rw [show J5 (wM x p s).1 = J5 x.1 from hl]; exact hv.p1
  ·show J5 (wM x p s).1 ≤ 64; rw [show J5 (wM x p s).1 = J5 x.1 from hl]; exact hv.p64
  ·rw [k3]; have := hv.w0; omega
  ·rw [k3]; omega
  ·rw [k4]
   have : (J79 x).2.2.2.2.length ≤ x.2.2.2.2.length := List.length_filter_le _ _
   have := hv.f64
   unfold J5 at *; omega
  ·intro z hz; have := f2.page z hz; unfold J5; omega
  ·intro q hq; rw [show J5 (wM x p s).1 = J5 x.1 from hl]; exact f2.rng q hq
  ·exact Jna f2.srt
  ·intro f hf
   rw [k4] at hf
   obtain ⟨m1, m2⟩ := Jip hf
   have := hv.flt f m1
   rw [show J5 (wM x p s).1 = J5 x.1 from hl, k3]
   exact ⟨this.kind, this.used, by have := this.after; omega, this.most, this.p0, this.p1, this.t0, this.t1, this.b0, this.b1, this.mask⟩
 ·intro f hf; rw [k4] at hf; exact hb f (Jip hf).1
def wrD (x : DT) (p : Int) (s : List UInt8) : DT × Int := if usD x p = 0 then if s.length = 256 then if x.2.1 = 1099511627776 then (J4P, 21) else (wM x p s, 0) else (J4P, 2) else (J4P, usD x p)
theorem JdN (x : DT) (p : Int) (s : List UInt8) (hu : J5 x.2.2.1 ≤ 1000000000000) (hb : Byt x.2.2.2.2) : J0b (x, p, s) = some (wrD x p s) := by
 unfold J0b JeI
 dsimp only
 rw [JiW x p hu, Option.bind_some]
 unfold wrD
 by_cases h : usD x p = 0
 ·rw [if_neg (by simpa using h), if_pos h]
  by_cases hs : s.length = 256
  ·rw [if_neg (by simpa using hs), if_pos hs]
   by_cases hw : x.2.1 = 1099511627776
   ·rw [if_pos hw, if_pos hw]; rfl
   ·rw [if_neg hw, if_neg hw]
    obtain ⟨hv, _, h0, h1⟩ := J7V h
    have w1 := hv.w1
    have f64 := hv.f64
    unfold J5 at f64
    rw [if_pos ⟨hv.w0, by omega, by omega⟩, (Ji3 hv hb h0 h1 hs (by omega)).1]
    rfl
  ·rw [if_pos (by simpa using hs), if_neg hs]; rfl
 ·rw [if_pos (by simpa using h), if_neg h]; rfl
theorem Jos {x : DT} (hv : VD x) (hd : x.2.2.2.1 = false) {p : Int} (h0 : 0 ≤ p) (h1 : p < J5 x.1) {s : List UInt8} (hs : s.length = 256) (hw : x.2.1 < 1099511627776) : wrD x p s = (wM x p s, 0) := by
 unfold wrD
 rw [if_pos (JqW hv hd h0 h1), if_pos hs, if_neg (by omega)]
end
end Go.Am
end
section
namespace Go.Am
section
variable (P : Program)
def J7u : Nat → TypeId → Bool
 | 0, _ => false
 | n + 1, t => match P.underlying t with
  | some .bool => true
  | some (.int _) => true
  | some .string => true
  | some (.slice e) => J7u n e && decide (t < P.types.size ∧ 0 < P.cellsOf e)
  | some (.struct fs) => fs.toList.all (fun f => J7u n f.type) && decide (t < P.types.size)
  | some (.array _ e) => J7u n e && decide (t < P.types.size)
  | _ => false
def J3L : Nat → TypeId → List PV → Prop
 | 0, _, _ => False
 | n + 1, t, pvs => match P.underlying t with
  | some .bool => ∃ b, pvs = [.b b]
  | some (.int k) => ∃ z, pvs = [.i k z] ∧ (Lit.int k z).wf = true
  | some .string => ∃ l, pvs = [.s l] ∧ l.length ≤ maxLen
  | some (.slice e) => ∃ rows, pvs = [.sl (P.cellsOf e) rows] ∧ rows.length ≤ maxLen ∧ ∀ row ∈ rows, row.length = P.cellsOf e ∧ J3L n e row
  | some (.struct fs) => pvs.length = P.cellsOf t ∧ ∀ f ∈ fs.toList, J3L n f.type ((pvs.drop f.offset).take (P.cellsOf f.type))
  | some (.array m e) => pvs.length = P.cellsOf t ∧ ∀ i, i < m → J3L n e ((pvs.drop (i * P.cellsOf e)).take (P.cellsOf e))
  | _ => False
end
section
variable {H : Type} {enc : TypeId × Value → H} {P : Program} {w : World} {base : Nat} {sp : Nat → Bool} {held : Bool}
def Jmy (w : World) (pvs : List PV) (cs : List Value) : Prop :=
 pvs.length = cs.length ∧ ∀ (i : Nat) p v, pvs[i]? = some p → cs[i]? = some v → Jl w (fun r _ => r < w.heap.size) p v
theorem Jhe {a : Addr} {v : Value} (h : w.cell? a = some v) : a.spot = none ∧ cellAt w a.block a.off = some v ∧ a.block < w.heap.size := by
 unfold World.cell? at h
 unfold cellAt
 split at h
 ·rename_i c t fz hb
  split at h
  ·cases h
  ·rename_i hs
   refine ⟨by simpa using hs, by rw [hb]; exact h, ?_⟩
   have := Array.getElem?_eq_some_iff.1 hb
   exact this.1
 ·cases h
theorem Jpd {a : Addr} {n : Nat} {cs : List Value} (h : w.cells? base a n = some cs) : cs.length = n ∧ ∀ i v, cs[i]? = some v → w.cell? (a.add i) = some v := by
 unfold World.cells? at h
 split at h
 ·have hl := mapM_some_length h
  refine ⟨by simpa using hl, fun i v hv => ?_⟩
  have hi : i < n := by
   have := (List.getElem?_eq_some_iff.1 hv).1
   simp at hl; omega
  have := mapM_some_get h i i (by simp [hi])
  rw [this, hv]
 ·cases h
theorem JeX {α : Type} (Q : Nat → α → Prop) : ∀ (m : Nat), (∀ i, i < m → ∃ x, Q i x) → ∃ xs : List α, xs.length = m ∧ ∀ i x, xs[i]? = some x → Q i x
 | 0, _ => ⟨[], rfl, fun i x h => by simp at h⟩
 | m + 1, h => by
  obtain ⟨xs, hl, hx⟩ := JeX Q m (fun i hi => h i (by omega))
  obtain ⟨y, hy⟩ := h m (by omega)
  refine ⟨xs ++ [y], by simp [hl], fun i x hi => ?_⟩
  rcases Nat.lt_or_ge i xs.length with hlt | hge
  ·rw [List.getElem?_append_left hlt] at hi; exact hx i x hi
  ·rw [List.getElem?_append_right hge] at hi
   have : i - xs.length = 0 := by
    have := (List.getElem?_eq_some_iff.1 hi).1
    simp at this; omega
   rw [this] at hi
   simp at hi; subst hi
   obtain rfl : i = m := by omega
   exact hy
theorem Jc0 {α : Type} : ∀ (xs : List (List α)) (j : Nat) (y : List α), xs[j]? = some y → (xs.flatten.drop ((xs.take j).map List.length).sum).take y.length = y
 | [], j, y, h => by simp at h
 | x :: xs, 0, y, h => by simp at h; subst h; simp
 | x :: xs, j + 1, y, h => by
  simp at h
  have := Jc0 xs j y h
  simp only [List.take_succ_cons, List.map_cons, List.sum_cons, List.flatten_cons, List.drop_length_add_append]
  exact this
theorem Jrs (hl : laidOutB P = true) (hm : mapsRowed P = true) : ∀ (n : Nat) (t : TypeId) (cs : List Value) (x : DataW H × List MemPlace) (fuel : Nat), J7u P n t = true → DataW.trod enc P w base sp held fuel t cs = some x →
  ∃ pvs, J3L P n t pvs ∧ Jmy w pvs cs := by
 have K := kids_rows hl hm
 intro n
 induction n with
 | zero => intro t cs x fuel hp; simp [J7u] at hp
 | succ n ih =>
  intro t cs x fuel hp h
  unfold J7u at hp
  unfold J3L
  split at hp
  ·rename_i ht
   obtain ⟨b, rfl, _⟩ := DataW.trod_bool ht h
   refine ⟨[.b b], by simp, rfl, fun i p v h1 h2 => ?_⟩
   match i with
   | 0 => simp at h1 h2; subst h1 h2; exact .b _
   | i + 1 => simp at h1
  ·rename_i k ht
   obtain ⟨z, rfl, _, hwf⟩ := DataW.trod_int ht h
   refine ⟨[.i k z], by simpa using hwf, rfl, fun i p v h1 h2 => ?_⟩
   match i with
   | 0 => simp at h1 h2; subst h1 h2; exact .i _ _
   | i + 1 => simp at h1
  ·rename_i ht
   obtain ⟨s, rfl, _, hsz⟩ := DataW.trod_string ht h
   refine ⟨[.s s.data.toList], ⟨_, rfl, by rw [Array.length_toList]; exact hsz⟩, rfl, fun i p v h1 h2 => ?_⟩
   match i with
   | 0 => simp at h1 h2; subst h1 h2; exact .s _
   | i + 1 => simp at h1
  ·rename_i e ht
   simp only [Bool.and_eq_true, decide_eq_true_eq] at hp
   rcases DataW.trod_slice ht h with ⟨rfl, _⟩ | ⟨a, len, cap, elems, rest, n0, _, rfl, _, _, hlc, hcm, hel, hat, _⟩
   ·refine ⟨[.sl (P.cellsOf e) []], ⟨[], rfl, Nat.zero_le _, by simp⟩, rfl, fun i p v h1 h2 => ?_⟩
    match i with
    | 0 => simp at h1 h2; subst h1 h2; exact .sl0 _ _ _
    | i + 1 => simp at h1
   ·
    have hrow : ∀ i, i < len → ∃ row : List PV, (row.length = P.cellsOf e ∧ J3L P n e row) ∧ ∀ j p, row[j]? = some p → ∃ v, w.cell? (a.add (i * P.cellsOf e) |>.add j) = some v ∧ Jl w (fun r _ => r < w.heap.size) p v := by
     intro i hi
     have h1 := hat i hi
     have h2 : ∃ y, elems[i]? = some y := ⟨_, List.getElem?_eq_getElem (by omega)⟩
     obtain ⟨y, hy⟩ := h2
     rw [hy, Option.bind_eq_some_iff] at h1
     obtain ⟨cs', hc, ht'⟩ := h1
     obtain ⟨row, q1, q2, q3⟩ := ih e cs' y n0 hp.1 ht'
     obtain ⟨c1, c2⟩ := Jpd hc
     refine ⟨row, ⟨by omega, q1⟩, fun j p hj => ?_⟩
     have hlt : j < cs'.length := by have := (List.getElem?_eq_some_iff.1 hj).1; omega
     have hv := List.getElem?_eq_getElem hlt
     exact ⟨_, c2 j _ hv, q3 j p _ hj hv⟩
    obtain ⟨rows, hrl, hrows⟩ := JeX _ len hrow
    refine ⟨[.sl (P.cellsOf e) rows], ⟨rows, rfl, by omega, fun row hr => ?_⟩, rfl, fun i p v h1 h2 => ?_⟩
    ·obtain ⟨i, hi⟩ := List.getElem?_of_mem hr
     exact (hrows i row hi).1
    match i with
    | i + 1 => simp at h1
    | 0 =>
     simp at h1 h2; subst h1 h2
     by_cases h0 : ∃ (i j : Nat) (row : List PV) (p : PV), rows[i]? = some row ∧ row[j]? = some p
     ·obtain ⟨i0, j0, row0, p0, hr0, hp0⟩ := h0
      have spot : a.spot = none ∨ P.cellsOf e = 0 := by
       rcases Nat.eq_zero_or_pos (P.cellsOf e) with hz | hpos
       ·exact .inr hz
       ·have hlen : 0 < len := by have := (List.getElem?_eq_some_iff.1 hr0).1; omega
        have hr00 := List.getElem?_eq_getElem (l := rows) (i := 0) (by omega)
        have q := hrows 0 _ hr00
        have hj0 := List.getElem?_eq_getElem (l := rows[0]'(by omega)) (i := 0) (by omega)
        obtain ⟨v, hv, _⟩ := q.2 0 _ hj0
        rw [Nat.zero_mul] at hv
        exact .inl (by simpa [Addr.add] using (Jhe hv).1)
      rcases spot with spot | hz
      ·have cell : ∀ (i j : Nat) (row : List PV) (p : PV), rows[i]? = some row → row[j]? = some p → ∃ v, (a.block < w.heap.size ∧ cellAt w a.block (a.off + i * P.cellsOf e + j) = some v) ∧ Jl w (fun r _ => r < w.heap.size) p v := by
        intro i j row p hi hj
        obtain ⟨v, hv, hr⟩ := (hrows i row hi).2 j p hj
        obtain ⟨s1, s2, s3⟩ := Jhe hv
        refine ⟨v, ?_, hr⟩
        have e1 : ((a.add (i * P.cellsOf e)).add j).block = a.block := by unfold Addr.add; split <;> split <;> rfl
        have e2 : ((a.add (i * P.cellsOf e)).add j).off = a.off + i * P.cellsOf e + j := by
         unfold Addr.add
         split <;> split <;> simp_all
        rw [e1] at s3
        rw [e1, e2] at s2
        exact ⟨s3, s2⟩
       have ea : a = ⟨a.block, a.off, none⟩ := by cases a; simp_all
       rw [ea, ← hrl]
       refine .sl _ rows a.block a.off cap (fun i j => ((cellAt w a.block (a.off + i * P.cellsOf e + j)).getD default)) (by omega) (fun row hr => ?_) (fun i j row p hi hj => ?_) (fun i j row p hi hj => ?_)
       ·obtain ⟨i, hi⟩ := List.getElem?_of_mem hr
        exact (hrows i row hi).1.1
       ·obtain ⟨v, ⟨h3, h4⟩, _⟩ := cell i j row p hi hj
        exact ⟨h3, by rw [h4]; rfl⟩
       ·obtain ⟨v, ⟨h3, h4⟩, h5⟩ := cell i j row p hi hj
        rw [h4]; exact h5
      ·have := (hrows i0 row0 hr0).1.1
       have := (List.getElem?_eq_some_iff.1 hp0).1
       omega
     ·
      rcases Nat.eq_zero_or_pos len with hz | hpos
      ·have : rows = [] := by cases rows <;> simp_all
       subst this
       subst hz
       exact .sl0 _ _ _
      ·exfalso
       have hr00 := List.getElem?_eq_getElem (l := rows) (i := 0) (by omega)
       have q := (hrows 0 _ hr00).1.1
       exact h0 ⟨0, 0, _, _, hr00, List.getElem?_eq_getElem (by omega)⟩
  ·rename_i fs ht
   simp only [Bool.and_eq_true, decide_eq_true_eq, List.all_eq_true] at hp
   obtain ⟨xs, n0, _, _, hcl, hxl, hat⟩ := DataW.trod_struct ht h
   obtain ⟨_, ksum, koff⟩ := K.struct hp.2 ht
   have hf : ∀ i, i < fs.toList.length → ∃ ys : List PV, ∀ f, fs.toList[i]? = some f → J3L P n f.type ys ∧ Jmy w ys ((cs.drop f.offset).take (P.cellsOf f.type)) := by
    intro i hi
    have hfi := List.getElem?_eq_getElem hi
    have hmem := List.mem_of_getElem? hfi
    have hfa : fs[i]? = some (fs.toList[i]) := by rw [← Array.getElem?_toList]; exact hfi
    have h1 := hat i _ hfa
    have h2 : ∃ y, xs[i]? = some y := ⟨_, List.getElem?_eq_getElem (by simpa [hxl] using hi)⟩
    obtain ⟨y, hy⟩ := h2
    rw [hy] at h1
    obtain ⟨ys, q1, q2⟩ := ih _ _ _ _ (hp.1 _ hmem) h1
    refine ⟨ys, fun f hff => ?_⟩
    rw [hfi] at hff; injection hff with hff; subst hff
    exact ⟨q1, q2⟩
   obtain ⟨yss, hyl, hys⟩ := JeX _ _ hf
   have hlen : ∀ (j : Nat) (f : Field), fs.toList[j]? = some f → ∀ ys : List PV, yss[j]? = some ys → ys.length = P.cellsOf f.type := by
    intro j f hj ys hy
    have q := (hys j ys hy f hj).2.1
    have o := koff j f hj
    rw [q, List.length_take, List.length_drop, hcl, ksum, o]
    have : ((fs.toList.take j).map fun f => P.cellsOf f.type).sum + P.cellsOf f.type ≤ (fs.toList.map fun f => P.cellsOf f.type).sum := by
     have e1 : fs.toList = fs.toList.take j ++ (f :: fs.toList.drop (j + 1)) := by
      have hjl := (List.getElem?_eq_some_iff.1 hj)
      obtain ⟨hjl, he⟩ := hjl
      rw [← he, ← List.drop_eq_getElem_cons hjl, List.take_append_drop]
     conv => rhs; rw [e1]
     simp only [List.map_append, List.map_cons, List.sum_append, List.sum_cons]
     omega
    omega
   have hmapl : yss.map List.length = fs.toList.map fun f => P.cellsOf f.type := by
    apply List.ext_getElem?
    intro j
    rw [List.getElem?_map, List.getElem?_map]
    cases hy : yss[j]? with
    | none =>
     have : fs.toList[j]? = none := by rw [List.getElem?_eq_none_iff] at hy ⊢; omega
     rw [this]; rfl
    | some ys =>
     have hj : j < fs.toList.length := by have := (List.getElem?_eq_some_iff.1 hy).1; omega
     have hfj := List.getElem?_eq_getElem hj
     rw [hfj]
     simp only [Option.map_some]
     rw [hlen j _ hfj ys hy]
   have hoff : ∀ (j : Nat) (f : Field), fs.toList[j]? = some f → ((yss.take j).map List.length).sum = f.offset := by
    intro j f hj
    rw [koff j f hj, List.map_take, hmapl, ← List.map_take]
   refine ⟨yss.flatten, ⟨?_, fun f hf => ?_⟩, ?_, fun i p v h1 h2 => ?_⟩
   ·rw [List.length_flatten, hmapl, ksum]
   ·obtain ⟨j, hj⟩ := List.getElem?_of_mem hf
    have hjl : j < yss.length := by have := (List.getElem?_eq_some_iff.1 hj).1; omega
    have hyj := List.getElem?_eq_getElem hjl
    have := Jc0 yss j _ hyj
    rw [hoff j f hj, hlen j f hj _ hyj] at this
    rw [this]
    exact (hys j _ hyj f hj).1
   ·rw [List.length_flatten, hmapl, hcl, ksum]
   ·
    have key : ∀ (l : List (List PV)) (i : Nat) p, l.flatten[i]? = some p → ∃ j ys k, l[j]? = some ys ∧ ys[k]? = some p ∧ i = ((l.take j).map List.length).sum + k := by
     intro l
     induction l with
     | nil => intro i p h; simp at h
     | cons y l ihl =>
      intro i p h
      rw [List.flatten_cons] at h
      rcases Nat.lt_or_ge i y.length with hlt | hge
      ·rw [List.getElem?_append_left hlt] at h
       exact ⟨0, y, i, rfl, h, by simp⟩
      ·rw [List.getElem?_append_right hge] at h
       obtain ⟨j, ys, k, a1, a2, a3⟩ := ihl _ _ h
       exact ⟨j + 1, ys, k, by simpa using a1, a2, by simp only [List.take_succ_cons, List.map_cons, List.sum_cons]; omega⟩
    obtain ⟨j, ys, k, a1, a2, a3⟩ := key _ _ _ h1
    have hj : j < fs.toList.length := by have := (List.getElem?_eq_some_iff.1 a1).1; omega
    have hfj := List.getElem?_eq_getElem hj
    have q := (hys j ys a1 _ hfj).2
    refine q.2 k p v a2 ?_
    have hk : k < P.cellsOf (fs.toList[j]).type := by have := (List.getElem?_eq_some_iff.1 a2).1; rw [hlen j _ hfj ys a1] at this; exact this
    rw [List.getElem?_take_of_lt hk, List.getElem?_drop, ← hoff j _ hfj, ← a3]
    exact h2
  ·rename_i m e ht
   simp only [Bool.and_eq_true, decide_eq_true_eq] at hp
   obtain ⟨xs, n0, _, _, hcl, hxl, hat⟩ := DataW.trod_array ht h
   obtain ⟨_, ksz⟩ := K.array hp.2 ht
   have hf : ∀ i, i < m → ∃ ys : List PV, J3L P n e ys ∧ Jmy w ys ((cs.drop (i * P.cellsOf e)).take (P.cellsOf e)) := by
    intro i hi
    have h1 := hat i hi
    have h2 : ∃ y, xs[i]? = some y := ⟨_, List.getElem?_eq_getElem (by omega)⟩
    obtain ⟨y, hy⟩ := h2
    rw [hy] at h1
    exact ih _ _ _ _ hp.1 h1
   obtain ⟨yss, hyl, hys⟩ := JeX _ _ hf
   have hlen : ∀ (j : Nat) ys, yss[j]? = some ys → ys.length = P.cellsOf e := by
    intro j ys hy
    have q := (hys j ys hy).2.1
    have hj : j < m := by have := (List.getElem?_eq_some_iff.1 hy).1; omega
    rw [q, List.length_take, List.length_drop, hcl, ksz]
    have : j * P.cellsOf e + P.cellsOf e ≤ m * P.cellsOf e := by rw [← Nat.succ_mul]; exact Nat.mul_le_mul_right _ hj
    omega
   have hall : ∀ y ∈ yss, y.length = P.cellsOf e := fun y hy => by
    obtain ⟨j, hj⟩ := List.getElem?_of_mem hy
    exact hlen j y hj
   have hsum : ∀ l : List (List PV), (∀ y ∈ l, y.length = P.cellsOf e) → (l.map List.length).sum = l.length * P.cellsOf e := by
    intro l
    induction l with
    | nil => intro _; simp
    | cons y l ihl => intro hh; simp [hh y (by simp), ihl (fun z hz => hh z (by simp [hz])), Nat.succ_mul, Nat.add_comm]
   have hoff : ∀ j, j ≤ m → ((yss.take j).map List.length).sum = j * P.cellsOf e := by
    intro j hj
    rw [hsum _ (fun y hy => hall y (List.mem_of_mem_take hy)), List.length_take, hyl, Nat.min_eq_left hj]
   refine ⟨yss.flatten, ⟨?_, fun j hj => ?_⟩, ?_, fun i p v h1 h2 => ?_⟩
   ·rw [List.length_flatten, hsum _ hall, hyl, ksz]
   ·have hyj := List.getElem?_eq_getElem (l := yss) (i := j) (by omega)
    have := Jc0 yss j _ hyj
    rw [hoff j (by omega), hlen j _ hyj] at this
    rw [this]
    exact (hys j _ hyj).1
   ·rw [List.length_flatten, hsum _ hall, hcl, hyl, ksz]
   ·have key : ∀ (l : List (List PV)) (i : Nat) p, l.flatten[i]? = some p → ∃ j ys k, l[j]? = some ys ∧ ys[k]? = some p ∧ i = ((l.take j).map List.length).sum + k := by
     intro l
     induction l with
     | nil => intro i p h; simp at h
     | cons y l ihl =>
      intro i p h
      rw [List.flatten_cons] at h
      rcases Nat.lt_or_ge i y.length with hlt | hge
      ·rw [List.getElem?_append_left hlt] at h
       exact ⟨0, y, i, rfl, h, by simp⟩
      ·rw [List.getElem?_append_right hge] at h
       obtain ⟨j, ys, k, a1, a2, a3⟩ := ihl _ _ h
       exact ⟨j + 1, ys, k, by simpa using a1, a2, by simp only [List.take_succ_cons, List.map_cons, List.sum_cons]; omega⟩
    obtain ⟨j, ys, k, a1, a2, a3⟩ := key _ _ _ h1
    have hj : j < m := by have := (List.getElem?_eq_some_iff.1 a1).1; omega
    have q := (hys j ys a1).2
    refine q.2 k p v a2 ?_
    have hk : k < P.cellsOf e := by have := (List.getElem?_eq_some_iff.1 a2).1; rw [hlen j ys a1] at this; exact this
    rw [List.getElem?_take_of_lt hk, List.getElem?_drop, ← hoff j (by omega), ← a3]
    exact h2
  ·cases hp
end
end Go.Am
end
section
namespace Go.Am
open Go.ChangeShapes Go.WideShapes Go.ChangeAt Go.RowKit
def gh0 (w : World) : Gh := ⟨fun _ => none, fun r _ => r < w.heap.size⟩
theorem JgH (g : Gh) (w : World) (b r o : Nat) : ¬ Wr1 ⟨[], g, w⟩ b r o := by
 unfold Wr1; simp
theorem Jul (w : World) : Inv ⟨[], gh0 w, w⟩ where
 box := fun b cs h => by simp at h
 arr := fun b wm esz rows h => by simp at h
 apart := fun b1 b2 r o h => absurd h (JgH _ _ _ _ _)
 const := fun r o h => ⟨h, fun b => JgH _ _ _ _ _⟩
def J9B (w w' : World) : Prop := J98 (fun _ _ => False) w w'
theorem J9B.kept {w w' : World} (h : J9B w w') (may : MemPlace → Prop) : w.keptBut w' may := by
 obtain ⟨h1, h2, h3, h4, h5⟩ := h
 refine ⟨h4, h5, fun i hi => ?_⟩
 have hg := Array.getElem?_eq_getElem hi
 cases hw : w.heap[i]? with
 | none => rw [hg] at hw; cases hw
 | some x =>
  cases x with
  | cells c e fz =>
   obtain ⟨c', q1, q2, q3⟩ := h2 i c e fz hw
   rw [q1]
   exact ⟨rfl, rfl, q2, fun j _ => q3 j (fun hf => hf)⟩
  | map es clock =>
   have := h3 i _ hw (fun c e fz he => by cases he)
   rw [this]
   exact .inr ⟨rfl, rfl⟩
  | _ =>
   have := h3 i _ hw (fun c e fz he => by cases he)
   rw [this]
theorem J9B.same {w w' : World} (h : J9B w w') {p : MemPlace} (hp : p.block < w.heap.size) : w.sameAt w' p := by
 obtain ⟨h1, h2, h3, h4, h5⟩ := h
 cases p with
 | cell b off =>
  have hb : b < w.heap.size := hp
  have hg := Array.getElem?_eq_getElem hb
  show w'.cell? ⟨b, off, none⟩ = w.cell? ⟨b, off, none⟩
  rw [J2z, J2z]
  unfold cellAt
  cases hw : w.heap[b]? with
  | none => rw [hg] at hw; cases hw
  | some x =>
   cases x with
   | cells c e fz =>
    obtain ⟨c', q1, q2, q3⟩ := h2 b c e fz hw
    rw [q1]
    exact q3 off (fun hf => hf)
   | _ =>
    have := h3 b _ hw (fun c e fz he => by cases he)
    rw [this]
 | map b =>
  have hb : b < w.heap.size := hp
  have hg := Array.getElem?_eq_getElem hb
  show w'.heap[b]? = w.heap[b]?
  cases hw : w.heap[b]? with
  | none => rw [hg] at hw; cases hw
  | some x =>
   cases x with
   | cells c e fz =>
    obtain ⟨c', q1, q2, q3⟩ := h2 b c e fz hw
    rw [q1]
    have : c' = c := by
     apply Array.ext_getElem?
     intro i
     exact q3 i (fun hf => hf)
    rw [this]
   | _ => exact h3 b _ hw (fun c e fz he => by cases he)
theorem J9B.frozen {w w' : World} (h : J9B w w') {a : Addr} (hp : a.block < w.heap.size) : w'.frozen? a = w.frozen? a := by
 obtain ⟨h1, h2, h3, h4, h5⟩ := h
 have hg := Array.getElem?_eq_getElem hp
 unfold World.frozen?
 cases hw : w.heap[a.block]? with
 | none => rw [hg] at hw; cases hw
 | some x =>
  cases x with
  | cells c e fz =>
   obtain ⟨c', q1, q2, q3⟩ := h2 a.block c e fz hw
   rw [q1]
  | _ =>
   have := h3 a.block _ hw (fun c e fz he => by cases he)
   rw [this]
theorem JnK {P : Program} {F : Orc} (hF : J2P P F) {f : FuncId} {args : List AV} {vals : Array Value} {w : World} (hl : args.length = vals.size)
  (hr : ∀ (i : Nat) x v, args[i]? = some x → vals[i]? = some v → Jf ⟨[], gh0 w, w⟩ x v) (h : F f args [] = some (.p (.b true), [])) :
  Calls P f vals w fun e w' => e = .returned (.bool true) ∧ J9B w w' := by
 refine ((hF _ _ _ _ h).2 (gh0 w) w vals (Jul w) hl hr).mono fun e w' ⟨v, g', he, _, ht, hrel⟩ => ?_
 cases hrel with
 | p _ _ hrel =>
  cases hrel with
  | b =>
   refine ⟨he, ?_⟩
   obtain ⟨k1, k2, k3, k4⟩ := ht.keep
   refine ⟨k1, fun r c e fz hr => ?_, k3, k4⟩
   obtain ⟨c', q1, q2, q3⟩ := k2 r c e fz hr
   exact ⟨c', q1, q2, fun o _ => q3 o (fun ⟨b, hb⟩ => JgH _ _ _ _ _ hb)⟩
section
variable {H : Type} {enc : TypeId × Value → H} {P : Program}
theorem Jbu (hl : laidOutB P = true) (hm : mapsRowed P = true) (hsz : ∀ {t e : TypeId}, t < P.types.size → P.underlying t = some (.slice e) → 0 < P.cellsOf e) {W W' : World} {sp : Nat → Bool} :
  ∀ {ts : List TypeId} {vs : List Value} {ds : List (DataW H)} {ps : List MemPlace}, (∀ t ∈ ts, t < P.types.size) → DataW.TrodAll enc P W 0 (fun _ => true) true ts vs ds ps →
   (∀ p ∈ ps, W.sameAt W' p) → (∀ p ∈ ps, sp p.block = true) → DataW.TrodAll enc P W' 0 sp true ts vs ds ps
 | [], [], [], _, _, h, _, _ => h
 | [], _ :: _, _, _, _, h, _, _ => h.elim
 | [], [], _ :: _, _, _, h, _, _ => h.elim
 | _ :: _, [], _, _, _, h, _, _ => h.elim
 | _ :: _, _ :: _, [], _, _, h, _, _ => h.elim
 | t :: ts, v :: vs, d :: ds, _, hT, ⟨p, q, ⟨n, h1⟩, h2, rfl⟩, hs, hp => by
  refine ⟨p, q, ⟨n, DataW.trod_stays (kids_rows hl hm) hsz (fun h => by cases h) (hT t (by simp)) h1 (fun x hx => hs x (by simp [hx])) (fun x hx => hp x (by simp [hx]))⟩, ?_, rfl⟩
  exact Jbu hl hm hsz (fun x hx => hT x (by simp [hx])) h2 (fun x hx => hs x (by simp [hx])) (fun x hx => hp x (by simp [hx]))
def J7Y (P : Program) : Bool := (List.range P.types.size).all fun t => match P.underlying t with
 | some (.slice e) => decide (0 < P.cellsOf e)
 | _ => true
theorem Jjh (h : J7Y P = true) {t e : TypeId} (ht : t < P.types.size) (he : P.underlying t = some (.slice e)) : 0 < P.cellsOf e := by
 unfold J7Y at h
 rw [List.all_eq_true] at h
 have := h t (by simpa using ht)
 rw [he] at this
 simpa using this
theorem JpA {fn : Func} {s : ChangeSpec} {tb : TypeId} (hl : laidOutB P = true) (hm : mapsRowed P = true) (hsz : J7Y P = true) (hpar : ∀ t ∈ fn.params.toList, t < P.types.size)
  (hres : fn.resultTypes = #[tb]) (htb : P.underlying tb = some .bool) (hvars : s.vars = []) {apart fresh handsOn again : Bool} {W W' : World} {args : Array Value} {ds gs : List (DataW H)} {before : List MemPlace}
  (hfn : gs = [] → s.fn H (ds ++ gs) = { results := [.lit (.bool true)], args := ds })
  (hW : DataW.Whole enc P fn.params.toList s.vars apart W args.toList ds gs before) (hst : J9B W W') : s.post enc P fn apart fresh handsOn again W args (.bool true) W' := by
 have hW0 := hW
 have hlt := hW.lt
 obtain ⟨p, q, h1, h2, rfl, hz, hn⟩ := hW
 rw [hvars] at h2
 obtain ⟨rfl, rfl⟩ := trodVars_none h2
 rw [List.append_nil] at hW0 hlt hz hn
 have hf := hfn rfl
 have hargs : ∀ sp : Nat → Bool, (∀ x ∈ p, sp x.block = true) → DataW.TrodAll enc P W' 0 sp true fn.params.toList args.toList ds p := fun sp hp =>
  Jbu hl hm (fun ht he => Jjh hsz ht he) hpar h1 (fun x hx => hst.same (hlt x hx)) hp
 have hr : ∀ (b : Nat) (sp : Nat → Bool) (hd : Bool), DataW.TrodAll enc P W' b sp hd fn.resultTypes.toList ((Value.bool true).resultList fn.resultTypes.size) [.lit (.bool true)] [] := by
  intro b sp hd
  rw [hres]
  exact trodAll_cons_mk (shut_bool htb _) trodAll_mk0
 refine ⟨ds, [], p, [], p, [], hW0, ?_, ?_, ?_, hst.kept _, fun _ => ⟨?_, ?_⟩⟩
 ·rw [hf]; exact hr _ _ _
 ·rw [hf]; exact hargs _ (fun x hx => by simpa using hlt x hx)
 ·rw [hf, hvars]; rfl
 ·exact ok_one hres rfl (okWide_bool_mk htb _)
 ·refine ⟨_, [], [] ++ p, ⟨[] ++ p, [], trodAll_append (hargs _ (fun _ _ => rfl)) (hr _ _ _), by rw [hvars]; rfl, by simp, fun b off hp => ?_, fun ha => by simpa using hn ha⟩, fun x hx _ => by simpa using hx⟩
  have hp' : MemPlace.cell b off ∈ p := by simpa using hp
  rw [hst.frozen (a := ⟨b, off, none⟩) (hlt _ hp')]
  exact hz b off hp'
def Jnm (P : Program) (t : TypeId) (pvs : List PV) : AV := match P.underlying t with
 | some (.struct _) => .data pvs
 | some (.array _ _) => .data pvs
 | _ => match pvs with
  | [c] => .p c
  | _ => .unk
theorem JaE (hl : laidOutB P = true) (hm : mapsRowed P = true) {n : Nat} {t : TypeId} {w : World} {r : Reach} {base : Nat} {sp : Nat → Bool} {v : Value} {d : DataW H} {ps : List MemPlace} (hp : J7u P n t = true)
  (hv : Value.okWide P w r base t v) (h : DataW.Trod enc P w 0 sp true t v d ps) : ∃ pvs, J3L P n t pvs ∧ Jf ⟨[], gh0 w, w⟩ (Jnm P t pvs) v := by
 obtain ⟨fuel, h⟩ := h
 obtain ⟨pvs, q1, q2, q3⟩ := Jrs hl hm n t _ _ fuel hp h
 refine ⟨pvs, q1, ?_⟩
 cases n with
 | zero => simp [J7u] at hp
 | succ n =>
  unfold J7u at hp
  unfold Value.okWide at hv
  unfold Jnm
  have one : ∀ {c : PV}, pvs = [c] → (∀ cs, v ≠ .agg cs) → Jf ⟨[], gh0 w, w⟩ (.p c) v := by
   intro c hc hne
   subst hc
   refine .p _ _ (q3 0 c v rfl ?_)
   cases v <;> first | rfl | exact absurd rfl (hne _)
  unfold J3L at q1
  split at hp
  ·rename_i ht
   rw [ht] at q1 hv ⊢
   obtain ⟨b, rfl⟩ := q1
   exact one rfl (fun cs he => by subst he; simp [Cell.okWide, Cell.ok, ht] at hv)
  ·rename_i k ht
   rw [ht] at q1 hv ⊢
   obtain ⟨z, rfl, _⟩ := q1
   exact one rfl (fun cs he => by subst he; simp [Cell.okWide, Cell.ok, ht] at hv)
  ·rename_i ht
   rw [ht] at q1 hv ⊢
   obtain ⟨z, rfl, _⟩ := q1
   exact one rfl (fun cs he => by subst he; simp [Cell.okWide, Cell.ok, ht] at hv)
  ·rename_i e ht
   rw [ht] at q1 hv ⊢
   obtain ⟨rows, rfl, _⟩ := q1
   exact one rfl (fun cs he => by subst he; simp [Cell.okWide, Cell.ok, ht] at hv)
  ·rename_i fs ht
   rw [ht] at hv ⊢
   obtain ⟨cs, rfl, _⟩ := hv
   exact .data _ _ (by simpa [Value.cells] using q2) (fun i x v h1 h2 => q3 i x v h1 (by simpa [Value.cells] using h2))
  ·rename_i m e ht
   rw [ht] at hv ⊢
   obtain ⟨cs, rfl, _⟩ := hv
   exact .data _ _ (by simpa [Value.cells] using q2) (fun i x v h1 h2 => q3 i x v h1 (by simpa [Value.cells] using h2))
  ·cases hp
end
end Go.Am
end
section
namespace Go.Am
section
variable (P : Program) {α β : Type}
def Rd (n : Nat) (t : TypeId) (r : α → List PV) (Q : α → Prop) : Prop := ∀ pvs, J3L P n t pvs → ∃ x, pvs = r x ∧ Q x
def fieldsOf (t : TypeId) : Option (List (TypeId × Nat)) := match P.underlying t with
 | some (.struct fs) => some (fs.toList.map fun f => (f.type, f.offset))
 | _ => none
variable {P}
theorem Jtp {n : Nat} {t : TypeId} {k : IntKind} (ht : P.underlying t = some (.int k)) : Rd P (n + 1) t (r_i k) fun z => k.min ≤ z ∧ z ≤ k.max := by
 intro pvs h
 unfold J3L at h
 rw [ht] at h
 obtain ⟨z, rfl, hz⟩ := h
 refine ⟨z, rfl, ?_⟩
 simpa [Lit.wf, IntKind.has] using hz
theorem Rd.mono {n : Nat} {t : TypeId} {r : α → List PV} {Q Q' : α → Prop} (h : Rd P n t r Q) (hq : ∀ x, Q x → Q' x) : Rd P n t r Q' := fun pvs hp => by
 obtain ⟨x, e, q⟩ := h pvs hp
 exact ⟨x, e, hq x q⟩
theorem JrU {n : Nat} {t : TypeId} (ht : P.underlying t = some .bool) : Rd P (n + 1) t r_b fun _ => True := by
 intro pvs h
 unfold J3L at h
 rw [ht] at h
 obtain ⟨z, rfl⟩ := h
 exact ⟨z, rfl, trivial⟩
theorem Jtw {n : Nat} {t : TypeId} (ht : P.underlying t = some .string) : Rd P (n + 1) t r_s fun l => l.length ≤ maxLen := by
 intro pvs h
 unfold J3L at h
 rw [ht] at h
 obtain ⟨z, rfl, hz⟩ := h
 exact ⟨z, rfl, hz⟩
theorem Jpx {n : Nat} {t e : TypeId} {r : α → List PV} {Q : α → Prop} {k : Nat} (ht : P.underlying t = some (.slice e)) (hk : P.cellsOf e = k) (he : Rd P n e r Q) :
  Rd P (n + 1) t (Juu k r) fun l => l.length ≤ maxLen ∧ ∀ x ∈ l, Q x := by
 intro pvs h
 unfold J3L at h
 rw [ht] at h
 obtain ⟨rows, rfl, hl, hr⟩ := h
 have key : ∀ rows : List (List PV), (∀ row ∈ rows, row.length = P.cellsOf e ∧ J3L P n e row) → ∃ l : List α, rows = l.map r ∧ ∀ x ∈ l, Q x := by
  intro rows
  induction rows with
  | nil => intro _; exact ⟨[], rfl, by simp⟩
  | cons row rows ih =>
   intro hh
   obtain ⟨l, rfl, hl⟩ := ih (fun r hr => hh r (by simp [hr]))
   obtain ⟨x, rfl, hx⟩ := he row (hh row (by simp)).2
   refine ⟨x :: l, rfl, fun y hy => ?_⟩
   rcases List.mem_cons.1 hy with rfl | hy
   ·exact hx
   ·exact hl y hy
 obtain ⟨l, rfl, hq⟩ := key rows hr
 exact ⟨l, by rw [hk]; rfl, by simpa using hl, hq⟩
theorem Jp2 {n m : Nat} {t e : TypeId} {r : α → List PV} {Q : α → Prop} {k : Nat} (ht : P.underlying t = some (.array m e)) (hk : P.cellsOf e = k) (hm : P.cellsOf t = m * k) (he : Rd P n e r Q) :
  Rd P (n + 1) t (J7n (n := m) r) fun v => ∀ (i : Nat) (h : i < m), Q v[i] := by
 intro pvs h
 unfold J3L at h
 rw [ht] at h
 obtain ⟨hl, hr⟩ := h
 rw [hm] at hl
 have key : ∀ (m : Nat) (pvs : List PV), pvs.length = m * k → (∀ i, i < m → J3L P n e ((pvs.drop (i * k)).take k)) → ∃ l : List α, l.length = m ∧ pvs = (l.map r).flatten ∧ ∀ (i : Nat) (h : i < l.length), Q l[i] := by
  intro m
  induction m with
  | zero =>
   intro pvs h _
   refine ⟨[], rfl, ?_, by simp⟩
   rw [Nat.zero_mul] at h
   simpa using h
  | succ m ih =>
   intro pvs h hh
   rw [Nat.succ_mul] at h
   obtain ⟨l, h1, h2, h3⟩ := ih (pvs.drop k) (by rw [List.length_drop]; omega) (fun i hi => by
    have := hh (i + 1) (by omega)
    rw [List.drop_drop]
    rw [Nat.succ_mul, Nat.add_comm] at this
    exact this)
   obtain ⟨x, e1, hx⟩ := he _ (hh 0 (by omega))
   rw [Nat.zero_mul, List.drop_zero] at e1
   refine ⟨x :: l, by simp [h1], ?_, fun i hi => ?_⟩
   ·rw [List.map_cons, List.flatten_cons, ← e1, ← h2, List.take_append_drop]
   ·cases i with
    | zero => exact hx
    | succ i => exact h3 i (by simpa using hi)
 obtain ⟨l, h1, h2, h3⟩ := key m pvs hl (fun i hi => by have := hr i hi; rwa [hk] at this)
 refine ⟨⟨l.toArray, by simpa using h1⟩, ?_, fun i hi => ?_⟩
 ·rw [h2]; rfl
 ·have := h3 i (by omega)
  simpa using this
theorem JnL {m n : Nat} {t : TypeId} {fl : List (TypeId × Nat)} {pvs : List PV} (hm : m = n + 1) (ht : fieldsOf P t = some fl) (h : J3L P m t pvs) :
  pvs.length = P.cellsOf t ∧ ∀ x ∈ fl, J3L P n x.1 ((pvs.drop x.2).take (P.cellsOf x.1)) := by
 subst hm
 unfold J3L at h
 unfold fieldsOf at ht
 split at ht
 ·rename_i fs hfs
  rw [hfs] at h
  injection ht with ht
  subst ht
  refine ⟨h.1, fun x hx => ?_⟩
  obtain ⟨f, hf, rfl⟩ := List.mem_map.1 hx
  exact h.2 f hf
 ·cases ht
end
end Go.Am
end
section
namespace Go.Am
section
variable (P : Program)
def J9c (p : Ty → TypeId → Bool) : Nat → List (TypeId × Nat) → Ty → Bool
 | _, [], .u => true
 | _, [], _ => false
 | o, [f], a => decide (f.2 = o) && p a f.1 && decide (P.cellsOf f.1 = a.sz)
 | o, f :: g :: r, .pr a c => decide (f.2 = o) && p a f.1 && decide (P.cellsOf f.1 = a.sz) && J9c p (o + a.sz) (g :: r) c
 | _, _ :: _ :: _, _ => false
def Je9 : Nat → Ty → TypeId → Bool
 | 0, _, _ => false
 | n + 1, ty, t => match fieldsOf P t with
  | some fs => J9c P (Je9 n) 0 fs ty && decide (P.cellsOf t = ty.sz)
  | none => match P.underlying t, ty with
   | some .bool, .b => true
   | some (.int k), .i k' => decide (k = k')
   | some .string, .s => true
   | some (.slice e), .l a => Je9 n a e && decide (P.cellsOf e = a.sz)
   | some (.array m e), .ar m' a => decide (m = m') && Je9 n a e && decide (P.cellsOf e = a.sz) && decide (P.cellsOf t = m * a.sz)
   | _, _ => false
def Ty.inR : (t : Ty) → t.D → Prop
 | .b, _ => True
 | .i k, z => k.min ≤ z ∧ z ≤ k.max
 | .s, z => List.length z ≤ maxLen
 | .l t, z => List.length z ≤ maxLen ∧ ∀ x ∈ (z : List t.D), t.inR x
 | .pr a c, x => a.inR x.1 ∧ c.inR x.2
 | .ar n t, v => ∀ (i : Nat) (h : i < n), t.inR ((v : Vector t.D n)[i])
 | .u, _ => True
 | .f, _ => True
end
section
variable {P : Program}
theorem JlA {n : Nat} (ih : ∀ ty t, Je9 P n ty t = true → Rd P n t (cel ty) ty.inR) : ∀ (o : Nat) (fs : List (TypeId × Nat)) (ty : Ty) (pvs : List PV), J9c P (Je9 P n) o fs ty = true →
  (∀ x ∈ fs, J3L P n x.1 ((pvs.drop x.2).take (P.cellsOf x.1))) → ∃ x : ty.D, (pvs.drop o).take ty.sz = cel ty x ∧ ty.inR x
 | o, [], ty, pvs, h, _ => by
  cases ty with
  | u => exact ⟨(), by simp [Ty.sz, cel], trivial⟩
  | _ => simp [J9c] at h
 | o, [f], ty, pvs, h, hf => by
  simp only [J9c, Bool.and_eq_true, decide_eq_true_eq] at h
  obtain ⟨⟨h1, h2⟩, h3⟩ := h
  have := hf f (by simp)
  rw [h1, h3] at this
  obtain ⟨x, e, q⟩ := ih ty f.1 h2 _ this
  exact ⟨x, e, q⟩
 | o, f :: g :: r, ty, pvs, h, hf => by
  cases ty with
  | pr a c =>
   simp only [J9c, Bool.and_eq_true, decide_eq_true_eq] at h
   obtain ⟨⟨⟨h1, h2⟩, h3⟩, h4⟩ := h
   have := hf f (by simp)
   rw [h1, h3] at this
   obtain ⟨x, e, q⟩ := ih a f.1 h2 _ this
   obtain ⟨y, e', q'⟩ := JlA ih (o + a.sz) (g :: r) c pvs h4 (fun z hz => hf z (by simp [List.mem_cons.1 hz]))
   refine ⟨(x, y), ?_, q, q'⟩
   simp only [cel, Ty.sz]
   rw [← e, ← e', ← List.drop_drop, List.take_add]
  | _ => simp [J9c] at h
theorem rdT : ∀ (n : Nat) (ty : Ty) (t : TypeId), Je9 P n ty t = true → Rd P n t (cel ty) ty.inR
 | 0, _, _, h => by cases h
 | n + 1, ty, t, h => by
  unfold Je9 at h
  split at h
  ·rename_i fs hfs
   simp only [Bool.and_eq_true, decide_eq_true_eq] at h
   intro pvs hp
   obtain ⟨hl, hf⟩ := JnL rfl hfs hp
   obtain ⟨x, e, q⟩ := JlA (rdT n) 0 fs ty pvs h.1 hf
   rw [List.drop_zero, ← h.2, ← hl, List.take_length] at e
   exact ⟨x, e, q⟩
  ·split at h
   ·rename_i ht; exact JrU ht
   ·rename_i k k' ht
    simp only [decide_eq_true_eq] at h; subst h
    exact Jtp ht
   ·rename_i ht; exact Jtw ht
   ·rename_i e a ht
    simp only [Bool.and_eq_true, decide_eq_true_eq] at h
    exact Jpx ht h.2 (rdT n a e h.1)
   ·rename_i m e m' a ht
    simp only [Bool.and_eq_true, decide_eq_true_eq] at h
    obtain ⟨⟨⟨h1, h2⟩, h3⟩, h4⟩ := h
    subst h1
    exact Jp2 ht h3 h4 (rdT n a e h2)
   ·cases h
def Jns (P : Program) (t : TypeId) : Bool := match P.underlying t with
 | some (.struct _) => true
 | some (.array _ _) => true
 | _ => false
def JgE (agg : Bool) (t : Ty) (x : t.D) : TA := if agg = true then .dt t x else .c (.d t x)
theorem Jc2 (L : Nat → Nat) {t : TypeId} {ty : Ty} {agg : Bool} (ha : Jns P t = agg) (h1 : agg = false → ty.sz = 1) (x : ty.D) : Jnm P t (cel ty x) = J0j L (JgE agg ty x) := by
 unfold Jnm Jns at *
 generalize P.underlying t = u at ha ⊢
 rcases u with _ | d
 ·subst ha
  dsimp only
  rw [Jk3 (h1 rfl) x]
  rfl
 ·cases d <;> first
   | (subst ha; rfl)
   | (subst ha; dsimp only; rw [Jk3 (h1 rfl) x]; rfl)
theorem JsO {F : Orc} {f : FuncId} {g : Sig} {S : (tyL g.ti).D → Option (tyL g.to).D} {xs : List TA} {x : (tyL g.ti).D} {y : (tyL g.to).D} (he : EOk F (sigE f g S)) (hx : JdB g xs [] = some x) (hS : S x = some y)
  (hv : JeR g y = some (.a (.c (.d .b true)), [])) : F f (xs.map (J0j (lns []))) [] = some (.p (.b true), []) := by
 have h : (sigE f g S).go xs [] (fun v out => some (v, out)) = some (TV.a (.c (.d .b true)), ([] : List (Bool × TB))) := by
  simp only [sigE, hx, hS, Option.bind_some, hv]
  cases g.same <;> rfl
 obtain ⟨v, out, h1, _, h3⟩ := he.ok h
 injection h3 with h3; injection h3 with h4 h5; subst h4 h5
 exact h1
end
end Go.Am
end
section
namespace Go.Am
set_option maxRecDepth 20000
set_option linter.unusedVariables false
set_option linter.unusedSimpArgs false
open Classical
theorem JpE (n w k : Int) (hw : w < k) (hk : k ≤ 1099511627776) (hn : 1 ≤ n) : J4a n w (1, k, 0, 0, 0, 0) := ⟨rfl, rfl, hw, hk, by show (0 : Int) ≤ 0; omega, by show (0 : Int) < n; omega, by show (0 : Int) ≤ 0; omega, by show (0 : Int) < n; omega, by show (0 : Int) ≤ 0; omega, by show (0 : Int) < 256; omega, fun h => by cases h⟩
theorem JsE {x : DT} {f : FT} (hv : VD x) (hf : J4a (J5 x.1) x.2.1 f) (hl : J5 x.2.2.2.2 < 64) : JbL x f = ((x.1, x.2.1, x.2.2.1, x.2.2.2.1, x.2.2.2.2 ++ [f]), 0) := by
 unfold JbL
 rw [if_pos hv, if_pos hf, if_neg (by omega)]
theorem JsU {x : DT} {f : FT} (hv : VD x) (hf : J4a (J5 x.1) x.2.1 f) (hl : J5 x.2.2.2.2 < 64) : VD (x.1, x.2.1, x.2.2.1, x.2.2.2.1, x.2.2.2.2 ++ [f]) where
 p1 := hv.p1
 p64 := hv.p64
 w0 := hv.w0
 w1 := hv.w1
 f64 := by show J5 (x.2.2.2.2 ++ [f]) ≤ 64; rw [J3q, J4f]; omega
 page := hv.page
 rng := hv.rng
 adj := hv.adj
 flt := fun g hg => by
  rcases List.mem_append.1 hg with hg | hg
  ·exact hv.flt g hg
  ·rw [List.mem_singleton.1 hg]; exact hf
theorem JqY : (mkS 1 255 255 0 : Option (List Int)) = some (List.replicate 255 0) := rfl
theorem JfA (a b : List UInt8) (h : a.length + b.length ≤ 1000000) : JbZ a b = some (a ++ b) := by unfold JbZ; rw [if_pos (by omega)]
theorem Jrp : J35 () = some true := by
 refine J1w ?_
 unfold J35
 refine .bind (Jc (Jot 1)) fun y2 e2 => ?_
 have n1 : Jcg 1 = ((List.replicate 1 J1R, 0, [], false, []), 0) := by unfold Jcg; rw [if_pos (by decide)]; rfl
 rw [n1] at e2
 subst e2
 have v2 := Jed 1 0 (by decide) (by decide) (by decide) (by decide)
 have hf := JpE (J5 (List.replicate 1 J1R)) 0 2 (by decide) (by decide) (by decide)
 refine .bind (Jc (JoH _ _ (by show (0 : Int) ≤ _; decide))) fun y3 e3 => ?_
 rw [JsE v2 hf (by show (0 : Int) < 64; decide)] at e3
 subst e3
 have v3 := JsU v2 hf (by show (0 : Int) < 64; decide)
 refine .bind (Jc JqY) fun y4 e4 => .bind (Jc (JfA _ _ (by subst e4; simp [toStr]))) fun y5 e5 => .bind (Jc JqY) fun y6 e6 => .bind (Jc (JfA _ _ (by subst e6; simp [toStr]))) fun y7 e7 => ?_
 have l5 : y5.length = 256 := by subst e5; subst e4; simp [toStr]
 have l7 : y7.length = 256 := by subst e7; subst e6; simp [toStr]
 clear e4 e5 e6 e7
 have hb : Byt [((1, 2, 0, 0, 0, 0) : FT)] := fun f hf => by rw [List.mem_singleton.1 hf]; exact ⟨by decide, by decide⟩
 refine .bind (Jc (JdN _ _ _ (by show (0 : Int) ≤ _; decide) hb)) fun y8 e8 => ?_
 rw [Jos v3 rfl (by decide) (by show (0 : Int) < 1; decide) l5 (by show (0 : Int) < _; decide)] at e8
 obtain ⟨-, v4, b4, p4, -, -⟩ := Ji3 v3 hb (p := 0) (by decide) (by show (0 : Int) < 1; decide) l5 (by show (0 : Int) < _; decide)
 have w4 : wM ((List.replicate 1 J1R, 0, [], false, [] ++ [(1, 2, 0, 0, 0, 0)]) : DT) 0 y5 = ([y5], 1, [], false, [(1, 2, 0, 0, 0, 0)]) := rfl
 have w4' : wM ((List.replicate 1 J1R, 0, [], false, [(1, 2, 0, 0, 0, 0)]) : DT) 0 y5 = ([y5], 1, [], false, [(1, 2, 0, 0, 0, 0)]) := rfl
 dsimp only at v4
 rw [w4] at v4
 rw [w4] at e8
 subst e8
 refine .bind (Jc (JdN _ _ _ (by show (0 : Int) ≤ _; decide) hb)) fun y9 e9 => ?_
 rw [Jos v4 rfl (by decide) (by show (0 : Int) < 1; decide) l7 (by show (1 : Int) < _; decide)] at e9
 obtain ⟨-, v5, -, -, -, -⟩ := Ji3 v4 hb (p := 0) (by decide) (by show (0 : Int) < 1; decide) l7 (by show (1 : Int) < _; decide)
 have w5 : wM (([y5], 1, [], false, [(1, 2, 0, 0, 0, 0)]) : DT) 0 y7 = ([y5], 2, [], false, []) := rfl
 rw [w5] at v5 e9
 subst e9
 refine .bind (Jc (Jle _ _ (by show (0 : Int) ≤ _; decide))) fun y10 e10 => ?_
 have r10 : JcI ([y5], 2, [], false, []) 0 = (y5, 0) := by
  unfold JcI
  rw [if_pos (JqW v5 rfl (by decide) (by show (0 : Int) < 1; decide)), if_neg (by simp)]
  rfl
 rw [r10] at e10
 subst e10
 exact .some (by simp [eqI, eqS])
theorem Jqh {x0 : List Int} (w0 : Ty.inR (.l (.i .u8)) x0) : ∀ a ∈ x0, 0 ≤ a ∧ a ≤ 255 := fun a ha => by
 have := w0.2 a ha
 simpa [Ty.inR, IntKind.min, IntKind.max, IntKind.signed, IntKind.bits] using this
structure Qt (d : DT) : Prop where
 vd : VD d
 live : d.2.2.2.1 = false
 flt : d.2.2.2.2 = []
 unr : d.2.2.1 = []
end Go.Am
end
section
namespace Go.Am
set_option maxRecDepth 20000
set_option linter.unusedVariables false
set_option linter.unusedSimpArgs false
noncomputable section
open Classical
theorem Jts {x : DT} (hv : VD x) {p : Int} (h0 : 0 ≤ p) (h1 : p < J5 x.1) (s : List UInt8) : J4s (x, p, s) = some (J4z x p.toNat s) := by
 unfold J4s Jj7 J8n
 have := hv.p64
 have := hv.unr
 unfold J5 at *
 rw [if_pos ⟨h0, by dsimp only; omega, by dsimp only; omega, by dsimp only; omega⟩]
def J9v (s o : List UInt8) (k : Int) : List UInt8 := s.take k.toNat ++ o.drop k.toNat
def JcA (x : DT) (p : Int) (s : List UInt8) (k : Int) : DT × Int := if usD x p = 0 then if 0 ≤ k ∧ k ≤ 256 then if s.length = 256 then (J4z x p.toNat (J9v s (x.1.getD p.toNat []) k), 0) else (J4P, 2) else (J4P, 1) else (J4P, usD x p)
theorem Jrz (x : DT) (p : Int) (s : List UInt8) (k : Int) (hu : J5 x.2.2.1 ≤ 1000000000000) : J2C (x, p, s, k) = some (JcA x p s k) := by
 refine J1w ?_
 unfold J2C JcA
 dsimp only
 refine .bind (Jc (JiW x p hu)) fun y e => ?_
 subst e
 refine .ne (fun c => .some (if_neg c).symm) fun c => ?_
 rw [if_pos c]
 obtain ⟨hv, _, h0, h1⟩ := J7V c
 refine .ltf (fun c1 => .gt (fun c2 => .some (if_neg (show ¬(0 ≤ k ∧ k ≤ 256) by omega)).symm) fun c2 => ?_) fun c1 => .some (if_neg (show ¬(0 ≤ k ∧ k ≤ 256) by omega)).symm
 rw [if_pos (show 0 ≤ k ∧ k ≤ 256 by omega)]
 refine .ne (fun c3 => .some (if_neg (show ¬s.length = 256 by unfold J5 at c3; omega)).symm) fun c3 => ?_
 have hs : s.length = 256 := by unfold J5 at c3; omega
 rw [if_pos hs]
 obtain ⟨g1, g2⟩ := hv.vp.getD h0 h1
 refine .bind (JqA (l := s) (k := k) (by omega) (by omega)) fun a ha => .bind (J1x h0 h1) fun o ho => .bind (Jou (l := o) (k := k) (by omega) ?_) fun b hb => ?_
 ·have : o.length = 256 := by rw [g1] at ho; injection ho.1 with e; rw [← e]; exact g2
  unfold J5; omega
 have eo : x.1.getD p.toNat [] = o := JfM ho.1
 have ol : o.length = 256 := by rw [← eo]; exact g2
 refine .bind (Jc (JfA a b ?_)) fun z ez => .bind (Jc (Jts hv h0 h1 z)) fun w ew => .some ?_
 ·rw [ha.1, hb.1, List.length_take, List.length_drop]; omega
 ·rw [ew, ez, ha.1, hb.1, eo]; rfl
theorem q2 : Qt (List.replicate 2 J1R, 0, [], false, []) := ⟨Jed 2 0 (by decide) (by decide) (by decide) (by decide), rfl, rfl, rfl⟩
theorem Jmu {x : DT} (hv : VD x) : J0S x = some ((List.replicate x.1.length J1R, x.2.1, [], false, x.2.2.2.2), 0) := by
 refine J1w ?_
 unfold J0S
 refine .bind (J8e x (by have := hv.unr; omega)) fun y hy => .not (fun k => by rw [hy.2 hv] at k; cases k) fun _ => ?_
 refine .bind (Jc (Jha _ hv.p1 hv.p64)) fun y3 e3 => .bind (Jc (Jey _ (by have := hv.f64; omega))) fun y4 e4 => .some ?_
 rw [e3, e4, JjQ]
end
end Go.Am
end
section
namespace Go.Am
set_option maxRecDepth 20000
set_option linter.unusedVariables false
set_option linter.unusedSimpArgs false
noncomputable section
open Classical
theorem q3 : Qt (List.replicate 3 J1R, 0, [], false, []) := ⟨Jed 3 0 (by decide) (by decide) (by decide) (by decide), rfl, rfl, rfl⟩
end
end Go.Am
end
section
namespace Go.Am
set_option maxRecDepth 20000
set_option linter.unusedVariables false
set_option linter.unusedSimpArgs false
noncomputable section
open Classical
theorem J7F (l m : List Int) (h : J5 l ≤ 1000000) (h2 : J5 m ≤ 1000000) : J1V 8 l m = some (l ++ m) := by
 unfold J1V
 have : J1e (l.length + m.length) 8 = true := by unfold J1e; unfold J5 at h h2; simp only [decide_eq_true_eq]; omega
 rw [if_pos this]
theorem J2S {α : Type} {l : List α} {i : Int} {a : α} (h0 : 0 ≤ i) (h : l[i.toNat]? = some a) : l.take (i + 1).toNat = l.take i.toNat ++ [a] := by
 rw [show (i + 1).toNat = i.toNat + 1 by omega, List.take_add_one, h]; rfl
theorem J9k {α : Type} {l : List α} {i : Int} (h : ¬i < J5 l) : l.take i.toNat = l := List.take_of_length_le (by unfold J5 at h; omega)
theorem Je5 {α : Type} (l : List α) (n : Nat) : J5 (l.take n) ≤ J5 l := by unfold J5; rw [List.length_take]; omega
theorem J4H {α : Type} (l : List α) (p : α → Bool) : J5 (l.filter p) ≤ J5 l := by have := List.length_filter_le p l; unfold J5; omega
theorem Jmt (l : List Int) (p : Int) (hl : J5 l ≤ 1000) : J2o (l, p) = some (l.filter fun n => !(n == p)) := by
 refine J1w ?_
 unfold J2o
 have e0 : ([] : List Int) = (l.take (0 : Int).toNat).filter fun n => !(n == p) := rfl
 rw [e0]
 refine J1B (fun i => (l, p, i, (l.take i.toNat).filter fun n => !(n == p))) (J5 l) (fun _ => True) J1z trivial fun i g1 g2 _ => ?_
 unfold J8p
 dsimp only
 have hf := J4H (l.take i.toNat) fun n => !(n == p)
 have ht := Je5 l i.toNat
 refine .lt (fun c => .bind (J1x g1 c).eqn fun a ha => .ne (fun d => .bind (Jc ha.2) fun b e => ?_) fun d => .some ⟨?_, trivial, c⟩) fun c => .some (by rw [J9k c])
 ·subst e
  refine .bind (Jc (J7F _ [b] (by omega) (by show (1 : Int) ≤ 1000000; decide))) fun y e => .some ⟨?_, trivial, c⟩
  rw [J2t g1 (by omega), e, J2S g1 ha.1.1, List.filter_append, List.filter_cons, if_pos (by simpa using d)]; rfl
 ·rw [J2t g1 (by omega), J2S g1 ha.1.1, List.filter_append, List.filter_cons, if_neg (by simp [d])]; simp
def wI (t : List Int) (p : Int) (done : Bool) : List Int := t.filter (· < p) ++ (if done = true then [p] else []) ++ t.filter (p < ·)
theorem Jsa (l : List Int) (p : Int) (hs : l.Pairwise (· < ·)) (hl : J5 l ≤ 1000) : J20 (l, p) = some (J7H l p) := by
 refine J1w ?_
 unfold J20
 refine J3o (τ := Int × Bool) (fun q => (l, p, q.2, q.1, wI (l.take q.1.toNat) p q.2)) (fun q => 0 ≤ q.1 ∧ q.1 ≤ J5 l ∧ (q.2 = false → ∀ a ∈ l.take q.1.toNat, a < p) ∧ (q.2 = true → ∃ a ∈ l.take q.1.toNat, p ≤ a)) (fun q => J5 l - q.1) ?_ (0, false) rfl ⟨Int.le_refl _, J1z, fun _ a ha => by simp at ha, fun h => by cases h⟩
 rintro ⟨i, done⟩ ⟨g1, g2, g3, g4⟩
 dsimp only at g1 g2 g3 g4
 unfold Jaq
 dsimp only
 have ht := Je5 l i.toNat
 have h1 := J4H (l.take i.toNat) (· < p)
 have h2 := J4H (l.take i.toNat) (p < ·)
 have hw : J5 (wI (l.take i.toNat) p done) ≤ 3000 := by unfold wI; rw [J3q, J3q]; split <;> simp only [J4f, Jqv] <;> omega
 have step : ∀ a, l[i.toNat]? = some a → i < J5 l → ∀ d', (d' = false → a < p ∧ done = false) → (d' = true → p ≤ a ∨ done = true) → (0 ≤ i + 1 ∧ i + 1 ≤ J5 l ∧ (d' = false → ∀ b ∈ l.take (i + 1).toNat, b < p) ∧ (d' = true → ∃ b ∈ l.take (i + 1).toNat, p ≤ b)) := fun a ha hi d' k1 k2 => by
  rw [J2S g1 ha]
  refine ⟨by omega, by omega, fun h b hb => ?_, fun h => ?_⟩
  ·obtain ⟨q1, q2⟩ := k1 h
   rcases List.mem_append.1 hb with hb | hb
   ·exact g3 q2 b hb
   ·rw [List.mem_singleton.1 hb]; exact q1
  ·rcases k2 h with q | q
   ·exact ⟨a, List.mem_append_right _ (List.mem_singleton.2 rfl), q⟩
   ·obtain ⟨b, hb, hb2⟩ := g4 q
    exact ⟨b, List.mem_append_left _ hb, hb2⟩
 have m : 0 ≤ i → J5 l - (i + 1) < J5 l - i ∧ 0 ≤ J5 l - i := fun _ => by omega
 refine .lt (fun c => ?_) fun c => .inr ?_
 ·obtain ⟨a, ha⟩ : ∃ a, l[i.toNat]? = some a := ⟨_, List.getElem?_eq_getElem (by unfold J5 at c; omega)⟩
  have hx : idx l i = some a := by unfold idx; rw [if_pos g1]; exact ha
  have hear : ∀ b ∈ l.take i.toNat, b < a := fun b hb => by
   obtain ⟨j, hj⟩ := List.getElem?_of_mem hb
   obtain ⟨hj1, hj2⟩ := List.getElem?_eq_some_iff.1 hj
   have hjl : j < i.toNat := by rw [List.length_take] at hj1; omega
   obtain ⟨hi1, hi2⟩ := List.getElem?_eq_some_iff.1 ha
   have := List.pairwise_iff_getElem.1 hs j i.toNat (by omega) hi1 hjl
   rw [hi2] at this
   rw [← hj2, List.getElem_take]; exact this
  have ei := J2t g1 (show i < _ by omega)
  refine .not (fun k => ?_) fun k => ?_
  ·have hlt := g3 k
   have f1 : (l.take i.toNat).filter (· < p) = l.take i.toNat := List.filter_eq_self.2 fun b hb => by simpa using hlt b hb
   have f2 : (l.take i.toNat).filter (p < ·) = [] := List.filter_eq_nil_iff.2 fun b hb => by have := hlt b hb; simp; omega
   have ew : wI (l.take i.toNat) p done = l.take i.toNat := by unfold wI; rw [f1, f2, k]; simp
   refine .bind (Jc hx) fun y3 e3 => ?_
   subst e3
   refine .ge (fun d => .bind (Jc (J7F _ [p] (by omega) (by show (1 : Int) ≤ 1000000; decide))) fun y4 e4 => .bind (Jc hx) fun y5 e5 => ?_) fun d => .bind (Jc hx) fun y8 e8 => ?_
   ·subst e5
    refine .ne (fun d2 => .bind (Jc hx) fun y6 e6 => .bind (Jc (J7F _ [y6] (by rw [e4, J3q, J4f]; omega) (by show (1 : Int) ≤ 1000000; decide))) fun y7 e7 => .some ⟨(i + 1, true), ?_, step _ ha c true nofun (fun _ => .inl d), m g1⟩) fun d2 => .some ⟨(i + 1, true), ?_, step _ ha c true nofun (fun _ => .inl d), m g1⟩
    ·rw [ei, e7, e4, e6, ew]
     unfold wI
     dsimp only
     rw [J2S g1 ha, List.filter_append, List.filter_append, f1, f2]
     have q1 : ([y5].filter (· < p)) = [] := by simp; omega
     have q2 : ([y5].filter (p < ·)) = [y5] := by simp; omega
     rw [q1, q2]; simp
    ·rw [ei, e4, ew]
     unfold wI
     dsimp only
     rw [J2S g1 ha, List.filter_append, List.filter_append, f1, f2]
     have q1 : ([y5].filter (· < p)) = [] := by simp; omega
     have q2 : ([y5].filter (p < ·)) = [] := by simp; omega
     rw [q1, q2]; simp
   ·subst e8
    refine .ne (fun d2 => .bind (Jc hx) fun y9 e9 => .bind (Jc (J7F _ [y9] (by omega) (by show (1 : Int) ≤ 1000000; decide))) fun y10 e10 => .some ⟨(i + 1, done), ?_, step _ ha c done (fun _ => ⟨by omega, k⟩) (fun h => by rw [k] at h; cases h), m g1⟩) fun d2 => by omega
    rw [ei, e10, e9, ew]
    unfold wI
    dsimp only
    rw [J2S g1 ha, List.filter_append, List.filter_append, f1, f2, k]
    have q1 : ([y8].filter (· < p)) = [y8] := by simp; omega
    have q2 : ([y8].filter (p < ·)) = [] := by simp; omega
    rw [q1, q2]; simp
  ·obtain ⟨b, hb, hb2⟩ := g4 k
   have := hear b hb
   refine .bind (Jc hx) fun y11 e11 => ?_
   subst e11
   refine .ne (fun d2 => .bind (Jc hx) fun y12 e12 => .bind (Jc (J7F _ [y12] (by omega) (by show (1 : Int) ≤ 1000000; decide))) fun y13 e13 => .some ⟨(i + 1, done), ?_, step _ ha c done (fun h => by rw [k] at h; cases h) (fun _ => .inr k), m g1⟩) fun d2 => by omega
   rw [ei, e13, e12]
   unfold wI
   dsimp only
   rw [J2S g1 ha, List.filter_append, List.filter_append]
   have q1 : ([y11].filter (· < p)) = [] := by simp; omega
   have q2 : ([y11].filter (p < ·)) = [y11] := by simp; omega
   rw [q1, q2]; simp
 ·have et := J9k c
  rw [et] at g3 g4 hw ⊢
  refine .not (fun k => .bind (Jc (J7F _ [p] (by omega) (by show (1 : Int) ≤ 1000000; decide))) fun y e => .some ?_) fun k => .some ?_
  ·have hlt := g3 k
   have f2 : l.filter (p < ·) = [] := List.filter_eq_nil_iff.2 fun b hb => by have := hlt b hb; simp; omega
   rw [e]
   unfold wI J7H
   rw [k, f2]; simp
  ·unfold wI J7H
   rw [k]; simp
theorem Jbd {n : Int} {y : DT} (h : VP n y) (hn : n ≤ 64) {t : Int} (h0 : 0 ≤ t) (h1 : t < n) {s : List UInt8} (hs : s.length = 256) {k : Int} (k0 : 0 ≤ k) (k1 : k ≤ 256) :
  J0N (y.2.1, y.2.2.1, y.2.2.2.1, t, s, k, y.1, y.2.2.2.2) = some (y.2.1, (J4z y t.toNat (J9v s (y.1.getD t.toNat []) k)).2.2.1, y.2.2.2.1, (J4z y t.toNat (J9v s (y.1.getD t.toNat []) k)).1, y.2.2.2.2) := by
 refine J1w ?_
 unfold J0N
 dsimp only
 obtain ⟨g1, g2⟩ := h.getD h0 h1
 have hl := h.len
 have hll : t < J5 y.1 := by omega
 have hu := h.unr hn
 generalize y.1.getD t.toNat [] = o at g1 g2 ⊢
 refine .bind (JqA (l := s) (k := k) k0 (by unfold J5; omega)) fun a ha => .bind (J6C h0 hll) fun _ _ => .bind (Jc (v := o) g1) fun o' eo => ?_
 subst eo
 refine .bind (Jou (l := o') (k := k) k0 (by unfold J5; omega)) fun b hb => .bind (Jc (JfA a b (by rw [ha.1, hb.1, List.length_take, List.length_drop]; omega))) fun z ez => .bind (J6C h0 hll) fun _ _ => .bind (Jc (v := o') g1) fun o2 eo => ?_
 refine .bind (Jc (Jmt y.2.2.1 t (by unfold J5; omega))) fun w ew => .some ?_
 rw [ew, ez, ha.1, hb.1]
 unfold J4z J9v J3n
 rw [show ((t.toNat : Nat) : Int) = t by omega]
theorem Jq9 (s o : List UInt8) (hs : s.length = 256) (ho : o.length = 256) : J9v s o 256 = s := by
 unfold J9v
 rw [List.take_of_length_le (by rw [hs]; decide), List.drop_of_length_le (by rw [ho]; decide), List.append_nil]
end
end Go.Am
end
section
namespace Go.Am
set_option maxRecDepth 20000
set_option linter.unusedVariables false
set_option linter.unusedSimpArgs false
noncomputable section
open Classical
theorem JoD (l : List UInt8) : (toByt l).length = l.length := by unfold toByt; rw [List.length_map]
theorem Jnj {α β : Type} {f : β → α → β} {l : List α} {i : Int} {a : α} {y : β} (h0 : 0 ≤ i) (h : l[i.toNat]? = some a) : (l.take (i + 1).toNat).foldl f y = f ((l.take i.toNat).foldl f y) a := by
 rw [J2S h0 h, List.foldl_append]; rfl
theorem Jjx {n w : Int} {y : DT} (h : VP n y) (hn : n ≤ 64) {l : List FT} (hf : ∀ f ∈ l, J4a n w f) (hl : J5 l ≤ 100) (A2 : DT) (A3 : List FT) (A4 : List (List UInt8)) (A5 : Int) (A6 : List Int) (A7 : Bool) (A9 A10 : List FT) :
  Jz J2u (0, A2, A3, A4, A5, A6, A7, y.1, A9, A10, y.2.1, y.2.2.1, y.2.2.2.1, l, y.2.2.2.2) = some (l.foldl J2w y, 0) := by
 refine J1w ?_
 refine J1B (fun i => (i, A2, A3, A4, A5, A6, A7, ((l.take i.toNat).foldl J2w y).1, A9, A10, ((l.take i.toNat).foldl J2w y).2.1, ((l.take i.toNat).foldl J2w y).2.2.1, ((l.take i.toNat).foldl J2w y).2.2.2.1, l, ((l.take i.toNat).foldl J2w y).2.2.2.2))
  (J5 l) (fun i => VP n ((l.take i.toNat).foldl J2w y)) J1z h fun i g1 g2 g3 => ?_
 unfold J2u
 dsimp only
 have ei : i < J5 l → J9 .i64 i 1 = i + 1 := fun _ => J2t g1 (by omega)
 refine .lt (fun c => ?_) fun c => .some (by rw [J9k c])
 rw [ei c]
 have hil : i.toNat < l.length := by unfold J5 at c; omega
 have ha : l[i.toNat]? = some l[i.toNat] := List.getElem?_eq_getElem hil
 have hfa := hf _ (List.getElem_mem hil)
 generalize l[i.toNat] = a at ha hfa
 have nx := Jnj (f := J2w) (y := y) g1 ha
 have nv := g3.harm hfa
 rw [nx]
 generalize (l.take i.toNat).foldl J2w y = z at g3 nv nx ⊢
 obtain ⟨p1, p2⟩ := g3.getD hfa.p0 hfa.p1
 have pl := g3.len
 have pp : a.2.2.1 < J5 z.1 := by have := hfa.p1; omega
 have b0 := hfa.b0
 have b1 := hfa.b1
 refine .bind (J6C g1 c) fun _ _ => .bind (Jc (v := a) ha) fun f e => ?_
 subst e
 refine .eq (fun k => ?_) fun k4 => .eq (fun k => ?_) fun k5 => .eq (fun k => ?_) fun k6 => ?_
 ·have hb : f.2.2.2.2.1 < J5 (toByt (z.1.getD f.2.2.1.toNat [])) := by unfold J5; rw [JoD, p2]; omega
  have hbl : f.2.2.2.2.1.toNat < (z.1.getD f.2.2.1.toNat []).length := by omega
  have hv : (toByt (z.1.getD f.2.2.1.toNat []))[f.2.2.2.2.1.toNat]? = some (((z.1.getD f.2.2.1.toNat []).getD f.2.2.2.2.1.toNat 0).toNat : Int) := by
   unfold toByt
   rw [List.getElem?_map, List.getElem?_eq_getElem hbl, List.getD_eq_getElem?_getD (l := z.1.getD f.2.2.1.toNat []), List.getElem?_eq_getElem hbl]
   rfl
  refine .bind (J6C hfa.p0 pp) fun _ _ => .bind (Jc (v := z.1.getD f.2.2.1.toNat []) p1) fun o eo => ?_
  subst eo
  refine .bind (J6C b0 hb) fun _ _ => .bind (Jc hv) fun v ev => .bind (J6C b0 hb) fun _ _ => .bind (Jc hv) fun _ _ => .bind (J6C hfa.p0 pp) fun _ _ => .bind (Jc p1) fun _ _ => .some ⟨?_, nv, c⟩
  unfold J2w
  rw [if_pos k, ev]
  rfl
 ·have hu := g3.unr hn
  refine .bind (Jc (Jsa z.2.2.1 f.2.2.1 g3.srt (by unfold J5; omega))) fun v ev => .some ⟨?_, nv, c⟩
  unfold J2w
  rw [if_neg k4, if_pos k, ev]
 ·refine .some ⟨?_, nv, c⟩
  unfold J2w
  rw [if_neg k4, if_neg k5, if_pos k]
 ·refine .some ⟨?_, nv, c⟩
  unfold J2w
  rw [if_neg k4, if_neg k5, if_neg k6]
theorem Je1 : ∀ (l m : List FT), (∀ f ∈ l, f.1 ≠ 1 ∧ f.1 ≠ 2 ∧ f.1 ≠ 3) → J1T (l ++ m) = J1T m
 | [], _, _ => rfl
 | f :: l, m, h => by
  obtain ⟨h1, h2, h3⟩ := h f List.mem_cons_self
  have e : J1T (f :: (l ++ m)) = J1T (l ++ m) := by
   rw [J1T, if_neg h1, if_neg h2, if_neg h3]
  exact e.trans (Je1 l m fun g hg => h g (List.mem_cons_of_mem _ hg))
theorem Jra {l : List FT} {i : Int} {f : FT} (g0 : 0 ≤ i) (ha : l[i.toNat]? = some f) (h : ∀ f ∈ l.take i.toNat, f.1 ≠ 1 ∧ f.1 ≠ 2 ∧ f.1 ≠ 3) : J1T l = J1T (f :: l.drop (i.toNat + 1)) := by
 obtain ⟨h1, h2⟩ := List.getElem?_eq_some_iff.1 ha
 have e : l = l.take i.toNat ++ f :: l.drop (i.toNat + 1) := by
  conv => lhs; rw [← List.take_append_drop i.toNat l, List.drop_eq_getElem_cons h1, h2]
 conv => lhs; rw [e]
 exact Je1 _ _ h
theorem Jrq {n w : Int} {y : DT} (h : VP n y) (hn : n ≤ 64) {l : List FT} (hf : ∀ f ∈ l, J4a n w f) (hl : J5 l ≤ 100) {p : Int} (h0 : 0 ≤ p) (h1 : p < n) {s : List UInt8} (hs : s.length = 256) (A2 : DT) (A3 : List FT) (A4 : List (List UInt8)) (A5 : Int) (A6 : List Int) (A7 : Bool) (A9 A10 : List FT) :
  Jz J7i (p, s, false, 0, A2, A3, A4, A5, A6, A7, y.1, A9, A10, y.2.1, y.2.2.1, y.2.2.2.1, l, y.2.2.2.2) = some (l.foldl J2w (Jaa (J1T l) y p s), 0) := by
 have e3 : J9E = J2u := rfl
 have e4 : J9D = J2u := rfl
 have e5 : J9K = J2u := rfl
 refine J1w ?_
 have pall : ∀ (t : Int), 0 ≤ t → t < n → J9v s (y.1.getD t.toNat []) 256 = s := fun t ht0 ht1 => Jq9 s _ hs (h.getD ht0 ht1).2
 refine J3o (τ := Int × Bool × DT) (fun q => (p, s, q.2.1, q.1, A2, A3, A4, A5, A6, A7, q.2.2.1, A9, A10, q.2.2.2.1, q.2.2.2.2.1, q.2.2.2.2.2.1, l, q.2.2.2.2.2.2))
  (fun q => 0 ≤ q.1 ∧ q.1 ≤ J5 l ∧ (q.2.1 = false → q.2.2 = y ∧ ∀ f ∈ l.take q.1.toNat, f.1 ≠ 1 ∧ f.1 ≠ 2 ∧ f.1 ≠ 3) ∧ (q.2.1 = true → q.2.2 = Jaa (J1T l) y p s)) (fun q => J5 l - q.1) ?_ (0, false, y) rfl ⟨Int.le_refl _, J1z, fun _ => ⟨rfl, fun f hf => by simp at hf⟩, fun h => by cases h⟩
 rintro ⟨i, done, z⟩ ⟨g1, g2, g3, g4⟩
 dsimp only at g1 g2 g3 g4
 obtain ⟨k1, k2, k3, k4⟩ := Jo5 h hn hf h0 h1 hs
 unfold J7i
 rw [e3, e4, e5]
 dsimp only
 have fin2 : done = true → Tot (Jz J2u (0, A2, A3, A4, A5, A6, A7, z.1, A9, A10, z.2.1, z.2.2.1, z.2.2.2.1, l, z.2.2.2.2)) fun r => r = (l.foldl J2w (Jaa (J1T l) y p s), 0) := fun hd => by
  rw [g4 hd]
  exact Jc (Jjx k2 hn hf hl ..)
 refine .lt (fun c => ?_) fun c => .inr ?_
 ·refine .not (fun k => ?_) fun k => .inr (.not (fun k' => by rw [k] at k'; cases k') fun _ => (fin2 k).mono fun r e => e)
  obtain ⟨rfl, g5⟩ := g3 k
  have hil : i.toNat < l.length := by unfold J5 at c; omega
  have ha : l[i.toNat]? = some l[i.toNat] := List.getElem?_eq_getElem hil
  have hfa := hf _ (List.getElem_mem hil)
  generalize l[i.toNat] = a at ha hfa
  have ek := Jra g1 ha g5
  rw [J2t g1 (by omega)]
  have m : J5 l - (i + 1) < J5 l - i ∧ 0 ≤ J5 l - i := by omega
  refine .bind (J6C g1 c) fun _ _ => .bind (Jc (v := a) ha) fun f e => ?_
  subst e
  refine .eq (fun d => ?_) fun d1 => .eq (fun d => ?_) fun d2 => .eq (fun d => ?_) fun d3 => ?_
  ·refine .some ⟨(i + 1, true, z), rfl, ⟨by show 0 ≤ i + 1; omega, by show i + 1 ≤ J5 l; omega, nofun, fun _ => ?_⟩, m⟩
   rw [ek, J1T, if_pos d]
   rfl
  ·refine .bind (J6C g1 c) fun _ _ => .bind (Jc (v := f) ha) fun f2 e => ?_
   subst e
   have pe := Jbd h hn hfa.t0 hfa.t1 hs (k := 256) (by decide) (by decide)
   rw [pall _ hfa.t0 hfa.t1] at pe
   refine .bind (Jc pe) fun v ev => .some ⟨(i + 1, true, J4z z f2.2.2.2.1.toNat s), ?_, ⟨by show 0 ≤ i + 1; omega, by show i + 1 ≤ J5 l; omega, nofun, fun _ => ?_⟩, m⟩
   ·rw [ev]; rfl
   ·rw [ek, J1T, if_neg d1, if_pos d]
    rfl
  ·refine .bind (J6C g1 c) fun _ _ => .bind (Jc (v := f) ha) fun f2 e => ?_
   subst e
   have pe := Jbd h hn h0 h1 hs hfa.b0 (by have := hfa.b1; omega)
   refine .bind (Jc pe) fun v ev => .some ⟨(i + 1, true, J4z z p.toNat (J9v s (z.1.getD p.toNat []) f2.2.2.2.2.1)), ?_, ⟨by show 0 ≤ i + 1; omega, by show i + 1 ≤ J5 l; omega, nofun, fun _ => ?_⟩, m⟩
   ·rw [ev]; rfl
   ·rw [ek, J1T, if_neg d1, if_neg d2, if_pos d]
    rfl
  ·refine .some ⟨(i + 1, done, z), rfl, ⟨by show 0 ≤ i + 1; omega, by show i + 1 ≤ J5 l; omega, fun _ => ⟨rfl, fun g hg => ?_⟩, fun h => by rw [k] at h; cases h⟩, m⟩
   have hg' : g ∈ l.take (i + 1).toNat := hg
   rw [J2S g1 ha] at hg'
   rcases List.mem_append.1 hg' with hg' | hg'
   ·exact g5 g hg'
   ·rw [List.mem_singleton.1 hg']; exact ⟨d1, d2, d3⟩
 ·refine .not (fun k => ?_) fun k => (fin2 k).mono fun r e => e
  obtain ⟨rfl, g5⟩ := g3 k
  rw [J9k c] at g5
  have ek : J1T l = (0, 0) := by
   have := Je1 l [] g5
   rw [List.append_nil] at this
   exact this
  have pe := Jbd h hn h0 h1 hs (k := 256) (by decide) (by decide)
  rw [pall _ h0 h1] at pe
  have es : Jaa (J1T l) z p s = J4z z p.toNat s := by
   rw [ek]; rfl
  rw [es] at k2 ⊢
  refine .bind (Jc pe) fun v ev => ?_
  rw [ev]
  exact (Jc (Jjx k2 hn hf hl ..)).mono fun r e => e
end
end Go.Am
end
section
namespace Go.Am
set_option maxRecDepth 20000
set_option linter.unusedVariables false
set_option linter.unusedSimpArgs false
noncomputable section
open Classical
theorem JdT {x : DT} (hv : VD x) : S_ref04_Copy x = some (x.2.1, x.2.2.1, x.2.2.2.1, x.1, x.2.2.2.2) := by
 unfold S_ref04_Copy
 have := hv.p64
 have := hv.unr
 have := hv.f64
 rw [Jlt _ (by omega), Option.bind_some, JlP _ (by omega), Option.bind_some, Jey _ (by omega), Option.bind_some]
theorem Jo0 {x : DT} (hv : VD x) {p : Int} (h0 : 0 ≤ p) (h1 : p < J5 x.1) {s : List UInt8} (hs : s.length = 256) (hw : x.2.1 < 1099511627776) :
  Jz J7r (p, s, 0, x, [], [], 0, [], false, x.1, x.2.2.2.2, [], J9 .i64 x.2.1 1, x.2.2.1, x.2.2.2.1, [], []) = some (wM x p s, 0) := by
 refine J1w ?_
 have w0 := hv.w0
 have f64 := hv.f64
 rw [J2t w0 (by omega)]
 refine J1B (fun i => (p, s, i, x, [], [], 0, [], false, x.1, x.2.2.2.2, [], x.2.1 + 1, x.2.2.1, x.2.2.2.1, (x.2.2.2.2.take i.toNat).filter (fun f => f.2.1 == x.2.1 + 1), (x.2.2.2.2.take i.toNat).filter (fun f => !(f.2.1 == x.2.1 + 1)))) (J5 x.2.2.2.2) (fun _ => True) J1z trivial fun i g1 g2 _ => ?_
 unfold J7r
 dsimp only
 have t1 := Je5 x.2.2.2.2 i.toNat
 have t2 := J4H (x.2.2.2.2.take i.toNat) (fun f => f.2.1 == x.2.1 + 1)
 have t3 := J4H (x.2.2.2.2.take i.toNat) (fun f => !(f.2.1 == x.2.1 + 1))
 refine .lt (fun c => .bind (J1x g1 c).eqn fun a ha => .eq (fun d => .bind (Jc ha.2) fun b e => ?_) fun d => .bind (Jc ha.2) fun b e => ?_) fun c => .inr ?_
 ·subst e
  refine .bind (Jc (JcO _ [b] (by omega) (by show (1 : Int) ≤ 100; decide))) fun v ev => .some ⟨?_, trivial, c⟩
  rw [J2t g1 (by omega), ev, J2S g1 ha.1.1, List.filter_append, List.filter_append]
  have q1 : ([b].filter (fun f : FT => f.2.1 == x.2.1 + 1)) = [b] := by simp [d]
  have q2 : ([b].filter (fun f : FT => !(f.2.1 == x.2.1 + 1))) = [] := by simp [d]
  rw [q1, q2, List.append_nil]
 ·subst e
  refine .bind (Jc (JcO _ [b] (by omega) (by show (1 : Int) ≤ 100; decide))) fun v ev => .some ⟨?_, trivial, c⟩
  rw [J2t g1 (by omega), ev, J2S g1 ha.1.1, List.filter_append, List.filter_append]
  have q1 : ([b].filter (fun f : FT => f.2.1 == x.2.1 + 1)) = [] := by simp [d]
  have q2 : ([b].filter (fun f : FT => !(f.2.1 == x.2.1 + 1))) = [b] := by simp [d]
  rw [q1, q2, List.append_nil]
 ·rw [J9k c]
  have hvr : VP (J5 x.1) (J79 x) := ⟨rfl, hv.vp.page, hv.vp.rng, hv.vp.srt⟩
  have hn : ∀ f ∈ J7s x, J4a (J5 x.1) x.2.1 f := fun f hf => hv.flt f (JfR hf).1
  have hl : J5 (J7s x) ≤ 100 := by have := J4H x.2.2.2.2 (fun f => f.2.1 == x.2.1 + 1); unfold J7s; omega
  exact Jc (Jrq hvr hv.p64 hn hl h0 h1 hs x [] [] 0 [] false x.2.2.2.2 [])
theorem J9O (x : DT) (p : Int) (s : List UInt8) (hu : J5 x.2.2.1 ≤ 1000000000000) : J0F (x, p, s) = some (wrD x p s) := by
 refine J1w ?_
 unfold J0F wrD
 dsimp only
 refine .bind (Jc (JgB x p hu)) fun y e => ?_
 subst e
 refine .ne (fun c => .some (if_neg c).symm) fun c => ?_
 rw [if_pos c]
 obtain ⟨hv, _, h0, h1⟩ := J7V c
 refine .ne (fun c3 => .some (if_neg (show ¬s.length = 256 by unfold J5 at c3; omega)).symm) fun c3 => ?_
 have hs : s.length = 256 := by unfold J5 at c3; omega
 rw [if_pos hs]
 refine .eq (fun c4 => .some (if_pos c4).symm) fun c4 => ?_
 rw [if_neg c4]
 refine .bind (Jc (JdT hv)) fun y e => ?_
 subst e
 have := hv.w1
 exact Jc (Jo0 hv h0 h1 hs (by omega))
theorem JlN (x : DT) (f : FT) (hu : J5 x.2.2.1 ≤ 1000000000000) : J18 (x, f) = some (JbL x f) := by
 refine J1w ?_
 unfold J18 JbL
 dsimp only
 refine .bind (J8D x hu) fun y hy => .not (fun k => .some ?_) fun k => ?_
 ·rw [if_neg fun h => by rw [hy.2 h] at k; cases k]; rfl
 have hv := hy.1 k
 rw [if_pos hv]
 refine .bind (JeD x f) fun y hy => .not (fun k => .some ?_) fun k => ?_
 ·rw [if_neg fun h => by rw [hy.2 h] at k; cases k]; rfl
 rw [if_pos (hy.1 k)]
 refine .eq (fun c => .some (by rw [if_pos c]; rfl)) fun c => ?_
 rw [if_neg c]
 have := hv.f64
 refine .bind (Jc (JdT hv)) fun y e => ?_
 subst e
 exact .bind (Jc (JcO _ _ (by dsimp only; omega) (show (1 : Int) ≤ 100 by decide))) fun y e => .some (by rw [e])
theorem J1t (c : T_pagemenddraw_Codes) (hc : J6i c) : Tot (S_draw_Codes_Int c) fun y => J3h c y.2 := by
 unfold S_draw_Codes_Int
 refine .bind (JD 10 c hc) fun y2 h2 => ?_
 refine .eq (fun _ => .bind (JD 3 y2.2 (hc.to h2.1)) fun y3 h3 => .some (h2.1.trans h3.1)) fun _ => .eq (fun _ => .bind (JD 16 y2.2 (hc.to h2.1)) fun y4 h4 => ?_) fun _ => .bind (JD 20 y2.2 (hc.to h2.1)) fun y6 h6 => .some (h2.1.trans h6.1)
 have k2 := h4.2.2.1
 have k3 := h4.2.2.2 (by decide)
 refine .bind (J1x k2 (by show y4.1 < 16; omega)) fun y5 _ => .some (h2.1.trans h4.1)
theorem Jcj (n w : Int) (c : T_pagemenddraw_Codes) (hc : J6i c) : Tot (S_draw_Codes_Fault (n, w, c)) fun y => J3h c y.2 ∧ 0 ≤ y.1.2.2.2.2.2 ∧ y.1.2.2.2.2.2 ≤ 255 := by
 unfold S_draw_Codes_Fault
 dsimp only
 have z : (0 : Int) ≤ 0 ∧ (0 : Int) ≤ 255 := by decide
 have u8 : ∀ a : Int, 0 ≤ cvI .u8 a ∧ cvI .u8 a ≤ 255 := fun a => by have := JrX .u8 a; simpa [IntKind.min, IntKind.max, IntKind.signed, IntKind.bits, cvI] using this
 refine .bind (JD 6 c hc) fun y2 h2 => .bind (JD 6 y2.2 (hc.to h2.1)) fun y3 h3 => ?_
 have t3 := h2.1.trans h3.1
 have c3 := hc.to t3
 refine .eq (fun _ => ?_) fun _ => .eq (fun _ => ?_) fun _ => .eq (fun _ => ?_) fun _ => .eq (fun _ => ?_) fun _ => ?_
 ·refine .bind (JD n y3.2 c3) fun y4 h4 => .bind (JD 16 y4.2 (c3.to h4.1)) fun y5 h5 => ?_
  have t5 := (t3.trans h4.1).trans h5.1
  have c5 := hc.to t5
  exact .eq (fun _ => .bind (J1t _ c5) fun y h => .some ⟨t5.trans h, z⟩) fun _ => .eq (fun _ => .bind (J1t _ c5) fun y h => .some ⟨t5.trans h, z⟩) fun _ =>
   .eq (fun _ => .bind (J1t _ c5) fun y h => .bind (J1t _ (c5.to h)) fun y' h' => .some ⟨(t5.trans h).trans h', z⟩) fun _ => .eq (fun _ => .bind (JD 9 _ c5) fun y h => .some ⟨t5.trans h.1, z⟩) fun _ => .some ⟨t5, z⟩
 ·refine .bind (JD 256 y3.2 c3) fun y4 h4 => .bind (JD 16 y4.2 (c3.to h4.1)) fun y5 h5 => ?_
  have t5 := (t3.trans h4.1).trans h5.1
  have c5 := hc.to t5
  exact .eq (fun _ => .bind (J1t _ c5) fun y h => .some ⟨t5.trans h, z⟩) fun _ => .eq (fun _ => .bind (J1t _ c5) fun y h => .some ⟨t5.trans h, z⟩) fun _ =>
   .eq (fun _ => .bind (J1t _ c5) fun y h => .bind (J1t _ (c5.to h)) fun y' h' => .some ⟨(t5.trans h).trans h', z⟩) fun _ => .eq (fun _ => .bind (JD 9 _ c5) fun y h => .some ⟨t5.trans h.1, z⟩) fun _ => .some ⟨t5, z⟩
 ·refine .bind (JD n y3.2 c3) fun y4 h4 => .bind (JD 256 y4.2 (c3.to h4.1)) fun y5 h5 => ?_
  have t5 := (t3.trans h4.1).trans h5.1
  have c5 := hc.to t5
  refine .bind (JD 255 _ c5) fun y6 h6 => .bind (JD 16 _ (c5.to h6.1)) fun y7 h7 => ?_
  have t7 := (t5.trans h6.1).trans h7.1
  have c7 := hc.to t7
  exact .eq (fun _ => .bind (J1t _ c7) fun y h => .some ⟨t7.trans h, u8 _⟩) fun _ => .eq (fun _ => .bind (J1t _ c7) fun y h => .some ⟨t7.trans h, z⟩) fun _ =>
   .eq (fun _ => .bind (J1t _ c7) fun y h => .bind (J1t _ (c7.to h)) fun y' h' => .some ⟨(t7.trans h).trans h', u8 _⟩) fun _ => .eq (fun _ => .bind (JD 9 _ c7) fun y h => .some ⟨t7.trans h.1, u8 _⟩) fun _ => .some ⟨t7, u8 _⟩
 ·refine .bind (JD n y3.2 c3) fun y4 h4 => .bind (JD 16 y4.2 (c3.to h4.1)) fun y5 h5 => ?_
  have t5 := (t3.trans h4.1).trans h5.1
  have c5 := hc.to t5
  exact .eq (fun _ => .bind (J1t _ c5) fun y h => .some ⟨t5.trans h, z⟩) fun _ => .eq (fun _ => .bind (J1t _ c5) fun y h => .some ⟨t5.trans h, z⟩) fun _ =>
   .eq (fun _ => .bind (J1t _ c5) fun y h => .bind (J1t _ (c5.to h)) fun y' h' => .some ⟨(t5.trans h).trans h', z⟩) fun _ => .eq (fun _ => .bind (JD 9 _ c5) fun y h => .some ⟨t5.trans h.1, z⟩) fun _ => .some ⟨t5, z⟩
 ·refine .bind (JD 16 y3.2 c3) fun y5 h5 => ?_
  have t5 := t3.trans h5.1
  have c5 := hc.to t5
  exact .eq (fun _ => .bind (J1t _ c5) fun y h => .some ⟨t5.trans h, z⟩) fun _ => .eq (fun _ => .bind (J1t _ c5) fun y h => .some ⟨t5.trans h, z⟩) fun _ =>
   .eq (fun _ => .bind (J1t _ c5) fun y h => .bind (J1t _ (c5.to h)) fun y' h' => .some ⟨(t5.trans h).trans h', z⟩) fun _ => .eq (fun _ => .bind (JD 9 _ c5) fun y h => .some ⟨t5.trans h.1, z⟩) fun _ => .some ⟨t5, z⟩
end
end Go.Am
end
section
namespace Go.Am
set_option maxRecDepth 20000
set_option linter.unusedVariables false
set_option linter.unusedSimpArgs false
noncomputable section
open Classical
structure Db (n : Int) (d : DT) : Prop where
 big : 100 ≤ n
 small : n ≤ 2000
 pg : J5 d.1 ≤ n
 unr : J5 d.2.2.1 ≤ n
 flt : J5 d.2.2.2.2 ≤ n
 byt : Byt d.2.2.2.2
variable {n : Int}
theorem Db.hu {d : DT} (h : Db n d) : J5 d.2.2.1 ≤ 1000000000000 := by have := h.unr; have := h.small; omega
theorem J4t (h1 : 100 ≤ n) (h2 : n ≤ 2000) : Db n J4P := ⟨h1, h2, by show (0 : Int) ≤ n; omega, by show (0 : Int) ≤ n; omega, by show (0 : Int) ≤ n; omega, fun f hf => by cases hf⟩
theorem JtX {d : DT} (h1 : 100 ≤ n) (h2 : n ≤ 2000) (h : VD d) (hb : Byt d.2.2.2.2) : Db n d := ⟨h1, h2, by have := h.p64; omega, by have := h.unr; omega, by have := h.f64; omega, hb⟩
theorem Jo7 {d : DT} {f : FT} (h : Db n d) (hf : 0 ≤ f.2.2.2.2.2 ∧ f.2.2.2.2.2 ≤ 255) : Db n (JbL d f).1 := by
 unfold JbL
 split
 ·rename_i hv
  split
  ·split
   ·exact J4t h.big h.small
   ·exact ⟨h.big, h.small, h.pg, h.unr, by show J5 (d.2.2.2.2 ++ [f]) ≤ n; have := h.big; rw [J3q, J4f]; have := hv.f64; omega, fun g hg => by
     rcases List.mem_append.1 hg with hg | hg
     ·exact h.byt g hg
     ·rw [List.mem_singleton.1 hg]; exact hf⟩
  ·exact J4t h.big h.small
 ·exact J4t h.big h.small
theorem JaX {d : DT} (h : Db n d) (p : Int) (s : List UInt8) : Db n (wrD d p s).1 := by
 unfold wrD
 by_cases hu : usD d p = 0
 ·rw [if_pos hu]
  by_cases hs : s.length = 256
  ·rw [if_pos hs]
   by_cases hw : d.2.1 = 1099511627776
   ·rw [if_pos hw]; exact J4t h.big h.small
   ·rw [if_neg hw]
    obtain ⟨hv, _, h0, h1⟩ := J7V hu
    have := hv.w1
    obtain ⟨_, v, b, _⟩ := Ji3 hv h.byt h0 h1 hs (by omega)
    exact JtX h.big h.small v b
  ·rw [if_neg hs]; exact J4t h.big h.small
 ·rw [if_neg hu]; exact J4t h.big h.small
theorem JrP {d : DT} (h : Db n d) (p : Int) (s : List UInt8) (k : Int) : Db n (JcA d p s k).1 := by
 unfold JcA
 split
 ·split
  ·split
   ·refine ⟨h.big, h.small, ?_, ?_, h.flt, h.byt⟩
    ·show J5 (d.1.set _ _) ≤ n; unfold J5; rw [List.length_set]; exact h.pg
    ·have := J4H d.2.2.1 (fun n => !(n == ((p.toNat : Nat) : Int)))
     have := h.unr
     show J5 (d.2.2.1.filter _) ≤ n
     omega
   ·exact J4t h.big h.small
  ·exact J4t h.big h.small
 ·exact J4t h.big h.small
theorem JaK {a : DT} (h : Db n a) : J0s (a, a) = some true := by
 refine J1w ?_
 have h0 := h.small
 have h1 := h.pg
 have h2 := h.unr
 have h3 := h.flt
 unfold J0s
 refine .nef (fun _ => .nef (fun _ => .nof (fun _ => .nef (fun _ => .ne (fun c => absurd rfl c) fun _ => ?_) fun c => absurd rfl c) fun c => by simp [eqB] at c) fun c => absurd rfl c) fun c => absurd rfl c
 refine J1B (fun i => (i, a, a)) (J5 a.1) (fun _ => True) J1z trivial fun i g1 g2 _ => ?_
 unfold JaF
 dsimp only
 refine .lt (fun c => .bind (J1x g1 c).eqn fun y hy => .bind (Jc hy.2) fun z e => ?_) fun c => .inr ?_
 ·subst e
  exact .ite (fun c => by simp [neS] at c) fun _ => .some ⟨by rw [J2t g1 (by omega)], trivial, c⟩
 refine J1B (fun i => (i, a, a)) (J5 a.2.2.1) (fun _ => True) J1z trivial fun i g1 g2 _ => ?_
 unfold Jae
 dsimp only
 refine .lt (fun c => .bind (J1x g1 c).eqn fun y hy => .bind (Jc hy.2) fun z e => ?_) fun c => .inr ?_
 ·subst e
  exact .ne (fun c => absurd rfl c) fun _ => .some ⟨by rw [J2t g1 (by omega)], trivial, c⟩
 refine J1B (fun i => (i, a, a)) (J5 a.2.2.2.2) (fun _ => True) J1z trivial fun i g1 g2 _ => ?_
 unfold JaN
 dsimp only
 refine .lt (fun c => .bind (J1x g1 c).eqn fun y hy => .bind (Jc hy.2) fun z e => ?_) fun c => .some rfl
 subst e
 exact .not (fun c => absurd ((J77 (t := J4) (x := z) (y := z)).2 rfl) (by rw [c]; decide)) fun _ => .some ⟨by rw [J2t g1 (by omega)], trivial, c⟩
theorem JpJ (x : DT) (p : Int) (s : List UInt8) (k : Int) (hu : J5 x.2.2.1 ≤ 1000000000000) : J2T (x, p, s, k) = some (JcA x p s k) := by
 refine J1w ?_
 unfold J2T JcA
 dsimp only
 refine .bind (Jc (JgB x p hu)) fun y e => ?_
 subst e
 refine .ne (fun c => .some (if_neg c).symm) fun c => ?_
 rw [if_pos c]
 obtain ⟨hv, _, h0, h1⟩ := J7V c
 refine .ltf (fun c1 => .gt (fun c2 => .some (if_neg (show ¬(0 ≤ k ∧ k ≤ 256) by omega)).symm) fun c2 => ?_) fun c1 => .some (if_neg (show ¬(0 ≤ k ∧ k ≤ 256) by omega)).symm
 rw [if_pos (show 0 ≤ k ∧ k ≤ 256 by omega)]
 refine .ne (fun c3 => .some (if_neg (show ¬s.length = 256 by unfold J5 at c3; omega)).symm) fun c3 => ?_
 have hs : s.length = 256 := by unfold J5 at c3; omega
 rw [if_pos hs]
 refine .bind (Jc (JdT hv)) fun y e => ?_
 subst e
 refine .bind (Jc (Jbd hv.vp hv.p64 h0 h1 hs (k := k) (by omega) (by omega))) fun y e => .some ?_
 rw [e]
 rfl
def Jgw (x : DT) : DT × Int := if VD x then ((List.replicate x.1.length J1R, x.2.1, [], false, x.2.2.2.2), 0) else (J4P, 15)
theorem JsY (x : DT) (hu : J5 x.2.2.1 ≤ 1000000000000) : J0S x = some (Jgw x) := by
 unfold Jgw
 by_cases hv : VD x
 ·rw [if_pos hv]; exact Jmu hv
 ·rw [if_neg hv]
  refine J1w ?_
  unfold J0S
  exact .bind (J8e x hu) fun y hy => .not (fun k => .some rfl) fun k => absurd (hy.1 k) hv
theorem Jr4 (x : DT) (hu : J5 x.2.2.1 ≤ 1000000000000) : J1W x = some (Jgw x) := by
 refine J1w ?_
 unfold J1W Jgw
 refine .bind (J8D x hu) fun y hy => .not (fun k => .some ?_) fun k => ?_
 ·rw [if_neg fun h => by rw [hy.2 h] at k; cases k]; rfl
 have hv := hy.1 k
 rw [if_pos hv]
 refine .bind (Jc (JfI _ hv.p1 hv.p64)) fun y3 e3 => .bind (Jc (Jey _ (by have := hv.f64; omega))) fun y4 e4 => .some ?_
 rw [e3, e4, JjQ]
theorem JsT {x : DT} (h : Db n x) : Db n (Jgw x).1 := by
 unfold Jgw
 split
 ·exact ⟨h.big, h.small, by show J5 (List.replicate _ _) ≤ n; have := h.pg; unfold J5 at *; rw [List.length_replicate]; omega, by show (0 : Int) ≤ n; have := h.big; omega, h.flt, h.byt⟩
 ·exact J4t h.big h.small
theorem Joa (h1 : 100 ≤ n) (h2 : n ≤ 2000) (k : Int) : Db n (Jcg k).1 := by
 unfold Jcg
 split
 ·rename_i h; exact ⟨h1, h2, by show J5 (List.replicate _ _) ≤ n; unfold J5; rw [List.length_replicate]; omega, by show (0 : Int) ≤ n; omega, by show (0 : Int) ≤ n; omega, fun f hf => by cases hf⟩
 ·exact J4t h1 h2
theorem Jrf (l m : List Int) (h : J5 l ≤ 1000000) (h2 : J5 m ≤ 1000000) : J1V 1 l m = some (l ++ m) := by
 unfold J1V
 have : J1e (l.length + m.length) 1 = true := by unfold J1e; unfold J5 at h h2; simp only [decide_eq_true_eq]; omega
 rw [if_pos this]
theorem Jsh (l m : List (List UInt8)) (h : J5 l ≤ 1000000) (h2 : J5 m ≤ 1000000) : J1V 16 l m = some (l ++ m) := by
 unfold J1V
 have : J1e (l.length + m.length) 16 = true := by unfold J1e; unfold J5 at h h2; simp only [decide_eq_true_eq]; omega
 rw [if_pos this]
theorem JjL (l m : List FT) (h : J5 l ≤ 1000000) (h2 : J5 m ≤ 1000000) : J1V 48 l m = some (l ++ m) := by
 unfold J1V
 have : J1e (l.length + m.length) 48 = true := by unfold J1e; unfold J5 at h h2; simp only [decide_eq_true_eq]; omega
 rw [if_pos this]
theorem JoM (n : Int) (h0 : 0 ≤ n) (h1 : n ≤ 1000) : (mkS 1 0 n 0 : Option (List Int)) = some [] := by
 unfold mkS
 rw [if_pos (by omega)]
 rfl
theorem JlH (n : Int) (c : T_pagemenddraw_Codes) (hc : J6i c) (h0 : 0 ≤ n) (h1 : n ≤ 1000) : Tot (Jz J1X (n, 0, c, [])) fun y => J3h c y.2 := by
 refine J3o (τ := Int × T_pagemenddraw_Codes × List Int) (fun q => (n, q.1, q.2.1, q.2.2)) (fun q => 0 ≤ q.1 ∧ q.1 ≤ n ∧ J3h c q.2.1 ∧ J5 q.2.2 ≤ q.1) (fun q => n - q.1) ?_ (0, c, []) rfl ⟨Int.le_refl _, h0, .refl _, Int.le_refl _⟩
 rintro ⟨i, d, l⟩ ⟨g1, g2, g3, g4⟩
 dsimp only at g1 g2 g3 g4
 unfold J1X
 dsimp only
 refine .lt (fun k => .bind (JD 3 d (hc.to g3)) fun y hy => .bind (Jc (Jrf l _ (by omega) (by show (1 : Int) ≤ 1000000; decide))) fun z ez => .some ⟨(J9 .i64 i 1, y.2, z), rfl, ?_, ?_⟩) fun _ => .some g3
 ·have := J2t g1 (by omega)
  refine ⟨?_, ?_, g3.trans hy.1, ?_⟩
  ·show 0 ≤ J9 .i64 i 1; omega
  ·show J9 .i64 i 1 ≤ n; omega
  ·show J5 z ≤ J9 .i64 i 1; rw [ez, J3q, J4f]; omega
 ·show n - J9 .i64 i 1 < n - i ∧ 0 ≤ n - i
  rw [J2t g1 (by omega)]; omega
theorem JiJ (c : T_pagemenddraw_Codes) (hc : J6i c) : Tot (S_draw_Codes_Data c) fun y => J3h c y.2 := by
 have e1 : J3F = J1X := rfl
 unfold S_draw_Codes_Data
 rw [e1]
 refine .bind (JD 5 c hc) fun y2 h2 => .bind (JD 6 y2.2 (hc.to h2.1)) fun y3 h3 => ?_
 have t3 := h2.1.trans h3.1
 have a0 := h2.2.2.1
 have a1 := h2.2.2.2 (by decide)
 refine .eq (fun _ => .bind (JD 14 y3.2 (hc.to t3)) fun y4 h4 => ?_) fun _ => .bind (Jc (JoM y2.1 a0 (by omega))) fun y9 e9 => ?_
 ·have b0 := h4.2.2.1
  have b1 := h4.2.2.2 (by decide)
  refine .bind (Jc (JoM y4.1 b0 (by omega))) fun y5 e5 => ?_
  subst e5
  exact (JlH y4.1 y4.2 (hc.to (t3.trans h4.1)) b0 (by omega)).mono fun y h => (t3.trans h4.1).trans h
 ·subst e9
  exact (JlH y2.1 y3.2 (hc.to t3) a0 (by omega)).mono fun y h => t3.trans h
theorem Js0 (hn1 : 100 ≤ n) (hn2 : n ≤ 2000) (c : T_pagemenddraw_Codes) (hc : J6i c) : Tot (J1u c) fun y => J3h c y.2 ∧ Db n y.1 := by
 unfold J1u
 refine .bind (JD 4 c hc) fun y2 h2 => .bind (Jc (Jmb _)) fun y3 e3 => .bind (JD 6 y2.2 (hc.to h2.1)) fun y4 h4 => ?_
 have a0 := h4.2.2.1
 have a1 := h4.2.2.2 (by decide)
 refine J3o (τ := Int × T_pagemenddraw_Codes × DT) (fun q => (q.1, q.2.1, J4P, q.2.2)) (fun q => 0 ≤ q.1 ∧ q.1 ≤ 5 ∧ J3h c q.2.1 ∧ Db n q.2.2) (fun q => q.1) ?_ (y4.1, y4.2, y3.1) rfl ⟨a0, by show y4.1 ≤ 5; omega, h2.1.trans h4.1, by rw [e3]; exact Joa hn1 hn2 _⟩
 rintro ⟨k, c', d⟩ ⟨g1, g2, g3, g4⟩
 dsimp only at g1 g2 g3 g4
 unfold J75
 dsimp only
 refine .gt (fun kp => ?_) fun _ => .some ⟨g3, g4⟩
 have sub := JpU g1 (show k < _ by omega)
 rw [sub]
 have c0 := hc.to g3
 have fin : ∀ (d' : DT) (q : T_pagemenddraw_Codes), J3h c q → Db n d' → ∃ c' : Int × T_pagemenddraw_Codes × DT, (k - 1, q, J4P, d') = (c'.1, c'.2.1, J4P, c'.2.2) ∧ (0 ≤ c'.1 ∧ c'.1 ≤ 5 ∧ J3h c c'.2.1 ∧ Db n c'.2.2) ∧ c'.1 < k ∧ 0 ≤ k := fun d' q t hd => ⟨(k - 1, q, d'), rfl, ⟨by show 0 ≤ k - 1; omega, by show k - 1 ≤ 5; omega, t, hd⟩, by show k - 1 < k; omega, g1⟩
 refine .bind (Jcj _ _ c' c0) fun y6 h6 => .bind (Jc (JlN d y6.1 g4.hu)) fun y7 e7 => ?_
 have t6 := g3.trans h6.1
 have d7 : Db n y7.1 := by rw [e7]; exact Jo7 g4 h6.2
 refine .eq (fun _ => .bind (JD 2 y6.2 (hc.to t6)) fun y8 h8 => ?_) fun _ => ?_
 ·have t8 := t6.trans h8.1
  refine .eq (fun _ => .bind (JD _ y8.2 (hc.to t8)) fun y9 h9 => .bind (J9L y9.2 (hc.to (t8.trans h9.1))) fun y10 h10 => .bind (Jc (J9O y7.1 y9.1 y10.1 d7.hu)) fun y11 e11 => ?_) fun _ =>
   .bind (JD _ y8.2 (hc.to t8)) fun y9 h9 => .bind (J9L y9.2 (hc.to (t8.trans h9.1))) fun y10 h10 => .bind (Jc (J9O d y9.1 y10.1 g4.hu)) fun y11 e11 => ?_
  ·have t := (t8.trans h9.1).trans h10.1
   exact .eq (fun _ => .some (fin _ _ t (by rw [e11]; exact JaX d7 _ _))) fun _ => .some (fin _ _ t d7)
  ·have t := (t8.trans h9.1).trans h10.1
   exact .eq (fun _ => .some (fin _ _ t (by rw [e11]; exact JaX g4 _ _))) fun _ => .some (fin _ _ t g4)
 ·refine .bind (JD _ y6.2 (hc.to t6)) fun y9 h9 => .bind (J9L y9.2 (hc.to (t6.trans h9.1))) fun y10 h10 => .bind (Jc (J9O d y9.1 y10.1 g4.hu)) fun y11 e11 => ?_
  have t := (t6.trans h9.1).trans h10.1
  exact .eq (fun _ => .some (fin _ _ t (by rw [e11]; exact JaX g4 _ _))) fun _ => .some (fin _ _ t g4)
theorem JrC (d : DT) (hd : Db 1000 d) (c : T_pagemenddraw_Codes) (hc : J6i c) : Tot (Jpq (d, c)) fun y => J3h c y.2 ∧ Db 1001 y.1 := by
 have en : Od.S_draw_Codes_Next = S_draw_Codes_Next := rfl
 have ei : Od.S_draw_Codes_Int = S_draw_Codes_Int := rfl
 have ed : Od.S_draw_Codes_Data = S_draw_Codes_Data := rfl
 have ef : Od.S_draw_Codes_Fault = S_draw_Codes_Fault := rfl
 have h1 := hd.pg
 have h2 := hd.unr
 have h3 := hd.flt
 have z1 : (100 : Int) ≤ 1001 := by decide
 have z2 : (1001 : Int) ≤ 2000 := by decide
 show Tot (Od.S_law04_odd (d, c)) _
 unfold Od.S_law04_odd Od.S_ref04_Copy
 rw [en, ei, ed, ef]
 dsimp only
 have ecop : ((cloS 16 d.1).bind fun y2 => (cloS 8 d.2.2.1).bind fun y3 => (cloS 48 d.2.2.2.2).bind fun y4 => some (d.2.1, d.2.2.2.1, y2, y3, y4)) = some (d.2.1, d.2.2.2.1, d.1, d.2.2.1, d.2.2.2.2) := by
  have : cloS 48 d.2.2.2.2 = some d.2.2.2.2 := by
   unfold cloS
   have : J1e d.2.2.2.2.length 48 = true := by unfold J1e; unfold J5 at h3; simp only [decide_eq_true_eq]; omega
   rw [if_pos this]
  rw [Jlt _ (by omega), Option.bind_some, JlP _ (by omega), Option.bind_some, this, Option.bind_some]
 refine .bind (Jc ecop) fun y2 e2 => ?_
 subst e2
 refine .bind (JD 6 c hc) fun y3 h => ?_
 have c3 := hc.to h.1
 dsimp only
 refine .eq (fun _ => ?_) fun _ => .eq (fun _ => .bind (J1t y3.2 c3) fun y hy => .some ⟨h.1.trans hy, z1, z2, by show J5 d.1 ≤ 1001; omega, by show J5 d.2.2.1 ≤ 1001; omega, by show J5 d.2.2.2.2 ≤ 1001; omega, hd.byt⟩) fun _ => .eq (fun _ => ?_) fun _ => .eq (fun _ => .some ⟨h.1, z1, z2, by show J5 d.1 ≤ 1001; omega, by show J5 d.2.2.1 ≤ 1001; omega, by show J5 d.2.2.2.2 ≤ 1001; omega, hd.byt⟩) fun _ => .eq (fun _ => ?_) fun _ => .eq (fun _ => ?_) fun _ => .some ⟨h.1, z1, z2, by show J5 d.1 ≤ 1001; omega, by show J5 d.2.2.1 ≤ 1001; omega, by show J5 d.2.2.2.2 ≤ 1001; omega, hd.byt⟩
 ·refine .bind (JiJ y3.2 c3) fun y4 h4 => .bind (Jc (Jsh d.1 [y4.1] (by omega) (by show (1 : Int) ≤ 1000000; decide))) fun y5 e5 => .some ⟨h.1.trans h4, z1, z2, ?_, by show J5 d.2.2.1 ≤ 1001; omega, by show J5 d.2.2.2.2 ≤ 1001; omega, hd.byt⟩
  show J5 y5 ≤ 1001
  rw [e5, J3q, J4f]; omega
 ·refine .bind (JD 5 y3.2 c3) fun y7 h7 => .bind (Jc (J7F d.2.2.1 [y7.1] (by omega) (by show (1 : Int) ≤ 1000000; decide))) fun y8 e8 => .some ⟨h.1.trans h7.1, z1, z2, ?_, ?_, by show J5 d.2.2.2.2 ≤ 1001; omega, hd.byt⟩
  ·show J5 d.1 ≤ 1001; omega
  ·show J5 y8 ≤ 1001
   rw [e8, J3q, J4f]; omega
 ·refine .bind (Jcj _ _ y3.2 c3) fun y9 h9 => .bind (Jc (JjL d.2.2.2.2 [y9.1] (by omega) (by show (1 : Int) ≤ 1000000; decide))) fun y10 e10 => .some ⟨h.1.trans h9.1, z1, z2, ?_, ?_, ?_, ?_⟩
  ·show J5 d.1 ≤ 1001; omega
  ·show J5 d.2.2.1 ≤ 1001; omega
  ·show J5 y10 ≤ 1001
   rw [e10, J3q, J4f]; omega
  ·show Byt y10
   rw [e10]
   intro f hf
   rcases List.mem_append.1 hf with hf | hf
   ·exact hd.byt f hf
   ·rw [List.mem_singleton.1 hf]; exact h9.2
 ·refine J3o (τ := List FT) (fun q => (y3.2, d.2.1, d.2.2.2.1, [], [], [], 0, false, d.1, d.2.2.1, q)) (fun q => J5 q ≤ 1001 ∧ Byt q) (fun q => 1001 - J5 q) ?_ d.2.2.2.2 rfl ⟨by omega, hd.byt⟩
  rintro l ⟨g1, g2⟩
  unfold Od.L_law04_odd_0
  dsimp only
  refine .le (fun k => .bind (Jc (JjL l [_] (by omega) (by show (1 : Int) ≤ 1000000; decide))) fun y12 e12 => .some ⟨y12, rfl, ⟨?_, ?_⟩, ?_⟩) fun _ => .some ⟨h.1, z1, z2, ?_, ?_, g1, g2⟩
  ·rw [e12, J3q, J4f]; omega
  ·rw [e12]
   intro f hf
   rcases List.mem_append.1 hf with hf | hf
   ·exact g2 f hf
   ·rw [List.mem_singleton.1 hf]; exact ⟨Int.le_refl _, by show (0 : Int) ≤ 255; decide⟩
  ·rw [e12, J3q, J4f]; omega
  ·show J5 d.1 ≤ 1001; omega
  ·show J5 d.2.2.1 ≤ 1001; omega
end
end Go.Am
end
section
namespace Go.Am
set_option maxRecDepth 20000
set_option linter.unusedVariables false
set_option linter.unusedSimpArgs false
noncomputable section
open Classical
abbrev ExS := Int × List DT × Int × Int × DT × FT × T_pagemenddraw_Codes × DT × DT × DT
theorem ex2 (cut page : Int) (s : List UInt8) (l : List DT) (m i : Int) (cuts : List Int) (raw : DT) (f : FT) (c : T_pagemenddraw_Codes) (d a b x p q : DT) (hx : Db 1001 x) (hl : J5 cuts ≤ 100) (i0 : 0 ≤ i) (i1 : i < 100) :
  Tot (Jz J4y (cut, page, s, l, m, i, cuts, J5 cuts, 0, raw, f, c, d, a, b, x, p, q)) fun r => r = .inl ((cut, l, m, i + 1, raw, f, c, d, a, b) : ExS) := by
 refine J3o (τ := Int × DT × DT) (fun z => (cut, page, s, l, m, i, cuts, J5 cuts, z.1, raw, f, c, d, a, b, x, z.2.1, z.2.2)) (fun z => 0 ≤ z.1 ∧ z.1 ≤ J5 cuts) (fun z => J5 cuts - z.1) ?_ (0, p, q) rfl ⟨Int.le_refl _, J1z⟩
 rintro ⟨j, p, q⟩ ⟨g1, g2⟩
 dsimp only at g1 g2
 unfold J4y
 dsimp only
 refine .lt (fun k => .bind (J1x g1 k) fun y hy => .bind (Jc (Jrz x page s y hx.hu)) fun y31 e31 => .bind (Jc (JpJ x page s y hx.hu)) fun y32 e32 => ?_) fun k => .inr ?_
 ·rw [← e31] at e32
  subst e32
  refine .nef (fun _ => .bind (Jc (JaK (n := 1001) (by rw [e31]; exact JrP hx _ _ _))) fun y33 e33 => .not (fun c => by rw [e33] at c; cases c) fun _ => .some ⟨(J9 .i64 j 1, y32.1, y32.1), rfl, ?_, ?_⟩) fun c => absurd rfl c
  ·have := J2t g1 (show j < _ by omega)
   show 0 ≤ J9 .i64 j 1 ∧ J9 .i64 j 1 ≤ J5 cuts; omega
  ·show J5 cuts - J9 .i64 j 1 < J5 cuts - j ∧ 0 ≤ J5 cuts - j
   rw [J2t g1 (by omega)]; omega
 ·refine .bind (Jc (JsY x hx.hu)) fun y34 e34 => .bind (Jc (Jr4 x hx.hu)) fun y35 e35 => .bind (Jc (Jle x page hx.hu)) fun y36 e36 => .bind (Jc (Jq2 x page hx.hu)) fun y37 e37 => ?_
  rw [← e34] at e35
  rw [← e36] at e37
  subst e35
  subst e37
  refine .nef (fun _ => .bind (Jc (JaK (n := 1001) (by rw [e34]; exact JsT hx))) fun y38 e38 => .nof (fun _ => .itf (fun _ => .ne (fun c => absurd rfl c) fun _ => .some (by rw [J2t i0 (by omega)])) fun c => by simp [neS] at c) fun c => by rw [e38] at c; cases c) fun c => absurd rfl c
theorem ex1 (cut page : Int) (s : List UInt8) (l : List DT) (m i : Int) (fl : List FT) (raw : DT) (f : FT) (c : T_pagemenddraw_Codes) (d a b x p q : DT) (hx : Db 1001 x) (hl : J5 fl ≤ 100) (hb : Byt fl) (hc : J6i c) (i0 : 0 ≤ i) (i1 : i < 100) :
  Tot (Jz J2d (cut, page, s, l, m, i, fl, J5 fl, 0, raw, f, c, d, a, b, x, p, q)) fun r => ∃ c', J3h c c' ∧ r = .inl ((cut, l, m, i + 1, raw, f, c', d, a, b) : ExS) := by
 refine J3o (τ := Int × DT × DT) (fun z => (cut, page, s, l, m, i, fl, J5 fl, z.1, raw, f, c, d, a, b, x, z.2.1, z.2.2)) (fun z => 0 ≤ z.1 ∧ z.1 ≤ J5 fl) (fun z => J5 fl - z.1) ?_ (0, p, q) rfl ⟨Int.le_refl _, J1z⟩
 rintro ⟨j, p, q⟩ ⟨g1, g2⟩
 dsimp only at g1 g2
 unfold J2d
 dsimp only
 refine .lt (fun k => .bind (J1x g1 k) fun y hy => .bind (Jc (JoH x y hx.hu)) fun y31 e31 => .bind (Jc (JlN x y hx.hu)) fun y32 e32 => ?_) fun k => .inr ?_
 ·rw [← e31] at e32
  subst e32
  refine .nef (fun _ => .bind (Jc (JaK (n := 1001) (by rw [e31]; exact Jo7 hx (hb y hy.2)))) fun y33 e33 => .not (fun c => by rw [e33] at c; cases c) fun _ => .some ⟨(J9 .i64 j 1, y32.1, y32.1), rfl, ?_, ?_⟩) fun c => absurd rfl c
  ·have := J2t g1 (show j < _ by omega)
   show 0 ≤ J9 .i64 j 1 ∧ J9 .i64 j 1 ≤ J5 fl; omega
  ·show J5 fl - J9 .i64 j 1 < J5 fl - j ∧ 0 ≤ J5 fl - j
   rw [J2t g1 (by omega)]; omega
 ·refine .bind (JD 257 c hc) fun y28 h28 => ?_
  exact (ex2 cut page s l m i [cut, y28.1] raw f y28.2 d a b x p q hx (by show (2 : Int) ≤ 100; decide) i0 i1).mono fun r e => ⟨y28.2, h28.1, e⟩
theorem JbD {x0 : List Int} {x1 : T_api_Device} {x2 x3 : Int} {x4 : J6} (w0 : Ty.inR (.l (.i .u8)) x0) (w1 : Ty.inR J3 x1) (w2 : Ty.inR (.i .i64) x2) (w3 : Ty.inR (.i .i64) x3) (w4 : Ty.inR J4 x4) :
  J3I (x0, x1, x2, x3, x4) = some true := by
 refine J1w ?_
 have e3 : J74 = J2d := rfl
 have mask : ∀ f : FT, Ty.inR J4 f → 0 ≤ f.2.2.2.2.2 ∧ f.2.2.2.2.2 ≤ 255 := fun f h => by
  have := h.2.2.2.2.2
  simpa [Ty.inR, IntKind.min, IntKind.max, IntKind.signed, IntKind.bits] using this
 unfold J3I
 dsimp only
 refine .bind (Jc Jrp) fun y2 d2 => .nof (fun _ => ?_) fun c => by rw [d2] at c; cases c
 have hsm : Tot (J27 x1) fun y => (y = true ↔ J5 x1.1 ≤ 70 ∧ J5 x1.2.2.1 ≤ 70 ∧ J5 x1.2.2.2.2 ≤ 70) := by
  unfold J27
  exact .le (fun c1 => .le (fun c2 => .some (Jag.trans ⟨fun h => ⟨c1, c2, h⟩, fun h => h.2.2⟩)) fun c => .some ⟨nofun, fun h => absurd h.2.1 c⟩) fun c => .some ⟨nofun, fun h => absurd h.1 c⟩
 obtain ⟨sm, esm, hsm⟩ := hsm
 refine .bind (Jc esm) fun y3 e => ?_
 subst e
 refine .not (fun k => .bind (Jc esm) fun y4 e4 => .some (by rw [e4]; simp [J0A, k])) fun k => ?_
 obtain ⟨l1, l2, l3⟩ := hsm.1 k
 have hraw : Db 1001 x1 := ⟨by decide, by decide, by omega, by omega, by omega, fun f hf => mask f (w1.2.2.2.2.2 f hf)⟩
 refine .bind (Jrc x0 300 (by decide) (by decide) (Jqh w0)) fun c h5 => .bind (Js0 (n := 1000) (by decide) (by decide) c h5.1) fun y6 h6 => .bind (Jc (Jot x2)) fun y7 e7 => .bind (Jc (Jmb x2)) fun y8 e8 => ?_
 rw [← e7] at e8
 subst e8
 refine .nef (fun _ => .bind (Jc (JaK (n := 1001) (by rw [e7]; exact Joa (by decide) (by decide) _))) fun y9 e9 => .not (fun c => by rw [e9] at c; cases c) fun _ => ?_) fun c => absurd rfl c
 refine .bind (JrC y6.1 h6.2 y6.2 (h5.1.to h6.1)) fun y10 h10 => ?_
 have hd : Db 1001 y6.1 := ⟨by decide, by decide, by have := h6.2.pg; omega, by have := h6.2.unr; omega, by have := h6.2.flt; omega, h6.2.byt⟩
 have hall : ∀ x ∈ [x1, y6.1, y10.1], Db 1001 x := fun x hx => by
  simp only [List.mem_cons, List.not_mem_nil, or_false] at hx
  rcases hx with rfl | rfl | rfl
  ·exact hraw
  ·exact hd
  ·exact h10.2
 have l4 : J5 [x1, y6.1, y10.1] = 3 := rfl
 have hf4 := mask x4 w4
 generalize [x1, y6.1, y10.1] = l at hall l4
 rw [l4]
 refine J3o (τ := Int × T_pagemenddraw_Codes) (fun q => (x3, l, 3, q.1, x1, x4, q.2, y6.1, y8.1, y8.1)) (fun q => 0 ≤ q.1 ∧ q.1 ≤ 3 ∧ J6i q.2) (fun q => 3 - q.1) ?_ (0, y10.2) rfl ⟨Int.le_refl _, by show (0 : Int) ≤ 3; decide, h5.1.to (h6.1.trans h10.1)⟩
 rintro ⟨i, c⟩ ⟨g1, g2, hc⟩
 dsimp only at g1 g2 hc
 unfold J6X
 rw [e3]
 dsimp only
 refine .lt (fun ki => .bind (J1x g1 (by omega)) fun x hx => ?_) fun _ => .some rfl
 have db := hall x hx.2
 refine .bind (JD 6 c hc) fun y13 h13 => .bind (J9L y13.2 (hc.to h13.1)) fun y14 h14 => .bind (JD 8 y14.2 (hc.to (h13.1.trans h14.1))) fun y15 h15 => ?_
 have t15 := (h13.1.trans h14.1).trans h15.1
 have rest : ∀ (s : List UInt8) (c' : T_pagemenddraw_Codes), J3h c c' → Tot ((J0b (x, J23 .i64 y13.1 1, s)).bind fun y17 => (J0F (x, J23 .i64 y13.1 1, s)).bind fun y18 =>
   if neI y17.2 y18.2 = false then (J0s (y17.1, y18.1)).bind fun y19 => if J0A y19 = false then (JQ x).bind fun y20 => (J01 x).bind fun y21 => if J0A (eqB y20 y21) = true then some (.inr false) else
    (S_draw_Codes_Fault (J5 x.1, x.2.1, c')).bind fun y22 => Jz J2d (x3, J23 .i64 y13.1 1, s, l, 3, i, [x4, y22.1], J5 [x4, y22.1], 0, x1, x4, y22.2, y6.1, y8.1, y8.1, x, y17.1, y18.1) else some (.inr false) else some (.inr false))
   fun r => ∃ c', J3h c c' ∧ r = (.inl ((x3, l, 3, i + 1, x1, x4, c', y6.1, y8.1, y8.1) : ExS) : ExS ⊕ Bool) := fun s c' t => by
  refine .bind (Jc (JdN x _ s db.hu db.byt)) fun y17 e17 => .bind (Jc (J9O x _ s db.hu)) fun y18 e18 => ?_
  rw [← e17] at e18
  subst e18
  refine .nef (fun _ => .bind (Jc (JaK (n := 1001) (by rw [e17]; exact JaX db _ _))) fun y19 e19 => .nof (fun _ => ?_) fun c => by rw [e19] at c; cases c) fun c => absurd rfl c
  refine .bind (J8e x db.hu) fun y20 h20 => .bind (J8D x db.hu) fun y21 h21 => ?_
  have e2 : y20 = y21 := by
   cases y20 <;> cases y21 <;> first | rfl | (exfalso; have := h20.trans h21.symm; simp at this)
  refine .not (fun c => by rw [e2] at c; simp [eqB] at c) fun _ => .bind (Jcj _ _ c' (hc.to t)) fun y22 h22 => ?_
  refine (ex1 x3 _ s l 3 i [x4, y22.1] x1 x4 y22.2 y6.1 y8.1 y8.1 x y18.1 y18.1 db (by show (2 : Int) ≤ 100; decide) (fun f hf => ?_) (hc.to (t.trans h22.1)) g1 (by omega)).mono fun r ⟨c'', hcc, e⟩ => ⟨c'', (t.trans h22.1).trans hcc, e⟩
  simp only [List.mem_cons, List.not_mem_nil, or_false] at hf
  rcases hf with rfl | rfl
  ·exact hf4
  ·exact h22.2
 refine Tot.mono (P := fun r => ∃ c', J3h c c' ∧ r = (.inl ((x3, l, 3, i + 1, x1, x4, c', y6.1, y8.1, y8.1) : ExS) : ExS ⊕ Bool)) ?_ fun r ⟨c', hcc, e⟩ => by
  subst e
  exact ⟨(i + 1, c'), rfl, ⟨by show 0 ≤ i + 1; omega, by show i + 1 ≤ 3; omega, hc.to hcc⟩, by show 3 - (i + 1) < 3 - i; omega, by omega⟩
 refine .eq (fun _ => .bind (JiJ y15.2 (hc.to t15)) fun y16 h16 => rest y16.1 y16.2 (t15.trans h16)) fun _ => rest y14.1 y15.2 t15
end
end Go.Am
end
section
namespace Go.Am
set_option maxRecDepth 20000
def lkA {α : Type} (f : FuncId) : List (FuncId × α) → Option α
 | [] => none
 | (g, a) :: r => if f = g then some a else lkA f r
noncomputable def fns : List (FuncId × AFn) := [(J11, erF J4m), (J2q, erF J5d), (J0l, erF J5I), (J0J, erF J4l), (J0X, erF J4o), (JE, erF J0H), (JC, erF J0p), (JT, erF J1f), (JN, erF J0U), (J05, erF J5G), (J1b, erF J5e), (J1o, erF J5V), (J25, erF J7k), (J1a, erF J5b), (J0T, erF J2O), (J0w, erF J2h), (J1H, erF J6r), (i_draw_Codes_Next, erF J10), (J0x, erF J46), (Jo, erF J1g), (Jy, erF J0R), (J8r, erF J8o), (J4K, erF J8z), (J30, erF J6D), (JR, erF J2v), (J1G, erF J6t), (J0f, erF J6y), (J1q, erF J5M), (J1s, erF J5H), (J2k, erF J85), (J4j, erF J82), (J0y, erF J5S), (J3s, erF J7m), (J2m, erF J5f), (J13, erF J6E), (J3u, erF J7l), (J1J, erF J6B), (J2b, erF J4O), (J36, erF J6v), (JP, erF J12), (J1v, erF J3G), (J2D, erF J6x), (J2l, erF J5c), (J1C, erF J7b), (J3y, erF J7y), (J3J, erF J3E)]
noncomputable def fks : List (FuncId × J5l) := [(Jq, J92 J4 48)]
noncomputable def fps : List (FuncId × Prm) := [(J0u, JdP), (J2L, Jj0), (J4r, JdU J3 Jj7), (i_law04_odd, Jn0)]
abbrev PS := FuncId → Option (List AV → List Blk → Option Res)
noncomputable def tabO (p : PS) : J21 := fun f => JpF (lkA f fns) (lkA f fks) (lkA f fps) (p f)
theorem Jdc (p : PS) : tabO p J11 = some (.fn (erF J4m)) := rfl
theorem JeK (p : PS) : tabO p J2q = some (.fn (erF J5d)) := rfl
theorem JfL (p : PS) : tabO p J0l = some (.fn (erF J5I)) := rfl
theorem Jd8 (p : PS) : tabO p J0J = some (.fn (erF J4l)) := rfl
theorem Jd6 (p : PS) : tabO p J0X = some (.fn (erF J4o)) := rfl
theorem J52 (p : PS) : tabO p JE = some (.fn (erF J0H)) := rfl
theorem J4D (p : PS) : tabO p JC = some (.fn (erF J0p)) := rfl
theorem J6T (p : PS) : tabO p JT = some (.fn (erF J1f)) := rfl
theorem J5P (p : PS) : tabO p JN = some (.fn (erF J0U)) := rfl
theorem Jg7 (p : PS) : tabO p J05 = some (.fn (erF J5G)) := rfl
theorem Jf8 (p : PS) : tabO p J1b = some (.fn (erF J5e)) := rfl
theorem JgC (p : PS) : tabO p J1o = some (.fn (erF J5V)) := rfl
theorem Jki (p : PS) : tabO p J25 = some (.fn (erF J7k)) := rfl
theorem Jet (p : PS) : tabO p J1a = some (.fn (erF J5b)) := rfl
theorem J9Y (p : PS) : tabO p J0T = some (.fn (erF J2O)) := rfl
theorem J8J (p : PS) : tabO p J0w = some (.fn (erF J2h)) := rfl
theorem JhT (p : PS) : tabO p J1H = some (.fn (erF J6r)) := rfl
theorem J6c (p : PS) : tabO p i_draw_Codes_Next = some (.fn (erF J10)) := rfl
theorem Jcv (p : PS) : tabO p J0x = some (.fn (erF J46)) := rfl
theorem J6I (p : PS) : tabO p Jo = some (.fn (erF J1g)) := rfl
theorem J5s (p : PS) : tabO p Jy = some (.fn (erF J0R)) := rfl
theorem Jmz (p : PS) : tabO p J4K = some (.fn (erF J8z)) := rfl
theorem Ji0 (p : PS) : tabO p J30 = some (.fn (erF J6D)) := rfl
theorem J94 (p : PS) : tabO p JR = some (.fn (erF J2v)) := rfl
theorem JhJ (p : PS) : tabO p J1G = some (.fn (erF J6t)) := rfl
theorem JhK (p : PS) : tabO p J0f = some (.fn (erF J6y)) := rfl
theorem Jgk (p : PS) : tabO p J1q = some (.fn (erF J5M)) := rfl
theorem Jgb (p : PS) : tabO p J1s = some (.fn (erF J5H)) := rfl
theorem Jl5 (p : PS) : tabO p J2k = some (.fn (erF J85)) := rfl
theorem JkC (p : PS) : tabO p J4j = some (.fn (erF J82)) := rfl
theorem JgG (p : PS) : tabO p J0y = some (.fn (erF J5S)) := rfl
theorem Jk7 (p : PS) : tabO p J3s = some (.fn (erF J7m)) := rfl
theorem Jfo (p : PS) : tabO p J2m = some (.fn (erF J5f)) := rfl
theorem JhC (p : PS) : tabO p J13 = some (.fn (erF J6E)) := rfl
theorem JiV (p : PS) : tabO p J3u = some (.fn (erF J7l)) := rfl
theorem JhG (p : PS) : tabO p J1J = some (.fn (erF J6B)) := rfl
theorem Jej (p : PS) : tabO p J2b = some (.fn (erF J4O)) := rfl
theorem Jhv (p : PS) : tabO p J36 = some (.fn (erF J6v)) := rfl
theorem J67 (p : PS) : tabO p JP = some (.fn (erF J12)) := rfl
theorem Jbz (p : PS) : tabO p J1v = some (.fn (erF J3G)) := rfl
theorem Jht (p : PS) : tabO p J2D = some (.fn (erF J6x)) := rfl
theorem Jfb (p : PS) : tabO p J2l = some (.fn (erF J5c)) := rfl
theorem Jjl (p : PS) : tabO p J1C = some (.fn (erF J7b)) := rfl
theorem JjM (p : PS) : tabO p J3y = some (.fn (erF J7y)) := rfl
theorem JbE (p : PS) : tabO p J3J = some (.fn (erF J3E)) := rfl
theorem J7B (p : PS) : tabO p J0u = some (.prim (JdP)) := rfl
theorem JdQ (p : PS) : tabO p J2L = some (.prim (Jj0)) := rfl
theorem Jjp (p : PS) : tabO p J4r = some (.prim (JdU J3 Jj7)) := rfl
theorem Ja9 (p : PS) : tabO p i_law04_odd = some (.prim (Jn0)) := rfl
theorem J6a (p : PS) : tabO p Jq = some (.fork (J92 J4 48)) := rfl
end Go.Am
end
