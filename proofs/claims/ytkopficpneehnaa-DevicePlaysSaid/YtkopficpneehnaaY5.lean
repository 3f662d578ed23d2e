/-
  Parts of a proof.
-/
import Derived.ChangeArms
import Derived.OpenShut
import Derived.ChangeBears
import Derived.ChangeStays
import Derived.Handed
import Derived.RowKit3
import Derived.WalkKit
import Derived.ProofKit
import Derived.Shelf.Strings.Repeat
import Derived.Shelf.Strings.Builder1
import Derived.Shelf.Lays
import Derived.Test.YtkopficpneehnaaProg
import Derived.Lib.Agree
import Derived.KernelRfl
import Derived.BigCall
import Derived.Test.YtkopficpneehnaaY2
import Derived.Test.YtkopficpneehnaaY3
import Derived.Test.YtkopficpneehnaaY4
set_option linter.unusedSimpArgs false
set_option linter.unusedVariables false
section
namespace Go.Am
noncomputable section
set_option maxRecDepth 20000
def J2c (x1 : List UInt8) : Option (Bool) :=
 some (neI (J8 x1) 256)
theorem Jcy (x) : onO (J0b J2V x) (fun y => J0x (TG.of []) J3W y.1 y.2 (JR J2V)) = J2c x := by kernel_rfl
def J24 (x1 : Ja) : Option (Ja × Bool) :=
 if eqI x1.1 1 then
  some ((x1.1, x1.2.1, 0, 0, 0, 0), true)
 else
  if eqI x1.1 6 then
   some ((x1.1, x1.2.1, 0, 0, 0, 0), true)
  else
   if eqI x1.1 2 then
    some ((x1.1, x1.2.1, 0, x1.2.2.2.1, 0, 0), true)
   else
    if eqI x1.1 3 then
     some ((x1.1, x1.2.1, 0, 0, x1.2.2.2.2.1, 0), true)
    else
     if eqI x1.1 4 then
      some ((x1.1, x1.2.1, x1.2.2.1, 0, x1.2.2.2.2.1, x1.2.2.2.2.2), true)
     else
      if eqI x1.1 5 then
       some ((x1.1, x1.2.1, x1.2.2.1, 0, 0, 0), true)
      else
       some ((x1.1, x1.2.1, 0, 0, 0, 0), false)
theorem JeO (x) : onO (J0b J3v x) (fun y => J0x (TG.of []) J4M y.1 y.2 (JR J3v)) = J24 x := by kernel_rfl
def J07 (x1 : J6 × Int) : Option (Bool) :=
 if geI x1.2 0 then
  some (ltI x1.2 (J8 x1.1.1))
 else
  some false
theorem Jfq (x) : onO (J0b J1t x) (fun y => J0x (TG.of []) J5n y.1 y.2 (JR J1t)) = J07 x := by kernel_rfl
def J0z (x1 : J6 × Ja) : Option (Bool) :=
 (J24 x1.2).bind fun y2 =>
 if y2.2 then
  if eqT J4 y2.1 x1.2 then
   if gtI x1.2.2.1 x1.1.2.1 then
    if leI x1.2.2.1 1099511627776 then
     (J07 (x1.1, x1.2.2.2.1)).bind fun y3 =>
     if y3 then
      (J07 (x1.1, x1.2.2.2.2.1)).bind fun y4 =>
      if y4 then
       if geI x1.2.2.2.2.2.1 0 then
        if ltI x1.2.2.2.2.2.1 256 then
         if neI x1.2.1 4 = false then
          some (neI x1.2.2.2.2.2.2 0)
         else
          some true
        else
         some false
       else
        some false
      else
       some false
     else
      some false
    else
     some false
   else
    some false
  else
   some false
 else
  some false
theorem Jcs (x) : onO (J0b J1B x) (fun y => J0x (TG.of [sigE J22 J3v J24, sigE J0f J1t J07]) J3X y.1 y.2 (JR J1B)) = J0z x := by kernel_rfl
def J2t (z2 : (List (List UInt8)) × Int × Int) : Option (((List (List UInt8)) × Int × Int) ⊕ Int) :=
 if ltI z2.2.2 z2.2.1 then
  (idx z2.1 z2.2.2).bind fun y3 =>
  (J2c y3).bind fun y4 =>
  if y4 then
   some (.inr z2.2.2)
  else
   some (.inl (z2.1, z2.2.1, Jb .i64 z2.2.2 1))
 else
  some (.inr (-1))
def J00 (x1 : List (List UInt8)) : Option (Int) :=
 JK (J2t) (x1, J8 x1, 0)
theorem J5w (x) : onO (J0b J0e x) (fun y => J0x (TG.of [sigE J0O J2V J2c]) J13 y.1 y.2 (JR J0e)) = J00 x := by kernel_rfl
def JF (x1 : List (List UInt8)) : Option (Bool) :=
 (J00 x1).bind fun y2 =>
 some (geI y2 0)
theorem J4y (x) : onO (J0b J05 x) (fun y => J0x (TG.of [sigE JQ J0e J00]) J0H y.1 y.2 (JR J05)) = JF x := by kernel_rfl
def J2e (x1 : Ja × J6) : Option (Bool × J6) :=
 (J0z (x1.2, x1.1)).bind fun y2 =>
 some (J2x y2, x1.2)
theorem Jcp (x) : onO (J0b J2M x) (fun y => J0x (TG.of [sigE J0y J1B J0z]) J3V y.1 y.2 (JR J2M)) = J2e x := by kernel_rfl
def J1N (z2 : (List Ja) × Int × Int × J6) : Option (((List Ja) × Int × Int × J6) ⊕ (Int × J6)) :=
 if ltI z2.2.2.1 z2.2.1 then
  (idx z2.1 z2.2.2.1).bind fun y3 =>
  (J2e (y3, z2.2.2.2)).bind fun y4 =>
  if y4.1 then
   some (.inr (z2.2.2.1, y4.2))
  else
   some (.inl (z2.1, z2.2.1, Jb .i64 z2.2.2.1 1, y4.2))
 else
  some (.inr ((-1), z2.2.2.2))
def JL (x1 : (List Ja) × J6) : Option (Int × J6) :=
 JK (J1N) (x1.1, J8 x1.1, 0, x1.2)
theorem J4c (x) : onO (J0b JY x) (fun y => J0x (TG.of [sigE J0K J2M J2e]) J0v y.1 y.2 (JR JY)) = JL x := by kernel_rfl
def JA (x1 : (List Ja) × J6) : Option (Bool × J6) :=
 (JL (x1.1, x1.2)).bind fun y2 =>
 some (geI y2.1 0, y2.2)
theorem J3P (x) : onO (J0b JP x) (fun y => J0x (TG.of [sigE JH JY JL]) J0j y.1 y.2 (JR JP)) = JA x := by kernel_rfl
def J8E (z2 : (List Int) × Int × Int × J6) : Option (((List Int) × Int × Int × J6) ⊕ Bool) :=
 if ltI z2.2.2.1 z2.2.1 then
  (idx z2.1 z2.2.2.1).bind fun y3 =>
  (J07 (z2.2.2.2, y3)).bind fun y4 =>
  if J2x y4 = false then
   if gtI z2.2.2.1 0 then
    (idx z2.2.2.2.2.2.1 (J4h .i64 z2.2.2.1 1)).bind fun y5 =>
    if geI y5 y3 then
     some (.inr false)
    else
     some (.inl (z2.1, z2.2.1, Jb .i64 z2.2.2.1 1, z2.2.2.2))
   else
    some (.inl (z2.1, z2.2.1, Jb .i64 z2.2.2.1 1, z2.2.2.2))
  else
   some (.inr false)
 else
  Option.map .inr (
   (JF z2.2.2.2.1).bind fun y6 =>
   if J2x y6 then
    (JA (z2.2.2.2.2.2.2.2, z2.2.2.2)).bind fun y7 =>
    some (J2x y7.1)
   else
    some false)
def J1c (x1 : J6) : Option (Bool) :=
 if ltI (J8 x1.1) 1 = false then
  if gtI (J8 x1.1) 64 = false then
   if ltI x1.2.1 0 = false then
    if gtI x1.2.1 1099511627776 = false then
     if gtI (J8 x1.2.2.2.2) 64 then
      some false
     else
      JK (J8E) (x1.2.2.1, J8 x1.2.2.1, 0, x1)
    else
     some false
   else
    some false
  else
   some false
 else
  some false
theorem JfL (x) : onO (J0b J2n x) (fun y => J0x (TG.of [sigE J0f J1t J07, sigE JN J05 JF, sigE JD JP JA]) J5f y.1 y.2 (JR J2n)) = J1c x := by kernel_rfl
def J0N (x : List Ja) : Option (List Ja) := cloS 48 x
def J0V (x1 : J6 × Ja) : Option (J6 × Int) :=
 (J1c x1.1).bind fun y2 =>
 if J2x y2 then
  some (([], 0, [], false, []), 15)
 else
  (J0z (x1.1, x1.2)).bind fun y3 =>
  if J2x y3 then
   some (([], 0, [], false, []), 1)
  else
   if eqI (J8 x1.1.2.2.2.2) 64 then
    some (([], 0, [], false, []), 21)
   else
    (J0N x1.1.2.2.2.2).bind fun y4 =>
    (J4j 48 y4 [x1.2]).bind fun y5 =>
    some ((x1.1.1, x1.1.2.1, x1.1.2.2.1, x1.1.2.2.2.1, y5), 0)
theorem JeW (x) : onO (J0b J20 x) (fun y => J0x (TG.of [sigE J0T J2n J1c, sigE J0y J1B J0z, sigE JE J1z J0N]) J4K y.1 y.2 (JR J20)) = J0V x := by kernel_rfl
def J1f (x : (List (List UInt8)) × Int) : Option (List (List UInt8)) := Jfw x
def J3e (x : (List UInt8) × Int) : Option (List UInt8) := JrE x
def J2s (x1 : Int) : Option (List (List UInt8)) :=
 (J3e ([0], 256)).bind fun y2 =>
 (J1f ([y2], x1)).bind fun y3 =>
 some y3
theorem JfC (x) : onO (J0b J40 x) (fun y => J0x (TG.of [sigE J2o J6f J3e, sigE J0l J2h J1f]) J5k y.1 y.2 (JR J40)) = J2s x := by kernel_rfl
def J1I (x1 : Int) : Option (J6 × Int) :=
 if ltI x1 1 = false then
  if gtI x1 64 then
   some (([], 0, [], false, []), 1)
  else
   (J2s x1).bind fun y2 =>
   some ((y2, 0, [], false, []), 0)
 else
  some (([], 0, [], false, []), 1)
theorem Jia (x) : onO (J0b J3d x) (fun y => J0x (TG.of [sigE J1V J40 J2s]) J6O y.1 y.2 (JR J3d)) = J1I x := by kernel_rfl
def J0W (x1 : J6 × Int) : Option (Int) :=
 (J1c x1.1).bind fun y2 =>
 if J2x y2 then
  some 15
 else
  if x1.1.2.2.2.1 then
   some 10
  else
   (J07 (x1.1, x1.2)).bind fun y3 =>
   if J2x y3 then
    some 1
   else
    some 0
theorem JeL (x) : onO (J0b J3C x) (fun y => J0x (TG.of [sigE J0T J2n J1c, sigE J0f J1t J07]) J4L y.1 y.2 (JR J3C)) = J0W x := by kernel_rfl
def J4S (z2 : (List Int) × Int × Int × Int) : Option (((List Int) × Int × Int × Int) ⊕ Int) :=
 if ltI z2.2.2.2 z2.2.2.1 then
  (idx z2.1 z2.2.2.2).bind fun y3 =>
  if eqI z2.2.1 y3 then
   some (.inr z2.2.2.2)
  else
   some (.inl (z2.1, z2.2.1, z2.2.2.1, Jb .i64 z2.2.2.2 1))
 else
  some (.inr (-1))
def J19 (x1 : (List Int) × Int) : Option (Int) :=
 JK (J4S) (x1.1, x1.2, J8 x1.1, 0)
theorem J9z (x) : onO (J0b J1H x) (fun y => J0x (TG.of []) J2u y.1 y.2 (JR J1H)) = J19 x := by kernel_rfl
def J0n (x1 : (List Int) × Int) : Option (Bool) :=
 (J19 (x1.1, x1.2)).bind fun y2 =>
 some (geI y2 0)
theorem J83 (x) : onO (J0b J1d x) (fun y => J0x (TG.of [sigE J0G J1H J19]) J1X y.1 y.2 (JR J1d)) = J0n x := by kernel_rfl
def J0i (x1 : J6 × Int) : Option ((List UInt8) × Int) :=
 (J0W (x1.1, x1.2)).bind fun y2 =>
 if neI y2 0 then
  some ([], y2)
 else
  (J0n (x1.1.2.2.1, x1.2)).bind fun y3 =>
  if y3 then
   some ([], 11)
  else
   (idx x1.1.1 x1.2).bind fun y4 =>
   some (y4, 0)
theorem Jhb (x) : onO (J0b J2F x) (fun y => J0x (TG.of [sigE J1D J3C J0W, sigE J0m J1d J0n]) J5X y.1 y.2 (JR J2F)) = J0i x := by kernel_rfl
def J01 (x : J6 × Int × (List UInt8)) : Option (J6 × Int) := JdP (J0W (x.1, x.2.1)) x
def JS (rec : (Int × J5) → Option (Int × J5)) (x1 : Int × J5) : Option (Int × J5) :=
 if geI x1.2.2 (J8 x1.2.1) = false then
  if ltI x1.1 1 then
   some (0, x1.2)
  else
   (idx x1.2.1 x1.2.2).bind fun y2 =>
   if gtI x1.1 256 then
    (rec (256, x1.2.1, Jb .i64 x1.2.2 1)).bind fun y3 =>
    (JbA (Jb .i64 (Ji8 .i64 256 (cvI .i64 y2)) y3.1) x1.1).bind fun y4 =>
    some (y4, y3.2)
   else
    (JbA (cvI .i64 y2) x1.1).bind fun y5 =>
    some (y5, x1.2.1, Jb .i64 x1.2.2 1)
 else
  some (0, x1.2)
def J7 : (Int × J5) → Option (Int × J5) := J9t JS 100
theorem J5G (r x) : onO (J0b g_draw_Codes_Next x) (fun y => J0x (TG.of (sigE i_draw_Codes_Next g_draw_Codes_Next r :: [])) J0L y.1 y.2 (JR g_draw_Codes_Next)) = JS r x := by kernel_rfl
def J6Y (z4 : Int × Int × J5 × (List Int)) : Option ((Int × Int × J5 × (List Int)) ⊕ ((List UInt8) × J5)) :=
 if ltI z4.2.1 (J8 z4.2.2.2) then
  (inb (List.length z4.2.2.2) z4.2.1).bind fun _ =>
  (lat z4.2.2.2 (Int.toNat z4.2.1)).bind fun _ =>
  some (.inl (z4.1, Jb .i64 z4.2.1 1, z4.2.2.1, J2X z4.2.2.2 (Int.toNat z4.2.1) z4.1))
 else
  Option.map .inr (
   (J7 (256, z4.2.2.1)).bind fun y7 =>
   (J7 (256, y7.2)).bind fun y8 =>
   (inb (List.length z4.2.2.2) y7.1).bind fun _ =>
   (lat z4.2.2.2 (Int.toNat y7.1)).bind fun _ =>
   some (toStr (J2X z4.2.2.2 (Int.toNat y7.1) (cvI .u8 y8.1)), y8.2))
def J0o (x1 : J5) : Option ((List UInt8) × J5) :=
 (mkS 1 256 256 0).bind fun y2 =>
 (J7 (256, x1)).bind fun y3 =>
 JK (J6Y) (cvI .u8 y3.1, 0, y3.2, y2)
theorem Jbh (x) : onO (J0b J2A x) (fun y => J0x (TG.of [sigE i_draw_Codes_Next g_draw_Codes_Next J7]) J3t y.1 y.2 (JR J2A)) = J0o x := by kernel_rfl
def Jc (x1 : J5) : Option (Int × J5) :=
 (J7 (10, x1)).bind fun y2 =>
 if eqI y2.1 0 then
  (J7 (3, y2.2)).bind fun y3 =>
  some (J4h .i64 (-1) y3.1, y3.2)
 else
  if eqI y2.1 1 then
   (J7 (16, y2.2)).bind fun y4 =>
   (idx [9223372036854775807, (-9223372036854775808), 1099511627776, 1099511627777, 1073741824, 1073741825, 64, 63, 16, 15, 256, 255, 4294967296, 65536, 256, 255] y4.1).bind fun y5 =>
   some (y5, y4.2)
  else
   (J7 (20, y2.2)).bind fun y6 =>
   some (y6.1, y6.2)
theorem J6l (x) : onO (J0b J0u x) (fun y => J0x (TG.of [sigE i_draw_Codes_Next g_draw_Codes_Next J7]) J12 y.1 y.2 (JR J0u)) = Jc x := by kernel_rfl
def J0p (x1 : Int × Int × J5) : Option (Ja × J5) :=
 (J7 (6, x1.2.2)).bind fun y2 =>
 (J7 (6, y2.2)).bind fun y3 =>
 if eqI (Jb .i64 1 y2.1) 2 then
  (J7 (x1.1, y3.2)).bind fun y4 =>
  (J7 (16, y4.2)).bind fun y5 =>
  if eqI y5.1 12 then
   (Jc y5.2).bind fun y6 =>
   some ((Jb .i64 1 y2.1, y6.1, 0, y4.1, 0, 0), y6.2)
  else
   if eqI y5.1 13 then
    (Jc y5.2).bind fun y7 =>
    some ((Jb .i64 1 y2.1, Jb .i64 (Jb .i64 x1.2.1 1) y3.1, y7.1, y4.1, 0, 0), y7.2)
   else
    if eqI y5.1 14 then
     (Jc y5.2).bind fun y8 =>
     (Jc y8.2).bind fun y9 =>
     some ((Jb .i64 1 y2.1, Jb .i64 (Jb .i64 x1.2.1 1) y3.1, 0, y8.1, y9.1, 0), y9.2)
    else
     if eqI y5.1 15 then
      (J7 (9, y5.2)).bind fun y10 =>
      some ((J4h .i64 y10.1 1, Jb .i64 (Jb .i64 x1.2.1 1) y3.1, 0, y4.1, 0, 0), y10.2)
     else
      some ((Jb .i64 1 y2.1, Jb .i64 (Jb .i64 x1.2.1 1) y3.1, 0, y4.1, 0, 0), y5.2)
 else
  if eqI (Jb .i64 1 y2.1) 3 then
   (J7 (256, y3.2)).bind fun y11 =>
   (J7 (16, y11.2)).bind fun y12 =>
   if eqI y12.1 12 then
    (Jc y12.2).bind fun y13 =>
    some ((Jb .i64 1 y2.1, y13.1, 0, 0, y11.1, 0), y13.2)
   else
    if eqI y12.1 13 then
     (Jc y12.2).bind fun y14 =>
     some ((Jb .i64 1 y2.1, Jb .i64 (Jb .i64 x1.2.1 1) y3.1, y14.1, 0, y11.1, 0), y14.2)
    else
     if eqI y12.1 14 then
      (Jc y12.2).bind fun y15 =>
      (Jc y15.2).bind fun y16 =>
      some ((Jb .i64 1 y2.1, Jb .i64 (Jb .i64 x1.2.1 1) y3.1, 0, y15.1, y16.1, 0), y16.2)
     else
      if eqI y12.1 15 then
       (J7 (9, y12.2)).bind fun y17 =>
       some ((J4h .i64 y17.1 1, Jb .i64 (Jb .i64 x1.2.1 1) y3.1, 0, 0, y11.1, 0), y17.2)
      else
       some ((Jb .i64 1 y2.1, Jb .i64 (Jb .i64 x1.2.1 1) y3.1, 0, 0, y11.1, 0), y12.2)
  else
   if eqI (Jb .i64 1 y2.1) 4 then
    (J7 (x1.1, y3.2)).bind fun y18 =>
    (J7 (256, y18.2)).bind fun y19 =>
    (J7 (255, y19.2)).bind fun y20 =>
    (J7 (16, y20.2)).bind fun y21 =>
    if eqI y21.1 12 then
     (Jc y21.2).bind fun y22 =>
     some ((Jb .i64 1 y2.1, y22.1, y18.1, 0, y19.1, cvI .u8 (Jb .i64 1 y20.1)), y22.2)
    else
     if eqI y21.1 13 then
      (Jc y21.2).bind fun y23 =>
      some ((Jb .i64 1 y2.1, Jb .i64 (Jb .i64 x1.2.1 1) y3.1, y23.1, 0, y19.1, 0), y23.2)
     else
      if eqI y21.1 14 then
       (Jc y21.2).bind fun y24 =>
       (Jc y24.2).bind fun y25 =>
       some ((Jb .i64 1 y2.1, Jb .i64 (Jb .i64 x1.2.1 1) y3.1, y18.1, y24.1, y25.1, cvI .u8 (Jb .i64 1 y20.1)), y25.2)
      else
       if eqI y21.1 15 then
        (J7 (9, y21.2)).bind fun y26 =>
        some ((J4h .i64 y26.1 1, Jb .i64 (Jb .i64 x1.2.1 1) y3.1, y18.1, 0, y19.1, cvI .u8 (Jb .i64 1 y20.1)), y26.2)
       else
        some ((Jb .i64 1 y2.1, Jb .i64 (Jb .i64 x1.2.1 1) y3.1, y18.1, 0, y19.1, cvI .u8 (Jb .i64 1 y20.1)), y21.2)
   else
    if eqI (Jb .i64 1 y2.1) 5 then
     (J7 (x1.1, y3.2)).bind fun y27 =>
     (J7 (16, y27.2)).bind fun y28 =>
     if eqI y28.1 12 then
      (Jc y28.2).bind fun y29 =>
      some ((Jb .i64 1 y2.1, y29.1, y27.1, 0, 0, 0), y29.2)
     else
      if eqI y28.1 13 then
       (Jc y28.2).bind fun y30 =>
       some ((Jb .i64 1 y2.1, Jb .i64 (Jb .i64 x1.2.1 1) y3.1, y30.1, 0, 0, 0), y30.2)
      else
       if eqI y28.1 14 then
        (Jc y28.2).bind fun y31 =>
        (Jc y31.2).bind fun y32 =>
        some ((Jb .i64 1 y2.1, Jb .i64 (Jb .i64 x1.2.1 1) y3.1, y27.1, y31.1, y32.1, 0), y32.2)
       else
        if eqI y28.1 15 then
         (J7 (9, y28.2)).bind fun y33 =>
         some ((J4h .i64 y33.1 1, Jb .i64 (Jb .i64 x1.2.1 1) y3.1, y27.1, 0, 0, 0), y33.2)
        else
         some ((Jb .i64 1 y2.1, Jb .i64 (Jb .i64 x1.2.1 1) y3.1, y27.1, 0, 0, 0), y28.2)
    else
     (J7 (16, y3.2)).bind fun y34 =>
     if eqI y34.1 12 then
      (Jc y34.2).bind fun y35 =>
      some ((Jb .i64 1 y2.1, y35.1, 0, 0, 0, 0), y35.2)
     else
      if eqI y34.1 13 then
       (Jc y34.2).bind fun y36 =>
       some ((Jb .i64 1 y2.1, Jb .i64 (Jb .i64 x1.2.1 1) y3.1, y36.1, 0, 0, 0), y36.2)
      else
       if eqI y34.1 14 then
        (Jc y34.2).bind fun y37 =>
        (Jc y37.2).bind fun y38 =>
        some ((Jb .i64 1 y2.1, Jb .i64 (Jb .i64 x1.2.1 1) y3.1, 0, y37.1, y38.1, 0), y38.2)
       else
        if eqI y34.1 15 then
         (J7 (9, y34.2)).bind fun y39 =>
         some ((J4h .i64 y39.1 1, Jb .i64 (Jb .i64 x1.2.1 1) y3.1, 0, 0, 0, 0), y39.2)
        else
         some ((Jb .i64 1 y2.1, Jb .i64 (Jb .i64 x1.2.1 1) y3.1, 0, 0, 0, 0), y34.2)
theorem J4Y (x) : onO (J0b J0E x) (fun y => J0x (TG.of [sigE i_draw_Codes_Next g_draw_Codes_Next J7, sigE Jz J0u Jc]) J0F y.1 y.2 (JR J0E)) = J0p x := by kernel_rfl
def J2f (x1 : J5) : Option (Int × J5) :=
 some (J4h .i64 (J8 x1.1) x1.2, x1)
theorem Jcl (x) : onO (J0b J2N x) (fun y => J0x (TG.of []) J3U y.1 y.2 (JR J2N)) = J2f x := by kernel_rfl
def J4l (x1 : J5) : Option (J5) :=
 if gtI (J8 x1.1) x1.2 then
  (J8z x1.1 none (some x1.2)).bind fun y2 =>
  some (y2, 0)
 else
  some (x1.1, 0)
theorem JlS (x) : onO (J0b J6G x) (fun y => J0x (TG.of []) J85 y.1 y.2 (JR J6G)) = J4l x := by kernel_rfl
def J2L (x1 : Unit) : Option (Bool) :=
 (J1I 1).bind fun y2 =>
 (J0V (y2.1, 1, 2, 0, 0, 0, 0)).bind fun y3 =>
 (mkS 1 255 255 0).bind fun y4 =>
 (Jdc (toStr y4) [97]).bind fun y5 =>
 (mkS 1 255 255 0).bind fun y6 =>
 (Jdc (toStr y6) [98]).bind fun y7 =>
 (J01 (y3.1, 0, y5)).bind fun y8 =>
 (J01 (y8.1, 0, y7)).bind fun y9 =>
 (J0i (y9.1, 0)).bind fun y10 =>
 if eqI y2.2 0 then
  if eqI y3.2 0 then
   if eqI y8.2 0 then
    if eqI y9.2 0 then
     if eqI y10.2 0 then
      some (eqS y10.1 y5)
     else
      some false
    else
     some false
   else
    some false
  else
   some false
 else
  some false
theorem JgV (x) : onO (J0b J4q x) (fun y => J0x (TG.of [sigE J1G J3d J1I, sigE J0Y J20 J0V, sigE J1b J48 J01, sigE J1o J2F J0i]) J62 y.1 y.2 (JR J4q)) = J2L x := by kernel_rfl
def J0U (x1 : J6) : Option (Int × (List Int) × Bool × (List (List UInt8)) × (List Ja)) :=
 (cloS 16 x1.1).bind fun y2 =>
 (cloS 8 x1.2.2.1).bind fun y3 =>
 (cloS 48 x1.2.2.2.2).bind fun y4 =>
 some (x1.2.1, y3, x1.2.2.2.1, y2, y4)
theorem J8x (x) : onO (J0b J1i x) (fun y => J0x (TG.of []) J28 y.1 y.2 (JR J1i)) = J0U x := by kernel_rfl
def J1j (x1 : J6 × Ja) : Option (Bool) :=
 if leI x1.2.2.1 x1.1.2.1 = false then
  if gtI x1.2.2.1 1099511627776 = false then
   if ltI x1.2.2.2.1 0 = false then
    if geI x1.2.2.2.1 (J8 x1.1.1) = false then
     if ltI x1.2.2.2.2.1 0 = false then
      if geI x1.2.2.2.2.1 (J8 x1.1.1) = false then
       if ltI x1.2.2.2.2.2.1 0 = false then
        if geI x1.2.2.2.2.2.1 256 then
         some false
        else
         if eqI x1.2.1 1 then
          some (eqT J4 x1.2 (x1.2.1, x1.2.2.1, 0, 0, 0, 0))
         else
          if eqI x1.2.1 6 then
           some (eqT J4 x1.2 (x1.2.1, x1.2.2.1, 0, 0, 0, 0))
          else
           if eqI x1.2.1 2 then
            some (eqT J4 x1.2 (x1.2.1, x1.2.2.1, 0, x1.2.2.2.2.1, 0, 0))
           else
            if eqI x1.2.1 3 then
             some (eqT J4 x1.2 (x1.2.1, x1.2.2.1, 0, 0, x1.2.2.2.2.2.1, 0))
            else
             if eqI x1.2.1 4 then
              if eqI x1.2.2.2.2.2.2 0 then
               some false
              else
               some (eqT J4 x1.2 (x1.2.1, x1.2.2.1, x1.2.2.2.1, 0, x1.2.2.2.2.2.1, x1.2.2.2.2.2.2))
             else
              if eqI x1.2.1 5 then
               some (eqT J4 x1.2 (x1.2.1, x1.2.2.1, x1.2.2.2.1, 0, 0, 0))
              else
               some false
       else
        some false
      else
       some false
     else
      some false
    else
     some false
   else
    some false
  else
   some false
 else
  some false
theorem JgR (x) : onO (J0b J2H x) (fun y => J0x (TG.of []) J5V y.1 y.2 (JR J2H)) = J1j x := by kernel_rfl
def J8U (z9 : Int × J6) : Option ((Int × J6) ⊕ Bool) :=
 if ltI z9.1 (J8 z9.2.2.2.2.2) then
  (idx z9.2.2.2.2.2 z9.1).bind fun y10 =>
  (J1j (z9.2, y10)).bind fun y11 =>
  if J2x y11 then
   some (.inr false)
  else
   some (.inl (Jb .i64 z9.1 1, z9.2))
 else
  some (.inr true)
def J9a (z4 : Int × Int × J6) : Option ((Int × Int × J6) ⊕ Bool) :=
 if ltI z4.2.1 (J8 z4.2.2.2.2.1) then
  (idx z4.2.2.2.2.1 z4.2.1).bind fun y5 =>
  if ltI y5 0 = false then
   (idx z4.2.2.2.2.1 z4.2.1).bind fun y6 =>
   if geI y6 z4.1 = false then
    if gtI z4.2.1 0 then
     (idx z4.2.2.2.2.1 (J4h .i64 z4.2.1 1)).bind fun y7 =>
     (idx z4.2.2.2.2.1 z4.2.1).bind fun y8 =>
     if geI y7 y8 then
      some (.inr false)
     else
      some (.inl (z4.1, Jb .i64 z4.2.1 1, z4.2.2))
    else
     some (.inl (z4.1, Jb .i64 z4.2.1 1, z4.2.2))
   else
    some (.inr false)
  else
   some (.inr false)
 else
  Option.map .inr (
   JK (J8U) (0, z4.2.2))
def J9c (z2 : Int × Int × J6) : Option ((Int × Int × J6) ⊕ Bool) :=
 if ltI z2.2.1 z2.1 then
  (idx z2.2.2.1 z2.2.1).bind fun y3 =>
  if neI (J8 y3) 256 then
   some (.inr false)
  else
   some (.inl (z2.1, Jb .i64 z2.2.1 1, z2.2.2))
 else
  Option.map .inr (
   JK (J9a) (z2.1, 0, z2.2.2))
def J1p (x1 : J6) : Option (Bool) :=
 if ltI (J8 x1.1) 1 = false then
  if gtI (J8 x1.1) 64 = false then
   if ltI x1.2.1 0 = false then
    if gtI x1.2.1 1099511627776 = false then
     if gtI (J8 x1.2.2.2.2) 64 then
      some false
     else
      JK (J9c) (J8 x1.1, 0, x1)
    else
     some false
   else
    some false
  else
   some false
 else
  some false
theorem JgY (x) : onO (J0b J2E x) (fun y => J0x (TG.of [sigE J1m J2H J1j]) J63 y.1 y.2 (JR J2E)) = J1p x := by kernel_rfl
def J2r (x1 : J6 × Ja) : Option (J6 × Int) :=
 (J1p x1.1).bind fun y2 =>
 if J2x y2 then
  some (([], 0, [], false, []), 15)
 else
  (J1j (x1.1, x1.2)).bind fun y3 =>
  if J2x y3 then
   some (([], 0, [], false, []), 1)
  else
   if eqI (J8 x1.1.2.2.2.2) 64 then
    some (([], 0, [], false, []), 21)
   else
    (J0U x1.1).bind fun y4 =>
    (J4j 48 y4.2.2.2.2 [x1.2]).bind fun y5 =>
    some ((y4.2.2.2.1, y4.1, y4.2.1, y4.2.2.1, y5), 0)
theorem JfJ (x) : onO (J0b J41 x) (fun y => J0x (TG.of [sigE J16 J2E J1p, sigE J1m J2H J1j, sigE J0k J1i J0U]) J5q y.1 y.2 (JR J41)) = J2r x := by kernel_rfl
def J8G (z2 : Int × Int × (List (List UInt8))) : Option ((Int × Int × (List (List UInt8))) ⊕ (List (List UInt8))) :=
 if ltI z2.2.1 z2.1 then
  (mkS 1 256 256 0).bind fun y3 =>
  (J4j 16 z2.2.2 [toStr y3]).bind fun y4 =>
  some (.inl (z2.1, Jb .i64 z2.2.1 1, y4))
 else
  some (.inr z2.2.2)
def J2p (x1 : Int) : Option (List (List UInt8)) :=
 JK (J8G) (x1, 0, [])
theorem Jft (x) : onO (J0b J43 x) (fun y => J0x (TG.of []) J5v y.1 y.2 (JR J43)) = J2p x := by kernel_rfl
def J3K (x1 : Int) : Option (J6 × Int) :=
 if ltI x1 1 = false then
  if gtI x1 64 then
   some (([], 0, [], false, []), 1)
  else
   (J2p x1).bind fun y2 =>
   some ((y2, 0, [], false, []), 0)
 else
  some (([], 0, [], false, []), 1)
theorem JjW (x) : onO (J0b J5M x) (fun y => J0x (TG.of [sigE J1Q J43 J2p]) J7u y.1 y.2 (JR J5M)) = J3K x := by kernel_rfl
def JaI (z2 : (List Int) × Int × Int) : Option (((List Int) × Int × Int) ⊕ Bool) :=
 if ltI z2.2.2 (J8 z2.1) then
  (idx z2.1 z2.2.2).bind fun y3 =>
  if eqI y3 z2.2.1 then
   some (.inr true)
  else
   some (.inl (z2.1, z2.2.1, Jb .i64 z2.2.2 1))
 else
  some (.inr false)
def J3S (x1 : (List Int) × Int) : Option (Bool) :=
 JK (JaI) (x1.1, x1.2, 0)
theorem JjA (x) : onO (J0b J5S x) (fun y => J0x (TG.of []) J7o y.1 y.2 (JR J5S)) = J3S x := by kernel_rfl
def J1a (x1 : J6 × Int) : Option (Int) :=
 (J1p x1.1).bind fun y2 =>
 if J2x y2 then
  some 15
 else
  if x1.1.2.2.2.1 then
   some 10
  else
   if ltI x1.2 0 = false then
    if geI x1.2 (J8 x1.1.1) then
     some 1
    else
     some 0
   else
    some 1
theorem JfQ (x) : onO (J0b J2q x) (fun y => J0x (TG.of [sigE J16 J2E J1p]) J5j y.1 y.2 (JR J2q)) = J1a x := by kernel_rfl
def J17 (x1 : J6 × Int) : Option ((List UInt8) × Int) :=
 (J1a (x1.1, x1.2)).bind fun y2 =>
 if neI y2 0 then
  some ([], y2)
 else
  (J3S (x1.1.2.2.1, x1.2)).bind fun y3 =>
  if y3 then
   some ([], 11)
  else
   (idx x1.1.1 x1.2).bind fun y4 =>
   some (y4, 0)
theorem Jj4 (x) : onO (J0b J4U x) (fun y => J0x (TG.of [sigE J0R J2q J1a, sigE J3L J5S J3S]) J6K y.1 y.2 (JR J4U)) = J17 x := by kernel_rfl
def J7M (z2 : (List Int) × Int × Int × (List Int)) : Option (((List Int) × Int × Int × (List Int)) ⊕ (List Int)) :=
 if ltI z2.2.2.1 (J8 z2.1) then
  (idx z2.1 z2.2.2.1).bind fun y3 =>
  if neI y3 z2.2.1 then
   (idx z2.1 z2.2.2.1).bind fun y4 =>
   (J4j 8 z2.2.2.2 [y4]).bind fun y5 =>
   some (.inl (z2.1, z2.2.1, Jb .i64 z2.2.2.1 1, y5))
  else
   some (.inl (z2.1, z2.2.1, Jb .i64 z2.2.2.1 1, z2.2.2.2))
 else
  some (.inr z2.2.2.2)
def J25 (x1 : (List Int) × Int) : Option (List Int) :=
 JK (J7M) (x1.1, x1.2, 0, [])
theorem Jez (x) : onO (J0b J3H x) (fun y => J0x (TG.of []) J4J y.1 y.2 (JR J3H)) = J25 x := by kernel_rfl
def J1n (x1 : Int × (List Int) × Bool × Int × (List UInt8) × Int × (List (List UInt8)) × (List Ja)) : Option (Int × (List Int) × Bool × (List (List UInt8)) × (List Ja)) :=
 (J8z x1.2.2.2.2.1 none (some x1.2.2.2.2.2.1)).bind fun y2 =>
 (inb (List.length x1.2.2.2.2.2.2.1) x1.2.2.2.1).bind fun _ =>
 (lat x1.2.2.2.2.2.2.1 (Int.toNat x1.2.2.2.1)).bind fun y4 =>
 (J8z y4 (some x1.2.2.2.2.2.1) none).bind fun y5 =>
 (Jdc y2 y5).bind fun y6 =>
 (inb (List.length x1.2.2.2.2.2.2.1) x1.2.2.2.1).bind fun _ =>
 (lat x1.2.2.2.2.2.2.1 (Int.toNat x1.2.2.2.1)).bind fun _ =>
 (J25 (x1.2.1, x1.2.2.2.1)).bind fun y9 =>
 some (x1.1, y9, x1.2.2.1, J2X x1.2.2.2.2.2.2.1 (Int.toNat x1.2.2.2.1) y6, x1.2.2.2.2.2.2.2)
theorem JgN (x) : onO (J0b J4s x) (fun y => J0x (TG.of [sigE J29 J3H J25]) J64 y.1 y.2 (JR J4s)) = J1n x := by kernel_rfl
def J9Z (z2 : (List Int) × Int × Bool × Int × (List Int)) : Option (((List Int) × Int × Bool × Int × (List Int)) ⊕ (List Int)) :=
 if ltI z2.2.2.2.1 (J8 z2.1) then
  if J2x z2.2.2.1 then
   (idx z2.1 z2.2.2.2.1).bind fun y3 =>
   if geI y3 z2.2.1 then
    (J4j 8 z2.2.2.2.2 [z2.2.1]).bind fun y4 =>
    (idx z2.1 z2.2.2.2.1).bind fun y5 =>
    if neI y5 z2.2.1 then
     (idx z2.1 z2.2.2.2.1).bind fun y6 =>
     (J4j 8 y4 [y6]).bind fun y7 =>
     some (.inl (z2.1, z2.2.1, true, Jb .i64 z2.2.2.2.1 1, y7))
    else
     some (.inl (z2.1, z2.2.1, true, Jb .i64 z2.2.2.2.1 1, y4))
   else
    (idx z2.1 z2.2.2.2.1).bind fun y8 =>
    if neI y8 z2.2.1 then
     (idx z2.1 z2.2.2.2.1).bind fun y9 =>
     (J4j 8 z2.2.2.2.2 [y9]).bind fun y10 =>
     some (.inl (z2.1, z2.2.1, z2.2.2.1, Jb .i64 z2.2.2.2.1 1, y10))
    else
     some (.inl (z2.1, z2.2.1, z2.2.2.1, Jb .i64 z2.2.2.2.1 1, z2.2.2.2.2))
  else
   (idx z2.1 z2.2.2.2.1).bind fun y11 =>
   if neI y11 z2.2.1 then
    (idx z2.1 z2.2.2.2.1).bind fun y12 =>
    (J4j 8 z2.2.2.2.2 [y12]).bind fun y13 =>
    some (.inl (z2.1, z2.2.1, z2.2.2.1, Jb .i64 z2.2.2.2.1 1, y13))
   else
    some (.inl (z2.1, z2.2.1, z2.2.2.1, Jb .i64 z2.2.2.2.1 1, z2.2.2.2.2))
 else
  Option.map .inr (
   if J2x z2.2.2.1 then
    (J4j 8 z2.2.2.2.2 [z2.2.1]).bind fun y14 =>
    some y14
   else
    some z2.2.2.2.2)
def J1E (x1 : (List Int) × Int) : Option (List Int) :=
 JK (J9Z) (x1.1, x1.2, false, 0, [])
theorem JiG (x) : onO (J0b J4N x) (fun y => J0x (TG.of []) J6E y.1 y.2 (JR J4N)) = J1E x := by kernel_rfl
def J2a (z20 : Int × J6 × (List Ja) × (List (List UInt8)) × Int × (List Int) × Bool × (List (List UInt8)) × (List Ja) × (List Ja) × Int × (List Int) × Bool × (List Ja) × (List Ja)) : Option ((Int × J6 × (List Ja) × (List (List UInt8)) × Int × (List Int) × Bool × (List (List UInt8)) × (List Ja) × (List Ja) × Int × (List Int) × Bool × (List Ja) × (List Ja)) ⊕ (J6 × Int)) :=
 if ltI z20.1 (J8 z20.2.2.2.2.2.2.2.2.2.2.2.2.2.1) then
  (inb (List.length z20.2.2.2.2.2.2.2.2.2.2.2.2.2.1) z20.1).bind fun _ =>
  (lat z20.2.2.2.2.2.2.2.2.2.2.2.2.2.1 (Int.toNat z20.1)).bind fun y22 =>
  if eqI y22.1 4 then
   (inb (List.length z20.2.2.2.2.2.2.2.1) y22.2.2.1).bind fun _ =>
   (lat z20.2.2.2.2.2.2.2.1 (Int.toNat y22.2.2.1)).bind fun y24 =>
   (inb (List.length (toByt y24)) y22.2.2.2.2.1).bind fun _ =>
   (lat (toByt y24) (Int.toNat y22.2.2.2.2.1)).bind fun y26 =>
   (inb (List.length (toByt y24)) y22.2.2.2.2.1).bind fun _ =>
   (lat (toByt y24) (Int.toNat y22.2.2.2.2.1)).bind fun _ =>
   (inb (List.length z20.2.2.2.2.2.2.2.1) y22.2.2.1).bind fun _ =>
   (lat z20.2.2.2.2.2.2.2.1 (Int.toNat y22.2.2.1)).bind fun _ =>
   some (.inl (Jb .i64 z20.1 1, z20.2.1, z20.2.2.1, z20.2.2.2.1, z20.2.2.2.2.1, z20.2.2.2.2.2.1, z20.2.2.2.2.2.2.1, J2X z20.2.2.2.2.2.2.2.1 (Int.toNat y22.2.2.1) (toStr (J2X (toByt y24) (Int.toNat y22.2.2.2.2.1) (JhN .u8 y26 y22.2.2.2.2.2))), z20.2.2.2.2.2.2.2.2.1, z20.2.2.2.2.2.2.2.2.2.1, z20.2.2.2.2.2.2.2.2.2.2.1, z20.2.2.2.2.2.2.2.2.2.2.2.1, z20.2.2.2.2.2.2.2.2.2.2.2.2.1, z20.2.2.2.2.2.2.2.2.2.2.2.2.2.1, z20.2.2.2.2.2.2.2.2.2.2.2.2.2.2))
  else
   if eqI y22.1 5 then
    (J1E (z20.2.2.2.2.2.2.2.2.2.2.2.1, y22.2.2.1)).bind fun y31 =>
    some (.inl (Jb .i64 z20.1 1, z20.2.1, z20.2.2.1, z20.2.2.2.1, z20.2.2.2.2.1, z20.2.2.2.2.2.1, z20.2.2.2.2.2.2.1, z20.2.2.2.2.2.2.2.1, z20.2.2.2.2.2.2.2.2.1, z20.2.2.2.2.2.2.2.2.2.1, z20.2.2.2.2.2.2.2.2.2.2.1, y31, z20.2.2.2.2.2.2.2.2.2.2.2.2.1, z20.2.2.2.2.2.2.2.2.2.2.2.2.2.1, z20.2.2.2.2.2.2.2.2.2.2.2.2.2.2))
   else
    if eqI y22.1 6 then
     some (.inl (Jb .i64 z20.1 1, z20.2.1, z20.2.2.1, z20.2.2.2.1, z20.2.2.2.2.1, z20.2.2.2.2.2.1, z20.2.2.2.2.2.2.1, z20.2.2.2.2.2.2.2.1, z20.2.2.2.2.2.2.2.2.1, z20.2.2.2.2.2.2.2.2.2.1, z20.2.2.2.2.2.2.2.2.2.2.1, z20.2.2.2.2.2.2.2.2.2.2.2.1, true, z20.2.2.2.2.2.2.2.2.2.2.2.2.2.1, z20.2.2.2.2.2.2.2.2.2.2.2.2.2.2))
    else
     some (.inl (Jb .i64 z20.1 1, z20.2.1, z20.2.2.1, z20.2.2.2.1, z20.2.2.2.2.1, z20.2.2.2.2.2.1, z20.2.2.2.2.2.2.1, z20.2.2.2.2.2.2.2.1, z20.2.2.2.2.2.2.2.2.1, z20.2.2.2.2.2.2.2.2.2.1, z20.2.2.2.2.2.2.2.2.2.2.1, z20.2.2.2.2.2.2.2.2.2.2.2.1, z20.2.2.2.2.2.2.2.2.2.2.2.2.1, z20.2.2.2.2.2.2.2.2.2.2.2.2.2.1, z20.2.2.2.2.2.2.2.2.2.2.2.2.2.2))
 else
  some (.inr ((z20.2.2.2.2.2.2.2.1, z20.2.2.2.2.2.2.2.2.2.2.1, z20.2.2.2.2.2.2.2.2.2.2.2.1, z20.2.2.2.2.2.2.2.2.2.2.2.2.1, z20.2.2.2.2.2.2.2.2.2.2.2.2.2.2), 0))
def J9k (z32 : Int × J6 × (List Ja) × (List (List UInt8)) × Int × (List Int) × Bool × (List (List UInt8)) × (List Ja) × (List Ja) × Int × (List Int) × Bool × (List Ja) × (List Ja)) : Option ((Int × J6 × (List Ja) × (List (List UInt8)) × Int × (List Int) × Bool × (List (List UInt8)) × (List Ja) × (List Ja) × Int × (List Int) × Bool × (List Ja) × (List Ja)) ⊕ (J6 × Int)) :=
 if ltI z32.1 (J8 z32.2.2.2.2.2.2.2.2.2.2.2.2.2.1) then
  (inb (List.length z32.2.2.2.2.2.2.2.2.2.2.2.2.2.1) z32.1).bind fun _ =>
  (lat z32.2.2.2.2.2.2.2.2.2.2.2.2.2.1 (Int.toNat z32.1)).bind fun y34 =>
  if eqI y34.1 4 then
   (inb (List.length z32.2.2.2.2.2.2.2.1) y34.2.2.1).bind fun _ =>
   (lat z32.2.2.2.2.2.2.2.1 (Int.toNat y34.2.2.1)).bind fun y36 =>
   (inb (List.length (toByt y36)) y34.2.2.2.2.1).bind fun _ =>
   (lat (toByt y36) (Int.toNat y34.2.2.2.2.1)).bind fun y38 =>
   (inb (List.length (toByt y36)) y34.2.2.2.2.1).bind fun _ =>
   (lat (toByt y36) (Int.toNat y34.2.2.2.2.1)).bind fun _ =>
   (inb (List.length z32.2.2.2.2.2.2.2.1) y34.2.2.1).bind fun _ =>
   (lat z32.2.2.2.2.2.2.2.1 (Int.toNat y34.2.2.1)).bind fun _ =>
   some (.inl (Jb .i64 z32.1 1, z32.2.1, z32.2.2.1, z32.2.2.2.1, z32.2.2.2.2.1, z32.2.2.2.2.2.1, z32.2.2.2.2.2.2.1, J2X z32.2.2.2.2.2.2.2.1 (Int.toNat y34.2.2.1) (toStr (J2X (toByt y36) (Int.toNat y34.2.2.2.2.1) (JhN .u8 y38 y34.2.2.2.2.2))), z32.2.2.2.2.2.2.2.2.1, z32.2.2.2.2.2.2.2.2.2.1, z32.2.2.2.2.2.2.2.2.2.2.1, z32.2.2.2.2.2.2.2.2.2.2.2.1, z32.2.2.2.2.2.2.2.2.2.2.2.2.1, z32.2.2.2.2.2.2.2.2.2.2.2.2.2.1, z32.2.2.2.2.2.2.2.2.2.2.2.2.2.2))
  else
   if eqI y34.1 5 then
    (J1E (z32.2.2.2.2.2.2.2.2.2.2.2.1, y34.2.2.1)).bind fun y43 =>
    some (.inl (Jb .i64 z32.1 1, z32.2.1, z32.2.2.1, z32.2.2.2.1, z32.2.2.2.2.1, z32.2.2.2.2.2.1, z32.2.2.2.2.2.2.1, z32.2.2.2.2.2.2.2.1, z32.2.2.2.2.2.2.2.2.1, z32.2.2.2.2.2.2.2.2.2.1, z32.2.2.2.2.2.2.2.2.2.2.1, y43, z32.2.2.2.2.2.2.2.2.2.2.2.2.1, z32.2.2.2.2.2.2.2.2.2.2.2.2.2.1, z32.2.2.2.2.2.2.2.2.2.2.2.2.2.2))
   else
    if eqI y34.1 6 then
     some (.inl (Jb .i64 z32.1 1, z32.2.1, z32.2.2.1, z32.2.2.2.1, z32.2.2.2.2.1, z32.2.2.2.2.2.1, z32.2.2.2.2.2.2.1, z32.2.2.2.2.2.2.2.1, z32.2.2.2.2.2.2.2.2.1, z32.2.2.2.2.2.2.2.2.2.1, z32.2.2.2.2.2.2.2.2.2.2.1, z32.2.2.2.2.2.2.2.2.2.2.2.1, true, z32.2.2.2.2.2.2.2.2.2.2.2.2.2.1, z32.2.2.2.2.2.2.2.2.2.2.2.2.2.2))
    else
     some (.inl (Jb .i64 z32.1 1, z32.2.1, z32.2.2.1, z32.2.2.2.1, z32.2.2.2.2.1, z32.2.2.2.2.2.1, z32.2.2.2.2.2.2.1, z32.2.2.2.2.2.2.2.1, z32.2.2.2.2.2.2.2.2.1, z32.2.2.2.2.2.2.2.2.2.1, z32.2.2.2.2.2.2.2.2.2.2.1, z32.2.2.2.2.2.2.2.2.2.2.2.1, z32.2.2.2.2.2.2.2.2.2.2.2.2.1, z32.2.2.2.2.2.2.2.2.2.2.2.2.2.1, z32.2.2.2.2.2.2.2.2.2.2.2.2.2.2))
 else
  some (.inr ((z32.2.2.2.2.2.2.2.1, z32.2.2.2.2.2.2.2.2.2.2.1, z32.2.2.2.2.2.2.2.2.2.2.2.1, z32.2.2.2.2.2.2.2.2.2.2.2.2.1, z32.2.2.2.2.2.2.2.2.2.2.2.2.2.2), 0))
def J92 (z45 : Int × J6 × (List Ja) × (List (List UInt8)) × Int × (List Int) × Bool × (List (List UInt8)) × (List Ja) × (List Ja) × Int × (List Int) × Bool × (List Ja) × (List Ja)) : Option ((Int × J6 × (List Ja) × (List (List UInt8)) × Int × (List Int) × Bool × (List (List UInt8)) × (List Ja) × (List Ja) × Int × (List Int) × Bool × (List Ja) × (List Ja)) ⊕ (J6 × Int)) :=
 if ltI z45.1 (J8 z45.2.2.2.2.2.2.2.2.2.2.2.2.2.1) then
  (inb (List.length z45.2.2.2.2.2.2.2.2.2.2.2.2.2.1) z45.1).bind fun _ =>
  (lat z45.2.2.2.2.2.2.2.2.2.2.2.2.2.1 (Int.toNat z45.1)).bind fun y47 =>
  if eqI y47.1 4 then
   (inb (List.length z45.2.2.2.2.2.2.2.1) y47.2.2.1).bind fun _ =>
   (lat z45.2.2.2.2.2.2.2.1 (Int.toNat y47.2.2.1)).bind fun y49 =>
   (inb (List.length (toByt y49)) y47.2.2.2.2.1).bind fun _ =>
   (lat (toByt y49) (Int.toNat y47.2.2.2.2.1)).bind fun y51 =>
   (inb (List.length (toByt y49)) y47.2.2.2.2.1).bind fun _ =>
   (lat (toByt y49) (Int.toNat y47.2.2.2.2.1)).bind fun _ =>
   (inb (List.length z45.2.2.2.2.2.2.2.1) y47.2.2.1).bind fun _ =>
   (lat z45.2.2.2.2.2.2.2.1 (Int.toNat y47.2.2.1)).bind fun _ =>
   some (.inl (Jb .i64 z45.1 1, z45.2.1, z45.2.2.1, z45.2.2.2.1, z45.2.2.2.2.1, z45.2.2.2.2.2.1, z45.2.2.2.2.2.2.1, J2X z45.2.2.2.2.2.2.2.1 (Int.toNat y47.2.2.1) (toStr (J2X (toByt y49) (Int.toNat y47.2.2.2.2.1) (JhN .u8 y51 y47.2.2.2.2.2))), z45.2.2.2.2.2.2.2.2.1, z45.2.2.2.2.2.2.2.2.2.1, z45.2.2.2.2.2.2.2.2.2.2.1, z45.2.2.2.2.2.2.2.2.2.2.2.1, z45.2.2.2.2.2.2.2.2.2.2.2.2.1, z45.2.2.2.2.2.2.2.2.2.2.2.2.2.1, z45.2.2.2.2.2.2.2.2.2.2.2.2.2.2))
  else
   if eqI y47.1 5 then
    (J1E (z45.2.2.2.2.2.2.2.2.2.2.2.1, y47.2.2.1)).bind fun y56 =>
    some (.inl (Jb .i64 z45.1 1, z45.2.1, z45.2.2.1, z45.2.2.2.1, z45.2.2.2.2.1, z45.2.2.2.2.2.1, z45.2.2.2.2.2.2.1, z45.2.2.2.2.2.2.2.1, z45.2.2.2.2.2.2.2.2.1, z45.2.2.2.2.2.2.2.2.2.1, z45.2.2.2.2.2.2.2.2.2.2.1, y56, z45.2.2.2.2.2.2.2.2.2.2.2.2.1, z45.2.2.2.2.2.2.2.2.2.2.2.2.2.1, z45.2.2.2.2.2.2.2.2.2.2.2.2.2.2))
   else
    if eqI y47.1 6 then
     some (.inl (Jb .i64 z45.1 1, z45.2.1, z45.2.2.1, z45.2.2.2.1, z45.2.2.2.2.1, z45.2.2.2.2.2.1, z45.2.2.2.2.2.2.1, z45.2.2.2.2.2.2.2.1, z45.2.2.2.2.2.2.2.2.1, z45.2.2.2.2.2.2.2.2.2.1, z45.2.2.2.2.2.2.2.2.2.2.1, z45.2.2.2.2.2.2.2.2.2.2.2.1, true, z45.2.2.2.2.2.2.2.2.2.2.2.2.2.1, z45.2.2.2.2.2.2.2.2.2.2.2.2.2.2))
    else
     some (.inl (Jb .i64 z45.1 1, z45.2.1, z45.2.2.1, z45.2.2.2.1, z45.2.2.2.2.1, z45.2.2.2.2.2.1, z45.2.2.2.2.2.2.1, z45.2.2.2.2.2.2.2.1, z45.2.2.2.2.2.2.2.2.1, z45.2.2.2.2.2.2.2.2.2.1, z45.2.2.2.2.2.2.2.2.2.2.1, z45.2.2.2.2.2.2.2.2.2.2.2.1, z45.2.2.2.2.2.2.2.2.2.2.2.2.1, z45.2.2.2.2.2.2.2.2.2.2.2.2.2.1, z45.2.2.2.2.2.2.2.2.2.2.2.2.2.2))
 else
  some (.inr ((z45.2.2.2.2.2.2.2.1, z45.2.2.2.2.2.2.2.2.2.2.1, z45.2.2.2.2.2.2.2.2.2.2.2.1, z45.2.2.2.2.2.2.2.2.2.2.2.2.1, z45.2.2.2.2.2.2.2.2.2.2.2.2.2.2), 0))
def J91 (z57 : Int × J6 × (List Ja) × (List (List UInt8)) × Int × (List Int) × Bool × (List (List UInt8)) × (List Ja) × (List Ja) × Int × (List Int) × Bool × (List Ja) × (List Ja)) : Option ((Int × J6 × (List Ja) × (List (List UInt8)) × Int × (List Int) × Bool × (List (List UInt8)) × (List Ja) × (List Ja) × Int × (List Int) × Bool × (List Ja) × (List Ja)) ⊕ (J6 × Int)) :=
 if ltI z57.1 (J8 z57.2.2.2.2.2.2.2.2.2.2.2.2.2.1) then
  (inb (List.length z57.2.2.2.2.2.2.2.2.2.2.2.2.2.1) z57.1).bind fun _ =>
  (lat z57.2.2.2.2.2.2.2.2.2.2.2.2.2.1 (Int.toNat z57.1)).bind fun y59 =>
  if eqI y59.1 4 then
   (inb (List.length z57.2.2.2.2.2.2.2.1) y59.2.2.1).bind fun _ =>
   (lat z57.2.2.2.2.2.2.2.1 (Int.toNat y59.2.2.1)).bind fun y61 =>
   (inb (List.length (toByt y61)) y59.2.2.2.2.1).bind fun _ =>
   (lat (toByt y61) (Int.toNat y59.2.2.2.2.1)).bind fun y63 =>
   (inb (List.length (toByt y61)) y59.2.2.2.2.1).bind fun _ =>
   (lat (toByt y61) (Int.toNat y59.2.2.2.2.1)).bind fun _ =>
   (inb (List.length z57.2.2.2.2.2.2.2.1) y59.2.2.1).bind fun _ =>
   (lat z57.2.2.2.2.2.2.2.1 (Int.toNat y59.2.2.1)).bind fun _ =>
   some (.inl (Jb .i64 z57.1 1, z57.2.1, z57.2.2.1, z57.2.2.2.1, z57.2.2.2.2.1, z57.2.2.2.2.2.1, z57.2.2.2.2.2.2.1, J2X z57.2.2.2.2.2.2.2.1 (Int.toNat y59.2.2.1) (toStr (J2X (toByt y61) (Int.toNat y59.2.2.2.2.1) (JhN .u8 y63 y59.2.2.2.2.2))), z57.2.2.2.2.2.2.2.2.1, z57.2.2.2.2.2.2.2.2.2.1, z57.2.2.2.2.2.2.2.2.2.2.1, z57.2.2.2.2.2.2.2.2.2.2.2.1, z57.2.2.2.2.2.2.2.2.2.2.2.2.1, z57.2.2.2.2.2.2.2.2.2.2.2.2.2.1, z57.2.2.2.2.2.2.2.2.2.2.2.2.2.2))
  else
   if eqI y59.1 5 then
    (J1E (z57.2.2.2.2.2.2.2.2.2.2.2.1, y59.2.2.1)).bind fun y68 =>
    some (.inl (Jb .i64 z57.1 1, z57.2.1, z57.2.2.1, z57.2.2.2.1, z57.2.2.2.2.1, z57.2.2.2.2.2.1, z57.2.2.2.2.2.2.1, z57.2.2.2.2.2.2.2.1, z57.2.2.2.2.2.2.2.2.1, z57.2.2.2.2.2.2.2.2.2.1, z57.2.2.2.2.2.2.2.2.2.2.1, y68, z57.2.2.2.2.2.2.2.2.2.2.2.2.1, z57.2.2.2.2.2.2.2.2.2.2.2.2.2.1, z57.2.2.2.2.2.2.2.2.2.2.2.2.2.2))
   else
    if eqI y59.1 6 then
     some (.inl (Jb .i64 z57.1 1, z57.2.1, z57.2.2.1, z57.2.2.2.1, z57.2.2.2.2.1, z57.2.2.2.2.2.1, z57.2.2.2.2.2.2.1, z57.2.2.2.2.2.2.2.1, z57.2.2.2.2.2.2.2.2.1, z57.2.2.2.2.2.2.2.2.2.1, z57.2.2.2.2.2.2.2.2.2.2.1, z57.2.2.2.2.2.2.2.2.2.2.2.1, true, z57.2.2.2.2.2.2.2.2.2.2.2.2.2.1, z57.2.2.2.2.2.2.2.2.2.2.2.2.2.2))
    else
     some (.inl (Jb .i64 z57.1 1, z57.2.1, z57.2.2.1, z57.2.2.2.1, z57.2.2.2.2.1, z57.2.2.2.2.2.1, z57.2.2.2.2.2.2.1, z57.2.2.2.2.2.2.2.1, z57.2.2.2.2.2.2.2.2.1, z57.2.2.2.2.2.2.2.2.2.1, z57.2.2.2.2.2.2.2.2.2.2.1, z57.2.2.2.2.2.2.2.2.2.2.2.1, z57.2.2.2.2.2.2.2.2.2.2.2.2.1, z57.2.2.2.2.2.2.2.2.2.2.2.2.2.1, z57.2.2.2.2.2.2.2.2.2.2.2.2.2.2))
 else
  some (.inr ((z57.2.2.2.2.2.2.2.1, z57.2.2.2.2.2.2.2.2.2.2.1, z57.2.2.2.2.2.2.2.2.2.2.2.1, z57.2.2.2.2.2.2.2.2.2.2.2.2.1, z57.2.2.2.2.2.2.2.2.2.2.2.2.2.2), 0))
def J6F (z10 : Int × (List UInt8) × Bool × Int × J6 × (List Ja) × (List (List UInt8)) × Int × (List Int) × Bool × (List (List UInt8)) × (List Ja) × (List Ja) × Int × (List Int) × Bool × (List Ja) × (List Ja)) : Option ((Int × (List UInt8) × Bool × Int × J6 × (List Ja) × (List (List UInt8)) × Int × (List Int) × Bool × (List (List UInt8)) × (List Ja) × (List Ja) × Int × (List Int) × Bool × (List Ja) × (List Ja)) ⊕ (J6 × Int)) :=
 if ltI z10.2.2.2.1 (J8 z10.2.2.2.2.2.2.2.2.2.2.2.2.2.2.2.2.1) then
  if J2x z10.2.2.1 then
   (inb (List.length z10.2.2.2.2.2.2.2.2.2.2.2.2.2.2.2.2.1) z10.2.2.2.1).bind fun _ =>
   (lat z10.2.2.2.2.2.2.2.2.2.2.2.2.2.2.2.2.1 (Int.toNat z10.2.2.2.1)).bind fun y12 =>
   if eqI y12.1 1 then
    some (.inl (z10.1, z10.2.1, true, Jb .i64 z10.2.2.2.1 1, z10.2.2.2.2.1, z10.2.2.2.2.2.1, z10.2.2.2.2.2.2.1, z10.2.2.2.2.2.2.2.1, z10.2.2.2.2.2.2.2.2.1, z10.2.2.2.2.2.2.2.2.2.1, z10.2.2.2.2.2.2.2.2.2.2.1, z10.2.2.2.2.2.2.2.2.2.2.2.1, z10.2.2.2.2.2.2.2.2.2.2.2.2.1, z10.2.2.2.2.2.2.2.2.2.2.2.2.2.1, z10.2.2.2.2.2.2.2.2.2.2.2.2.2.2.1, z10.2.2.2.2.2.2.2.2.2.2.2.2.2.2.2.1, z10.2.2.2.2.2.2.2.2.2.2.2.2.2.2.2.2.1, z10.2.2.2.2.2.2.2.2.2.2.2.2.2.2.2.2.2))
   else
    if eqI y12.1 2 then
     (inb (List.length z10.2.2.2.2.2.2.2.2.2.2.2.2.2.2.2.2.1) z10.2.2.2.1).bind fun _ =>
     (lat z10.2.2.2.2.2.2.2.2.2.2.2.2.2.2.2.2.1 (Int.toNat z10.2.2.2.1)).bind fun y14 =>
     (J1n (z10.2.2.2.2.2.2.2.2.2.2.2.2.2.1, z10.2.2.2.2.2.2.2.2.2.2.2.2.2.2.1, z10.2.2.2.2.2.2.2.2.2.2.2.2.2.2.2.1, y14.2.2.2.1, z10.2.1, 256, z10.2.2.2.2.2.2.2.2.2.2.1, z10.2.2.2.2.2.2.2.2.2.2.2.2.2.2.2.2.2)).bind fun y15 =>
     some (.inl (z10.1, z10.2.1, true, Jb .i64 z10.2.2.2.1 1, z10.2.2.2.2.1, z10.2.2.2.2.2.1, z10.2.2.2.2.2.2.1, z10.2.2.2.2.2.2.2.1, z10.2.2.2.2.2.2.2.2.1, z10.2.2.2.2.2.2.2.2.2.1, y15.2.2.2.1, z10.2.2.2.2.2.2.2.2.2.2.2.1, z10.2.2.2.2.2.2.2.2.2.2.2.2.1, y15.1, y15.2.1, y15.2.2.1, z10.2.2.2.2.2.2.2.2.2.2.2.2.2.2.2.2.1, y15.2.2.2.2))
    else
     if eqI y12.1 3 then
      (inb (List.length z10.2.2.2.2.2.2.2.2.2.2.2.2.2.2.2.2.1) z10.2.2.2.1).bind fun _ =>
      (lat z10.2.2.2.2.2.2.2.2.2.2.2.2.2.2.2.2.1 (Int.toNat z10.2.2.2.1)).bind fun y17 =>
      (J1n (z10.2.2.2.2.2.2.2.2.2.2.2.2.2.1, z10.2.2.2.2.2.2.2.2.2.2.2.2.2.2.1, z10.2.2.2.2.2.2.2.2.2.2.2.2.2.2.2.1, z10.1, z10.2.1, y17.2.2.2.2.1, z10.2.2.2.2.2.2.2.2.2.2.1, z10.2.2.2.2.2.2.2.2.2.2.2.2.2.2.2.2.2)).bind fun y18 =>
      some (.inl (z10.1, z10.2.1, true, Jb .i64 z10.2.2.2.1 1, z10.2.2.2.2.1, z10.2.2.2.2.2.1, z10.2.2.2.2.2.2.1, z10.2.2.2.2.2.2.2.1, z10.2.2.2.2.2.2.2.2.1, z10.2.2.2.2.2.2.2.2.2.1, y18.2.2.2.1, z10.2.2.2.2.2.2.2.2.2.2.2.1, z10.2.2.2.2.2.2.2.2.2.2.2.2.1, y18.1, y18.2.1, y18.2.2.1, z10.2.2.2.2.2.2.2.2.2.2.2.2.2.2.2.2.1, y18.2.2.2.2))
     else
      some (.inl (z10.1, z10.2.1, z10.2.2.1, Jb .i64 z10.2.2.2.1 1, z10.2.2.2.2.1, z10.2.2.2.2.2.1, z10.2.2.2.2.2.2.1, z10.2.2.2.2.2.2.2.1, z10.2.2.2.2.2.2.2.2.1, z10.2.2.2.2.2.2.2.2.2.1, z10.2.2.2.2.2.2.2.2.2.2.1, z10.2.2.2.2.2.2.2.2.2.2.2.1, z10.2.2.2.2.2.2.2.2.2.2.2.2.1, z10.2.2.2.2.2.2.2.2.2.2.2.2.2.1, z10.2.2.2.2.2.2.2.2.2.2.2.2.2.2.1, z10.2.2.2.2.2.2.2.2.2.2.2.2.2.2.2.1, z10.2.2.2.2.2.2.2.2.2.2.2.2.2.2.2.2.1, z10.2.2.2.2.2.2.2.2.2.2.2.2.2.2.2.2.2))
  else
   Option.map .inr (
    if J2x z10.2.2.1 then
     (J1n (z10.2.2.2.2.2.2.2.2.2.2.2.2.2.1, z10.2.2.2.2.2.2.2.2.2.2.2.2.2.2.1, z10.2.2.2.2.2.2.2.2.2.2.2.2.2.2.2.1, z10.1, z10.2.1, 256, z10.2.2.2.2.2.2.2.2.2.2.1, z10.2.2.2.2.2.2.2.2.2.2.2.2.2.2.2.2.2)).bind fun y19 =>
     JK (J2a) (0, z10.2.2.2.2.1, z10.2.2.2.2.2.1, z10.2.2.2.2.2.2.1, z10.2.2.2.2.2.2.2.1, z10.2.2.2.2.2.2.2.2.1, z10.2.2.2.2.2.2.2.2.2.1, y19.2.2.2.1, z10.2.2.2.2.2.2.2.2.2.2.2.1, z10.2.2.2.2.2.2.2.2.2.2.2.2.1, y19.1, y19.2.1, y19.2.2.1, z10.2.2.2.2.2.2.2.2.2.2.2.2.2.2.2.2.1, y19.2.2.2.2)
    else
     JK (J9k) (0, z10.2.2.2.2.1, z10.2.2.2.2.2.1, z10.2.2.2.2.2.2.1, z10.2.2.2.2.2.2.2.1, z10.2.2.2.2.2.2.2.2.1, z10.2.2.2.2.2.2.2.2.2.1, z10.2.2.2.2.2.2.2.2.2.2.1, z10.2.2.2.2.2.2.2.2.2.2.2.1, z10.2.2.2.2.2.2.2.2.2.2.2.2.1, z10.2.2.2.2.2.2.2.2.2.2.2.2.2.1, z10.2.2.2.2.2.2.2.2.2.2.2.2.2.2.1, z10.2.2.2.2.2.2.2.2.2.2.2.2.2.2.2.1, z10.2.2.2.2.2.2.2.2.2.2.2.2.2.2.2.2.1, z10.2.2.2.2.2.2.2.2.2.2.2.2.2.2.2.2.2))
 else
  Option.map .inr (
   if J2x z10.2.2.1 then
    (J1n (z10.2.2.2.2.2.2.2.2.2.2.2.2.2.1, z10.2.2.2.2.2.2.2.2.2.2.2.2.2.2.1, z10.2.2.2.2.2.2.2.2.2.2.2.2.2.2.2.1, z10.1, z10.2.1, 256, z10.2.2.2.2.2.2.2.2.2.2.1, z10.2.2.2.2.2.2.2.2.2.2.2.2.2.2.2.2.2)).bind fun y44 =>
    JK (J92) (0, z10.2.2.2.2.1, z10.2.2.2.2.2.1, z10.2.2.2.2.2.2.1, z10.2.2.2.2.2.2.2.1, z10.2.2.2.2.2.2.2.2.1, z10.2.2.2.2.2.2.2.2.2.1, y44.2.2.2.1, z10.2.2.2.2.2.2.2.2.2.2.2.1, z10.2.2.2.2.2.2.2.2.2.2.2.2.1, y44.1, y44.2.1, y44.2.2.1, z10.2.2.2.2.2.2.2.2.2.2.2.2.2.2.2.2.1, y44.2.2.2.2)
   else
    JK (J91) (0, z10.2.2.2.2.1, z10.2.2.2.2.2.1, z10.2.2.2.2.2.2.1, z10.2.2.2.2.2.2.2.1, z10.2.2.2.2.2.2.2.2.1, z10.2.2.2.2.2.2.2.2.2.1, z10.2.2.2.2.2.2.2.2.2.2.1, z10.2.2.2.2.2.2.2.2.2.2.2.1, z10.2.2.2.2.2.2.2.2.2.2.2.2.1, z10.2.2.2.2.2.2.2.2.2.2.2.2.2.1, z10.2.2.2.2.2.2.2.2.2.2.2.2.2.2.1, z10.2.2.2.2.2.2.2.2.2.2.2.2.2.2.2.1, z10.2.2.2.2.2.2.2.2.2.2.2.2.2.2.2.2.1, z10.2.2.2.2.2.2.2.2.2.2.2.2.2.2.2.2.2))
def J6V (z4 : Int × (List UInt8) × Int × J6 × (List Ja) × (List (List UInt8)) × Int × (List Int) × Bool × (List (List UInt8)) × (List Ja) × (List Ja) × Int × (List Int) × Bool × (List Ja) × (List Ja)) : Option ((Int × (List UInt8) × Int × J6 × (List Ja) × (List (List UInt8)) × Int × (List Int) × Bool × (List (List UInt8)) × (List Ja) × (List Ja) × Int × (List Int) × Bool × (List Ja) × (List Ja)) ⊕ (J6 × Int)) :=
 if ltI z4.2.2.1 (J8 z4.2.2.2.1.2.2.2.2) then
  (idx z4.2.2.2.1.2.2.2.2 z4.2.2.1).bind fun y5 =>
  if eqI y5.2.1 z4.2.2.2.2.2.2.2.2.2.2.2.2.1 then
   (idx z4.2.2.2.1.2.2.2.2 z4.2.2.1).bind fun y6 =>
   (J4j 48 z4.2.2.2.2.2.2.2.2.2.2.2.2.2.2.2.1 [y6]).bind fun y7 =>
   some (.inl (z4.1, z4.2.1, Jb .i64 z4.2.2.1 1, z4.2.2.2.1, z4.2.2.2.2.1, z4.2.2.2.2.2.1, z4.2.2.2.2.2.2.1, z4.2.2.2.2.2.2.2.1, z4.2.2.2.2.2.2.2.2.1, z4.2.2.2.2.2.2.2.2.2.1, z4.2.2.2.2.2.2.2.2.2.2.1, z4.2.2.2.2.2.2.2.2.2.2.2.1, z4.2.2.2.2.2.2.2.2.2.2.2.2.1, z4.2.2.2.2.2.2.2.2.2.2.2.2.2.1, z4.2.2.2.2.2.2.2.2.2.2.2.2.2.2.1, y7, z4.2.2.2.2.2.2.2.2.2.2.2.2.2.2.2.2))
  else
   (idx z4.2.2.2.1.2.2.2.2 z4.2.2.1).bind fun y8 =>
   (J4j 48 z4.2.2.2.2.2.2.2.2.2.2.2.2.2.2.2.2 [y8]).bind fun y9 =>
   some (.inl (z4.1, z4.2.1, Jb .i64 z4.2.2.1 1, z4.2.2.2.1, z4.2.2.2.2.1, z4.2.2.2.2.2.1, z4.2.2.2.2.2.2.1, z4.2.2.2.2.2.2.2.1, z4.2.2.2.2.2.2.2.2.1, z4.2.2.2.2.2.2.2.2.2.1, z4.2.2.2.2.2.2.2.2.2.2.1, z4.2.2.2.2.2.2.2.2.2.2.2.1, z4.2.2.2.2.2.2.2.2.2.2.2.2.1, z4.2.2.2.2.2.2.2.2.2.2.2.2.2.1, z4.2.2.2.2.2.2.2.2.2.2.2.2.2.2.1, z4.2.2.2.2.2.2.2.2.2.2.2.2.2.2.2.1, y9))
 else
  Option.map .inr (
   JK (J6F) (z4.1, z4.2.1, false, 0, z4.2.2.2.1, z4.2.2.2.2.1, z4.2.2.2.2.2.1, z4.2.2.2.2.2.2.1, z4.2.2.2.2.2.2.2.1, z4.2.2.2.2.2.2.2.2.1, z4.2.2.2.2.2.2.2.2.2.1, z4.2.2.2.2.2.2.2.2.2.2.1, z4.2.2.2.2.2.2.2.2.2.2.2.1, z4.2.2.2.2.2.2.2.2.2.2.2.2.1, z4.2.2.2.2.2.2.2.2.2.2.2.2.2.1, z4.2.2.2.2.2.2.2.2.2.2.2.2.2.2.1, z4.2.2.2.2.2.2.2.2.2.2.2.2.2.2.2.1, z4.2.2.2.2.2.2.2.2.2.2.2.2.2.2.2.2))
def J1l (x1 : J6 × Int × (List UInt8)) : Option (J6 × Int) :=
 (J1a (x1.1, x1.2.1)).bind fun y2 =>
 if neI y2 0 then
  some (([], 0, [], false, []), y2)
 else
  if neI (J8 x1.2.2) 256 then
   some (([], 0, [], false, []), 2)
  else
   if eqI x1.1.2.1 1099511627776 then
    some (([], 0, [], false, []), 21)
   else
    (J0U x1.1).bind fun y3 =>
    JK (J6V) (x1.2.1, x1.2.2, 0, x1.1, [], [], 0, [], false, y3.2.2.2.1, y3.2.2.2.2, [], Jb .i64 y3.1 1, y3.2.1, y3.2.2.1, [], [])
theorem Jh4 (x) : onO (J0b J4r x) (fun y => J0x (TG.of [sigE J0R J2q J1a, sigE J0k J1i J0U, sigE J1k J4s J1n, sigE J3b J4N J1E]) J5T y.1 y.2 (JR J4r)) = J1l x := by kernel_rfl
def JU (z16 : Int × J5 × J6 × J6 × J6 × J6) : Option ((Int × J5 × J6 × J6 × J6 × J6) ⊕ ((J5 × J6 × J6) ⊕ Bool)) :=
 if ltI z16.1 3 then
  (J0i (z16.2.2.1, z16.1)).bind fun y17 =>
  (J17 (z16.2.2.2.1, z16.1)).bind fun y18 =>
  if neS y17.1 y18.1 = false then
   if neI y17.2 y18.2 then
    Option.map .inr (
     some (.inr false))
   else
    some (.inl (Jb .i64 z16.1 1, z16.2.1, z16.2.2.1, z16.2.2.2.1, z16.2.2.2.2.1, z16.2.2.2.2.2))
  else
   Option.map .inr (
    some (.inr false))
 else
  some (.inr (.inl (z16.2.1, z16.2.2.1, z16.2.2.2.1)))
def J6n (z19 : Int × J5 × J6 × J6 × J6 × J6) : Option ((Int × J5 × J6 × J6 × J6 × J6) ⊕ ((J5 × J6 × J6) ⊕ Bool)) :=
 if ltI z19.1 3 then
  (J0i (z19.2.2.1, z19.1)).bind fun y20 =>
  (J17 (z19.2.2.2.1, z19.1)).bind fun y21 =>
  if neS y20.1 y21.1 = false then
   if neI y20.2 y21.2 then
    Option.map .inr (
     some (.inr false))
   else
    some (.inl (Jb .i64 z19.1 1, z19.2.1, z19.2.2.1, z19.2.2.2.1, z19.2.2.2.2.1, z19.2.2.2.2.2))
  else
   Option.map .inr (
    some (.inr false))
 else
  some (.inr (.inl (z19.2.1, z19.2.2.1, z19.2.2.2.1)))
def J6y (z26 : Int × J5 × J6 × J6 × J6 × J6) : Option ((Int × J5 × J6 × J6 × J6 × J6) ⊕ ((J5 × J6 × J6) ⊕ Bool)) :=
 if ltI z26.1 3 then
  (J0i (z26.2.2.1, z26.1)).bind fun y27 =>
  (J17 (z26.2.2.2.1, z26.1)).bind fun y28 =>
  if neS y27.1 y28.1 = false then
   if neI y27.2 y28.2 then
    Option.map .inr (
     some (.inr false))
   else
    some (.inl (Jb .i64 z26.1 1, z26.2.1, z26.2.2.1, z26.2.2.2.1, z26.2.2.2.2.1, z26.2.2.2.2.2))
  else
   Option.map .inr (
    some (.inr false))
 else
  some (.inr (.inl (z26.2.1, z26.2.2.1, z26.2.2.2.1)))
def J6r (z29 : Int × J5 × J6 × J6 × J6 × J6) : Option ((Int × J5 × J6 × J6 × J6 × J6) ⊕ ((J5 × J6 × J6) ⊕ Bool)) :=
 if ltI z29.1 3 then
  (J0i (z29.2.2.1, z29.1)).bind fun y30 =>
  (J17 (z29.2.2.2.1, z29.1)).bind fun y31 =>
  if neS y30.1 y31.1 = false then
   if neI y30.2 y31.2 then
    Option.map .inr (
     some (.inr false))
   else
    some (.inl (Jb .i64 z29.1 1, z29.2.1, z29.2.2.1, z29.2.2.2.1, z29.2.2.2.2.1, z29.2.2.2.2.2))
  else
   Option.map .inr (
    some (.inr false))
 else
  some (.inr (.inl (z29.2.1, z29.2.2.1, z29.2.2.2.1)))
def J6w (z36 : Int × J5 × J6 × J6 × J6 × J6) : Option ((Int × J5 × J6 × J6 × J6 × J6) ⊕ ((J5 × J6 × J6) ⊕ Bool)) :=
 if ltI z36.1 3 then
  (J0i (z36.2.2.1, z36.1)).bind fun y37 =>
  (J17 (z36.2.2.2.1, z36.1)).bind fun y38 =>
  if neS y37.1 y38.1 = false then
   if neI y37.2 y38.2 then
    Option.map .inr (
     some (.inr false))
   else
    some (.inl (Jb .i64 z36.1 1, z36.2.1, z36.2.2.1, z36.2.2.2.1, z36.2.2.2.2.1, z36.2.2.2.2.2))
  else
   Option.map .inr (
    some (.inr false))
 else
  some (.inr (.inl (z36.2.1, z36.2.2.1, z36.2.2.2.1)))
def J6x (z39 : Int × J5 × J6 × J6 × J6 × J6) : Option ((Int × J5 × J6 × J6 × J6 × J6) ⊕ ((J5 × J6 × J6) ⊕ Bool)) :=
 if ltI z39.1 3 then
  (J0i (z39.2.2.1, z39.1)).bind fun y40 =>
  (J17 (z39.2.2.2.1, z39.1)).bind fun y41 =>
  if neS y40.1 y41.1 = false then
   if neI y40.2 y41.2 then
    Option.map .inr (
     some (.inr false))
   else
    some (.inl (Jb .i64 z39.1 1, z39.2.1, z39.2.2.1, z39.2.2.2.1, z39.2.2.2.2.1, z39.2.2.2.2.2))
  else
   Option.map .inr (
    some (.inr false))
 else
  some (.inr (.inl (z39.2.1, z39.2.2.1, z39.2.2.2.1)))
def J6u (z6 : J5 × J6 × J6) : Option ((J5 × J6 × J6) ⊕ Bool) :=
 (J2f z6.1).bind fun y7 =>
 if gtI y7.1 0 then
  (J7 (3, y7.2)).bind fun y8 =>
  if eqI y8.1 0 then
   (J0p (3, z6.2.2.2.1, y8.2)).bind fun y9 =>
   (J0V (z6.2.1, y9.1)).bind fun y10 =>
   (J2r (z6.2.2, y9.1)).bind fun y11 =>
   if neI y10.2 y11.2 then
    some (.inr false)
   else
    if eqI y10.2 0 then
     (J7 (3, y9.2)).bind fun y12 =>
     (J0o y12.2).bind fun y13 =>
     (J01 (y10.1, y12.1, y13.1)).bind fun y14 =>
     (J1l (y11.1, y12.1, y13.1)).bind fun y15 =>
     if neI y14.2 y15.2 then
      some (.inr false)
     else
      if eqI y14.2 0 then
       JK (JU) (0, y13.2, y14.1, y15.1, y14.1, y15.1)
      else
       JK (J6n) (0, y13.2, y10.1, y11.1, y14.1, y15.1)
    else
     (J7 (3, y9.2)).bind fun y22 =>
     (J0o y22.2).bind fun y23 =>
     (J01 (z6.2.1, y22.1, y23.1)).bind fun y24 =>
     (J1l (z6.2.2, y22.1, y23.1)).bind fun y25 =>
     if neI y24.2 y25.2 then
      some (.inr false)
     else
      if eqI y24.2 0 then
       JK (J6y) (0, y23.2, y24.1, y25.1, y24.1, y25.1)
      else
       JK (J6r) (0, y23.2, z6.2.1, z6.2.2, y24.1, y25.1)
  else
   (J7 (3, y8.2)).bind fun y32 =>
   (J0o y32.2).bind fun y33 =>
   (J01 (z6.2.1, y32.1, y33.1)).bind fun y34 =>
   (J1l (z6.2.2, y32.1, y33.1)).bind fun y35 =>
   if neI y34.2 y35.2 then
    some (.inr false)
   else
    if eqI y34.2 0 then
     JK (J6w) (0, y33.2, y34.1, y35.1, y34.1, y35.1)
    else
     JK (J6x) (0, y33.2, z6.2.1, z6.2.2, y34.1, y35.1)
 else
  some (.inr true)
def J3k (x1 : List Int) : Option (Bool) :=
 (J2L ()).bind fun y2 =>
 if J2x y2 then
  some false
 else
  (J4l (x1, 400)).bind fun y3 =>
  (J1I 3).bind fun y4 =>
  (J3K 3).bind fun y5 =>
  JK (J6u) (y3, y4.1, y5.1)
theorem JaR (x) : onO (J0b J4B x) (fun y => J0x (TG.of [sigE J2I J4q J2L, sigE J4o J6G J4l, sigE J1G J3d J1I, sigE J34 J5M J3K, sigE J1A J2N J2f, sigE i_draw_Codes_Next g_draw_Codes_Next J7, sigE JX J0E J0p, sigE J0Y J20 J0V, sigE J1T J41 J2r, sigE J10 J2A J0o, sigE J1b J48 J01, sigE J2g J4r J1l, sigE J1o J2F J0i, sigE J3a J4U J17]) J3h y.1 y.2 (JR J4B)) = J3k x := by kernel_rfl
end
end Go.Am
end
section
namespace Go.Am
def Tot {ρ : Type} (o : Option ρ) (Q : ρ → Prop) : Prop := ∃ r, o = some r ∧ Q r
section
variable {α β ρ σ τ : Type} {Q : ρ → Prop}
theorem Tot.bind {P : α → Prop} {o : Option α} {f : α → Option ρ} (h : Tot o P) (h2 : ∀ r, P r → Tot (f r) Q) : Tot (o.bind f) Q := by
 obtain ⟨r, rfl, hq⟩ := h
 exact h2 r hq
theorem Tot.some {r : ρ} (h : Q r) : Tot (some r) Q := ⟨r, rfl, h⟩
theorem Tot.mono {P : ρ → Prop} {o : Option ρ} (h : Tot o P) (h2 : ∀ r, P r → Q r) : Tot o Q := by
 obtain ⟨r, e, hq⟩ := h
 exact ⟨r, e, h2 r hq⟩
theorem Tot.map {P : α → Prop} {o : Option α} {f : α → ρ} (h : Tot o P) (h2 : ∀ r, P r → Q (f r)) : Tot (Option.map f o) Q := by
 obtain ⟨r, rfl, hq⟩ := h
 exact ⟨f r, rfl, h2 r hq⟩
theorem Tot.get {o : Option ρ} {r : ρ} (h : Tot o Q) (e : o = Option.some r) : Q r := by
 obtain ⟨r', e', h⟩ := h
 rw [e] at e'; injection e' with e'; subst e'; exact h
variable {u v : Option ρ}
theorem Tot.ite {c : Bool} (h1 : c = true → Tot u Q) (h2 : c = false → Tot v Q) : Tot (if c = true then u else v) Q := by
 cases c with
 | true => exact h1 rfl
 | false => exact h2 rfl
theorem Tot.itf {c : Bool} (h1 : c = false → Tot u Q) (h2 : c = true → Tot v Q) : Tot (if c = false then u else v) Q := by
 cases c with
 | true => exact h2 rfl
 | false => exact h1 rfl
theorem Tot.not {c : Bool} (h1 : c = false → Tot u Q) (h2 : c = true → Tot v Q) : Tot (if J2x c = true then u else v) Q := by
 cases c with
 | true => exact h2 rfl
 | false => exact h1 rfl
theorem Tot.nof {c : Bool} (h1 : c = true → Tot u Q) (h2 : c = false → Tot v Q) : Tot (if J2x c = false then u else v) Q := by
 cases c with
 | true => exact h1 rfl
 | false => exact h2 rfl
variable {a c : Int}
theorem J6A : ltI a c = true ↔ a < c := by simp [ltI]
theorem Jc0 : gtI a c = true ↔ c < a := by simp [gtI]
theorem Jch : leI a c = true ↔ a ≤ c := by simp [leI]
theorem J7h : geI a c = true ↔ c ≤ a := by simp [geI]
theorem Jki : eqI a c = true ↔ a = c := by simp [eqI]
theorem J9Q : neI a c = true ↔ ¬a = c := by simp [neI]
theorem Tot.by {p : Prop} {x : Bool} (hp : x = true ↔ p) (h1 : p → Tot u Q) (h2 : ¬p → Tot v Q) : Tot (if x = true then u else v) Q := .ite (fun h => h1 (hp.1 h)) fun h => h2 fun h3 => by rw [hp.2 h3] at h; cases h
theorem Tot.byf {p : Prop} {x : Bool} (hp : x = true ↔ p) (h1 : ¬p → Tot u Q) (h2 : p → Tot v Q) : Tot (if x = false then u else v) Q := .itf (fun h => h1 fun h3 => by rw [hp.2 h3] at h; cases h) fun h => h2 (hp.1 h)
theorem Tot.lt (h1 : a < c → Tot u Q) (h2 : ¬a < c → Tot v Q) : Tot (if ltI a c = true then u else v) Q := .by J6A h1 h2
theorem Tot.gt (h1 : c < a → Tot u Q) (h2 : ¬c < a → Tot v Q) : Tot (if gtI a c = true then u else v) Q := .by Jc0 h1 h2
theorem Tot.le (h1 : a ≤ c → Tot u Q) (h2 : ¬a ≤ c → Tot v Q) : Tot (if leI a c = true then u else v) Q := .by Jch h1 h2
theorem Tot.ge (h1 : c ≤ a → Tot u Q) (h2 : ¬c ≤ a → Tot v Q) : Tot (if geI a c = true then u else v) Q := .by J7h h1 h2
theorem Tot.eq (h1 : a = c → Tot u Q) (h2 : ¬a = c → Tot v Q) : Tot (if eqI a c = true then u else v) Q := .by Jki h1 h2
theorem Tot.ne (h1 : ¬a = c → Tot u Q) (h2 : a = c → Tot v Q) : Tot (if neI a c = true then u else v) Q := .by J9Q h1 (fun h => h2 (Decidable.of_not_not h))
theorem Tot.ltf (h1 : ¬a < c → Tot u Q) (h2 : a < c → Tot v Q) : Tot (if ltI a c = false then u else v) Q := .byf J6A h1 h2
theorem Tot.gtf (h1 : ¬c < a → Tot u Q) (h2 : c < a → Tot v Q) : Tot (if gtI a c = false then u else v) Q := .byf Jc0 h1 h2
theorem Tot.lef (h1 : ¬a ≤ c → Tot u Q) (h2 : a ≤ c → Tot v Q) : Tot (if leI a c = false then u else v) Q := .byf Jch h1 h2
theorem Tot.gef (h1 : ¬c ≤ a → Tot u Q) (h2 : c ≤ a → Tot v Q) : Tot (if geI a c = false then u else v) Q := .byf J7h h1 h2
theorem Tot.nef (h1 : a = c → Tot u Q) (h2 : ¬a = c → Tot v Q) : Tot (if neI a c = false then u else v) Q := .byf J9Q (fun h => h1 (Decidable.of_not_not h)) h2
end
def Ty.fit (B S : Int) : (t : Ty) → t.D → Prop
 | .b, _ => True
 | .i k, z => k.min ≤ z ∧ z ≤ k.max
 | .s, z => J8 (α := UInt8) z ≤ S
 | .l t, z => J8 (α := t.D) z ≤ B ∧ ∀ x ∈ (z : List t.D), t.fit B S x
 | .pr a c, x => a.fit B S x.1 ∧ c.fit B S x.2
 | .ar n t, v => ∀ (i : Nat) (h : i < n), t.fit B S ((v : Vector t.D n)[i])
 | .u, _ => True
 | .f, _ => True
theorem Ty.fit.up {B S B' S' : Int} (h1 : B ≤ B') (h2 : S ≤ S') : ∀ {t : Ty} {x : t.D}, t.fit B S x → t.fit B' S' x
 | .b, _, _ => trivial
 | .i _, _, h => h
 | .s, _, h => Int.le_trans h h2
 | .l _, _, h => ⟨Int.le_trans h.1 h1, fun x hx => (h.2 x hx).up h1 h2⟩
 | .pr _ _, _, h => ⟨h.1.up h1 h2, h.2.up h1 h2⟩
 | .ar _ _, _, h => fun i hi => (h i hi).up h1 h2
 | .u, _, _ => trivial
 | .f, _, _ => trivial
section
variable {α : Type} {l : List α}
theorem J2l : 0 ≤ J8 l := Int.natCast_nonneg _
theorem Joc : J8 ([] : List α) = 0 := rfl
theorem Jda {x : α} : J8 [x] = 1 := rfl
theorem Jau {m : List α} : J8 (l ++ m) = J8 l + J8 m := by simp [J8]
end
theorem wrap64 (n : Int) : IntKind.i64.wrap n = (n + 9223372036854775808) % 18446744073709551616 - 9223372036854775808 := by
 simp [IntKind.wrap, IntKind.bits, IntKind.signed]
 omega
theorem JpW (k : IntKind) (n : Int) : k.min ≤ k.wrap n ∧ k.wrap n ≤ k.max := by
 cases k <;> simp [IntKind.wrap, IntKind.min, IntKind.max, IntKind.bits, IntKind.signed] <;> omega
theorem Jcf (a b : Int) : Jb .i64 a b = (a + b + 9223372036854775808) % 18446744073709551616 - 9223372036854775808 := wrap64 _
theorem JpM (a b : Int) : J4h .i64 a b = (a - b + 9223372036854775808) % 18446744073709551616 - 9223372036854775808 := wrap64 _
theorem JsJ (a b : Int) : Ji8 .i64 a b = (a * b + 9223372036854775808) % 18446744073709551616 - 9223372036854775808 := wrap64 _
theorem Jsr (a : Int) : cvI .i64 a = (a + 9223372036854775808) % 18446744073709551616 - 9223372036854775808 := wrap64 _
section
variable {B S : Int} {k : IntKind} {a b : Int}
theorem JsU (k : IntKind) (n : Int) (h : k.min ≤ n ∧ n ≤ k.max := by decide) : Ty.fit B S (.i k) n := h
end
section
variable {B S : Int} {t : Ty}
theorem Jsh {α : Type} {l : List α} {k : Int} (h0 : 0 ≤ k) (h1 : k ≤ J8 l) : Tot (J8z l none (some k)) fun r => r = l.take k.toNat ∧ J8 r = k := by
 refine ⟨l.take k.toNat, ?_, rfl, ?_⟩
 ·unfold J8z JfM JhZ
  unfold J8 at h1
  simp only [if_pos (And.intro h0 h1)]
  simp
 ·unfold J8 at *; rw [List.length_take]; omega
theorem Jsl {α : Type} {l : List α} {k : Int} (h0 : 0 ≤ k) (h1 : k ≤ J8 l) : Tot (J8z l (some k) none) fun r => r = l.drop k.toNat ∧ J8 r = J8 l - k := by
 refine ⟨l.drop k.toNat, ?_, rfl, ?_⟩
 ·unfold J8z JfM JhZ
  unfold J8 at h1
  simp only [if_pos (And.intro h0 h1)]
  rw [List.take_of_length_le]
  simp
 ·unfold J8 at *; rw [List.length_drop]; omega
theorem Jtc {bytes : Nat} {n m : Int} {z : t.D} (hz : t.fit B S z) (h0 : 0 ≤ n := by omega) (h1 : n ≤ m := by omega) (h2 : m ≤ 34359738368 := by omega) (hn : n ≤ B := by omega) (hb : bytes ≤ 2048 := by decide) : Tot (mkS bytes n m z) fun r => Ty.fit B S (.l t) r ∧ J8 r = n := by
 refine ⟨List.replicate n.toNat z, ?_, ⟨?_, fun x hx => ?_⟩, ?_⟩
 ·unfold mkS
  have : (bytes : Int) * m ≤ 2048 * 34359738368 := Int.le_trans (Int.mul_le_mul_of_nonneg_right (by omega) (by omega)) (Int.mul_le_mul_of_nonneg_left h2 (by omega))
  rw [if_pos ⟨h0, h1, by omega, by omega⟩]
 ·unfold J8; rw [List.length_replicate]; omega
 ·rw [List.eq_of_mem_replicate hx]; exact hz
 ·unfold J8; rw [List.length_replicate]; omega
theorem JpG {x y : Int} (h : ¬y = 0) : Tot (JbA x y) fun r => r = x.tmod y := ⟨_, by unfold JbA; rw [if_neg h], rfl⟩
theorem JsO {n : Nat} {i : Int} (h0 : 0 ≤ i := by omega) (h1 : i < n := by omega) : Tot (inb n i) fun _ => True := ⟨(), by unfold inb; rw [if_pos ⟨h0, h1⟩], trivial⟩
theorem JiB {α : Type} {l : List α} {i : Nat} {x : α} : J8 (J2X l i x) = J8 l := by unfold J2X J8; rw [List.length_set]
theorem Jmo {l : List Int} : J8 (toStr l) = J8 l := by unfold toStr J8; rw [List.length_map]
end
theorem Ty.fit.u {B S B' S' : Int} {t : Ty} {x : t.D} (h : t.fit B S x) (h1 : B ≤ B' := by omega) (h2 : S ≤ S' := by omega) : t.fit B' S' x := h.up h1 h2
theorem Tot.inr {σ ρ : Type} {o : Option ρ} {Q : σ ⊕ ρ → Prop} (h : Tot o fun y => Q (.inr y)) : Tot (Option.map .inr o) Q := h.map fun _ h => h
section
variable {B S : Int} {t : Ty}
theorem J5Z {α : Type} {l : List α} {i : Int} (h0 : 0 ≤ i := by omega) (h1 : i < J8 l := by omega) : Tot (inb l.length i) fun _ => True := JsO h0 h1
theorem Jky {x y : Int} (h : 0 ≤ x) : x.tmod y ≤ x := by
 obtain ⟨m, rfl⟩ := Int.eq_ofNat_of_zero_le h
 cases y with
 | ofNat n => show ((m % n : Nat) : Int) ≤ m; exact Int.ofNat_le.2 (Nat.mod_le _ _)
 | negSucc n => show ((m % (n + 1) : Nat) : Int) ≤ m; exact Int.ofNat_le.2 (Nat.mod_le _ _)
theorem Jc4 {x y : Int} : (0 ≤ x → 0 ≤ x.tmod y) ∧ (0 < y → x.tmod y < y) ∧ (x ≤ 0 → x.tmod y ≤ 0) ∧ (0 ≤ x → x.tmod y ≤ x) ∧ (x ≤ 0 → x ≤ x.tmod y) := by
 refine ⟨fun h => Int.tmod_nonneg _ h, fun h => Int.tmod_lt_of_pos _ h, fun h => ?_, fun h => ?_, fun h => ?_⟩
 ·have := Int.tmod_nonneg (a := -x) y (by omega)
  rw [Int.neg_tmod] at this; omega
 ·exact Jky h
 ·have h2 : (-x).tmod y ≤ -x := Jky (by omega)
  rw [Int.neg_tmod] at h2; omega
end
theorem J7C {σ τ ρ : Type} {L : σ → Option (σ ⊕ ρ)} {Q : ρ → Prop} (e : τ → σ) (I : τ → Prop) (m : τ → Int)
  (h : ∀ c, I c → Tot (L (e c)) fun r => match r with | .inl z => ∃ c', z = e c' ∧ I c' ∧ m c' < m c ∧ 0 ≤ m c | .inr y => Q y) {z : σ} (c : τ) (hz : z = e c) (hI : I c) : Tot (JK L z) Q := by
 subst hz
 have key : ∀ (n : Nat) (c : τ), (m c + 1).toNat < n → I c → Tot (JK L (e c)) Q := by
  intro n
  induction n with
  | zero => intro c h1; omega
  | succ n ih =>
   intro c h1 hI
   obtain ⟨r, h2, h3⟩ := h c hI
   cases r with
   | inl z =>
    obtain ⟨c', rfl, h4, h5, h6⟩ := h3
    rw [Jmc h2]
    exact ih c' (by omega) h4
   | inr y => rw [Jlr h2]; exact ⟨y, rfl, h3⟩
 exact key _ c (Nat.lt_succ_self _) hI
def Ty.nl : Ty → Bool
 | .l _ => false
 | .pr a c => a.nl && c.nl
 | .ar _ t => t.nl
 | _ => true
theorem Ty.fit.z' {B S : Int} : ∀ {t : Ty} {x : t.D}, t.nl = true → Ty.fit B S t x → Ty.fit 0 S t x
 | .b, _, _, _ => trivial
 | .i _, _, _, h => h
 | .s, _, _, h => h
 | .l _, _, n, _ => by cases n
 | .pr a c, _, n, h => by
  have n : (a.nl && c.nl) = true := n
  rw [Bool.and_eq_true] at n
  exact ⟨Ty.fit.z' n.1 h.1, Ty.fit.z' n.2 h.2⟩
 | .ar _ _, _, n, h => fun i hi => Ty.fit.z' n (h i hi)
 | .u, _, _, _ => trivial
 | .f, _, _, _ => trivial
theorem Ty.fit.z {B S : Int} {t : Ty} {x : t.D} (h : Ty.fit B S t x) (n : t.nl = true := by rfl) : Ty.fit 0 S t x := Ty.fit.z' n h
theorem oo {p : Prop} (h : p := by omega) : p := h
end Go.Am
end
section
namespace Go.Am
theorem Tot.eqn {ρ : Type} {o : Option ρ} {Q : ρ → Prop} (h : Tot o Q) : Tot o fun r => Q r ∧ o = Option.some r := by
 obtain ⟨r, e, h⟩ := h
 exact ⟨r, e, h, e⟩
theorem Tot.same {α ρ : Type} {o : Option α} {f : α → Option ρ} {w : α} {Q : ρ → Prop} (e : o = Option.some w) (h : Tot (f w) Q) : Tot (o.bind f) Q := by
 rw [e]; exact h
def Par {ρ : Type} (o : Option ρ) (Q : ρ → Prop) : Prop := ∀ r, o = Option.some r → Q r
section
variable {α β ρ σ : Type} {Q : ρ → Prop} {u v : Option ρ}
theorem Par.bind {o : Option α} {f : α → Option ρ} (h : ∀ a, o = Option.some a → Par (f a) Q) : Par (o.bind f) Q := by
 intro r hr
 cases o with
 | none => cases hr
 | some a => exact h a rfl r hr
theorem Par.map {o : Option α} {f : α → ρ} (h : Par o fun a => Q (f a)) : Par (Option.map f o) Q := by
 intro r hr
 cases o with
 | none => cases hr
 | some a => injection hr with hr; subst hr; exact h a rfl
theorem Par.some {r : ρ} (h : Q r) : Par (Option.some r) Q := by
 intro r' e; injection e with e; subst e; exact h
theorem Par.none : Par (Option.none : Option ρ) Q := by
 intro r e; cases e
theorem Par.mono {o : Option ρ} {P : ρ → Prop} (h : Par o P) (h2 : ∀ r, P r → Q r) : Par o Q := fun r e => h2 r (h r e)
theorem Par.ite {c : Bool} (h1 : c = true → Par u Q) (h2 : c = false → Par v Q) : Par (if c = true then u else v) Q := by
 cases c with
 | true => exact h1 rfl
 | false => exact h2 rfl
theorem Par.itf {c : Bool} (h1 : c = false → Par u Q) (h2 : c = true → Par v Q) : Par (if c = false then u else v) Q := by
 cases c with
 | true => exact h2 rfl
 | false => exact h1 rfl
theorem Par.not {c : Bool} (h1 : c = false → Par u Q) (h2 : c = true → Par v Q) : Par (if J2x c = true then u else v) Q := by
 cases c with
 | true => exact h2 rfl
 | false => exact h1 rfl
theorem Par.nof {c : Bool} (h1 : c = true → Par u Q) (h2 : c = false → Par v Q) : Par (if J2x c = false then u else v) Q := by
 cases c with
 | true => exact h1 rfl
 | false => exact h2 rfl
variable {a c : Int}
theorem Par.by {p : Prop} {x : Bool} (hp : x = true ↔ p) (h1 : p → Par u Q) (h2 : ¬p → Par v Q) : Par (if x = true then u else v) Q := .ite (fun h => h1 (hp.1 h)) fun h => h2 fun h3 => by rw [hp.2 h3] at h; cases h
theorem Par.byf {p : Prop} {x : Bool} (hp : x = true ↔ p) (h1 : ¬p → Par u Q) (h2 : p → Par v Q) : Par (if x = false then u else v) Q := .itf (fun h => h1 fun h3 => by rw [hp.2 h3] at h; cases h) fun h => h2 (hp.1 h)
theorem Par.lt (h1 : a < c → Par u Q) (h2 : ¬a < c → Par v Q) : Par (if ltI a c = true then u else v) Q := .by J6A h1 h2
theorem Par.gt (h1 : c < a → Par u Q) (h2 : ¬c < a → Par v Q) : Par (if gtI a c = true then u else v) Q := .by Jc0 h1 h2
theorem Par.le (h1 : a ≤ c → Par u Q) (h2 : ¬a ≤ c → Par v Q) : Par (if leI a c = true then u else v) Q := .by Jch h1 h2
theorem Par.ge (h1 : c ≤ a → Par u Q) (h2 : ¬c ≤ a → Par v Q) : Par (if geI a c = true then u else v) Q := .by J7h h1 h2
theorem Par.eq (h1 : a = c → Par u Q) (h2 : ¬a = c → Par v Q) : Par (if eqI a c = true then u else v) Q := .by Jki h1 h2
theorem Par.ne (h1 : ¬a = c → Par u Q) (h2 : a = c → Par v Q) : Par (if neI a c = true then u else v) Q := .by J9Q h1 (fun h => h2 (Decidable.of_not_not h))
theorem Par.ltf (h1 : ¬a < c → Par u Q) (h2 : a < c → Par v Q) : Par (if ltI a c = false then u else v) Q := .byf J6A h1 h2
theorem Par.gtf (h1 : ¬c < a → Par u Q) (h2 : c < a → Par v Q) : Par (if gtI a c = false then u else v) Q := .byf Jc0 h1 h2
theorem Par.lef (h1 : ¬a ≤ c → Par u Q) (h2 : a ≤ c → Par v Q) : Par (if leI a c = false then u else v) Q := .byf Jch h1 h2
theorem Par.gef (h1 : ¬c ≤ a → Par u Q) (h2 : c ≤ a → Par v Q) : Par (if geI a c = false then u else v) Q := .byf J7h h1 h2
theorem Par.nef (h1 : a = c → Par u Q) (h2 : ¬a = c → Par v Q) : Par (if neI a c = false then u else v) Q := .byf J9Q (fun h => h1 (Decidable.of_not_not h)) h2
end
theorem Jnt {α : Type} {l : List α} {i : Int} {r : α} (h : idx l i = Option.some r) : 0 ≤ i ∧ l[i.toNat]? = Option.some r := by
 unfold idx at h; split at h
 ·exact ⟨by assumption, h⟩
 ·cases h
def J8O {α : Type} (P : α → Prop) (l : List α) (i : Int) : Prop := 0 ≤ i ∧ ∀ x ∈ l.take i.toNat, P x
theorem J7D {α : Type} {P : α → Prop} {l : List α} : J8O P l 0 := ⟨by omega, fun x h => by simp at h⟩
theorem J50 {α : Type} {P : α → Prop} {l : List α} {i j : Int} {x : α} (h : J8O P l i) (e : idx l i = Option.some x) (hx : P x) (hj : j = i + 1) : J8O P l j := by
 obtain ⟨h0, h⟩ := h
 obtain ⟨_, e⟩ := Jnt e
 subst hj
 refine ⟨by omega, fun y hy => ?_⟩
 have : (i + 1).toNat = i.toNat + 1 := by omega
 rw [this, List.take_add_one, e] at hy
 rcases List.mem_append.1 hy with hy | hy
 ·exact h y hy
 ·simp at hy; subst hy; exact hx
theorem J6b {α : Type} {P : α → Prop} {l : List α} {i : Int} (h : J8O P l i) (hi : ¬i < J8 l) : ∀ x ∈ l, P x := fun x hx => h.2 x (by
 rw [List.take_of_length_le]
 ·exact hx
 ·unfold J8 at hi; omega)
end Go.Am
end
section
namespace Go.Am
set_option maxRecDepth 20000
set_option linter.unusedVariables false
theorem J2j {ρ : Type} {o : Option ρ} {v : ρ} (h : Tot o fun y => y = v) : o = Option.some v := by obtain ⟨y, e, rfl⟩ := h; exact e
theorem Jn {ρ : Type} {o : Option ρ} {v : ρ} (h : o = Option.some v) : Tot o fun y => y = v := ⟨v, h, rfl⟩
structure J4Z (c : J5) : Prop where
 at0 : 0 ≤ c.2
 len : J8 c.1 ≤ 1000000
 byte : ∀ a ∈ c.1, 0 ≤ a ∧ a ≤ 255
 hi : c.2 ≤ J8 c.1
structure J6L (c d : J5) : Prop where
 list : d.1 = c.1
 mono : c.2 ≤ d.2
 hi : c.2 ≤ J8 c.1 → d.2 ≤ J8 c.1
theorem J4Z.to {c d : J5} (h : J4Z c) (t : J6L c d) : J4Z d := ⟨Int.le_trans h.at0 t.mono, by rw [t.list]; exact h.len, by rw [t.list]; exact h.byte, by rw [t.list]; exact t.hi h.hi⟩
theorem J6L.refl (c : J5) : J6L c c := ⟨rfl, Int.le_refl _, id⟩
theorem J6L.trans {a b c : J5} (h : J6L a b) (k : J6L b c) : J6L a c := ⟨k.list.trans h.list, Int.le_trans h.mono k.mono, fun e => by have := k.hi (by rw [h.list]; exact h.hi e); rwa [h.list] at this⟩
theorem J2z {α : Type} {l : List α} {i : Int} (h0 : 0 ≤ i := by omega) (h1 : i < J8 l := by omega) : Tot (idx l i) fun r => l[i.toNat]? = some r ∧ r ∈ l := by
 have hl : i.toNat < l.length := by unfold J8 at h1; omega
 refine ⟨l[i.toNat], ?_, List.getElem?_eq_getElem hl, List.getElem_mem hl⟩
 unfold idx
 rw [if_pos (by unfold J8 at h1; omega)]
 exact List.getElem?_eq_getElem hl
theorem Jeu (rec : (Int × J5) → Option (Int × J5)) (n : Int) (c : J5) (hc : J4Z c) (hn : n ≤ 256) :
  Tot (JS rec (n, c)) fun y => J6L c y.2 ∧ (c.2 < J8 c.1 → 1 ≤ n → c.2 < y.2.2) ∧ 0 ≤ y.1 ∧ (1 ≤ n → y.1 < n) := by
 unfold JS
 dsimp only
 have h0 := hc.at0
 have hl := hc.len
 refine .gef (fun c1 => .lt (fun c2 => .some ⟨.refl _, fun _ h => by omega, Int.le_refl _, fun h => by dsimp only; omega⟩) fun c2 => ?_) fun c1 => .some ⟨.refl _, fun h => by omega, Int.le_refl _, fun h => by dsimp only; omega⟩
 refine .bind (J2z (by omega) (by omega)) fun y hy => .gt (fun c3 => by omega) fun c3 => ?_
 obtain ⟨b0, b1⟩ := hc.byte y hy.2
 have e1 := Jsr y
 have e2 := Jcf c.2 1
 refine .bind (JpG (show ¬n = 0 by omega)) fun r hr =>   .some ⟨⟨rfl, by show c.2 ≤ Jb .i64 c.2 1; omega, fun _ => by show Jb .i64 c.2 1 ≤ J8 c.1; omega⟩, fun _ _ => by show c.2 < Jb .i64 c.2 1; omega, ?_, fun _ => ?_⟩
 ·show 0 ≤ r
  rw [hr]; exact Jc4.1 (by omega)
 ·show r < n
  rw [hr]; exact Jc4.2.1 (by omega)
theorem J06 (n : Int) (c : J5) (hc : J4Z c) : Tot (J7 (n, c)) fun y => J6L c y.2 ∧ (c.2 < J8 c.1 → 1 ≤ n → c.2 < y.2.2) ∧ 0 ≤ y.1 ∧ (1 ≤ n → y.1 < n) := by
 have e0 : J7 (n, c) = JS (J9t JS 99) (n, c) := rfl
 rw [e0]
 by_cases hn : n ≤ 256
 ·exact Jeu _ n c hc hn
 ·have e3 : ∀ x, J9t JS 99 x = JS (J9t JS 98) x := fun _ => rfl
  generalize J9t JS 99 = rec at e3 ⊢
  unfold JS
  dsimp only
  have h0 := hc.at0
  have hl := hc.len
  refine .gef (fun c1 => .lt (fun c2 => by omega) fun c2 => ?_) fun c1 => .some ⟨.refl _, fun h => by omega, Int.le_refl _, fun h => by dsimp only; omega⟩
  refine .bind (J2z (by omega) (by omega)) fun y hy => .gt (fun c3 => ?_) fun c3 => by omega
  obtain ⟨b0, b1⟩ := hc.byte y hy.2
  have e1 := Jsr y
  have e2 := Jcf c.2 1
  have hd : J4Z (c.1, Jb .i64 c.2 1) := hc.to ⟨rfl, by show c.2 ≤ Jb .i64 c.2 1; omega, fun _ => by show Jb .i64 c.2 1 ≤ J8 c.1; omega⟩
  rw [e3]
  refine .bind (Jeu _ 256 _ hd (Int.le_refl _)) fun z hz => ?_
  have hz2 := hz.2.2.2 (by decide)
  have hz1 := hz.2.2.1
  have hz3 := hz.1.mono
  have hz4 := hz.1.list
  have hz5 := hz.1.hi (by show Jb .i64 c.2 1 ≤ J8 c.1; omega)
  dsimp only at hz3 hz4 hz5
  have e4 := JsJ 256 (cvI .i64 y)
  have e5 := Jcf (Ji8 .i64 256 (cvI .i64 y)) z.1
  refine .bind (JpG (show ¬n = 0 by omega)) fun r hr => .some ⟨⟨hz4, by show c.2 ≤ z.2.2; omega, fun _ => hz5⟩, fun _ _ => by show c.2 < z.2.2; omega, ?_, fun _ => ?_⟩
  ·show 0 ≤ r
   rw [hr]; exact Jc4.1 (by omega)
  ·show r < n
   rw [hr]; exact Jc4.2.1 (by omega)
theorem Jq7 (l : List Int) (k : Int) (hk : 0 ≤ k) (hk2 : k ≤ 1000000) (hb : ∀ a ∈ l, 0 ≤ a ∧ a ≤ 255) : Tot (J4l (l, k)) fun y => J4Z y ∧ y.2 = 0 ∧ J8 y.1 ≤ k := by
 unfold J4l
 dsimp only
 refine .gt (fun c => .bind (Jsh hk (by omega)) fun y hy => .some ⟨⟨Int.le_refl _, by show J8 y ≤ 1000000; omega, fun a ha => hb a (by rw [hy.1] at ha; exact List.mem_of_mem_take ha), J2l⟩, rfl, by show J8 y ≤ k; omega⟩)
  fun c => .some ⟨⟨Int.le_refl _, by show J8 l ≤ 1000000; omega, hb, J2l⟩, rfl, by show J8 l ≤ k; omega⟩
theorem JqT (c : J5) (hc : J4Z c) : J2f c = some (J4h .i64 (J8 c.1) c.2, c) := rfl
theorem Jnx (c : J5) (hc : J4Z c) : Tot (J0o c) fun y => J6L c y.2 ∧ y.1.length = 256 := by
 unfold J0o
 refine .bind (Jtc (B := 256) (S := 0) (t := .i .u8) (z := (0 : Int)) (JsU .u8 0) (by decide) (by decide) (by decide) (by decide)) fun y2 h2 => .bind (J06 256 c hc) fun y3 h3 => ?_
 have hl : J8 y2 = 256 := h2.2
 refine J7C (τ := Int × List Int) (fun q => (cvI .u8 y3.1, q.1, y3.2, q.2)) (fun q => 0 ≤ q.1 ∧ q.1 ≤ 256 ∧ J8 q.2 = 256) (fun q => 256 - q.1) ?_ (0, y2) rfl ⟨Int.le_refl _, by show (0 : Int) ≤ 256; decide, hl⟩
 rintro ⟨i, l⟩ ⟨g1, g2, g3⟩
 dsimp only at g1 g2 g3
 unfold J6Y
 dsimp only
 have hll : l.length = 256 := by unfold J8 at g3; omega
 refine .lt (fun c1 => .bind (J5Z (by omega) (by omega)) fun _ _ => .bind (P := fun _ => True) ⟨l[i.toNat]'(by omega), List.getElem?_eq_getElem (by omega), trivial⟩ fun _ _ => .some ⟨(Jb .i64 i 1, J2X l i.toNat (cvI .u8 y3.1)), rfl, ?_, ?_⟩) fun c1 => .inr ?_
 ·have := Jcf i 1
  refine ⟨?_, ?_, ?_⟩
  ·show 0 ≤ Jb .i64 i 1; omega
  ·show Jb .i64 i 1 ≤ 256; omega
  ·show J8 (J2X l i.toNat _) = 256; rw [JiB]; exact g3
 ·have := Jcf i 1
  show 256 - Jb .i64 i 1 < 256 - i ∧ 0 ≤ 256 - i
  omega
 ·refine .bind (J06 256 y3.2 (hc.to h3.1)) fun y7 h7 => .bind (J06 256 y7.2 ((hc.to h3.1).to h7.1)) fun y8 h8 => ?_
  have k7 := h7.2.2.1
  have k8 := h7.2.2.2 (by decide)
  refine .bind (J5Z (by omega) (by omega)) fun _ _ => .bind (P := fun _ => True) ⟨l[y7.1.toNat]'(by omega), List.getElem?_eq_getElem (by omega), trivial⟩ fun _ _ => .some ⟨(h3.1.trans h7.1).trans h8.1, ?_⟩
  show (toStr (J2X l y7.1.toNat _)).length = 256
  have e1 : J8 (toStr (J2X l y7.1.toNat (cvI .u8 y8.1))) = 256 := by rw [Jmo, JiB]; exact g3
  unfold J8 at e1
  omega
end Go.Am
end
section
namespace Go.Am
set_option maxRecDepth 20000
set_option linter.unusedVariables false
set_option linter.unusedSimpArgs false
theorem J1U {σ ρ : Type} {L : σ → Option (σ ⊕ ρ)} {Q : ρ → Prop} (e : Int → σ) (n : Int) (I : Int → Prop) (hn : 0 ≤ n) (h0 : I 0)
  (h : ∀ i, 0 ≤ i → i ≤ n → I i → Tot (L (e i)) fun r => match r with | .inl z => z = e (i + 1) ∧ I (i + 1) ∧ i < n | .inr y => Q y) : Tot (JK L (e 0)) Q := by
 refine J7C (τ := Int) e (fun i => 0 ≤ i ∧ i ≤ n ∧ I i) (fun i => n - i) ?_ 0 rfl ⟨Int.le_refl _, hn, h0⟩
 rintro i ⟨g1, g2, g3⟩
 refine (h i g1 g2 g3).mono fun r hr => ?_
 cases r with
 | inl z => exact ⟨i + 1, hr.1, ⟨by omega, by have := hr.2.2; omega, hr.2.1⟩, by omega, by omega⟩
 | inr y => exact hr
theorem J42 {i : Int} (h0 : 0 ≤ i) (h1 : i < 4611686018427387904) : Jb .i64 i 1 = i + 1 := by have := Jcf i 1; omega
theorem Jsa {i : Int} (h0 : 0 ≤ i) (h1 : i < 4611686018427387904) : J4h .i64 i 1 = i - 1 := by have := JpM i 1; omega
def J5U (f : FT) : FT × Bool :=
 if f.1 = 1 then ((f.1, f.2.1, 0, 0, 0, 0), true) else if f.1 = 6 then ((f.1, f.2.1, 0, 0, 0, 0), true)
 else if f.1 = 2 then ((f.1, f.2.1, 0, f.2.2.2.1, 0, 0), true) else if f.1 = 3 then ((f.1, f.2.1, 0, 0, f.2.2.2.2.1, 0), true)
 else if f.1 = 4 then ((f.1, f.2.1, f.2.2.1, 0, f.2.2.2.2.1, f.2.2.2.2.2), true) else if f.1 = 5 then ((f.1, f.2.1, f.2.2.1, 0, 0, 0), true)
 else ((f.1, f.2.1, 0, 0, 0, 0), false)
structure J3Q (n w : Int) (f : FT) : Prop where
 kind : (J5U f).2 = true
 used : (J5U f).1 = f
 after : w < f.2.1
 most : f.2.1 ≤ 1099511627776
 p0 : 0 ≤ f.2.2.1
 p1 : f.2.2.1 < n
 t0 : 0 ≤ f.2.2.2.1
 t1 : f.2.2.2.1 < n
 b0 : 0 ≤ f.2.2.2.2.1
 b1 : f.2.2.2.2.1 < 256
 mask : f.1 = 4 → ¬f.2.2.2.2.2 = 0
structure VD (x : DT) : Prop where
 p1 : 1 ≤ J8 x.1
 p64 : J8 x.1 ≤ 64
 w0 : 0 ≤ x.2.1
 w1 : x.2.1 ≤ 1099511627776
 f64 : J8 x.2.2.2.2 ≤ 64
 page : ∀ s ∈ x.1, J8 s = 256
 rng : ∀ p ∈ x.2.2.1, 0 ≤ p ∧ p < J8 x.1
 adj : ∀ (i : Nat) a b, x.2.2.1[i]? = some a → x.2.2.1[i + 1]? = some b → a < b
 flt : ∀ f ∈ x.2.2.2.2, J3Q (J8 x.1) x.2.1 f
theorem Jns (f : FT) : J24 f = some (J5U f) := by
 unfold J24 J5U
 simp only [eqI, decide_eq_true_eq]
 repeat' split
 all_goals rfl
theorem Jkm (x : DT) (f : FT) : Tot (J0z (x, f)) fun y => (y = true ↔ J3Q (J8 x.1) x.2.1 f) := by
 unfold J0z J07
 dsimp only
 rw [Jns]
 refine .bind (Jn rfl) fun y2 e => ?_
 subst e
 have no : ∀ {p : Prop}, ¬p → (false = true ↔ p) := fun h => ⟨nofun, fun k => absurd k h⟩
 refine .ite (fun k => .by J79 (fun c1 => .gt (fun c2 => .le (fun c3 => ?_) fun c => .some (no fun h => c h.most)) fun c => .some (no fun h => c h.after)) fun c => .some (no fun h => c h.used)) fun k => .some (no fun h => by rw [h.kind] at k; cases k)
 refine .bind (P := fun y => (y = true ↔ 0 ≤ f.2.2.1 ∧ f.2.2.1 < J8 x.1)) (.ge (fun c => .some (J6A.trans ⟨fun h => ⟨c, h⟩, fun h => h.2⟩)) fun c => .some (no fun h => c h.1)) fun y3 h3 => ?_
 refine .by h3 (fun c4 => ?_) fun c => .some (no fun h => c ⟨h.p0, h.p1⟩)
 refine .bind (P := fun y => (y = true ↔ 0 ≤ f.2.2.2.1 ∧ f.2.2.2.1 < J8 x.1)) (.ge (fun c => .some (J6A.trans ⟨fun h => ⟨c, h⟩, fun h => h.2⟩)) fun c => .some (no fun h => c h.1)) fun y4 h4 => ?_
 refine .by h4 (fun c5 => ?_) fun c => .some (no fun h => c ⟨h.t0, h.t1⟩)
 refine .ge (fun c6 => .lt (fun c7 => .nef (fun c8 => .some (J9Q.trans ⟨fun h => ?_, fun h => h.mask c8⟩)) fun c8 => .some ⟨fun _ => ?_, fun _ => rfl⟩) fun c => .some (no fun h => c h.b1)) fun c => .some (no fun h => c h.b0)
 ·exact ⟨k, c1, c2, c3, c4.1, c4.2, c5.1, c5.2, c6, c7, fun _ => h⟩
 ·exact ⟨k, c1, c2, c3, c4.1, c4.2, c5.1, c5.2, c6, c7, fun h => absurd h c8⟩
theorem Je2 (x : DT) (f : FT) : Tot (J1j (x, f)) fun y => (y = true ↔ J3Q (J8 x.1) x.2.1 f) := by
 unfold J1j
 dsimp only
 have no : ∀ {p : Prop}, ¬p → (false = true ↔ p) := fun h => ⟨nofun, fun k => absurd k h⟩
 refine .lef (fun c1 => .gtf (fun c2 => .ltf (fun c3 => .gef (fun c4 => .ltf (fun c5 => .gef (fun c6 => .ltf (fun c7 => .ge (fun c => .some (no fun h => by have := h.b1; omega)) fun c8 => ?_) ?_) ?_) ?_) ?_) ?_) ?_) ?_
 ·have mk : ∀ u : FT × Bool, J5U f = u → u.2 = true → (f.1 = 4 → ¬f.2.2.2.2.2 = 0) → ∀ y, (y = true ↔ f = u.1) → (y = true ↔ J3Q (J8 x.1) x.2.1 f) := by
   rintro u rfl hu hm y hy
   exact hy.trans ⟨fun h => ⟨hu, h.symm, by omega, by omega, by omega, by omega, by omega, by omega, by omega, by omega, hm⟩, fun h => h.used.symm⟩
  refine .eq (fun d1 => .some (mk (_, true) (by simp [J5U, d1]) rfl (fun h => by omega) _ J79)) fun d1 => .eq (fun d2 => .some (mk (_, true) (by simp [J5U, d2]) rfl (fun h => by omega) _ J79)) fun d2 =>
   .eq (fun d3 => .some (mk (_, true) (by simp [J5U, d3]) rfl (fun h => by omega) _ J79)) fun d3 => .eq (fun d4 => .some (mk (_, true) (by simp [J5U, d4]) rfl (fun h => by omega) _ J79)) fun d4 =>
   .eq (fun d5 => .eq (fun d => .some (no fun h => h.mask d5 d)) fun d => .some (mk (_, true) (by simp [J5U, d5]) rfl (fun _ => d) _ J79)) fun d5 => .eq (fun d6 => .some (mk (_, true) (by simp [J5U, d6]) rfl (fun h => by omega) _ J79)) fun d6 => .some (no fun h => ?_)
  have := h.kind
  simp [J5U, d1, d2, d3, d4, d5, d6] at this
 all_goals intro c; exact .some (no fun h => by have := h.1; have := h.after; have := h.most; have := h.p0; have := h.p1; have := h.t0; have := h.t1; have := h.b0; omega)
theorem Jn9 (l : List (List UInt8)) (hl : J8 l ≤ 1000000) : Tot (JF l) fun y => (y = true ↔ ¬∀ s ∈ l, J8 s = 256) := by
 unfold JF J00
 refine .bind (P := fun y => (0 ≤ y ↔ ¬∀ s ∈ l, J8 s = 256)) ?_ fun y h => .some (J7h.trans h)
 refine J1U (fun i => (l, J8 l, i)) (J8 l) (fun i => J8O (fun s => J8 s = 256) l i) J2l J7D fun i g1 g2 g3 => ?_
 unfold J2t J2c
 dsimp only
 refine .lt (fun c => .bind (J2z g1 c).eqn fun a ha => .bind (Jn rfl) fun y e => ?_) fun c => .some ⟨fun h => absurd h (show ¬(0:Int) ≤ -1 by decide), fun h => absurd (J6b g3 c) h⟩
 subst e
 refine .ne (fun d => .some ⟨fun _ h => d (h a ha.1.2), fun _ => g1⟩) fun d => .some ⟨by rw [J42 g1 (by omega)], J50 g3 ha.2 d rfl, c⟩
theorem Joh (x : DT) (l : List FT) (hl : J8 l ≤ 1000000) : Tot (JA (l, x)) fun y => (y.1 = true ↔ ¬∀ f ∈ l, J3Q (J8 x.1) x.2.1 f) := by
 unfold JA JL
 dsimp only
 refine .bind (P := fun y => (0 ≤ y.1 ↔ ¬∀ f ∈ l, J3Q (J8 x.1) x.2.1 f)) ?_ fun y h => .some (J7h.trans h)
 refine J1U (fun i => (l, J8 l, i, x)) (J8 l) (fun i => J8O (J3Q (J8 x.1) x.2.1) l i) J2l J7D fun i g1 g2 g3 => ?_
 unfold J1N J2e
 dsimp only
 refine .lt (fun c => .bind (J2z g1 c).eqn fun a ha => .bind (P := fun z => (z.1 = true ↔ ¬J3Q (J8 x.1) x.2.1 a) ∧ z.2 = x) (.bind (Jkm x a) fun y hy => .some ⟨by unfold J2x; rw [← hy]; cases y <;> simp, rfl⟩) fun y e => ?_)
  fun c => .some ⟨fun h => absurd h (show ¬(0:Int) ≤ -1 by decide), fun h => absurd (J6b g3 c) h⟩
 refine .by e.1 (fun d => .some ⟨fun _ h => d (h a ha.1.2), fun _ => g1⟩) fun d => .some ⟨by rw [J42 g1 (by omega), e.2], J50 g3 ha.2 (Classical.not_not.1 (fun h => d h)) rfl, c⟩
structure Asc (n : Int) (l : List Int) (i : Int) : Prop where
 rng : J8O (fun p => 0 ≤ p ∧ p < n) l i
 adj : ∀ (j : Nat) a b, ((j : Int) + 1 < i) → l[j]? = some a → l[j + 1]? = some b → a < b
theorem Asc.next {n : Int} {l : List Int} {i b : Int} (h : Asc n l i) (e : idx l i = some b) (hb : 0 ≤ b ∧ b < n) (hp : 0 < i → ∀ a, l[(i - 1).toNat]? = some a → a < b) : Asc n l (i + 1) := by
 obtain ⟨e0, e1⟩ := Jnt e
 refine ⟨J50 h.rng e hb rfl, fun j a b' hj ha hb' => ?_⟩
 by_cases hji : (j : Int) + 1 < i
 ·exact h.adj j a b' hji ha hb'
 ·have e2 : j + 1 = i.toNat := by omega
  rw [e2, e1] at hb'
  injection hb' with hb'; subst hb'
  refine hp (by omega) a ?_
  rw [show (i - 1).toNat = j by omega]; exact ha
theorem Asc.all {n : Int} {l : List Int} {i : Int} (h : Asc n l i) (hi : ¬i < J8 l) : (∀ p ∈ l, 0 ≤ p ∧ p < n) ∧ ∀ (j : Nat) a b, l[j]? = some a → l[j + 1]? = some b → a < b :=
 ⟨J6b h.rng hi, fun j a b ha hb => h.adj j a b (by have := (List.getElem?_eq_some_iff.1 hb).1; unfold J8 at hi; omega) ha hb⟩
theorem Jgl (x : DT) (hu : J8 x.2.2.1 ≤ 1000000000000) : Tot (J1c x) fun y => (y = true ↔ VD x) := by
 unfold J1c
 have no : ∀ {p : Prop}, ¬p → (false = true ↔ p) := fun h => ⟨nofun, fun k => absurd k h⟩
 refine .ltf (fun c1 => .gtf (fun c2 => .ltf (fun c3 => .gtf (fun c4 => .gt (fun c => .some (no fun h => by have := h.f64; omega)) fun c5 => ?_) fun c => .some (no fun h => by have := h.w1; omega)) fun c => .some (no fun h => by have := h.w0; omega)) fun c => .some (no fun h => by have := h.p64; omega)) fun c => .some (no fun h => by have := h.p1; omega)
 refine J1U (fun i => (x.2.2.1, J8 x.2.2.1, i, x)) (J8 x.2.2.1) (fun i => Asc (J8 x.1) x.2.2.1 i) J2l ⟨J7D, fun j a b h => by omega⟩ fun i g1 g2 g3 => ?_
 unfold J8E J07
 dsimp only
 refine .lt (fun c => .bind (J2z g1 c).eqn fun b hb => ?_) fun c => .inr ?_
 ·refine .bind (P := fun y => (y = true ↔ 0 ≤ b ∧ b < J8 x.1)) (.ge (fun c => .some (J6A.trans ⟨fun h => ⟨c, h⟩, fun h => h.2⟩)) fun c => .some (no fun h => c h.1)) fun y4 h4 => ?_
  refine .nof (fun k => ?_) fun k => .some (no fun h => by rw [h4.2 (h.rng b hb.1.2)] at k; cases k)
  refine .gt (fun d => ?_) fun d => .some ⟨by rw [J42 g1 (by omega)], g3.next hb.2 (h4.1 k) (fun h => absurd h d), c⟩
  rw [Jsa g1 (by omega)]
  refine .bind (J2z (show 0 ≤ i - 1 by omega) (by omega)) fun a ha => .ge (fun d2 => .some (no fun h => ?_)) fun d2 => .some ⟨by rw [J42 g1 (by omega)], g3.next hb.2 (h4.1 k) (fun _ a' ha' => by rw [ha.1] at ha'; injection ha' with ha'; omega), c⟩
  have := h.adj (i - 1).toNat a b ha.1 (by rw [show (i - 1).toNat + 1 = i.toNat by omega]; exact hb.1.1)
  omega
 ·obtain ⟨r1, r2⟩ := g3.all c
  refine .bind (Jn9 x.1 (by omega)) fun y6 h6 => .not (fun k => ?_) fun k => .some (no fun h => h6.1 k h.page)
  have hpg : ∀ s ∈ x.1, J8 s = 256 := Classical.not_not.1 fun h => by rw [h6.2 h] at k; cases k
  refine .bind (Joh x x.2.2.2.2 (by omega)) fun y7 h7 => .some ?_
  unfold J2x
  constructor
  ·intro h
   refine ⟨by omega, by omega, by omega, by omega, by omega, hpg, r1, r2, Classical.not_not.1 fun h' => ?_⟩
   rw [h7.2 h'] at h; cases h
  ·intro h
   cases hy : y7.1 with
   | false => rfl
   | true => exact absurd h.flt (h7.1 hy)
theorem Jev (x : DT) (hu : J8 x.2.2.1 ≤ 1000000000000) : Tot (J1p x) fun y => (y = true ↔ VD x) := by
 unfold J1p
 have no : ∀ {p : Prop}, ¬p → (false = true ↔ p) := fun h => ⟨nofun, fun k => absurd k h⟩
 refine .ltf (fun c1 => .gtf (fun c2 => .ltf (fun c3 => .gtf (fun c4 => .gt (fun c => .some (no fun h => by have := h.f64; omega)) fun c5 => ?_) fun c => .some (no fun h => by have := h.w1; omega)) fun c => .some (no fun h => by have := h.w0; omega)) fun c => .some (no fun h => by have := h.p64; omega)) fun c => .some (no fun h => by have := h.p1; omega)
 refine J1U (fun i => (J8 x.1, i, x)) (J8 x.1) (fun i => J8O (fun s => J8 s = 256) x.1 i) J2l J7D fun i g1 g2 g3 => ?_
 unfold J9c
 dsimp only
 refine .lt (fun c => .bind (J2z g1 c).eqn fun a ha => .ne (fun d => .some (no fun h => d (h.page a ha.1.2))) fun d => .some ⟨by rw [J42 g1 (by omega)], J50 g3 ha.2 d rfl, c⟩) fun c => .inr ?_
 have hpg := J6b g3 c
 refine J1U (fun i => (J8 x.1, i, x)) (J8 x.2.2.1) (fun i => Asc (J8 x.1) x.2.2.1 i) J2l ⟨J7D, fun j a b h => by omega⟩ fun i g1 g2 g3 => ?_
 unfold J9a
 dsimp only
 refine .lt (fun c => .bind (J2z g1 c).eqn fun b hb => ?_) fun c => .inr ?_
 ·refine .ltf (fun d1 => .bind (Jn hb.2) fun b' e => ?_) fun d1 => .some (no fun h => by have := h.rng b hb.1.2; omega)
  subst e
  refine .gef (fun d2 => .gt (fun d => ?_) fun d => .some ⟨by rw [J42 g1 (by omega)], g3.next hb.2 ⟨by omega, by omega⟩ (fun h => absurd h d), c⟩) fun d2 => .some (no fun h => by have := h.rng _ hb.1.2; omega)
  rw [Jsa g1 (by omega)]
  refine .bind (J2z (show 0 ≤ i - 1 by omega) (by omega)) fun a ha => .bind (Jn hb.2) fun b' e => ?_
  subst e
  refine .ge (fun d2 => .some (no fun h => ?_)) fun d2 => .some ⟨by rw [J42 g1 (by omega)], g3.next hb.2 ⟨by omega, by omega⟩ (fun _ a' ha' => by rw [ha.1] at ha'; injection ha' with ha'; omega), c⟩
  have := h.adj (i - 1).toNat a _ ha.1 (by rw [show (i - 1).toNat + 1 = i.toNat by omega]; exact hb.1.1)
  omega
 ·obtain ⟨r1, r2⟩ := g3.all c
  refine J1U (fun i => (i, x)) (J8 x.2.2.2.2) (fun i => J8O (J3Q (J8 x.1) x.2.1) x.2.2.2.2 i) J2l J7D fun i g1 g2 g3 => ?_
  unfold J8U
  dsimp only
  refine .lt (fun c => .bind (J2z g1 c).eqn fun a ha => .bind (Je2 x a) fun y hy => .not (fun k => .some (no fun h => by rw [hy.2 (h.flt a ha.1.2)] at k; cases k)) fun k => .some ⟨by rw [J42 g1 (by omega)], J50 g3 ha.2 (hy.1 k) rfl, c⟩)
   fun c => .some ⟨fun _ => ⟨by omega, by omega, by omega, by omega, by omega, hpg, r1, r2, J6b g3 c⟩, fun _ => rfl⟩
end Go.Am
end
section
namespace Go.Am
set_option maxRecDepth 20000
set_option linter.unusedVariables false
set_option linter.unusedSimpArgs false
noncomputable section
open Classical
def J9f : DT := ([], 0, [], false, [])
def J1v : List UInt8 := List.replicate 256 0
def usD (x : DT) (p : Int) : Int := if VD x then if x.2.2.2.1 = true then 10 else if 0 ≤ p ∧ p < J8 x.1 then 0 else 1 else 15
theorem JiZ {x : DT} {p : Int} (hv : VD x) (hd : x.2.2.2.1 = false) : usD x p = if 0 ≤ p ∧ p < J8 x.1 then 0 else 1 := by
 unfold usD
 rw [if_pos hv, if_neg (by rw [hd]; decide)]
theorem JhO {x : DT} {p : Int} (hv : VD x) (hd : x.2.2.2.1 = true) : usD x p = 10 := by
 unfold usD
 rw [if_pos hv, if_pos hd]
theorem JkI {x : DT} {p : Int} (hv : ¬VD x) : usD x p = 15 := by
 unfold usD
 rw [if_neg hv]
theorem JmV (x : DT) (p : Int) (hu : J8 x.2.2.1 ≤ 1000000000000) : J0W (x, p) = some (usD x p) := by
 refine J2j ?_
 unfold J0W J07
 dsimp only
 refine .bind (Jgl x hu) fun y hy => .not (fun k => .some ?_) fun k => ?_
 ·rw [JkI fun h => by rw [hy.2 h] at k; cases k]
 ·refine .ite (fun d => .some (by rw [JhO (hy.1 k) d])) fun d => ?_
  rw [JiZ (hy.1 k) d]
  refine .bind (P := fun y => (y = true ↔ 0 ≤ p ∧ p < J8 x.1)) (.ge (fun c => .some (J6A.trans ⟨fun h => ⟨c, h⟩, fun h => h.2⟩)) fun c => .some ⟨nofun, fun h => absurd h.1 c⟩) fun y3 h3 => ?_
  refine .not (fun k => .some ?_) fun k => .some ?_
  ·rw [if_neg fun h => by rw [h3.2 h] at k; cases k]
  ·rw [if_pos (h3.1 k)]
theorem Jkl (x : DT) (p : Int) (hu : J8 x.2.2.1 ≤ 1000000000000) : J1a (x, p) = some (usD x p) := by
 refine J2j ?_
 unfold J1a
 dsimp only
 refine .bind (Jev x hu) fun y hy => .not (fun k => .some ?_) fun k => ?_
 ·rw [JkI fun h => by rw [hy.2 h] at k; cases k]
 ·refine .ite (fun d => .some (by rw [JhO (hy.1 k) d])) fun d => ?_
  rw [JiZ (hy.1 k) d]
  exact .ltf (fun c => .ge (fun c2 => .some (if_neg (by omega)).symm) fun c2 => .some (if_pos (by omega)).symm) fun c => .some (if_neg (by omega)).symm
def Jbv (n : Int) : DT × Int := if 1 ≤ n ∧ n ≤ 64 then ((List.replicate n.toNat J1v, 0, [], false, []), 0) else (J9f, 1)
theorem JmM : J3e ([0], 256) = some J1v := by decide +kernel
theorem JnI (n : Int) (h0 : 1 ≤ n) (h1 : n ≤ 64) : J2s n = some (List.replicate n.toNat J1v) := by
 unfold J2s
 rw [JmM]
 show Option.bind (Jfw ([J1v], n)) _ = _
 unfold Jfw
 dsimp only
 rw [if_pos ⟨h0, by omega⟩]
 rfl
theorem Jms (n : Int) : J1I n = some (Jbv n) := by
 refine J2j ?_
 unfold J1I Jbv
 refine .ltf (fun c => .gt (fun d => .some (by rw [if_neg (by omega)]; rfl)) fun d => ?_) fun c => .some (by rw [if_neg (by omega)]; rfl)
 rw [if_pos ⟨by omega, by omega⟩]
 exact .bind (Jn (JnI n (by omega) (by omega))) fun y e => .some (by rw [e])
theorem JoQ : (mkS 1 256 256 0 : Option (List Int)) = some (List.replicate 256 0) := rfl
theorem Jnl : toStr (List.replicate 256 0) = J1v := by decide +kernel
theorem Jmf (n : Int) (h0 : 1 ≤ n) (h1 : n ≤ 64) : J2p n = some (List.replicate n.toNat J1v) := by
 refine J2j ?_
 unfold J2p
 have : ([] : List (List UInt8)) = List.replicate (0 : Int).toNat J1v := rfl
 rw [this]
 refine J1U (fun i => (n, i, List.replicate i.toNat J1v)) n (fun i => True) (by omega) trivial fun i g1 g2 _ => ?_
 unfold J8G
 dsimp only
 refine .lt (fun c => .bind (Jn JoQ) fun y e => ?_) fun c => .some (by rw [show i = n by omega])
 subst e
 rw [Jnl]
 refine .bind (Jn (v := List.replicate i.toNat J1v ++ [J1v]) ?_) fun y e => .some ⟨?_, trivial, c⟩
 ·unfold J4j
  have hr : J1Z ((List.replicate i.toNat J1v).length + [J1v].length) 16 = true := by
   unfold J1Z
   simp only [List.length_replicate, List.length_singleton, decide_eq_true_eq]
   omega
  rw [if_pos hr]
 ·subst e
  rw [J42 g1 (by omega), show (i + 1).toNat = i.toNat + 1 by omega, List.replicate_succ']
theorem Jr6 (n : Int) : J3K n = some (Jbv n) := by
 refine J2j ?_
 unfold J3K Jbv
 refine .ltf (fun c => .gt (fun d => .some (by rw [if_neg (by omega)]; rfl)) fun d => ?_) fun c => .some (by rw [if_neg (by omega)]; rfl)
 rw [if_pos ⟨by omega, by omega⟩]
 exact .bind (Jn (Jmf n (by omega) (by omega))) fun y e => .some (by rw [e])
theorem JmO : J1v.length = 256 := List.length_replicate
theorem Jd6 (n : Nat) (w : Int) (h1 : 1 ≤ n) (h2 : n ≤ 64) (hw : 0 ≤ w) (hw1 : w ≤ 1099511627776) : VD (List.replicate n J1v, w, [], false, []) where
 p1 := by show 1 ≤ J8 _; unfold J8; rw [List.length_replicate]; omega
 p64 := by show J8 _ ≤ 64; unfold J8; rw [List.length_replicate]; omega
 w0 := hw
 w1 := hw1
 f64 := by show J8 ([] : List FT) ≤ 64; decide
 page := fun s hs => by rw [List.eq_of_mem_replicate hs]; unfold J8; rw [JmO]; rfl
 rng := fun p hp => by cases hp
 adj := fun i a b h => by simp at h
 flt := fun f hf => by cases hf
def Jbs (x : DT) (f : FT) : DT × Int := if VD x then if J3Q (J8 x.1) x.2.1 f then if J8 x.2.2.2.2 = 64 then (J9f, 21) else ((x.1, x.2.1, x.2.2.1, x.2.2.2.1, x.2.2.2.2 ++ [f]), 0) else (J9f, 1) else (J9f, 15)
theorem JmL (l : List FT) (h : J8 l ≤ 100) : cloS 48 l = some l := by
 unfold cloS
 have : J1Z l.length 48 = true := by unfold J1Z; unfold J8 at h; simp only [decide_eq_true_eq]; omega
 rw [if_pos this]
theorem Jqm (l : List Int) (h : J8 l ≤ 1000000) : cloS 8 l = some l := by
 unfold cloS
 have : J1Z l.length 8 = true := by unfold J1Z; unfold J8 at h; simp only [decide_eq_true_eq]; omega
 rw [if_pos this]
theorem Jq8 (l : List (List UInt8)) (h : J8 l ≤ 1000000) : cloS 16 l = some l := by
 unfold cloS
 have : J1Z l.length 16 = true := by unfold J1Z; unfold J8 at h; simp only [decide_eq_true_eq]; omega
 rw [if_pos this]
theorem JbU (l m : List FT) (h : J8 l ≤ 100) (h2 : J8 m ≤ 100) : J4j 48 l m = some (l ++ m) := by
 unfold J4j
 have : J1Z (l.length + m.length) 48 = true := by unfold J1Z; unfold J8 at h h2; simp only [decide_eq_true_eq]; omega
 rw [if_pos this]
theorem Jn4 (x : DT) (f : FT) (hu : J8 x.2.2.1 ≤ 1000000000000) : J0V (x, f) = some (Jbs x f) := by
 refine J2j ?_
 unfold J0V Jbs
 dsimp only
 refine .bind (Jgl x hu) fun y hy => .not (fun k => .some ?_) fun k => ?_
 ·rw [if_neg fun h => by rw [hy.2 h] at k; cases k]; rfl
 have hv := hy.1 k
 rw [if_pos hv]
 refine .bind (Jkm x f) fun y hy => .not (fun k => .some ?_) fun k => ?_
 ·rw [if_neg fun h => by rw [hy.2 h] at k; cases k]; rfl
 rw [if_pos (hy.1 k)]
 refine .eq (fun c => .some (by rw [if_pos c]; rfl)) fun c => ?_
 rw [if_neg c]
 have := hv.f64
 refine .bind (Jn (JmL _ (by omega))) fun y e => ?_
 subst e
 exact .bind (Jn (JbU _ _ (by omega) (show (1 : Int) ≤ 100 by decide))) fun y e => .some (by rw [e])
def JbY (x : DT) (p : Int) : List UInt8 × Int := if usD x p = 0 then if p ∈ x.2.2.1 then ([], 11) else (x.1.getD p.toNat [], 0) else ([], usD x p)
theorem J9H {x : DT} {p : Int} (h : usD x p = 0) : VD x ∧ x.2.2.2.1 = false ∧ 0 ≤ p ∧ p < J8 x.1 := by
 unfold usD at h
 split at h
 ·rename_i hv
  split at h
  ·cases h
  ·rename_i hd
   split at h
   ·rename_i hp; exact ⟨hv, by cases hx : x.2.2.2.1 <;> simp_all, hp.1, hp.2⟩
   ·cases h
 ·cases h
theorem JpO {x : DT} {p : Int} (hv : VD x) (hd : x.2.2.2.1 = false) (h0 : 0 ≤ p) (h1 : p < J8 x.1) : usD x p = 0 := by
 unfold usD
 rw [if_pos hv, if_neg (by rw [hd]; decide), if_pos ⟨h0, h1⟩]
theorem JqJ (l : List Int) (p : Int) (hl : J8 l ≤ 1000000000000) : Tot (J0n (l, p)) fun y => (y = true ↔ p ∈ l) := by
 unfold J0n J19
 refine .bind (P := fun y => (0 ≤ y ↔ p ∈ l)) ?_ fun y h => .some (J7h.trans h)
 refine J1U (fun i => (l, p, J8 l, i)) (J8 l) (fun i => J8O (fun a => ¬p = a) l i) J2l J7D fun i g1 g2 g3 => ?_
 unfold J4S
 dsimp only
 refine .lt (fun c => .bind (J2z g1 c).eqn fun a ha => .eq (fun d => .some ⟨fun _ => d ▸ ha.1.2, fun _ => g1⟩) fun d => .some ⟨by rw [J42 g1 (by omega)], J50 g3 ha.2 d rfl, c⟩)
  fun c => .some ⟨fun h => absurd h (show ¬(0 : Int) ≤ -1 by decide), fun h => absurd rfl (J6b g3 c p h)⟩
theorem Jpr (l : List Int) (p : Int) (hl : J8 l ≤ 1000000000000) : Tot (J3S (l, p)) fun y => (y = true ↔ p ∈ l) := by
 unfold J3S
 refine J1U (fun i => (l, p, i)) (J8 l) (fun i => J8O (fun a => ¬a = p) l i) J2l J7D fun i g1 g2 g3 => ?_
 unfold JaI
 dsimp only
 refine .lt (fun c => .bind (J2z g1 c).eqn fun a ha => .eq (fun d => .some ⟨fun _ => d ▸ ha.1.2, fun _ => rfl⟩) fun d => .some ⟨by rw [J42 g1 (by omega)], J50 g3 ha.2 d rfl, c⟩)
  fun c => .some ⟨nofun, fun h => absurd rfl (J6b g3 c p h)⟩
theorem Jkd {α : Type} {l : List α} {i : Nat} {a d : α} (h : l[i]? = some a) : l.getD i d = a := by rw [List.getD_eq_getElem?_getD, h]; rfl
theorem Jk8 (x : DT) (p : Int) (hu : J8 x.2.2.1 ≤ 1000000000000) : J0i (x, p) = some (JbY x p) := by
 refine J2j ?_
 unfold J0i JbY
 dsimp only
 refine .bind (Jn (JmV x p hu)) fun y e => ?_
 subst e
 refine .ne (fun c => .some (by rw [if_neg c])) fun c => ?_
 rw [if_pos c]
 obtain ⟨hv, _, h0, h1⟩ := J9H c
 refine .bind (JqJ _ p hu) fun y hy => .ite (fun k => .some (by rw [if_pos (hy.1 k)])) fun k => ?_
 rw [if_neg fun h => by rw [hy.2 h] at k; cases k]
 exact .bind (J2z h0 h1) fun a ha => .some (by rw [Jkd ha.1])
theorem JpA (x : DT) (p : Int) (hu : J8 x.2.2.1 ≤ 1000000000000) : J17 (x, p) = some (JbY x p) := by
 refine J2j ?_
 unfold J17 JbY
 dsimp only
 refine .bind (Jn (Jkl x p hu)) fun y e => ?_
 subst e
 refine .ne (fun c => .some (by rw [if_neg c])) fun c => ?_
 rw [if_pos c]
 obtain ⟨hv, _, h0, h1⟩ := J9H c
 refine .bind (Jpr _ p hu) fun y hy => .ite (fun k => .some (by rw [if_pos (hy.1 k)])) fun k => ?_
 rw [if_neg fun h => by rw [hy.2 h] at k; cases k]
 exact .bind (J2z h0 h1) fun a ha => .some (by rw [Jkd ha.1])
end
end Go.Am
end
section
namespace Go.Am
set_option maxRecDepth 20000
set_option linter.unusedVariables false
set_option linter.unusedSimpArgs false
noncomputable section
open Classical
theorem Jef : ∀ (l : List Int), (∀ (i : Nat) a b, l[i]? = some a → l[i + 1]? = some b → a < b) → l.Pairwise (· < ·)
 | [], _ => .nil
 | [a], _ => List.pairwise_singleton _ _
 | a :: b :: l, h => by
  have ih := Jef (b :: l) fun i x y hx hy => h (i + 1) x y (by simpa using hx) (by simpa using hy)
  have hab : a < b := h 0 a b rfl rfl
  refine List.pairwise_cons.2 ⟨fun c hc => ?_, ih⟩
  rcases List.mem_cons.1 hc with rfl | hc
  ·exact hab
  ·exact Int.lt_trans hab ((List.pairwise_cons.1 ih).1 c hc)
theorem Jlq {l : List Int} (h : l.Pairwise (· < ·)) (i : Nat) (a b : Int) (ha : l[i]? = some a) (hb : l[i + 1]? = some b) : a < b := by
 obtain ⟨h1, rfl⟩ := List.getElem?_eq_some_iff.1 ha
 obtain ⟨h2, rfl⟩ := List.getElem?_eq_some_iff.1 hb
 exact List.pairwise_iff_getElem.1 h i (i + 1) h1 h2 (Nat.lt_succ_self _)
theorem Jl4 (p : Int) : ∀ {l : List Int}, l.Pairwise (· < ·) → l.take (l.countP (· < p)) = l.filter (· < p) ∧ l.drop (l.countP (· < p)) = l.filter (fun a => !(decide (a < p)))
 | [], _ => ⟨rfl, rfl⟩
 | a :: l, h => by
  obtain ⟨h1, h2⟩ := List.pairwise_cons.1 h
  obtain ⟨i1, i2⟩ := Jl4 p h2
  by_cases ha : a < p
  ·simp only [List.countP_cons, ha, decide_true, if_true, List.take_succ_cons, List.drop_succ_cons, List.filter_cons, Bool.not_true, Bool.false_eq_true, if_false]
   exact ⟨by rw [i1], by rw [i2]⟩
  ·have hn : ∀ b ∈ a :: l, ¬b < p := fun b hb => by
    rcases List.mem_cons.1 hb with rfl | hb
    ·exact ha
    ·have := h1 b hb; omega
   have h0 : (a :: l).countP (fun b => decide (b < p)) = 0 := List.countP_eq_zero.2 fun b hb => by simpa using hn b hb
   rw [h0]
   refine ⟨?_, ?_⟩
   ·rw [List.take_zero]; exact (List.filter_eq_nil_iff.2 fun b hb => by simpa using hn b hb).symm
   ·rw [List.drop_zero]; exact (List.filter_eq_self.2 fun b hb => by simpa using hn b hb).symm
def J75 (l : List Int) (p : Int) : List Int := l.filter (· < p) ++ p :: l.filter (p < ·)
theorem JqU {l : List Int} {p : Int} (h : l.Pairwise (· < ·)) (hp : p ∉ l) : l.take (l.countP (· < p)) ++ p :: l.drop (l.countP (· < p)) = J75 l p := by
 obtain ⟨h1, h2⟩ := Jl4 p h
 rw [h1, h2]
 unfold J75
 congr 2
 refine List.filter_congr fun b hb => ?_
 have : b ≠ p := fun e => hp (e ▸ hb)
 by_cases hb' : b < p
 ·simp only [hb', decide_true, Bool.not_true]; exact (decide_eq_false (by omega)).symm
 ·simp only [hb', decide_false, Bool.not_false]; exact (decide_eq_true (by omega)).symm
theorem Jrb {l : List Int} {p : Int} (h : l.Pairwise (· < ·)) : (J75 l p).Pairwise (· < ·) := by
 unfold J75
 refine List.pairwise_append.2 ⟨h.filter _, List.pairwise_cons.2 ⟨fun b hb => by simpa using (List.mem_filter.1 hb).2, h.filter _⟩, fun a ha b hb => ?_⟩
 have h1 : a < p := by simpa using (List.mem_filter.1 ha).2
 rcases List.mem_cons.1 hb with rfl | hb
 ·exact h1
 ·have h2 : p < b := by simpa using (List.mem_filter.1 hb).2
  omega
theorem Jkk : ∀ {l : List Int} {p : Int}, l.Pairwise (· < ·) → p ∈ l → J75 l p = l
 | [], _, _, h => by cases h
 | a :: l, p, h, hp => by
  obtain ⟨h1, h2⟩ := List.pairwise_cons.1 h
  unfold J75
  by_cases e : p = a
  ·subst e
   have e1 : (p :: l).filter (· < p) = [] := List.filter_eq_nil_iff.2 fun b hb => by
    rcases List.mem_cons.1 hb with rfl | hb
    ·simp
    ·have := h1 b hb; simp; omega
   have e2 : (p :: l).filter (p < ·) = l := by
    rw [List.filter_cons, if_neg (by simp)]
    exact List.filter_eq_self.2 fun b hb => by simpa using h1 b hb
   rw [e1, e2]; rfl
  ·have hp' : p ∈ l := (List.mem_cons.1 hp).resolve_left e
   have hap : a < p := h1 p hp'
   rw [List.filter_cons, if_pos (by simpa using hap), List.filter_cons, if_neg (by simp; omega)]
   have := Jkk h2 hp'
   unfold J75 at this
   rw [List.cons_append, this]
theorem Jqg {l : List Int} {p a : Int} (h : a ∈ J75 l p) : a = p ∨ a ∈ l := by
 unfold J75 at h
 rcases List.mem_append.1 h with h | h
 ·exact .inr (List.mem_filter.1 h).1
 ·rcases List.mem_cons.1 h with h | h
  ·exact .inl h
  ·exact .inr (List.mem_filter.1 h).1
structure VP (n : Int) (y : DT) : Prop where
 len : J8 y.1 = n
 page : ∀ s ∈ y.1, s.length = 256
 rng : ∀ p ∈ y.2.2.1, 0 ≤ p ∧ p < n
 srt : y.2.2.1.Pairwise (· < ·)
theorem VD.vp {x : DT} (h : VD x) : VP (J8 x.1) x := ⟨rfl, fun s hs => by have := h.page s hs; unfold J8 at this; omega, h.rng, Jef _ h.adj⟩
theorem Jl5 : ∀ (l : List Int) (n : Nat), l.Pairwise (· < ·) → (∀ p ∈ l, 0 ≤ p ∧ p < (n : Int)) → l.length ≤ n := by
 intro l n h hr
 have key : ∀ (l : List Int) (k : Int), l.Pairwise (· < ·) → (∀ p ∈ l, k ≤ p ∧ p < (n : Int)) → (l.length : Int) ≤ max 0 (n - k) := by
  intro l
  induction l with
  | nil => intro k _ _; simp; omega
  | cons a l ih =>
   intro k h hr
   obtain ⟨h1, h2⟩ := List.pairwise_cons.1 h
   have ha := hr a List.mem_cons_self
   have := ih (a + 1) h2 fun p hp => ⟨by have := h1 p hp; omega, (hr p (List.mem_cons_of_mem _ hp)).2⟩
   rw [List.length_cons]
   omega
 have := key l 0 h hr
 omega
theorem VD.unr {x : DT} (h : VD x) : J8 x.2.2.1 ≤ 64 := by
 have := Jl5 x.2.2.1 x.1.length h.vp.srt (fun p hp => h.rng p hp)
 have := h.p64
 unfold J8 at *; omega
theorem VP.unr {n : Int} {y : DT} (h : VP n y) (hn : n ≤ 64) : y.2.2.1.length ≤ 64 := by
 have hl := h.len
 have := Jl5 y.2.2.1 y.1.length h.srt (fun p hp => by have := h.rng p hp; unfold J8 at hl; omega)
 unfold J8 at hl; omega
theorem VP.set {n : Int} {y : DT} (h : VP n y) (t : Nat) {s : List UInt8} (hs : s.length = 256) : VP n (J4E y t s) where
 len := by show J8 (y.1.set t s) = n; unfold J8; rw [List.length_set]; exact h.len
 page := fun z hz => by
  rcases List.mem_or_eq_of_mem_set hz with hz | rfl
  ·exact h.page z hz
  ·exact hs
 rng := fun p hp => h.rng p (List.mem_filter.1 hp).1
 srt := h.srt.filter _
theorem Jrm (l : List UInt8) (b : Nat) (m : Int) : (Ji2 l b m).length = l.length := by unfold Ji2; simp
theorem VP.getD {n : Int} {y : DT} (h : VP n y) {p : Int} (h0 : 0 ≤ p) (h1 : p < n) : y.1[p.toNat]? = some (y.1.getD p.toNat []) ∧ (y.1.getD p.toNat []).length = 256 := by
 have hl : p.toNat < y.1.length := by have := h.len; unfold J8 at this; omega
 have e : y.1[p.toNat]? = some (y.1.getD p.toNat []) := by rw [List.getD_eq_getElem?_getD, List.getElem?_eq_getElem hl]; rfl
 exact ⟨e, h.page _ (List.mem_of_getElem? e)⟩
def J21 (x : DT) (f : FT) : DT :=
 if f.1 = 4 then (x.1.set f.2.2.1.toNat (Ji2 (x.1.getD f.2.2.1.toNat []) f.2.2.2.2.1.toNat f.2.2.2.2.2), x.2)
 else if f.1 = 5 then (x.1, x.2.1, J75 x.2.2.1 f.2.2.1, x.2.2.2)
 else if f.1 = 6 then (x.1, x.2.1, x.2.2.1, true, x.2.2.2.2)
 else x
theorem JqB {n : Int} {y : DT} (h : VP n y) (f : FT) : J0X y f = J21 y f := by
 unfold J0X J21
 split
 ·rfl
 ·split
  ·by_cases hc : f.2.2.1 ∈ y.2.2.1
   ·rw [if_pos (List.contains_iff_mem.2 hc), Jkk h.srt hc]
   ·rw [if_neg (fun k => hc (List.contains_iff_mem.1 k)), JqU h.srt hc]
  ·rfl
theorem VP.harm {n w : Int} {y : DT} (h : VP n y) {f : FT} (hf : J3Q n w f) : VP n (J21 y f) := by
 unfold J21
 split
 ·refine ⟨?_, fun z hz => ?_, h.rng, h.srt⟩
  ·show J8 (List.set _ _ _) = n; unfold J8; rw [List.length_set]; exact h.len
  ·rcases List.mem_or_eq_of_mem_set hz with hz | rfl
   ·exact h.page z hz
   ·rw [Jrm]; exact (h.getD hf.p0 hf.p1).2
 ·split
  ·exact ⟨h.len, h.page, fun p hp => (Jqg hp).elim (fun e => e ▸ ⟨hf.p0, hf.p1⟩) (h.rng p), Jrb h.srt⟩
  ·split
   ·exact ⟨h.len, h.page, h.rng, h.srt⟩
   ·exact h
theorem Jlj (y : DT) (f : FT) : (J21 y f).2.1 = y.2.1 ∧ (J21 y f).2.2.2.2 = y.2.2.2.2 ∧ (J21 y f).1.length = y.1.length := by
 unfold J21
 split
 ·exact ⟨rfl, rfl, List.length_set ..⟩
 ·split
  ·exact ⟨rfl, rfl, rfl⟩
  ·split <;> exact ⟨rfl, rfl, rfl⟩
def Byt (l : List FT) : Prop := ∀ f ∈ l, 0 ≤ f.2.2.2.2.2 ∧ f.2.2.2.2.2 ≤ 255
theorem JrO {n w : Int} {y : DT} (h : VP n y) (hn : n ≤ 64) {f : FT} (hf : J3Q n w f) (hm : 0 ≤ f.2.2.2.2.2 ∧ f.2.2.2.2.2 ≤ 255) : HOk y f where
 len := by have := h.len; unfold J8 at this; omega
 ulen := by have := h.unr hn; omega
 sorted := fun _ => h.srt.imp fun h => Int.le_of_lt h
 page := fun _ => ⟨hf.p0, by have := h.len; have := hf.p1; have := hf.p0; unfold J8 at *; omega⟩
 byte := fun _ => ⟨hf.b0, by rw [(h.getD hf.p0 hf.p1).2]; have := hf.b0; have := hf.b1; omega⟩
 mask := fun _ => hm
theorem Jg3 {n w : Int} (hn : n ≤ 64) : ∀ {l : List FT} {y : DT}, VP n y → (∀ f ∈ l, J3Q n w f) → Byt l → l.foldlM J18 y = some (l.foldl J21 y) ∧ VP n (l.foldl J21 y) ∧ (l.foldl J21 y).2.1 = y.2.1 ∧ (l.foldl J21 y).2.2.2.2 = y.2.2.2.2
 | [], y, h, _, _ => ⟨rfl, h, rfl, rfl⟩
 | f :: l, y, h, hf, hb => by
  have h1 := h.harm (hf f List.mem_cons_self)
  have e : J18 y f = some (J21 y f) := by
   unfold J18
   rw [if_pos (JrO h hn (hf f List.mem_cons_self) (hb f List.mem_cons_self)), JqB h]
  obtain ⟨i1, i2, i3, i4⟩ := Jg3 hn h1 (fun g hg => hf g (List.mem_cons_of_mem _ hg)) (fun g hg => hb g (List.mem_cons_of_mem _ hg))
  obtain ⟨k1, k2, _⟩ := Jlj y f
  refine ⟨?_, i2, i3.trans k1, i4.trans k2⟩
  rw [List.foldlM_cons, e]
  exact i1
def J9v (e : Int × Int) (x : DT) (p : Int) (s : List UInt8) : DT :=
 if e.1 = 1 then x else if e.1 = 2 then J4E x e.2.toNat s else if e.1 = 3 then J4E x p.toNat (s.take e.2.toNat ++ (x.1.getD p.toNat []).drop e.2.toNat) else J4E x p.toNat s
def wM (x : DT) (p : Int) (s : List UInt8) : DT := (J6T x).foldl J21 (J9v (J1C (J6T x)) (J70 x) p s)
theorem Jg5 {P : FT → Prop} : ∀ {l : List FT}, (∀ f ∈ l, P f) → (J1C l = (0, 0) ∧ ∀ f ∈ l, f.1 ≠ 1 ∧ f.1 ≠ 2 ∧ f.1 ≠ 3) ∨ J1C l = (1, 0) ∨ (∃ f, P f ∧ J1C l = (2, f.2.2.2.1)) ∨ ∃ f, P f ∧ J1C l = (3, f.2.2.2.2.1)
 | [], _ => .inl ⟨rfl, fun f h => by cases h⟩
 | f :: l, h => by
  unfold J1C
  split
  ·exact .inr (.inl rfl)
  ·split
   ·exact .inr (.inr (.inl ⟨f, h f List.mem_cons_self, rfl⟩))
   ·split
    ·exact .inr (.inr (.inr ⟨f, h f List.mem_cons_self, rfl⟩))
    ·rename_i h1 h2 h3
     rcases Jg5 (fun g hg => h g (List.mem_cons_of_mem _ hg)) with ⟨e, hh⟩ | e
     ·exact .inl ⟨e, fun g hg => by
       rcases List.mem_cons.1 hg with rfl | hg
       ·exact ⟨h1, h2, h3⟩
       ·exact hh g hg⟩
     ·exact .inr e
theorem Jfv {x : DT} {f : FT} (h : f ∈ J6T x) : f ∈ x.2.2.2.2 ∧ f.2.1 = x.2.1 + 1 := by
 unfold J6T at h
 obtain ⟨h1, h2⟩ := List.mem_filter.1 h
 exact ⟨h1, by simpa using h2⟩
theorem Jj0 {x : DT} {f : FT} (h : f ∈ (J70 x).2.2.2.2) : f ∈ x.2.2.2.2 ∧ ¬f.2.1 = x.2.1 + 1 := by
 unfold J70 at h
 obtain ⟨h1, h2⟩ := List.mem_filter.1 h
 exact ⟨h1, by simpa using h2⟩
theorem Jmu {n w : Int} {y : DT} (h : VP n y) (hn : n ≤ 64) {l : List FT} (hf : ∀ f ∈ l, J3Q n w f) {p : Int} (h0 : 0 ≤ p) (h1 : p < n) {s : List UInt8} (hs : s.length = 256) :
  Jos (J1C l) y p s = some (J9v (J1C l) y p s) ∧ VP n (J9v (J1C l) y p s) ∧ (J9v (J1C l) y p s).2.1 = y.2.1 ∧ (J9v (J1C l) y p s).2.2.2.2 = y.2.2.2.2 := by
 have hlen := h.len
 have hul := h.unr hn
 have hll : (y.1.length : Int) = n := hlen
 have hset : ∀ (t : Int) (z : List UInt8), 0 ≤ t → t < n → z.length = 256 → J8u y t z = some (J4E y t.toNat z) := fun t z ht0 ht1 hz => by
  unfold J8u
  rw [if_pos ⟨ht0, by omega, by omega, by omega⟩]
 rcases Jg5 hf with ⟨e, _⟩ | e | ⟨f, hf', e⟩ | ⟨f, hf', e⟩ <;> rw [e] <;> unfold Jos J9v <;> dsimp only
 ·rw [if_neg (by decide), if_neg (by decide), if_neg (by decide), if_neg (by decide), if_neg (by decide), if_neg (by decide)]
  exact ⟨hset p s h0 h1 hs, h.set _ hs, rfl, rfl⟩
 ·rw [if_pos rfl, if_pos rfl]; exact ⟨rfl, h, rfl, rfl⟩
 ·rw [if_neg (by decide), if_pos rfl, if_neg (by decide), if_pos rfl]
  exact ⟨hset _ s hf'.t0 hf'.t1 hs, h.set _ hs, rfl, rfl⟩
 ·rw [if_neg (by decide), if_neg (by decide), if_pos rfl, if_neg (by decide), if_neg (by decide), if_pos rfl]
  obtain ⟨_, g⟩ := h.getD h0 h1
  have b0 := hf'.b0
  have b1 := hf'.b1
  have hz : (s.take f.2.2.2.2.1.toNat ++ (y.1.getD p.toNat []).drop f.2.2.2.2.1.toNat).length = 256 := by
   rw [List.length_append, List.length_take, List.length_drop, g]; omega
  refine ⟨?_, h.set _ hz, rfl, rfl⟩
  unfold Jhm
  rw [if_pos ⟨b0, by omega, h0, by omega, by omega, g⟩]
  exact hset p _ h0 h1 hz
theorem Jhl {x : DT} (hv : VD x) (hb : Byt x.2.2.2.2) {p : Int} (h0 : 0 ≤ p) (h1 : p < J8 x.1) {s : List UInt8} (hs : s.length = 256) (hw : x.2.1 < 1099511627776) :
  JbK x p s = some (wM x p s) ∧ VD (wM x p s) ∧ Byt (wM x p s).2.2.2.2 ∧ J8 (wM x p s).1 = J8 x.1 ∧ (wM x p s).2.1 = x.2.1 + 1 ∧ (wM x p s).2.2.2.2 = x.2.2.2.2.filter (fun f => !(f.2.1 == x.2.1 + 1)) := by
 have hvr : VP (J8 x.1) (J70 x) := ⟨rfl, hv.vp.page, hv.vp.rng, hv.vp.srt⟩
 have hn : ∀ f ∈ J6T x, J3Q (J8 x.1) x.2.1 f := fun f hf => hv.flt f (Jfv hf).1
 obtain ⟨e1, e2, e3, e4⟩ := Jmu hvr hv.p64 hn h0 h1 hs
 obtain ⟨f1, f2, f3, f4⟩ := Jg3 hv.p64 e2 hn (fun f hf => hb f (Jfv hf).1)
 have k3 : (wM x p s).2.1 = x.2.1 + 1 := f3.trans e3
 have k4 : (wM x p s).2.2.2.2 = (J70 x).2.2.2.2 := f4.trans e4
 refine ⟨?_, ?_, ?_, f2.len, k3, k4⟩
 ·unfold JbK
  rw [e1, Option.bind_some]
  exact f1
 ·have hl := f2.len
  refine ⟨?_, ?_, ?_, ?_, ?_, ?_, ?_, ?_, ?_⟩
  ·show 1 ≤ J8 (wM x p s).1; rw [show J8 (wM x p s).1 = J8 x.1 from hl]; exact hv.p1
  ·show J8 (wM x p s).1 ≤ 64; rw [show J8 (wM x p s).1 = J8 x.1 from hl]; exact hv.p64
  ·rw [k3]; have := hv.w0; omega
  ·rw [k3]; omega
  ·rw [k4]
   have : (J70 x).2.2.2.2.length ≤ x.2.2.2.2.length := List.length_filter_le _ _
   have := hv.f64
   unfold J8 at *; omega
  ·intro z hz; have := f2.page z hz; unfold J8; omega
  ·intro q hq; rw [show J8 (wM x p s).1 = J8 x.1 from hl]; exact f2.rng q hq
  ·exact Jlq f2.srt
  ·intro f hf
   rw [k4] at hf
   obtain ⟨m1, m2⟩ := Jj0 hf
   have := hv.flt f m1
   rw [show J8 (wM x p s).1 = J8 x.1 from hl, k3]
   exact ⟨this.kind, this.used, by have := this.after; omega, this.most, this.p0, this.p1, this.t0, this.t1, this.b0, this.b1, this.mask⟩
 ·intro f hf; rw [k4] at hf; exact hb f (Jj0 hf).1
def wrD (x : DT) (p : Int) (s : List UInt8) : DT × Int := if usD x p = 0 then if s.length = 256 then if x.2.1 = 1099511627776 then (J9f, 21) else (wM x p s, 0) else (J9f, 2) else (J9f, usD x p)
theorem JcU (x : DT) (p : Int) (s : List UInt8) (hu : J8 x.2.2.1 ≤ 1000000000000) (hb : Byt x.2.2.2.2) : J01 (x, p, s) = some (wrD x p s) := by
 unfold J01 JdP
 dsimp only
 rw [JmV x p hu, Option.bind_some]
 unfold wrD
 by_cases h : usD x p = 0
 ·rw [if_neg (by simpa using h), if_pos h]
  by_cases hs : s.length = 256
  ·rw [if_neg (by simpa using hs), if_pos hs]
   by_cases hw : x.2.1 = 1099511627776
   ·rw [if_pos hw, if_pos hw]; rfl
   ·rw [if_neg hw, if_neg hw]
    obtain ⟨hv, _, h0, h1⟩ := J9H h
    have w1 := hv.w1
    have f64 := hv.f64
    unfold J8 at f64
    rw [if_pos ⟨hv.w0, by omega, by omega⟩, (Jhl hv hb h0 h1 hs (by omega)).1]
    rfl
  ·rw [if_pos (by simpa using hs), if_neg hs]; rfl
 ·rw [if_pos (by simpa using h), if_neg h]; rfl
theorem JmF {x : DT} (hv : VD x) (hd : x.2.2.2.1 = false) {p : Int} (h0 : 0 ≤ p) (h1 : p < J8 x.1) {s : List UInt8} (hs : s.length = 256) (hw : x.2.1 < 1099511627776) : wrD x p s = (wM x p s, 0) := by
 unfold wrD
 rw [if_pos (JpO hv hd h0 h1), if_pos hs, if_neg (by omega)]
end
end Go.Am
end
section
namespace Go.Am
section
variable (P : Program)
def J6C : Nat → TypeId → Bool
 | 0, _ => false
 | n + 1, t => match P.underlying t with
  | some .bool => true
  | some (.int _) => true
  | some .string => true
  | some (.slice e) => J6C n e && decide (t < P.types.size ∧ 0 < P.cellsOf e)
  | some (.struct fs) => fs.toList.all (fun f => J6C n f.type) && decide (t < P.types.size)
  | some (.array _ e) => J6C n e && decide (t < P.types.size)
  | _ => false
def J3m : Nat → TypeId → List PV → Prop
 | 0, _, _ => False
 | n + 1, t, pvs => match P.underlying t with
  | some .bool => ∃ b, pvs = [.b b]
  | some (.int k) => ∃ z, pvs = [.i k z] ∧ (Lit.int k z).wf = true
  | some .string => ∃ l, pvs = [.s l] ∧ l.length ≤ maxLen
  | some (.slice e) => ∃ rows, pvs = [.sl (P.cellsOf e) rows] ∧ rows.length ≤ maxLen ∧ ∀ row ∈ rows, row.length = P.cellsOf e ∧ J3m n e row
  | some (.struct fs) => pvs.length = P.cellsOf t ∧ ∀ f ∈ fs.toList, J3m n f.type ((pvs.drop f.offset).take (P.cellsOf f.type))
  | some (.array m e) => pvs.length = P.cellsOf t ∧ ∀ i, i < m → J3m n e ((pvs.drop (i * P.cellsOf e)).take (P.cellsOf e))
  | _ => False
end
section
variable {H : Type} {enc : TypeId × Value → H} {P : Program} {w : World} {base : Nat} {sp : Nat → Bool} {held : Bool}
def Jlw (w : World) (pvs : List PV) (cs : List Value) : Prop :=
 pvs.length = cs.length ∧ ∀ (i : Nat) p v, pvs[i]? = some p → cs[i]? = some v → Jp w (fun r _ => r < w.heap.size) p v
theorem Jga {a : Addr} {v : Value} (h : w.cell? a = some v) : a.spot = none ∧ cellAt w a.block a.off = some v ∧ a.block < w.heap.size := by
 unfold World.cell? at h
 unfold cellAt
 split at h
 ·rename_i c t fz hb
  split at h
  ·cases h
  ·rename_i hs
   refine ⟨by simpa using hs, by rw [hb]; exact h, ?_⟩
   have := Array.getElem?_eq_some_iff.1 hb
   exact this.1
 ·cases h
theorem Jpq {a : Addr} {n : Nat} {cs : List Value} (h : w.cells? base a n = some cs) : cs.length = n ∧ ∀ i v, cs[i]? = some v → w.cell? (a.add i) = some v := by
 unfold World.cells? at h
 split at h
 ·have hl := mapM_some_length h
  refine ⟨by simpa using hl, fun i v hv => ?_⟩
  have hi : i < n := by
   have := (List.getElem?_eq_some_iff.1 hv).1
   simp at hl; omega
  have := mapM_some_get h i i (by simp [hi])
  rw [this, hv]
 ·cases h
theorem Jeh {α : Type} (Q : Nat → α → Prop) : ∀ (m : Nat), (∀ i, i < m → ∃ x, Q i x) → ∃ xs : List α, xs.length = m ∧ ∀ i x, xs[i]? = some x → Q i x
 | 0, _ => ⟨[], rfl, fun i x h => by simp at h⟩
 | m + 1, h => by
  obtain ⟨xs, hl, hx⟩ := Jeh Q m (fun i hi => h i (by omega))
  obtain ⟨y, hy⟩ := h m (by omega)
  refine ⟨xs ++ [y], by simp [hl], fun i x hi => ?_⟩
  rcases Nat.lt_or_ge i xs.length with hlt | hge
  ·rw [List.getElem?_append_left hlt] at hi; exact hx i x hi
  ·rw [List.getElem?_append_right hge] at hi
   have : i - xs.length = 0 := by
    have := (List.getElem?_eq_some_iff.1 hi).1
    simp at this; omega
   rw [this] at hi
   simp at hi; subst hi
   obtain rfl : i = m := by omega
   exact hy
theorem Jbj {α : Type} : ∀ (xs : List (List α)) (j : Nat) (y : List α), xs[j]? = some y → (xs.flatten.drop ((xs.take j).map List.length).sum).take y.length = y
 | [], j, y, h => by simp at h
 | x :: xs, 0, y, h => by simp at h; subst h; simp
 | x :: xs, j + 1, y, h => by
  simp at h
  have := Jbj xs j y h
  simp only [List.take_succ_cons, List.map_cons, List.sum_cons, List.flatten_cons, List.drop_length_add_append]
  exact this
theorem Jqj (hl : laidOutB P = true) (hm : mapsRowed P = true) : ∀ (n : Nat) (t : TypeId) (cs : List Value) (x : DataW H × List MemPlace) (fuel : Nat), J6C P n t = true → DataW.trod enc P w base sp held fuel t cs = some x →
  ∃ pvs, J3m P n t pvs ∧ Jlw w pvs cs := by
 have K := kids_rows hl hm
 intro n
 induction n with
 | zero => intro t cs x fuel hp; simp [J6C] at hp
 | succ n ih =>
  intro t cs x fuel hp h
  unfold J6C at hp
  unfold J3m
  split at hp
  ·rename_i ht
   obtain ⟨b, rfl, _⟩ := DataW.trod_bool ht h
   refine ⟨[.b b], by simp, rfl, fun i p v h1 h2 => ?_⟩
   match i with
   | 0 => simp at h1 h2; subst h1 h2; exact .b _
   | i + 1 => simp at h1
  ·rename_i k ht
   obtain ⟨z, rfl, _, hwf⟩ := DataW.trod_int ht h
   refine ⟨[.i k z], by simpa using hwf, rfl, fun i p v h1 h2 => ?_⟩
   match i with
   | 0 => simp at h1 h2; subst h1 h2; exact .i _ _
   | i + 1 => simp at h1
  ·rename_i ht
   obtain ⟨s, rfl, _, hsz⟩ := DataW.trod_string ht h
   refine ⟨[.s s.data.toList], ⟨_, rfl, by rw [Array.length_toList]; exact hsz⟩, rfl, fun i p v h1 h2 => ?_⟩
   match i with
   | 0 => simp at h1 h2; subst h1 h2; exact .s _
   | i + 1 => simp at h1
  ·rename_i e ht
   simp only [Bool.and_eq_true, decide_eq_true_eq] at hp
   rcases DataW.trod_slice ht h with ⟨rfl, _⟩ | ⟨a, len, cap, elems, rest, n0, _, rfl, _, _, hlc, hcm, hel, hat, _⟩
   ·refine ⟨[.sl (P.cellsOf e) []], ⟨[], rfl, Nat.zero_le _, by simp⟩, rfl, fun i p v h1 h2 => ?_⟩
    match i with
    | 0 => simp at h1 h2; subst h1 h2; exact .sl0 _ _ _
    | i + 1 => simp at h1
   ·
    have hrow : ∀ i, i < len → ∃ row : List PV, (row.length = P.cellsOf e ∧ J3m P n e row) ∧ ∀ j p, row[j]? = some p → ∃ v, w.cell? (a.add (i * P.cellsOf e) |>.add j) = some v ∧ Jp w (fun r _ => r < w.heap.size) p v := by
     intro i hi
     have h1 := hat i hi
     have h2 : ∃ y, elems[i]? = some y := ⟨_, List.getElem?_eq_getElem (by omega)⟩
     obtain ⟨y, hy⟩ := h2
     rw [hy, Option.bind_eq_some_iff] at h1
     obtain ⟨cs', hc, ht'⟩ := h1
     obtain ⟨row, q1, q2, q3⟩ := ih e cs' y n0 hp.1 ht'
     obtain ⟨c1, c2⟩ := Jpq hc
     refine ⟨row, ⟨by omega, q1⟩, fun j p hj => ?_⟩
     have hlt : j < cs'.length := by have := (List.getElem?_eq_some_iff.1 hj).1; omega
     have hv := List.getElem?_eq_getElem hlt
     exact ⟨_, c2 j _ hv, q3 j p _ hj hv⟩
    obtain ⟨rows, hrl, hrows⟩ := Jeh _ len hrow
    refine ⟨[.sl (P.cellsOf e) rows], ⟨rows, rfl, by omega, fun row hr => ?_⟩, rfl, fun i p v h1 h2 => ?_⟩
    ·obtain ⟨i, hi⟩ := List.getElem?_of_mem hr
     exact (hrows i row hi).1
    match i with
    | i + 1 => simp at h1
    | 0 =>
     simp at h1 h2; subst h1 h2
     by_cases h0 : ∃ (i j : Nat) (row : List PV) (p : PV), rows[i]? = some row ∧ row[j]? = some p
     ·obtain ⟨i0, j0, row0, p0, hr0, hp0⟩ := h0
      have spot : a.spot = none ∨ P.cellsOf e = 0 := by
       rcases Nat.eq_zero_or_pos (P.cellsOf e) with hz | hpos
       ·exact .inr hz
       ·have hlen : 0 < len := by have := (List.getElem?_eq_some_iff.1 hr0).1; omega
        have hr00 := List.getElem?_eq_getElem (l := rows) (i := 0) (by omega)
        have q := hrows 0 _ hr00
        have hj0 := List.getElem?_eq_getElem (l := rows[0]'(by omega)) (i := 0) (by omega)
        obtain ⟨v, hv, _⟩ := q.2 0 _ hj0
        rw [Nat.zero_mul] at hv
        exact .inl (by simpa [Addr.add] using (Jga hv).1)
      rcases spot with spot | hz
      ·have cell : ∀ (i j : Nat) (row : List PV) (p : PV), rows[i]? = some row → row[j]? = some p → ∃ v, (a.block < w.heap.size ∧ cellAt w a.block (a.off + i * P.cellsOf e + j) = some v) ∧ Jp w (fun r _ => r < w.heap.size) p v := by
        intro i j row p hi hj
        obtain ⟨v, hv, hr⟩ := (hrows i row hi).2 j p hj
        obtain ⟨s1, s2, s3⟩ := Jga hv
        refine ⟨v, ?_, hr⟩
        have e1 : ((a.add (i * P.cellsOf e)).add j).block = a.block := by unfold Addr.add; split <;> split <;> rfl
        have e2 : ((a.add (i * P.cellsOf e)).add j).off = a.off + i * P.cellsOf e + j := by
         unfold Addr.add
         split <;> split <;> simp_all
        rw [e1] at s3
        rw [e1, e2] at s2
        exact ⟨s3, s2⟩
       have ea : a = ⟨a.block, a.off, none⟩ := by cases a; simp_all
       rw [ea, ← hrl]
       refine .sl _ rows a.block a.off cap (fun i j => ((cellAt w a.block (a.off + i * P.cellsOf e + j)).getD default)) (by omega) (fun row hr => ?_) (fun i j row p hi hj => ?_) (fun i j row p hi hj => ?_)
       ·obtain ⟨i, hi⟩ := List.getElem?_of_mem hr
        exact (hrows i row hi).1.1
       ·obtain ⟨v, ⟨h3, h4⟩, _⟩ := cell i j row p hi hj
        exact ⟨h3, by rw [h4]; rfl⟩
       ·obtain ⟨v, ⟨h3, h4⟩, h5⟩ := cell i j row p hi hj
        rw [h4]; exact h5
      ·have := (hrows i0 row0 hr0).1.1
       have := (List.getElem?_eq_some_iff.1 hp0).1
       omega
     ·
      rcases Nat.eq_zero_or_pos len with hz | hpos
      ·have : rows = [] := by cases rows <;> simp_all
       subst this
       subst hz
       exact .sl0 _ _ _
      ·exfalso
       have hr00 := List.getElem?_eq_getElem (l := rows) (i := 0) (by omega)
       have q := (hrows 0 _ hr00).1.1
       exact h0 ⟨0, 0, _, _, hr00, List.getElem?_eq_getElem (by omega)⟩
  ·rename_i fs ht
   simp only [Bool.and_eq_true, decide_eq_true_eq, List.all_eq_true] at hp
   obtain ⟨xs, n0, _, _, hcl, hxl, hat⟩ := DataW.trod_struct ht h
   obtain ⟨_, ksum, koff⟩ := K.struct hp.2 ht
   have hf : ∀ i, i < fs.toList.length → ∃ ys : List PV, ∀ f, fs.toList[i]? = some f → J3m P n f.type ys ∧ Jlw w ys ((cs.drop f.offset).take (P.cellsOf f.type)) := by
    intro i hi
    have hfi := List.getElem?_eq_getElem hi
    have hmem := List.mem_of_getElem? hfi
    have hfa : fs[i]? = some (fs.toList[i]) := by rw [← Array.getElem?_toList]; exact hfi
    have h1 := hat i _ hfa
    have h2 : ∃ y, xs[i]? = some y := ⟨_, List.getElem?_eq_getElem (by simpa [hxl] using hi)⟩
    obtain ⟨y, hy⟩ := h2
    rw [hy] at h1
    obtain ⟨ys, q1, q2⟩ := ih _ _ _ _ (hp.1 _ hmem) h1
    refine ⟨ys, fun f hff => ?_⟩
    rw [hfi] at hff; injection hff with hff; subst hff
    exact ⟨q1, q2⟩
   obtain ⟨yss, hyl, hys⟩ := Jeh _ _ hf
   have hlen : ∀ (j : Nat) (f : Field), fs.toList[j]? = some f → ∀ ys : List PV, yss[j]? = some ys → ys.length = P.cellsOf f.type := by
    intro j f hj ys hy
    have q := (hys j ys hy f hj).2.1
    have o := koff j f hj
    rw [q, List.length_take, List.length_drop, hcl, ksum, o]
    have : ((fs.toList.take j).map fun f => P.cellsOf f.type).sum + P.cellsOf f.type ≤ (fs.toList.map fun f => P.cellsOf f.type).sum := by
     have e1 : fs.toList = fs.toList.take j ++ (f :: fs.toList.drop (j + 1)) := by
      have hjl := (List.getElem?_eq_some_iff.1 hj)
      obtain ⟨hjl, he⟩ := hjl
      rw [← he, ← List.drop_eq_getElem_cons hjl, List.take_append_drop]
     conv => rhs; rw [e1]
     simp only [List.map_append, List.map_cons, List.sum_append, List.sum_cons]
     omega
    omega
   have hmapl : yss.map List.length = fs.toList.map fun f => P.cellsOf f.type := by
    apply List.ext_getElem?
    intro j
    rw [List.getElem?_map, List.getElem?_map]
    cases hy : yss[j]? with
    | none =>
     have : fs.toList[j]? = none := by rw [List.getElem?_eq_none_iff] at hy ⊢; omega
     rw [this]; rfl
    | some ys =>
     have hj : j < fs.toList.length := by have := (List.getElem?_eq_some_iff.1 hy).1; omega
     have hfj := List.getElem?_eq_getElem hj
     rw [hfj]
     simp only [Option.map_some]
     rw [hlen j _ hfj ys hy]
   have hoff : ∀ (j : Nat) (f : Field), fs.toList[j]? = some f → ((yss.take j).map List.length).sum = f.offset := by
    intro j f hj
    rw [koff j f hj, List.map_take, hmapl, ← List.map_take]
   refine ⟨yss.flatten, ⟨?_, fun f hf => ?_⟩, ?_, fun i p v h1 h2 => ?_⟩
   ·rw [List.length_flatten, hmapl, ksum]
   ·obtain ⟨j, hj⟩ := List.getElem?_of_mem hf
    have hjl : j < yss.length := by have := (List.getElem?_eq_some_iff.1 hj).1; omega
    have hyj := List.getElem?_eq_getElem hjl
    have := Jbj yss j _ hyj
    rw [hoff j f hj, hlen j f hj _ hyj] at this
    rw [this]
    exact (hys j _ hyj f hj).1
   ·rw [List.length_flatten, hmapl, hcl, ksum]
   ·
    have key : ∀ (l : List (List PV)) (i : Nat) p, l.flatten[i]? = some p → ∃ j ys k, l[j]? = some ys ∧ ys[k]? = some p ∧ i = ((l.take j).map List.length).sum + k := by
     intro l
     induction l with
     | nil => intro i p h; simp at h
     | cons y l ihl =>
      intro i p h
      rw [List.flatten_cons] at h
      rcases Nat.lt_or_ge i y.length with hlt | hge
      ·rw [List.getElem?_append_left hlt] at h
       exact ⟨0, y, i, rfl, h, by simp⟩
      ·rw [List.getElem?_append_right hge] at h
       obtain ⟨j, ys, k, a1, a2, a3⟩ := ihl _ _ h
       exact ⟨j + 1, ys, k, by simpa using a1, a2, by simp only [List.take_succ_cons, List.map_cons, List.sum_cons]; omega⟩
    obtain ⟨j, ys, k, a1, a2, a3⟩ := key _ _ _ h1
    have hj : j < fs.toList.length := by have := (List.getElem?_eq_some_iff.1 a1).1; omega
    have hfj := List.getElem?_eq_getElem hj
    have q := (hys j ys a1 _ hfj).2
    refine q.2 k p v a2 ?_
    have hk : k < P.cellsOf (fs.toList[j]).type := by have := (List.getElem?_eq_some_iff.1 a2).1; rw [hlen j _ hfj ys a1] at this; exact this
    rw [List.getElem?_take_of_lt hk, List.getElem?_drop, ← hoff j _ hfj, ← a3]
    exact h2
  ·rename_i m e ht
   simp only [Bool.and_eq_true, decide_eq_true_eq] at hp
   obtain ⟨xs, n0, _, _, hcl, hxl, hat⟩ := DataW.trod_array ht h
   obtain ⟨_, ksz⟩ := K.array hp.2 ht
   have hf : ∀ i, i < m → ∃ ys : List PV, J3m P n e ys ∧ Jlw w ys ((cs.drop (i * P.cellsOf e)).take (P.cellsOf e)) := by
    intro i hi
    have h1 := hat i hi
    have h2 : ∃ y, xs[i]? = some y := ⟨_, List.getElem?_eq_getElem (by omega)⟩
    obtain ⟨y, hy⟩ := h2
    rw [hy] at h1
    exact ih _ _ _ _ hp.1 h1
   obtain ⟨yss, hyl, hys⟩ := Jeh _ _ hf
   have hlen : ∀ (j : Nat) ys, yss[j]? = some ys → ys.length = P.cellsOf e := by
    intro j ys hy
    have q := (hys j ys hy).2.1
    have hj : j < m := by have := (List.getElem?_eq_some_iff.1 hy).1; omega
    rw [q, List.length_take, List.length_drop, hcl, ksz]
    have : j * P.cellsOf e + P.cellsOf e ≤ m * P.cellsOf e := by rw [← Nat.succ_mul]; exact Nat.mul_le_mul_right _ hj
    omega
   have hall : ∀ y ∈ yss, y.length = P.cellsOf e := fun y hy => by
    obtain ⟨j, hj⟩ := List.getElem?_of_mem hy
    exact hlen j y hj
   have hsum : ∀ l : List (List PV), (∀ y ∈ l, y.length = P.cellsOf e) → (l.map List.length).sum = l.length * P.cellsOf e := by
    intro l
    induction l with
    | nil => intro _; simp
    | cons y l ihl => intro hh; simp [hh y (by simp), ihl (fun z hz => hh z (by simp [hz])), Nat.succ_mul, Nat.add_comm]
   have hoff : ∀ j, j ≤ m → ((yss.take j).map List.length).sum = j * P.cellsOf e := by
    intro j hj
    rw [hsum _ (fun y hy => hall y (List.mem_of_mem_take hy)), List.length_take, hyl, Nat.min_eq_left hj]
   refine ⟨yss.flatten, ⟨?_, fun j hj => ?_⟩, ?_, fun i p v h1 h2 => ?_⟩
   ·rw [List.length_flatten, hsum _ hall, hyl, ksz]
   ·have hyj := List.getElem?_eq_getElem (l := yss) (i := j) (by omega)
    have := Jbj yss j _ hyj
    rw [hoff j (by omega), hlen j _ hyj] at this
    rw [this]
    exact (hys j _ hyj).1
   ·rw [List.length_flatten, hsum _ hall, hcl, hyl, ksz]
   ·have key : ∀ (l : List (List PV)) (i : Nat) p, l.flatten[i]? = some p → ∃ j ys k, l[j]? = some ys ∧ ys[k]? = some p ∧ i = ((l.take j).map List.length).sum + k := by
     intro l
     induction l with
     | nil => intro i p h; simp at h
     | cons y l ihl =>
      intro i p h
      rw [List.flatten_cons] at h
      rcases Nat.lt_or_ge i y.length with hlt | hge
      ·rw [List.getElem?_append_left hlt] at h
       exact ⟨0, y, i, rfl, h, by simp⟩
      ·rw [List.getElem?_append_right hge] at h
       obtain ⟨j, ys, k, a1, a2, a3⟩ := ihl _ _ h
       exact ⟨j + 1, ys, k, by simpa using a1, a2, by simp only [List.take_succ_cons, List.map_cons, List.sum_cons]; omega⟩
    obtain ⟨j, ys, k, a1, a2, a3⟩ := key _ _ _ h1
    have hj : j < m := by have := (List.getElem?_eq_some_iff.1 a1).1; omega
    have q := (hys j ys a1).2
    refine q.2 k p v a2 ?_
    have hk : k < P.cellsOf e := by have := (List.getElem?_eq_some_iff.1 a2).1; rw [hlen j ys a1] at this; exact this
    rw [List.getElem?_take_of_lt hk, List.getElem?_drop, ← hoff j (by omega), ← a3]
    exact h2
  ·cases hp
end
end Go.Am
end
section
namespace Go.Am
open Go.ChangeShapes Go.WideShapes Go.ChangeAt Go.RowKit
def gh0 (w : World) : Gh := ⟨fun _ => none, fun r _ => r < w.heap.size⟩
theorem Jfi (g : Gh) (w : World) (b r o : Nat) : ¬ Wr1 ⟨[], g, w⟩ b r o := by
 unfold Wr1; simp
theorem Jtk (w : World) : Inv ⟨[], gh0 w, w⟩ where
 box := fun b cs h => by simp at h
 arr := fun b wm esz rows h => by simp at h
 apart := fun b1 b2 r o h => absurd h (Jfi _ _ _ _ _)
 const := fun r o h => ⟨h, fun b => Jfi _ _ _ _ _⟩
def J8X (w w' : World) : Prop := J8m (fun _ _ => False) w w'
theorem J8X.kept {w w' : World} (h : J8X w w') (may : MemPlace → Prop) : w.keptBut w' may := by
 obtain ⟨h1, h2, h3, h4, h5⟩ := h
 refine ⟨h4, h5, fun i hi => ?_⟩
 have hg := Array.getElem?_eq_getElem hi
 cases hw : w.heap[i]? with
 | none => rw [hg] at hw; cases hw
 | some x =>
  cases x with
  | cells c e fz =>
   obtain ⟨c', q1, q2, q3⟩ := h2 i c e fz hw
   rw [q1]
   exact ⟨rfl, rfl, q2, fun j _ => q3 j (fun hf => hf)⟩
  | map es clock =>
   have := h3 i _ hw (fun c e fz he => by cases he)
   rw [this]
   exact .inr ⟨rfl, rfl⟩
  | _ =>
   have := h3 i _ hw (fun c e fz he => by cases he)
   rw [this]
theorem J8X.same {w w' : World} (h : J8X w w') {p : MemPlace} (hp : p.block < w.heap.size) : w.sameAt w' p := by
 obtain ⟨h1, h2, h3, h4, h5⟩ := h
 cases p with
 | cell b off =>
  have hb : b < w.heap.size := hp
  have hg := Array.getElem?_eq_getElem hb
  show w'.cell? ⟨b, off, none⟩ = w.cell? ⟨b, off, none⟩
  rw [J2d, J2d]
  unfold cellAt
  cases hw : w.heap[b]? with
  | none => rw [hg] at hw; cases hw
  | some x =>
   cases x with
   | cells c e fz =>
    obtain ⟨c', q1, q2, q3⟩ := h2 b c e fz hw
    rw [q1]
    exact q3 off (fun hf => hf)
   | _ =>
    have := h3 b _ hw (fun c e fz he => by cases he)
    rw [this]
 | map b =>
  have hb : b < w.heap.size := hp
  have hg := Array.getElem?_eq_getElem hb
  show w'.heap[b]? = w.heap[b]?
  cases hw : w.heap[b]? with
  | none => rw [hg] at hw; cases hw
  | some x =>
   cases x with
   | cells c e fz =>
    obtain ⟨c', q1, q2, q3⟩ := h2 b c e fz hw
    rw [q1]
    have : c' = c := by
     apply Array.ext_getElem?
     intro i
     exact q3 i (fun hf => hf)
    rw [this]
   | _ => exact h3 b _ hw (fun c e fz he => by cases he)
theorem J8X.frozen {w w' : World} (h : J8X w w') {a : Addr} (hp : a.block < w.heap.size) : w'.frozen? a = w.frozen? a := by
 obtain ⟨h1, h2, h3, h4, h5⟩ := h
 have hg := Array.getElem?_eq_getElem hp
 unfold World.frozen?
 cases hw : w.heap[a.block]? with
 | none => rw [hg] at hw; cases hw
 | some x =>
  cases x with
  | cells c e fz =>
   obtain ⟨c', q1, q2, q3⟩ := h2 a.block c e fz hw
   rw [q1]
  | _ =>
   have := h3 a.block _ hw (fun c e fz he => by cases he)
   rw [this]
theorem Jnb {P : Program} {F : Orc} (hF : J2y P F) {f : FuncId} {args : List AV} {vals : Array Value} {w : World} (hl : args.length = vals.size)
  (hr : ∀ (i : Nat) x v, args[i]? = some x → vals[i]? = some v → Ji ⟨[], gh0 w, w⟩ x v) (h : F f args [] = some (.p (.b true), [])) :
  Calls P f vals w fun e w' => e = .returned (.bool true) ∧ J8X w w' := by
 refine ((hF _ _ _ _ h).2 (gh0 w) w vals (Jtk w) hl hr).mono fun e w' ⟨v, g', he, _, ht, hrel⟩ => ?_
 cases hrel with
 | p _ _ hrel =>
  cases hrel with
  | b =>
   refine ⟨he, ?_⟩
   obtain ⟨k1, k2, k3, k4⟩ := ht.keep
   refine ⟨k1, fun r c e fz hr => ?_, k3, k4⟩
   obtain ⟨c', q1, q2, q3⟩ := k2 r c e fz hr
   exact ⟨c', q1, q2, fun o _ => q3 o (fun ⟨b, hb⟩ => Jfi _ _ _ _ _ hb)⟩
section
variable {H : Type} {enc : TypeId × Value → H} {P : Program}
theorem JaK (hl : laidOutB P = true) (hm : mapsRowed P = true) (hsz : ∀ {t e : TypeId}, t < P.types.size → P.underlying t = some (.slice e) → 0 < P.cellsOf e) {W W' : World} {sp : Nat → Bool} :
  ∀ {ts : List TypeId} {vs : List Value} {ds : List (DataW H)} {ps : List MemPlace}, (∀ t ∈ ts, t < P.types.size) → DataW.TrodAll enc P W 0 (fun _ => true) true ts vs ds ps →
   (∀ p ∈ ps, W.sameAt W' p) → (∀ p ∈ ps, sp p.block = true) → DataW.TrodAll enc P W' 0 sp true ts vs ds ps
 | [], [], [], _, _, h, _, _ => h
 | [], _ :: _, _, _, _, h, _, _ => h.elim
 | [], [], _ :: _, _, _, h, _, _ => h.elim
 | _ :: _, [], _, _, _, h, _, _ => h.elim
 | _ :: _, _ :: _, [], _, _, h, _, _ => h.elim
 | t :: ts, v :: vs, d :: ds, _, hT, ⟨p, q, ⟨n, h1⟩, h2, rfl⟩, hs, hp => by
  refine ⟨p, q, ⟨n, DataW.trod_stays (kids_rows hl hm) hsz (fun h => by cases h) (hT t (by simp)) h1 (fun x hx => hs x (by simp [hx])) (fun x hx => hp x (by simp [hx]))⟩, ?_, rfl⟩
  exact JaK hl hm hsz (fun x hx => hT x (by simp [hx])) h2 (fun x hx => hs x (by simp [hx])) (fun x hx => hp x (by simp [hx]))
def J7r (P : Program) : Bool := (List.range P.types.size).all fun t => match P.underlying t with
 | some (.slice e) => decide (0 < P.cellsOf e)
 | _ => true
theorem Jin (h : J7r P = true) {t e : TypeId} (ht : t < P.types.size) (he : P.underlying t = some (.slice e)) : 0 < P.cellsOf e := by
 unfold J7r at h
 rw [List.all_eq_true] at h
 have := h t (by simpa using ht)
 rw [he] at this
 simpa using this
theorem Jp3 {fn : Func} {s : ChangeSpec} {tb : TypeId} (hl : laidOutB P = true) (hm : mapsRowed P = true) (hsz : J7r P = true) (hpar : ∀ t ∈ fn.params.toList, t < P.types.size)
  (hres : fn.resultTypes = #[tb]) (htb : P.underlying tb = some .bool) (hvars : s.vars = []) {apart fresh handsOn again : Bool} {W W' : World} {args : Array Value} {ds gs : List (DataW H)} {before : List MemPlace}
  (hfn : gs = [] → s.fn H (ds ++ gs) = { results := [.lit (.bool true)], args := ds })
  (hW : DataW.Whole enc P fn.params.toList s.vars apart W args.toList ds gs before) (hst : J8X W W') : s.post enc P fn apart fresh handsOn again W args (.bool true) W' := by
 have hW0 := hW
 have hlt := hW.lt
 obtain ⟨p, q, h1, h2, rfl, hz, hn⟩ := hW
 rw [hvars] at h2
 obtain ⟨rfl, rfl⟩ := trodVars_none h2
 rw [List.append_nil] at hW0 hlt hz hn
 have hf := hfn rfl
 have hargs : ∀ sp : Nat → Bool, (∀ x ∈ p, sp x.block = true) → DataW.TrodAll enc P W' 0 sp true fn.params.toList args.toList ds p := fun sp hp =>
  JaK hl hm (fun ht he => Jin hsz ht he) hpar h1 (fun x hx => hst.same (hlt x hx)) hp
 have hr : ∀ (b : Nat) (sp : Nat → Bool) (hd : Bool), DataW.TrodAll enc P W' b sp hd fn.resultTypes.toList ((Value.bool true).resultList fn.resultTypes.size) [.lit (.bool true)] [] := by
  intro b sp hd
  rw [hres]
  exact trodAll_cons_mk (shut_bool htb _) trodAll_mk0
 refine ⟨ds, [], p, [], p, [], hW0, ?_, ?_, ?_, hst.kept _, fun _ => ⟨?_, ?_⟩⟩
 ·rw [hf]; exact hr _ _ _
 ·rw [hf]; exact hargs _ (fun x hx => by simpa using hlt x hx)
 ·rw [hf, hvars]; rfl
 ·exact ok_one hres rfl (okWide_bool_mk htb _)
 ·refine ⟨_, [], [] ++ p, ⟨[] ++ p, [], trodAll_append (hargs _ (fun _ _ => rfl)) (hr _ _ _), by rw [hvars]; rfl, by simp, fun b off hp => ?_, fun ha => by simpa using hn ha⟩, fun x hx _ => by simpa using hx⟩
  have hp' : MemPlace.cell b off ∈ p := by simpa using hp
  rw [hst.frozen (a := ⟨b, off, none⟩) (hlt _ hp')]
  exact hz b off hp'
def Jmg (P : Program) (t : TypeId) (pvs : List PV) : AV := match P.underlying t with
 | some (.struct _) => .data pvs
 | some (.array _ _) => .data pvs
 | _ => match pvs with
  | [c] => .p c
  | _ => .unk
theorem Jq4 (hl : laidOutB P = true) (hm : mapsRowed P = true) {n : Nat} {t : TypeId} {w : World} {r : Reach} {base : Nat} {sp : Nat → Bool} {v : Value} {d : DataW H} {ps : List MemPlace} (hp : J6C P n t = true)
  (hv : Value.okWide P w r base t v) (h : DataW.Trod enc P w 0 sp true t v d ps) : ∃ pvs, J3m P n t pvs ∧ Ji ⟨[], gh0 w, w⟩ (Jmg P t pvs) v := by
 obtain ⟨fuel, h⟩ := h
 obtain ⟨pvs, q1, q2, q3⟩ := Jqj hl hm n t _ _ fuel hp h
 refine ⟨pvs, q1, ?_⟩
 cases n with
 | zero => simp [J6C] at hp
 | succ n =>
  unfold J6C at hp
  unfold Value.okWide at hv
  unfold Jmg
  have one : ∀ {c : PV}, pvs = [c] → (∀ cs, v ≠ .agg cs) → Ji ⟨[], gh0 w, w⟩ (.p c) v := by
   intro c hc hne
   subst hc
   refine .p _ _ (q3 0 c v rfl ?_)
   cases v <;> first | rfl | exact absurd rfl (hne _)
  unfold J3m at q1
  split at hp
  ·rename_i ht
   rw [ht] at q1 hv ⊢
   obtain ⟨b, rfl⟩ := q1
   exact one rfl (fun cs he => by subst he; simp [Cell.okWide, Cell.ok, ht] at hv)
  ·rename_i k ht
   rw [ht] at q1 hv ⊢
   obtain ⟨z, rfl, _⟩ := q1
   exact one rfl (fun cs he => by subst he; simp [Cell.okWide, Cell.ok, ht] at hv)
  ·rename_i ht
   rw [ht] at q1 hv ⊢
   obtain ⟨z, rfl, _⟩ := q1
   exact one rfl (fun cs he => by subst he; simp [Cell.okWide, Cell.ok, ht] at hv)
  ·rename_i e ht
   rw [ht] at q1 hv ⊢
   obtain ⟨rows, rfl, _⟩ := q1
   exact one rfl (fun cs he => by subst he; simp [Cell.okWide, Cell.ok, ht] at hv)
  ·rename_i fs ht
   rw [ht] at hv ⊢
   obtain ⟨cs, rfl, _⟩ := hv
   exact .data _ _ (by simpa [Value.cells] using q2) (fun i x v h1 h2 => q3 i x v h1 (by simpa [Value.cells] using h2))
  ·rename_i m e ht
   rw [ht] at hv ⊢
   obtain ⟨cs, rfl, _⟩ := hv
   exact .data _ _ (by simpa [Value.cells] using q2) (fun i x v h1 h2 => q3 i x v h1 (by simpa [Value.cells] using h2))
  ·cases hp
end
end Go.Am
end
section
namespace Go.Am
section
variable (P : Program) {α β : Type}
def Rd (n : Nat) (t : TypeId) (r : α → List PV) (Q : α → Prop) : Prop := ∀ pvs, J3m P n t pvs → ∃ x, pvs = r x ∧ Q x
def fieldsOf (t : TypeId) : Option (List (TypeId × Nat)) := match P.underlying t with
 | some (.struct fs) => some (fs.toList.map fun f => (f.type, f.offset))
 | _ => none
variable {P}
theorem JrP {n : Nat} {t : TypeId} {k : IntKind} (ht : P.underlying t = some (.int k)) : Rd P (n + 1) t (r_i k) fun z => k.min ≤ z ∧ z ≤ k.max := by
 intro pvs h
 unfold J3m at h
 rw [ht] at h
 obtain ⟨z, rfl, hz⟩ := h
 refine ⟨z, rfl, ?_⟩
 simpa [Lit.wf, IntKind.has] using hz
theorem Rd.mono {n : Nat} {t : TypeId} {r : α → List PV} {Q Q' : α → Prop} (h : Rd P n t r Q) (hq : ∀ x, Q x → Q' x) : Rd P n t r Q' := fun pvs hp => by
 obtain ⟨x, e, q⟩ := h pvs hp
 exact ⟨x, e, hq x q⟩
theorem Jrc {n : Nat} {t : TypeId} (ht : P.underlying t = some .bool) : Rd P (n + 1) t r_b fun _ => True := by
 intro pvs h
 unfold J3m at h
 rw [ht] at h
 obtain ⟨z, rfl⟩ := h
 exact ⟨z, rfl, trivial⟩
theorem JrF {n : Nat} {t : TypeId} (ht : P.underlying t = some .string) : Rd P (n + 1) t r_s fun l => l.length ≤ maxLen := by
 intro pvs h
 unfold J3m at h
 rw [ht] at h
 obtain ⟨z, rfl, hz⟩ := h
 exact ⟨z, rfl, hz⟩
theorem Jpe {n : Nat} {t e : TypeId} {r : α → List PV} {Q : α → Prop} {k : Nat} (ht : P.underlying t = some (.slice e)) (hk : P.cellsOf e = k) (he : Rd P n e r Q) :
  Rd P (n + 1) t (Jtf k r) fun l => l.length ≤ maxLen ∧ ∀ x ∈ l, Q x := by
 intro pvs h
 unfold J3m at h
 rw [ht] at h
 obtain ⟨rows, rfl, hl, hr⟩ := h
 have key : ∀ rows : List (List PV), (∀ row ∈ rows, row.length = P.cellsOf e ∧ J3m P n e row) → ∃ l : List α, rows = l.map r ∧ ∀ x ∈ l, Q x := by
  intro rows
  induction rows with
  | nil => intro _; exact ⟨[], rfl, by simp⟩
  | cons row rows ih =>
   intro hh
   obtain ⟨l, rfl, hl⟩ := ih (fun r hr => hh r (by simp [hr]))
   obtain ⟨x, rfl, hx⟩ := he row (hh row (by simp)).2
   refine ⟨x :: l, rfl, fun y hy => ?_⟩
   rcases List.mem_cons.1 hy with rfl | hy
   ·exact hx
   ·exact hl y hy
 obtain ⟨l, rfl, hq⟩ := key rows hr
 exact ⟨l, by rw [hk]; rfl, by simpa using hl, hq⟩
theorem Jpp {n m : Nat} {t e : TypeId} {r : α → List PV} {Q : α → Prop} {k : Nat} (ht : P.underlying t = some (.array m e)) (hk : P.cellsOf e = k) (hm : P.cellsOf t = m * k) (he : Rd P n e r Q) :
  Rd P (n + 1) t (J6J (n := m) r) fun v => ∀ (i : Nat) (h : i < m), Q v[i] := by
 intro pvs h
 unfold J3m at h
 rw [ht] at h
 obtain ⟨hl, hr⟩ := h
 rw [hm] at hl
 have key : ∀ (m : Nat) (pvs : List PV), pvs.length = m * k → (∀ i, i < m → J3m P n e ((pvs.drop (i * k)).take k)) → ∃ l : List α, l.length = m ∧ pvs = (l.map r).flatten ∧ ∀ (i : Nat) (h : i < l.length), Q l[i] := by
  intro m
  induction m with
  | zero =>
   intro pvs h _
   refine ⟨[], rfl, ?_, by simp⟩
   rw [Nat.zero_mul] at h
   simpa using h
  | succ m ih =>
   intro pvs h hh
   rw [Nat.succ_mul] at h
   obtain ⟨l, h1, h2, h3⟩ := ih (pvs.drop k) (by rw [List.length_drop]; omega) (fun i hi => by
    have := hh (i + 1) (by omega)
    rw [List.drop_drop]
    rw [Nat.succ_mul, Nat.add_comm] at this
    exact this)
   obtain ⟨x, e1, hx⟩ := he _ (hh 0 (by omega))
   rw [Nat.zero_mul, List.drop_zero] at e1
   refine ⟨x :: l, by simp [h1], ?_, fun i hi => ?_⟩
   ·rw [List.map_cons, List.flatten_cons, ← e1, ← h2, List.take_append_drop]
   ·cases i with
    | zero => exact hx
    | succ i => exact h3 i (by simpa using hi)
 obtain ⟨l, h1, h2, h3⟩ := key m pvs hl (fun i hi => by have := hr i hi; rwa [hk] at this)
 refine ⟨⟨l.toArray, by simpa using h1⟩, ?_, fun i hi => ?_⟩
 ·rw [h2]; rfl
 ·have := h3 i (by omega)
  simpa using this
theorem JmK {m n : Nat} {t : TypeId} {fl : List (TypeId × Nat)} {pvs : List PV} (hm : m = n + 1) (ht : fieldsOf P t = some fl) (h : J3m P m t pvs) :
  pvs.length = P.cellsOf t ∧ ∀ x ∈ fl, J3m P n x.1 ((pvs.drop x.2).take (P.cellsOf x.1)) := by
 subst hm
 unfold J3m at h
 unfold fieldsOf at ht
 split at ht
 ·rename_i fs hfs
  rw [hfs] at h
  injection ht with ht
  subst ht
  refine ⟨h.1, fun x hx => ?_⟩
  obtain ⟨f, hf, rfl⟩ := List.mem_map.1 hx
  exact h.2 f hf
 ·cases ht
end
end Go.Am
end
section
namespace Go.Am
section
variable (P : Program)
def J8r (p : Ty → TypeId → Bool) : Nat → List (TypeId × Nat) → Ty → Bool
 | _, [], .u => true
 | _, [], _ => false
 | o, [f], a => decide (f.2 = o) && p a f.1 && decide (P.cellsOf f.1 = a.sz)
 | o, f :: g :: r, .pr a c => decide (f.2 = o) && p a f.1 && decide (P.cellsOf f.1 = a.sz) && J8r p (o + a.sz) (g :: r) c
 | _, _ :: _ :: _, _ => false
def Jdy : Nat → Ty → TypeId → Bool
 | 0, _, _ => false
 | n + 1, ty, t => match fieldsOf P t with
  | some fs => J8r P (Jdy n) 0 fs ty && decide (P.cellsOf t = ty.sz)
  | none => match P.underlying t, ty with
   | some .bool, .b => true
   | some (.int k), .i k' => decide (k = k')
   | some .string, .s => true
   | some (.slice e), .l a => Jdy n a e && decide (P.cellsOf e = a.sz)
   | some (.array m e), .ar m' a => decide (m = m') && Jdy n a e && decide (P.cellsOf e = a.sz) && decide (P.cellsOf t = m * a.sz)
   | _, _ => false
def Ty.inR : (t : Ty) → t.D → Prop
 | .b, _ => True
 | .i k, z => k.min ≤ z ∧ z ≤ k.max
 | .s, z => List.length z ≤ maxLen
 | .l t, z => List.length z ≤ maxLen ∧ ∀ x ∈ (z : List t.D), t.inR x
 | .pr a c, x => a.inR x.1 ∧ c.inR x.2
 | .ar n t, v => ∀ (i : Nat) (h : i < n), t.inR ((v : Vector t.D n)[i])
 | .u, _ => True
 | .f, _ => True
end
section
variable {P : Program}
theorem JkT {n : Nat} (ih : ∀ ty t, Jdy P n ty t = true → Rd P n t (cel ty) ty.inR) : ∀ (o : Nat) (fs : List (TypeId × Nat)) (ty : Ty) (pvs : List PV), J8r P (Jdy P n) o fs ty = true →
  (∀ x ∈ fs, J3m P n x.1 ((pvs.drop x.2).take (P.cellsOf x.1))) → ∃ x : ty.D, (pvs.drop o).take ty.sz = cel ty x ∧ ty.inR x
 | o, [], ty, pvs, h, _ => by
  cases ty with
  | u => exact ⟨(), by simp [Ty.sz, cel], trivial⟩
  | _ => simp [J8r] at h
 | o, [f], ty, pvs, h, hf => by
  simp only [J8r, Bool.and_eq_true, decide_eq_true_eq] at h
  obtain ⟨⟨h1, h2⟩, h3⟩ := h
  have := hf f (by simp)
  rw [h1, h3] at this
  obtain ⟨x, e, q⟩ := ih ty f.1 h2 _ this
  exact ⟨x, e, q⟩
 | o, f :: g :: r, ty, pvs, h, hf => by
  cases ty with
  | pr a c =>
   simp only [J8r, Bool.and_eq_true, decide_eq_true_eq] at h
   obtain ⟨⟨⟨h1, h2⟩, h3⟩, h4⟩ := h
   have := hf f (by simp)
   rw [h1, h3] at this
   obtain ⟨x, e, q⟩ := ih a f.1 h2 _ this
   obtain ⟨y, e', q'⟩ := JkT ih (o + a.sz) (g :: r) c pvs h4 (fun z hz => hf z (by simp [List.mem_cons.1 hz]))
   refine ⟨(x, y), ?_, q, q'⟩
   simp only [cel, Ty.sz]
   rw [← e, ← e', ← List.drop_drop, List.take_add]
  | _ => simp [J8r] at h
theorem rdT : ∀ (n : Nat) (ty : Ty) (t : TypeId), Jdy P n ty t = true → Rd P n t (cel ty) ty.inR
 | 0, _, _, h => by cases h
 | n + 1, ty, t, h => by
  unfold Jdy at h
  split at h
  ·rename_i fs hfs
   simp only [Bool.and_eq_true, decide_eq_true_eq] at h
   intro pvs hp
   obtain ⟨hl, hf⟩ := JmK rfl hfs hp
   obtain ⟨x, e, q⟩ := JkT (rdT n) 0 fs ty pvs h.1 hf
   rw [List.drop_zero, ← h.2, ← hl, List.take_length] at e
   exact ⟨x, e, q⟩
  ·split at h
   ·rename_i ht; exact Jrc ht
   ·rename_i k k' ht
    simp only [decide_eq_true_eq] at h; subst h
    exact JrP ht
   ·rename_i ht; exact JrF ht
   ·rename_i e a ht
    simp only [Bool.and_eq_true, decide_eq_true_eq] at h
    exact Jpe ht h.2 (rdT n a e h.1)
   ·rename_i m e m' a ht
    simp only [Bool.and_eq_true, decide_eq_true_eq] at h
    obtain ⟨⟨⟨h1, h2⟩, h3⟩, h4⟩ := h
    subst h1
    exact Jpp ht h3 h4 (rdT n a e h2)
   ·cases h
def JmC (P : Program) (t : TypeId) : Bool := match P.underlying t with
 | some (.struct _) => true
 | some (.array _ _) => true
 | _ => false
def JrJ (agg : Bool) (t : Ty) (x : t.D) : TA := if agg = true then .dt t x else .c (.d t x)
theorem Jsw (L : Nat → Nat) {t : TypeId} {ty : Ty} {agg : Bool} (ha : JmC P t = agg) (h1 : agg = false → ty.sz = 1) (x : ty.D) : Jmg P t (cel ty x) = J0c L (JrJ agg ty x) := by
 unfold Jmg JmC at *
 generalize P.underlying t = u at ha ⊢
 rcases u with _ | d
 ·subst ha
  dsimp only
  rw [JhS (h1 rfl) x]
  rfl
 ·cases d <;> first
   | (subst ha; rfl)
   | (subst ha; dsimp only; rw [JhS (h1 rfl) x]; rfl)
theorem JrB {F : Orc} {f : FuncId} {g : Sig} {S : (tyL g.ti).D → Option (tyL g.to).D} {xs : List TA} {x : (tyL g.ti).D} {y : (tyL g.to).D} (he : EOk F (sigE f g S)) (hx : JdE g xs [] = some x) (hS : S x = some y)
  (hv : Jei g y = some (.a (.c (.d .b true)), [])) : F f (xs.map (J0c (lns []))) [] = some (.p (.b true), []) := by
 have h : (sigE f g S).go xs [] (fun v out => some (v, out)) = some (TV.a (.c (.d .b true)), ([] : List (Bool × TB))) := by
  simp only [sigE, hx, hS, Option.bind_some, hv]
  cases g.same <;> rfl
 obtain ⟨v, out, h1, _, h3⟩ := he.ok h
 injection h3 with h3; injection h3 with h4 h5; subst h4 h5
 exact h1
end
end Go.Am
end
section
namespace Go.Am
set_option maxRecDepth 20000
set_option linter.unusedVariables false
set_option linter.unusedSimpArgs false
open Classical
theorem JoA (n w k : Int) (hw : w < k) (hk : k ≤ 1099511627776) (hn : 1 ≤ n) : J3Q n w (1, k, 0, 0, 0, 0) := ⟨rfl, rfl, hw, hk, by show (0 : Int) ≤ 0; omega, by show (0 : Int) < n; omega, by show (0 : Int) ≤ 0; omega, by show (0 : Int) < n; omega, by show (0 : Int) ≤ 0; omega, by show (0 : Int) < 256; omega, fun h => by cases h⟩
theorem Jry {x : DT} {f : FT} (hv : VD x) (hf : J3Q (J8 x.1) x.2.1 f) (hl : J8 x.2.2.2.2 < 64) : Jbs x f = ((x.1, x.2.1, x.2.2.1, x.2.2.2.1, x.2.2.2.2 ++ [f]), 0) := by
 unfold Jbs
 rw [if_pos hv, if_pos hf, if_neg (by omega)]
theorem Jrv {x : DT} {f : FT} (hv : VD x) (hf : J3Q (J8 x.1) x.2.1 f) (hl : J8 x.2.2.2.2 < 64) : VD (x.1, x.2.1, x.2.2.1, x.2.2.2.1, x.2.2.2.2 ++ [f]) where
 p1 := hv.p1
 p64 := hv.p64
 w0 := hv.w0
 w1 := hv.w1
 f64 := by show J8 (x.2.2.2.2 ++ [f]) ≤ 64; rw [Jau, Jda]; omega
 page := hv.page
 rng := hv.rng
 adj := hv.adj
 flt := fun g hg => by
  rcases List.mem_append.1 hg with hg | hg
  ·exact hv.flt g hg
  ·rw [List.mem_singleton.1 hg]; exact hf
theorem JpT : (mkS 1 255 255 0 : Option (List Int)) = some (List.replicate 255 0) := rfl
theorem JiA (a b : List UInt8) (h : a.length + b.length ≤ 1000000) : Jdc a b = some (a ++ b) := by unfold Jdc; rw [if_pos (by omega)]
theorem Jqi : J2L () = some true := by
 refine J2j ?_
 unfold J2L
 refine .bind (Jn (Jms 1)) fun y2 e2 => ?_
 have n1 : Jbv 1 = ((List.replicate 1 J1v, 0, [], false, []), 0) := by unfold Jbv; rw [if_pos (by decide)]; rfl
 rw [n1] at e2
 subst e2
 have v2 := Jd6 1 0 (by decide) (by decide) (by decide) (by decide)
 have hf := JoA (J8 (List.replicate 1 J1v)) 0 2 (by decide) (by decide) (by decide)
 refine .bind (Jn (Jn4 _ _ (by show (0 : Int) ≤ _; decide))) fun y3 e3 => ?_
 rw [Jry v2 hf (by show (0 : Int) < 64; decide)] at e3
 subst e3
 have v3 := Jrv v2 hf (by show (0 : Int) < 64; decide)
 refine .bind (Jn JpT) fun y4 e4 => .bind (Jn (JiA _ _ (by subst e4; simp [toStr]))) fun y5 e5 => .bind (Jn JpT) fun y6 e6 => .bind (Jn (JiA _ _ (by subst e6; simp [toStr]))) fun y7 e7 => ?_
 have l5 : y5.length = 256 := by subst e5; subst e4; simp [toStr]
 have l7 : y7.length = 256 := by subst e7; subst e6; simp [toStr]
 clear e4 e5 e6 e7
 have hb : Byt [((1, 2, 0, 0, 0, 0) : FT)] := fun f hf => by rw [List.mem_singleton.1 hf]; exact ⟨by decide, by decide⟩
 refine .bind (Jn (JcU _ _ _ (by show (0 : Int) ≤ _; decide) hb)) fun y8 e8 => ?_
 rw [JmF v3 rfl (by decide) (by show (0 : Int) < 1; decide) l5 (by show (0 : Int) < _; decide)] at e8
 obtain ⟨-, v4, b4, p4, -, -⟩ := Jhl v3 hb (p := 0) (by decide) (by show (0 : Int) < 1; decide) l5 (by show (0 : Int) < _; decide)
 have w4 : wM ((List.replicate 1 J1v, 0, [], false, [] ++ [(1, 2, 0, 0, 0, 0)]) : DT) 0 y5 = ([y5], 1, [], false, [(1, 2, 0, 0, 0, 0)]) := rfl
 have w4' : wM ((List.replicate 1 J1v, 0, [], false, [(1, 2, 0, 0, 0, 0)]) : DT) 0 y5 = ([y5], 1, [], false, [(1, 2, 0, 0, 0, 0)]) := rfl
 dsimp only at v4
 rw [w4] at v4
 rw [w4] at e8
 subst e8
 refine .bind (Jn (JcU _ _ _ (by show (0 : Int) ≤ _; decide) hb)) fun y9 e9 => ?_
 rw [JmF v4 rfl (by decide) (by show (0 : Int) < 1; decide) l7 (by show (1 : Int) < _; decide)] at e9
 obtain ⟨-, v5, -, -, -, -⟩ := Jhl v4 hb (p := 0) (by decide) (by show (0 : Int) < 1; decide) l7 (by show (1 : Int) < _; decide)
 have w5 : wM (([y5], 1, [], false, [(1, 2, 0, 0, 0, 0)]) : DT) 0 y7 = ([y5], 2, [], false, []) := rfl
 rw [w5] at v5 e9
 subst e9
 refine .bind (Jn (Jk8 _ _ (by show (0 : Int) ≤ _; decide))) fun y10 e10 => ?_
 have r10 : JbY ([y5], 2, [], false, []) 0 = (y5, 0) := by
  unfold JbY
  rw [if_pos (JpO v5 rfl (by decide) (by show (0 : Int) < 1; decide)), if_neg (by simp)]
  rfl
 rw [r10] at e10
 subst e10
 exact .some (by simp [eqI, eqS])
theorem Jo1 {x0 : List Int} (w0 : Ty.inR (.l (.i .u8)) x0) : ∀ a ∈ x0, 0 ≤ a ∧ a ≤ 255 := fun a ha => by
 have := w0.2 a ha
 simpa [Ty.inR, IntKind.min, IntKind.max, IntKind.signed, IntKind.bits] using this
structure Qt (d : DT) : Prop where
 vd : VD d
 live : d.2.2.2.1 = false
 flt : d.2.2.2.2 = []
 unr : d.2.2.1 = []
end Go.Am
end
section
namespace Go.Am
set_option maxRecDepth 20000
set_option linter.unusedVariables false
set_option linter.unusedSimpArgs false
noncomputable section
open Classical
def Jal (s o : List UInt8) (k : Int) : List UInt8 := s.take k.toNat ++ o.drop k.toNat
theorem q2 : Qt (List.replicate 2 J1v, 0, [], false, []) := ⟨Jd6 2 0 (by decide) (by decide) (by decide) (by decide), rfl, rfl, rfl⟩
end
end Go.Am
end
section
namespace Go.Am
set_option maxRecDepth 20000
set_option linter.unusedVariables false
set_option linter.unusedSimpArgs false
noncomputable section
open Classical
theorem Jtr : Jbv 3 = ((List.replicate 3 J1v, 0, [], false, []), 0) := by unfold Jbv; rw [if_pos (by decide)]; rfl
theorem q3 : Qt (List.replicate 3 J1v, 0, [], false, []) := ⟨Jd6 3 0 (by decide) (by decide) (by decide) (by decide), rfl, rfl, rfl⟩
end
end Go.Am
end
section
namespace Go.Am
set_option maxRecDepth 20000
set_option linter.unusedVariables false
set_option linter.unusedSimpArgs false
noncomputable section
open Classical
theorem J8k (l m : List Int) (h : J8 l ≤ 1000000) (h2 : J8 m ≤ 1000000) : J4j 8 l m = some (l ++ m) := by
 unfold J4j
 have : J1Z (l.length + m.length) 8 = true := by unfold J1Z; unfold J8 at h h2; simp only [decide_eq_true_eq]; omega
 rw [if_pos this]
theorem J2v {α : Type} {l : List α} {i : Int} {a : α} (h0 : 0 ≤ i) (h : l[i.toNat]? = some a) : l.take (i + 1).toNat = l.take i.toNat ++ [a] := by
 rw [show (i + 1).toNat = i.toNat + 1 by omega, List.take_add_one, h]; rfl
theorem J8N {α : Type} {l : List α} {i : Int} (h : ¬i < J8 l) : l.take i.toNat = l := List.take_of_length_le (by unfold J8 at h; omega)
theorem Jds {α : Type} (l : List α) (n : Nat) : J8 (l.take n) ≤ J8 l := by unfold J8; rw [List.length_take]; omega
theorem J5d {α : Type} (l : List α) (p : α → Bool) : J8 (l.filter p) ≤ J8 l := by have := List.length_filter_le p l; unfold J8; omega
theorem Jlb (l : List Int) (p : Int) (hl : J8 l ≤ 1000) : J25 (l, p) = some (l.filter fun n => !(n == p)) := by
 refine J2j ?_
 unfold J25
 have e0 : ([] : List Int) = (l.take (0 : Int).toNat).filter fun n => !(n == p) := rfl
 rw [e0]
 refine J1U (fun i => (l, p, i, (l.take i.toNat).filter fun n => !(n == p))) (J8 l) (fun _ => True) J2l trivial fun i g1 g2 _ => ?_
 unfold J7M
 dsimp only
 have hf := J5d (l.take i.toNat) fun n => !(n == p)
 have ht := Jds l i.toNat
 refine .lt (fun c => .bind (J2z g1 c).eqn fun a ha => .ne (fun d => .bind (Jn ha.2) fun b e => ?_) fun d => .some ⟨?_, trivial, c⟩) fun c => .some (by rw [J8N c])
 ·subst e
  refine .bind (Jn (J8k _ [b] (by omega) (by show (1 : Int) ≤ 1000000; decide))) fun y e => .some ⟨?_, trivial, c⟩
  rw [J42 g1 (by omega), e, J2v g1 ha.1.1, List.filter_append, List.filter_cons, if_pos (by simpa using d)]; rfl
 ·rw [J42 g1 (by omega), J2v g1 ha.1.1, List.filter_append, List.filter_cons, if_neg (by simp [d])]; simp
def wI (t : List Int) (p : Int) (done : Bool) : List Int := t.filter (· < p) ++ (if done = true then [p] else []) ++ t.filter (p < ·)
theorem Jq5 (l : List Int) (p : Int) (hs : l.Pairwise (· < ·)) (hl : J8 l ≤ 1000) : J1E (l, p) = some (J75 l p) := by
 refine J2j ?_
 unfold J1E
 refine J7C (τ := Int × Bool) (fun q => (l, p, q.2, q.1, wI (l.take q.1.toNat) p q.2)) (fun q => 0 ≤ q.1 ∧ q.1 ≤ J8 l ∧ (q.2 = false → ∀ a ∈ l.take q.1.toNat, a < p) ∧ (q.2 = true → ∃ a ∈ l.take q.1.toNat, p ≤ a)) (fun q => J8 l - q.1) ?_ (0, false) rfl ⟨Int.le_refl _, J2l, fun _ a ha => by simp at ha, fun h => by cases h⟩
 rintro ⟨i, done⟩ ⟨g1, g2, g3, g4⟩
 dsimp only at g1 g2 g3 g4
 unfold J9Z
 dsimp only
 have ht := Jds l i.toNat
 have h1 := J5d (l.take i.toNat) (· < p)
 have h2 := J5d (l.take i.toNat) (p < ·)
 have hw : J8 (wI (l.take i.toNat) p done) ≤ 3000 := by unfold wI; rw [Jau, Jau]; split <;> simp only [Jda, Joc] <;> omega
 have step : ∀ a, l[i.toNat]? = some a → i < J8 l → ∀ d', (d' = false → a < p ∧ done = false) → (d' = true → p ≤ a ∨ done = true) → (0 ≤ i + 1 ∧ i + 1 ≤ J8 l ∧ (d' = false → ∀ b ∈ l.take (i + 1).toNat, b < p) ∧ (d' = true → ∃ b ∈ l.take (i + 1).toNat, p ≤ b)) := fun a ha hi d' k1 k2 => by
  rw [J2v g1 ha]
  refine ⟨by omega, by omega, fun h b hb => ?_, fun h => ?_⟩
  ·obtain ⟨q1, q2⟩ := k1 h
   rcases List.mem_append.1 hb with hb | hb
   ·exact g3 q2 b hb
   ·rw [List.mem_singleton.1 hb]; exact q1
  ·rcases k2 h with q | q
   ·exact ⟨a, List.mem_append_right _ (List.mem_singleton.2 rfl), q⟩
   ·obtain ⟨b, hb, hb2⟩ := g4 q
    exact ⟨b, List.mem_append_left _ hb, hb2⟩
 have m : 0 ≤ i → J8 l - (i + 1) < J8 l - i ∧ 0 ≤ J8 l - i := fun _ => by omega
 refine .lt (fun c => ?_) fun c => .inr ?_
 ·obtain ⟨a, ha⟩ : ∃ a, l[i.toNat]? = some a := ⟨_, List.getElem?_eq_getElem (by unfold J8 at c; omega)⟩
  have hx : idx l i = some a := by unfold idx; rw [if_pos g1]; exact ha
  have hear : ∀ b ∈ l.take i.toNat, b < a := fun b hb => by
   obtain ⟨j, hj⟩ := List.getElem?_of_mem hb
   obtain ⟨hj1, hj2⟩ := List.getElem?_eq_some_iff.1 hj
   have hjl : j < i.toNat := by rw [List.length_take] at hj1; omega
   obtain ⟨hi1, hi2⟩ := List.getElem?_eq_some_iff.1 ha
   have := List.pairwise_iff_getElem.1 hs j i.toNat (by omega) hi1 hjl
   rw [hi2] at this
   rw [← hj2, List.getElem_take]; exact this
  have ei := J42 g1 (show i < _ by omega)
  refine .not (fun k => ?_) fun k => ?_
  ·have hlt := g3 k
   have f1 : (l.take i.toNat).filter (· < p) = l.take i.toNat := List.filter_eq_self.2 fun b hb => by simpa using hlt b hb
   have f2 : (l.take i.toNat).filter (p < ·) = [] := List.filter_eq_nil_iff.2 fun b hb => by have := hlt b hb; simp; omega
   have ew : wI (l.take i.toNat) p done = l.take i.toNat := by unfold wI; rw [f1, f2, k]; simp
   refine .bind (Jn hx) fun y3 e3 => ?_
   subst e3
   refine .ge (fun d => .bind (Jn (J8k _ [p] (by omega) (by show (1 : Int) ≤ 1000000; decide))) fun y4 e4 => .bind (Jn hx) fun y5 e5 => ?_) fun d => .bind (Jn hx) fun y8 e8 => ?_
   ·subst e5
    refine .ne (fun d2 => .bind (Jn hx) fun y6 e6 => .bind (Jn (J8k _ [y6] (by rw [e4, Jau, Jda]; omega) (by show (1 : Int) ≤ 1000000; decide))) fun y7 e7 => .some ⟨(i + 1, true), ?_, step _ ha c true nofun (fun _ => .inl d), m g1⟩) fun d2 => .some ⟨(i + 1, true), ?_, step _ ha c true nofun (fun _ => .inl d), m g1⟩
    ·rw [ei, e7, e4, e6, ew]
     unfold wI
     dsimp only
     rw [J2v g1 ha, List.filter_append, List.filter_append, f1, f2]
     have q1 : ([y5].filter (· < p)) = [] := by simp; omega
     have q2 : ([y5].filter (p < ·)) = [y5] := by simp; omega
     rw [q1, q2]; simp
    ·rw [ei, e4, ew]
     unfold wI
     dsimp only
     rw [J2v g1 ha, List.filter_append, List.filter_append, f1, f2]
     have q1 : ([y5].filter (· < p)) = [] := by simp; omega
     have q2 : ([y5].filter (p < ·)) = [] := by simp; omega
     rw [q1, q2]; simp
   ·subst e8
    refine .ne (fun d2 => .bind (Jn hx) fun y9 e9 => .bind (Jn (J8k _ [y9] (by omega) (by show (1 : Int) ≤ 1000000; decide))) fun y10 e10 => .some ⟨(i + 1, done), ?_, step _ ha c done (fun _ => ⟨by omega, k⟩) (fun h => by rw [k] at h; cases h), m g1⟩) fun d2 => by omega
    rw [ei, e10, e9, ew]
    unfold wI
    dsimp only
    rw [J2v g1 ha, List.filter_append, List.filter_append, f1, f2, k]
    have q1 : ([y8].filter (· < p)) = [y8] := by simp; omega
    have q2 : ([y8].filter (p < ·)) = [] := by simp; omega
    rw [q1, q2]; simp
  ·obtain ⟨b, hb, hb2⟩ := g4 k
   have := hear b hb
   refine .bind (Jn hx) fun y11 e11 => ?_
   subst e11
   refine .ne (fun d2 => .bind (Jn hx) fun y12 e12 => .bind (Jn (J8k _ [y12] (by omega) (by show (1 : Int) ≤ 1000000; decide))) fun y13 e13 => .some ⟨(i + 1, done), ?_, step _ ha c done (fun h => by rw [k] at h; cases h) (fun _ => .inr k), m g1⟩) fun d2 => by omega
   rw [ei, e13, e12]
   unfold wI
   dsimp only
   rw [J2v g1 ha, List.filter_append, List.filter_append]
   have q1 : ([y11].filter (· < p)) = [] := by simp; omega
   have q2 : ([y11].filter (p < ·)) = [y11] := by simp; omega
   rw [q1, q2]; simp
 ·have et := J8N c
  rw [et] at g3 g4 hw ⊢
  refine .not (fun k => .bind (Jn (J8k _ [p] (by omega) (by show (1 : Int) ≤ 1000000; decide))) fun y e => .some ?_) fun k => .some ?_
  ·have hlt := g3 k
   have f2 : l.filter (p < ·) = [] := List.filter_eq_nil_iff.2 fun b hb => by have := hlt b hb; simp; omega
   rw [e]
   unfold wI J75
   rw [k, f2]; simp
  ·unfold wI J75
   rw [k]; simp
theorem Jdi {n : Int} {y : DT} (h : VP n y) (hn : n ≤ 64) {t : Int} (h0 : 0 ≤ t) (h1 : t < n) {s : List UInt8} (hs : s.length = 256) {k : Int} (k0 : 0 ≤ k) (k1 : k ≤ 256) :
  J1n (y.2.1, y.2.2.1, y.2.2.2.1, t, s, k, y.1, y.2.2.2.2) = some (y.2.1, (J4E y t.toNat (Jal s (y.1.getD t.toNat []) k)).2.2.1, y.2.2.2.1, (J4E y t.toNat (Jal s (y.1.getD t.toNat []) k)).1, y.2.2.2.2) := by
 refine J2j ?_
 unfold J1n
 dsimp only
 obtain ⟨g1, g2⟩ := h.getD h0 h1
 have hl := h.len
 have hll : t < J8 y.1 := by omega
 have hu := h.unr hn
 generalize y.1.getD t.toNat [] = o at g1 g2 ⊢
 refine .bind (Jsh (l := s) (k := k) k0 (by unfold J8; omega)) fun a ha => .bind (J5Z h0 hll) fun _ _ => .bind (Jn (v := o) g1) fun o' eo => ?_
 subst eo
 refine .bind (Jsl (l := o') (k := k) k0 (by unfold J8; omega)) fun b hb => .bind (Jn (JiA a b (by rw [ha.1, hb.1, List.length_take, List.length_drop]; omega))) fun z ez => .bind (J5Z h0 hll) fun _ _ => .bind (Jn (v := o') g1) fun o2 eo => ?_
 refine .bind (Jn (Jlb y.2.2.1 t (by unfold J8; omega))) fun w ew => .some ?_
 rw [ew, ez, ha.1, hb.1]
 unfold J4E Jal J2X
 rw [show ((t.toNat : Nat) : Int) = t by omega]
theorem JoE (s o : List UInt8) (hs : s.length = 256) (ho : o.length = 256) : Jal s o 256 = s := by
 unfold Jal
 rw [List.take_of_length_le (by rw [hs]; decide), List.drop_of_length_le (by rw [ho]; decide), List.append_nil]
end
end Go.Am
end
section
namespace Go.Am
set_option maxRecDepth 20000
set_option linter.unusedVariables false
set_option linter.unusedSimpArgs false
noncomputable section
open Classical
theorem JnE (l : List UInt8) : (toByt l).length = l.length := by unfold toByt; rw [List.length_map]
theorem Jmj {α β : Type} {f : β → α → β} {l : List α} {i : Int} {a : α} {y : β} (h0 : 0 ≤ i) (h : l[i.toNat]? = some a) : (l.take (i + 1).toNat).foldl f y = f ((l.take i.toNat).foldl f y) a := by
 rw [J2v h0 h, List.foldl_append]; rfl
theorem Jje {n w : Int} {y : DT} (h : VP n y) (hn : n ≤ 64) {l : List FT} (hf : ∀ f ∈ l, J3Q n w f) (hl : J8 l ≤ 100) (A2 : DT) (A3 : List FT) (A4 : List (List UInt8)) (A5 : Int) (A6 : List Int) (A7 : Bool) (A9 A10 : List FT) :
  JK J2a (0, A2, A3, A4, A5, A6, A7, y.1, A9, A10, y.2.1, y.2.2.1, y.2.2.2.1, l, y.2.2.2.2) = some (l.foldl J21 y, 0) := by
 refine J2j ?_
 refine J1U (fun i => (i, A2, A3, A4, A5, A6, A7, ((l.take i.toNat).foldl J21 y).1, A9, A10, ((l.take i.toNat).foldl J21 y).2.1, ((l.take i.toNat).foldl J21 y).2.2.1, ((l.take i.toNat).foldl J21 y).2.2.2.1, l, ((l.take i.toNat).foldl J21 y).2.2.2.2))
  (J8 l) (fun i => VP n ((l.take i.toNat).foldl J21 y)) J2l h fun i g1 g2 g3 => ?_
 unfold J2a
 dsimp only
 have ei : i < J8 l → Jb .i64 i 1 = i + 1 := fun _ => J42 g1 (by omega)
 refine .lt (fun c => ?_) fun c => .some (by rw [J8N c])
 rw [ei c]
 have hil : i.toNat < l.length := by unfold J8 at c; omega
 have ha : l[i.toNat]? = some l[i.toNat] := List.getElem?_eq_getElem hil
 have hfa := hf _ (List.getElem_mem hil)
 generalize l[i.toNat] = a at ha hfa
 have nx := Jmj (f := J21) (y := y) g1 ha
 have nv := g3.harm hfa
 rw [nx]
 generalize (l.take i.toNat).foldl J21 y = z at g3 nv nx ⊢
 obtain ⟨p1, p2⟩ := g3.getD hfa.p0 hfa.p1
 have pl := g3.len
 have pp : a.2.2.1 < J8 z.1 := by have := hfa.p1; omega
 have b0 := hfa.b0
 have b1 := hfa.b1
 refine .bind (J5Z g1 c) fun _ _ => .bind (Jn (v := a) ha) fun f e => ?_
 subst e
 refine .eq (fun k => ?_) fun k4 => .eq (fun k => ?_) fun k5 => .eq (fun k => ?_) fun k6 => ?_
 ·have hb : f.2.2.2.2.1 < J8 (toByt (z.1.getD f.2.2.1.toNat [])) := by unfold J8; rw [JnE, p2]; omega
  have hbl : f.2.2.2.2.1.toNat < (z.1.getD f.2.2.1.toNat []).length := by omega
  have hv : (toByt (z.1.getD f.2.2.1.toNat []))[f.2.2.2.2.1.toNat]? = some (((z.1.getD f.2.2.1.toNat []).getD f.2.2.2.2.1.toNat 0).toNat : Int) := by
   unfold toByt
   rw [List.getElem?_map, List.getElem?_eq_getElem hbl, List.getD_eq_getElem?_getD (l := z.1.getD f.2.2.1.toNat []), List.getElem?_eq_getElem hbl]
   rfl
  refine .bind (J5Z hfa.p0 pp) fun _ _ => .bind (Jn (v := z.1.getD f.2.2.1.toNat []) p1) fun o eo => ?_
  subst eo
  refine .bind (J5Z b0 hb) fun _ _ => .bind (Jn hv) fun v ev => .bind (J5Z b0 hb) fun _ _ => .bind (Jn hv) fun _ _ => .bind (J5Z hfa.p0 pp) fun _ _ => .bind (Jn p1) fun _ _ => .some ⟨?_, nv, c⟩
  unfold J21
  rw [if_pos k, ev]
  rfl
 ·have hu := g3.unr hn
  refine .bind (Jn (Jq5 z.2.2.1 f.2.2.1 g3.srt (by unfold J8; omega))) fun v ev => .some ⟨?_, nv, c⟩
  unfold J21
  rw [if_neg k4, if_pos k, ev]
 ·refine .some ⟨?_, nv, c⟩
  unfold J21
  rw [if_neg k4, if_neg k5, if_pos k]
 ·refine .some ⟨?_, nv, c⟩
  unfold J21
  rw [if_neg k4, if_neg k5, if_neg k6]
theorem Jd0 : ∀ (l m : List FT), (∀ f ∈ l, f.1 ≠ 1 ∧ f.1 ≠ 2 ∧ f.1 ≠ 3) → J1C (l ++ m) = J1C m
 | [], _, _ => rfl
 | f :: l, m, h => by
  obtain ⟨h1, h2, h3⟩ := h f List.mem_cons_self
  have e : J1C (f :: (l ++ m)) = J1C (l ++ m) := by
   rw [J1C, if_neg h1, if_neg h2, if_neg h3]
  exact e.trans (Jd0 l m fun g hg => h g (List.mem_cons_of_mem _ hg))
theorem JpZ {l : List FT} {i : Int} {f : FT} (g0 : 0 ≤ i) (ha : l[i.toNat]? = some f) (h : ∀ f ∈ l.take i.toNat, f.1 ≠ 1 ∧ f.1 ≠ 2 ∧ f.1 ≠ 3) : J1C l = J1C (f :: l.drop (i.toNat + 1)) := by
 obtain ⟨h1, h2⟩ := List.getElem?_eq_some_iff.1 ha
 have e : l = l.take i.toNat ++ f :: l.drop (i.toNat + 1) := by
  conv => lhs; rw [← List.take_append_drop i.toNat l, List.drop_eq_getElem_cons h1, h2]
 conv => lhs; rw [e]
 exact Jd0 _ _ h
theorem JqA {n w : Int} {y : DT} (h : VP n y) (hn : n ≤ 64) {l : List FT} (hf : ∀ f ∈ l, J3Q n w f) (hl : J8 l ≤ 100) {p : Int} (h0 : 0 ≤ p) (h1 : p < n) {s : List UInt8} (hs : s.length = 256) (A2 : DT) (A3 : List FT) (A4 : List (List UInt8)) (A5 : Int) (A6 : List Int) (A7 : Bool) (A9 A10 : List FT) :
  JK J6F (p, s, false, 0, A2, A3, A4, A5, A6, A7, y.1, A9, A10, y.2.1, y.2.2.1, y.2.2.2.1, l, y.2.2.2.2) = some (l.foldl J21 (J9v (J1C l) y p s), 0) := by
 have e3 : J9k = J2a := rfl
 have e4 : J92 = J2a := rfl
 have e5 : J91 = J2a := rfl
 refine J2j ?_
 have pall : ∀ (t : Int), 0 ≤ t → t < n → Jal s (y.1.getD t.toNat []) 256 = s := fun t ht0 ht1 => JoE s _ hs (h.getD ht0 ht1).2
 refine J7C (τ := Int × Bool × DT) (fun q => (p, s, q.2.1, q.1, A2, A3, A4, A5, A6, A7, q.2.2.1, A9, A10, q.2.2.2.1, q.2.2.2.2.1, q.2.2.2.2.2.1, l, q.2.2.2.2.2.2))
  (fun q => 0 ≤ q.1 ∧ q.1 ≤ J8 l ∧ (q.2.1 = false → q.2.2 = y ∧ ∀ f ∈ l.take q.1.toNat, f.1 ≠ 1 ∧ f.1 ≠ 2 ∧ f.1 ≠ 3) ∧ (q.2.1 = true → q.2.2 = J9v (J1C l) y p s)) (fun q => J8 l - q.1) ?_ (0, false, y) rfl ⟨Int.le_refl _, J2l, fun _ => ⟨rfl, fun f hf => by simp at hf⟩, fun h => by cases h⟩
 rintro ⟨i, done, z⟩ ⟨g1, g2, g3, g4⟩
 dsimp only at g1 g2 g3 g4
 obtain ⟨k1, k2, k3, k4⟩ := Jmu h hn hf h0 h1 hs
 unfold J6F
 rw [e3, e4, e5]
 dsimp only
 have fin2 : done = true → Tot (JK J2a (0, A2, A3, A4, A5, A6, A7, z.1, A9, A10, z.2.1, z.2.2.1, z.2.2.2.1, l, z.2.2.2.2)) fun r => r = (l.foldl J21 (J9v (J1C l) y p s), 0) := fun hd => by
  rw [g4 hd]
  exact Jn (Jje k2 hn hf hl ..)
 refine .lt (fun c => ?_) fun c => .inr ?_
 ·refine .not (fun k => ?_) fun k => .inr (.not (fun k' => by rw [k] at k'; cases k') fun _ => (fin2 k).mono fun r e => e)
  obtain ⟨rfl, g5⟩ := g3 k
  have hil : i.toNat < l.length := by unfold J8 at c; omega
  have ha : l[i.toNat]? = some l[i.toNat] := List.getElem?_eq_getElem hil
  have hfa := hf _ (List.getElem_mem hil)
  generalize l[i.toNat] = a at ha hfa
  have ek := JpZ g1 ha g5
  rw [J42 g1 (by omega)]
  have m : J8 l - (i + 1) < J8 l - i ∧ 0 ≤ J8 l - i := by omega
  refine .bind (J5Z g1 c) fun _ _ => .bind (Jn (v := a) ha) fun f e => ?_
  subst e
  refine .eq (fun d => ?_) fun d1 => .eq (fun d => ?_) fun d2 => .eq (fun d => ?_) fun d3 => ?_
  ·refine .some ⟨(i + 1, true, z), rfl, ⟨by show 0 ≤ i + 1; omega, by show i + 1 ≤ J8 l; omega, nofun, fun _ => ?_⟩, m⟩
   rw [ek, J1C, if_pos d]
   rfl
  ·refine .bind (J5Z g1 c) fun _ _ => .bind (Jn (v := f) ha) fun f2 e => ?_
   subst e
   have pe := Jdi h hn hfa.t0 hfa.t1 hs (k := 256) (by decide) (by decide)
   rw [pall _ hfa.t0 hfa.t1] at pe
   refine .bind (Jn pe) fun v ev => .some ⟨(i + 1, true, J4E z f2.2.2.2.1.toNat s), ?_, ⟨by show 0 ≤ i + 1; omega, by show i + 1 ≤ J8 l; omega, nofun, fun _ => ?_⟩, m⟩
   ·rw [ev]; rfl
   ·rw [ek, J1C, if_neg d1, if_pos d]
    rfl
  ·refine .bind (J5Z g1 c) fun _ _ => .bind (Jn (v := f) ha) fun f2 e => ?_
   subst e
   have pe := Jdi h hn h0 h1 hs hfa.b0 (by have := hfa.b1; omega)
   refine .bind (Jn pe) fun v ev => .some ⟨(i + 1, true, J4E z p.toNat (Jal s (z.1.getD p.toNat []) f2.2.2.2.2.1)), ?_, ⟨by show 0 ≤ i + 1; omega, by show i + 1 ≤ J8 l; omega, nofun, fun _ => ?_⟩, m⟩
   ·rw [ev]; rfl
   ·rw [ek, J1C, if_neg d1, if_neg d2, if_pos d]
    rfl
  ·refine .some ⟨(i + 1, done, z), rfl, ⟨by show 0 ≤ i + 1; omega, by show i + 1 ≤ J8 l; omega, fun _ => ⟨rfl, fun g hg => ?_⟩, fun h => by rw [k] at h; cases h⟩, m⟩
   have hg' : g ∈ l.take (i + 1).toNat := hg
   rw [J2v g1 ha] at hg'
   rcases List.mem_append.1 hg' with hg' | hg'
   ·exact g5 g hg'
   ·rw [List.mem_singleton.1 hg']; exact ⟨d1, d2, d3⟩
 ·refine .not (fun k => ?_) fun k => (fin2 k).mono fun r e => e
  obtain ⟨rfl, g5⟩ := g3 k
  rw [J8N c] at g5
  have ek : J1C l = (0, 0) := by
   have := Jd0 l [] g5
   rw [List.append_nil] at this
   exact this
  have pe := Jdi h hn h0 h1 hs (k := 256) (by decide) (by decide)
  rw [pall _ h0 h1] at pe
  have es : J9v (J1C l) z p s = J4E z p.toNat s := by
   rw [ek]; rfl
  rw [es] at k2 ⊢
  refine .bind (Jn pe) fun v ev => ?_
  rw [ev]
  exact (Jn (Jje k2 hn hf hl ..)).mono fun r e => e
end
end Go.Am
end
section
namespace Go.Am
set_option maxRecDepth 20000
set_option linter.unusedVariables false
set_option linter.unusedSimpArgs false
noncomputable section
open Classical
theorem JhF {x : DT} (hv : VD x) : J0U x = some (x.2.1, x.2.2.1, x.2.2.2.1, x.1, x.2.2.2.2) := by
 unfold J0U
 have := hv.p64
 have := hv.unr
 have := hv.f64
 rw [Jq8 _ (by omega), Option.bind_some, Jqm _ (by omega), Option.bind_some, JmL _ (by omega), Option.bind_some]
theorem Jn3 {x : DT} (hv : VD x) {p : Int} (h0 : 0 ≤ p) (h1 : p < J8 x.1) {s : List UInt8} (hs : s.length = 256) (hw : x.2.1 < 1099511627776) :
  JK J6V (p, s, 0, x, [], [], 0, [], false, x.1, x.2.2.2.2, [], Jb .i64 x.2.1 1, x.2.2.1, x.2.2.2.1, [], []) = some (wM x p s, 0) := by
 refine J2j ?_
 have w0 := hv.w0
 have f64 := hv.f64
 rw [J42 w0 (by omega)]
 refine J1U (fun i => (p, s, i, x, [], [], 0, [], false, x.1, x.2.2.2.2, [], x.2.1 + 1, x.2.2.1, x.2.2.2.1, (x.2.2.2.2.take i.toNat).filter (fun f => f.2.1 == x.2.1 + 1), (x.2.2.2.2.take i.toNat).filter (fun f => !(f.2.1 == x.2.1 + 1)))) (J8 x.2.2.2.2) (fun _ => True) J2l trivial fun i g1 g2 _ => ?_
 unfold J6V
 dsimp only
 have t1 := Jds x.2.2.2.2 i.toNat
 have t2 := J5d (x.2.2.2.2.take i.toNat) (fun f => f.2.1 == x.2.1 + 1)
 have t3 := J5d (x.2.2.2.2.take i.toNat) (fun f => !(f.2.1 == x.2.1 + 1))
 refine .lt (fun c => .bind (J2z g1 c).eqn fun a ha => .eq (fun d => .bind (Jn ha.2) fun b e => ?_) fun d => .bind (Jn ha.2) fun b e => ?_) fun c => .inr ?_
 ·subst e
  refine .bind (Jn (JbU _ [b] (by omega) (by show (1 : Int) ≤ 100; decide))) fun v ev => .some ⟨?_, trivial, c⟩
  rw [J42 g1 (by omega), ev, J2v g1 ha.1.1, List.filter_append, List.filter_append]
  have q1 : ([b].filter (fun f : FT => f.2.1 == x.2.1 + 1)) = [b] := by simp [d]
  have q2 : ([b].filter (fun f : FT => !(f.2.1 == x.2.1 + 1))) = [] := by simp [d]
  rw [q1, q2, List.append_nil]
 ·subst e
  refine .bind (Jn (JbU _ [b] (by omega) (by show (1 : Int) ≤ 100; decide))) fun v ev => .some ⟨?_, trivial, c⟩
  rw [J42 g1 (by omega), ev, J2v g1 ha.1.1, List.filter_append, List.filter_append]
  have q1 : ([b].filter (fun f : FT => f.2.1 == x.2.1 + 1)) = [] := by simp [d]
  have q2 : ([b].filter (fun f : FT => !(f.2.1 == x.2.1 + 1))) = [b] := by simp [d]
  rw [q1, q2, List.append_nil]
 ·rw [J8N c]
  have hvr : VP (J8 x.1) (J70 x) := ⟨rfl, hv.vp.page, hv.vp.rng, hv.vp.srt⟩
  have hn : ∀ f ∈ J6T x, J3Q (J8 x.1) x.2.1 f := fun f hf => hv.flt f (Jfv hf).1
  have hl : J8 (J6T x) ≤ 100 := by have := J5d x.2.2.2.2 (fun f => f.2.1 == x.2.1 + 1); unfold J6T; omega
  exact Jn (JqA hvr hv.p64 hn hl h0 h1 hs x [] [] 0 [] false x.2.2.2.2 [])
theorem Jmr (x : DT) (p : Int) (s : List UInt8) (hu : J8 x.2.2.1 ≤ 1000000000000) : J1l (x, p, s) = some (wrD x p s) := by
 refine J2j ?_
 unfold J1l wrD
 dsimp only
 refine .bind (Jn (Jkl x p hu)) fun y e => ?_
 subst e
 refine .ne (fun c => .some (if_neg c).symm) fun c => ?_
 rw [if_pos c]
 obtain ⟨hv, _, h0, h1⟩ := J9H c
 refine .ne (fun c3 => .some (if_neg (show ¬s.length = 256 by unfold J8 at c3; omega)).symm) fun c3 => ?_
 have hs : s.length = 256 := by unfold J8 at c3; omega
 rw [if_pos hs]
 refine .eq (fun c4 => .some (if_pos c4).symm) fun c4 => ?_
 rw [if_neg c4]
 refine .bind (Jn (JhF hv)) fun y e => ?_
 subst e
 have := hv.w1
 exact Jn (Jn3 hv h0 h1 hs (by omega))
theorem Jqz (x : DT) (f : FT) (hu : J8 x.2.2.1 ≤ 1000000000000) : J2r (x, f) = some (Jbs x f) := by
 refine J2j ?_
 unfold J2r Jbs
 dsimp only
 refine .bind (Jev x hu) fun y hy => .not (fun k => .some ?_) fun k => ?_
 ·rw [if_neg fun h => by rw [hy.2 h] at k; cases k]; rfl
 have hv := hy.1 k
 rw [if_pos hv]
 refine .bind (Je2 x f) fun y hy => .not (fun k => .some ?_) fun k => ?_
 ·rw [if_neg fun h => by rw [hy.2 h] at k; cases k]; rfl
 rw [if_pos (hy.1 k)]
 refine .eq (fun c => .some (by rw [if_pos c]; rfl)) fun c => ?_
 rw [if_neg c]
 have := hv.f64
 refine .bind (Jn (JhF hv)) fun y e => ?_
 subst e
 exact .bind (Jn (JbU _ _ (by dsimp only; omega) (show (1 : Int) ≤ 100 by decide))) fun y e => .some (by rw [e])
theorem J1e (c : J5) (hc : J4Z c) : Tot (Jc c) fun y => J6L c y.2 := by
 unfold Jc
 refine .bind (J06 10 c hc) fun y2 h2 => ?_
 refine .eq (fun _ => .bind (J06 3 y2.2 (hc.to h2.1)) fun y3 h3 => .some (h2.1.trans h3.1)) fun _ => .eq (fun _ => .bind (J06 16 y2.2 (hc.to h2.1)) fun y4 h4 => ?_) fun _ => .bind (J06 20 y2.2 (hc.to h2.1)) fun y6 h6 => .some (h2.1.trans h6.1)
 have k2 := h4.2.2.1
 have k3 := h4.2.2.2 (by decide)
 refine .bind (J2z k2 (by show y4.1 < 16; omega)) fun y5 _ => .some (h2.1.trans h4.1)
theorem Jny (n w : Int) (c : J5) (hc : J4Z c) : Tot (J0p (n, w, c)) fun y => J6L c y.2 ∧ 0 ≤ y.1.2.2.2.2.2 ∧ y.1.2.2.2.2.2 ≤ 255 := by
 unfold J0p
 dsimp only
 have z : (0 : Int) ≤ 0 ∧ (0 : Int) ≤ 255 := by decide
 have u8 : ∀ a : Int, 0 ≤ cvI .u8 a ∧ cvI .u8 a ≤ 255 := fun a => by have := JpW .u8 a; simpa [IntKind.min, IntKind.max, IntKind.signed, IntKind.bits, cvI] using this
 refine .bind (J06 6 c hc) fun y2 h2 => .bind (J06 6 y2.2 (hc.to h2.1)) fun y3 h3 => ?_
 have t3 := h2.1.trans h3.1
 have c3 := hc.to t3
 refine .eq (fun _ => ?_) fun _ => .eq (fun _ => ?_) fun _ => .eq (fun _ => ?_) fun _ => .eq (fun _ => ?_) fun _ => ?_
 ·refine .bind (J06 n y3.2 c3) fun y4 h4 => .bind (J06 16 y4.2 (c3.to h4.1)) fun y5 h5 => ?_
  have t5 := (t3.trans h4.1).trans h5.1
  have c5 := hc.to t5
  exact .eq (fun _ => .bind (J1e _ c5) fun y h => .some ⟨t5.trans h, z⟩) fun _ => .eq (fun _ => .bind (J1e _ c5) fun y h => .some ⟨t5.trans h, z⟩) fun _ =>
   .eq (fun _ => .bind (J1e _ c5) fun y h => .bind (J1e _ (c5.to h)) fun y' h' => .some ⟨(t5.trans h).trans h', z⟩) fun _ => .eq (fun _ => .bind (J06 9 _ c5) fun y h => .some ⟨t5.trans h.1, z⟩) fun _ => .some ⟨t5, z⟩
 ·refine .bind (J06 256 y3.2 c3) fun y4 h4 => .bind (J06 16 y4.2 (c3.to h4.1)) fun y5 h5 => ?_
  have t5 := (t3.trans h4.1).trans h5.1
  have c5 := hc.to t5
  exact .eq (fun _ => .bind (J1e _ c5) fun y h => .some ⟨t5.trans h, z⟩) fun _ => .eq (fun _ => .bind (J1e _ c5) fun y h => .some ⟨t5.trans h, z⟩) fun _ =>
   .eq (fun _ => .bind (J1e _ c5) fun y h => .bind (J1e _ (c5.to h)) fun y' h' => .some ⟨(t5.trans h).trans h', z⟩) fun _ => .eq (fun _ => .bind (J06 9 _ c5) fun y h => .some ⟨t5.trans h.1, z⟩) fun _ => .some ⟨t5, z⟩
 ·refine .bind (J06 n y3.2 c3) fun y4 h4 => .bind (J06 256 y4.2 (c3.to h4.1)) fun y5 h5 => ?_
  have t5 := (t3.trans h4.1).trans h5.1
  have c5 := hc.to t5
  refine .bind (J06 255 _ c5) fun y6 h6 => .bind (J06 16 _ (c5.to h6.1)) fun y7 h7 => ?_
  have t7 := (t5.trans h6.1).trans h7.1
  have c7 := hc.to t7
  exact .eq (fun _ => .bind (J1e _ c7) fun y h => .some ⟨t7.trans h, u8 _⟩) fun _ => .eq (fun _ => .bind (J1e _ c7) fun y h => .some ⟨t7.trans h, z⟩) fun _ =>
   .eq (fun _ => .bind (J1e _ c7) fun y h => .bind (J1e _ (c7.to h)) fun y' h' => .some ⟨(t7.trans h).trans h', u8 _⟩) fun _ => .eq (fun _ => .bind (J06 9 _ c7) fun y h => .some ⟨t7.trans h.1, u8 _⟩) fun _ => .some ⟨t7, u8 _⟩
 ·refine .bind (J06 n y3.2 c3) fun y4 h4 => .bind (J06 16 y4.2 (c3.to h4.1)) fun y5 h5 => ?_
  have t5 := (t3.trans h4.1).trans h5.1
  have c5 := hc.to t5
  exact .eq (fun _ => .bind (J1e _ c5) fun y h => .some ⟨t5.trans h, z⟩) fun _ => .eq (fun _ => .bind (J1e _ c5) fun y h => .some ⟨t5.trans h, z⟩) fun _ =>
   .eq (fun _ => .bind (J1e _ c5) fun y h => .bind (J1e _ (c5.to h)) fun y' h' => .some ⟨(t5.trans h).trans h', z⟩) fun _ => .eq (fun _ => .bind (J06 9 _ c5) fun y h => .some ⟨t5.trans h.1, z⟩) fun _ => .some ⟨t5, z⟩
 ·refine .bind (J06 16 y3.2 c3) fun y5 h5 => ?_
  have t5 := t3.trans h5.1
  have c5 := hc.to t5
  exact .eq (fun _ => .bind (J1e _ c5) fun y h => .some ⟨t5.trans h, z⟩) fun _ => .eq (fun _ => .bind (J1e _ c5) fun y h => .some ⟨t5.trans h, z⟩) fun _ =>
   .eq (fun _ => .bind (J1e _ c5) fun y h => .bind (J1e _ (c5.to h)) fun y' h' => .some ⟨(t5.trans h).trans h', z⟩) fun _ => .eq (fun _ => .bind (J06 9 _ c5) fun y h => .some ⟨t5.trans h.1, z⟩) fun _ => .some ⟨t5, z⟩
structure Dv (d : DT) : Prop where
 unr : J8 d.2.2.1 ≤ 1000
 byt : Byt d.2.2.2.2
theorem J8c : Dv J9f := ⟨by decide, fun f hf => by cases hf⟩
theorem Jsv {d : DT} {f : FT} (h : Dv d) (hf : 0 ≤ f.2.2.2.2.2 ∧ f.2.2.2.2.2 ≤ 255) : Dv (Jbs d f).1 := by
 unfold Jbs
 split
 ·split
  ·split
   ·exact J8c
   ·exact ⟨h.unr, fun g hg => by
     rcases List.mem_append.1 hg with hg | hg
     ·exact h.byt g hg
     ·rw [List.mem_singleton.1 hg]; exact hf⟩
  ·exact J8c
 ·exact J8c
theorem JoX {d : DT} (h : Dv d) (p : Int) (s : List UInt8) : Dv (wrD d p s).1 := by
 unfold wrD
 by_cases hu : usD d p = 0
 ·rw [if_pos hu]
  by_cases hs : s.length = 256
  ·rw [if_pos hs]
   by_cases hw : d.2.1 = 1099511627776
   ·rw [if_pos hw]; exact J8c
   ·rw [if_neg hw]
    obtain ⟨hv, _, h0, h1⟩ := J9H hu
    have := hv.w1
    obtain ⟨_, v, b, _⟩ := Jhl hv h.byt h0 h1 hs (by omega)
    exact ⟨by have := v.unr; show J8 (wM d p s).2.2.1 ≤ 1000; omega, b⟩
  ·rw [if_neg hs]; exact J8c
 ·rw [if_neg hu]; exact J8c
theorem JoM (c : J5) (d e : DT) (hd : Dv d) : Tot (JK JU (0, c, d, d, e, e)) fun r => r = .inl (c, d, d) := by
 refine J1U (fun i => (i, c, d, d, e, e)) 3 (fun _ => True) (by decide) trivial fun i g1 g2 _ => ?_
 unfold JU
 dsimp only
 have hu : J8 d.2.2.1 ≤ 1000000000000 := by have := hd.unr; omega
 refine .lt (fun k => .bind (Jn (Jk8 d i hu)) fun y17 e17 => .bind (Jn (JpA d i hu)) fun y18 e18 => ?_) fun k => .some rfl
 subst e17
 subst e18
 exact .itf (fun _ => .ne (fun c => absurd rfl c) fun _ => .some ⟨by rw [J42 g1 (by omega)], trivial, k⟩) fun c => by simp [neS] at c
theorem JaU {x0 : List Int} (w0 : Ty.inR (.l (.i .u8)) x0) : J3k x0 = some true := by
 refine J2j ?_
 have e2 : J6n = JU := rfl
 have e3 : J6y = JU := rfl
 have e4 : J6r = JU := rfl
 have e5 : J6w = JU := rfl
 have e6 : J6x = JU := rfl
 unfold J3k
 refine .bind (Jn Jqi) fun y2 d2 => .not (fun c => by rw [d2] at c; cases c) fun _ => ?_
 refine .bind (Jq7 x0 400 (by decide) (by decide) (Jo1 w0)) fun c h3 => .bind (Jn (Jms 3)) fun y4 ed => .bind (Jn (Jr6 3)) fun y5 er => ?_
 rw [Jtr] at ed er
 subst ed
 subst er
 refine J7C (τ := J5 × DT) (fun q => (q.1, q.2, q.2)) (fun q => J4Z q.1 ∧ Dv q.2) (fun q => J8 q.1.1 - q.1.2) ?_ (c, (List.replicate 3 J1v, 0, [], false, [])) rfl ⟨h3.1, ⟨by show (0 : Int) ≤ 1000; decide, fun f hf => by cases hf⟩⟩
 rintro ⟨c, d⟩ ⟨hc, hd⟩
 dsimp only at hc hd
 unfold J6u
 rw [e2, e3, e4, e5, e6]
 dsimp only
 refine .bind (Jn (JqT c hc)) fun y10 e10 => ?_
 subst e10
 have hc0 := hc.at0
 have hcl := hc.len
 have hhi := hc.hi
 have es := JpM (J8 c.1) c.2
 dsimp only
 refine .gt (fun k => ?_) fun k => .some rfl
 have hu : ∀ d : DT, Dv d → J8 d.2.2.1 ≤ 1000000000000 := fun d hd => by have := hd.unr; omega
 have fin : ∀ (c' : J5) (d' e : DT), J6L c c' → c.2 < c'.2 → Dv d' → Tot (JK JU (0, c', d', d', e, e)) fun r => ∃ q : J5 × DT, r = .inl (q.1, q.2, q.2) ∧ (J4Z q.1 ∧ Dv q.2) ∧ J8 q.1.1 - q.1.2 < J8 c.1 - c.2 ∧ 0 ≤ J8 c.1 - c.2 := fun c' d' e t hlt hd' =>
  (JoM c' d' e hd').mono fun r er => ⟨(c', d'), er, ⟨hc.to t, hd'⟩, by show J8 c'.1 - c'.2 < _; rw [t.list]; omega, by omega⟩
 have tail : ∀ (c' : J5) (d' : DT), J6L c c' → c.2 < c'.2 → Dv d' → Tot ((J7 (3, c')).bind fun y12 => (J0o y12.2).bind fun y13 => (J01 (d', y12.1, y13.1)).bind fun y14 => (J1l (d', y12.1, y13.1)).bind fun y15 =>
   if neI y14.2 y15.2 = true then some (.inr false) else if eqI y14.2 0 = true then JK JU (0, y13.2, y14.1, y15.1, y14.1, y15.1) else JK JU (0, y13.2, d', d', y14.1, y15.1))
   fun r => ∃ q : J5 × DT, r = .inl (q.1, q.2, q.2) ∧ (J4Z q.1 ∧ Dv q.2) ∧ J8 q.1.1 - q.1.2 < J8 c.1 - c.2 ∧ 0 ≤ J8 c.1 - c.2 := fun c' d' t hlt hd' => by
  refine .bind (J06 3 c' (hc.to t)) fun y12 h12 => .bind (Jnx y12.2 ((hc.to t).to h12.1)) fun y13 h13 => .bind (Jn (JcU d' y12.1 y13.1 (hu d' hd') hd'.byt)) fun y14 e14 => .bind (Jn (Jmr d' y12.1 y13.1 (hu d' hd'))) fun y15 e15 => ?_
  have t2 := (t.trans h12.1).trans h13.1
  have m1 := h12.1.mono
  have m2 := h13.1.mono
  rw [← e14] at e15
  subst e15
  refine .ne (fun c => absurd rfl c) fun _ => .eq (fun _ => ?_) fun _ => fin y13.2 d' _ t2 (by omega) hd'
  rw [e14]
  exact fin y13.2 _ _ t2 (by omega) (JoX hd' _ _)
 have done : ∀ {o : Option ((J5 × DT × DT) ⊕ Bool)}, Tot o (fun r => ∃ q : J5 × DT, r = .inl (q.1, q.2, q.2) ∧ (J4Z q.1 ∧ Dv q.2) ∧ J8 q.1.1 - q.1.2 < J8 c.1 - c.2 ∧ 0 ≤ J8 c.1 - c.2) →
   Tot o fun r => match r with | .inl z => ∃ c' : J5 × DT, z = (c'.1, c'.2, c'.2) ∧ (J4Z c'.1 ∧ Dv c'.2) ∧ J8 c'.1.1 - c'.1.2 < J8 c.1 - c.2 ∧ 0 ≤ J8 c.1 - c.2 | .inr y => y = true := fun h => h.mono fun r ⟨q, e, hh⟩ => by subst e; exact ⟨q, rfl, hh⟩
 refine Tot.mono (P := fun r => ∃ q : J5 × DT, r = .inl (q.1, q.2, q.2) ∧ (J4Z q.1 ∧ Dv q.2) ∧ J8 q.1.1 - q.1.2 < J8 c.1 - c.2 ∧ 0 ≤ J8 c.1 - c.2) ?_ fun r ⟨q, e, hh⟩ => by subst e; exact ⟨q, rfl, hh⟩
 refine .bind (J06 3 c hc) fun y8 h8 => ?_
 have k1 := h8.2.1 (by omega) (by decide)
 refine .eq (fun _ => .bind (Jny 3 _ y8.2 (hc.to h8.1)) fun y9 h9 => .bind (Jn (Jn4 d y9.1 (hu d hd))) fun y10 e10 => .bind (Jn (Jqz d y9.1 (hu d hd))) fun y11 e11 => ?_) fun _ => tail y8.2 d h8.1 k1 hd
 have m9 := h9.1.mono
 rw [← e10] at e11
 subst e11
 refine .ne (fun c => absurd rfl c) fun _ => .eq (fun _ => ?_) fun _ => tail y9.2 d (h8.1.trans h9.1) (by omega) hd
 rw [e10]
 exact tail y9.2 _ (h8.1.trans h9.1) (by omega) (Jsv hd h9.2)
end
end Go.Am
end
section
namespace Go.Am
set_option maxRecDepth 20000
def lkA {α : Type} (f : FuncId) : List (FuncId × α) → Option α
 | [] => none
 | (g, a) :: r => if f = g then some a else lkA f r
noncomputable def fns : List (FuncId × AFn) := [(J0O, erF J3W), (J22, erF J4M), (J0f, erF J5n), (J0y, erF J3X), (J0K, erF J3V), (JH, erF J0v), (JD, erF J0j), (JQ, erF J13), (JN, erF J0H), (J0T, erF J5f), (J0Y, erF J4K), (J1V, erF J5k), (J1G, erF J6O), (J1D, erF J4L), (J0G, erF J2u), (J0m, erF J1X), (J1o, erF J5X), (i_draw_Codes_Next, erF J0L), (J10, erF J3t), (Jz, erF J12), (JX, erF J0F), (J1A, erF J3U), (J4o, erF J85), (J2I, erF J62), (J0k, erF J28), (J1m, erF J5V), (J16, erF J63), (J1T, erF J5q), (J1Q, erF J5v), (J34, erF J7u), (J3L, erF J7o), (J0R, erF J5j), (J3a, erF J6K), (J29, erF J4J), (J1k, erF J64), (J3b, erF J6E), (J2g, erF J5T), (J3l, erF J3h), (J8R, erF J8w), (JaJ, erF JaM), (J2S, erF J2R), (J74, erF J73), (JaP, erF JaO), (J99, erF J9j), (Jbr, erF Jba), (Jbm, erF JbJ)]
noncomputable def fks : List (FuncId × J4O) := [(JE, J8L J4 48)]
noncomputable def fps : List (FuncId × Prm) := [(J0l, Jdm), (J2o, Jis), (Jbx, JlU J3 JrZ), (i_law04_odd, Jro)]
abbrev PS := FuncId → Option (List AV → List Blk → Option Res)
noncomputable def tabO (p : PS) : J1Y := fun f => Jp8 (lkA f fns) (lkA f fks) (lkA f fps) (p f)
theorem JcC (p : PS) : tabO p J0O = some (.fn (erF J3W)) := rfl
theorem JdZ (p : PS) : tabO p J22 = some (.fn (erF J4M)) := rfl
theorem Jfm (p : PS) : tabO p J0f = some (.fn (erF J5n)) := rfl
theorem JcB (p : PS) : tabO p J0y = some (.fn (erF J3X)) := rfl
theorem Jcu (p : PS) : tabO p J0K = some (.fn (erF J3V)) := rfl
theorem J4D (p : PS) : tabO p JH = some (.fn (erF J0v)) := rfl
theorem J4b (p : PS) : tabO p JD = some (.fn (erF J0j)) := rfl
theorem J6d (p : PS) : tabO p JQ = some (.fn (erF J13)) := rfl
theorem J5c (p : PS) : tabO p JN = some (.fn (erF J0H)) := rfl
theorem JfF (p : PS) : tabO p J0T = some (.fn (erF J5f)) := rfl
theorem JeI (p : PS) : tabO p J0Y = some (.fn (erF J4K)) := rfl
theorem JfX (p : PS) : tabO p J1V = some (.fn (erF J5k)) := rfl
theorem Jiy (p : PS) : tabO p J1G = some (.fn (erF J6O)) := rfl
theorem JeC (p : PS) : tabO p J1D = some (.fn (erF J4L)) := rfl
theorem J9A (p : PS) : tabO p J0G = some (.fn (erF J2u)) := rfl
theorem J89 (p : PS) : tabO p J0m = some (.fn (erF J1X)) := rfl
theorem JgG (p : PS) : tabO p J1o = some (.fn (erF J5X)) := rfl
theorem J5B (p : PS) : tabO p i_draw_Codes_Next = some (.fn (erF J0L)) := rfl
theorem Jbi (p : PS) : tabO p J10 = some (.fn (erF J3t)) := rfl
theorem J66 (p : PS) : tabO p Jz = some (.fn (erF J12)) := rfl
theorem J54 (p : PS) : tabO p JX = some (.fn (erF J0F)) := rfl
theorem Jcz (p : PS) : tabO p J1A = some (.fn (erF J3U)) := rfl
theorem JlP (p : PS) : tabO p J4o = some (.fn (erF J85)) := rfl
theorem Jh5 (p : PS) : tabO p J2I = some (.fn (erF J62)) := rfl
theorem J8J (p : PS) : tabO p J0k = some (.fn (erF J28)) := rfl
theorem JgM (p : PS) : tabO p J1m = some (.fn (erF J5V)) := rfl
theorem Jh2 (p : PS) : tabO p J16 = some (.fn (erF J63)) := rfl
theorem JfI (p : PS) : tabO p J1T = some (.fn (erF J5q)) := rfl
theorem Jf6 (p : PS) : tabO p J1Q = some (.fn (erF J5v)) := rfl
theorem JjZ (p : PS) : tabO p J34 = some (.fn (erF J7u)) := rfl
theorem JjN (p : PS) : tabO p J3L = some (.fn (erF J7o)) := rfl
theorem JfH (p : PS) : tabO p J0R = some (.fn (erF J5j)) := rfl
theorem JhE (p : PS) : tabO p J3a = some (.fn (erF J6K)) := rfl
theorem JeB (p : PS) : tabO p J29 = some (.fn (erF J4J)) := rfl
theorem Jh8 (p : PS) : tabO p J1k = some (.fn (erF J64)) := rfl
theorem Jit (p : PS) : tabO p J3b = some (.fn (erF J6E)) := rfl
theorem Jh3 (p : PS) : tabO p J2g = some (.fn (erF J5T)) := rfl
theorem JaW (p : PS) : tabO p J3l = some (.fn (erF J3h)) := rfl
theorem J71 (p : PS) : tabO p J0l = some (.prim (Jdm)) := rfl
theorem Jdd (p : PS) : tabO p J2o = some (.prim (Jis)) := rfl
theorem J5H (p : PS) : tabO p JE = some (.fork (J8L J4 48)) := rfl
end Go.Am
end
section
namespace Go.Am
set_option maxRecDepth 20000
set_option maxHeartbeats 4000000
theorem Jcm (p : PS) : EOk (AF (tabO p)) (sigE J0O J2V J2c) := J0g (l := []) (JcC p) trivial rfl Jcy
theorem Jek (p : PS) : EOk (AF (tabO p)) (sigE J22 J3v J24) := J0g (l := []) (JdZ p) trivial rfl JeO
theorem J76 (p : PS) : EOk (AF (tabO p)) (sigE J0f J1t J07) := J0g (l := []) (Jfm p) trivial rfl Jfq
theorem J7N (p : PS) : EOk (AF (tabO p)) (sigE J0y J1B J0z) := J0g (l := [sigE J22 J3v J24, sigE J0f J1t J07]) (JcB p) ⟨Jek p, ⟨J76 p, trivial⟩⟩ rfl Jcs
theorem J5g (p : PS) : EOk (AF (tabO p)) (sigE JQ J0e J00) := J0g (l := [sigE J0O J2V J2c]) (J6d p) ⟨Jcm p, trivial⟩ rfl J5w
theorem J4I (p : PS) : EOk (AF (tabO p)) (sigE JN J05 JF) := J0g (l := [sigE JQ J0e J00]) (J5c p) ⟨J5g p, trivial⟩ rfl J4y
theorem Jct (p : PS) : EOk (AF (tabO p)) (sigE J0K J2M J2e) := J0g (l := [sigE J0y J1B J0z]) (Jcu p) ⟨J7N p, trivial⟩ rfl Jcp
theorem J4e (p : PS) : EOk (AF (tabO p)) (sigE JH JY JL) := J0g (l := [sigE J0K J2M J2e]) (J4D p) ⟨Jct p, trivial⟩ rfl J4c
theorem J3N (p : PS) : EOk (AF (tabO p)) (sigE JD JP JA) := J0g (l := [sigE JH JY JL]) (J4b p) ⟨J4e p, trivial⟩ rfl J3P
theorem J9W (p : PS) : EOk (AF (tabO p)) (sigE J0T J2n J1c) := J0g (l := [sigE J0f J1t J07, sigE JN J05 JF, sigE JD JP JA]) (JfF p) ⟨J76 p, ⟨J4I p, ⟨J3N p, trivial⟩⟩⟩ rfl JfL
theorem J5D (p : PS) : EOk (AF (tabO p)) (sigE JE J1z J0N) := Joy (J5H p)
theorem J9n (p : PS) : EOk (AF (tabO p)) (sigE J0Y J20 J0V) := J0g (l := [sigE J0T J2n J1c, sigE J0y J1B J0z, sigE JE J1z J0N]) (JeI p) ⟨J9W p, ⟨J7N p, ⟨J5D p, trivial⟩⟩⟩ rfl JeW
theorem J72 (p : PS) : EOk (AF (tabO p)) (sigE J0l J2h J1f) := JqD (J71 p)
theorem Jdk (p : PS) : EOk (AF (tabO p)) (sigE J2o J6f J3e) := JqV (Jdd p)
theorem Jfr (p : PS) : EOk (AF (tabO p)) (sigE J1V J40 J2s) := J0g (l := [sigE J2o J6f J3e, sigE J0l J2h J1f]) (JfX p) ⟨Jdk p, ⟨J72 p, trivial⟩⟩ rfl JfC
theorem Jbk (p : PS) : EOk (AF (tabO p)) (sigE J1G J3d J1I) := J0g (l := [sigE J1V J40 J2s]) (Jiy p) ⟨Jfr p, trivial⟩ rfl Jia
theorem J8W (p : PS) : EOk (AF (tabO p)) (sigE J1D J3C J0W) := J0g (l := [sigE J0T J2n J1c, sigE J0f J1t J07]) (JeC p) ⟨J9W p, ⟨J76 p, trivial⟩⟩ rfl JeL
theorem J9q (p : PS) : EOk (AF (tabO p)) (sigE J0G J1H J19) := J0g (l := []) (J9A p) trivial rfl J9z
theorem J7Y (p : PS) : EOk (AF (tabO p)) (sigE J0m J1d J0n) := J0g (l := [sigE J0G J1H J19]) (J89 p) ⟨J9q p, trivial⟩ rfl J83
theorem JaN (p : PS) : EOk (AF (tabO p)) (sigE J1o J2F J0i) := J0g (l := [sigE J1D J3C J0W, sigE J0m J1d J0n]) (JgG p) ⟨J8W p, ⟨J7Y p, trivial⟩⟩ rfl Jhb
noncomputable def J27 : PS := fun f => if f = J1b then some (Jd2 J3 J01) else none
theorem Jfu : tabO J27 J1b = some (.prim (Jd2 J3 J01)) := rfl
theorem J9D : EOk (AF (tabO J27)) (sigE J1b J48 J01) := Jr4 Jfu
theorem J1y (p : PS) : EOk (AF (tabO p)) (sigE i_draw_Codes_Next g_draw_Codes_Next J7) := JhG (l := []) (J5B p) trivial rfl J5G 100
theorem JbP (p : PS) : EOk (AF (tabO p)) (sigE J10 J2A J0o) := J0g (l := [sigE i_draw_Codes_Next g_draw_Codes_Next J7]) (Jbi p) ⟨J1y p, trivial⟩ rfl Jbh
theorem J6j (p : PS) : EOk (AF (tabO p)) (sigE Jz J0u Jc) := J0g (l := [sigE i_draw_Codes_Next g_draw_Codes_Next J7]) (J66 p) ⟨J1y p, trivial⟩ rfl J6l
theorem J7y (p : PS) : EOk (AF (tabO p)) (sigE JX J0E J0p) := J0g (l := [sigE i_draw_Codes_Next g_draw_Codes_Next J7, sigE Jz J0u Jc]) (J54 p) ⟨J1y p, ⟨J6j p, trivial⟩⟩ rfl J4Y
theorem JcD (p : PS) : EOk (AF (tabO p)) (sigE J1A J2N J2f) := J0g (l := []) (Jcz p) trivial rfl Jcl
theorem Jm0 (p : PS) : EOk (AF (tabO p)) (sigE J4o J6G J4l) := J0g (l := []) (JlP p) trivial rfl JlS
theorem JgZ : EOk (AF (tabO J27)) (sigE J2I J4q J2L) := J0g (l := [sigE J1G J3d J1I, sigE J0Y J20 J0V, sigE J1b J48 J01, sigE J1o J2F J0i]) (Jh5 J27) ⟨Jbk J27, ⟨J9n J27, ⟨J9D, ⟨JaN J27, trivial⟩⟩⟩⟩ rfl JgV
theorem J8t (p : PS) : EOk (AF (tabO p)) (sigE J0k J1i J0U) := J0g (l := []) (J8J p) trivial rfl J8x
theorem JaH (p : PS) : EOk (AF (tabO p)) (sigE J1m J2H J1j) := J0g (l := []) (JgM p) trivial rfl JgR
theorem JaQ (p : PS) : EOk (AF (tabO p)) (sigE J16 J2E J1p) := J0g (l := [sigE J1m J2H J1j]) (Jh2 p) ⟨JaH p, trivial⟩ rfl JgY
theorem Jfg (p : PS) : EOk (AF (tabO p)) (sigE J1T J41 J2r) := J0g (l := [sigE J16 J2E J1p, sigE J1m J2H J1j, sigE J0k J1i J0U]) (JfI p) ⟨JaQ p, ⟨JaH p, ⟨J8t p, trivial⟩⟩⟩ rfl JfJ
theorem Jfa (p : PS) : EOk (AF (tabO p)) (sigE J1Q J43 J2p) := J0g (l := []) (Jf6 p) trivial rfl Jft
theorem Jjy (p : PS) : EOk (AF (tabO p)) (sigE J34 J5M J3K) := J0g (l := [sigE J1Q J43 J2p]) (JjZ p) ⟨Jfa p, trivial⟩ rfl JjW
theorem JjV (p : PS) : EOk (AF (tabO p)) (sigE J3L J5S J3S) := J0g (l := []) (JjN p) trivial rfl JjA
theorem Ja1 (p : PS) : EOk (AF (tabO p)) (sigE J0R J2q J1a) := J0g (l := [sigE J16 J2E J1p]) (JfH p) ⟨JaQ p, trivial⟩ rfl JfQ
theorem Jhx (p : PS) : EOk (AF (tabO p)) (sigE J3a J4U J17) := J0g (l := [sigE J0R J2q J1a, sigE J3L J5S J3S]) (JhE p) ⟨Ja1 p, ⟨JjV p, trivial⟩⟩ rfl Jj4
theorem Jew (p : PS) : EOk (AF (tabO p)) (sigE J29 J3H J25) := J0g (l := []) (JeB p) trivial rfl Jez
theorem Jha (p : PS) : EOk (AF (tabO p)) (sigE J1k J4s J1n) := J0g (l := [sigE J29 J3H J25]) (Jh8 p) ⟨Jew p, trivial⟩ rfl JgN
theorem JhQ (p : PS) : EOk (AF (tabO p)) (sigE J3b J4N J1E) := J0g (l := []) (Jit p) trivial rfl JiG
theorem JgL (p : PS) : EOk (AF (tabO p)) (sigE J2g J4r J1l) := J0g (l := [sigE J0R J2q J1a, sigE J0k J1i J0U, sigE J1k J4s J1n, sigE J3b J4N J1E]) (Jh3 p) ⟨Ja1 p, ⟨J8t p, ⟨Jha p, ⟨JhQ p, trivial⟩⟩⟩⟩ rfl Jh4
theorem JaX : EOk (AF (tabO J27)) (sigE J3l J4B J3k) := J0g (l := [sigE J2I J4q J2L, sigE J4o J6G J4l, sigE J1G J3d J1I, sigE J34 J5M J3K, sigE J1A J2N J2f, sigE i_draw_Codes_Next g_draw_Codes_Next J7, sigE JX J0E J0p, sigE J0Y J20 J0V, sigE J1T J41 J2r, sigE J10 J2A J0o, sigE J1b J48 J01, sigE J2g J4r J1l, sigE J1o J2F J0i, sigE J3a J4U J17]) (JaW J27) ⟨JgZ, ⟨Jm0 J27, ⟨Jbk J27, ⟨Jjy J27, ⟨JcD J27, ⟨J1y J27, ⟨J7y J27, ⟨J9n J27, ⟨Jfg J27, ⟨JbP J27, ⟨J9D, ⟨JgL J27, ⟨JaN J27, ⟨Jhx J27, trivial⟩⟩⟩⟩⟩⟩⟩⟩⟩⟩⟩⟩⟩⟩ rfl JaR
end Go.Am
end
section
namespace Go.Proofs
open Go.Shelf Go.RowKit
def Try.ρA : Ren where
 f := fun
  | 105 => 58
  | 212 => 70
  | 99 => 71
  | 165 => 72
  | 166 => 73
  | 170 => 74
  | 169 => 75
  | 263 => 81
  | 264 => 82
  | 206 => 83
  | 240 => 84
  | 241 => 85
  | 276 => 88
  | 277 => 89
  | n => n
 t := fun
  | 9 => 9
  | 3 => 3
  | 4 => 4
  | 20 => 20
  | 0 => 0
  | 46 => 99
  | 109 => 100
  | 5 => 5
  | 72 => 105
  | 76 => 109
  | 51 => 115
  | 146 => 116
  | 53 => 118
  | 148 => 119
  | 70 => 103
  | 37 => 22
  | 75 => 108
  | 127 => 121
  | 164 => 122
  | 80 => 40
  | n => n
 g := fun n => n
theorem Try.laysRep : Lays.n105 Try.prog Try.ρA where
 mixed := by kernel_rfl
 f99 := by kernel_rfl
 f105 := by kernel_rfl
 f165 := by kernel_rfl
 f166 := by kernel_rfl
 f169 := by kernel_rfl
 f170 := by kernel_rfl
 f206 := by kernel_rfl
 f212 := by kernel_rfl
 f240 := by kernel_rfl
 f241 := by kernel_rfl
 f263 := by kernel_rfl
 f264 := by kernel_rfl
 f276 := by kernel_rfl
 f277 := by kernel_rfl
 t0 := Try.underlying0
 a0 := Try.isAgg0
 z0 := Try.sizeOf0
 v0 := Try.zeroValue0
 t3 := Try.underlying3
 a3 := Try.isAgg3
 z3 := Try.sizeOf3
 v3 := Try.zeroValue3
 t4 := Try.underlying4
 a4 := Try.isAgg4
 z4 := Try.sizeOf4
 v4 := Try.zeroValue4
 t5 := Try.underlying5
 a5 := Try.isAgg5
 z5 := Try.sizeOf5
 v5 := Try.zeroValue5
 t9 := Try.underlying9
 a9 := Try.isAgg9
 z9 := Try.sizeOf9
 v9 := Try.zeroValue9
 t20 := Try.underlying20
 a20 := Try.isAgg20
 z20 := Try.sizeOf20
 v20 := Try.zeroValue20
 t37 := Try.underlying22
 a37 := Try.isAgg22
 z37 := Try.sizeOf22
 v37 := Try.zeroValue22
 t46 := Try.underlying99
 a46 := Try.isAgg99
 z46 := Try.sizeOf99
 v46 := Try.zeroValue99
 t51 := Try.underlying115
 a51 := Try.isAgg115
 z51 := Try.sizeOf115
 v51 := Try.zeroValue115
 t53 := Try.underlying118
 a53 := Try.isAgg118
 z53 := Try.sizeOf118
 v53 := Try.zeroValue118
 t70 := Try.underlying103
 a70 := Try.isAgg103
 z70 := Try.sizeOf103
 v70 := Try.zeroValue103
 t72 := Try.underlying105
 a72 := Try.isAgg105
 z72 := Try.sizeOf105
 v72 := Try.zeroValue105
 t75 := Try.underlying108
 a75 := Try.isAgg108
 z75 := Try.sizeOf108
 v75 := Try.zeroValue108
 t76 := Try.underlying109
 a76 := Try.isAgg109
 z76 := Try.sizeOf109
 v76 := Try.zeroValue109
 t109 := Try.underlying100
 a109 := Try.isAgg100
 z109 := Try.sizeOf100
 v109 := Try.zeroValue100
 t127 := Try.underlying121
 a127 := Try.isAgg121
 z127 := Try.sizeOf121
 v127 := Try.zeroValue121
 t146 := Try.underlying116
 a146 := Try.isAgg116
 z146 := Try.sizeOf116
 v146 := Try.zeroValue116
 t148 := Try.underlying119
 a148 := Try.isAgg119
 z148 := Try.sizeOf119
 v148 := Try.zeroValue119
 t164 := Try.underlying122
 a164 := Try.isAgg122
 z164 := Try.sizeOf122
 v164 := Try.zeroValue122
theorem Try.extraRep : Builder.Extra Try.prog Try.ρA where
 sizeBuilder := by kernel_rfl
 liesBuilder := by kernel_rfl
 t5 := Try.laysRep.t5
 a5 := Try.laysRep.a5
 z5 := Try.laysRep.z5
 v5 := Try.laysRep.v5
 infoByte := by kernel_rfl
 cellsByte := by kernel_rfl
 sizeByte := by kernel_rfl
 neB5 := by decide
theorem J6M (l : List UInt8) : ∀ c, Lib.repeatL l c = (List.replicate c l).flatten
 | 0 => rfl
 | c + 1 => by rw [Lib.repeatL, J6M l c, List.replicate_succ, List.flatten_cons]
theorem JoY (l : List UInt8) : (⟨l.toArray⟩ : ByteArray).data.toList = l := rfl
theorem JcA (args : List Am.AV) (blks : List Am.Blk) (r : Am.Res) (h : Am.Jis args blks = some r) : Am.J1P Try.prog 58 args blks r := by
 unfold Am.Jis at h
 split at h
 ·rename_i bl l n
  obtain ⟨x, hx, rfl⟩ := Option.map_eq_some_iff.1 h
  unfold Am.Jif at hx
  split at hx
  ·rename_i hc
   obtain ⟨h0, h1, h2⟩ := hc
   injection hx with hx
   subst hx
   refine Am.JqY (xs := [.s l, .i .i64 n]) (vs := [.string ⟨l.toArray⟩, .int .i64 n]) (v := .string ⟨((List.replicate n.toNat l).flatten).toArray⟩) ⟨_, Try.func58, by decide, by decide⟩ rfl rfl fun w => ?_
   have h3 := Any.strings_Repeat Try.laysRep Try.extraRep ⟨l.toArray⟩ n.toNat w (by omega) (by rw [Lib.size_eq]; exact h2)
   rw [JoY, J6M, show ((n.toNat : Nat) : Int) = n by omega] at h3
   exact h3
  ·cases hx
 ·cases h
end Go.Proofs
end
