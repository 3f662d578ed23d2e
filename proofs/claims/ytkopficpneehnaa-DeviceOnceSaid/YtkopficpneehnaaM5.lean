/-
  Parts of a proof.
-/
import Derived.ChangeArms
import Derived.OpenShut
import Derived.ChangeBears
import Derived.ChangeStays
import Derived.Handed
import Derived.RowKit3
import Derived.WalkKit
import Derived.ProofKit
import Derived.Test.YtkopficpneehnaaM2
import Derived.Test.YtkopficpneehnaaM3
import Derived.Test.YtkopficpneehnaaM4
set_option linter.unusedSimpArgs false
set_option linter.unusedVariables false
section
namespace Go.Am
noncomputable section
set_option maxRecDepth 20000
def J1Z (x1 : List UInt8) : Option (Bool) :=
 some (neI (J8 x1) 256)
theorem JcX (x) : onO (J11 J2t x) (fun y => J1w (TG.of []) J3L y.1 y.2 (J0D J2t)) = J1Z x := by kernel_rfl
def J1V (x1 : J9) : Option (J9 × Bool) :=
 if eqI x1.1 1 then
  some ((x1.1, x1.2.1, 0, 0, 0, 0), true)
 else
  if eqI x1.1 6 then
   some ((x1.1, x1.2.1, 0, 0, 0, 0), true)
  else
   if eqI x1.1 2 then
    some ((x1.1, x1.2.1, 0, x1.2.2.2.1, 0, 0), true)
   else
    if eqI x1.1 3 then
     some ((x1.1, x1.2.1, 0, 0, x1.2.2.2.2.1, 0), true)
    else
     if eqI x1.1 4 then
      some ((x1.1, x1.2.1, x1.2.2.1, 0, x1.2.2.2.2.1, x1.2.2.2.2.2), true)
     else
      if eqI x1.1 5 then
       some ((x1.1, x1.2.1, x1.2.2.1, 0, 0, 0), true)
      else
       some ((x1.1, x1.2.1, 0, 0, 0, 0), false)
theorem Jft (x) : onO (J11 J3r x) (fun y => J1w (TG.of []) J4y y.1 y.2 (J0D J3r)) = J1V x := by kernel_rfl
def J0d (x1 : J5 × Int) : Option (Bool) :=
 if geI x1.2 0 then
  some (ltI x1.2 (J8 x1.1.1))
 else
  some false
theorem JfY (x) : onO (J11 J1x x) (fun y => J1w (TG.of []) J5c y.1 y.2 (J0D J1x)) = J0d x := by kernel_rfl
def J0G (x1 : J5 × J9) : Option (Bool) :=
 (J1V x1.2).bind fun y2 =>
 if y2.2 then
  if eqT J6 y2.1 x1.2 then
   if gtI x1.2.2.1 x1.1.2.1 then
    if leI x1.2.2.1 1099511627776 then
     (J0d (x1.1, x1.2.2.2.1)).bind fun y3 =>
     if y3 then
      (J0d (x1.1, x1.2.2.2.2.1)).bind fun y4 =>
      if y4 then
       if geI x1.2.2.2.2.2.1 0 then
        if ltI x1.2.2.2.2.2.1 256 then
         if neI x1.2.1 4 = false then
          some (neI x1.2.2.2.2.2.2 0)
         else
          some true
        else
         some false
       else
        some false
      else
       some false
     else
      some false
    else
     some false
   else
    some false
  else
   some false
 else
  some false
theorem JcP (x) : onO (J11 J1z x) (fun y => J1w (TG.of [sigE J1T J3r J1V, sigE J0m J1x J0d]) J3G y.1 y.2 (J0D J1z)) = J0G x := by kernel_rfl
def J2c (z2 : (List (List UInt8)) × Int × Int) : Option (((List (List UInt8)) × Int × Int) ⊕ Int) :=
 if ltI z2.2.2 z2.2.1 then
  (idx z2.1 z2.2.2).bind fun y3 =>
  (J1Z y3).bind fun y4 =>
  if y4 then
   some (.inr z2.2.2)
  else
   some (.inl (z2.1, z2.2.1, Ji .i64 z2.2.2 1))
 else
  some (.inr (-1))
def J07 (x1 : List (List UInt8)) : Option (Int) :=
 JL (J2c) (x1, J8 x1, 0)
theorem J58 (x) : onO (J11 J0o x) (fun y => J1w (TG.of [sigE J0V J2t J1Z]) J19 y.1 y.2 (J0D J0o)) = J07 x := by kernel_rfl
def JN (x1 : List (List UInt8)) : Option (Bool) :=
 (J07 x1).bind fun y2 =>
 some (geI y2 0)
theorem J4q (x) : onO (J11 J0b x) (fun y => J1w (TG.of [sigE J00 J0o J07]) J0R y.1 y.2 (J0D J0b)) = JN x := by kernel_rfl
def J20 (x1 : J9 × J5) : Option (Bool × J5) :=
 (J0G (x1.2, x1.1)).bind fun y2 =>
 some (J1b y2, x1.2)
theorem JcW (x) : onO (J11 J2u x) (fun y => J1w (TG.of [sigE J0H J1z J0G]) J3I y.1 y.2 (J0D J2u)) = J20 x := by kernel_rfl
def J1H (z2 : (List J9) × Int × Int × J5) : Option (((List J9) × Int × Int × J5) ⊕ (Int × J5)) :=
 if ltI z2.2.2.1 z2.2.1 then
  (idx z2.1 z2.2.2.1).bind fun y3 =>
  (J20 (y3, z2.2.2.2)).bind fun y4 =>
  if y4.1 then
   some (.inr (z2.2.2.1, y4.2))
  else
   some (.inl (z2.1, z2.2.1, Ji .i64 z2.2.2.1 1, y4.2))
 else
  some (.inr ((-1), z2.2.2.2))
def JS (x1 : (List J9) × J5) : Option (Int × J5) :=
 JL (J1H) (x1.1, J8 x1.1, 0, x1.2)
theorem J40 (x) : onO (J11 J05 x) (fun y => J1w (TG.of [sigE J0X J2u J20]) J0E y.1 y.2 (J0D J05)) = JS x := by kernel_rfl
def JB (x1 : (List J9) × J5) : Option (Bool × J5) :=
 (JS (x1.1, x1.2)).bind fun y2 =>
 some (geI y2.1 0, y2.2)
theorem J3E (x) : onO (J11 JY x) (fun y => J1w (TG.of [sigE JM J05 JS]) J0q y.1 y.2 (J0D JY)) = JB x := by kernel_rfl
def J8E (z2 : (List Int) × Int × Int × J5) : Option (((List Int) × Int × Int × J5) ⊕ Bool) :=
 if ltI z2.2.2.1 z2.2.1 then
  (idx z2.1 z2.2.2.1).bind fun y3 =>
  (J0d (z2.2.2.2, y3)).bind fun y4 =>
  if J1b y4 = false then
   if gtI z2.2.2.1 0 then
    (idx z2.2.2.2.2.2.1 (Ja4 .i64 z2.2.2.1 1)).bind fun y5 =>
    if geI y5 y3 then
     some (.inr false)
    else
     some (.inl (z2.1, z2.2.1, Ji .i64 z2.2.2.1 1, z2.2.2.2))
   else
    some (.inl (z2.1, z2.2.1, Ji .i64 z2.2.2.1 1, z2.2.2.2))
  else
   some (.inr false)
 else
  Option.map .inr (
   (JN z2.2.2.2.1).bind fun y6 =>
   if J1b y6 then
    (JB (z2.2.2.2.2.2.2.2, z2.2.2.2)).bind fun y7 =>
    some (J1b y7.1)
   else
    some false)
def J0A (x1 : J5) : Option (Bool) :=
 if ltI (J8 x1.1) 1 = false then
  if gtI (J8 x1.1) 64 = false then
   if ltI x1.2.1 0 = false then
    if gtI x1.2.1 1099511627776 = false then
     if gtI (J8 x1.2.2.2.2) 64 then
      some false
     else
      JL (J8E) (x1.2.2.1, J8 x1.2.2.1, 0, x1)
    else
     some false
   else
    some false
  else
   some false
 else
  some false
theorem Jg1 (x) : onO (J11 J1t x) (fun y => J1w (TG.of [sigE J0m J1x J0d, sigE JW J0b JN, sigE JJ JY JB]) J5f y.1 y.2 (J0D J1t)) = J0A x := by kernel_rfl
def JX (x : List J9) : Option (List J9) := cloS 48 x
def JD (x1 : J5 × J9) : Option (J5 × Int) :=
 (J0A x1.1).bind fun y2 =>
 if J1b y2 then
  some (([], 0, [], false, []), 15)
 else
  (J0G (x1.1, x1.2)).bind fun y3 =>
  if J1b y3 then
   some (([], 0, [], false, []), 1)
  else
   if eqI (J8 x1.1.2.2.2.2) 64 then
    some (([], 0, [], false, []), 21)
   else
    (JX x1.1.2.2.2.2).bind fun y4 =>
    (Jgv 48 y4 [x1.2]).bind fun y5 =>
    some ((x1.1.1, x1.1.2.1, x1.1.2.2.1, x1.1.2.2.2.1, y5), 0)
theorem Jfg (x) : onO (J11 J0P x) (fun y => J1w (TG.of [sigE J0z J1t J0A, sigE J0H J1z J0G, sigE Ju J0r JX]) J4x y.1 y.2 (J0D J0P)) = JD x := by kernel_rfl
def J1m (x : (List (List UInt8)) × Int) : Option (List (List UInt8)) := Jgh x
def J2Q (x : (List UInt8) × Int) : Option (List UInt8) := Jsp x
def J1j (x1 : Int) : Option (List (List UInt8)) :=
 (J2Q ([0], 256)).bind fun y2 =>
 (J1m ([y2], x1)).bind fun y3 =>
 some y3
theorem Jgd (x) : onO (J11 J2b x) (fun y => J1w (TG.of [sigE J2a J5X J2Q, sigE J0t J24 J1m]) J5b y.1 y.2 (J0D J2b)) = J1j x := by kernel_rfl
def JP (x1 : Int) : Option (J5 × Int) :=
 if ltI x1 1 = false then
  if gtI x1 64 then
   some (([], 0, [], false, []), 1)
  else
   (J1j x1).bind fun y2 =>
   some ((y2, 0, [], false, []), 0)
 else
  some (([], 0, [], false, []), 1)
theorem Jj2 (x) : onO (J11 J0Y x) (fun y => J1w (TG.of [sigE J1i J2b J1j]) J6m y.1 y.2 (J0D J0Y)) = JP x := by kernel_rfl
def J0n (x1 : J5 × Int) : Option (Int) :=
 (J0A x1.1).bind fun y2 =>
 if J1b y2 then
  some 15
 else
  if x1.1.2.2.2.1 then
   some 10
  else
   (J0d (x1.1, x1.2)).bind fun y3 =>
   if J1b y3 then
    some 1
   else
    some 0
theorem Jf6 (x) : onO (J11 J1S x) (fun y => J1w (TG.of [sigE J0z J1t J0A, sigE J0m J1x J0d]) J4A y.1 y.2 (J0D J1S)) = J0n x := by kernel_rfl
def J4M (z2 : (List Int) × Int × Int × Int) : Option (((List Int) × Int × Int × Int) ⊕ Int) :=
 if ltI z2.2.2.2 z2.2.2.1 then
  (idx z2.1 z2.2.2.2).bind fun y3 =>
  if eqI z2.2.1 y3 then
   some (.inr z2.2.2.2)
  else
   some (.inl (z2.1, z2.2.1, z2.2.2.1, Ji .i64 z2.2.2.2 1))
 else
  some (.inr (-1))
def J1h (x1 : (List Int) × Int) : Option (Int) :=
 JL (J4M) (x1.1, x1.2, J8 x1.1, 0)
theorem J9f (x) : onO (J11 J1B x) (fun y => J1w (TG.of []) J2d y.1 y.2 (J0D J1B)) = J1h x := by kernel_rfl
def J0v (x1 : (List Int) × Int) : Option (Bool) :=
 (J1h (x1.1, x1.2)).bind fun y2 =>
 some (geI y2 0)
theorem J7I (x) : onO (J11 J1l x) (fun y => J1w (TG.of [sigE J0Q J1B J1h]) J1O y.1 y.2 (J0D J1l)) = J0v x := by kernel_rfl
def Jd (x1 : J5 × Int) : Option ((List UInt8) × Int) :=
 (J0n (x1.1, x1.2)).bind fun y2 =>
 if neI y2 0 then
  some ([], y2)
 else
  (J0v (x1.1.2.2.1, x1.2)).bind fun y3 =>
  if y3 then
   some ([], 11)
  else
   (idx x1.1.1 x1.2).bind fun y4 =>
   some (y4, 0)
theorem Jhk (x) : onO (J11 J1a x) (fun y => J1w (TG.of [sigE J15 J1S J0n, sigE J0u J1l J0v]) J5F y.1 y.2 (J0D J1a)) = Jd x := by kernel_rfl
def Jj (x : J5 × Int × (List UInt8)) : Option (J5 × Int) := Jer (J0n (x.1, x.2.1)) x
def J0s (rec : (Int × J4) → Option (Int × J4)) (x1 : Int × J4) : Option (Int × J4) :=
 if geI x1.2.2 (J8 x1.2.1) = false then
  if ltI x1.1 1 then
   some (0, x1.2)
  else
   (idx x1.2.1 x1.2.2).bind fun y2 =>
   if gtI x1.1 256 then
    (rec (256, x1.2.1, Ji .i64 x1.2.2 1)).bind fun y3 =>
    (J8h (Ji .i64 (JlX .i64 256 (cvI .i64 y2)) y3.1) x1.1).bind fun y4 =>
    some (y4, y3.2)
   else
    (J8h (cvI .i64 y2) x1.1).bind fun y5 =>
    some (y5, x1.2.1, Ji .i64 x1.2.2 1)
 else
  some (0, x1.2)
def Jl : (Int × J4) → Option (Int × J4) := JaC J0s 100
theorem JcO (r x) : onO (J11 g_draw_Codes_Next x) (fun y => J1w (TG.of (sigE i_draw_Codes_Next g_draw_Codes_Next r :: [])) J3M y.1 y.2 (J0D g_draw_Codes_Next)) = J0s r x := by kernel_rfl
def J6p (z4 : Int × Int × J4 × (List Int)) : Option ((Int × Int × J4 × (List Int)) ⊕ ((List UInt8) × J4)) :=
 if ltI z4.2.1 (J8 z4.2.2.2) then
  (inb (List.length z4.2.2.2) z4.2.1).bind fun _ =>
  (lat z4.2.2.2 (Int.toNat z4.2.1)).bind fun _ =>
  some (.inl (z4.1, Ji .i64 z4.2.1 1, z4.2.2.1, J6B z4.2.2.2 (Int.toNat z4.2.1) z4.1))
 else
  Option.map .inr (
   (Jl (256, z4.2.2.1)).bind fun y7 =>
   (Jl (256, y7.2)).bind fun y8 =>
   (inb (List.length z4.2.2.2) y7.1).bind fun _ =>
   (lat z4.2.2.2 (Int.toNat y7.1)).bind fun _ =>
   some (toStr (J6B z4.2.2.2 (Int.toNat y7.1) (cvI .u8 y8.1)), y8.2))
def Jm (x1 : J4) : Option ((List UInt8) × J4) :=
 (mkS 1 256 256 0).bind fun y2 =>
 (Jl (256, x1)).bind fun y3 =>
 JL (J6p) (cvI .u8 y3.1, 0, y3.2, y2)
theorem JbT (x) : onO (J11 J0j x) (fun y => J1w (TG.of [sigE i_draw_Codes_Next g_draw_Codes_Next Jl]) J3o y.1 y.2 (J0D J0j)) = Jm x := by kernel_rfl
def J1Y (x1 : J4) : Option (Int × J4) :=
 some (Ja4 .i64 (J8 x1.1) x1.2, x1)
theorem Jd0 (x) : onO (J11 J2B x) (fun y => J1w (TG.of []) J3K y.1 y.2 (J0D J2B)) = J1Y x := by kernel_rfl
def J0W (x1 : J4) : Option (J4) :=
 if gtI (J8 x1.1) x1.2 then
  (J6U x1.1 none (some x1.2)).bind fun y2 =>
  some (y2, 0)
 else
  some (x1.1, 0)
theorem JmA (x) : onO (J11 J1U x) (fun y => J1w (TG.of []) J7X y.1 y.2 (J0D J1U)) = J0W x := by kernel_rfl
def J0e (x1 : Unit) : Option (Bool) :=
 (JP 1).bind fun y2 =>
 (JD (y2.1, 1, 2, 0, 0, 0, 0)).bind fun y3 =>
 (mkS 1 255 255 0).bind fun y4 =>
 (Jce (toStr y4) [97]).bind fun y5 =>
 (mkS 1 255 255 0).bind fun y6 =>
 (Jce (toStr y6) [98]).bind fun y7 =>
 (Jj (y3.1, 0, y5)).bind fun y8 =>
 (Jj (y8.1, 0, y7)).bind fun y9 =>
 (Jd (y9.1, 0)).bind fun y10 =>
 if eqI y2.2 0 then
  if eqI y3.2 0 then
   if eqI y8.2 0 then
    if eqI y9.2 0 then
     if eqI y10.2 0 then
      some (eqS y10.1 y5)
     else
      some false
    else
     some false
   else
    some false
  else
   some false
 else
  some false
theorem Jhn (x) : onO (J11 J1e x) (fun y => J1w (TG.of [sigE J02 J0Y JP, sigE JT J0P JD, sigE JC J10 Jj, sigE JZ J1a Jd]) J5B y.1 y.2 (J0D J1e)) = J0e x := by kernel_rfl
def J2m (x1 : J5 × J9) : Option (Bool) :=
 if leI x1.2.2.1 x1.1.2.1 = false then
  if gtI x1.2.2.1 1099511627776 = false then
   if ltI x1.2.2.2.1 0 = false then
    if geI x1.2.2.2.1 (J8 x1.1.1) = false then
     if ltI x1.2.2.2.2.1 0 = false then
      if geI x1.2.2.2.2.1 (J8 x1.1.1) = false then
       if ltI x1.2.2.2.2.2.1 0 = false then
        if geI x1.2.2.2.2.2.1 256 then
         some false
        else
         if eqI x1.2.1 1 then
          some (eqT J6 x1.2 (x1.2.1, x1.2.2.1, 0, 0, 0, 0))
         else
          if eqI x1.2.1 6 then
           some (eqT J6 x1.2 (x1.2.1, x1.2.2.1, 0, 0, 0, 0))
          else
           if eqI x1.2.1 2 then
            some (eqT J6 x1.2 (x1.2.1, x1.2.2.1, 0, x1.2.2.2.2.1, 0, 0))
           else
            if eqI x1.2.1 3 then
             some (eqT J6 x1.2 (x1.2.1, x1.2.2.1, 0, 0, x1.2.2.2.2.2.1, 0))
            else
             if eqI x1.2.1 4 then
              if eqI x1.2.2.2.2.2.2 0 then
               some false
              else
               some (eqT J6 x1.2 (x1.2.1, x1.2.2.1, x1.2.2.2.1, 0, x1.2.2.2.2.2.1, x1.2.2.2.2.2.2))
             else
              if eqI x1.2.1 5 then
               some (eqT J6 x1.2 (x1.2.1, x1.2.2.1, x1.2.2.2.1, 0, 0, 0))
              else
               some false
       else
        some false
      else
       some false
     else
      some false
    else
     some false
   else
    some false
  else
   some false
 else
  some false
theorem Jhz (x) : onO (J11 J4h x) (fun y => J1w (TG.of []) J5z y.1 y.2 (J0D J4h)) = J2m x := by kernel_rfl
def J8I (z9 : Int × J5) : Option ((Int × J5) ⊕ Bool) :=
 if ltI z9.1 (J8 z9.2.2.2.2.2) then
  (idx z9.2.2.2.2.2 z9.1).bind fun y10 =>
  (J2m (z9.2, y10)).bind fun y11 =>
  if J1b y11 then
   some (.inr false)
  else
   some (.inl (Ji .i64 z9.1 1, z9.2))
 else
  some (.inr true)
def J8Y (z4 : Int × Int × J5) : Option ((Int × Int × J5) ⊕ Bool) :=
 if ltI z4.2.1 (J8 z4.2.2.2.2.1) then
  (idx z4.2.2.2.2.1 z4.2.1).bind fun y5 =>
  if ltI y5 0 = false then
   (idx z4.2.2.2.2.1 z4.2.1).bind fun y6 =>
   if geI y6 z4.1 = false then
    if gtI z4.2.1 0 then
     (idx z4.2.2.2.2.1 (Ja4 .i64 z4.2.1 1)).bind fun y7 =>
     (idx z4.2.2.2.2.1 z4.2.1).bind fun y8 =>
     if geI y7 y8 then
      some (.inr false)
     else
      some (.inl (z4.1, Ji .i64 z4.2.1 1, z4.2.2))
    else
     some (.inl (z4.1, Ji .i64 z4.2.1 1, z4.2.2))
   else
    some (.inr false)
  else
   some (.inr false)
 else
  Option.map .inr (
   JL (J8I) (0, z4.2.2))
def J91 (z2 : Int × Int × J5) : Option ((Int × Int × J5) ⊕ Bool) :=
 if ltI z2.2.1 z2.1 then
  (idx z2.2.2.1 z2.2.1).bind fun y3 =>
  if neI (J8 y3) 256 then
   some (.inr false)
  else
   some (.inl (z2.1, Ji .i64 z2.2.1 1, z2.2.2))
 else
  Option.map .inr (
   JL (J8Y) (z2.1, 0, z2.2.2))
def J2o (x1 : J5) : Option (Bool) :=
 if ltI (J8 x1.1) 1 = false then
  if gtI (J8 x1.1) 64 = false then
   if ltI x1.2.1 0 = false then
    if gtI x1.2.1 1099511627776 = false then
     if gtI (J8 x1.2.2.2.2) 64 then
      some false
     else
      JL (J91) (J8 x1.1, 0, x1)
    else
     some false
   else
    some false
  else
   some false
 else
  some false
theorem JhB (x) : onO (J11 J4f x) (fun y => J1w (TG.of [sigE J23 J4h J2m]) J5x y.1 y.2 (J0D J4f)) = J2o x := by kernel_rfl
def J6b (z16 : Int × Int × J4 × J5 × (Vector (List UInt8) 4)) : Option ((Int × Int × J4 × J5 × (Vector (List UInt8) 4)) ⊕ Bool) :=
 if ltI z16.2.1 4 then
  (Jd (z16.2.2.2.1, z16.2.1)).bind fun y17 =>
  if neI y17.2 0 = false then
   (inb 4 z16.2.1).bind fun _ =>
   (vat z16.2.2.2.2 (Int.toNat z16.2.1)).bind fun y19 =>
   if neS y17.1 y19 then
    some (.inr false)
   else
    some (.inl (z16.1, Ji .i64 z16.2.1 1, z16.2.2.1, z16.2.2.2.1, z16.2.2.2.2))
  else
   some (.inr false)
 else
  some (.inr (eqI z16.2.2.2.1.2.1 z16.1))
def J65 (z9 : Int × J4 × J5 × (Vector (List UInt8) 4)) : Option ((Int × J4 × J5 × (Vector (List UInt8) 4)) ⊕ Bool) :=
 (J1Y z9.2.1).bind fun y10 =>
 if gtI y10.1 0 then
  (Jl (4, y10.2)).bind fun y11 =>
  (Jm y11.2).bind fun y12 =>
  (Jj (z9.2.2.1, y11.1, y12.1)).bind fun y13 =>
  if neI y13.2 0 then
   some (.inr false)
  else
   (inb 4 y11.1).bind fun _ =>
   (vat z9.2.2.2 (Int.toNat y11.1)).bind fun _ =>
   some (.inl (Ji .i64 z9.1 1, y12.2, y13.1, J0w z9.2.2.2 (Int.toNat y11.1) y12.1))
 else
  Option.map .inr (
   JL (J6b) (z9.1, 0, y10.2, z9.2.2.1, z9.2.2.2))
def J64 (z5 : Int × J4 × J5 × (Vector (List UInt8) 4)) : Option ((Int × J4 × J5 × (Vector (List UInt8) 4)) ⊕ Bool) :=
 if ltI z5.1 4 then
  (mkS 1 256 256 0).bind fun y6 =>
  (inb 4 z5.1).bind fun _ =>
  (vat z5.2.2.2 (Int.toNat z5.1)).bind fun _ =>
  some (.inl (Ji .i64 z5.1 1, z5.2.1, z5.2.2.1, J0w z5.2.2.2 (Int.toNat z5.1) (toStr y6)))
 else
  Option.map .inr (
   JL (J65) (0, z5.2.1, z5.2.2.1, z5.2.2.2))
def J30 (x1 : List Int) : Option (Bool) :=
 (J0e ()).bind fun y2 =>
 if J1b y2 then
  some false
 else
  (J0W (x1, 200)).bind fun y3 =>
  (JP 4).bind fun y4 =>
  if neI y4.2 0 then
   some false
  else
   JL (J64) (0, y3, y4.1, Vector.replicate 4 [])
theorem Jb3 (x) : onO (J11 J4t x) (fun y => J1w (TG.of [sigE J0a J1e J0e, sigE J0N J1U J0W, sigE J02 J0Y JP, sigE J1k J2B J1Y, sigE i_draw_Codes_Next g_draw_Codes_Next Jl, sigE Jr J0j Jm, sigE JC J10 Jj, sigE JZ J1a Jd]) J2U y.1 y.2 (J0D J4t)) = J30 x := by kernel_rfl
def J1u (z20 : Int × Int × Int × J4 × J9 × J5 × J5 × (Vector Bool 3)) : Option ((Int × Int × Int × J4 × J9 × J5 × J5 × (Vector Bool 3)) ⊕ ((Int × Int × J4 × J9 × J5 × J5 × (Vector Bool 3)) ⊕ Bool)) :=
 if ltI z20.2.2.1 3 then
  (Jd (z20.2.2.2.2.2.1, z20.2.2.1)).bind fun y21 =>
  (Jd (z20.2.2.2.2.2.2.1, z20.2.2.1)).bind fun y22 =>
  if neI y21.2 0 = false then
   (inb 3 z20.2.2.1).bind fun _ =>
   (vat z20.2.2.2.2.2.2.2 (Int.toNat z20.2.2.1)).bind fun y24 =>
   if J1b y24 then
    if neI y22.2 0 = false then
     if neS y21.1 y22.1 then
      Option.map .inr (
       some (.inr false))
     else
      some (.inl (z20.1, z20.2.1, Ji .i64 z20.2.2.1 1, z20.2.2.2.1, z20.2.2.2.2.1, z20.2.2.2.2.2.1, z20.2.2.2.2.2.2.1, z20.2.2.2.2.2.2.2))
    else
     Option.map .inr (
      some (.inr false))
   else
    some (.inl (z20.1, z20.2.1, Ji .i64 z20.2.2.1 1, z20.2.2.2.1, z20.2.2.2.2.1, z20.2.2.2.2.2.1, z20.2.2.2.2.2.2.1, z20.2.2.2.2.2.2.2))
  else
   Option.map .inr (
    some (.inr false))
 else
  some (.inr (.inl (z20.1, Ji .i64 z20.2.1 1, z20.2.2.2.1, z20.2.2.2.2.1, z20.2.2.2.2.2.1, z20.2.2.2.2.2.2.1, z20.2.2.2.2.2.2.2)))
def J6x (z27 : Int × Int × Int × J4 × J9 × J5 × J5 × (Vector Bool 3)) : Option ((Int × Int × Int × J4 × J9 × J5 × J5 × (Vector Bool 3)) ⊕ ((Int × Int × J4 × J9 × J5 × J5 × (Vector Bool 3)) ⊕ Bool)) :=
 if ltI z27.2.2.1 3 then
  (Jd (z27.2.2.2.2.2.1, z27.2.2.1)).bind fun y28 =>
  (Jd (z27.2.2.2.2.2.2.1, z27.2.2.1)).bind fun y29 =>
  if neI y28.2 0 = false then
   (inb 3 z27.2.2.1).bind fun _ =>
   (vat z27.2.2.2.2.2.2.2 (Int.toNat z27.2.2.1)).bind fun y31 =>
   if J1b y31 then
    if neI y29.2 0 = false then
     if neS y28.1 y29.1 then
      Option.map .inr (
       some (.inr false))
     else
      some (.inl (z27.1, z27.2.1, Ji .i64 z27.2.2.1 1, z27.2.2.2.1, z27.2.2.2.2.1, z27.2.2.2.2.2.1, z27.2.2.2.2.2.2.1, z27.2.2.2.2.2.2.2))
    else
     Option.map .inr (
      some (.inr false))
   else
    some (.inl (z27.1, z27.2.1, Ji .i64 z27.2.2.1 1, z27.2.2.2.1, z27.2.2.2.2.1, z27.2.2.2.2.2.1, z27.2.2.2.2.2.2.1, z27.2.2.2.2.2.2.2))
  else
   Option.map .inr (
    some (.inr false))
 else
  some (.inr (.inl (z27.1, Ji .i64 z27.2.1 1, z27.2.2.2.1, z27.2.2.2.2.1, z27.2.2.2.2.2.1, z27.2.2.2.2.2.2.1, z27.2.2.2.2.2.2.2)))
def J6r (z32 : Int × Int × Int × J4 × J9 × J5 × J5 × (Vector Bool 3)) : Option ((Int × Int × Int × J4 × J9 × J5 × J5 × (Vector Bool 3)) ⊕ ((Int × Int × J4 × J9 × J5 × J5 × (Vector Bool 3)) ⊕ Bool)) :=
 if ltI z32.2.2.1 3 then
  (Jd (z32.2.2.2.2.2.1, z32.2.2.1)).bind fun y33 =>
  (Jd (z32.2.2.2.2.2.2.1, z32.2.2.1)).bind fun y34 =>
  if neI y33.2 0 = false then
   (inb 3 z32.2.2.1).bind fun _ =>
   (vat z32.2.2.2.2.2.2.2 (Int.toNat z32.2.2.1)).bind fun y36 =>
   if J1b y36 then
    if neI y34.2 0 = false then
     if neS y33.1 y34.1 then
      Option.map .inr (
       some (.inr false))
     else
      some (.inl (z32.1, z32.2.1, Ji .i64 z32.2.2.1 1, z32.2.2.2.1, z32.2.2.2.2.1, z32.2.2.2.2.2.1, z32.2.2.2.2.2.2.1, z32.2.2.2.2.2.2.2))
    else
     Option.map .inr (
      some (.inr false))
   else
    some (.inl (z32.1, z32.2.1, Ji .i64 z32.2.2.1 1, z32.2.2.2.1, z32.2.2.2.2.1, z32.2.2.2.2.2.1, z32.2.2.2.2.2.2.1, z32.2.2.2.2.2.2.2))
  else
   Option.map .inr (
    some (.inr false))
 else
  some (.inr (.inl (z32.1, Ji .i64 z32.2.1 1, z32.2.2.2.1, z32.2.2.2.2.1, z32.2.2.2.2.2.1, z32.2.2.2.2.2.2.1, z32.2.2.2.2.2.2.2)))
def J0O (z9 : Int × Int × J4 × J9 × J5 × J5 × (Vector Bool 3)) : Option ((Int × Int × J4 × J9 × J5 × J5 × (Vector Bool 3)) ⊕ Bool) :=
 if leI z9.2.1 6 then
  (Jl (3, z9.2.2.1)).bind fun y10 =>
  (Jm y10.2).bind fun y11 =>
  (Jj (z9.2.2.2.2.1, y10.1, y11.1)).bind fun y12 =>
  (Jj (z9.2.2.2.2.2.1, y10.1, y11.1)).bind fun y13 =>
  if neI y12.2 0 = false then
   if neI y13.2 0 then
    some (.inr false)
   else
    if eqI z9.2.1 z9.1 then
     (inb 3 y10.1).bind fun _ =>
     (vat z9.2.2.2.2.2.2 (Int.toNat y10.1)).bind fun _ =>
     (inb 3 z9.2.2.2.1.2.2.2.1).bind fun _ =>
     (vat (J0w z9.2.2.2.2.2.2 (Int.toNat y10.1) true) (Int.toNat z9.2.2.2.1.2.2.2.1)).bind fun _ =>
     (inb 3 z9.2.2.2.1.2.2.1).bind fun _ =>
     (vat (J0w (J0w z9.2.2.2.2.2.2 (Int.toNat y10.1) true) (Int.toNat z9.2.2.2.1.2.2.2.1) true) (Int.toNat z9.2.2.2.1.2.2.1)).bind fun _ =>
     JL (J1u) (z9.1, z9.2.1, 0, y11.2, z9.2.2.2.1, y12.1, y13.1, J0w (J0w (J0w z9.2.2.2.2.2.2 (Int.toNat y10.1) true) (Int.toNat z9.2.2.2.1.2.2.2.1) true) (Int.toNat z9.2.2.2.1.2.2.1) true)
    else
     if gtI z9.2.1 z9.1 then
      (inb 3 y10.1).bind fun _ =>
      (vat z9.2.2.2.2.2.2 (Int.toNat y10.1)).bind fun _ =>
      JL (J6x) (z9.1, z9.2.1, 0, y11.2, z9.2.2.2.1, y12.1, y13.1, J0w z9.2.2.2.2.2.2 (Int.toNat y10.1) false)
     else
      JL (J6r) (z9.1, z9.2.1, 0, y11.2, z9.2.2.2.1, y12.1, y13.1, z9.2.2.2.2.2.2)
  else
   some (.inr false)
 else
  some (.inr (eqI (J8 z9.2.2.2.2.2.1.2.2.2.2) 0))
def Jax (z51 : Int × Int × Int × J4 × J9 × J5 × J5 × (Vector Bool 3)) : Option ((Int × Int × Int × J4 × J9 × J5 × J5 × (Vector Bool 3)) ⊕ ((Int × Int × J4 × J9 × J5 × J5 × (Vector Bool 3)) ⊕ Bool)) :=
 if ltI z51.2.2.1 3 then
  (Jd (z51.2.2.2.2.2.1, z51.2.2.1)).bind fun y52 =>
  (Jd (z51.2.2.2.2.2.2.1, z51.2.2.1)).bind fun y53 =>
  if neI y52.2 0 = false then
   (inb 3 z51.2.2.1).bind fun _ =>
   (vat z51.2.2.2.2.2.2.2 (Int.toNat z51.2.2.1)).bind fun y55 =>
   if J1b y55 then
    if neI y53.2 0 = false then
     if neS y52.1 y53.1 then
      Option.map .inr (
       some (.inr false))
     else
      some (.inl (z51.1, z51.2.1, Ji .i64 z51.2.2.1 1, z51.2.2.2.1, z51.2.2.2.2.1, z51.2.2.2.2.2.1, z51.2.2.2.2.2.2.1, z51.2.2.2.2.2.2.2))
    else
     Option.map .inr (
      some (.inr false))
   else
    some (.inl (z51.1, z51.2.1, Ji .i64 z51.2.2.1 1, z51.2.2.2.1, z51.2.2.2.2.1, z51.2.2.2.2.2.1, z51.2.2.2.2.2.2.1, z51.2.2.2.2.2.2.2))
  else
   Option.map .inr (
    some (.inr false))
 else
  some (.inr (.inl (z51.1, Ji .i64 z51.2.1 1, z51.2.2.2.1, z51.2.2.2.2.1, z51.2.2.2.2.2.1, z51.2.2.2.2.2.2.1, z51.2.2.2.2.2.2.2)))
def Ja8 (z58 : Int × Int × Int × J4 × J9 × J5 × J5 × (Vector Bool 3)) : Option ((Int × Int × Int × J4 × J9 × J5 × J5 × (Vector Bool 3)) ⊕ ((Int × Int × J4 × J9 × J5 × J5 × (Vector Bool 3)) ⊕ Bool)) :=
 if ltI z58.2.2.1 3 then
  (Jd (z58.2.2.2.2.2.1, z58.2.2.1)).bind fun y59 =>
  (Jd (z58.2.2.2.2.2.2.1, z58.2.2.1)).bind fun y60 =>
  if neI y59.2 0 = false then
   (inb 3 z58.2.2.1).bind fun _ =>
   (vat z58.2.2.2.2.2.2.2 (Int.toNat z58.2.2.1)).bind fun y62 =>
   if J1b y62 then
    if neI y60.2 0 = false then
     if neS y59.1 y60.1 then
      Option.map .inr (
       some (.inr false))
     else
      some (.inl (z58.1, z58.2.1, Ji .i64 z58.2.2.1 1, z58.2.2.2.1, z58.2.2.2.2.1, z58.2.2.2.2.2.1, z58.2.2.2.2.2.2.1, z58.2.2.2.2.2.2.2))
    else
     Option.map .inr (
      some (.inr false))
   else
    some (.inl (z58.1, z58.2.1, Ji .i64 z58.2.2.1 1, z58.2.2.2.1, z58.2.2.2.2.1, z58.2.2.2.2.2.1, z58.2.2.2.2.2.2.1, z58.2.2.2.2.2.2.2))
  else
   Option.map .inr (
    some (.inr false))
 else
  some (.inr (.inl (z58.1, Ji .i64 z58.2.1 1, z58.2.2.2.1, z58.2.2.2.2.1, z58.2.2.2.2.2.1, z58.2.2.2.2.2.2.1, z58.2.2.2.2.2.2.2)))
def Jaa (z63 : Int × Int × Int × J4 × J9 × J5 × J5 × (Vector Bool 3)) : Option ((Int × Int × Int × J4 × J9 × J5 × J5 × (Vector Bool 3)) ⊕ ((Int × Int × J4 × J9 × J5 × J5 × (Vector Bool 3)) ⊕ Bool)) :=
 if ltI z63.2.2.1 3 then
  (Jd (z63.2.2.2.2.2.1, z63.2.2.1)).bind fun y64 =>
  (Jd (z63.2.2.2.2.2.2.1, z63.2.2.1)).bind fun y65 =>
  if neI y64.2 0 = false then
   (inb 3 z63.2.2.1).bind fun _ =>
   (vat z63.2.2.2.2.2.2.2 (Int.toNat z63.2.2.1)).bind fun y67 =>
   if J1b y67 then
    if neI y65.2 0 = false then
     if neS y64.1 y65.1 then
      Option.map .inr (
       some (.inr false))
     else
      some (.inl (z63.1, z63.2.1, Ji .i64 z63.2.2.1 1, z63.2.2.2.1, z63.2.2.2.2.1, z63.2.2.2.2.2.1, z63.2.2.2.2.2.2.1, z63.2.2.2.2.2.2.2))
    else
     Option.map .inr (
      some (.inr false))
   else
    some (.inl (z63.1, z63.2.1, Ji .i64 z63.2.2.1 1, z63.2.2.2.1, z63.2.2.2.2.1, z63.2.2.2.2.2.1, z63.2.2.2.2.2.2.1, z63.2.2.2.2.2.2.2))
  else
   Option.map .inr (
    some (.inr false))
 else
  some (.inr (.inl (z63.1, Ji .i64 z63.2.1 1, z63.2.2.2.1, z63.2.2.2.2.1, z63.2.2.2.2.2.1, z63.2.2.2.2.2.2.1, z63.2.2.2.2.2.2.2)))
def J6E (z40 : Int × Int × J4 × J9 × J5 × J5 × (Vector Bool 3)) : Option ((Int × Int × J4 × J9 × J5 × J5 × (Vector Bool 3)) ⊕ Bool) :=
 if leI z40.2.1 6 then
  (Jl (3, z40.2.2.1)).bind fun y41 =>
  (Jm y41.2).bind fun y42 =>
  (Jj (z40.2.2.2.2.1, y41.1, y42.1)).bind fun y43 =>
  (Jj (z40.2.2.2.2.2.1, y41.1, y42.1)).bind fun y44 =>
  if neI y43.2 0 = false then
   if neI y44.2 0 then
    some (.inr false)
   else
    if eqI z40.2.1 z40.1 then
     (inb 3 y41.1).bind fun _ =>
     (vat z40.2.2.2.2.2.2 (Int.toNat y41.1)).bind fun _ =>
     (inb 3 z40.2.2.2.1.2.2.2.1).bind fun _ =>
     (vat (J0w z40.2.2.2.2.2.2 (Int.toNat y41.1) true) (Int.toNat z40.2.2.2.1.2.2.2.1)).bind fun _ =>
     (inb 3 z40.2.2.2.1.2.2.1).bind fun _ =>
     (vat (J0w (J0w z40.2.2.2.2.2.2 (Int.toNat y41.1) true) (Int.toNat z40.2.2.2.1.2.2.2.1) true) (Int.toNat z40.2.2.2.1.2.2.1)).bind fun _ =>
     JL (Jax) (z40.1, z40.2.1, 0, y42.2, z40.2.2.2.1, y43.1, y44.1, J0w (J0w (J0w z40.2.2.2.2.2.2 (Int.toNat y41.1) true) (Int.toNat z40.2.2.2.1.2.2.2.1) true) (Int.toNat z40.2.2.2.1.2.2.1) true)
    else
     if gtI z40.2.1 z40.1 then
      (inb 3 y41.1).bind fun _ =>
      (vat z40.2.2.2.2.2.2 (Int.toNat y41.1)).bind fun _ =>
      JL (Ja8) (z40.1, z40.2.1, 0, y42.2, z40.2.2.2.1, y43.1, y44.1, J0w z40.2.2.2.2.2.2 (Int.toNat y41.1) false)
     else
      JL (Jaa) (z40.1, z40.2.1, 0, y42.2, z40.2.2.2.1, y43.1, y44.1, z40.2.2.2.2.2.2)
  else
   some (.inr false)
 else
  some (.inr (eqI (J8 z40.2.2.2.2.2.1.2.2.2.2) 0))
def JaF (z83 : Int × Int × Int × J4 × J9 × J5 × J5 × (Vector Bool 3)) : Option ((Int × Int × Int × J4 × J9 × J5 × J5 × (Vector Bool 3)) ⊕ ((Int × Int × J4 × J9 × J5 × J5 × (Vector Bool 3)) ⊕ Bool)) :=
 if ltI z83.2.2.1 3 then
  (Jd (z83.2.2.2.2.2.1, z83.2.2.1)).bind fun y84 =>
  (Jd (z83.2.2.2.2.2.2.1, z83.2.2.1)).bind fun y85 =>
  if neI y84.2 0 = false then
   (inb 3 z83.2.2.1).bind fun _ =>
   (vat z83.2.2.2.2.2.2.2 (Int.toNat z83.2.2.1)).bind fun y87 =>
   if J1b y87 then
    if neI y85.2 0 = false then
     if neS y84.1 y85.1 then
      Option.map .inr (
       some (.inr false))
     else
      some (.inl (z83.1, z83.2.1, Ji .i64 z83.2.2.1 1, z83.2.2.2.1, z83.2.2.2.2.1, z83.2.2.2.2.2.1, z83.2.2.2.2.2.2.1, z83.2.2.2.2.2.2.2))
    else
     Option.map .inr (
      some (.inr false))
   else
    some (.inl (z83.1, z83.2.1, Ji .i64 z83.2.2.1 1, z83.2.2.2.1, z83.2.2.2.2.1, z83.2.2.2.2.2.1, z83.2.2.2.2.2.2.1, z83.2.2.2.2.2.2.2))
  else
   Option.map .inr (
    some (.inr false))
 else
  some (.inr (.inl (z83.1, Ji .i64 z83.2.1 1, z83.2.2.2.1, z83.2.2.2.2.1, z83.2.2.2.2.2.1, z83.2.2.2.2.2.2.1, z83.2.2.2.2.2.2.2)))
def J9W (z90 : Int × Int × Int × J4 × J9 × J5 × J5 × (Vector Bool 3)) : Option ((Int × Int × Int × J4 × J9 × J5 × J5 × (Vector Bool 3)) ⊕ ((Int × Int × J4 × J9 × J5 × J5 × (Vector Bool 3)) ⊕ Bool)) :=
 if ltI z90.2.2.1 3 then
  (Jd (z90.2.2.2.2.2.1, z90.2.2.1)).bind fun y91 =>
  (Jd (z90.2.2.2.2.2.2.1, z90.2.2.1)).bind fun y92 =>
  if neI y91.2 0 = false then
   (inb 3 z90.2.2.1).bind fun _ =>
   (vat z90.2.2.2.2.2.2.2 (Int.toNat z90.2.2.1)).bind fun y94 =>
   if J1b y94 then
    if neI y92.2 0 = false then
     if neS y91.1 y92.1 then
      Option.map .inr (
       some (.inr false))
     else
      some (.inl (z90.1, z90.2.1, Ji .i64 z90.2.2.1 1, z90.2.2.2.1, z90.2.2.2.2.1, z90.2.2.2.2.2.1, z90.2.2.2.2.2.2.1, z90.2.2.2.2.2.2.2))
    else
     Option.map .inr (
      some (.inr false))
   else
    some (.inl (z90.1, z90.2.1, Ji .i64 z90.2.2.1 1, z90.2.2.2.1, z90.2.2.2.2.1, z90.2.2.2.2.2.1, z90.2.2.2.2.2.2.1, z90.2.2.2.2.2.2.2))
  else
   Option.map .inr (
    some (.inr false))
 else
  some (.inr (.inl (z90.1, Ji .i64 z90.2.1 1, z90.2.2.2.1, z90.2.2.2.2.1, z90.2.2.2.2.2.1, z90.2.2.2.2.2.2.1, z90.2.2.2.2.2.2.2)))
def Ja1 (z95 : Int × Int × Int × J4 × J9 × J5 × J5 × (Vector Bool 3)) : Option ((Int × Int × Int × J4 × J9 × J5 × J5 × (Vector Bool 3)) ⊕ ((Int × Int × J4 × J9 × J5 × J5 × (Vector Bool 3)) ⊕ Bool)) :=
 if ltI z95.2.2.1 3 then
  (Jd (z95.2.2.2.2.2.1, z95.2.2.1)).bind fun y96 =>
  (Jd (z95.2.2.2.2.2.2.1, z95.2.2.1)).bind fun y97 =>
  if neI y96.2 0 = false then
   (inb 3 z95.2.2.1).bind fun _ =>
   (vat z95.2.2.2.2.2.2.2 (Int.toNat z95.2.2.1)).bind fun y99 =>
   if J1b y99 then
    if neI y97.2 0 = false then
     if neS y96.1 y97.1 then
      Option.map .inr (
       some (.inr false))
     else
      some (.inl (z95.1, z95.2.1, Ji .i64 z95.2.2.1 1, z95.2.2.2.1, z95.2.2.2.2.1, z95.2.2.2.2.2.1, z95.2.2.2.2.2.2.1, z95.2.2.2.2.2.2.2))
    else
     Option.map .inr (
      some (.inr false))
   else
    some (.inl (z95.1, z95.2.1, Ji .i64 z95.2.2.1 1, z95.2.2.2.1, z95.2.2.2.2.1, z95.2.2.2.2.2.1, z95.2.2.2.2.2.2.1, z95.2.2.2.2.2.2.2))
  else
   Option.map .inr (
    some (.inr false))
 else
  some (.inr (.inl (z95.1, Ji .i64 z95.2.1 1, z95.2.2.2.1, z95.2.2.2.2.1, z95.2.2.2.2.2.1, z95.2.2.2.2.2.2.1, z95.2.2.2.2.2.2.2)))
def J6D (z72 : Int × Int × J4 × J9 × J5 × J5 × (Vector Bool 3)) : Option ((Int × Int × J4 × J9 × J5 × J5 × (Vector Bool 3)) ⊕ Bool) :=
 if leI z72.2.1 6 then
  (Jl (3, z72.2.2.1)).bind fun y73 =>
  (Jm y73.2).bind fun y74 =>
  (Jj (z72.2.2.2.2.1, y73.1, y74.1)).bind fun y75 =>
  (Jj (z72.2.2.2.2.2.1, y73.1, y74.1)).bind fun y76 =>
  if neI y75.2 0 = false then
   if neI y76.2 0 then
    some (.inr false)
   else
    if eqI z72.2.1 z72.1 then
     (inb 3 y73.1).bind fun _ =>
     (vat z72.2.2.2.2.2.2 (Int.toNat y73.1)).bind fun _ =>
     (inb 3 z72.2.2.2.1.2.2.2.1).bind fun _ =>
     (vat (J0w z72.2.2.2.2.2.2 (Int.toNat y73.1) true) (Int.toNat z72.2.2.2.1.2.2.2.1)).bind fun _ =>
     (inb 3 z72.2.2.2.1.2.2.1).bind fun _ =>
     (vat (J0w (J0w z72.2.2.2.2.2.2 (Int.toNat y73.1) true) (Int.toNat z72.2.2.2.1.2.2.2.1) true) (Int.toNat z72.2.2.2.1.2.2.1)).bind fun _ =>
     JL (JaF) (z72.1, z72.2.1, 0, y74.2, z72.2.2.2.1, y75.1, y76.1, J0w (J0w (J0w z72.2.2.2.2.2.2 (Int.toNat y73.1) true) (Int.toNat z72.2.2.2.1.2.2.2.1) true) (Int.toNat z72.2.2.2.1.2.2.1) true)
    else
     if gtI z72.2.1 z72.1 then
      (inb 3 y73.1).bind fun _ =>
      (vat z72.2.2.2.2.2.2 (Int.toNat y73.1)).bind fun _ =>
      JL (J9W) (z72.1, z72.2.1, 0, y74.2, z72.2.2.2.1, y75.1, y76.1, J0w z72.2.2.2.2.2.2 (Int.toNat y73.1) false)
     else
      JL (Ja1) (z72.1, z72.2.1, 0, y74.2, z72.2.2.2.1, y75.1, y76.1, z72.2.2.2.2.2.2)
  else
   some (.inr false)
 else
  some (.inr (eqI (J8 z72.2.2.2.2.2.1.2.2.2.2) 0))
def J9B (z114 : Int × Int × Int × J4 × J9 × J5 × J5 × (Vector Bool 3)) : Option ((Int × Int × Int × J4 × J9 × J5 × J5 × (Vector Bool 3)) ⊕ ((Int × Int × J4 × J9 × J5 × J5 × (Vector Bool 3)) ⊕ Bool)) :=
 if ltI z114.2.2.1 3 then
  (Jd (z114.2.2.2.2.2.1, z114.2.2.1)).bind fun y115 =>
  (Jd (z114.2.2.2.2.2.2.1, z114.2.2.1)).bind fun y116 =>
  if neI y115.2 0 = false then
   (inb 3 z114.2.2.1).bind fun _ =>
   (vat z114.2.2.2.2.2.2.2 (Int.toNat z114.2.2.1)).bind fun y118 =>
   if J1b y118 then
    if neI y116.2 0 = false then
     if neS y115.1 y116.1 then
      Option.map .inr (
       some (.inr false))
     else
      some (.inl (z114.1, z114.2.1, Ji .i64 z114.2.2.1 1, z114.2.2.2.1, z114.2.2.2.2.1, z114.2.2.2.2.2.1, z114.2.2.2.2.2.2.1, z114.2.2.2.2.2.2.2))
    else
     Option.map .inr (
      some (.inr false))
   else
    some (.inl (z114.1, z114.2.1, Ji .i64 z114.2.2.1 1, z114.2.2.2.1, z114.2.2.2.2.1, z114.2.2.2.2.2.1, z114.2.2.2.2.2.2.1, z114.2.2.2.2.2.2.2))
  else
   Option.map .inr (
    some (.inr false))
 else
  some (.inr (.inl (z114.1, Ji .i64 z114.2.1 1, z114.2.2.2.1, z114.2.2.2.2.1, z114.2.2.2.2.2.1, z114.2.2.2.2.2.2.1, z114.2.2.2.2.2.2.2)))
def J9Z (z121 : Int × Int × Int × J4 × J9 × J5 × J5 × (Vector Bool 3)) : Option ((Int × Int × Int × J4 × J9 × J5 × J5 × (Vector Bool 3)) ⊕ ((Int × Int × J4 × J9 × J5 × J5 × (Vector Bool 3)) ⊕ Bool)) :=
 if ltI z121.2.2.1 3 then
  (Jd (z121.2.2.2.2.2.1, z121.2.2.1)).bind fun y122 =>
  (Jd (z121.2.2.2.2.2.2.1, z121.2.2.1)).bind fun y123 =>
  if neI y122.2 0 = false then
   (inb 3 z121.2.2.1).bind fun _ =>
   (vat z121.2.2.2.2.2.2.2 (Int.toNat z121.2.2.1)).bind fun y125 =>
   if J1b y125 then
    if neI y123.2 0 = false then
     if neS y122.1 y123.1 then
      Option.map .inr (
       some (.inr false))
     else
      some (.inl (z121.1, z121.2.1, Ji .i64 z121.2.2.1 1, z121.2.2.2.1, z121.2.2.2.2.1, z121.2.2.2.2.2.1, z121.2.2.2.2.2.2.1, z121.2.2.2.2.2.2.2))
    else
     Option.map .inr (
      some (.inr false))
   else
    some (.inl (z121.1, z121.2.1, Ji .i64 z121.2.2.1 1, z121.2.2.2.1, z121.2.2.2.2.1, z121.2.2.2.2.2.1, z121.2.2.2.2.2.2.1, z121.2.2.2.2.2.2.2))
  else
   Option.map .inr (
    some (.inr false))
 else
  some (.inr (.inl (z121.1, Ji .i64 z121.2.1 1, z121.2.2.2.1, z121.2.2.2.2.1, z121.2.2.2.2.2.1, z121.2.2.2.2.2.2.1, z121.2.2.2.2.2.2.2)))
def J9Q (z126 : Int × Int × Int × J4 × J9 × J5 × J5 × (Vector Bool 3)) : Option ((Int × Int × Int × J4 × J9 × J5 × J5 × (Vector Bool 3)) ⊕ ((Int × Int × J4 × J9 × J5 × J5 × (Vector Bool 3)) ⊕ Bool)) :=
 if ltI z126.2.2.1 3 then
  (Jd (z126.2.2.2.2.2.1, z126.2.2.1)).bind fun y127 =>
  (Jd (z126.2.2.2.2.2.2.1, z126.2.2.1)).bind fun y128 =>
  if neI y127.2 0 = false then
   (inb 3 z126.2.2.1).bind fun _ =>
   (vat z126.2.2.2.2.2.2.2 (Int.toNat z126.2.2.1)).bind fun y130 =>
   if J1b y130 then
    if neI y128.2 0 = false then
     if neS y127.1 y128.1 then
      Option.map .inr (
       some (.inr false))
     else
      some (.inl (z126.1, z126.2.1, Ji .i64 z126.2.2.1 1, z126.2.2.2.1, z126.2.2.2.2.1, z126.2.2.2.2.2.1, z126.2.2.2.2.2.2.1, z126.2.2.2.2.2.2.2))
    else
     Option.map .inr (
      some (.inr false))
   else
    some (.inl (z126.1, z126.2.1, Ji .i64 z126.2.2.1 1, z126.2.2.2.1, z126.2.2.2.2.1, z126.2.2.2.2.2.1, z126.2.2.2.2.2.2.1, z126.2.2.2.2.2.2.2))
  else
   Option.map .inr (
    some (.inr false))
 else
  some (.inr (.inl (z126.1, Ji .i64 z126.2.1 1, z126.2.2.2.1, z126.2.2.2.2.1, z126.2.2.2.2.2.1, z126.2.2.2.2.2.2.1, z126.2.2.2.2.2.2.2)))
def J6a (z103 : Int × Int × J4 × J9 × J5 × J5 × (Vector Bool 3)) : Option ((Int × Int × J4 × J9 × J5 × J5 × (Vector Bool 3)) ⊕ Bool) :=
 if leI z103.2.1 6 then
  (Jl (3, z103.2.2.1)).bind fun y104 =>
  (Jm y104.2).bind fun y105 =>
  (Jj (z103.2.2.2.2.1, y104.1, y105.1)).bind fun y106 =>
  (Jj (z103.2.2.2.2.2.1, y104.1, y105.1)).bind fun y107 =>
  if neI y106.2 0 = false then
   if neI y107.2 0 then
    some (.inr false)
   else
    if eqI z103.2.1 z103.1 then
     (inb 3 y104.1).bind fun _ =>
     (vat z103.2.2.2.2.2.2 (Int.toNat y104.1)).bind fun _ =>
     (inb 3 z103.2.2.2.1.2.2.2.1).bind fun _ =>
     (vat (J0w z103.2.2.2.2.2.2 (Int.toNat y104.1) true) (Int.toNat z103.2.2.2.1.2.2.2.1)).bind fun _ =>
     (inb 3 z103.2.2.2.1.2.2.1).bind fun _ =>
     (vat (J0w (J0w z103.2.2.2.2.2.2 (Int.toNat y104.1) true) (Int.toNat z103.2.2.2.1.2.2.2.1) true) (Int.toNat z103.2.2.2.1.2.2.1)).bind fun _ =>
     JL (J9B) (z103.1, z103.2.1, 0, y105.2, z103.2.2.2.1, y106.1, y107.1, J0w (J0w (J0w z103.2.2.2.2.2.2 (Int.toNat y104.1) true) (Int.toNat z103.2.2.2.1.2.2.2.1) true) (Int.toNat z103.2.2.2.1.2.2.1) true)
    else
     if gtI z103.2.1 z103.1 then
      (inb 3 y104.1).bind fun _ =>
      (vat z103.2.2.2.2.2.2 (Int.toNat y104.1)).bind fun _ =>
      JL (J9Z) (z103.1, z103.2.1, 0, y105.2, z103.2.2.2.1, y106.1, y107.1, J0w z103.2.2.2.2.2.2 (Int.toNat y104.1) false)
     else
      JL (J9Q) (z103.1, z103.2.1, 0, y105.2, z103.2.2.2.1, y106.1, y107.1, z103.2.2.2.2.2.2)
  else
   some (.inr false)
 else
  some (.inr (eqI (J8 z103.2.2.2.2.2.1.2.2.2.2) 0))
def J9V (z144 : Int × Int × Int × J4 × J9 × J5 × J5 × (Vector Bool 3)) : Option ((Int × Int × Int × J4 × J9 × J5 × J5 × (Vector Bool 3)) ⊕ ((Int × Int × J4 × J9 × J5 × J5 × (Vector Bool 3)) ⊕ Bool)) :=
 if ltI z144.2.2.1 3 then
  (Jd (z144.2.2.2.2.2.1, z144.2.2.1)).bind fun y145 =>
  (Jd (z144.2.2.2.2.2.2.1, z144.2.2.1)).bind fun y146 =>
  if neI y145.2 0 = false then
   (inb 3 z144.2.2.1).bind fun _ =>
   (vat z144.2.2.2.2.2.2.2 (Int.toNat z144.2.2.1)).bind fun y148 =>
   if J1b y148 then
    if neI y146.2 0 = false then
     if neS y145.1 y146.1 then
      Option.map .inr (
       some (.inr false))
     else
      some (.inl (z144.1, z144.2.1, Ji .i64 z144.2.2.1 1, z144.2.2.2.1, z144.2.2.2.2.1, z144.2.2.2.2.2.1, z144.2.2.2.2.2.2.1, z144.2.2.2.2.2.2.2))
    else
     Option.map .inr (
      some (.inr false))
   else
    some (.inl (z144.1, z144.2.1, Ji .i64 z144.2.2.1 1, z144.2.2.2.1, z144.2.2.2.2.1, z144.2.2.2.2.2.1, z144.2.2.2.2.2.2.1, z144.2.2.2.2.2.2.2))
  else
   Option.map .inr (
    some (.inr false))
 else
  some (.inr (.inl (z144.1, Ji .i64 z144.2.1 1, z144.2.2.2.1, z144.2.2.2.2.1, z144.2.2.2.2.2.1, z144.2.2.2.2.2.2.1, z144.2.2.2.2.2.2.2)))
def J9R (z151 : Int × Int × Int × J4 × J9 × J5 × J5 × (Vector Bool 3)) : Option ((Int × Int × Int × J4 × J9 × J5 × J5 × (Vector Bool 3)) ⊕ ((Int × Int × J4 × J9 × J5 × J5 × (Vector Bool 3)) ⊕ Bool)) :=
 if ltI z151.2.2.1 3 then
  (Jd (z151.2.2.2.2.2.1, z151.2.2.1)).bind fun y152 =>
  (Jd (z151.2.2.2.2.2.2.1, z151.2.2.1)).bind fun y153 =>
  if neI y152.2 0 = false then
   (inb 3 z151.2.2.1).bind fun _ =>
   (vat z151.2.2.2.2.2.2.2 (Int.toNat z151.2.2.1)).bind fun y155 =>
   if J1b y155 then
    if neI y153.2 0 = false then
     if neS y152.1 y153.1 then
      Option.map .inr (
       some (.inr false))
     else
      some (.inl (z151.1, z151.2.1, Ji .i64 z151.2.2.1 1, z151.2.2.2.1, z151.2.2.2.2.1, z151.2.2.2.2.2.1, z151.2.2.2.2.2.2.1, z151.2.2.2.2.2.2.2))
    else
     Option.map .inr (
      some (.inr false))
   else
    some (.inl (z151.1, z151.2.1, Ji .i64 z151.2.2.1 1, z151.2.2.2.1, z151.2.2.2.2.1, z151.2.2.2.2.2.1, z151.2.2.2.2.2.2.1, z151.2.2.2.2.2.2.2))
  else
   Option.map .inr (
    some (.inr false))
 else
  some (.inr (.inl (z151.1, Ji .i64 z151.2.1 1, z151.2.2.2.1, z151.2.2.2.2.1, z151.2.2.2.2.2.1, z151.2.2.2.2.2.2.1, z151.2.2.2.2.2.2.2)))
def J9w (z156 : Int × Int × Int × J4 × J9 × J5 × J5 × (Vector Bool 3)) : Option ((Int × Int × Int × J4 × J9 × J5 × J5 × (Vector Bool 3)) ⊕ ((Int × Int × J4 × J9 × J5 × J5 × (Vector Bool 3)) ⊕ Bool)) :=
 if ltI z156.2.2.1 3 then
  (Jd (z156.2.2.2.2.2.1, z156.2.2.1)).bind fun y157 =>
  (Jd (z156.2.2.2.2.2.2.1, z156.2.2.1)).bind fun y158 =>
  if neI y157.2 0 = false then
   (inb 3 z156.2.2.1).bind fun _ =>
   (vat z156.2.2.2.2.2.2.2 (Int.toNat z156.2.2.1)).bind fun y160 =>
   if J1b y160 then
    if neI y158.2 0 = false then
     if neS y157.1 y158.1 then
      Option.map .inr (
       some (.inr false))
     else
      some (.inl (z156.1, z156.2.1, Ji .i64 z156.2.2.1 1, z156.2.2.2.1, z156.2.2.2.2.1, z156.2.2.2.2.2.1, z156.2.2.2.2.2.2.1, z156.2.2.2.2.2.2.2))
    else
     Option.map .inr (
      some (.inr false))
   else
    some (.inl (z156.1, z156.2.1, Ji .i64 z156.2.2.1 1, z156.2.2.2.1, z156.2.2.2.2.1, z156.2.2.2.2.2.1, z156.2.2.2.2.2.2.1, z156.2.2.2.2.2.2.2))
  else
   Option.map .inr (
    some (.inr false))
 else
  some (.inr (.inl (z156.1, Ji .i64 z156.2.1 1, z156.2.2.2.1, z156.2.2.2.2.1, z156.2.2.2.2.2.1, z156.2.2.2.2.2.2.1, z156.2.2.2.2.2.2.2)))
def J6d (z133 : Int × Int × J4 × J9 × J5 × J5 × (Vector Bool 3)) : Option ((Int × Int × J4 × J9 × J5 × J5 × (Vector Bool 3)) ⊕ Bool) :=
 if leI z133.2.1 6 then
  (Jl (3, z133.2.2.1)).bind fun y134 =>
  (Jm y134.2).bind fun y135 =>
  (Jj (z133.2.2.2.2.1, y134.1, y135.1)).bind fun y136 =>
  (Jj (z133.2.2.2.2.2.1, y134.1, y135.1)).bind fun y137 =>
  if neI y136.2 0 = false then
   if neI y137.2 0 then
    some (.inr false)
   else
    if eqI z133.2.1 z133.1 then
     (inb 3 y134.1).bind fun _ =>
     (vat z133.2.2.2.2.2.2 (Int.toNat y134.1)).bind fun _ =>
     (inb 3 z133.2.2.2.1.2.2.2.1).bind fun _ =>
     (vat (J0w z133.2.2.2.2.2.2 (Int.toNat y134.1) true) (Int.toNat z133.2.2.2.1.2.2.2.1)).bind fun _ =>
     (inb 3 z133.2.2.2.1.2.2.1).bind fun _ =>
     (vat (J0w (J0w z133.2.2.2.2.2.2 (Int.toNat y134.1) true) (Int.toNat z133.2.2.2.1.2.2.2.1) true) (Int.toNat z133.2.2.2.1.2.2.1)).bind fun _ =>
     JL (J9V) (z133.1, z133.2.1, 0, y135.2, z133.2.2.2.1, y136.1, y137.1, J0w (J0w (J0w z133.2.2.2.2.2.2 (Int.toNat y134.1) true) (Int.toNat z133.2.2.2.1.2.2.2.1) true) (Int.toNat z133.2.2.2.1.2.2.1) true)
    else
     if gtI z133.2.1 z133.1 then
      (inb 3 y134.1).bind fun _ =>
      (vat z133.2.2.2.2.2.2 (Int.toNat y134.1)).bind fun _ =>
      JL (J9R) (z133.1, z133.2.1, 0, y135.2, z133.2.2.2.1, y136.1, y137.1, J0w z133.2.2.2.2.2.2 (Int.toNat y134.1) false)
     else
      JL (J9w) (z133.1, z133.2.1, 0, y135.2, z133.2.2.2.1, y136.1, y137.1, z133.2.2.2.2.2.2)
  else
   some (.inr false)
 else
  some (.inr (eqI (J8 z133.2.2.2.2.2.1.2.2.2.2) 0))
def J3l (x1 : (List Int) × Int × Int) : Option (Bool) :=
 (J0e ()).bind fun y2 =>
 if J1b y2 then
  some false
 else
  (J0W (x1.1, 100)).bind fun y3 =>
  (J8h (cvI .i64 x1.2.2) 5).bind fun y4 =>
  (J8h (cvI .i64 x1.2.1) 5).bind fun y5 =>
  if eqI (Ji .i64 1 y5) 2 then
   (Jl (3, y3)).bind fun y6 =>
   (JP 3).bind fun y7 =>
   (JD (y7.1, Ji .i64 1 y5, Ji .i64 1 y4, 0, y6.1, 0, 0)).bind fun y8 =>
   if neI y7.2 0 = false then
    if neI y8.2 0 then
     some false
    else
     JL (J0O) (Ji .i64 1 y4, 1, y6.2, (Ji .i64 1 y5, Ji .i64 1 y4, 0, y6.1, 0, 0), y7.1, y8.1, Vector.replicate 3 false)
   else
    some false
  else
   if eqI (Ji .i64 1 y5) 3 then
    (Jl (256, y3)).bind fun y37 =>
    (JP 3).bind fun y38 =>
    (JD (y38.1, Ji .i64 1 y5, Ji .i64 1 y4, 0, 0, y37.1, 0)).bind fun y39 =>
    if neI y38.2 0 = false then
     if neI y39.2 0 then
      some false
     else
      JL (J6E) (Ji .i64 1 y4, 1, y37.2, (Ji .i64 1 y5, Ji .i64 1 y4, 0, 0, y37.1, 0), y38.1, y39.1, Vector.replicate 3 false)
    else
     some false
   else
    if eqI (Ji .i64 1 y5) 4 then
     (Jl (3, y3)).bind fun y68 =>
     (Jl (256, y68.2)).bind fun y69 =>
     (JP 3).bind fun y70 =>
     (JD (y70.1, Ji .i64 1 y5, Ji .i64 1 y4, y68.1, 0, y69.1, 1)).bind fun y71 =>
     if neI y70.2 0 = false then
      if neI y71.2 0 then
       some false
      else
       JL (J6D) (Ji .i64 1 y4, 1, y69.2, (Ji .i64 1 y5, Ji .i64 1 y4, y68.1, 0, y69.1, 1), y70.1, y71.1, Vector.replicate 3 false)
     else
      some false
    else
     if eqI (Ji .i64 1 y5) 5 then
      (Jl (3, y3)).bind fun y100 =>
      (JP 3).bind fun y101 =>
      (JD (y101.1, Ji .i64 1 y5, Ji .i64 1 y4, y100.1, 0, 0, 0)).bind fun y102 =>
      if neI y101.2 0 = false then
       if neI y102.2 0 then
        some false
       else
        JL (J6a) (Ji .i64 1 y4, 1, y100.2, (Ji .i64 1 y5, Ji .i64 1 y4, y100.1, 0, 0, 0), y101.1, y102.1, Vector.replicate 3 false)
      else
       some false
     else
      (JP 3).bind fun y131 =>
      (JD (y131.1, Ji .i64 1 y5, Ji .i64 1 y4, 0, 0, 0, 0)).bind fun y132 =>
      if neI y131.2 0 = false then
       if neI y132.2 0 then
        some false
       else
        JL (J6d) (Ji .i64 1 y4, 1, y3, (Ji .i64 1 y5, Ji .i64 1 y4, 0, 0, 0, 0), y131.1, y132.1, Vector.replicate 3 false)
      else
       some false
theorem Jbk (x) : onO (J11 J4W x) (fun y => J1w (TG.of [sigE J0a J1e J0e, sigE J0N J1U J0W, sigE i_draw_Codes_Next g_draw_Codes_Next Jl, sigE J02 J0Y JP, sigE JT J0P JD, sigE Jr J0j Jm, sigE JC J10 Jj, sigE JZ J1a Jd]) J3w y.1 y.2 (J0D J4W)) = J3l x := by kernel_rfl
def J3U (x : J5 × Int × (List UInt8)) : Option (J5) := Jif x
def J0M (x1 : J5 × Int × (List UInt8) × Int) : Option (J5 × Int) :=
 (J0n (x1.1, x1.2.1)).bind fun y2 =>
 if neI y2 0 then
  some (([], 0, [], false, []), y2)
 else
  if ltI x1.2.2.2 0 = false then
   if gtI x1.2.2.2 256 then
    some (([], 0, [], false, []), 1)
   else
    if neI (J8 x1.2.2.1) 256 then
     some (([], 0, [], false, []), 2)
    else
     (J6U x1.2.2.1 none (some x1.2.2.2)).bind fun y3 =>
     (idx x1.1.1 x1.2.1).bind fun y4 =>
     (J6U y4 (some x1.2.2.2) none).bind fun y5 =>
     (Jce y3 y5).bind fun y6 =>
     (J3U (x1.1, x1.2.1, y6)).bind fun y7 =>
     some (y7, 0)
  else
   some (([], 0, [], false, []), 1)
theorem Jhr (x) : onO (J11 J2p x) (fun y => J1w (TG.of [sigE J15 J1S J0n, sigE J3T J8w J3U]) J5D y.1 y.2 (J0D J2p)) = J0M x := by kernel_rfl
def J2V (x1 : (List Int) × Int × Int) : Option (Bool) :=
 (J0e ()).bind fun y2 =>
 if J1b y2 then
  some false
 else
  (J0W (x1.1, 100)).bind fun y3 =>
  (JP 2).bind fun y4 =>
  (Jm y3).bind fun y5 =>
  (Jj (y4.1, 1, y5.1)).bind fun y6 =>
  if neI y4.2 0 = false then
   if neI y6.2 0 = false then
    if neI (J8 y6.1.1) 2 then
     some false
    else
     (idx y6.1.1 1).bind fun y7 =>
     (Jm y5.2).bind fun y8 =>
     (J8h (cvI .i64 x1.2.1) 257).bind fun y9 =>
     (J8h (cvI .i64 x1.2.2) 257).bind fun y10 =>
     (J0M (y6.1, 1, y8.1, y9)).bind fun y11 =>
     (J0M (y11.1, 1, y8.1, y10)).bind fun y12 =>
     if neI y11.2 0 = false then
      if neI y12.2 0 = false then
       if neI (J8 y12.1.1) 2 = false then
        if neI (J8 y8.1) 256 = false then
         if neI (J8 y7) 256 then
          some false
         else
          (idx y12.1.1 1).bind fun y13 =>
          (J6U y8.1 none (some (J6A y9 y10))).bind fun y14 =>
          (J6U y7 (some (J6A y9 y10)) none).bind fun y15 =>
          (Jce y14 y15).bind fun y16 =>
          if neS y13 y16 = false then
           if neI y12.1.2.1 y6.1.2.1 then
            some false
           else
            if eqI (J6A y9 y10) 256 then
             some true
            else
             (JD (y6.1, 3, 2, 0, 0, J6A y9 y10, 0)).bind fun y17 =>
             (Jj (y17.1, 1, y8.1)).bind fun y18 =>
             if eqI y17.2 0 then
              if eqI y18.2 0 then
               if eqI y18.1.2.1 2 then
                if eqI (J8 y18.1.1) 2 then
                 (idx y18.1.1 1).bind fun y19 =>
                 (idx y12.1.1 1).bind fun y20 =>
                 if eqS y19 y20 then
                  (J2o y18.1).bind fun y21 =>
                  some y21
                 else
                  some false
                else
                 some false
               else
                some false
              else
               some false
             else
              some false
          else
           some false
        else
         some false
       else
        some false
      else
       some false
     else
      some false
   else
    some false
  else
   some false
theorem Jb7 (x) : onO (J11 J4o x) (fun y => J1w (TG.of [sigE J0a J1e J0e, sigE J0N J1U J0W, sigE J02 J0Y JP, sigE Jr J0j Jm, sigE JC J10 Jj, sigE J1c J2p J0M, sigE JT J0P JD, sigE J1p J4f J2o]) J2Z y.1 y.2 (J0D J4o)) = J2V x := by kernel_rfl
def J1I (x1 : J5) : Option (J5 × Int) :=
 (J0A x1).bind fun y2 =>
 if J1b y2 then
  some (([], 0, [], false, []), 15)
 else
  (J1j (J8 x1.1)).bind fun y3 =>
  (JX x1.2.2.2.2).bind fun y4 =>
  some ((y3, x1.2.1, [], false, y4), 0)
theorem JdH (x) : onO (J11 J2O x) (fun y => J1w (TG.of [sigE J0z J1t J0A, sigE J1i J2b J1j, sigE Ju J0r JX]) J4c y.1 y.2 (J0D J2O)) = J1I x := by kernel_rfl
def J6w (z8 : Int × Int × J4 × J5) : Option ((Int × Int × J4 × J5) ⊕ Bool) :=
 if ltI z8.2.1 z8.1 then
  (Jl (2, z8.2.2.1)).bind fun y9 =>
  (Jm y9.2).bind fun y10 =>
  (Jj (z8.2.2.2, y9.1, y10.1)).bind fun y11 =>
  if neI y11.2 0 = false then
   if J1b (eqB y11.1.2.2.2.1 (eqI z8.2.1 (Ja4 .i64 z8.1 1))) then
    some (.inr false)
   else
    some (.inl (z8.1, Ji .i64 z8.2.1 1, y10.2, y11.1))
  else
   some (.inr false)
 else
  Option.map .inr (
   (Jd (z8.2.2.2, 0)).bind fun y12 =>
   (Jm z8.2.2.1).bind fun y13 =>
   (Jj (z8.2.2.2, 0, y13.1)).bind fun y14 =>
   (Jm y13.2).bind fun y15 =>
   (J0M (z8.2.2.2, 0, y15.1, 5)).bind fun y16 =>
   (J1I z8.2.2.2).bind fun y17 =>
   (Jm y15.2).bind fun y18 =>
   (Jj (y17.1, 1, y18.1)).bind fun y19 =>
   (Jd (y19.1, 1)).bind fun y20 =>
   if eqI y12.2 10 then
    if eqI y14.2 10 then
     if eqI y16.2 10 then
      if eqI y17.2 0 then
       if eqI y17.1.2.1 z8.1 then
        if eqI (J8 y17.1.2.2.2.2) 1 then
         if eqI y19.2 0 then
          if eqI y20.2 0 then
           (mkS 1 256 256 0).bind fun y21 =>
           some (eqS y20.1 (toStr y21))
          else
           some false
         else
          some false
        else
         some false
       else
        some false
      else
       some false
     else
      some false
    else
     some false
   else
    some false)
def J3f (x1 : (List Int) × Int) : Option (Bool) :=
 (J0e ()).bind fun y2 =>
 if J1b y2 then
  some false
 else
  (J0W (x1.1, 100)).bind fun y3 =>
  (JP 2).bind fun y4 =>
  (J8h (cvI .i64 x1.2) 6).bind fun y5 =>
  (JD (y4.1, 6, Ji .i64 1 y5, 0, 0, 0, 0)).bind fun y6 =>
  (JD (y6.1, 1, Ji .i64 (Ji .i64 1 y5) 1, 0, 0, 0, 0)).bind fun y7 =>
  if neI y4.2 0 = false then
   if neI y6.2 0 = false then
    if neI y7.2 0 then
     some false
    else
     JL (J6w) (Ji .i64 1 y5, 0, y3, y7.1)
   else
    some false
  else
   some false
theorem Jbe (x) : onO (J11 J4J x) (fun y => J1w (TG.of [sigE J0a J1e J0e, sigE J0N J1U J0W, sigE J02 J0Y JP, sigE JT J0P JD, sigE i_draw_Codes_Next g_draw_Codes_Next Jl, sigE Jr J0j Jm, sigE JC J10 Jj, sigE JZ J1a Jd, sigE J1c J2p J0M, sigE J1J J2O J1I]) J3q y.1 y.2 (J0D J4J)) = J3f x := by kernel_rfl
end
end Go.Am
end
section
namespace Go.Am
def Tot {ρ : Type} (o : Option ρ) (Q : ρ → Prop) : Prop := ∃ r, o = some r ∧ Q r
section
variable {α β ρ σ τ : Type} {Q : ρ → Prop}
theorem Tot.bind {P : α → Prop} {o : Option α} {f : α → Option ρ} (h : Tot o P) (h2 : ∀ r, P r → Tot (f r) Q) : Tot (o.bind f) Q := by
  obtain ⟨r, rfl, hq⟩ := h
  exact h2 r hq
theorem Tot.some {r : ρ} (h : Q r) : Tot (some r) Q := ⟨r, rfl, h⟩
theorem Tot.mono {P : ρ → Prop} {o : Option ρ} (h : Tot o P) (h2 : ∀ r, P r → Q r) : Tot o Q := by
  obtain ⟨r, e, hq⟩ := h
  exact ⟨r, e, h2 r hq⟩
theorem Tot.map {P : α → Prop} {o : Option α} {f : α → ρ} (h : Tot o P) (h2 : ∀ r, P r → Q (f r)) : Tot (Option.map f o) Q := by
  obtain ⟨r, rfl, hq⟩ := h
  exact ⟨f r, rfl, h2 r hq⟩
theorem Tot.get {o : Option ρ} {r : ρ} (h : Tot o Q) (e : o = Option.some r) : Q r := by
  obtain ⟨r', e', h⟩ := h
  rw [e] at e'; injection e' with e'; subst e'; exact h
variable {u v : Option ρ}
theorem Tot.ite {c : Bool} (h1 : c = true → Tot u Q) (h2 : c = false → Tot v Q) : Tot (if c = true then u else v) Q := by
  cases c with
  | true => exact h1 rfl
  | false => exact h2 rfl
theorem Tot.itf {c : Bool} (h1 : c = false → Tot u Q) (h2 : c = true → Tot v Q) : Tot (if c = false then u else v) Q := by
  cases c with
  | true => exact h2 rfl
  | false => exact h1 rfl
theorem Tot.not {c : Bool} (h1 : c = false → Tot u Q) (h2 : c = true → Tot v Q) : Tot (if J1b c = true then u else v) Q := by
  cases c with
  | true => exact h2 rfl
  | false => exact h1 rfl
theorem Tot.nof {c : Bool} (h1 : c = true → Tot u Q) (h2 : c = false → Tot v Q) : Tot (if J1b c = false then u else v) Q := by
  cases c with
  | true => exact h1 rfl
  | false => exact h2 rfl
variable {a c : Int}
theorem J6c : ltI a c = true ↔ a < c := by simp [ltI]
theorem Jcv : gtI a c = true ↔ c < a := by simp [gtI]
theorem JcI : leI a c = true ↔ a ≤ c := by simp [leI]
theorem J6V : geI a c = true ↔ c ≤ a := by simp [geI]
theorem Jgm : eqI a c = true ↔ a = c := by simp [eqI]
theorem J9X : neI a c = true ↔ ¬a = c := by simp [neI]
theorem Tot.by {p : Prop} {x : Bool} (hp : x = true ↔ p) (h1 : p → Tot u Q) (h2 : ¬p → Tot v Q) : Tot (if x = true then u else v) Q := .ite (fun h => h1 (hp.1 h)) fun h => h2 fun h3 => by rw [hp.2 h3] at h; cases h
theorem Tot.byf {p : Prop} {x : Bool} (hp : x = true ↔ p) (h1 : ¬p → Tot u Q) (h2 : p → Tot v Q) : Tot (if x = false then u else v) Q := .itf (fun h => h1 fun h3 => by rw [hp.2 h3] at h; cases h) fun h => h2 (hp.1 h)
theorem Tot.lt (h1 : a < c → Tot u Q) (h2 : ¬a < c → Tot v Q) : Tot (if ltI a c = true then u else v) Q := .by J6c h1 h2
theorem Tot.gt (h1 : c < a → Tot u Q) (h2 : ¬c < a → Tot v Q) : Tot (if gtI a c = true then u else v) Q := .by Jcv h1 h2
theorem Tot.le (h1 : a ≤ c → Tot u Q) (h2 : ¬a ≤ c → Tot v Q) : Tot (if leI a c = true then u else v) Q := .by JcI h1 h2
theorem Tot.ge (h1 : c ≤ a → Tot u Q) (h2 : ¬c ≤ a → Tot v Q) : Tot (if geI a c = true then u else v) Q := .by J6V h1 h2
theorem Tot.eq (h1 : a = c → Tot u Q) (h2 : ¬a = c → Tot v Q) : Tot (if eqI a c = true then u else v) Q := .by Jgm h1 h2
theorem Tot.ne (h1 : ¬a = c → Tot u Q) (h2 : a = c → Tot v Q) : Tot (if neI a c = true then u else v) Q := .by J9X h1 (fun h => h2 (Decidable.of_not_not h))
theorem Tot.ltf (h1 : ¬a < c → Tot u Q) (h2 : a < c → Tot v Q) : Tot (if ltI a c = false then u else v) Q := .byf J6c h1 h2
theorem Tot.gtf (h1 : ¬c < a → Tot u Q) (h2 : c < a → Tot v Q) : Tot (if gtI a c = false then u else v) Q := .byf Jcv h1 h2
theorem Tot.lef (h1 : ¬a ≤ c → Tot u Q) (h2 : a ≤ c → Tot v Q) : Tot (if leI a c = false then u else v) Q := .byf JcI h1 h2
theorem Tot.gef (h1 : ¬c ≤ a → Tot u Q) (h2 : c ≤ a → Tot v Q) : Tot (if geI a c = false then u else v) Q := .byf J6V h1 h2
theorem Tot.nef (h1 : a = c → Tot u Q) (h2 : ¬a = c → Tot v Q) : Tot (if neI a c = false then u else v) Q := .byf J9X (fun h => h1 (Decidable.of_not_not h)) h2
end
def Ty.fit (B S : Int) : (t : Ty) → t.D → Prop
  | .b, _ => True
  | .i k, z => k.min ≤ z ∧ z ≤ k.max
  | .s, z => J8 (α := UInt8) z ≤ S
  | .l t, z => J8 (α := t.D) z ≤ B ∧ ∀ x ∈ (z : List t.D), t.fit B S x
  | .pr a c, x => a.fit B S x.1 ∧ c.fit B S x.2
  | .ar n t, v => ∀ (i : Nat) (h : i < n), t.fit B S ((v : Vector t.D n)[i])
  | .u, _ => True
  | .f, _ => True
theorem Ty.fit.up {B S B' S' : Int} (h1 : B ≤ B') (h2 : S ≤ S') : ∀ {t : Ty} {x : t.D}, t.fit B S x → t.fit B' S' x
  | .b, _, _ => trivial
  | .i _, _, h => h
  | .s, _, h => Int.le_trans h h2
  | .l _, _, h => ⟨Int.le_trans h.1 h1, fun x hx => (h.2 x hx).up h1 h2⟩
  | .pr _ _, _, h => ⟨h.1.up h1 h2, h.2.up h1 h2⟩
  | .ar _ _, _, h => fun i hi => (h i hi).up h1 h2
  | .u, _, _ => trivial
  | .f, _, _ => trivial
section
variable {α : Type} {l : List α}
theorem J4l : 0 ≤ J8 l := Int.natCast_nonneg _
theorem Jor {x : α} : J8 [x] = 1 := rfl
theorem Joo {m : List α} : J8 (l ++ m) = J8 l + J8 m := by simp [J8]
end
theorem wrap64 (n : Int) : IntKind.i64.wrap n = (n + 9223372036854775808) % 18446744073709551616 - 9223372036854775808 := by
  simp [IntKind.wrap, IntKind.bits, IntKind.signed]
  omega
theorem J7g (a b : Int) : Ji .i64 a b = (a + b + 9223372036854775808) % 18446744073709551616 - 9223372036854775808 := wrap64 _
theorem JlN (a b : Int) : Ja4 .i64 a b = (a - b + 9223372036854775808) % 18446744073709551616 - 9223372036854775808 := wrap64 _
theorem JsE (a b : Int) : JlX .i64 a b = (a * b + 9223372036854775808) % 18446744073709551616 - 9223372036854775808 := wrap64 _
theorem Je8 (a : Int) : cvI .i64 a = (a + 9223372036854775808) % 18446744073709551616 - 9223372036854775808 := wrap64 _
section
variable {B S : Int} {k : IntKind} {a b : Int}
theorem JsB (k : IntKind) (n : Int) (h : k.min ≤ n ∧ n ≤ k.max := by decide) : Ty.fit B S (.i k) n := h
end
section
variable {B S : Int} {t : Ty}
theorem Jpf {α : Type} {l : List α} {k : Int} (h0 : 0 ≤ k) (h1 : k ≤ J8 l) : Tot (J6U l none (some k)) fun r => r = l.take k.toNat ∧ J8 r = k := by
  refine ⟨l.take k.toNat, ?_, rfl, ?_⟩
  · unfold J6U Jge Jjp
    unfold J8 at h1
    simp only [if_pos (And.intro h0 h1)]
    simp
  · unfold J8 at *; rw [List.length_take]; omega
theorem JnA {α : Type} {l : List α} {k : Int} (h0 : 0 ≤ k) (h1 : k ≤ J8 l) : Tot (J6U l (some k) none) fun r => r = l.drop k.toNat ∧ J8 r = J8 l - k := by
  refine ⟨l.drop k.toNat, ?_, rfl, ?_⟩
  · unfold J6U Jge Jjp
    unfold J8 at h1
    simp only [if_pos (And.intro h0 h1)]
    rw [List.take_of_length_le]
    simp
  · unfold J8 at *; rw [List.length_drop]; omega
theorem Jt0 {bytes : Nat} {n m : Int} {z : t.D} (hz : t.fit B S z) (h0 : 0 ≤ n := by omega) (h1 : n ≤ m := by omega) (h2 : m ≤ 34359738368 := by omega) (hn : n ≤ B := by omega) (hb : bytes ≤ 2048 := by decide) : Tot (mkS bytes n m z) fun r => Ty.fit B S (.l t) r ∧ J8 r = n := by
  refine ⟨List.replicate n.toNat z, ?_, ⟨?_, fun x hx => ?_⟩, ?_⟩
  · unfold mkS
    have : (bytes : Int) * m ≤ 2048 * 34359738368 := Int.le_trans (Int.mul_le_mul_of_nonneg_right (by omega) (by omega)) (Int.mul_le_mul_of_nonneg_left h2 (by omega))
    rw [if_pos ⟨h0, h1, by omega, by omega⟩]
  · unfold J8; rw [List.length_replicate]; omega
  · rw [List.eq_of_mem_replicate hx]; exact hz
  · unfold J8; rw [List.length_replicate]; omega
theorem Jav {x y : Int} (h : ¬y = 0) : Tot (J8h x y) fun r => r = x.tmod y := ⟨_, by unfold J8h; rw [if_neg h], rfl⟩
theorem J7O {n : Nat} {i : Int} (h0 : 0 ≤ i := by omega) (h1 : i < n := by omega) : Tot (inb n i) fun _ => True := ⟨(), by unfold inb; rw [if_pos ⟨h0, h1⟩], trivial⟩
theorem JjP {α : Type} {l : List α} {i : Nat} {x : α} : J8 (J6B l i x) = J8 l := by unfold J6B J8; rw [List.length_set]
theorem JnL {l : List Int} : J8 (toStr l) = J8 l := by unfold toStr J8; rw [List.length_map]
end
theorem Ty.fit.u {B S B' S' : Int} {t : Ty} {x : t.D} (h : t.fit B S x) (h1 : B ≤ B' := by omega) (h2 : S ≤ S' := by omega) : t.fit B' S' x := h.up h1 h2
theorem Tot.inr {σ ρ : Type} {o : Option ρ} {Q : σ ⊕ ρ → Prop} (h : Tot o fun y => Q (.inr y)) : Tot (Option.map .inr o) Q := h.map fun _ h => h
section
variable {B S : Int} {t : Ty}
theorem JpY {α : Type} {l : List α} {i : Int} (h0 : 0 ≤ i := by omega) (h1 : i < J8 l := by omega) : Tot (inb l.length i) fun _ => True := J7O h0 h1
theorem Jkn (a b : Int) : a ≤ J6A a b ∧ b ≤ J6A a b ∧ (J6A a b = a ∨ J6A a b = b) := by unfold J6A; split <;> omega
theorem Jlg {x y : Int} (h : 0 ≤ x) : x.tmod y ≤ x := by
  obtain ⟨m, rfl⟩ := Int.eq_ofNat_of_zero_le h
  cases y with
  | ofNat n => show ((m % n : Nat) : Int) ≤ m; exact Int.ofNat_le.2 (Nat.mod_le _ _)
  | negSucc n => show ((m % (n + 1) : Nat) : Int) ≤ m; exact Int.ofNat_le.2 (Nat.mod_le _ _)
theorem J2i {x y : Int} : (0 ≤ x → 0 ≤ x.tmod y) ∧ (0 < y → x.tmod y < y) ∧ (x ≤ 0 → x.tmod y ≤ 0) ∧ (0 ≤ x → x.tmod y ≤ x) ∧ (x ≤ 0 → x ≤ x.tmod y) := by
  refine ⟨fun h => Int.tmod_nonneg _ h, fun h => Int.tmod_lt_of_pos _ h, fun h => ?_, fun h => ?_, fun h => ?_⟩
  · have := Int.tmod_nonneg (a := -x) y (by omega)
    rw [Int.neg_tmod] at this; omega
  · exact Jlg h
  · have h2 : (-x).tmod y ≤ -x := Jlg (by omega)
    rw [Int.neg_tmod] at h2; omega
end
theorem J6e {σ τ ρ : Type} {L : σ → Option (σ ⊕ ρ)} {Q : ρ → Prop} (e : τ → σ) (I : τ → Prop) (m : τ → Int)
    (h : ∀ c, I c → Tot (L (e c)) fun r => match r with | .inl z => ∃ c', z = e c' ∧ I c' ∧ m c' < m c ∧ 0 ≤ m c | .inr y => Q y) {z : σ} (c : τ) (hz : z = e c) (hI : I c) : Tot (JL L z) Q := by
  subst hz
  have key : ∀ (n : Nat) (c : τ), (m c + 1).toNat < n → I c → Tot (JL L (e c)) Q := by
    intro n
    induction n with
    | zero => intro c h1; omega
    | succ n ih =>
      intro c h1 hI
      obtain ⟨r, h2, h3⟩ := h c hI
      cases r with
      | inl z =>
        obtain ⟨c', rfl, h4, h5, h6⟩ := h3
        rw [JlP h2]
        exact ih c' (by omega) h4
      | inr y => rw [Jmv h2]; exact ⟨y, rfl, h3⟩
  exact key _ c (Nat.lt_succ_self _) hI
def Ty.nl : Ty → Bool
  | .l _ => false
  | .pr a c => a.nl && c.nl
  | .ar _ t => t.nl
  | _ => true
theorem Ty.fit.z' {B S : Int} : ∀ {t : Ty} {x : t.D}, t.nl = true → Ty.fit B S t x → Ty.fit 0 S t x
  | .b, _, _, _ => trivial
  | .i _, _, _, h => h
  | .s, _, _, h => h
  | .l _, _, n, _ => by cases n
  | .pr a c, _, n, h => by
    have n : (a.nl && c.nl) = true := n
    rw [Bool.and_eq_true] at n
    exact ⟨Ty.fit.z' n.1 h.1, Ty.fit.z' n.2 h.2⟩
  | .ar _ _, _, n, h => fun i hi => Ty.fit.z' n (h i hi)
  | .u, _, _, _ => trivial
  | .f, _, _, _ => trivial
theorem Ty.fit.z {B S : Int} {t : Ty} {x : t.D} (h : Ty.fit B S t x) (n : t.nl = true := by rfl) : Ty.fit 0 S t x := Ty.fit.z' n h
theorem oo {p : Prop} (h : p := by omega) : p := h
end Go.Am
end
section
namespace Go.Am
theorem Tot.eqn {ρ : Type} {o : Option ρ} {Q : ρ → Prop} (h : Tot o Q) : Tot o fun r => Q r ∧ o = Option.some r := by
  obtain ⟨r, e, h⟩ := h
  exact ⟨r, e, h, e⟩
theorem Tot.same {α ρ : Type} {o : Option α} {f : α → Option ρ} {w : α} {Q : ρ → Prop} (e : o = Option.some w) (h : Tot (f w) Q) : Tot (o.bind f) Q := by
  rw [e]; exact h
def Par {ρ : Type} (o : Option ρ) (Q : ρ → Prop) : Prop := ∀ r, o = Option.some r → Q r
section
variable {α β ρ σ : Type} {Q : ρ → Prop} {u v : Option ρ}
theorem Par.bind {o : Option α} {f : α → Option ρ} (h : ∀ a, o = Option.some a → Par (f a) Q) : Par (o.bind f) Q := by
  intro r hr
  cases o with
  | none => cases hr
  | some a => exact h a rfl r hr
theorem Par.map {o : Option α} {f : α → ρ} (h : Par o fun a => Q (f a)) : Par (Option.map f o) Q := by
  intro r hr
  cases o with
  | none => cases hr
  | some a => injection hr with hr; subst hr; exact h a rfl
theorem Par.some {r : ρ} (h : Q r) : Par (Option.some r) Q := by
  intro r' e; injection e with e; subst e; exact h
theorem Par.none : Par (Option.none : Option ρ) Q := by
  intro r e; cases e
theorem Par.mono {o : Option ρ} {P : ρ → Prop} (h : Par o P) (h2 : ∀ r, P r → Q r) : Par o Q := fun r e => h2 r (h r e)
theorem Par.ite {c : Bool} (h1 : c = true → Par u Q) (h2 : c = false → Par v Q) : Par (if c = true then u else v) Q := by
  cases c with
  | true => exact h1 rfl
  | false => exact h2 rfl
theorem Par.itf {c : Bool} (h1 : c = false → Par u Q) (h2 : c = true → Par v Q) : Par (if c = false then u else v) Q := by
  cases c with
  | true => exact h2 rfl
  | false => exact h1 rfl
theorem Par.not {c : Bool} (h1 : c = false → Par u Q) (h2 : c = true → Par v Q) : Par (if J1b c = true then u else v) Q := by
  cases c with
  | true => exact h2 rfl
  | false => exact h1 rfl
theorem Par.nof {c : Bool} (h1 : c = true → Par u Q) (h2 : c = false → Par v Q) : Par (if J1b c = false then u else v) Q := by
  cases c with
  | true => exact h1 rfl
  | false => exact h2 rfl
variable {a c : Int}
theorem Par.by {p : Prop} {x : Bool} (hp : x = true ↔ p) (h1 : p → Par u Q) (h2 : ¬p → Par v Q) : Par (if x = true then u else v) Q := .ite (fun h => h1 (hp.1 h)) fun h => h2 fun h3 => by rw [hp.2 h3] at h; cases h
theorem Par.byf {p : Prop} {x : Bool} (hp : x = true ↔ p) (h1 : ¬p → Par u Q) (h2 : p → Par v Q) : Par (if x = false then u else v) Q := .itf (fun h => h1 fun h3 => by rw [hp.2 h3] at h; cases h) fun h => h2 (hp.1 h)
theorem Par.lt (h1 : a < c → Par u Q) (h2 : ¬a < c → Par v Q) : Par (if ltI a c = true then u else v) Q := .by J6c h1 h2
theorem Par.gt (h1 : c < a → Par u Q) (h2 : ¬c < a → Par v Q) : Par (if gtI a c = true then u else v) Q := .by Jcv h1 h2
theorem Par.le (h1 : a ≤ c → Par u Q) (h2 : ¬a ≤ c → Par v Q) : Par (if leI a c = true then u else v) Q := .by JcI h1 h2
theorem Par.ge (h1 : c ≤ a → Par u Q) (h2 : ¬c ≤ a → Par v Q) : Par (if geI a c = true then u else v) Q := .by J6V h1 h2
theorem Par.eq (h1 : a = c → Par u Q) (h2 : ¬a = c → Par v Q) : Par (if eqI a c = true then u else v) Q := .by Jgm h1 h2
theorem Par.ne (h1 : ¬a = c → Par u Q) (h2 : a = c → Par v Q) : Par (if neI a c = true then u else v) Q := .by J9X h1 (fun h => h2 (Decidable.of_not_not h))
theorem Par.ltf (h1 : ¬a < c → Par u Q) (h2 : a < c → Par v Q) : Par (if ltI a c = false then u else v) Q := .byf J6c h1 h2
theorem Par.gtf (h1 : ¬c < a → Par u Q) (h2 : c < a → Par v Q) : Par (if gtI a c = false then u else v) Q := .byf Jcv h1 h2
theorem Par.lef (h1 : ¬a ≤ c → Par u Q) (h2 : a ≤ c → Par v Q) : Par (if leI a c = false then u else v) Q := .byf JcI h1 h2
theorem Par.gef (h1 : ¬c ≤ a → Par u Q) (h2 : c ≤ a → Par v Q) : Par (if geI a c = false then u else v) Q := .byf J6V h1 h2
theorem Par.nef (h1 : a = c → Par u Q) (h2 : ¬a = c → Par v Q) : Par (if neI a c = false then u else v) Q := .byf J9X (fun h => h1 (Decidable.of_not_not h)) h2
end
theorem JmP {α : Type} {l : List α} {i : Int} {r : α} (h : idx l i = Option.some r) : 0 ≤ i ∧ l[i.toNat]? = Option.some r := by
  unfold idx at h; split at h
  · exact ⟨by assumption, h⟩
  · cases h
def J9a {α : Type} (P : α → Prop) (l : List α) (i : Int) : Prop := 0 ≤ i ∧ ∀ x ∈ l.take i.toNat, P x
theorem J8z {α : Type} {P : α → Prop} {l : List α} : J9a P l 0 := ⟨by omega, fun x h => by simp at h⟩
theorem J67 {α : Type} {P : α → Prop} {l : List α} {i j : Int} {x : α} (h : J9a P l i) (e : idx l i = Option.some x) (hx : P x) (hj : j = i + 1) : J9a P l j := by
  obtain ⟨h0, h⟩ := h
  obtain ⟨_, e⟩ := JmP e
  subst hj
  refine ⟨by omega, fun y hy => ?_⟩
  have : (i + 1).toNat = i.toNat + 1 := by omega
  rw [this, List.take_add_one, e] at hy
  rcases List.mem_append.1 hy with hy | hy
  · exact h y hy
  · simp at hy; subst hy; exact hx
theorem J6Z {α : Type} {P : α → Prop} {l : List α} {i : Int} (h : J9a P l i) (hi : ¬i < J8 l) : ∀ x ∈ l, P x := fun x hx => h.2 x (by
  rw [List.take_of_length_le]
  · exact hx
  · unfold J8 at hi; omega)
end Go.Am
end
section
namespace Go.Am
set_option maxRecDepth 20000
set_option linter.unusedVariables false
theorem J4O {ρ : Type} {o : Option ρ} {v : ρ} (h : Tot o fun y => y = v) : o = Option.some v := by obtain ⟨y, e, rfl⟩ := h; exact e
theorem Jv {ρ : Type} {o : Option ρ} {v : ρ} (h : o = Option.some v) : Tot o fun y => y = v := ⟨v, h, rfl⟩
structure J5T (c : J4) : Prop where
  at0 : 0 ≤ c.2
  len : J8 c.1 ≤ 1000000
  byte : ∀ a ∈ c.1, 0 ≤ a ∧ a ≤ 255
  hi : c.2 ≤ J8 c.1
structure J9e (c d : J4) : Prop where
  list : d.1 = c.1
  mono : c.2 ≤ d.2
  hi : c.2 ≤ J8 c.1 → d.2 ≤ J8 c.1
theorem J5T.to {c d : J4} (h : J5T c) (t : J9e c d) : J5T d := ⟨Int.le_trans h.at0 t.mono, by rw [t.list]; exact h.len, by rw [t.list]; exact h.byte, by rw [t.list]; exact t.hi h.hi⟩
theorem J9e.refl (c : J4) : J9e c c := ⟨rfl, Int.le_refl _, id⟩
theorem J9e.trans {a b c : J4} (h : J9e a b) (k : J9e b c) : J9e a c := ⟨k.list.trans h.list, Int.le_trans h.mono k.mono, fun e => by have := k.hi (by rw [h.list]; exact h.hi e); rwa [h.list] at this⟩
theorem J3Q {α : Type} {l : List α} {i : Int} (h0 : 0 ≤ i := by omega) (h1 : i < J8 l := by omega) : Tot (idx l i) fun r => l[i.toNat]? = some r ∧ r ∈ l := by
  have hl : i.toNat < l.length := by unfold J8 at h1; omega
  refine ⟨l[i.toNat], ?_, List.getElem?_eq_getElem hl, List.getElem_mem hl⟩
  unfold idx
  rw [if_pos (by unfold J8 at h1; omega)]
  exact List.getElem?_eq_getElem hl
theorem Jfe (rec : (Int × J4) → Option (Int × J4)) (n : Int) (c : J4) (hc : J5T c) (hn : n ≤ 256) :
    Tot (J0s rec (n, c)) fun y => J9e c y.2 ∧ (c.2 < J8 c.1 → 1 ≤ n → c.2 < y.2.2) ∧ 0 ≤ y.1 ∧ (1 ≤ n → y.1 < n) := by
  unfold J0s
  dsimp only
  have h0 := hc.at0
  have hl := hc.len
  refine .gef (fun c1 => .lt (fun c2 => .some ⟨.refl _, fun _ h => by omega, Int.le_refl _, fun h => by dsimp only; omega⟩) fun c2 => ?_) fun c1 => .some ⟨.refl _, fun h => by omega, Int.le_refl _, fun h => by dsimp only; omega⟩
  refine .bind (J3Q (by omega) (by omega)) fun y hy => .gt (fun c3 => by omega) fun c3 => ?_
  obtain ⟨b0, b1⟩ := hc.byte y hy.2
  have e1 := Je8 y
  have e2 := J7g c.2 1
  refine .bind (Jav (show ¬n = 0 by omega)) fun r hr =>   .some ⟨⟨rfl, by show c.2 ≤ Ji .i64 c.2 1; omega, fun _ => by show Ji .i64 c.2 1 ≤ J8 c.1; omega⟩, fun _ _ => by show c.2 < Ji .i64 c.2 1; omega, ?_, fun _ => ?_⟩
  · show 0 ≤ r
    rw [hr]; exact J2i.1 (by omega)
  · show r < n
    rw [hr]; exact J2i.2.1 (by omega)
theorem J2P (n : Int) (c : J4) (hc : J5T c) : Tot (Jl (n, c)) fun y => J9e c y.2 ∧ (c.2 < J8 c.1 → 1 ≤ n → c.2 < y.2.2) ∧ 0 ≤ y.1 ∧ (1 ≤ n → y.1 < n) := by
  have e0 : Jl (n, c) = J0s (JaC J0s 99) (n, c) := rfl
  rw [e0]
  by_cases hn : n ≤ 256
  · exact Jfe _ n c hc hn
  · have e3 : ∀ x, JaC J0s 99 x = J0s (JaC J0s 98) x := fun _ => rfl
    generalize JaC J0s 99 = rec at e3 ⊢
    unfold J0s
    dsimp only
    have h0 := hc.at0
    have hl := hc.len
    refine .gef (fun c1 => .lt (fun c2 => by omega) fun c2 => ?_) fun c1 => .some ⟨.refl _, fun h => by omega, Int.le_refl _, fun h => by dsimp only; omega⟩
    refine .bind (J3Q (by omega) (by omega)) fun y hy => .gt (fun c3 => ?_) fun c3 => by omega
    obtain ⟨b0, b1⟩ := hc.byte y hy.2
    have e1 := Je8 y
    have e2 := J7g c.2 1
    have hd : J5T (c.1, Ji .i64 c.2 1) := hc.to ⟨rfl, by show c.2 ≤ Ji .i64 c.2 1; omega, fun _ => by show Ji .i64 c.2 1 ≤ J8 c.1; omega⟩
    rw [e3]
    refine .bind (Jfe _ 256 _ hd (Int.le_refl _)) fun z hz => ?_
    have hz2 := hz.2.2.2 (by decide)
    have hz1 := hz.2.2.1
    have hz3 := hz.1.mono
    have hz4 := hz.1.list
    have hz5 := hz.1.hi (by show Ji .i64 c.2 1 ≤ J8 c.1; omega)
    dsimp only at hz3 hz4 hz5
    have e4 := JsE 256 (cvI .i64 y)
    have e5 := J7g (JlX .i64 256 (cvI .i64 y)) z.1
    refine .bind (Jav (show ¬n = 0 by omega)) fun r hr => .some ⟨⟨hz4, by show c.2 ≤ z.2.2; omega, fun _ => hz5⟩, fun _ _ => by show c.2 < z.2.2; omega, ?_, fun _ => ?_⟩
    · show 0 ≤ r
      rw [hr]; exact J2i.1 (by omega)
    · show r < n
      rw [hr]; exact J2i.2.1 (by omega)
theorem JcG (l : List Int) (k : Int) (hk : 0 ≤ k) (hk2 : k ≤ 1000000) (hb : ∀ a ∈ l, 0 ≤ a ∧ a ≤ 255) : Tot (J0W (l, k)) fun y => J5T y ∧ y.2 = 0 ∧ J8 y.1 ≤ k := by
  unfold J0W
  dsimp only
  refine .gt (fun c => .bind (Jpf hk (by omega)) fun y hy => .some ⟨⟨Int.le_refl _, by show J8 y ≤ 1000000; omega, fun a ha => hb a (by rw [hy.1] at ha; exact List.mem_of_mem_take ha), J4l⟩, rfl, by show J8 y ≤ k; omega⟩)
    fun c => .some ⟨⟨Int.le_refl _, by show J8 l ≤ 1000000; omega, hb, J4l⟩, rfl, by show J8 l ≤ k; omega⟩
theorem JqK (c : J4) (hc : J5T c) : J1Y c = some (Ja4 .i64 (J8 c.1) c.2, c) := rfl
theorem J43 (c : J4) (hc : J5T c) : Tot (Jm c) fun y => J9e c y.2 ∧ y.1.length = 256 := by
  unfold Jm
  refine .bind (Jt0 (B := 256) (S := 0) (t := .i .u8) (z := (0 : Int)) (JsB .u8 0) (by decide) (by decide) (by decide) (by decide)) fun y2 h2 => .bind (J2P 256 c hc) fun y3 h3 => ?_
  have hl : J8 y2 = 256 := h2.2
  refine J6e (τ := Int × List Int) (fun q => (cvI .u8 y3.1, q.1, y3.2, q.2)) (fun q => 0 ≤ q.1 ∧ q.1 ≤ 256 ∧ J8 q.2 = 256) (fun q => 256 - q.1) ?_ (0, y2) rfl ⟨Int.le_refl _, by show (0 : Int) ≤ 256; decide, hl⟩
  rintro ⟨i, l⟩ ⟨g1, g2, g3⟩
  dsimp only at g1 g2 g3
  unfold J6p
  dsimp only
  have hll : l.length = 256 := by unfold J8 at g3; omega
  refine .lt (fun c1 => .bind (JpY (by omega) (by omega)) fun _ _ => .bind (P := fun _ => True) ⟨l[i.toNat]'(by omega), List.getElem?_eq_getElem (by omega), trivial⟩ fun _ _ => .some ⟨(Ji .i64 i 1, J6B l i.toNat (cvI .u8 y3.1)), rfl, ?_, ?_⟩) fun c1 => .inr ?_
  · have := J7g i 1
    refine ⟨?_, ?_, ?_⟩
    · show 0 ≤ Ji .i64 i 1; omega
    · show Ji .i64 i 1 ≤ 256; omega
    · show J8 (J6B l i.toNat _) = 256; rw [JjP]; exact g3
  · have := J7g i 1
    show 256 - Ji .i64 i 1 < 256 - i ∧ 0 ≤ 256 - i
    omega
  · refine .bind (J2P 256 y3.2 (hc.to h3.1)) fun y7 h7 => .bind (J2P 256 y7.2 ((hc.to h3.1).to h7.1)) fun y8 h8 => ?_
    have k7 := h7.2.2.1
    have k8 := h7.2.2.2 (by decide)
    refine .bind (JpY (by omega) (by omega)) fun _ _ => .bind (P := fun _ => True) ⟨l[y7.1.toNat]'(by omega), List.getElem?_eq_getElem (by omega), trivial⟩ fun _ _ => .some ⟨(h3.1.trans h7.1).trans h8.1, ?_⟩
    show (toStr (J6B l y7.1.toNat _)).length = 256
    have e1 : J8 (toStr (J6B l y7.1.toNat (cvI .u8 y8.1))) = 256 := by rw [JnL, JjP]; exact g3
    unfold J8 at e1
    omega
end Go.Am
end
section
namespace Go.Am
set_option maxRecDepth 20000
set_option linter.unusedVariables false
set_option linter.unusedSimpArgs false
theorem J3j {σ ρ : Type} {L : σ → Option (σ ⊕ ρ)} {Q : ρ → Prop} (e : Int → σ) (n : Int) (I : Int → Prop) (hn : 0 ≤ n) (h0 : I 0)
    (h : ∀ i, 0 ≤ i → i ≤ n → I i → Tot (L (e i)) fun r => match r with | .inl z => z = e (i + 1) ∧ I (i + 1) ∧ i < n | .inr y => Q y) : Tot (JL L (e 0)) Q := by
  refine J6e (τ := Int) e (fun i => 0 ≤ i ∧ i ≤ n ∧ I i) (fun i => n - i) ?_ 0 rfl ⟨Int.le_refl _, hn, h0⟩
  rintro i ⟨g1, g2, g3⟩
  refine (h i g1 g2 g3).mono fun r hr => ?_
  cases r with
  | inl z => exact ⟨i + 1, hr.1, ⟨by omega, by have := hr.2.2; omega, hr.2.1⟩, by omega, by omega⟩
  | inr y => exact hr
theorem J3A {i : Int} (h0 : 0 ≤ i) (h1 : i < 4611686018427387904) : Ji .i64 i 1 = i + 1 := by have := J7g i 1; omega
theorem Jrz {i : Int} (h0 : 0 ≤ i) (h1 : i < 4611686018427387904) : Ja4 .i64 i 1 = i - 1 := by have := JlN i 1; omega
def J4z (f : FT) : FT × Bool :=
  if f.1 = 1 then ((f.1, f.2.1, 0, 0, 0, 0), true) else if f.1 = 6 then ((f.1, f.2.1, 0, 0, 0, 0), true)
  else if f.1 = 2 then ((f.1, f.2.1, 0, f.2.2.2.1, 0, 0), true) else if f.1 = 3 then ((f.1, f.2.1, 0, 0, f.2.2.2.2.1, 0), true)
  else if f.1 = 4 then ((f.1, f.2.1, f.2.2.1, 0, f.2.2.2.2.1, f.2.2.2.2.2), true) else if f.1 = 5 then ((f.1, f.2.1, f.2.2.1, 0, 0, 0), true)
  else ((f.1, f.2.1, 0, 0, 0, 0), false)
structure J2H (n w : Int) (f : FT) : Prop where
  kind : (J4z f).2 = true
  used : (J4z f).1 = f
  after : w < f.2.1
  most : f.2.1 ≤ 1099511627776
  p0 : 0 ≤ f.2.2.1
  p1 : f.2.2.1 < n
  t0 : 0 ≤ f.2.2.2.1
  t1 : f.2.2.2.1 < n
  b0 : 0 ≤ f.2.2.2.2.1
  b1 : f.2.2.2.2.1 < 256
  mask : f.1 = 4 → ¬f.2.2.2.2.2 = 0
structure VD (x : DT) : Prop where
  p1 : 1 ≤ J8 x.1
  p64 : J8 x.1 ≤ 64
  w0 : 0 ≤ x.2.1
  w1 : x.2.1 ≤ 1099511627776
  f64 : J8 x.2.2.2.2 ≤ 64
  page : ∀ s ∈ x.1, J8 s = 256
  rng : ∀ p ∈ x.2.2.1, 0 ≤ p ∧ p < J8 x.1
  adj : ∀ (i : Nat) a b, x.2.2.1[i]? = some a → x.2.2.1[i + 1]? = some b → a < b
  flt : ∀ f ∈ x.2.2.2.2, J2H (J8 x.1) x.2.1 f
theorem JnV (f : FT) : J1V f = some (J4z f) := by
  unfold J1V J4z
  simp only [eqI, decide_eq_true_eq]
  repeat' split
  all_goals rfl
theorem Jlo (x : DT) (f : FT) : Tot (J0G (x, f)) fun y => (y = true ↔ J2H (J8 x.1) x.2.1 f) := by
  unfold J0G J0d
  dsimp only
  rw [JnV]
  refine .bind (Jv rfl) fun y2 e => ?_
  subst e
  have no : ∀ {p : Prop}, ¬p → (false = true ↔ p) := fun h => ⟨nofun, fun k => absurd k h⟩
  refine .ite (fun k => .by J71 (fun c1 => .gt (fun c2 => .le (fun c3 => ?_) fun c => .some (no fun h => c h.most)) fun c => .some (no fun h => c h.after)) fun c => .some (no fun h => c h.used)) fun k => .some (no fun h => by rw [h.kind] at k; cases k)
  refine .bind (P := fun y => (y = true ↔ 0 ≤ f.2.2.1 ∧ f.2.2.1 < J8 x.1)) (.ge (fun c => .some (J6c.trans ⟨fun h => ⟨c, h⟩, fun h => h.2⟩)) fun c => .some (no fun h => c h.1)) fun y3 h3 => ?_
  refine .by h3 (fun c4 => ?_) fun c => .some (no fun h => c ⟨h.p0, h.p1⟩)
  refine .bind (P := fun y => (y = true ↔ 0 ≤ f.2.2.2.1 ∧ f.2.2.2.1 < J8 x.1)) (.ge (fun c => .some (J6c.trans ⟨fun h => ⟨c, h⟩, fun h => h.2⟩)) fun c => .some (no fun h => c h.1)) fun y4 h4 => ?_
  refine .by h4 (fun c5 => ?_) fun c => .some (no fun h => c ⟨h.t0, h.t1⟩)
  refine .ge (fun c6 => .lt (fun c7 => .nef (fun c8 => .some (J9X.trans ⟨fun h => ?_, fun h => h.mask c8⟩)) fun c8 => .some ⟨fun _ => ?_, fun _ => rfl⟩) fun c => .some (no fun h => c h.b1)) fun c => .some (no fun h => c h.b0)
  · exact ⟨k, c1, c2, c3, c4.1, c4.2, c5.1, c5.2, c6, c7, fun _ => h⟩
  · exact ⟨k, c1, c2, c3, c4.1, c4.2, c5.1, c5.2, c6, c7, fun h => absurd h c8⟩
theorem Jlt (x : DT) (f : FT) : Tot (J2m (x, f)) fun y => (y = true ↔ J2H (J8 x.1) x.2.1 f) := by
  unfold J2m
  dsimp only
  have no : ∀ {p : Prop}, ¬p → (false = true ↔ p) := fun h => ⟨nofun, fun k => absurd k h⟩
  refine .lef (fun c1 => .gtf (fun c2 => .ltf (fun c3 => .gef (fun c4 => .ltf (fun c5 => .gef (fun c6 => .ltf (fun c7 => .ge (fun c => .some (no fun h => by have := h.b1; omega)) fun c8 => ?_) ?_) ?_) ?_) ?_) ?_) ?_) ?_
  · have mk : ∀ u : FT × Bool, J4z f = u → u.2 = true → (f.1 = 4 → ¬f.2.2.2.2.2 = 0) → ∀ y, (y = true ↔ f = u.1) → (y = true ↔ J2H (J8 x.1) x.2.1 f) := by
      rintro u rfl hu hm y hy
      exact hy.trans ⟨fun h => ⟨hu, h.symm, by omega, by omega, by omega, by omega, by omega, by omega, by omega, by omega, hm⟩, fun h => h.used.symm⟩
    refine .eq (fun d1 => .some (mk (_, true) (by simp [J4z, d1]) rfl (fun h => by omega) _ J71)) fun d1 => .eq (fun d2 => .some (mk (_, true) (by simp [J4z, d2]) rfl (fun h => by omega) _ J71)) fun d2 =>
      .eq (fun d3 => .some (mk (_, true) (by simp [J4z, d3]) rfl (fun h => by omega) _ J71)) fun d3 => .eq (fun d4 => .some (mk (_, true) (by simp [J4z, d4]) rfl (fun h => by omega) _ J71)) fun d4 =>
      .eq (fun d5 => .eq (fun d => .some (no fun h => h.mask d5 d)) fun d => .some (mk (_, true) (by simp [J4z, d5]) rfl (fun _ => d) _ J71)) fun d5 => .eq (fun d6 => .some (mk (_, true) (by simp [J4z, d6]) rfl (fun h => by omega) _ J71)) fun d6 => .some (no fun h => ?_)
    have := h.kind
    simp [J4z, d1, d2, d3, d4, d5, d6] at this
  all_goals intro c; exact .some (no fun h => by have := h.1; have := h.after; have := h.most; have := h.p0; have := h.p1; have := h.t0; have := h.t1; have := h.b0; omega)
theorem Jpk {α : Type} (l : List α) : (J8 l).toNat = l.length := by unfold J8; omega
theorem Jnp (l : List (List UInt8)) (hl : J8 l ≤ 1000000) : Tot (JN l) fun y => (y = true ↔ ¬∀ s ∈ l, J8 s = 256) := by
  unfold JN J07
  refine .bind (P := fun y => (0 ≤ y ↔ ¬∀ s ∈ l, J8 s = 256)) ?_ fun y h => .some (J6V.trans h)
  refine J3j (fun i => (l, J8 l, i)) (J8 l) (fun i => J9a (fun s => J8 s = 256) l i) J4l J8z fun i g1 g2 g3 => ?_
  unfold J2c J1Z
  dsimp only
  refine .lt (fun c => .bind (J3Q g1 c).eqn fun a ha => .bind (Jv rfl) fun y e => ?_) fun c => .some ⟨fun h => absurd h (show ¬(0:Int) ≤ -1 by decide), fun h => absurd (J6Z g3 c) h⟩
  subst e
  refine .ne (fun d => .some ⟨fun _ h => d (h a ha.1.2), fun _ => g1⟩) fun d => .some ⟨by rw [J3A g1 (by omega)], J67 g3 ha.2 d rfl, c⟩
theorem JpB (x : DT) (l : List FT) (hl : J8 l ≤ 1000000) : Tot (JB (l, x)) fun y => (y.1 = true ↔ ¬∀ f ∈ l, J2H (J8 x.1) x.2.1 f) := by
  unfold JB JS
  dsimp only
  refine .bind (P := fun y => (0 ≤ y.1 ↔ ¬∀ f ∈ l, J2H (J8 x.1) x.2.1 f)) ?_ fun y h => .some (J6V.trans h)
  refine J3j (fun i => (l, J8 l, i, x)) (J8 l) (fun i => J9a (J2H (J8 x.1) x.2.1) l i) J4l J8z fun i g1 g2 g3 => ?_
  unfold J1H J20
  dsimp only
  refine .lt (fun c => .bind (J3Q g1 c).eqn fun a ha => .bind (P := fun z => (z.1 = true ↔ ¬J2H (J8 x.1) x.2.1 a) ∧ z.2 = x) (.bind (Jlo x a) fun y hy => .some ⟨by unfold J1b; rw [← hy]; cases y <;> simp, rfl⟩) fun y e => ?_)
    fun c => .some ⟨fun h => absurd h (show ¬(0:Int) ≤ -1 by decide), fun h => absurd (J6Z g3 c) h⟩
  refine .by e.1 (fun d => .some ⟨fun _ h => d (h a ha.1.2), fun _ => g1⟩) fun d => .some ⟨by rw [J3A g1 (by omega), e.2], J67 g3 ha.2 (Classical.not_not.1 (fun h => d h)) rfl, c⟩
structure Asc (n : Int) (l : List Int) (i : Int) : Prop where
  rng : J9a (fun p => 0 ≤ p ∧ p < n) l i
  adj : ∀ (j : Nat) a b, ((j : Int) + 1 < i) → l[j]? = some a → l[j + 1]? = some b → a < b
theorem Asc.next {n : Int} {l : List Int} {i b : Int} (h : Asc n l i) (e : idx l i = some b) (hb : 0 ≤ b ∧ b < n) (hp : 0 < i → ∀ a, l[(i - 1).toNat]? = some a → a < b) : Asc n l (i + 1) := by
  obtain ⟨e0, e1⟩ := JmP e
  refine ⟨J67 h.rng e hb rfl, fun j a b' hj ha hb' => ?_⟩
  by_cases hji : (j : Int) + 1 < i
  · exact h.adj j a b' hji ha hb'
  · have e2 : j + 1 = i.toNat := by omega
    rw [e2, e1] at hb'
    injection hb' with hb'; subst hb'
    refine hp (by omega) a ?_
    rw [show (i - 1).toNat = j by omega]; exact ha
theorem Asc.all {n : Int} {l : List Int} {i : Int} (h : Asc n l i) (hi : ¬i < J8 l) : (∀ p ∈ l, 0 ≤ p ∧ p < n) ∧ ∀ (j : Nat) a b, l[j]? = some a → l[j + 1]? = some b → a < b :=
  ⟨J6Z h.rng hi, fun j a b ha hb => h.adj j a b (by have := (List.getElem?_eq_some_iff.1 hb).1; unfold J8 at hi; omega) ha hb⟩
theorem Jc8 (x : DT) (hu : J8 x.2.2.1 ≤ 1000000000000) : Tot (J0A x) fun y => (y = true ↔ VD x) := by
  unfold J0A
  have no : ∀ {p : Prop}, ¬p → (false = true ↔ p) := fun h => ⟨nofun, fun k => absurd k h⟩
  refine .ltf (fun c1 => .gtf (fun c2 => .ltf (fun c3 => .gtf (fun c4 => .gt (fun c => .some (no fun h => by have := h.f64; omega)) fun c5 => ?_) fun c => .some (no fun h => by have := h.w1; omega)) fun c => .some (no fun h => by have := h.w0; omega)) fun c => .some (no fun h => by have := h.p64; omega)) fun c => .some (no fun h => by have := h.p1; omega)
  refine J3j (fun i => (x.2.2.1, J8 x.2.2.1, i, x)) (J8 x.2.2.1) (fun i => Asc (J8 x.1) x.2.2.1 i) J4l ⟨J8z, fun j a b h => by omega⟩ fun i g1 g2 g3 => ?_
  unfold J8E J0d
  dsimp only
  refine .lt (fun c => .bind (J3Q g1 c).eqn fun b hb => ?_) fun c => .inr ?_
  · refine .bind (P := fun y => (y = true ↔ 0 ≤ b ∧ b < J8 x.1)) (.ge (fun c => .some (J6c.trans ⟨fun h => ⟨c, h⟩, fun h => h.2⟩)) fun c => .some (no fun h => c h.1)) fun y4 h4 => ?_
    refine .nof (fun k => ?_) fun k => .some (no fun h => by rw [h4.2 (h.rng b hb.1.2)] at k; cases k)
    refine .gt (fun d => ?_) fun d => .some ⟨by rw [J3A g1 (by omega)], g3.next hb.2 (h4.1 k) (fun h => absurd h d), c⟩
    rw [Jrz g1 (by omega)]
    refine .bind (J3Q (show 0 ≤ i - 1 by omega) (by omega)) fun a ha => .ge (fun d2 => .some (no fun h => ?_)) fun d2 => .some ⟨by rw [J3A g1 (by omega)], g3.next hb.2 (h4.1 k) (fun _ a' ha' => by rw [ha.1] at ha'; injection ha' with ha'; omega), c⟩
    have := h.adj (i - 1).toNat a b ha.1 (by rw [show (i - 1).toNat + 1 = i.toNat by omega]; exact hb.1.1)
    omega
  · obtain ⟨r1, r2⟩ := g3.all c
    refine .bind (Jnp x.1 (by omega)) fun y6 h6 => .not (fun k => ?_) fun k => .some (no fun h => h6.1 k h.page)
    have hpg : ∀ s ∈ x.1, J8 s = 256 := Classical.not_not.1 fun h => by rw [h6.2 h] at k; cases k
    refine .bind (JpB x x.2.2.2.2 (by omega)) fun y7 h7 => .some ?_
    unfold J1b
    constructor
    · intro h
      refine ⟨by omega, by omega, by omega, by omega, by omega, hpg, r1, r2, Classical.not_not.1 fun h' => ?_⟩
      rw [h7.2 h'] at h; cases h
    · intro h
      cases hy : y7.1 with
      | false => rfl
      | true => exact absurd h.flt (h7.1 hy)
theorem JmE (x : DT) (hu : J8 x.2.2.1 ≤ 1000000000000) : Tot (J2o x) fun y => (y = true ↔ VD x) := by
  unfold J2o
  have no : ∀ {p : Prop}, ¬p → (false = true ↔ p) := fun h => ⟨nofun, fun k => absurd k h⟩
  refine .ltf (fun c1 => .gtf (fun c2 => .ltf (fun c3 => .gtf (fun c4 => .gt (fun c => .some (no fun h => by have := h.f64; omega)) fun c5 => ?_) fun c => .some (no fun h => by have := h.w1; omega)) fun c => .some (no fun h => by have := h.w0; omega)) fun c => .some (no fun h => by have := h.p64; omega)) fun c => .some (no fun h => by have := h.p1; omega)
  refine J3j (fun i => (J8 x.1, i, x)) (J8 x.1) (fun i => J9a (fun s => J8 s = 256) x.1 i) J4l J8z fun i g1 g2 g3 => ?_
  unfold J91
  dsimp only
  refine .lt (fun c => .bind (J3Q g1 c).eqn fun a ha => .ne (fun d => .some (no fun h => d (h.page a ha.1.2))) fun d => .some ⟨by rw [J3A g1 (by omega)], J67 g3 ha.2 d rfl, c⟩) fun c => .inr ?_
  have hpg := J6Z g3 c
  refine J3j (fun i => (J8 x.1, i, x)) (J8 x.2.2.1) (fun i => Asc (J8 x.1) x.2.2.1 i) J4l ⟨J8z, fun j a b h => by omega⟩ fun i g1 g2 g3 => ?_
  unfold J8Y
  dsimp only
  refine .lt (fun c => .bind (J3Q g1 c).eqn fun b hb => ?_) fun c => .inr ?_
  · refine .ltf (fun d1 => .bind (Jv hb.2) fun b' e => ?_) fun d1 => .some (no fun h => by have := h.rng b hb.1.2; omega)
    subst e
    refine .gef (fun d2 => .gt (fun d => ?_) fun d => .some ⟨by rw [J3A g1 (by omega)], g3.next hb.2 ⟨by omega, by omega⟩ (fun h => absurd h d), c⟩) fun d2 => .some (no fun h => by have := h.rng _ hb.1.2; omega)
    rw [Jrz g1 (by omega)]
    refine .bind (J3Q (show 0 ≤ i - 1 by omega) (by omega)) fun a ha => .bind (Jv hb.2) fun b' e => ?_
    subst e
    refine .ge (fun d2 => .some (no fun h => ?_)) fun d2 => .some ⟨by rw [J3A g1 (by omega)], g3.next hb.2 ⟨by omega, by omega⟩ (fun _ a' ha' => by rw [ha.1] at ha'; injection ha' with ha'; omega), c⟩
    have := h.adj (i - 1).toNat a _ ha.1 (by rw [show (i - 1).toNat + 1 = i.toNat by omega]; exact hb.1.1)
    omega
  · obtain ⟨r1, r2⟩ := g3.all c
    refine J3j (fun i => (i, x)) (J8 x.2.2.2.2) (fun i => J9a (J2H (J8 x.1) x.2.1) x.2.2.2.2 i) J4l J8z fun i g1 g2 g3 => ?_
    unfold J8I
    dsimp only
    refine .lt (fun c => .bind (J3Q g1 c).eqn fun a ha => .bind (Jlt x a) fun y hy => .not (fun k => .some (no fun h => by rw [hy.2 (h.flt a ha.1.2)] at k; cases k)) fun k => .some ⟨by rw [J3A g1 (by omega)], J67 g3 ha.2 (hy.1 k) rfl, c⟩)
      fun c => .some ⟨fun _ => ⟨by omega, by omega, by omega, by omega, by omega, hpg, r1, r2, J6Z g3 c⟩, fun _ => rfl⟩
end Go.Am
end
section
namespace Go.Am
set_option maxRecDepth 20000
set_option linter.unusedVariables false
set_option linter.unusedSimpArgs false
noncomputable section
open Classical
def J5y : DT := ([], 0, [], false, [])
def JK : List UInt8 := List.replicate 256 0
def usD (x : DT) (p : Int) : Int := if VD x then if x.2.2.2.1 = true then 10 else if 0 ≤ p ∧ p < J8 x.1 then 0 else 1 else 15
theorem Joh {x : DT} {p : Int} (hv : VD x) (hd : x.2.2.2.1 = false) : usD x p = if 0 ≤ p ∧ p < J8 x.1 then 0 else 1 := by
  unfold usD
  rw [if_pos hv, if_neg (by rw [hd]; decide)]
theorem Jam {x : DT} {p : Int} (hv : VD x) (hd : x.2.2.2.1 = true) : usD x p = 10 := by
  unfold usD
  rw [if_pos hv, if_pos hd]
theorem Jrf {x : DT} {p : Int} (hv : ¬VD x) : usD x p = 15 := by
  unfold usD
  rw [if_neg hv]
theorem Jjk (x : DT) (p : Int) (hu : J8 x.2.2.1 ≤ 1000000000000) : J0n (x, p) = some (usD x p) := by
  refine J4O ?_
  unfold J0n J0d
  dsimp only
  refine .bind (Jc8 x hu) fun y hy => .not (fun k => .some ?_) fun k => ?_
  · rw [Jrf fun h => by rw [hy.2 h] at k; cases k]
  · refine .ite (fun d => .some (by rw [Jam (hy.1 k) d])) fun d => ?_
    rw [Joh (hy.1 k) d]
    refine .bind (P := fun y => (y = true ↔ 0 ≤ p ∧ p < J8 x.1)) (.ge (fun c => .some (J6c.trans ⟨fun h => ⟨c, h⟩, fun h => h.2⟩)) fun c => .some ⟨nofun, fun h => absurd h.1 c⟩) fun y3 h3 => ?_
    refine .not (fun k => .some ?_) fun k => .some ?_
    · rw [if_neg fun h => by rw [h3.2 h] at k; cases k]
    · rw [if_pos (h3.1 k)]
def J9m (n : Int) : DT × Int := if 1 ≤ n ∧ n ≤ 64 then ((List.replicate n.toNat JK, 0, [], false, []), 0) else (J5y, 1)
theorem JmT : J2Q ([0], 256) = some JK := by decide +kernel
theorem Jh0 (n : Int) (h0 : 1 ≤ n) (h1 : n ≤ 64) : J1j n = some (List.replicate n.toNat JK) := by
  unfold J1j
  rw [JmT]
  show Option.bind (Jgh ([JK], n)) _ = _
  unfold Jgh
  dsimp only
  rw [if_pos ⟨h0, by omega⟩]
  rfl
theorem Jca (n : Int) : JP n = some (J9m n) := by
  refine J4O ?_
  unfold JP J9m
  refine .ltf (fun c => .gt (fun d => .some (by rw [if_neg (by omega)]; rfl)) fun d => ?_) fun c => .some (by rw [if_neg (by omega)]; rfl)
  rw [if_pos ⟨by omega, by omega⟩]
  exact .bind (Jv (Jh0 n (by omega) (by omega))) fun y e => .some (by rw [e])
theorem Jju : (mkS 1 256 256 0 : Option (List Int)) = some (List.replicate 256 0) := rfl
theorem Jgy : toStr (List.replicate 256 0) = JK := by decide +kernel
theorem Jnc : JK.length = 256 := List.length_replicate
theorem J8k (n : Nat) (w : Int) (h1 : 1 ≤ n) (h2 : n ≤ 64) (hw : 0 ≤ w) (hw1 : w ≤ 1099511627776) : VD (List.replicate n JK, w, [], false, []) where
  p1 := by show 1 ≤ J8 _; unfold J8; rw [List.length_replicate]; omega
  p64 := by show J8 _ ≤ 64; unfold J8; rw [List.length_replicate]; omega
  w0 := hw
  w1 := hw1
  f64 := by show J8 ([] : List FT) ≤ 64; decide
  page := fun s hs => by rw [List.eq_of_mem_replicate hs]; unfold J8; rw [Jnc]; rfl
  rng := fun p hp => by cases hp
  adj := fun i a b h => by simp at h
  flt := fun f hf => by cases hf
def Jm4 (x : DT) (f : FT) : DT × Int := if VD x then if J2H (J8 x.1) x.2.1 f then if J8 x.2.2.2.2 = 64 then (J5y, 21) else ((x.1, x.2.1, x.2.2.1, x.2.2.2.1, x.2.2.2.2 ++ [f]), 0) else (J5y, 1) else (J5y, 15)
theorem JnP (l : List FT) (h : J8 l ≤ 100) : cloS 48 l = some l := by
  unfold cloS
  have : J4b l.length 48 = true := by unfold J4b; unfold J8 at h; simp only [decide_eq_true_eq]; omega
  rw [if_pos this]
theorem Jqw (l m : List FT) (h : J8 l ≤ 100) (h2 : J8 m ≤ 100) : Jgv 48 l m = some (l ++ m) := by
  unfold Jgv
  have : J4b (l.length + m.length) 48 = true := by unfold J4b; unfold J8 at h h2; simp only [decide_eq_true_eq]; omega
  rw [if_pos this]
theorem Jc2 (x : DT) (f : FT) (hu : J8 x.2.2.1 ≤ 1000000000000) : JD (x, f) = some (Jm4 x f) := by
  refine J4O ?_
  unfold JD Jm4
  dsimp only
  refine .bind (Jc8 x hu) fun y hy => .not (fun k => .some ?_) fun k => ?_
  · rw [if_neg fun h => by rw [hy.2 h] at k; cases k]; rfl
  have hv := hy.1 k
  rw [if_pos hv]
  refine .bind (Jlo x f) fun y hy => .not (fun k => .some ?_) fun k => ?_
  · rw [if_neg fun h => by rw [hy.2 h] at k; cases k]; rfl
  rw [if_pos (hy.1 k)]
  refine .eq (fun c => .some (by rw [if_pos c]; rfl)) fun c => ?_
  rw [if_neg c]
  have := hv.f64
  refine .bind (Jv (JnP _ (by omega))) fun y e => ?_
  subst e
  exact .bind (Jv (Jqw _ _ (by omega) (show (1 : Int) ≤ 100 by decide))) fun y e => .some (by rw [e])
def J7C (x : DT) (p : Int) : List UInt8 × Int := if usD x p = 0 then if p ∈ x.2.2.1 then ([], 11) else (x.1.getD p.toNat [], 0) else ([], usD x p)
theorem Jgc {x : DT} {p : Int} (h : usD x p = 0) : VD x ∧ x.2.2.2.1 = false ∧ 0 ≤ p ∧ p < J8 x.1 := by
  unfold usD at h
  split at h
  · rename_i hv
    split at h
    · cases h
    · rename_i hd
      split at h
      · rename_i hp; exact ⟨hv, by cases hx : x.2.2.2.1 <;> simp_all, hp.1, hp.2⟩
      · cases h
  · cases h
theorem JcK {x : DT} {p : Int} (hv : VD x) (hd : x.2.2.2.1 = false) (h0 : 0 ≤ p) (h1 : p < J8 x.1) : usD x p = 0 := by
  unfold usD
  rw [if_pos hv, if_neg (by rw [hd]; decide), if_pos ⟨h0, h1⟩]
theorem Jr2 (l : List Int) (p : Int) (hl : J8 l ≤ 1000000000000) : Tot (J0v (l, p)) fun y => (y = true ↔ p ∈ l) := by
  unfold J0v J1h
  refine .bind (P := fun y => (0 ≤ y ↔ p ∈ l)) ?_ fun y h => .some (J6V.trans h)
  refine J3j (fun i => (l, p, J8 l, i)) (J8 l) (fun i => J9a (fun a => ¬p = a) l i) J4l J8z fun i g1 g2 g3 => ?_
  unfold J4M
  dsimp only
  refine .lt (fun c => .bind (J3Q g1 c).eqn fun a ha => .eq (fun d => .some ⟨fun _ => d ▸ ha.1.2, fun _ => g1⟩) fun d => .some ⟨by rw [J3A g1 (by omega)], J67 g3 ha.2 d rfl, c⟩)
    fun c => .some ⟨fun h => absurd h (show ¬(0 : Int) ≤ -1 by decide), fun h => absurd rfl (J6Z g3 c p h)⟩
theorem JfK {α : Type} {l : List α} {i : Nat} {a d : α} (h : l[i]? = some a) : l.getD i d = a := by rw [List.getD_eq_getElem?_getD, h]; rfl
theorem J9t (x : DT) (p : Int) (hu : J8 x.2.2.1 ≤ 1000000000000) : Jd (x, p) = some (J7C x p) := by
  refine J4O ?_
  unfold Jd J7C
  dsimp only
  refine .bind (Jv (Jjk x p hu)) fun y e => ?_
  subst e
  refine .ne (fun c => .some (by rw [if_neg c])) fun c => ?_
  rw [if_pos c]
  obtain ⟨hv, _, h0, h1⟩ := Jgc c
  refine .bind (Jr2 _ p hu) fun y hy => .ite (fun k => .some (by rw [if_pos (hy.1 k)])) fun k => ?_
  rw [if_neg fun h => by rw [hy.2 h] at k; cases k]
  exact .bind (J3Q h0 h1) fun a ha => .some (by rw [JfK ha.1])
end
end Go.Am
end
section
namespace Go.Am
set_option maxRecDepth 20000
set_option linter.unusedVariables false
set_option linter.unusedSimpArgs false
noncomputable section
open Classical
theorem Jeu : ∀ (l : List Int), (∀ (i : Nat) a b, l[i]? = some a → l[i + 1]? = some b → a < b) → l.Pairwise (· < ·)
  | [], _ => .nil
  | [a], _ => List.pairwise_singleton _ _
  | a :: b :: l, h => by
    have ih := Jeu (b :: l) fun i x y hx hy => h (i + 1) x y (by simpa using hx) (by simpa using hy)
    have hab : a < b := h 0 a b rfl rfl
    refine List.pairwise_cons.2 ⟨fun c hc => ?_, ih⟩
    rcases List.mem_cons.1 hc with rfl | hc
    · exact hab
    · exact Int.lt_trans hab ((List.pairwise_cons.1 ih).1 c hc)
theorem JeC {l : List Int} (h : l.Pairwise (· < ·)) (i : Nat) (a b : Int) (ha : l[i]? = some a) (hb : l[i + 1]? = some b) : a < b := by
  obtain ⟨h1, rfl⟩ := List.getElem?_eq_some_iff.1 ha
  obtain ⟨h2, rfl⟩ := List.getElem?_eq_some_iff.1 hb
  exact List.pairwise_iff_getElem.1 h i (i + 1) h1 h2 (Nat.lt_succ_self _)
theorem JkR (p : Int) : ∀ {l : List Int}, l.Pairwise (· < ·) → l.take (l.countP (· < p)) = l.filter (· < p) ∧ l.drop (l.countP (· < p)) = l.filter (fun a => !(decide (a < p)))
  | [], _ => ⟨rfl, rfl⟩
  | a :: l, h => by
    obtain ⟨h1, h2⟩ := List.pairwise_cons.1 h
    obtain ⟨i1, i2⟩ := JkR p h2
    by_cases ha : a < p
    · simp only [List.countP_cons, ha, decide_true, if_true, List.take_succ_cons, List.drop_succ_cons, List.filter_cons, Bool.not_true, Bool.false_eq_true, if_false]
      exact ⟨by rw [i1], by rw [i2]⟩
    · have hn : ∀ b ∈ a :: l, ¬b < p := fun b hb => by
        rcases List.mem_cons.1 hb with rfl | hb
        · exact ha
        · have := h1 b hb; omega
      have h0 : (a :: l).countP (fun b => decide (b < p)) = 0 := List.countP_eq_zero.2 fun b hb => by simpa using hn b hb
      rw [h0]
      refine ⟨?_, ?_⟩
      · rw [List.take_zero]; exact (List.filter_eq_nil_iff.2 fun b hb => by simpa using hn b hb).symm
      · rw [List.drop_zero]; exact (List.filter_eq_self.2 fun b hb => by simpa using hn b hb).symm
def J9g (l : List Int) (p : Int) : List Int := l.filter (· < p) ++ p :: l.filter (p < ·)
theorem Jqv {l : List Int} {p : Int} (h : l.Pairwise (· < ·)) (hp : p ∉ l) : l.take (l.countP (· < p)) ++ p :: l.drop (l.countP (· < p)) = J9g l p := by
  obtain ⟨h1, h2⟩ := JkR p h
  rw [h1, h2]
  unfold J9g
  congr 2
  refine List.filter_congr fun b hb => ?_
  have : b ≠ p := fun e => hp (e ▸ hb)
  by_cases hb' : b < p
  · simp only [hb', decide_true, Bool.not_true]; exact (decide_eq_false (by omega)).symm
  · simp only [hb', decide_false, Bool.not_false]; exact (decide_eq_true (by omega)).symm
theorem JqY {l : List Int} {p : Int} (h : l.Pairwise (· < ·)) : (J9g l p).Pairwise (· < ·) := by
  unfold J9g
  refine List.pairwise_append.2 ⟨h.filter _, List.pairwise_cons.2 ⟨fun b hb => by simpa using (List.mem_filter.1 hb).2, h.filter _⟩, fun a ha b hb => ?_⟩
  have h1 : a < p := by simpa using (List.mem_filter.1 ha).2
  rcases List.mem_cons.1 hb with rfl | hb
  · exact h1
  · have h2 : p < b := by simpa using (List.mem_filter.1 hb).2
    omega
theorem JkP : ∀ {l : List Int} {p : Int}, l.Pairwise (· < ·) → p ∈ l → J9g l p = l
  | [], _, _, h => by cases h
  | a :: l, p, h, hp => by
    obtain ⟨h1, h2⟩ := List.pairwise_cons.1 h
    unfold J9g
    by_cases e : p = a
    · subst e
      have e1 : (p :: l).filter (· < p) = [] := List.filter_eq_nil_iff.2 fun b hb => by
        rcases List.mem_cons.1 hb with rfl | hb
        · simp
        · have := h1 b hb; simp; omega
      have e2 : (p :: l).filter (p < ·) = l := by
        rw [List.filter_cons, if_neg (by simp)]
        exact List.filter_eq_self.2 fun b hb => by simpa using h1 b hb
      rw [e1, e2]; rfl
    · have hp' : p ∈ l := (List.mem_cons.1 hp).resolve_left e
      have hap : a < p := h1 p hp'
      rw [List.filter_cons, if_pos (by simpa using hap), List.filter_cons, if_neg (by simp; omega)]
      have := JkP h2 hp'
      unfold J9g at this
      rw [List.cons_append, this]
theorem JkU {l : List Int} {p a : Int} (h : a ∈ J9g l p) : a = p ∨ a ∈ l := by
  unfold J9g at h
  rcases List.mem_append.1 h with h | h
  · exact .inr (List.mem_filter.1 h).1
  · rcases List.mem_cons.1 h with h | h
    · exact .inl h
    · exact .inr (List.mem_filter.1 h).1
structure VP (n : Int) (y : DT) : Prop where
  len : J8 y.1 = n
  page : ∀ s ∈ y.1, s.length = 256
  rng : ∀ p ∈ y.2.2.1, 0 ≤ p ∧ p < n
  srt : y.2.2.1.Pairwise (· < ·)
theorem VD.vp {x : DT} (h : VD x) : VP (J8 x.1) x := ⟨rfl, fun s hs => by have := h.page s hs; unfold J8 at this; omega, h.rng, Jeu _ h.adj⟩
theorem JkV : ∀ (l : List Int) (n : Nat), l.Pairwise (· < ·) → (∀ p ∈ l, 0 ≤ p ∧ p < (n : Int)) → l.length ≤ n := by
  intro l n h hr
  have key : ∀ (l : List Int) (k : Int), l.Pairwise (· < ·) → (∀ p ∈ l, k ≤ p ∧ p < (n : Int)) → (l.length : Int) ≤ max 0 (n - k) := by
    intro l
    induction l with
    | nil => intro k _ _; simp; omega
    | cons a l ih =>
      intro k h hr
      obtain ⟨h1, h2⟩ := List.pairwise_cons.1 h
      have ha := hr a List.mem_cons_self
      have := ih (a + 1) h2 fun p hp => ⟨by have := h1 p hp; omega, (hr p (List.mem_cons_of_mem _ hp)).2⟩
      rw [List.length_cons]
      omega
  have := key l 0 h hr
  omega
theorem VD.unr {x : DT} (h : VD x) : J8 x.2.2.1 ≤ 64 := by
  have := JkV x.2.2.1 x.1.length h.vp.srt (fun p hp => h.rng p hp)
  have := h.p64
  unfold J8 at *; omega
theorem VP.unr {n : Int} {y : DT} (h : VP n y) (hn : n ≤ 64) : y.2.2.1.length ≤ 64 := by
  have hl := h.len
  have := JkV y.2.2.1 y.1.length h.srt (fun p hp => by have := h.rng p hp; unfold J8 at hl; omega)
  unfold J8 at hl; omega
theorem VP.set {n : Int} {y : DT} (h : VP n y) (t : Nat) {s : List UInt8} (hs : s.length = 256) : VP n (J2q y t s) where
  len := by show J8 (y.1.set t s) = n; unfold J8; rw [List.length_set]; exact h.len
  page := fun z hz => by
    rcases List.mem_or_eq_of_mem_set hz with hz | rfl
    · exact h.page z hz
    · exact hs
  rng := fun p hp => h.rng p (List.mem_filter.1 hp).1
  srt := h.srt.filter _
theorem JqT (l : List UInt8) (b : Nat) (m : Int) : (Jih l b m).length = l.length := by unfold Jih; simp
theorem VP.getD {n : Int} {y : DT} (h : VP n y) {p : Int} (h0 : 0 ≤ p) (h1 : p < n) : y.1[p.toNat]? = some (y.1.getD p.toNat []) ∧ (y.1.getD p.toNat []).length = 256 := by
  have hl : p.toNat < y.1.length := by have := h.len; unfold J8 at this; omega
  have e : y.1[p.toNat]? = some (y.1.getD p.toNat []) := by rw [List.getD_eq_getElem?_getD, List.getElem?_eq_getElem hl]; rfl
  exact ⟨e, h.page _ (List.mem_of_getElem? e)⟩
def J48 (x : DT) (f : FT) : DT :=
  if f.1 = 4 then (x.1.set f.2.2.1.toNat (Jih (x.1.getD f.2.2.1.toNat []) f.2.2.2.2.1.toNat f.2.2.2.2.2), x.2)
  else if f.1 = 5 then (x.1, x.2.1, J9g x.2.2.1 f.2.2.1, x.2.2.2)
  else if f.1 = 6 then (x.1, x.2.1, x.2.2.1, true, x.2.2.2.2)
  else x
theorem Jqu {n : Int} {y : DT} (h : VP n y) (f : FT) : J14 y f = J48 y f := by
  unfold J14 J48
  split
  · rfl
  · split
    · by_cases hc : f.2.2.1 ∈ y.2.2.1
      · rw [if_pos (List.contains_iff_mem.2 hc), JkP h.srt hc]
      · rw [if_neg (fun k => hc (List.contains_iff_mem.1 k)), Jqv h.srt hc]
    · rfl
theorem VP.harm {n w : Int} {y : DT} (h : VP n y) {f : FT} (hf : J2H n w f) : VP n (J48 y f) := by
  unfold J48
  split
  · refine ⟨?_, fun z hz => ?_, h.rng, h.srt⟩
    · show J8 (List.set _ _ _) = n; unfold J8; rw [List.length_set]; exact h.len
    · rcases List.mem_or_eq_of_mem_set hz with hz | rfl
      · exact h.page z hz
      · rw [JqT]; exact (h.getD hf.p0 hf.p1).2
  · split
    · exact ⟨h.len, h.page, fun p hp => (JkU hp).elim (fun e => e ▸ ⟨hf.p0, hf.p1⟩) (h.rng p), JqY h.srt⟩
    · split
      · exact ⟨h.len, h.page, h.rng, h.srt⟩
      · exact h
theorem Jmw (y : DT) (f : FT) : (J48 y f).2.1 = y.2.1 ∧ (J48 y f).2.2.2.2 = y.2.2.2.2 ∧ (J48 y f).1.length = y.1.length := by
  unfold J48
  split
  · exact ⟨rfl, rfl, List.length_set ..⟩
  · split
    · exact ⟨rfl, rfl, rfl⟩
    · split <;> exact ⟨rfl, rfl, rfl⟩
def Byt (l : List FT) : Prop := ∀ f ∈ l, 0 ≤ f.2.2.2.2.2 ∧ f.2.2.2.2.2 ≤ 255
theorem JrE {n w : Int} {y : DT} (h : VP n y) (hn : n ≤ 64) {f : FT} (hf : J2H n w f) (hm : 0 ≤ f.2.2.2.2.2 ∧ f.2.2.2.2.2 ≤ 255) : HOk y f where
  len := by have := h.len; unfold J8 at this; omega
  ulen := by have := h.unr hn; omega
  sorted := fun _ => h.srt.imp fun h => Int.le_of_lt h
  page := fun _ => ⟨hf.p0, by have := h.len; have := hf.p1; have := hf.p0; unfold J8 at *; omega⟩
  byte := fun _ => ⟨hf.b0, by rw [(h.getD hf.p0 hf.p1).2]; have := hf.b0; have := hf.b1; omega⟩
  mask := fun _ => hm
theorem JgV {n w : Int} (hn : n ≤ 64) : ∀ {l : List FT} {y : DT}, VP n y → (∀ f ∈ l, J2H n w f) → Byt l → l.foldlM J1g y = some (l.foldl J48 y) ∧ VP n (l.foldl J48 y) ∧ (l.foldl J48 y).2.1 = y.2.1 ∧ (l.foldl J48 y).2.2.2.2 = y.2.2.2.2
  | [], y, h, _, _ => ⟨rfl, h, rfl, rfl⟩
  | f :: l, y, h, hf, hb => by
    have h1 := h.harm (hf f List.mem_cons_self)
    have e : J1g y f = some (J48 y f) := by
      unfold J1g
      rw [if_pos (JrE h hn (hf f List.mem_cons_self) (hb f List.mem_cons_self)), Jqu h]
    obtain ⟨i1, i2, i3, i4⟩ := JgV hn h1 (fun g hg => hf g (List.mem_cons_of_mem _ hg)) (fun g hg => hb g (List.mem_cons_of_mem _ hg))
    obtain ⟨k1, k2, _⟩ := Jmw y f
    refine ⟨?_, i2, i3.trans k1, i4.trans k2⟩
    rw [List.foldlM_cons, e]
    exact i1
def J7q (e : Int × Int) (x : DT) (p : Int) (s : List UInt8) : DT :=
  if e.1 = 1 then x else if e.1 = 2 then J2q x e.2.toNat s else if e.1 = 3 then J2q x p.toNat (s.take e.2.toNat ++ (x.1.getD p.toNat []).drop e.2.toNat) else J2q x p.toNat s
def wM (x : DT) (p : Int) (s : List UInt8) : DT := (J2f x).foldl J48 (J7q (J2l (J2f x)) (J1X x) p s)
theorem JgY {P : FT → Prop} : ∀ {l : List FT}, (∀ f ∈ l, P f) → (J2l l = (0, 0) ∧ ∀ f ∈ l, f.1 ≠ 1 ∧ f.1 ≠ 2 ∧ f.1 ≠ 3) ∨ J2l l = (1, 0) ∨ (∃ f, P f ∧ J2l l = (2, f.2.2.2.1)) ∨ ∃ f, P f ∧ J2l l = (3, f.2.2.2.2.1)
  | [], _ => .inl ⟨rfl, fun f h => by cases h⟩
  | f :: l, h => by
    unfold J2l
    split
    · exact .inr (.inl rfl)
    · split
      · exact .inr (.inr (.inl ⟨f, h f List.mem_cons_self, rfl⟩))
      · split
        · exact .inr (.inr (.inr ⟨f, h f List.mem_cons_self, rfl⟩))
        · rename_i h1 h2 h3
          rcases JgY (fun g hg => h g (List.mem_cons_of_mem _ hg)) with ⟨e, hh⟩ | e
          · exact .inl ⟨e, fun g hg => by
              rcases List.mem_cons.1 hg with rfl | hg
              · exact ⟨h1, h2, h3⟩
              · exact hh g hg⟩
          · exact .inr e
theorem Jkt {x : DT} {f : FT} (h : f ∈ J2f x) : f ∈ x.2.2.2.2 ∧ f.2.1 = x.2.1 + 1 := by
  unfold J2f at h
  obtain ⟨h1, h2⟩ := List.mem_filter.1 h
  exact ⟨h1, by simpa using h2⟩
theorem Jjq {x : DT} {f : FT} (h : f ∈ (J1X x).2.2.2.2) : f ∈ x.2.2.2.2 ∧ ¬f.2.1 = x.2.1 + 1 := by
  unfold J1X at h
  obtain ⟨h1, h2⟩ := List.mem_filter.1 h
  exact ⟨h1, by simpa using h2⟩
theorem Jsh {n w : Int} {y : DT} (h : VP n y) (hn : n ≤ 64) {l : List FT} (hf : ∀ f ∈ l, J2H n w f) {p : Int} (h0 : 0 ≤ p) (h1 : p < n) {s : List UInt8} (hs : s.length = 256) :
    Joq (J2l l) y p s = some (J7q (J2l l) y p s) ∧ VP n (J7q (J2l l) y p s) ∧ (J7q (J2l l) y p s).2.1 = y.2.1 ∧ (J7q (J2l l) y p s).2.2.2.2 = y.2.2.2.2 := by
  have hlen := h.len
  have hul := h.unr hn
  have hll : (y.1.length : Int) = n := hlen
  have hset : ∀ (t : Int) (z : List UInt8), 0 ≤ t → t < n → z.length = 256 → J7r y t z = some (J2q y t.toNat z) := fun t z ht0 ht1 hz => by
    unfold J7r
    rw [if_pos ⟨ht0, by omega, by omega, by omega⟩]
  rcases JgY hf with ⟨e, _⟩ | e | ⟨f, hf', e⟩ | ⟨f, hf', e⟩ <;> rw [e] <;> unfold Joq J7q <;> dsimp only
  · rw [if_neg (by decide), if_neg (by decide), if_neg (by decide), if_neg (by decide), if_neg (by decide), if_neg (by decide)]
    exact ⟨hset p s h0 h1 hs, h.set _ hs, rfl, rfl⟩
  · rw [if_pos rfl, if_pos rfl]; exact ⟨rfl, h, rfl, rfl⟩
  · rw [if_neg (by decide), if_pos rfl, if_neg (by decide), if_pos rfl]
    exact ⟨hset _ s hf'.t0 hf'.t1 hs, h.set _ hs, rfl, rfl⟩
  · rw [if_neg (by decide), if_neg (by decide), if_pos rfl, if_neg (by decide), if_neg (by decide), if_pos rfl]
    obtain ⟨_, g⟩ := h.getD h0 h1
    have b0 := hf'.b0
    have b1 := hf'.b1
    have hz : (s.take f.2.2.2.2.1.toNat ++ (y.1.getD p.toNat []).drop f.2.2.2.2.1.toNat).length = 256 := by
      rw [List.length_append, List.length_take, List.length_drop, g]; omega
    refine ⟨?_, h.set _ hz, rfl, rfl⟩
    unfold JhV
    rw [if_pos ⟨b0, by omega, h0, by omega, by omega, g⟩]
    exact hset p _ h0 h1 hz
theorem J92 {x : DT} (hv : VD x) (hb : Byt x.2.2.2.2) {p : Int} (h0 : 0 ≤ p) (h1 : p < J8 x.1) {s : List UInt8} (hs : s.length = 256) (hw : x.2.1 < 1099511627776) :
    Jbx x p s = some (wM x p s) ∧ VD (wM x p s) ∧ Byt (wM x p s).2.2.2.2 ∧ J8 (wM x p s).1 = J8 x.1 ∧ (wM x p s).2.1 = x.2.1 + 1 ∧ (wM x p s).2.2.2.2 = x.2.2.2.2.filter (fun f => !(f.2.1 == x.2.1 + 1)) := by
  have hvr : VP (J8 x.1) (J1X x) := ⟨rfl, hv.vp.page, hv.vp.rng, hv.vp.srt⟩
  have hn : ∀ f ∈ J2f x, J2H (J8 x.1) x.2.1 f := fun f hf => hv.flt f (Jkt hf).1
  obtain ⟨e1, e2, e3, e4⟩ := Jsh hvr hv.p64 hn h0 h1 hs
  obtain ⟨f1, f2, f3, f4⟩ := JgV hv.p64 e2 hn (fun f hf => hb f (Jkt hf).1)
  have k3 : (wM x p s).2.1 = x.2.1 + 1 := f3.trans e3
  have k4 : (wM x p s).2.2.2.2 = (J1X x).2.2.2.2 := f4.trans e4
  refine ⟨?_, ?_, ?_, f2.len, k3, k4⟩
  · unfold Jbx
    rw [e1, Option.bind_some]
    exact f1
  · have hl := f2.len
    refine ⟨?_, ?_, ?_, ?_, ?_, ?_, ?_, ?_, ?_⟩
    · show 1 ≤ J8 (wM x p s).1; rw [show J8 (wM x p s).1 = J8 x.1 from hl]; exact hv.p1
    · show J8 (wM x p s).1 ≤ 64; rw [show J8 (wM x p s).1 = J8 x.1 from hl]; exact hv.p64
    · rw [k3]; have := hv.w0; omega
    · rw [k3]; omega
    · rw [k4]
      have : (J1X x).2.2.2.2.length ≤ x.2.2.2.2.length := List.length_filter_le _ _
      have := hv.f64
      unfold J8 at *; omega
    · intro z hz; have := f2.page z hz; unfold J8; omega
    · intro q hq; rw [show J8 (wM x p s).1 = J8 x.1 from hl]; exact f2.rng q hq
    · exact JeC f2.srt
    · intro f hf
      rw [k4] at hf
      obtain ⟨m1, m2⟩ := Jjq hf
      have := hv.flt f m1
      rw [show J8 (wM x p s).1 = J8 x.1 from hl, k3]
      exact ⟨this.kind, this.used, by have := this.after; omega, this.most, this.p0, this.p1, this.t0, this.t1, this.b0, this.b1, this.mask⟩
  · intro f hf; rw [k4] at hf; exact hb f (Jjq hf).1
def wrD (x : DT) (p : Int) (s : List UInt8) : DT × Int := if usD x p = 0 then if s.length = 256 then if x.2.1 = 1099511627776 then (J5y, 21) else (wM x p s, 0) else (J5y, 2) else (J5y, usD x p)
theorem J4T (x : DT) (p : Int) (s : List UInt8) (hu : J8 x.2.2.1 ≤ 1000000000000) (hb : Byt x.2.2.2.2) : Jj (x, p, s) = some (wrD x p s) := by
  unfold Jj Jer
  dsimp only
  rw [Jjk x p hu, Option.bind_some]
  unfold wrD
  by_cases h : usD x p = 0
  · rw [if_neg (by simpa using h), if_pos h]
    by_cases hs : s.length = 256
    · rw [if_neg (by simpa using hs), if_pos hs]
      by_cases hw : x.2.1 = 1099511627776
      · rw [if_pos hw, if_pos hw]; rfl
      · rw [if_neg hw, if_neg hw]
        obtain ⟨hv, _, h0, h1⟩ := Jgc h
        have w1 := hv.w1
        have f64 := hv.f64
        unfold J8 at f64
        rw [if_pos ⟨hv.w0, by omega, by omega⟩, (J92 hv hb h0 h1 hs (by omega)).1]
        rfl
    · rw [if_pos (by simpa using hs), if_neg hs]; rfl
  · rw [if_pos (by simpa using h), if_neg h]; rfl
theorem J8j {x : DT} (hv : VD x) (hd : x.2.2.2.1 = false) {p : Int} (h0 : 0 ≤ p) (h1 : p < J8 x.1) {s : List UInt8} (hs : s.length = 256) (hw : x.2.1 < 1099511627776) : wrD x p s = (wM x p s, 0) := by
  unfold wrD
  rw [if_pos (JcK hv hd h0 h1), if_pos hs, if_neg (by omega)]
end
end Go.Am
end
section
namespace Go.Am
section
variable (P : Program)
def J6i : Nat → TypeId → Bool
  | 0, _ => false
  | n + 1, t => match P.underlying t with
    | some .bool => true
    | some (.int _) => true
    | some .string => true
    | some (.slice e) => J6i n e && decide (t < P.types.size ∧ 0 < P.cellsOf e)
    | some (.struct fs) => fs.toList.all (fun f => J6i n f.type) && decide (t < P.types.size)
    | some (.array _ e) => J6i n e && decide (t < P.types.size)
    | _ => false
def J32 : Nat → TypeId → List PV → Prop
  | 0, _, _ => False
  | n + 1, t, pvs => match P.underlying t with
    | some .bool => ∃ b, pvs = [.b b]
    | some (.int k) => ∃ z, pvs = [.i k z] ∧ (Lit.int k z).wf = true
    | some .string => ∃ l, pvs = [.s l] ∧ l.length ≤ maxLen
    | some (.slice e) => ∃ rows, pvs = [.sl (P.cellsOf e) rows] ∧ rows.length ≤ maxLen ∧ ∀ row ∈ rows, row.length = P.cellsOf e ∧ J32 n e row
    | some (.struct fs) => pvs.length = P.cellsOf t ∧ ∀ f ∈ fs.toList, J32 n f.type ((pvs.drop f.offset).take (P.cellsOf f.type))
    | some (.array m e) => pvs.length = P.cellsOf t ∧ ∀ i, i < m → J32 n e ((pvs.drop (i * P.cellsOf e)).take (P.cellsOf e))
    | _ => False
end
section
variable {H : Type} {enc : TypeId × Value → H} {P : Program} {w : World} {base : Nat} {sp : Nat → Bool} {held : Bool}
def Jmi (w : World) (pvs : List PV) (cs : List Value) : Prop :=
  pvs.length = cs.length ∧ ∀ (i : Nat) p v, pvs[i]? = some p → cs[i]? = some v → Jp w (fun r _ => r < w.heap.size) p v
theorem Jgx {a : Addr} {v : Value} (h : w.cell? a = some v) : a.spot = none ∧ cellAt w a.block a.off = some v ∧ a.block < w.heap.size := by
  unfold World.cell? at h
  unfold cellAt
  split at h
  · rename_i c t fz hb
    split at h
    · cases h
    · rename_i hs
      refine ⟨by simpa using hs, by rw [hb]; exact h, ?_⟩
      have := Array.getElem?_eq_some_iff.1 hb
      exact this.1
  · cases h
theorem Jow {a : Addr} {n : Nat} {cs : List Value} (h : w.cells? base a n = some cs) : cs.length = n ∧ ∀ i v, cs[i]? = some v → w.cell? (a.add i) = some v := by
  unfold World.cells? at h
  split at h
  · have hl := mapM_some_length h
    refine ⟨by simpa using hl, fun i v hv => ?_⟩
    have hi : i < n := by
      have := (List.getElem?_eq_some_iff.1 hv).1
      simp at hl; omega
    have := mapM_some_get h i i (by simp [hi])
    rw [this, hv]
  · cases h
theorem Jfc {α : Type} (Q : Nat → α → Prop) : ∀ (m : Nat), (∀ i, i < m → ∃ x, Q i x) → ∃ xs : List α, xs.length = m ∧ ∀ i x, xs[i]? = some x → Q i x
  | 0, _ => ⟨[], rfl, fun i x h => by simp at h⟩
  | m + 1, h => by
    obtain ⟨xs, hl, hx⟩ := Jfc Q m (fun i hi => h i (by omega))
    obtain ⟨y, hy⟩ := h m (by omega)
    refine ⟨xs ++ [y], by simp [hl], fun i x hi => ?_⟩
    rcases Nat.lt_or_ge i xs.length with hlt | hge
    · rw [List.getElem?_append_left hlt] at hi; exact hx i x hi
    · rw [List.getElem?_append_right hge] at hi
      have : i - xs.length = 0 := by
        have := (List.getElem?_eq_some_iff.1 hi).1
        simp at this; omega
      rw [this] at hi
      simp at hi; subst hi
      obtain rfl : i = m := by omega
      exact hy
theorem Jc6 {α : Type} : ∀ (xs : List (List α)) (j : Nat) (y : List α), xs[j]? = some y → (xs.flatten.drop ((xs.take j).map List.length).sum).take y.length = y
  | [], j, y, h => by simp at h
  | x :: xs, 0, y, h => by simp at h; subst h; simp
  | x :: xs, j + 1, y, h => by
    simp at h
    have := Jc6 xs j y h
    simp only [List.take_succ_cons, List.map_cons, List.sum_cons, List.flatten_cons, List.drop_length_add_append]
    exact this
theorem JqZ (hl : laidOutB P = true) (hm : mapsRowed P = true) : ∀ (n : Nat) (t : TypeId) (cs : List Value) (x : DataW H × List MemPlace) (fuel : Nat), J6i P n t = true → DataW.trod enc P w base sp held fuel t cs = some x →
    ∃ pvs, J32 P n t pvs ∧ Jmi w pvs cs := by
  have K := kids_rows hl hm
  intro n
  induction n with
  | zero => intro t cs x fuel hp; simp [J6i] at hp
  | succ n ih =>
    intro t cs x fuel hp h
    unfold J6i at hp
    unfold J32
    split at hp
    · rename_i ht
      obtain ⟨b, rfl, _⟩ := DataW.trod_bool ht h
      refine ⟨[.b b], by simp, rfl, fun i p v h1 h2 => ?_⟩
      match i with
      | 0 => simp at h1 h2; subst h1 h2; exact .b _
      | i + 1 => simp at h1
    · rename_i k ht
      obtain ⟨z, rfl, _, hwf⟩ := DataW.trod_int ht h
      refine ⟨[.i k z], by simpa using hwf, rfl, fun i p v h1 h2 => ?_⟩
      match i with
      | 0 => simp at h1 h2; subst h1 h2; exact .i _ _
      | i + 1 => simp at h1
    · rename_i ht
      obtain ⟨s, rfl, _, hsz⟩ := DataW.trod_string ht h
      refine ⟨[.s s.data.toList], ⟨_, rfl, by rw [Array.length_toList]; exact hsz⟩, rfl, fun i p v h1 h2 => ?_⟩
      match i with
      | 0 => simp at h1 h2; subst h1 h2; exact .s _
      | i + 1 => simp at h1
    · rename_i e ht
      simp only [Bool.and_eq_true, decide_eq_true_eq] at hp
      rcases DataW.trod_slice ht h with ⟨rfl, _⟩ | ⟨a, len, cap, elems, rest, n0, _, rfl, _, _, hlc, hcm, hel, hat, _⟩
      · refine ⟨[.sl (P.cellsOf e) []], ⟨[], rfl, Nat.zero_le _, by simp⟩, rfl, fun i p v h1 h2 => ?_⟩
        match i with
        | 0 => simp at h1 h2; subst h1 h2; exact .sl0 _ _ _
        | i + 1 => simp at h1
      ·
        have hrow : ∀ i, i < len → ∃ row : List PV, (row.length = P.cellsOf e ∧ J32 P n e row) ∧ ∀ j p, row[j]? = some p → ∃ v, w.cell? (a.add (i * P.cellsOf e) |>.add j) = some v ∧ Jp w (fun r _ => r < w.heap.size) p v := by
          intro i hi
          have h1 := hat i hi
          have h2 : ∃ y, elems[i]? = some y := ⟨_, List.getElem?_eq_getElem (by omega)⟩
          obtain ⟨y, hy⟩ := h2
          rw [hy, Option.bind_eq_some_iff] at h1
          obtain ⟨cs', hc, ht'⟩ := h1
          obtain ⟨row, q1, q2, q3⟩ := ih e cs' y n0 hp.1 ht'
          obtain ⟨c1, c2⟩ := Jow hc
          refine ⟨row, ⟨by omega, q1⟩, fun j p hj => ?_⟩
          have hlt : j < cs'.length := by have := (List.getElem?_eq_some_iff.1 hj).1; omega
          have hv := List.getElem?_eq_getElem hlt
          exact ⟨_, c2 j _ hv, q3 j p _ hj hv⟩
        obtain ⟨rows, hrl, hrows⟩ := Jfc _ len hrow
        refine ⟨[.sl (P.cellsOf e) rows], ⟨rows, rfl, by omega, fun row hr => ?_⟩, rfl, fun i p v h1 h2 => ?_⟩
        · obtain ⟨i, hi⟩ := List.getElem?_of_mem hr
          exact (hrows i row hi).1
        match i with
        | i + 1 => simp at h1
        | 0 =>
          simp at h1 h2; subst h1 h2
          by_cases h0 : ∃ (i j : Nat) (row : List PV) (p : PV), rows[i]? = some row ∧ row[j]? = some p
          · obtain ⟨i0, j0, row0, p0, hr0, hp0⟩ := h0
            have spot : a.spot = none ∨ P.cellsOf e = 0 := by
              rcases Nat.eq_zero_or_pos (P.cellsOf e) with hz | hpos
              · exact .inr hz
              · have hlen : 0 < len := by have := (List.getElem?_eq_some_iff.1 hr0).1; omega
                have hr00 := List.getElem?_eq_getElem (l := rows) (i := 0) (by omega)
                have q := hrows 0 _ hr00
                have hj0 := List.getElem?_eq_getElem (l := rows[0]'(by omega)) (i := 0) (by omega)
                obtain ⟨v, hv, _⟩ := q.2 0 _ hj0
                rw [Nat.zero_mul] at hv
                exact .inl (by simpa [Addr.add] using (Jgx hv).1)
            rcases spot with spot | hz
            · have cell : ∀ (i j : Nat) (row : List PV) (p : PV), rows[i]? = some row → row[j]? = some p → ∃ v, (a.block < w.heap.size ∧ cellAt w a.block (a.off + i * P.cellsOf e + j) = some v) ∧ Jp w (fun r _ => r < w.heap.size) p v := by
                intro i j row p hi hj
                obtain ⟨v, hv, hr⟩ := (hrows i row hi).2 j p hj
                obtain ⟨s1, s2, s3⟩ := Jgx hv
                refine ⟨v, ?_, hr⟩
                have e1 : ((a.add (i * P.cellsOf e)).add j).block = a.block := by unfold Addr.add; split <;> split <;> rfl
                have e2 : ((a.add (i * P.cellsOf e)).add j).off = a.off + i * P.cellsOf e + j := by
                  unfold Addr.add
                  split <;> split <;> simp_all
                rw [e1] at s3
                rw [e1, e2] at s2
                exact ⟨s3, s2⟩
              have ea : a = ⟨a.block, a.off, none⟩ := by cases a; simp_all
              rw [ea, ← hrl]
              refine .sl _ rows a.block a.off cap (fun i j => ((cellAt w a.block (a.off + i * P.cellsOf e + j)).getD default)) (by omega) (fun row hr => ?_) (fun i j row p hi hj => ?_) (fun i j row p hi hj => ?_)
              · obtain ⟨i, hi⟩ := List.getElem?_of_mem hr
                exact (hrows i row hi).1.1
              · obtain ⟨v, ⟨h3, h4⟩, _⟩ := cell i j row p hi hj
                exact ⟨h3, by rw [h4]; rfl⟩
              · obtain ⟨v, ⟨h3, h4⟩, h5⟩ := cell i j row p hi hj
                rw [h4]; exact h5
            · have := (hrows i0 row0 hr0).1.1
              have := (List.getElem?_eq_some_iff.1 hp0).1
              omega
          ·
            rcases Nat.eq_zero_or_pos len with hz | hpos
            · have : rows = [] := by cases rows <;> simp_all
              subst this
              subst hz
              exact .sl0 _ _ _
            · exfalso
              have hr00 := List.getElem?_eq_getElem (l := rows) (i := 0) (by omega)
              have q := (hrows 0 _ hr00).1.1
              exact h0 ⟨0, 0, _, _, hr00, List.getElem?_eq_getElem (by omega)⟩
    · rename_i fs ht
      simp only [Bool.and_eq_true, decide_eq_true_eq, List.all_eq_true] at hp
      obtain ⟨xs, n0, _, _, hcl, hxl, hat⟩ := DataW.trod_struct ht h
      obtain ⟨_, ksum, koff⟩ := K.struct hp.2 ht
      have hf : ∀ i, i < fs.toList.length → ∃ ys : List PV, ∀ f, fs.toList[i]? = some f → J32 P n f.type ys ∧ Jmi w ys ((cs.drop f.offset).take (P.cellsOf f.type)) := by
        intro i hi
        have hfi := List.getElem?_eq_getElem hi
        have hmem := List.mem_of_getElem? hfi
        have hfa : fs[i]? = some (fs.toList[i]) := by rw [← Array.getElem?_toList]; exact hfi
        have h1 := hat i _ hfa
        have h2 : ∃ y, xs[i]? = some y := ⟨_, List.getElem?_eq_getElem (by simpa [hxl] using hi)⟩
        obtain ⟨y, hy⟩ := h2
        rw [hy] at h1
        obtain ⟨ys, q1, q2⟩ := ih _ _ _ _ (hp.1 _ hmem) h1
        refine ⟨ys, fun f hff => ?_⟩
        rw [hfi] at hff; injection hff with hff; subst hff
        exact ⟨q1, q2⟩
      obtain ⟨yss, hyl, hys⟩ := Jfc _ _ hf
      have hlen : ∀ (j : Nat) (f : Field), fs.toList[j]? = some f → ∀ ys : List PV, yss[j]? = some ys → ys.length = P.cellsOf f.type := by
        intro j f hj ys hy
        have q := (hys j ys hy f hj).2.1
        have o := koff j f hj
        rw [q, List.length_take, List.length_drop, hcl, ksum, o]
        have : ((fs.toList.take j).map fun f => P.cellsOf f.type).sum + P.cellsOf f.type ≤ (fs.toList.map fun f => P.cellsOf f.type).sum := by
          have e1 : fs.toList = fs.toList.take j ++ (f :: fs.toList.drop (j + 1)) := by
            have hjl := (List.getElem?_eq_some_iff.1 hj)
            obtain ⟨hjl, he⟩ := hjl
            rw [← he, ← List.drop_eq_getElem_cons hjl, List.take_append_drop]
          conv => rhs; rw [e1]
          simp only [List.map_append, List.map_cons, List.sum_append, List.sum_cons]
          omega
        omega
      have hmapl : yss.map List.length = fs.toList.map fun f => P.cellsOf f.type := by
        apply List.ext_getElem?
        intro j
        rw [List.getElem?_map, List.getElem?_map]
        cases hy : yss[j]? with
        | none =>
          have : fs.toList[j]? = none := by rw [List.getElem?_eq_none_iff] at hy ⊢; omega
          rw [this]; rfl
        | some ys =>
          have hj : j < fs.toList.length := by have := (List.getElem?_eq_some_iff.1 hy).1; omega
          have hfj := List.getElem?_eq_getElem hj
          rw [hfj]
          simp only [Option.map_some]
          rw [hlen j _ hfj ys hy]
      have hoff : ∀ (j : Nat) (f : Field), fs.toList[j]? = some f → ((yss.take j).map List.length).sum = f.offset := by
        intro j f hj
        rw [koff j f hj, List.map_take, hmapl, ← List.map_take]
      refine ⟨yss.flatten, ⟨?_, fun f hf => ?_⟩, ?_, fun i p v h1 h2 => ?_⟩
      · rw [List.length_flatten, hmapl, ksum]
      · obtain ⟨j, hj⟩ := List.getElem?_of_mem hf
        have hjl : j < yss.length := by have := (List.getElem?_eq_some_iff.1 hj).1; omega
        have hyj := List.getElem?_eq_getElem hjl
        have := Jc6 yss j _ hyj
        rw [hoff j f hj, hlen j f hj _ hyj] at this
        rw [this]
        exact (hys j _ hyj f hj).1
      · rw [List.length_flatten, hmapl, hcl, ksum]
      ·
        have key : ∀ (l : List (List PV)) (i : Nat) p, l.flatten[i]? = some p → ∃ j ys k, l[j]? = some ys ∧ ys[k]? = some p ∧ i = ((l.take j).map List.length).sum + k := by
          intro l
          induction l with
          | nil => intro i p h; simp at h
          | cons y l ihl =>
            intro i p h
            rw [List.flatten_cons] at h
            rcases Nat.lt_or_ge i y.length with hlt | hge
            · rw [List.getElem?_append_left hlt] at h
              exact ⟨0, y, i, rfl, h, by simp⟩
            · rw [List.getElem?_append_right hge] at h
              obtain ⟨j, ys, k, a1, a2, a3⟩ := ihl _ _ h
              exact ⟨j + 1, ys, k, by simpa using a1, a2, by simp only [List.take_succ_cons, List.map_cons, List.sum_cons]; omega⟩
        obtain ⟨j, ys, k, a1, a2, a3⟩ := key _ _ _ h1
        have hj : j < fs.toList.length := by have := (List.getElem?_eq_some_iff.1 a1).1; omega
        have hfj := List.getElem?_eq_getElem hj
        have q := (hys j ys a1 _ hfj).2
        refine q.2 k p v a2 ?_
        have hk : k < P.cellsOf (fs.toList[j]).type := by have := (List.getElem?_eq_some_iff.1 a2).1; rw [hlen j _ hfj ys a1] at this; exact this
        rw [List.getElem?_take_of_lt hk, List.getElem?_drop, ← hoff j _ hfj, ← a3]
        exact h2
    · rename_i m e ht
      simp only [Bool.and_eq_true, decide_eq_true_eq] at hp
      obtain ⟨xs, n0, _, _, hcl, hxl, hat⟩ := DataW.trod_array ht h
      obtain ⟨_, ksz⟩ := K.array hp.2 ht
      have hf : ∀ i, i < m → ∃ ys : List PV, J32 P n e ys ∧ Jmi w ys ((cs.drop (i * P.cellsOf e)).take (P.cellsOf e)) := by
        intro i hi
        have h1 := hat i hi
        have h2 : ∃ y, xs[i]? = some y := ⟨_, List.getElem?_eq_getElem (by omega)⟩
        obtain ⟨y, hy⟩ := h2
        rw [hy] at h1
        exact ih _ _ _ _ hp.1 h1
      obtain ⟨yss, hyl, hys⟩ := Jfc _ _ hf
      have hlen : ∀ (j : Nat) ys, yss[j]? = some ys → ys.length = P.cellsOf e := by
        intro j ys hy
        have q := (hys j ys hy).2.1
        have hj : j < m := by have := (List.getElem?_eq_some_iff.1 hy).1; omega
        rw [q, List.length_take, List.length_drop, hcl, ksz]
        have : j * P.cellsOf e + P.cellsOf e ≤ m * P.cellsOf e := by rw [← Nat.succ_mul]; exact Nat.mul_le_mul_right _ hj
        omega
      have hall : ∀ y ∈ yss, y.length = P.cellsOf e := fun y hy => by
        obtain ⟨j, hj⟩ := List.getElem?_of_mem hy
        exact hlen j y hj
      have hsum : ∀ l : List (List PV), (∀ y ∈ l, y.length = P.cellsOf e) → (l.map List.length).sum = l.length * P.cellsOf e := by
        intro l
        induction l with
        | nil => intro _; simp
        | cons y l ihl => intro hh; simp [hh y (by simp), ihl (fun z hz => hh z (by simp [hz])), Nat.succ_mul, Nat.add_comm]
      have hoff : ∀ j, j ≤ m → ((yss.take j).map List.length).sum = j * P.cellsOf e := by
        intro j hj
        rw [hsum _ (fun y hy => hall y (List.mem_of_mem_take hy)), List.length_take, hyl, Nat.min_eq_left hj]
      refine ⟨yss.flatten, ⟨?_, fun j hj => ?_⟩, ?_, fun i p v h1 h2 => ?_⟩
      · rw [List.length_flatten, hsum _ hall, hyl, ksz]
      · have hyj := List.getElem?_eq_getElem (l := yss) (i := j) (by omega)
        have := Jc6 yss j _ hyj
        rw [hoff j (by omega), hlen j _ hyj] at this
        rw [this]
        exact (hys j _ hyj).1
      · rw [List.length_flatten, hsum _ hall, hcl, hyl, ksz]
      · have key : ∀ (l : List (List PV)) (i : Nat) p, l.flatten[i]? = some p → ∃ j ys k, l[j]? = some ys ∧ ys[k]? = some p ∧ i = ((l.take j).map List.length).sum + k := by
          intro l
          induction l with
          | nil => intro i p h; simp at h
          | cons y l ihl =>
            intro i p h
            rw [List.flatten_cons] at h
            rcases Nat.lt_or_ge i y.length with hlt | hge
            · rw [List.getElem?_append_left hlt] at h
              exact ⟨0, y, i, rfl, h, by simp⟩
            · rw [List.getElem?_append_right hge] at h
              obtain ⟨j, ys, k, a1, a2, a3⟩ := ihl _ _ h
              exact ⟨j + 1, ys, k, by simpa using a1, a2, by simp only [List.take_succ_cons, List.map_cons, List.sum_cons]; omega⟩
        obtain ⟨j, ys, k, a1, a2, a3⟩ := key _ _ _ h1
        have hj : j < m := by have := (List.getElem?_eq_some_iff.1 a1).1; omega
        have q := (hys j ys a1).2
        refine q.2 k p v a2 ?_
        have hk : k < P.cellsOf e := by have := (List.getElem?_eq_some_iff.1 a2).1; rw [hlen j ys a1] at this; exact this
        rw [List.getElem?_take_of_lt hk, List.getElem?_drop, ← hoff j (by omega), ← a3]
        exact h2
    · cases hp
end
end Go.Am
end
section
namespace Go.Am
open Go.ChangeShapes Go.WideShapes Go.ChangeAt Go.RowKit
def gh0 (w : World) : Gh := ⟨fun _ => none, fun r _ => r < w.heap.size⟩
theorem JfB (g : Gh) (w : World) (b r o : Nat) : ¬ Wr1 ⟨[], g, w⟩ b r o := by
  unfold Wr1; simp
theorem Jtd (w : World) : Inv ⟨[], gh0 w, w⟩ where
  box := fun b cs h => by simp at h
  arr := fun b wm esz rows h => by simp at h
  apart := fun b1 b2 r o h => absurd h (JfB _ _ _ _ _)
  const := fun r o h => ⟨h, fun b => JfB _ _ _ _ _⟩
def J93 (w w' : World) : Prop := J8n (fun _ _ => False) w w'
theorem J93.kept {w w' : World} (h : J93 w w') (may : MemPlace → Prop) : w.keptBut w' may := by
  obtain ⟨h1, h2, h3, h4, h5⟩ := h
  refine ⟨h4, h5, fun i hi => ?_⟩
  have hg := Array.getElem?_eq_getElem hi
  cases hw : w.heap[i]? with
  | none => rw [hg] at hw; cases hw
  | some x =>
    cases x with
    | cells c e fz =>
      obtain ⟨c', q1, q2, q3⟩ := h2 i c e fz hw
      rw [q1]
      exact ⟨rfl, rfl, q2, fun j _ => q3 j (fun hf => hf)⟩
    | map es clock =>
      have := h3 i _ hw (fun c e fz he => by cases he)
      rw [this]
      exact .inr ⟨rfl, rfl⟩
    | _ =>
      have := h3 i _ hw (fun c e fz he => by cases he)
      rw [this]
theorem J93.same {w w' : World} (h : J93 w w') {p : MemPlace} (hp : p.block < w.heap.size) : w.sameAt w' p := by
  obtain ⟨h1, h2, h3, h4, h5⟩ := h
  cases p with
  | cell b off =>
    have hb : b < w.heap.size := hp
    have hg := Array.getElem?_eq_getElem hb
    show w'.cell? ⟨b, off, none⟩ = w.cell? ⟨b, off, none⟩
    rw [J22, J22]
    unfold cellAt
    cases hw : w.heap[b]? with
    | none => rw [hg] at hw; cases hw
    | some x =>
      cases x with
      | cells c e fz =>
        obtain ⟨c', q1, q2, q3⟩ := h2 b c e fz hw
        rw [q1]
        exact q3 off (fun hf => hf)
      | _ =>
        have := h3 b _ hw (fun c e fz he => by cases he)
        rw [this]
  | map b =>
    have hb : b < w.heap.size := hp
    have hg := Array.getElem?_eq_getElem hb
    show w'.heap[b]? = w.heap[b]?
    cases hw : w.heap[b]? with
    | none => rw [hg] at hw; cases hw
    | some x =>
      cases x with
      | cells c e fz =>
        obtain ⟨c', q1, q2, q3⟩ := h2 b c e fz hw
        rw [q1]
        have : c' = c := by
          apply Array.ext_getElem?
          intro i
          exact q3 i (fun hf => hf)
        rw [this]
      | _ => exact h3 b _ hw (fun c e fz he => by cases he)
theorem J93.frozen {w w' : World} (h : J93 w w') {a : Addr} (hp : a.block < w.heap.size) : w'.frozen? a = w.frozen? a := by
  obtain ⟨h1, h2, h3, h4, h5⟩ := h
  have hg := Array.getElem?_eq_getElem hp
  unfold World.frozen?
  cases hw : w.heap[a.block]? with
  | none => rw [hg] at hw; cases hw
  | some x =>
    cases x with
    | cells c e fz =>
      obtain ⟨c', q1, q2, q3⟩ := h2 a.block c e fz hw
      rw [q1]
    | _ =>
      have := h3 a.block _ hw (fun c e fz he => by cases he)
      rw [this]
theorem J8J {P : Program} {F : Orc} (hF : J2A P F) {f : FuncId} {args : List AV} {vals : Array Value} {w : World} (hl : args.length = vals.size)
    (hr : ∀ (i : Nat) x v, args[i]? = some x → vals[i]? = some v → Jf ⟨[], gh0 w, w⟩ x v) (h : F f args [] = some (.p (.b true), [])) :
    Calls P f vals w fun e w' => e = .returned (.bool true) ∧ J93 w w' := by
  refine ((hF _ _ _ _ h).2 (gh0 w) w vals (Jtd w) hl hr).mono fun e w' ⟨v, g', he, _, ht, hrel⟩ => ?_
  cases hrel with
  | p _ _ hrel =>
    cases hrel with
    | b =>
      refine ⟨he, ?_⟩
      obtain ⟨k1, k2, k3, k4⟩ := ht.keep
      refine ⟨k1, fun r c e fz hr => ?_, k3, k4⟩
      obtain ⟨c', q1, q2, q3⟩ := k2 r c e fz hr
      exact ⟨c', q1, q2, fun o _ => q3 o (fun ⟨b, hb⟩ => JfB _ _ _ _ _ hb)⟩
section
variable {H : Type} {enc : TypeId × Value → H} {P : Program}
theorem JaT (hl : laidOutB P = true) (hm : mapsRowed P = true) (hsz : ∀ {t e : TypeId}, t < P.types.size → P.underlying t = some (.slice e) → 0 < P.cellsOf e) {W W' : World} {sp : Nat → Bool} :
    ∀ {ts : List TypeId} {vs : List Value} {ds : List (DataW H)} {ps : List MemPlace}, (∀ t ∈ ts, t < P.types.size) → DataW.TrodAll enc P W 0 (fun _ => true) true ts vs ds ps →
      (∀ p ∈ ps, W.sameAt W' p) → (∀ p ∈ ps, sp p.block = true) → DataW.TrodAll enc P W' 0 sp true ts vs ds ps
  | [], [], [], _, _, h, _, _ => h
  | [], _ :: _, _, _, _, h, _, _ => h.elim
  | [], [], _ :: _, _, _, h, _, _ => h.elim
  | _ :: _, [], _, _, _, h, _, _ => h.elim
  | _ :: _, _ :: _, [], _, _, h, _, _ => h.elim
  | t :: ts, v :: vs, d :: ds, _, hT, ⟨p, q, ⟨n, h1⟩, h2, rfl⟩, hs, hp => by
    refine ⟨p, q, ⟨n, DataW.trod_stays (kids_rows hl hm) hsz (fun h => by cases h) (hT t (by simp)) h1 (fun x hx => hs x (by simp [hx])) (fun x hx => hp x (by simp [hx]))⟩, ?_, rfl⟩
    exact JaT hl hm hsz (fun x hx => hT x (by simp [hx])) h2 (fun x hx => hs x (by simp [hx])) (fun x hx => hp x (by simp [hx]))
def J3x (P : Program) : Bool := (List.range P.types.size).all fun t => match P.underlying t with
  | some (.slice e) => decide (0 < P.cellsOf e)
  | _ => true
theorem Ji4 (h : J3x P = true) {t e : TypeId} (ht : t < P.types.size) (he : P.underlying t = some (.slice e)) : 0 < P.cellsOf e := by
  unfold J3x at h
  rw [List.all_eq_true] at h
  have := h t (by simpa using ht)
  rw [he] at this
  simpa using this
theorem Jan {fn : Func} {s : ChangeSpec} {tb : TypeId} (hl : laidOutB P = true) (hm : mapsRowed P = true) (hsz : J3x P = true) (hpar : ∀ t ∈ fn.params.toList, t < P.types.size)
    (hres : fn.resultTypes = #[tb]) (htb : P.underlying tb = some .bool) (hvars : s.vars = []) {apart fresh handsOn again : Bool} {W W' : World} {args : Array Value} {ds gs : List (DataW H)} {before : List MemPlace}
    (hfn : gs = [] → s.fn H (ds ++ gs) = { results := [.lit (.bool true)], args := ds })
    (hW : DataW.Whole enc P fn.params.toList s.vars apart W args.toList ds gs before) (hst : J93 W W') : s.post enc P fn apart fresh handsOn again W args (.bool true) W' := by
  have hW0 := hW
  have hlt := hW.lt
  obtain ⟨p, q, h1, h2, rfl, hz, hn⟩ := hW
  rw [hvars] at h2
  obtain ⟨rfl, rfl⟩ := trodVars_none h2
  rw [List.append_nil] at hW0 hlt hz hn
  have hf := hfn rfl
  have hargs : ∀ sp : Nat → Bool, (∀ x ∈ p, sp x.block = true) → DataW.TrodAll enc P W' 0 sp true fn.params.toList args.toList ds p := fun sp hp =>
    JaT hl hm (fun ht he => Ji4 hsz ht he) hpar h1 (fun x hx => hst.same (hlt x hx)) hp
  have hr : ∀ (b : Nat) (sp : Nat → Bool) (hd : Bool), DataW.TrodAll enc P W' b sp hd fn.resultTypes.toList ((Value.bool true).resultList fn.resultTypes.size) [.lit (.bool true)] [] := by
    intro b sp hd
    rw [hres]
    exact trodAll_cons_mk (shut_bool htb _) trodAll_mk0
  refine ⟨ds, [], p, [], p, [], hW0, ?_, ?_, ?_, hst.kept _, fun _ => ⟨?_, ?_⟩⟩
  · rw [hf]; exact hr _ _ _
  · rw [hf]; exact hargs _ (fun x hx => by simpa using hlt x hx)
  · rw [hf, hvars]; rfl
  · exact ok_one hres rfl (okWide_bool_mk htb _)
  · refine ⟨_, [], [] ++ p, ⟨[] ++ p, [], trodAll_append (hargs _ (fun _ _ => rfl)) (hr _ _ _), by rw [hvars]; rfl, by simp, fun b off hp => ?_, fun ha => by simpa using hn ha⟩, fun x hx _ => by simpa using hx⟩
    have hp' : MemPlace.cell b off ∈ p := by simpa using hp
    rw [hst.frozen (a := ⟨b, off, none⟩) (hlt _ hp')]
    exact hz b off hp'
def Jmq (P : Program) (t : TypeId) (pvs : List PV) : AV := match P.underlying t with
  | some (.struct _) => .data pvs
  | some (.array _ _) => .data pvs
  | _ => match pvs with
    | [c] => .p c
    | _ => .unk
theorem J55 (hl : laidOutB P = true) (hm : mapsRowed P = true) {n : Nat} {t : TypeId} {w : World} {r : Reach} {base : Nat} {sp : Nat → Bool} {v : Value} {d : DataW H} {ps : List MemPlace} (hp : J6i P n t = true)
    (hv : Value.okWide P w r base t v) (h : DataW.Trod enc P w 0 sp true t v d ps) : ∃ pvs, J32 P n t pvs ∧ Jf ⟨[], gh0 w, w⟩ (Jmq P t pvs) v := by
  obtain ⟨fuel, h⟩ := h
  obtain ⟨pvs, q1, q2, q3⟩ := JqZ hl hm n t _ _ fuel hp h
  refine ⟨pvs, q1, ?_⟩
  cases n with
  | zero => simp [J6i] at hp
  | succ n =>
    unfold J6i at hp
    unfold Value.okWide at hv
    unfold Jmq
    have one : ∀ {c : PV}, pvs = [c] → (∀ cs, v ≠ .agg cs) → Jf ⟨[], gh0 w, w⟩ (.p c) v := by
      intro c hc hne
      subst hc
      refine .p _ _ (q3 0 c v rfl ?_)
      cases v <;> first | rfl | exact absurd rfl (hne _)
    unfold J32 at q1
    split at hp
    · rename_i ht
      rw [ht] at q1 hv ⊢
      obtain ⟨b, rfl⟩ := q1
      exact one rfl (fun cs he => by subst he; simp [Cell.okWide, Cell.ok, ht] at hv)
    · rename_i k ht
      rw [ht] at q1 hv ⊢
      obtain ⟨z, rfl, _⟩ := q1
      exact one rfl (fun cs he => by subst he; simp [Cell.okWide, Cell.ok, ht] at hv)
    · rename_i ht
      rw [ht] at q1 hv ⊢
      obtain ⟨z, rfl, _⟩ := q1
      exact one rfl (fun cs he => by subst he; simp [Cell.okWide, Cell.ok, ht] at hv)
    · rename_i e ht
      rw [ht] at q1 hv ⊢
      obtain ⟨rows, rfl, _⟩ := q1
      exact one rfl (fun cs he => by subst he; simp [Cell.okWide, Cell.ok, ht] at hv)
    · rename_i fs ht
      rw [ht] at hv ⊢
      obtain ⟨cs, rfl, _⟩ := hv
      exact .data _ _ (by simpa [Value.cells] using q2) (fun i x v h1 h2 => q3 i x v h1 (by simpa [Value.cells] using h2))
    · rename_i m e ht
      rw [ht] at hv ⊢
      obtain ⟨cs, rfl, _⟩ := hv
      exact .data _ _ (by simpa [Value.cells] using q2) (fun i x v h1 h2 => q3 i x v h1 (by simpa [Value.cells] using h2))
    · cases hp
end
end Go.Am
end
section
namespace Go.Am
section
variable (P : Program) {α β : Type}
def Rd (n : Nat) (t : TypeId) (r : α → List PV) (Q : α → Prop) : Prop := ∀ pvs, J32 P n t pvs → ∃ x, pvs = r x ∧ Q x
def fieldsOf (t : TypeId) : Option (List (TypeId × Nat)) := match P.underlying t with
  | some (.struct fs) => some (fs.toList.map fun f => (f.type, f.offset))
  | _ => none
variable {P}
theorem Jsk {n : Nat} {t : TypeId} {k : IntKind} (ht : P.underlying t = some (.int k)) : Rd P (n + 1) t (r_i k) fun z => k.min ≤ z ∧ z ≤ k.max := by
  intro pvs h
  unfold J32 at h
  rw [ht] at h
  obtain ⟨z, rfl, hz⟩ := h
  refine ⟨z, rfl, ?_⟩
  simpa [Lit.wf, IntKind.has] using hz
theorem Rd.mono {n : Nat} {t : TypeId} {r : α → List PV} {Q Q' : α → Prop} (h : Rd P n t r Q) (hq : ∀ x, Q x → Q' x) : Rd P n t r Q' := fun pvs hp => by
  obtain ⟨x, e, q⟩ := h pvs hp
  exact ⟨x, e, hq x q⟩
theorem JqA {n : Nat} {t : TypeId} (ht : P.underlying t = some .bool) : Rd P (n + 1) t r_b fun _ => True := by
  intro pvs h
  unfold J32 at h
  rw [ht] at h
  obtain ⟨z, rfl⟩ := h
  exact ⟨z, rfl, trivial⟩
theorem Js3 {n : Nat} {t : TypeId} (ht : P.underlying t = some .string) : Rd P (n + 1) t r_s fun l => l.length ≤ maxLen := by
  intro pvs h
  unfold J32 at h
  rw [ht] at h
  obtain ⟨z, rfl, hz⟩ := h
  exact ⟨z, rfl, hz⟩
theorem JoD {n : Nat} {t e : TypeId} {r : α → List PV} {Q : α → Prop} {k : Nat} (ht : P.underlying t = some (.slice e)) (hk : P.cellsOf e = k) (he : Rd P n e r Q) :
    Rd P (n + 1) t (Jt1 k r) fun l => l.length ≤ maxLen ∧ ∀ x ∈ l, Q x := by
  intro pvs h
  unfold J32 at h
  rw [ht] at h
  obtain ⟨rows, rfl, hl, hr⟩ := h
  have key : ∀ rows : List (List PV), (∀ row ∈ rows, row.length = P.cellsOf e ∧ J32 P n e row) → ∃ l : List α, rows = l.map r ∧ ∀ x ∈ l, Q x := by
    intro rows
    induction rows with
    | nil => intro _; exact ⟨[], rfl, by simp⟩
    | cons row rows ih =>
      intro hh
      obtain ⟨l, rfl, hl⟩ := ih (fun r hr => hh r (by simp [hr]))
      obtain ⟨x, rfl, hx⟩ := he row (hh row (by simp)).2
      refine ⟨x :: l, rfl, fun y hy => ?_⟩
      rcases List.mem_cons.1 hy with rfl | hy
      · exact hx
      · exact hl y hy
  obtain ⟨l, rfl, hq⟩ := key rows hr
  exact ⟨l, by rw [hk]; rfl, by simpa using hl, hq⟩
theorem Joz {n m : Nat} {t e : TypeId} {r : α → List PV} {Q : α → Prop} {k : Nat} (ht : P.underlying t = some (.array m e)) (hk : P.cellsOf e = k) (hm : P.cellsOf t = m * k) (he : Rd P n e r Q) :
    Rd P (n + 1) t (J6g (n := m) r) fun v => ∀ (i : Nat) (h : i < m), Q v[i] := by
  intro pvs h
  unfold J32 at h
  rw [ht] at h
  obtain ⟨hl, hr⟩ := h
  rw [hm] at hl
  have key : ∀ (m : Nat) (pvs : List PV), pvs.length = m * k → (∀ i, i < m → J32 P n e ((pvs.drop (i * k)).take k)) → ∃ l : List α, l.length = m ∧ pvs = (l.map r).flatten ∧ ∀ (i : Nat) (h : i < l.length), Q l[i] := by
    intro m
    induction m with
    | zero =>
      intro pvs h _
      refine ⟨[], rfl, ?_, by simp⟩
      rw [Nat.zero_mul] at h
      simpa using h
    | succ m ih =>
      intro pvs h hh
      rw [Nat.succ_mul] at h
      obtain ⟨l, h1, h2, h3⟩ := ih (pvs.drop k) (by rw [List.length_drop]; omega) (fun i hi => by
        have := hh (i + 1) (by omega)
        rw [List.drop_drop]
        rw [Nat.succ_mul, Nat.add_comm] at this
        exact this)
      obtain ⟨x, e1, hx⟩ := he _ (hh 0 (by omega))
      rw [Nat.zero_mul, List.drop_zero] at e1
      refine ⟨x :: l, by simp [h1], ?_, fun i hi => ?_⟩
      · rw [List.map_cons, List.flatten_cons, ← e1, ← h2, List.take_append_drop]
      · cases i with
        | zero => exact hx
        | succ i => exact h3 i (by simpa using hi)
  obtain ⟨l, h1, h2, h3⟩ := key m pvs hl (fun i hi => by have := hr i hi; rwa [hk] at this)
  refine ⟨⟨l.toArray, by simpa using h1⟩, ?_, fun i hi => ?_⟩
  · rw [h2]; rfl
  · have := h3 i (by omega)
    simpa using this
theorem Jnx {m n : Nat} {t : TypeId} {fl : List (TypeId × Nat)} {pvs : List PV} (hm : m = n + 1) (ht : fieldsOf P t = some fl) (h : J32 P m t pvs) :
    pvs.length = P.cellsOf t ∧ ∀ x ∈ fl, J32 P n x.1 ((pvs.drop x.2).take (P.cellsOf x.1)) := by
  subst hm
  unfold J32 at h
  unfold fieldsOf at ht
  split at ht
  · rename_i fs hfs
    rw [hfs] at h
    injection ht with ht
    subst ht
    refine ⟨h.1, fun x hx => ?_⟩
    obtain ⟨f, hf, rfl⟩ := List.mem_map.1 hx
    exact h.2 f hf
  · cases ht
end
end Go.Am
end
section
namespace Go.Am
section
variable (P : Program)
def J8m (p : Ty → TypeId → Bool) : Nat → List (TypeId × Nat) → Ty → Bool
  | _, [], .u => true
  | _, [], _ => false
  | o, [f], a => decide (f.2 = o) && p a f.1 && decide (P.cellsOf f.1 = a.sz)
  | o, f :: g :: r, .pr a c => decide (f.2 = o) && p a f.1 && decide (P.cellsOf f.1 = a.sz) && J8m p (o + a.sz) (g :: r) c
  | _, _ :: _ :: _, _ => false
def JdO : Nat → Ty → TypeId → Bool
  | 0, _, _ => false
  | n + 1, ty, t => match fieldsOf P t with
    | some fs => J8m P (JdO n) 0 fs ty && decide (P.cellsOf t = ty.sz)
    | none => match P.underlying t, ty with
      | some .bool, .b => true
      | some (.int k), .i k' => decide (k = k')
      | some .string, .s => true
      | some (.slice e), .l a => JdO n a e && decide (P.cellsOf e = a.sz)
      | some (.array m e), .ar m' a => decide (m = m') && JdO n a e && decide (P.cellsOf e = a.sz) && decide (P.cellsOf t = m * a.sz)
      | _, _ => false
def Ty.inR : (t : Ty) → t.D → Prop
  | .b, _ => True
  | .i k, z => k.min ≤ z ∧ z ≤ k.max
  | .s, z => List.length z ≤ maxLen
  | .l t, z => List.length z ≤ maxLen ∧ ∀ x ∈ (z : List t.D), t.inR x
  | .pr a c, x => a.inR x.1 ∧ c.inR x.2
  | .ar n t, v => ∀ (i : Nat) (h : i < n), t.inR ((v : Vector t.D n)[i])
  | .u, _ => True
  | .f, _ => True
end
section
variable {P : Program}
theorem Jll {n : Nat} (ih : ∀ ty t, JdO P n ty t = true → Rd P n t (cel ty) ty.inR) : ∀ (o : Nat) (fs : List (TypeId × Nat)) (ty : Ty) (pvs : List PV), J8m P (JdO P n) o fs ty = true →
    (∀ x ∈ fs, J32 P n x.1 ((pvs.drop x.2).take (P.cellsOf x.1))) → ∃ x : ty.D, (pvs.drop o).take ty.sz = cel ty x ∧ ty.inR x
  | o, [], ty, pvs, h, _ => by
    cases ty with
    | u => exact ⟨(), by simp [Ty.sz, cel], trivial⟩
    | _ => simp [J8m] at h
  | o, [f], ty, pvs, h, hf => by
    simp only [J8m, Bool.and_eq_true, decide_eq_true_eq] at h
    obtain ⟨⟨h1, h2⟩, h3⟩ := h
    have := hf f (by simp)
    rw [h1, h3] at this
    obtain ⟨x, e, q⟩ := ih ty f.1 h2 _ this
    exact ⟨x, e, q⟩
  | o, f :: g :: r, ty, pvs, h, hf => by
    cases ty with
    | pr a c =>
      simp only [J8m, Bool.and_eq_true, decide_eq_true_eq] at h
      obtain ⟨⟨⟨h1, h2⟩, h3⟩, h4⟩ := h
      have := hf f (by simp)
      rw [h1, h3] at this
      obtain ⟨x, e, q⟩ := ih a f.1 h2 _ this
      obtain ⟨y, e', q'⟩ := Jll ih (o + a.sz) (g :: r) c pvs h4 (fun z hz => hf z (by simp [List.mem_cons.1 hz]))
      refine ⟨(x, y), ?_, q, q'⟩
      simp only [cel, Ty.sz]
      rw [← e, ← e', ← List.drop_drop, List.take_add]
    | _ => simp [J8m] at h
theorem rdT : ∀ (n : Nat) (ty : Ty) (t : TypeId), JdO P n ty t = true → Rd P n t (cel ty) ty.inR
  | 0, _, _, h => by cases h
  | n + 1, ty, t, h => by
    unfold JdO at h
    split at h
    · rename_i fs hfs
      simp only [Bool.and_eq_true, decide_eq_true_eq] at h
      intro pvs hp
      obtain ⟨hl, hf⟩ := Jnx rfl hfs hp
      obtain ⟨x, e, q⟩ := Jll (rdT n) 0 fs ty pvs h.1 hf
      rw [List.drop_zero, ← h.2, ← hl, List.take_length] at e
      exact ⟨x, e, q⟩
    · split at h
      · rename_i ht; exact JqA ht
      · rename_i k k' ht
        simp only [decide_eq_true_eq] at h; subst h
        exact Jsk ht
      · rename_i ht; exact Js3 ht
      · rename_i e a ht
        simp only [Bool.and_eq_true, decide_eq_true_eq] at h
        exact JoD ht h.2 (rdT n a e h.1)
      · rename_i m e m' a ht
        simp only [Bool.and_eq_true, decide_eq_true_eq] at h
        obtain ⟨⟨⟨h1, h2⟩, h3⟩, h4⟩ := h
        subst h1
        exact Joz ht h3 h4 (rdT n a e h2)
      · cases h
def JnQ (P : Program) (t : TypeId) : Bool := match P.underlying t with
  | some (.struct _) => true
  | some (.array _ _) => true
  | _ => false
def J9b (agg : Bool) (t : Ty) (x : t.D) : TA := if agg = true then .dt t x else .c (.d t x)
theorem J6y (L : Nat → Nat) {t : TypeId} {ty : Ty} {agg : Bool} (ha : JnQ P t = agg) (h1 : agg = false → ty.sz = 1) (x : ty.D) : Jmq P t (cel ty x) = J0k L (J9b agg ty x) := by
  unfold Jmq JnQ at *
  generalize P.underlying t = u at ha ⊢
  rcases u with _ | d
  · subst ha
    dsimp only
    rw [Jim (h1 rfl) x]
    rfl
  · cases d <;> first
      | (subst ha; rfl)
      | (subst ha; dsimp only; rw [Jim (h1 rfl) x]; rfl)
theorem Jfn {F : Orc} {f : FuncId} {g : Sig} {S : (tyL g.ti).D → Option (tyL g.to).D} {xs : List TA} {x : (tyL g.ti).D} {y : (tyL g.to).D} (he : EOk F (sigE f g S)) (hx : Jel g xs [] = some x) (hS : S x = some y)
    (hv : Jfv g y = some (.a (.c (.d .b true)), [])) : F f (xs.map (J0k (lns []))) [] = some (.p (.b true), []) := by
  have h : (sigE f g S).go xs [] (fun v out => some (v, out)) = some (TV.a (.c (.d .b true)), ([] : List (Bool × TB))) := by
    simp only [sigE, hx, hS, Option.bind_some, hv]
    cases g.same <;> rfl
  obtain ⟨v, out, h1, _, h3⟩ := he.ok h
  injection h3 with h3; injection h3 with h4 h5; subst h4 h5
  exact h1
end
end Go.Am
end
section
namespace Go.Am
set_option maxRecDepth 20000
set_option linter.unusedVariables false
set_option linter.unusedSimpArgs false
open Classical
theorem JdJ (n w k : Int) (hw : w < k) (hk : k ≤ 1099511627776) (hn : 1 ≤ n) : J2H n w (1, k, 0, 0, 0, 0) := ⟨rfl, rfl, hw, hk, by show (0 : Int) ≤ 0; omega, by show (0 : Int) < n; omega, by show (0 : Int) ≤ 0; omega, by show (0 : Int) < n; omega, by show (0 : Int) ≤ 0; omega, by show (0 : Int) < 256; omega, fun h => by cases h⟩
theorem JbZ {x : DT} {f : FT} (hv : VD x) (hf : J2H (J8 x.1) x.2.1 f) (hl : J8 x.2.2.2.2 < 64) : Jm4 x f = ((x.1, x.2.1, x.2.2.1, x.2.2.2.1, x.2.2.2.2 ++ [f]), 0) := by
  unfold Jm4
  rw [if_pos hv, if_pos hf, if_neg (by omega)]
theorem J9K {x : DT} {f : FT} (hv : VD x) (hf : J2H (J8 x.1) x.2.1 f) (hl : J8 x.2.2.2.2 < 64) : VD (x.1, x.2.1, x.2.2.1, x.2.2.2.1, x.2.2.2.2 ++ [f]) where
  p1 := hv.p1
  p64 := hv.p64
  w0 := hv.w0
  w1 := hv.w1
  f64 := by show J8 (x.2.2.2.2 ++ [f]) ≤ 64; rw [Joo, Jor]; omega
  page := hv.page
  rng := hv.rng
  adj := hv.adj
  flt := fun g hg => by
    rcases List.mem_append.1 hg with hg | hg
    · exact hv.flt g hg
    · rw [List.mem_singleton.1 hg]; exact hf
theorem JpU : (mkS 1 255 255 0 : Option (List Int)) = some (List.replicate 255 0) := rfl
theorem Jfp (a b : List UInt8) (h : a.length + b.length ≤ 1000000) : Jce a b = some (a ++ b) := by unfold Jce; rw [if_pos (by omega)]
theorem JcC : J0e () = some true := by
  refine J4O ?_
  unfold J0e
  refine .bind (Jv (Jca 1)) fun y2 e2 => ?_
  have n1 : J9m 1 = ((List.replicate 1 JK, 0, [], false, []), 0) := by unfold J9m; rw [if_pos (by decide)]; rfl
  rw [n1] at e2
  subst e2
  have v2 := J8k 1 0 (by decide) (by decide) (by decide) (by decide)
  have hf := JdJ (J8 (List.replicate 1 JK)) 0 2 (by decide) (by decide) (by decide)
  refine .bind (Jv (Jc2 _ _ (by show (0 : Int) ≤ _; decide))) fun y3 e3 => ?_
  rw [JbZ v2 hf (by show (0 : Int) < 64; decide)] at e3
  subst e3
  have v3 := J9K v2 hf (by show (0 : Int) < 64; decide)
  refine .bind (Jv JpU) fun y4 e4 => .bind (Jv (Jfp _ _ (by subst e4; simp [toStr]))) fun y5 e5 => .bind (Jv JpU) fun y6 e6 => .bind (Jv (Jfp _ _ (by subst e6; simp [toStr]))) fun y7 e7 => ?_
  have l5 : y5.length = 256 := by subst e5; subst e4; simp [toStr]
  have l7 : y7.length = 256 := by subst e7; subst e6; simp [toStr]
  clear e4 e5 e6 e7
  have hb : Byt [((1, 2, 0, 0, 0, 0) : FT)] := fun f hf => by rw [List.mem_singleton.1 hf]; exact ⟨by decide, by decide⟩
  refine .bind (Jv (J4T _ _ _ (by show (0 : Int) ≤ _; decide) hb)) fun y8 e8 => ?_
  rw [J8j v3 rfl (by decide) (by show (0 : Int) < 1; decide) l5 (by show (0 : Int) < _; decide)] at e8
  obtain ⟨-, v4, b4, p4, -, -⟩ := J92 v3 hb (p := 0) (by decide) (by show (0 : Int) < 1; decide) l5 (by show (0 : Int) < _; decide)
  have w4 : wM ((List.replicate 1 JK, 0, [], false, [] ++ [(1, 2, 0, 0, 0, 0)]) : DT) 0 y5 = ([y5], 1, [], false, [(1, 2, 0, 0, 0, 0)]) := rfl
  have w4' : wM ((List.replicate 1 JK, 0, [], false, [(1, 2, 0, 0, 0, 0)]) : DT) 0 y5 = ([y5], 1, [], false, [(1, 2, 0, 0, 0, 0)]) := rfl
  dsimp only at v4
  rw [w4] at v4
  rw [w4] at e8
  subst e8
  refine .bind (Jv (J4T _ _ _ (by show (0 : Int) ≤ _; decide) hb)) fun y9 e9 => ?_
  rw [J8j v4 rfl (by decide) (by show (0 : Int) < 1; decide) l7 (by show (1 : Int) < _; decide)] at e9
  obtain ⟨-, v5, -, -, -, -⟩ := J92 v4 hb (p := 0) (by decide) (by show (0 : Int) < 1; decide) l7 (by show (1 : Int) < _; decide)
  have w5 : wM (([y5], 1, [], false, [(1, 2, 0, 0, 0, 0)]) : DT) 0 y7 = ([y5], 2, [], false, []) := rfl
  rw [w5] at v5 e9
  subst e9
  refine .bind (Jv (J9t _ _ (by show (0 : Int) ≤ _; decide))) fun y10 e10 => ?_
  have r10 : J7C ([y5], 2, [], false, []) 0 = (y5, 0) := by
    unfold J7C
    rw [if_pos (JcK v5 rfl (by decide) (by show (0 : Int) < 1; decide)), if_neg (by simp)]
    rfl
  rw [r10] at e10
  subst e10
  exact .some (by simp [eqI, eqS])
theorem Jat {x0 : List Int} (w0 : Ty.inR (.l (.i .u8)) x0) : ∀ a ∈ x0, 0 ≤ a ∧ a ≤ 255 := fun a ha => by
  have := w0.2 a ha
  simpa [Ty.inR, IntKind.min, IntKind.max, IntKind.signed, IntKind.bits] using this
structure Qt (d : DT) : Prop where
  vd : VD d
  live : d.2.2.2.1 = false
  flt : d.2.2.2.2 = []
  unr : d.2.2.1 = []
theorem Je4 {d : DT} (h : Qt d) {p : Int} (h0 : 0 ≤ p) (h1 : p < J8 d.1) {s : List UInt8} (hs : s.length = 256) (hw : d.2.1 < 1099511627776) :
    Jj (d, p, s) = some ((d.1.set p.toNat s, d.2.1 + 1, [], false, []), 0) ∧ Qt (d.1.set p.toNat s, d.2.1 + 1, [], false, []) := by
  have hb : Byt d.2.2.2.2 := by rw [h.flt]; exact fun f hf => by cases hf
  have e := J4T d p s (by have := h.vd.unr; omega) hb
  rw [J8j h.vd h.live h0 h1 hs hw] at e
  have hv := (J92 h.vd hb h0 h1 hs hw).2.1
  have e2 : wM d p s = (d.1.set p.toNat s, d.2.1 + 1, [], false, []) := by
    have hn : J2f d = [] := by unfold J2f; rw [h.flt]; rfl
    unfold wM
    rw [hn]
    show J2q (J1X d) p.toNat s = _
    unfold J2q J1X
    rw [h.flt, h.unr, h.live]
    rfl
  rw [e2] at e hv
  exact ⟨e, hv, rfl, rfl, rfl⟩
theorem Jld {d : DT} (h : Qt d) {p : Int} (h0 : 0 ≤ p) (h1 : p < J8 d.1) : Jd (d, p) = some (d.1.getD p.toNat [], 0) := by
  rw [J9t d p (by have := h.vd.unr; omega)]
  unfold J7C
  rw [if_pos (JcK h.vd h.live h0 h1), if_neg (by rw [h.unr]; simp)]
theorem J82 {α : Type} {n : Nat} (v : Vector α n) (i j : Nat) (x : α) (hj : j < n) : (J0w v i x)[j] = if i = j then x else v[j] := by
  unfold J0w
  rw [Vector.getElem_setIfInBounds]
theorem JaX {x0 : List Int} (w0 : Ty.inR (.l (.i .u8)) x0) : J30 x0 = some true := by
  refine J4O ?_
  unfold J30
  refine .bind (Jv JcC) fun y2 d2 => .not (fun c => by rw [d2] at c; cases c) fun _ => ?_
  refine .bind (JcG x0 200 (by decide) (by decide) (Jat w0)) fun c h3 => .bind (Jv (Jca 4)) fun y4 e4 => ?_
  have n4 : J9m 4 = ((List.replicate 4 JK, 0, [], false, []), 0) := by unfold J9m; rw [if_pos (by decide)]; rfl
  rw [n4] at e4
  subst e4
  refine .ne (fun c => absurd rfl c) fun _ => ?_
  have q0 : Qt (List.replicate 4 JK, 0, [], false, []) := ⟨J8k 4 0 (by decide) (by decide) (by decide) (by decide), rfl, rfl, rfl⟩
  obtain ⟨hc, hc0, hcl⟩ := h3
  refine J6e (τ := Int × Vector (List UInt8) 4) (fun q => (q.1, c, (List.replicate 4 JK, 0, [], false, []), q.2)) (fun q => 0 ≤ q.1 ∧ q.1 ≤ 4 ∧ ∀ (j : Nat) (hj : j < 4), (j : Int) < q.1 → q.2[j] = JK) (fun q => 4 - q.1) ?_ (0, Vector.replicate 4 []) rfl ⟨Int.le_refl _, by show (0 : Int) ≤ 4; decide, fun j _ h => by have : (j : Int) < 0 := h; omega⟩
  rintro ⟨i, v⟩ ⟨g1, g2, g3⟩
  dsimp only at g1 g2 g3
  unfold J64
  dsimp only
  refine .lt (fun k => .bind (Jv Jju) fun y6 e6 => .bind (J7O (by omega) (by omega)) fun _ _ => .bind (P := fun _ => True) ⟨v[i.toNat]'(by omega), by unfold vat; exact Vector.getElem?_eq_getElem (by omega), trivial⟩ fun _ _ => .some ⟨(Ji .i64 i 1, J0w v i.toNat (toStr y6)), rfl, ⟨?_, ?_, ?_⟩, ?_⟩) fun k => .inr ?_
  · show 0 ≤ Ji .i64 i 1; rw [J3A g1 (by omega)]; omega
  · show Ji .i64 i 1 ≤ 4; rw [J3A g1 (by omega)]; omega
  · intro j hj hij
    show (J0w v i.toNat (toStr y6))[j] = JK
    have hij' : (j : Int) < Ji .i64 i 1 := hij
    rw [J3A g1 (by omega)] at hij'
    rw [J82]
    split
    · rw [e6, Jgy]
    · exact g3 j hj (by omega)
  · show 4 - Ji .i64 i 1 < 4 - i ∧ 0 ≤ 4 - i
    rw [J3A g1 (by omega)]; omega
  have g4 : ∀ (j : Nat) (hj : j < 4), v[j] = JK := fun j hj => g3 j hj (by omega)
  refine J6e (τ := Int × J4 × DT × Vector (List UInt8) 4) (fun q => q)
    (fun q => J5T q.2.1 ∧ J8 q.2.1.1 ≤ 200 ∧ q.1 ≤ q.2.1.2 ∧ q.2.2.1.2.1 = q.1 ∧ Qt q.2.2.1 ∧ J8 q.2.2.1.1 = 4 ∧ ∀ (j : Nat) (hj : j < 4), q.2.2.1.1[j]? = some q.2.2.2[j]) (fun q => J8 q.2.1.1 - q.2.1.2) ?_ (0, c, (List.replicate 4 JK, 0, [], false, []), v) rfl
    ⟨hc, hcl, by show 0 ≤ c.2; omega, rfl, q0, rfl, fun j hj => by show (List.replicate 4 JK)[j]? = some v[j]; rw [g4 j hj, List.getElem?_replicate, if_pos hj]⟩
  rintro ⟨n, c, d, v⟩ ⟨hc, hcl, hn, hw, hq, hl, hv⟩
  dsimp only at hc hcl hn hw hq hl hv
  unfold J65
  dsimp only
  refine .bind (Jv (JqK c hc)) fun y10 e10 => ?_
  subst e10
  have hc0 := hc.at0
  have hnn := hq.vd.w0
  have es := JlN (J8 c.1) c.2
  have hl0 : (0 : Int) ≤ J8 c.1 := J4l
  have hhi := hc.hi
  dsimp only
  refine .gt (fun k => ?_) fun k => .inr ?_
  · refine .bind (J2P 4 c hc) fun y11 h11 => ?_
    have k1 := h11.2.1 (by omega) (by decide)
    have k2 := h11.2.2.1
    have k3 := h11.2.2.2 (by decide)
    refine .bind (J43 y11.2 (hc.to h11.1)) fun y12 h12 => ?_
    obtain ⟨e13, q13⟩ := Je4 hq (p := y11.1) k2 (by omega) h12.2 (by omega)
    refine .bind (Jv e13) fun y13 e => ?_
    subst e
    have hp : y11.1.toNat < 4 := by omega
    refine .ne (fun c => absurd rfl c) fun _ => .bind (J7O (by omega) (by omega)) fun _ _ => .bind (P := fun _ => True) ⟨v[y11.1.toNat]'hp, by unfold vat; exact Vector.getElem?_eq_getElem hp, trivial⟩ fun _ _ => .some
      ⟨(Ji .i64 n 1, y12.2, (d.1.set y11.1.toNat y12.1, d.2.1 + 1, [], false, []), J0w v y11.1.toNat y12.1), rfl, ?_, ?_⟩
    · have t := h11.1.trans h12.1
      have m1 := h12.1.mono
      refine ⟨hc.to t, by rw [t.list]; exact hcl, ?_, ?_, q13, ?_, fun j hj => ?_⟩
      · show Ji .i64 n 1 ≤ y12.2.2; rw [J3A (by omega) (by omega)]; omega
      · show d.2.1 + 1 = Ji .i64 n 1; rw [J3A (by omega) (by omega), hw]
      · show J8 (d.1.set _ _) = 4; unfold J8 at hl ⊢; rw [List.length_set]; exact hl
      · show (d.1.set y11.1.toNat y12.1)[j]? = some (J0w v y11.1.toNat y12.1)[j]
        rw [J82, List.getElem?_set]
        have hdl : d.1.length = 4 := by unfold J8 at hl; omega
        split
        · rw [if_pos (by omega)]
        · exact hv j hj
    · have t := h11.1.trans h12.1
      have m1 := h12.1.mono
      show J8 y12.2.1 - y12.2.2 < J8 c.1 - c.2 ∧ 0 ≤ J8 c.1 - c.2
      rw [t.list]
      omega
  · refine J3j (fun i => (n, i, c, d, v)) 4 (fun _ => True) (by decide) trivial fun i g1 g2 _ => ?_
    unfold J6b
    dsimp only
    refine .lt (fun k => .bind (Jv (Jld hq g1 (by omega))) fun y17 e17 => ?_) fun k => .some (Jgm.2 hw)
    subst e17
    refine .nef (fun _ => .bind (J7O (by omega) (by omega)) fun _ _ => .bind (Jv (v := v[i.toNat]'(by omega)) (by unfold vat; exact Vector.getElem?_eq_getElem (by omega))) fun y19 e19 => ?_) fun c => absurd rfl c
    have hvi := hv i.toNat (by omega)
    have : neS (d.1.getD i.toNat []) y19 = false := by rw [JfK hvi, e19]; simp [neS]
    dsimp only
    rw [this]
    exact .some ⟨by rw [J3A g1 (by omega)], trivial, k⟩
end Go.Am
end
section
namespace Go.Am
theorem JjF {α : Type} {n : Nat} : ∀ {l m : List (List α)}, (∀ x ∈ l, x.length = n) → (∀ x ∈ m, x.length = n) → l.length = m.length → l.flatten = m.flatten → l = m
  | [], [], _, _, _, _ => rfl
  | [], _ :: _, _, _, h, _ => by simp at h
  | _ :: _, [], _, _, h, _ => by simp at h
  | x :: l, y :: m, hl, hm, h, e => by
    simp only [List.flatten_cons] at e
    have h1 := hl x List.mem_cons_self
    have h2 := hm y List.mem_cons_self
    obtain ⟨e1, e2⟩ := List.append_inj e (by omega)
    subst e1
    rw [JjF (fun z hz => hl z (List.mem_cons_of_mem _ hz)) (fun z hz => hm z (List.mem_cons_of_mem _ hz)) (by simpa using h) e2]
theorem JdV {α β : Type} {f : α → β} (hf : ∀ x y, f x = f y → x = y) : ∀ {l m : List α}, l.map f = m.map f → l = m
  | [], [], _ => rfl
  | [], _ :: _, h => by simp at h
  | _ :: _, [], h => by simp at h
  | x :: l, y :: m, h => by
    simp only [List.map_cons, List.cons.injEq] at h
    rw [hf _ _ h.1, JdV hf h.2]
theorem J9E : ∀ (t : Ty) (x y : t.D), cel t x = cel t y → x = y
  | .b, x, y, h => by simp only [cel, List.cons.injEq, PV.b.injEq, and_true] at h; exact h
  | .i k, x, y, h => by simp only [cel, List.cons.injEq, PV.i.injEq, and_true, true_and] at h; exact h
  | .s, x, y, h => by simp only [cel, List.cons.injEq, PV.s.injEq, and_true] at h; exact h
  | .l t, x, y, h => by
    simp only [cel, List.cons.injEq, PV.sl.injEq, and_true, true_and] at h
    exact JdV (J9E t) h
  | .pr a c, x, y, h => by
    simp only [cel] at h
    obtain ⟨e1, e2⟩ := List.append_inj h (by rw [J0l, J0l])
    exact Prod.ext (J9E a _ _ e1) (J9E c _ _ e2)
  | .ar n t, x, y, h => by
    have h2 : (x.toList.map (cel t)).flatten = (y.toList.map (cel t)).flatten := h
    have h3 := JjF (n := t.sz) (fun z hz => by obtain ⟨q, _, rfl⟩ := List.mem_map.1 hz; exact J0l t q) (fun z hz => by obtain ⟨q, _, rfl⟩ := List.mem_map.1 hz; exact J0l t q) (by simp) h2
    exact Vector.toList_inj.1 (JdV (J9E t) h3)
  | .u, _, _, _ => rfl
  | .f, _, _, _ => rfl
open Classical in
noncomputable def unc (t : Ty) (cs : List PV) : Option t.D := if h : ∃ x : t.D, cel t x = cs then some (Classical.choose h) else none
theorem Jnv (t : Ty) (x : t.D) : unc t (cel t x) = some x := by
  unfold unc
  have h : ∃ z : t.D, cel t z = cel t x := ⟨x, rfl⟩
  rw [dif_pos h, J9E t _ _ (Classical.choose_spec h)]
theorem JiW {t : Ty} {cs : List PV} {x : t.D} (h : unc t cs = some x) : cel t x = cs := by
  unfold unc at h
  split at h
  · rename_i hx; injection h with h; rw [← h]; exact Classical.choose_spec hx
  · cases h
noncomputable def Jdx (t : Ty) (S : t.D × Int × List UInt8 → Option t.D) : Prm
  | [.data cs, .p (.i .i64 n), .p (.s l)], blks => (unc t cs).bind fun x => (S (x, n, l)).map fun y => (.data (cel t y), blks)
  | _, _ => none
noncomputable def JdL (t : Ty) (S : t.D × Int × List UInt8 → Option (t.D × Int)) : Prm
  | [.data cs, .p (.i .i64 n), .p (.s l)], blks => (unc t cs).bind fun x => (S (x, n, l)).map fun y => (.tup [.data (cel t y.1), .p (.i .i64 y.2)], blks)
  | _, _ => none
theorem Jre {t : Ty} {S : t.D × Int × List UInt8 → Option t.D} (x : t.D) (n : Int) (l : List UInt8) (blks : List Blk) : Jdx t S [.data (cel t x), .p (.i .i64 n), .p (.s l)] blks = (S (x, n, l)).map fun y => (.data (cel t y), blks) := by
  show (unc t (cel t x)).bind _ = _
  rw [Jnv]; rfl
theorem Jr5 {t : Ty} {S : t.D × Int × List UInt8 → Option (t.D × Int)} (x : t.D) (n : Int) (l : List UInt8) (blks : List Blk) : JdL t S [.data (cel t x), .p (.i .i64 n), .p (.s l)] blks = (S (x, n, l)).map fun y => (.tup [.data (cel t y.1), .p (.i .i64 y.2)], blks) := by
  show (unc t (cel t x)).bind _ = _
  rw [Jnv]; rfl
theorem JqH {P : Program} {f : FuncId} {t : Ty} {S : t.D × Int × List UInt8 → Option t.D}
    (hw : ∀ x n l y blks, S (x, n, l) = some y → J1W P f [.data (cel t x), .p (.i .i64 n), .p (.s l)] blks (.data (cel t y), blks)) (args : List AV) (blks : List Blk) (r : Res) (h : Jdx t S args blks = some r) : J1W P f args blks r := by
  unfold Jdx at h
  split at h
  · rename_i cs n l
    obtain ⟨x, hx, h⟩ := Option.bind_eq_some_iff.1 h
    obtain ⟨y, hy, rfl⟩ := Option.map_eq_some_iff.1 h
    have := hw _ _ _ _ blks hy
    rwa [JiW hx] at this
  · cases h
theorem Jq9 {P : Program} {f : FuncId} {t : Ty} {S : t.D × Int × List UInt8 → Option (t.D × Int)}
    (hw : ∀ x n l y blks, S (x, n, l) = some y → J1W P f [.data (cel t x), .p (.i .i64 n), .p (.s l)] blks (.tup [.data (cel t y.1), .p (.i .i64 y.2)], blks)) (args : List AV) (blks : List Blk) (r : Res) (h : JdL t S args blks = some r) : J1W P f args blks r := by
  unfold JdL at h
  split at h
  · rename_i cs n l
    obtain ⟨x, hx, h⟩ := Option.bind_eq_some_iff.1 h
    obtain ⟨y, hy, rfl⟩ := Option.map_eq_some_iff.1 h
    have := hw _ _ _ _ blks hy
    rwa [JiW hx] at this
  · cases h
def Jgq (t : Ty) : Sig := ⟨[.dt t, .c (.d (.i .i64)), .c (.d .s)], [], [t, .i .i64, .s], .a (.dt t), [], [], [t]⟩
def JlG (t : Ty) : Sig := ⟨[.dt t, .c (.d (.i .i64)), .c (.d .s)], [], [t, .i .i64, .s], .tup [.dt t, .c (.d (.i .i64))], [], [], [t, .i .i64]⟩
theorem Jno (t : Ty) (x : t.D × Int × List UInt8) : J11 (Jgq t) x = some ([.dt t x.1, .c (.d (.i .i64) x.2.1), .c (.d .s x.2.2)], []) := by
  have h : ∀ r, lf1 t (⟨t, x.1⟩ :: r) = some (x.1, r) := JiK t x.1
  show (match mkL mkA [.dt t, .c (.d (.i .i64)), .c (.d .s)] [(⟨t, x.1⟩ : Lf), ⟨.i .i64, x.2.1⟩, ⟨.s, x.2.2⟩] with
    | some (xs, l) => match mkL mkB (Jgq t).blks l with
      | some (bl, []) => some (xs, bl)
      | _ => none
    | none => none) = _
  simp only [mkL, mkA, mkC, h]
  rfl
theorem Jrn {T : J1P} {f : FuncId} {t : Ty} {S : t.D × Int × List UInt8 → Option t.D} (hf : T f = some (.prim (Jdx t S))) : EOk (AF T) (sigE f (Jgq t) S) := by
  refine J8D rfl fun x xs bl y hx hy => ?_
  rw [Jno t x] at hx
  injection hx with hx; injection hx with h1 h2; subst h1 h2
  refine ⟨.a (.dt t y), [], ?_, ?_⟩
  · rw [JcA hf]
    refine (Jre x.1 x.2.1 x.2.2 []).trans ?_
    rw [show S (x.1, x.2.1, x.2.2) = some y from hy]
    rfl
  · show (if (ShV.a (.dt t) = (Jgq t).res ∧ ([] : List ShB) = (Jgq t).out) then asL [t] [⟨t, y⟩] else none) = some y
    rw [if_pos ⟨rfl, rfl⟩]
    simp [asL, JbD]
    rfl
theorem JqR {T : J1P} {f : FuncId} {t : Ty} {S : t.D × Int × List UInt8 → Option (t.D × Int)} (hf : T f = some (.prim (JdL t S))) : EOk (AF T) (sigE f (JlG t) S) := by
  refine J8D rfl fun x xs bl y hx hy => ?_
  rw [show J11 (JlG t) x = J11 (Jgq t) x from rfl, Jno t x] at hx
  injection hx with hx; injection hx with h1 h2; subst h1 h2
  refine ⟨.tup [.dt t y.1, .c (.d (.i .i64) y.2)], [], ?_, ?_⟩
  · rw [JcA hf]
    refine (Jr5 x.1 x.2.1 x.2.2 []).trans ?_
    rw [show S (x.1, x.2.1, x.2.2) = some y from hy]
    rfl
  · show (if (ShV.tup [.dt t, .c (.d (.i .i64))] = (JlG t).res ∧ ([] : List ShB) = (JlG t).out) then asL [t, .i .i64] [⟨t, y.1⟩, ⟨.i .i64, y.2⟩] else none) = some y
    rw [if_pos ⟨rfl, rfl⟩]
    simp [asL, JbD]
    rfl
end Go.Am
end
section
set_option linter.unusedSimpArgs false
set_option linter.unusedVariables false
namespace Go.Am
open Go.RowKit
theorem Jmk {σ : List Blk} {g : Gh} {w w' : World} (hi : Inv ⟨σ, g, w⟩) (hb : Below w.heap.size w w') (p : Nat → Nat → Prop) (hp : ∀ r o, p r o → w.heap.size ≤ r ∧ r < w'.heap.size) :
    Inv ⟨σ, J5P g p, w'⟩ ∧ Jx ⟨σ, g, w⟩ ⟨σ, J5P g p, w'⟩ := by
  have hk : ∀ (r : Nat) x, w.heap[r]? = some x → w'.heap[r]? = some x := fun r x h => by rw [hb.block r (J0p h)]; exact h
  have hc : ∀ r o v, cellAt w r o = some v → cellAt w' r o = some v := by
    intro r o v h
    have hr : r < w.heap.size := by
      unfold cellAt at h
      split at h
      · rename_i hx; exact J0p hx
      · cases h
    unfold cellAt at h ⊢
    rw [hb.block r hr]
    exact h
  have t : Jx ⟨σ, g, w⟩ ⟨σ, J5P g p, w'⟩ := by
    refine ⟨⟨hb.size, fun r c e fz h => ⟨c, hk r _ h, rfl, fun _ _ => rfl⟩, fun r x h _ => hk r x h, hb.os, hb.output⟩, fun _ _ h => .inl h, fun r o h => ?_, fun r o ⟨b, hb⟩ => .inl ⟨b, hb⟩, Nat.le_refl _, fun _ cs h => ⟨⟨cs, h, rfl⟩, rfl⟩,
      fun _ wm _ rows h => ⟨wm, rows, h, id, Nat.le_refl _, fun _ => rfl⟩⟩
    rcases h with h | h
    · exact .inl h
    · exact .inr (.inr (hp r o h).1)
  refine ⟨J4g hi t (fun _ => False) (fun _ _ => ⟨rfl, rfl⟩) (fun _ r o v _ _ h => hc r o v h) (fun _ _ h => h.elim) (fun _ _ _ _ h => h.elim)
    (fun _ _ _ _ h => h.elim) ?_ (fun _ _ _ _ h => h.elim) ?_, t⟩
  · intro r o hc
    rcases hc with hc | hc
    · exact Nat.lt_of_lt_of_le (hi.const r o hc).1 hb.size
    · exact (hp r o hc).2
  · intro r o b hc hn _ h
    rcases hc with hc | hc
    · exact hn hc
    · have h1 : r < w.heap.size := J80 hi b r o h
      have h2 := (hp r o hc).1
      omega
def JdU (args : List AV) (blks : List Blk) : Option Res :=
  match args with
  | [.p (.sl 1 [[.s l]]), .p (.i .i64 n)] => if 1 ≤ n ∧ n ≤ 1000 then some (.p (.sl 1 (List.replicate n.toNat [.s l])), blks) else none
  | _ => none
theorem Js2 {P : Program} {f : FuncId} (hf : ∃ fn, P.funcs[f]? = some fn ∧ fn.body.isSome = true ∧ (fn.name == "runtime.NumGoroutine") = false)
    (hw : ∀ (b o xc n : Nat) (v : Value) (w : World), 1 ≤ n → n ≤ 1000 → w.cell? ⟨b, o, none⟩ = some v → v.oneCell' = true →
      Calls P f #[.slice (some ⟨b, o, none⟩) 1 xc, .int .i64 n] w fun e w' => e = .returned (.slice (some ⟨w.heap.size, 0, none⟩) n n) ∧ Below w.heap.size w w' ∧ ∀ j, j < n → w'.cell? ⟨w.heap.size, j, none⟩ = some v) :
    ∀ args blks r, JdU args blks = some r → J1W P f args blks r := by
  intro args blks r h
  unfold JdU at h
  split at h
  · rename_i l n
    split at h
    · rename_i hn
      injection h with h
      subst h
      refine ⟨hf, fun g w vals hi hl hr => ?_⟩
      obtain ⟨v0, v1, rfl⟩ : ∃ v0 v1, vals = #[v0, v1] := by
        obtain ⟨x⟩ := vals
        match x, hl with
        | [a, b], _ => exact ⟨a, b, rfl⟩
      have h0 : Jf ⟨blks, g, w⟩ (.p (.sl 1 [[.s l]])) v0 := hr 0 _ _ rfl rfl
      have h1 : Jf ⟨blks, g, w⟩ (.p (.i .i64 n)) v1 := hr 1 _ _ rfl rfl
      obtain ⟨k, rfl⟩ : ∃ k : Nat, n = (k : Int) := ⟨n.toNat, by omega⟩
      cases h1 with
      | p _ _ h1 =>
      cases h1
      cases h0 with
      | p _ _ h0 =>
      cases h0 with
      | sl _ _ r o cap vals c1 c2 c3 c4 =>
        have hc := (c3 0 0 [.s l] (.s l) rfl rfl).2
        have hv := c4 0 0 [.s l] (.s l) rfl rfl
        generalize vals 0 0 = u at hc hv
        cases hv
        refine (hw r o cap k (.string ⟨l.toArray⟩) w (by omega) (by omega) (by rw [J22]; exact hc) rfl).mono ?_
        rintro e w' ⟨rfl, hb, hcs⟩
        have hlt : w.heap.size < w'.heap.size := by
          have h0 := hcs 0 (by omega)
          rw [J22] at h0
          unfold cellAt at h0
          split at h0
          · rename_i hx; exact J0p hx
          · cases h0
        obtain ⟨i2, t2⟩ := Jmk hi hb (fun r o => r = w.heap.size) (fun r o h => ⟨Nat.le_of_eq h.symm, by rw [h]; exact hlt⟩)
        refine ⟨_, _, rfl, i2, t2, .p _ _ ?_⟩
        simp only [Int.toNat_natCast]
        have hx : Jp w' (J5P g fun r o => r = w.heap.size).C (.sl 1 (List.replicate k [.s l])) (.slice (some ⟨w.heap.size, 0, none⟩) (List.replicate k [PV.s l]).length k) := by
          refine .sl 1 _ w.heap.size 0 k (fun _ _ => .string ⟨l.toArray⟩) (by simp) (fun row h => by rw [List.eq_of_mem_replicate h]; rfl) (fun i j row x hrow hx => ?_) (fun i j row x hrow hx => ?_)
          · rw [List.getElem?_replicate] at hrow
            split at hrow
            · rename_i hi
              injection hrow with hrow
              subst hrow
              cases j with
              | zero =>
                refine ⟨.inr rfl, ?_⟩
                rw [← J22]
                simpa using hcs i hi
              | succ j => simp at hx
            · cases hrow
          · rw [List.getElem?_replicate] at hrow
            split at hrow
            · injection hrow with hrow
              subst hrow
              cases j with
              | zero => simp at hx; subst hx; exact .s _
              | succ j => simp at hx
            · cases hrow
        rw [List.length_replicate] at hx
        exact hx
    · cases h
  · cases h
end Go.Am
end
section
namespace Go.Am
open Go.RowKit
structure Up (B : Nat) (w w' : World) : Prop where
  size : w.heap.size ≤ w'.heap.size
  block : ∀ k, k < B → w'.heap[k]? = w.heap[k]?
  os : w'.os = w.os
  output : w'.output = w.output
theorem Up.refl (B : Nat) (w : World) : Up B w w := ⟨Nat.le_refl _, fun _ _ => rfl, rfl, rfl⟩
theorem Up.trans {B : Nat} {a b c : World} (h : Up B a b) (k : Up B b c) : Up B a c :=
  ⟨Nat.le_trans h.size k.size, fun i hi => (k.block i hi).trans (h.block i hi), k.os.trans h.os, k.output.trans h.output⟩
theorem Up.mono {B B' : Nat} {a b : World} (h : Up B a b) (hB : B' ≤ B) : Up B' a b := ⟨h.size, fun k hk => h.block k (Nat.lt_of_lt_of_le hk hB), h.os, h.output⟩
theorem Up.of_below {B : Nat} {a b : World} (h : Below B a b) : Up B a b := ⟨h.size, h.block, h.os, h.output⟩
theorem Up.drew {B : Nat} {a b : World} (h : Up B a b) : Up B a b.drew := ⟨h.size, h.block, h.os, h.output⟩
theorem Up.alloc {B : Nat} {a b : World} (h : Up B a b) (hB : B ≤ b.heap.size) (o : Obj) : Up B a (b.alloc o) :=
  h.trans (.of_below ((Below.refl B b).alloc hB o))
theorem Up.setCell {B : Nat} {a b : World} (h : Up B a b) {p : Addr} (hp : B ≤ p.block) (u : Value) : Up B a (b.setCell p u) :=
  h.trans (.of_below ((Below.refl B b).setCell hp u))
theorem Up.cellAt {B : Nat} {a b : World} (h : Up B a b) {r o : Nat} (hr : r < B) : cellAt b r o = cellAt a r o := by
  unfold Go.Am.cellAt; rw [h.block r hr]
theorem J4I {w : World} {r o : Nat} {v : Value} (h : cellAt w r o = some v) : r < w.heap.size := by
  unfold cellAt at h
  split at h
  · rename_i hx; exact J0p hx
  · cases h
theorem Jp.keeps {w w' : World} {C C' : Nat → Nat → Prop} (hs : ∀ r o u, C r o → cellAt w r o = some u → C' r o ∧ cellAt w' r o = some u) {x : PV} {v : Value} (h : Jp w C x v) : Jp w' C' x v := by
  induction h with
  | b x => exact .b x
  | i k n => exact .i k n
  | s l => exact .s l
  | np => exact .np
  | nf => exact .nf
  | sl0 e a c => exact .sl0 e a c
  | sl esz rows r o cap vals h1 h2 h3 _ ih => exact .sl esz rows r o cap vals h1 h2 (fun i j row x hi hj => hs _ _ _ (h3 i j row x hi hj).1 (h3 i j row x hi hj).2) ih
  | slc esz rows a _ ih => exact .slc esz rows a ih
theorem Jp.up {w w' : World} {C C' : Nat → Nat → Prop} (hu : Up w.heap.size w w') (hC : ∀ r o, C r o → r < w.heap.size → C' r o) {x : PV} {v : Value} (h : Jp w C x v) : Jp w' C' x v :=
  h.keeps fun r o u hc hu' => ⟨hC r o hc (J4I hu'), by rw [hu.cellAt (J4I hu')]; exact hu'⟩
theorem JqM {g g' : Gh} {w w' : World} (t : Jx ⟨[], g, w⟩ ⟨[], g', w'⟩) : Up w.heap.size w w' := by
  have hno : ∀ r o, ¬ Wr (⟨[], g, w⟩ : Sn) r o := fun r o ⟨b, hb⟩ => by simp [Wr1] at hb
  obtain ⟨h1, h2, h3, h4, h5⟩ := t.keep
  refine ⟨h1, fun k hk => ?_, h4, h5⟩
  have hk' : w.heap[k]? = some w.heap[k] := Array.getElem?_eq_getElem hk
  cases e : w.heap[k] with
  | cells c t' fz =>
    rw [e] at hk'
    obtain ⟨c', e1, e2, e3⟩ := h2 k c t' fz hk'
    have : c' = c := Array.ext_getElem? fun i => e3 i (hno k i)
    show w'.heap[k]? = w.heap[k]?
    rw [hk', ← this]; exact e1
  | _ => rw [e] at hk'; show w'.heap[k]? = w.heap[k]?; rw [hk']; exact h3 k _ hk' (fun _ _ _ h => by cases h)
def ghC (C : Nat → Nat → Prop) (w : World) : Gh := J5P ⟨fun _ => none, fun _ _ => False⟩ fun r o => C r o ∧ r < w.heap.size
theorem Jrl (C : Nat → Nat → Prop) (w : World) : Inv ⟨[], ghC C w, w⟩ :=
  ⟨fun b cs h => by simp at h, fun b wm e r h => by simp at h, fun b1 b2 r o h => by simp [Wr1] at h, fun r o h => by
    rcases h with h | h
    · exact h.elim
    · exact ⟨h.2, fun b hb => by simp [Wr1] at hb⟩⟩
theorem JmQ {P : Program} {f : FuncId} {args : List AV} {r : AV} {blks : List Blk} (h : J1W P f args [] (r, blks)) (hb : blks = []) {w : World} (C : Nat → Nat → Prop) {vals : Array Value} (hl : args.length = vals.size)
    (ha : ∀ (i : Nat) x v, args[i]? = some x → vals[i]? = some v → Jf ⟨[], ghC C w, w⟩ x v) :
    Calls P f vals w fun e w' => ∃ v g', e = .returned v ∧ Up w.heap.size w w' ∧ Jf ⟨[], g', w'⟩ r v ∧ ∀ r o, g'.C r o → C r o ∨ w.heap.size ≤ r := by
  subst hb
  refine (h.2 (ghC C w) w vals (Jrl C w) hl ha).mono ?_
  rintro e w' ⟨v, g', he, hi, t, hr⟩
  refine ⟨v, g', he, JqM t, hr, fun r o hc => ?_⟩
  rcases t.cnew r o hc with h | ⟨b, hb⟩ | h
  · rcases h with h | h
    · exact h.elim
    · exact .inl h.1
  · simp [Wr1] at hb
  · exact .inr h
theorem JpN {σ : List Blk} {g : Gh} {w w' : World} (hi : Inv ⟨σ, g, w⟩) (hb : Up w.heap.size w w') (p : Nat → Nat → Prop) (hp : ∀ r o, p r o → w.heap.size ≤ r ∧ r < w'.heap.size) :
    Inv ⟨σ, J5P g p, w'⟩ ∧ Jx ⟨σ, g, w⟩ ⟨σ, J5P g p, w'⟩ := by
  have hk : ∀ (r : Nat) x, w.heap[r]? = some x → w'.heap[r]? = some x := fun r x h => by rw [hb.block r (J0p h)]; exact h
  have hc : ∀ r o v, cellAt w r o = some v → cellAt w' r o = some v := fun r o v h => by rw [hb.cellAt (J4I h)]; exact h
  have t : Jx ⟨σ, g, w⟩ ⟨σ, J5P g p, w'⟩ := by
    refine ⟨⟨hb.size, fun r c e fz h => ⟨c, hk r _ h, rfl, fun _ _ => rfl⟩, fun r x h _ => hk r x h, hb.os, hb.output⟩, fun _ _ h => .inl h, fun r o h => ?_, fun r o ⟨b, hb⟩ => .inl ⟨b, hb⟩, Nat.le_refl _, fun _ cs h => ⟨⟨cs, h, rfl⟩, rfl⟩,
      fun _ wm _ rows h => ⟨wm, rows, h, id, Nat.le_refl _, fun _ => rfl⟩⟩
    rcases h with h | h
    · exact .inl h
    · exact .inr (.inr (hp r o h).1)
  refine ⟨J4g hi t (fun _ => False) (fun _ _ => ⟨rfl, rfl⟩) (fun _ r o v _ _ h => hc r o v h) (fun _ _ h => h.elim) (fun _ _ _ _ h => h.elim)
    (fun _ _ _ _ h => h.elim) ?_ (fun _ _ _ _ h => h.elim) ?_, t⟩
  · intro r o hc
    rcases hc with hc | hc
    · exact Nat.lt_of_lt_of_le (hi.const r o hc).1 hb.size
    · exact (hp r o hc).2
  · intro r o b hc hn _ h
    rcases hc with hc | hc
    · exact hn hc
    · have h1 : r < w.heap.size := J80 hi b r o h
      have h2 := (hp r o hc).1
      omega
end Go.Am
end
section
namespace Go.Am
def Js7 : Sig := ⟨[.c (.d (.l .s)), .c (.d (.i .i64))], [], [.l .s, .i .i64], .a (.c (.d (.l .s))), [], [], [.l .s]⟩
theorem Jr9 (l : List (List UInt8)) (n : Int) (y : List (List UInt8)) (hy : Jgh (l, n) = some y) : JdU [.p (.sl 1 (l.map (cel .s))), .p (.i .i64 n)] [] = some (AV.p (.sl 1 (y.map (cel .s))), []) := by
  unfold Jgh at hy
  dsimp only at hy
  split at hy
  · rename_i l
    split at hy
    · rename_i hn
      injection hy with hy; subst hy
      show (if 1 ≤ n ∧ n ≤ 1000 then some (AV.p (.sl 1 (List.replicate n.toNat [.s l])), ([] : List Blk)) else none) = _
      rw [if_pos hn, List.map_replicate]
      rfl
    · cases hy
  · cases hy
theorem Jr4 {T : J1P} {f : FuncId} (hf : T f = some (.prim JdU)) : EOk (AF T) (sigE f Js7 Jgh) := by
  refine J8D rfl fun x xs bl y hx hy => ?_
  rw [show J11 Js7 x = some ([.c (.d (.l .s) x.1), .c (.d (.i .i64) x.2)], []) from rfl] at hx
  injection hx with hx; injection hx with h1 h2; subst h1 h2
  refine ⟨.a (.c (.d (.l .s) y)), [], ?_, rfl⟩
  rw [JcA hf]
  exact Jr9 x.1 x.2 y hy
end Go.Am
end
section
namespace Go.Am
set_option maxRecDepth 20000
def lkA {α : Type} (f : FuncId) : List (FuncId × α) → Option α
  | [] => none
  | (g, a) :: r => if f = g then some a else lkA f r
noncomputable def fns : List (FuncId × AFn) := [(J0V, erF J3L), (J1T, erF J4y), (J0m, erF J5c), (J0H, erF J3G), (J0X, erF J3I), (JM, erF J0E), (JJ, erF J0q), (J00, erF J19), (JW, erF J0R), (J0z, erF J5f), (JT, erF J4x), (J1i, erF J5b), (J02, erF J6m), (J15, erF J4A), (J0Q, erF J2d), (J0u, erF J1O), (JZ, erF J5F), (i_draw_Codes_Next, erF J3M), (Jr, erF J3o), (J29, erF J8v), (J3g, erF J7n), (J1k, erF J3K), (J0N, erF J7X), (J0a, erF J5B), (J4E, erF JbQ), (J23, erF J5z), (J1p, erF J5x), (J5h, erF J9G), (J51, erF J9u), (J7h, erF Jdo), (J9h, erF Jde), (J3O, erF J9F), (J8x, erF JbP), (J6s, erF J8H), (J38, erF JaS), (J8s, erF Jbp), (J5A, erF JaP), (J6M, erF J6K), (J2X, erF J2U), (J3k, erF J3w), (J1c, erF J5D), (J2W, erF J2Z), (J1J, erF J4c), (J7z, erF J7A), (J6L, erF J6J), (JaV, erF JaU), (J95, erF J8W), (Jbl, erF Jbi), (JbU, erF Jcl), (J3n, erF J3q)]
noncomputable def fks : List (FuncId × J5Q) := [(Ju, J8i J6 48)]
noncomputable def fps : List (FuncId × Prm) := [(J0t, JdU), (J2a, Jji), (J3T, Jdx J3 Jif)]
abbrev PS := FuncId → Option (List AV → List Blk → Option Res)
noncomputable def JR (p : PS) : J1P := fun f => JrX (lkA f fns) (lkA f fks) (lkA f fps) (p f)
theorem JcZ (p : PS) : JR p J0V = some (.fn (erF J3L)) := rfl
theorem Jf9 (p : PS) : JR p J1T = some (.fn (erF J4y)) := rfl
theorem Jgs (p : PS) : JR p J0m = some (.fn (erF J5c)) := rfl
theorem Jda (p : PS) : JR p J0H = some (.fn (erF J3G)) := rfl
theorem Jd7 (p : PS) : JR p J0X = some (.fn (erF J3I)) := rfl
theorem J4r (p : PS) : JR p JM = some (.fn (erF J0E)) := rfl
theorem J3Y (p : PS) : JR p JJ = some (.fn (erF J0q)) := rfl
theorem J5M (p : PS) : JR p J00 = some (.fn (erF J19)) := rfl
theorem J5d (p : PS) : JR p JW = some (.fn (erF J0R)) := rfl
theorem Jg7 (p : PS) : JR p J0z = some (.fn (erF J5f)) := rfl
theorem JeG (p : PS) : JR p JT = some (.fn (erF J4x)) := rfl
theorem Jgl (p : PS) : JR p J1i = some (.fn (erF J5b)) := rfl
theorem Jj4 (p : PS) : JR p J02 = some (.fn (erF J6m)) := rfl
theorem JeP (p : PS) : JR p J15 = some (.fn (erF J4A)) := rfl
theorem J9o (p : PS) : JR p J0Q = some (.fn (erF J2d)) := rfl
theorem J7Q (p : PS) : JR p J0u = some (.fn (erF J1O)) := rfl
theorem Jhv (p : PS) : JR p JZ = some (.fn (erF J5F)) := rfl
theorem JcS (p : PS) : JR p i_draw_Codes_Next = some (.fn (erF J3M)) := rfl
theorem JbM (p : PS) : JR p Jr = some (.fn (erF J3o)) := rfl
theorem Jd6 (p : PS) : JR p J1k = some (.fn (erF J3K)) := rfl
theorem Jmy (p : PS) : JR p J0N = some (.fn (erF J7X)) := rfl
theorem Jhm (p : PS) : JR p J0a = some (.fn (erF J5B)) := rfl
theorem Jhx (p : PS) : JR p J23 = some (.fn (erF J5z)) := rfl
theorem Jhu (p : PS) : JR p J1p = some (.fn (erF J5x)) := rfl
theorem Jb1 (p : PS) : JR p J2X = some (.fn (erF J2U)) := rfl
theorem Jbq (p : PS) : JR p J3k = some (.fn (erF J3w)) := rfl
theorem Jhy (p : PS) : JR p J1c = some (.fn (erF J5D)) := rfl
theorem JaW (p : PS) : JR p J2W = some (.fn (erF J2Z)) := rfl
theorem Je5 (p : PS) : JR p J1J = some (.fn (erF J4c)) := rfl
theorem JbB (p : PS) : JR p J3n = some (.fn (erF J3q)) := rfl
theorem J6H (p : PS) : JR p J0t = some (.prim (JdU)) := rfl
theorem JdD (p : PS) : JR p J2a = some (.prim (Jji)) := rfl
theorem JiP (p : PS) : JR p J3T = some (.prim (Jdx J3 Jif)) := rfl
theorem J5m (p : PS) : JR p Ju = some (.fork (J8i J6 48)) := rfl
end Go.Am
end
