/-
  Parts of a proof.
-/
import Derived.ChangeArms
import Derived.OpenShut
import Derived.ChangeBears
import Derived.ChangeStays
import Derived.Handed
import Derived.RowKit3
import Derived.WalkKit
import Derived.ProofKit
import Derived.Test.YtkopficpneehnaaM2
import Derived.Test.YtkopficpneehnaaM3
import Derived.Test.YtkopficpneehnaaM4
set_option linter.unusedSimpArgs false
set_option linter.unusedVariables false
section
namespace Go.Am
noncomputable section
set_option maxRecDepth 20000
def J1C (x1 : List UInt8) : Option (Bool) :=
 some (neI (J6 x1) 256)
theorem Jbd (x) : onO (J11 J21 x) (fun y => J1I (TG.of []) J31 y.1 y.2 (J0I J21)) = J1C x := by kernel_rfl
def J1q (x1 : J0Y) : Option (J0Y × Bool) :=
 if eqI x1.1 1 then
  some ((x1.1, x1.2.1, 0, 0, 0, 0), true)
 else
  if eqI x1.1 6 then
   some ((x1.1, x1.2.1, 0, 0, 0, 0), true)
  else
   if eqI x1.1 2 then
    some ((x1.1, x1.2.1, 0, x1.2.2.2.1, 0, 0), true)
   else
    if eqI x1.1 3 then
     some ((x1.1, x1.2.1, 0, 0, x1.2.2.2.2.1, 0), true)
    else
     if eqI x1.1 4 then
      some ((x1.1, x1.2.1, x1.2.2.1, 0, x1.2.2.2.2.1, x1.2.2.2.2.2), true)
     else
      if eqI x1.1 5 then
       some ((x1.1, x1.2.1, x1.2.2.1, 0, 0, 0), true)
      else
       some ((x1.1, x1.2.1, 0, 0, 0, 0), false)
theorem JcG (x) : onO (J11 J2Q x) (fun y => J1I (TG.of []) J3N y.1 y.2 (J0I J2Q)) = J1q x := by kernel_rfl
def JX (x1 : Jt × Int) : Option (Bool) :=
 if geI x1.2 0 then
  some (ltI x1.2 (J6 x1.1.1))
 else
  some false
theorem JeI (x) : onO (J11 J14 x) (fun y => J1I (TG.of []) J49 y.1 y.2 (J0I J14)) = JX x := by kernel_rfl
def J0l (x1 : Jt × J0Y) : Option (Bool) :=
 (J1q x1.2).bind fun y2 =>
 if y2.2 then
  if eqT J4 y2.1 x1.2 then
   if gtI x1.2.2.1 x1.1.2.1 then
    if leI x1.2.2.1 1099511627776 then
     (JX (x1.1, x1.2.2.2.1)).bind fun y3 =>
     if y3 then
      (JX (x1.1, x1.2.2.2.2.1)).bind fun y4 =>
      if y4 then
       if geI x1.2.2.2.2.2.1 0 then
        if ltI x1.2.2.2.2.2.1 256 then
         if neI x1.2.1 4 = false then
          some (neI x1.2.2.2.2.2.2 0)
         else
          some true
        else
         some false
       else
        some false
      else
       some false
     else
      some false
    else
     some false
   else
    some false
  else
   some false
 else
  some false
theorem Jbl (x) : onO (J11 J19 x) (fun y => J1I (TG.of [sigE J1t J2Q J1q, sigE J04 J14 JX]) J30 y.1 y.2 (J0I J19)) = J0l x := by kernel_rfl
def J1O (z2 : (List (List UInt8)) × Int × Int) : Option (((List (List UInt8)) × Int × Int) ⊕ Int) :=
 if ltI z2.2.2 z2.2.1 then
  (idx z2.1 z2.2.2).bind fun y3 =>
  (J1C y3).bind fun y4 =>
  if y4 then
   some (.inr z2.2.2)
  else
   some (.inl (z2.1, z2.2.1, J10 .i64 z2.2.2 1))
 else
  some (.inr (-1))
def JQ (x1 : List (List UInt8)) : Option (Int) :=
 J0W (J1O) (x1, J6 x1, 0)
theorem J4f (x) : onO (J11 J03 x) (fun y => J1I (TG.of [sigE J0z J21 J1C]) J0J y.1 y.2 (J0I J03)) = JQ x := by kernel_rfl
def JA (x1 : List (List UInt8)) : Option (Bool) :=
 (JQ x1).bind fun y2 =>
 some (geI y2 0)
theorem J3E (x) : onO (J11 JU x) (fun y => J1I (TG.of [sigE JL J03 JQ]) J0t y.1 y.2 (J0I JU)) = JA x := by kernel_rfl
def J1A (x1 : J0Y × Jt) : Option (Bool × Jt) :=
 (J0l (x1.2, x1.1)).bind fun y2 =>
 some (J3V y2, x1.2)
theorem Jbe (x) : onO (J11 J28 x) (fun y => J1I (TG.of [sigE J0m J19 J0l]) J35 y.1 y.2 (J0I J28)) = J1A x := by kernel_rfl
def J1j (z2 : (List J0Y) × Int × Int × Jt) : Option (((List J0Y) × Int × Int × Jt) ⊕ (Int × Jt)) :=
 if ltI z2.2.2.1 z2.2.1 then
  (idx z2.1 z2.2.2.1).bind fun y3 =>
  (J1A (y3, z2.2.2.2)).bind fun y4 =>
  if y4.1 then
   some (.inr (z2.2.2.1, y4.2))
  else
   some (.inl (z2.1, z2.2.1, J10 .i64 z2.2.2.1 1, y4.2))
 else
  some (.inr ((-1), z2.2.2.2))
def JE (x1 : (List J0Y) × Jt) : Option (Int × Jt) :=
 J0W (J1j) (x1.1, J6 x1.1, 0, x1.2)
theorem J3i (x) : onO (J11 JP x) (fun y => J1I (TG.of [sigE J0x J28 J1A]) J0j y.1 y.2 (J0I JP)) = JE x := by kernel_rfl
def Jr (x1 : (List J0Y) × Jt) : Option (Bool × Jt) :=
 (JE (x1.1, x1.2)).bind fun y2 =>
 some (geI y2.1 0, y2.2)
theorem J2Z (x) : onO (J11 JK x) (fun y => J1I (TG.of [sigE JB JP JE]) J08 y.1 y.2 (J0I JK)) = Jr x := by kernel_rfl
def J7t (z2 : (List Int) × Int × Int × Jt) : Option (((List Int) × Int × Int × Jt) ⊕ Bool) :=
 if ltI z2.2.2.1 z2.2.1 then
  (idx z2.1 z2.2.2.1).bind fun y3 =>
  (JX (z2.2.2.2, y3)).bind fun y4 =>
  if J3V y4 = false then
   if gtI z2.2.2.1 0 then
    (idx z2.2.2.2.2.2.1 (Jek .i64 z2.2.2.1 1)).bind fun y5 =>
    if geI y5 y3 then
     some (.inr false)
    else
     some (.inl (z2.1, z2.2.1, J10 .i64 z2.2.2.1 1, z2.2.2.2))
   else
    some (.inl (z2.1, z2.2.1, J10 .i64 z2.2.2.1 1, z2.2.2.2))
  else
   some (.inr false)
 else
  Option.map .inr (
   (JA z2.2.2.2.1).bind fun y6 =>
   if J3V y6 then
    (Jr (z2.2.2.2.2.2.2.2, z2.2.2.2)).bind fun y7 =>
    some (J3V y7.1)
   else
    some false)
def J0P (x1 : Jt) : Option (Bool) :=
 if ltI (J6 x1.1) 1 = false then
  if gtI (J6 x1.1) 64 = false then
   if ltI x1.2.1 0 = false then
    if gtI x1.2.1 1099511627776 = false then
     if gtI (J6 x1.2.2.2.2) 64 then
      some false
     else
      J0W (J7t) (x1.2.2.1, J6 x1.2.2.1, 0, x1)
    else
     some false
   else
    some false
  else
   some false
 else
  some false
theorem JeF (x) : onO (J11 J1N x) (fun y => J1I (TG.of [sigE J04 J14 JX, sigE JI JU JA, sigE Jx JK Jr]) J4h y.1 y.2 (J0I J1N)) = J0P x := by kernel_rfl
def J0w (x : List J0Y) : Option (List J0Y) := cloS 48 x
def J1r (x1 : Jt × J0Y) : Option (Jt × Int) :=
 (J0P x1.1).bind fun y2 =>
 if J3V y2 then
  some (([], 0, [], false, []), 15)
 else
  (J0l (x1.1, x1.2)).bind fun y3 =>
  if J3V y3 then
   some (([], 0, [], false, []), 1)
  else
   if eqI (J6 x1.1.2.2.2.2) 64 then
    some (([], 0, [], false, []), 21)
   else
    (J0w x1.1.2.2.2.2).bind fun y4 =>
    (Jev 48 y4 [x1.2]).bind fun y5 =>
    some ((x1.1.1, x1.1.2.1, x1.1.2.2.1, x1.1.2.2.2.1, y5), 0)
theorem JdG (x) : onO (J11 J2O x) (fun y => J1I (TG.of [sigE J0B J1N J0P, sigE J0m J19 J0l, sigE Jy J18 J0w]) J3L y.1 y.2 (J0I J2O)) = J1r x := by kernel_rfl
def J0T (x : (List (List UInt8)) × Int) : Option (List (List UInt8)) := Jeb x
def J2h (x : (List UInt8) × Int) : Option (List UInt8) := JpU x
def J1M (x1 : Int) : Option (List (List UInt8)) :=
 (J2h ([0], 256)).bind fun y2 =>
 (J0T ([y2], x1)).bind fun y3 =>
 some y3
theorem JdL (x) : onO (J11 J3d x) (fun y => J1I (TG.of [sigE J1J J4N J2h, sigE J0b J1F J0T]) J4k y.1 y.2 (J0I J3d)) = J1M x := by kernel_rfl
def J1f (x1 : Int) : Option (Jt × Int) :=
 if ltI x1 1 = false then
  if gtI x1 64 then
   some (([], 0, [], false, []), 1)
  else
   (J1M x1).bind fun y2 =>
   some ((y2, 0, [], false, []), 0)
 else
  some (([], 0, [], false, []), 1)
theorem Jh4 (x) : onO (J11 J2k x) (fun y => J1I (TG.of [sigE J1m J3d J1M]) J5z y.1 y.2 (J0I J2k)) = J1f x := by kernel_rfl
def J0E (x1 : Jt × Int) : Option (Int) :=
 (J0P x1.1).bind fun y2 =>
 if J3V y2 then
  some 15
 else
  if x1.1.2.2.2.1 then
   some 10
  else
   (JX (x1.1, x1.2)).bind fun y3 =>
   if J3V y3 then
    some 1
   else
    some 0
theorem Jd9 (x) : onO (J11 J2P x) (fun y => J1I (TG.of [sigE J0B J1N J0P, sigE J04 J14 JX]) J3M y.1 y.2 (J0I J2P)) = J0E x := by kernel_rfl
def J43 (z2 : (List Int) × Int × Int × Int) : Option (((List Int) × Int × Int × Int) ⊕ Int) :=
 if ltI z2.2.2.2 z2.2.2.1 then
  (idx z2.1 z2.2.2.2).bind fun y3 =>
  if eqI z2.2.1 y3 then
   some (.inr z2.2.2.2)
  else
   some (.inl (z2.1, z2.2.1, z2.2.2.1, J10 .i64 z2.2.2.2 1))
 else
  some (.inr (-1))
def J0Q (x1 : (List Int) × Int) : Option (Int) :=
 J0W (J43) (x1.1, x1.2, J6 x1.1, 0)
theorem J7U (x) : onO (J11 J1c x) (fun y => J1I (TG.of []) J1P y.1 y.2 (J0I J1c)) = J0Q x := by kernel_rfl
def J0c (x1 : (List Int) × Int) : Option (Bool) :=
 (J0Q (x1.1, x1.2)).bind fun y2 =>
 some (geI y2 0)
theorem J6K (x) : onO (J11 J0S x) (fun y => J1I (TG.of [sigE J0s J1c J0Q]) J1o y.1 y.2 (J0I J0S)) = J0c x := by kernel_rfl
def J0M (x1 : Jt × Int) : Option ((List UInt8) × Int) :=
 (J0E (x1.1, x1.2)).bind fun y2 =>
 if neI y2 0 then
  some ([], y2)
 else
  (J0c (x1.1.2.2.1, x1.2)).bind fun y3 =>
  if y3 then
   some ([], 11)
  else
   (idx x1.1.1 x1.2).bind fun y4 =>
   some (y4, 0)
theorem Jfv (x) : onO (J11 J1Z x) (fun y => J1I (TG.of [sigE J1b J2P J0E, sigE J0d J0S J0c]) J4M y.1 y.2 (J0I J1Z)) = J0M x := by kernel_rfl
def J02 (x : Jt × Int × (List UInt8)) : Option (Jt × Int) := Jdn (J0E (x.1, x.2.1)) x
def J09 (rec : (Int × J7) → Option (Int × J7)) (x1 : Int × J7) : Option (Int × J7) :=
 if geI x1.2.2 (J6 x1.2.1) = false then
  if ltI x1.1 1 then
   some (0, x1.2)
  else
   (idx x1.2.1 x1.2.2).bind fun y2 =>
   if gtI x1.1 256 then
    (rec (256, x1.2.1, J10 .i64 x1.2.2 1)).bind fun y3 =>
    (JdP (J10 .i64 (JkG .i64 256 (cvI .i64 y2)) y3.1) x1.1).bind fun y4 =>
    some (y4, y3.2)
   else
    (JdP (cvI .i64 y2) x1.1).bind fun y5 =>
    some (y5, x1.2.1, J10 .i64 x1.2.2 1)
 else
  some (0, x1.2)
def J0a : (Int × J7) → Option (Int × J7) := J8V J09 100
theorem Jbp (r x) : onO (J11 g_draw_Codes_Next x) (fun y => J1I (TG.of (sigE i_draw_Codes_Next g_draw_Codes_Next r :: [])) J36 y.1 y.2 (J0I g_draw_Codes_Next)) = J09 r x := by kernel_rfl
def J5o (z4 : Int × Int × J7 × (List Int)) : Option ((Int × Int × J7 × (List Int)) ⊕ ((List UInt8) × J7)) :=
 if ltI z4.2.1 (J6 z4.2.2.2) then
  (inb (List.length z4.2.2.2) z4.2.1).bind fun _ =>
  (lat z4.2.2.2 (Int.toNat z4.2.1)).bind fun _ =>
  some (.inl (z4.1, J10 .i64 z4.2.1 1, z4.2.2.1, J5m z4.2.2.2 (Int.toNat z4.2.1) z4.1))
 else
  Option.map .inr (
   (J0a (256, z4.2.2.1)).bind fun y7 =>
   (J0a (256, y7.2)).bind fun y8 =>
   (inb (List.length z4.2.2.2) y7.1).bind fun _ =>
   (lat z4.2.2.2 (Int.toNat y7.1)).bind fun _ =>
   some (toStr (J5m z4.2.2.2 (Int.toNat y7.1) (cvI .u8 y8.1)), y8.2))
def J0X (x1 : J7) : Option ((List UInt8) × J7) :=
 (mkS 1 256 256 0).bind fun y2 =>
 (J0a (256, x1)).bind fun y3 =>
 J0W (J5o) (cvI .u8 y3.1, 0, y3.2, y2)
theorem J9S (x) : onO (J11 J1Q x) (fun y => J1I (TG.of [sigE i_draw_Codes_Next g_draw_Codes_Next J0a]) J2C y.1 y.2 (J0I J1Q)) = J0X x := by kernel_rfl
def J1B (x1 : J7) : Option (Int × J7) :=
 some (Jek .i64 (J6 x1.1) x1.2, x1)
theorem Jb8 (x) : onO (J11 J24 x) (fun y => J1I (TG.of []) J33 y.1 y.2 (J0I J24)) = J1B x := by kernel_rfl
def J3n (x1 : J7) : Option (J7) :=
 if gtI (J6 x1.1) x1.2 then
  (Jcp x1.1 none (some x1.2)).bind fun y2 =>
  some (y2, 0)
 else
  some (x1.1, 0)
theorem JjZ (x) : onO (J11 J5s x) (fun y => J1I (TG.of []) J6C y.1 y.2 (J0I J5s)) = J3n x := by kernel_rfl
def J1X (x1 : Unit) : Option (Bool) :=
 (J1f 1).bind fun y2 =>
 (J1r (y2.1, 1, 2, 0, 0, 0, 0)).bind fun y3 =>
 (mkS 1 255 255 0).bind fun y4 =>
 (Je8 (toStr y4) [97]).bind fun y5 =>
 (mkS 1 255 255 0).bind fun y6 =>
 (Je8 (toStr y6) [98]).bind fun y7 =>
 (J02 (y3.1, 0, y5)).bind fun y8 =>
 (J02 (y8.1, 0, y7)).bind fun y9 =>
 (J0M (y9.1, 0)).bind fun y10 =>
 if eqI y2.2 0 then
  if eqI y3.2 0 then
   if eqI y8.2 0 then
    if eqI y9.2 0 then
     if eqI y10.2 0 then
      some (eqS y10.1 y5)
     else
      some false
    else
     some false
   else
    some false
  else
   some false
 else
  some false
theorem JfF (x) : onO (J11 J3u x) (fun y => J1I (TG.of [sigE J0r J2k J1f, sigE J0i J2O J1r, sigE JJ J37 J02, sigE J07 J1Z J0M]) J4F y.1 y.2 (J0I J3u)) = J1X x := by kernel_rfl
def J58 (z16 : Int × Int × J7 × Jt × (Vector (List UInt8) 4)) : Option ((Int × Int × J7 × Jt × (Vector (List UInt8) 4)) ⊕ Bool) :=
 if ltI z16.2.1 4 then
  (J0M (z16.2.2.2.1, z16.2.1)).bind fun y17 =>
  if neI y17.2 0 = false then
   (inb 4 z16.2.1).bind fun _ =>
   (vat z16.2.2.2.2 (Int.toNat z16.2.1)).bind fun y19 =>
   if neS y17.1 y19 then
    some (.inr false)
   else
    some (.inl (z16.1, J10 .i64 z16.2.1 1, z16.2.2.1, z16.2.2.2.1, z16.2.2.2.2))
  else
   some (.inr false)
 else
  some (.inr (eqI z16.2.2.2.1.2.1 z16.1))
def J5d (z9 : Int × J7 × Jt × (Vector (List UInt8) 4)) : Option ((Int × J7 × Jt × (Vector (List UInt8) 4)) ⊕ Bool) :=
 (J1B z9.2.1).bind fun y10 =>
 if gtI y10.1 0 then
  (J0a (4, y10.2)).bind fun y11 =>
  (J0X y11.2).bind fun y12 =>
  (J02 (z9.2.2.1, y11.1, y12.1)).bind fun y13 =>
  if neI y13.2 0 then
   some (.inr false)
  else
   (inb 4 y11.1).bind fun _ =>
   (vat z9.2.2.2 (Int.toNat y11.1)).bind fun _ =>
   some (.inl (J10 .i64 z9.1 1, y12.2, y13.1, J88 z9.2.2.2 (Int.toNat y11.1) y12.1))
 else
  Option.map .inr (
   J0W (J58) (z9.1, 0, y10.2, z9.2.2.1, z9.2.2.2))
def J53 (z5 : Int × J7 × Jt × (Vector (List UInt8) 4)) : Option ((Int × J7 × Jt × (Vector (List UInt8) 4)) ⊕ Bool) :=
 if ltI z5.1 4 then
  (mkS 1 256 256 0).bind fun y6 =>
  (inb 4 z5.1).bind fun _ =>
  (vat z5.2.2.2 (Int.toNat z5.1)).bind fun _ =>
  some (.inl (J10 .i64 z5.1 1, z5.2.1, z5.2.2.1, J88 z5.2.2.2 (Int.toNat z5.1) (toStr y6)))
 else
  Option.map .inr (
   J0W (J5d) (0, z5.2.1, z5.2.2.1, z5.2.2.2))
def J2q (x1 : List Int) : Option (Bool) :=
 (J1X ()).bind fun y2 =>
 if J3V y2 then
  some false
 else
  (J3n (x1, 200)).bind fun y3 =>
  (J1f 4).bind fun y4 =>
  if neI y4.2 0 then
   some false
  else
   J0W (J53) (0, y3, y4.1, Vector.replicate 4 [])
theorem J9E (x) : onO (J11 J3I x) (fun y => J1I (TG.of [sigE J0L J3u J1X, sigE J1x J5s J3n, sigE J0r J2k J1f, sigE J0R J24 J1B, sigE i_draw_Codes_Next g_draw_Codes_Next J0a, sigE Jz J1Q J0X, sigE JJ J37 J02, sigE J07 J1Z J0M]) J2o y.1 y.2 (J0I J3I)) = J2q x := by kernel_rfl
end
end Go.Am
end
section
namespace Go.Am
def Tot {ρ : Type} (o : Option ρ) (Q : ρ → Prop) : Prop := ∃ r, o = some r ∧ Q r
section
variable {α β ρ σ τ : Type} {Q : ρ → Prop}
theorem Tot.bind {P : α → Prop} {o : Option α} {f : α → Option ρ} (h : Tot o P) (h2 : ∀ r, P r → Tot (f r) Q) : Tot (o.bind f) Q := by
  obtain ⟨r, rfl, hq⟩ := h
  exact h2 r hq
theorem Tot.some {r : ρ} (h : Q r) : Tot (some r) Q := ⟨r, rfl, h⟩
theorem Tot.mono {P : ρ → Prop} {o : Option ρ} (h : Tot o P) (h2 : ∀ r, P r → Q r) : Tot o Q := by
  obtain ⟨r, e, hq⟩ := h
  exact ⟨r, e, h2 r hq⟩
theorem Tot.map {P : α → Prop} {o : Option α} {f : α → ρ} (h : Tot o P) (h2 : ∀ r, P r → Q (f r)) : Tot (Option.map f o) Q := by
  obtain ⟨r, rfl, hq⟩ := h
  exact ⟨f r, rfl, h2 r hq⟩
theorem Tot.get {o : Option ρ} {r : ρ} (h : Tot o Q) (e : o = Option.some r) : Q r := by
  obtain ⟨r', e', h⟩ := h
  rw [e] at e'; injection e' with e'; subst e'; exact h
variable {u v : Option ρ}
theorem Tot.ite {c : Bool} (h1 : c = true → Tot u Q) (h2 : c = false → Tot v Q) : Tot (if c = true then u else v) Q := by
  cases c with
  | true => exact h1 rfl
  | false => exact h2 rfl
theorem Tot.itf {c : Bool} (h1 : c = false → Tot u Q) (h2 : c = true → Tot v Q) : Tot (if c = false then u else v) Q := by
  cases c with
  | true => exact h2 rfl
  | false => exact h1 rfl
theorem Tot.not {c : Bool} (h1 : c = false → Tot u Q) (h2 : c = true → Tot v Q) : Tot (if J3V c = true then u else v) Q := by
  cases c with
  | true => exact h2 rfl
  | false => exact h1 rfl
theorem Tot.nof {c : Bool} (h1 : c = true → Tot u Q) (h2 : c = false → Tot v Q) : Tot (if J3V c = false then u else v) Q := by
  cases c with
  | true => exact h1 rfl
  | false => exact h2 rfl
variable {a c : Int}
theorem J5a : ltI a c = true ↔ a < c := by simp [ltI]
theorem JaT : gtI a c = true ↔ c < a := by simp [gtI]
theorem JiI : leI a c = true ↔ a ≤ c := by simp [leI]
theorem J5L : geI a c = true ↔ c ≤ a := by simp [geI]
theorem Jet : eqI a c = true ↔ a = c := by simp [eqI]
theorem J8x : neI a c = true ↔ ¬a = c := by simp [neI]
theorem Tot.by {p : Prop} {x : Bool} (hp : x = true ↔ p) (h1 : p → Tot u Q) (h2 : ¬p → Tot v Q) : Tot (if x = true then u else v) Q := .ite (fun h => h1 (hp.1 h)) fun h => h2 fun h3 => by rw [hp.2 h3] at h; cases h
theorem Tot.byf {p : Prop} {x : Bool} (hp : x = true ↔ p) (h1 : ¬p → Tot u Q) (h2 : p → Tot v Q) : Tot (if x = false then u else v) Q := .itf (fun h => h1 fun h3 => by rw [hp.2 h3] at h; cases h) fun h => h2 (hp.1 h)
theorem Tot.lt (h1 : a < c → Tot u Q) (h2 : ¬a < c → Tot v Q) : Tot (if ltI a c = true then u else v) Q := .by J5a h1 h2
theorem Tot.gt (h1 : c < a → Tot u Q) (h2 : ¬c < a → Tot v Q) : Tot (if gtI a c = true then u else v) Q := .by JaT h1 h2
theorem Tot.le (h1 : a ≤ c → Tot u Q) (h2 : ¬a ≤ c → Tot v Q) : Tot (if leI a c = true then u else v) Q := .by JiI h1 h2
theorem Tot.ge (h1 : c ≤ a → Tot u Q) (h2 : ¬c ≤ a → Tot v Q) : Tot (if geI a c = true then u else v) Q := .by J5L h1 h2
theorem Tot.eq (h1 : a = c → Tot u Q) (h2 : ¬a = c → Tot v Q) : Tot (if eqI a c = true then u else v) Q := .by Jet h1 h2
theorem Tot.ne (h1 : ¬a = c → Tot u Q) (h2 : a = c → Tot v Q) : Tot (if neI a c = true then u else v) Q := .by J8x h1 (fun h => h2 (Decidable.of_not_not h))
theorem Tot.ltf (h1 : ¬a < c → Tot u Q) (h2 : a < c → Tot v Q) : Tot (if ltI a c = false then u else v) Q := .byf J5a h1 h2
theorem Tot.gtf (h1 : ¬c < a → Tot u Q) (h2 : c < a → Tot v Q) : Tot (if gtI a c = false then u else v) Q := .byf JaT h1 h2
theorem Tot.gef (h1 : ¬c ≤ a → Tot u Q) (h2 : c ≤ a → Tot v Q) : Tot (if geI a c = false then u else v) Q := .byf J5L h1 h2
theorem Tot.nef (h1 : a = c → Tot u Q) (h2 : ¬a = c → Tot v Q) : Tot (if neI a c = false then u else v) Q := .byf J8x (fun h => h1 (Decidable.of_not_not h)) h2
end
def Ty.fit (B S : Int) : (t : Ty) → t.D → Prop
  | .b, _ => True
  | .i k, z => k.min ≤ z ∧ z ≤ k.max
  | .s, z => J6 (α := UInt8) z ≤ S
  | .l t, z => J6 (α := t.D) z ≤ B ∧ ∀ x ∈ (z : List t.D), t.fit B S x
  | .pr a c, x => a.fit B S x.1 ∧ c.fit B S x.2
  | .ar n t, v => ∀ (i : Nat) (h : i < n), t.fit B S ((v : Vector t.D n)[i])
  | .u, _ => True
  | .f, _ => True
theorem Ty.fit.up {B S B' S' : Int} (h1 : B ≤ B') (h2 : S ≤ S') : ∀ {t : Ty} {x : t.D}, t.fit B S x → t.fit B' S' x
  | .b, _, _ => trivial
  | .i _, _, h => h
  | .s, _, h => Int.le_trans h h2
  | .l _, _, h => ⟨Int.le_trans h.1 h1, fun x hx => (h.2 x hx).up h1 h2⟩
  | .pr _ _, _, h => ⟨h.1.up h1 h2, h.2.up h1 h2⟩
  | .ar _ _, _, h => fun i hi => (h i hi).up h1 h2
  | .u, _, _ => trivial
  | .f, _, _ => trivial
section
variable {α : Type} {l : List α}
theorem J5S : 0 ≤ J6 l := Int.natCast_nonneg _
theorem Jms {x : α} : J6 [x] = 1 := rfl
theorem Jni {m : List α} : J6 (l ++ m) = J6 l + J6 m := by simp [J6]
end
theorem J8H (n : Int) : IntKind.i64.wrap n = (n + 9223372036854775808) % 18446744073709551616 - 9223372036854775808 := by
  simp [IntKind.wrap, IntKind.bits, IntKind.signed]
  omega
theorem JaW (a b : Int) : J10 .i64 a b = (a + b + 9223372036854775808) % 18446744073709551616 - 9223372036854775808 := J8H _
theorem Jo1 (a b : Int) : Jek .i64 a b = (a - b + 9223372036854775808) % 18446744073709551616 - 9223372036854775808 := J8H _
theorem Jrb (a b : Int) : JkG .i64 a b = (a * b + 9223372036854775808) % 18446744073709551616 - 9223372036854775808 := J8H _
theorem Jq9 (a : Int) : cvI .i64 a = (a + 9223372036854775808) % 18446744073709551616 - 9223372036854775808 := J8H _
section
variable {B S : Int} {k : IntKind} {a b : Int}
theorem Jr4 (k : IntKind) (n : Int) (h : k.min ≤ n ∧ n ≤ k.max := by decide) : Ty.fit B S (.i k) n := h
end
section
variable {B S : Int} {t : Ty}
theorem Jrw {α : Type} {l : List α} {k : Int} (h0 : 0 ≤ k) (h1 : k ≤ J6 l) : Tot (Jcp l none (some k)) fun r => r = l.take k.toNat ∧ J6 r = k := by
  refine ⟨l.take k.toNat, ?_, rfl, ?_⟩
  · unfold Jcp JhH Jkc
    unfold J6 at h1
    simp only [if_pos (And.intro h0 h1)]
    simp
  · unfold J6 at *; rw [List.length_take]; omega
theorem Jrp {bytes : Nat} {n m : Int} {z : t.D} (hz : t.fit B S z) (h0 : 0 ≤ n := by omega) (h1 : n ≤ m := by omega) (h2 : m ≤ 34359738368 := by omega) (hn : n ≤ B := by omega) (hb : bytes ≤ 2048 := by decide) : Tot (mkS bytes n m z) fun r => Ty.fit B S (.l t) r ∧ J6 r = n := by
  refine ⟨List.replicate n.toNat z, ?_, ⟨?_, fun x hx => ?_⟩, ?_⟩
  · unfold mkS
    have : (bytes : Int) * m ≤ 2048 * 34359738368 := Int.le_trans (Int.mul_le_mul_of_nonneg_right (by omega) (by omega)) (Int.mul_le_mul_of_nonneg_left h2 (by omega))
    rw [if_pos ⟨h0, h1, by omega, by omega⟩]
  · unfold J6; rw [List.length_replicate]; omega
  · rw [List.eq_of_mem_replicate hx]; exact hz
  · unfold J6; rw [List.length_replicate]; omega
theorem JnV {x y : Int} (h : ¬y = 0) : Tot (JdP x y) fun r => r = x.tmod y := ⟨_, by unfold JdP; rw [if_neg h], rfl⟩
theorem JfJ {n : Nat} {i : Int} (h0 : 0 ≤ i := by omega) (h1 : i < n := by omega) : Tot (inb n i) fun _ => True := ⟨(), by unfold inb; rw [if_pos ⟨h0, h1⟩], trivial⟩
theorem JgI {α : Type} {l : List α} {i : Nat} {x : α} : J6 (J5m l i x) = J6 l := by unfold J5m J6; rw [List.length_set]
theorem Jm2 {l : List Int} : J6 (toStr l) = J6 l := by unfold toStr J6; rw [List.length_map]
end
theorem Ty.fit.u {B S B' S' : Int} {t : Ty} {x : t.D} (h : t.fit B S x) (h1 : B ≤ B' := by omega) (h2 : S ≤ S' := by omega) : t.fit B' S' x := h.up h1 h2
theorem Tot.inr {σ ρ : Type} {o : Option ρ} {Q : σ ⊕ ρ → Prop} (h : Tot o fun y => Q (.inr y)) : Tot (Option.map .inr o) Q := h.map fun _ h => h
section
variable {B S : Int} {t : Ty}
theorem JnY {α : Type} {l : List α} {i : Int} (h0 : 0 ≤ i := by omega) (h1 : i < J6 l := by omega) : Tot (inb l.length i) fun _ => True := JfJ h0 h1
theorem Jj7 {x y : Int} (h : 0 ≤ x) : x.tmod y ≤ x := by
  obtain ⟨m, rfl⟩ := Int.eq_ofNat_of_zero_le h
  cases y with
  | ofNat n => show ((m % n : Nat) : Int) ≤ m; exact Int.ofNat_le.2 (Nat.mod_le _ _)
  | negSucc n => show ((m % (n + 1) : Nat) : Int) ≤ m; exact Int.ofNat_le.2 (Nat.mod_le _ _)
theorem Jb1 {x y : Int} : (0 ≤ x → 0 ≤ x.tmod y) ∧ (0 < y → x.tmod y < y) ∧ (x ≤ 0 → x.tmod y ≤ 0) ∧ (0 ≤ x → x.tmod y ≤ x) ∧ (x ≤ 0 → x ≤ x.tmod y) := by
  refine ⟨fun h => Int.tmod_nonneg _ h, fun h => Int.tmod_lt_of_pos _ h, fun h => ?_, fun h => ?_, fun h => ?_⟩
  · have := Int.tmod_nonneg (a := -x) y (by omega)
    rw [Int.neg_tmod] at this; omega
  · exact Jj7 h
  · have h2 : (-x).tmod y ≤ -x := Jj7 (by omega)
    rw [Int.neg_tmod] at h2; omega
end
theorem J7E {σ τ ρ : Type} {L : σ → Option (σ ⊕ ρ)} {Q : ρ → Prop} (e : τ → σ) (I : τ → Prop) (m : τ → Int)
    (h : ∀ c, I c → Tot (L (e c)) fun r => match r with | .inl z => ∃ c', z = e c' ∧ I c' ∧ m c' < m c ∧ 0 ≤ m c | .inr y => Q y) {z : σ} (c : τ) (hz : z = e c) (hI : I c) : Tot (J0W L z) Q := by
  subst hz
  have key : ∀ (n : Nat) (c : τ), (m c + 1).toNat < n → I c → Tot (J0W L (e c)) Q := by
    intro n
    induction n with
    | zero => intro c h1; omega
    | succ n ih =>
      intro c h1 hI
      obtain ⟨r, h2, h3⟩ := h c hI
      cases r with
      | inl z =>
        obtain ⟨c', rfl, h4, h5, h6⟩ := h3
        rw [JjM h2]
        exact ih c' (by omega) h4
      | inr y => rw [Jjy h2]; exact ⟨y, rfl, h3⟩
  exact key _ c (Nat.lt_succ_self _) hI
def Ty.nl : Ty → Bool
  | .l _ => false
  | .pr a c => a.nl && c.nl
  | .ar _ t => t.nl
  | _ => true
theorem Ty.fit.z' {B S : Int} : ∀ {t : Ty} {x : t.D}, t.nl = true → Ty.fit B S t x → Ty.fit 0 S t x
  | .b, _, _, _ => trivial
  | .i _, _, _, h => h
  | .s, _, _, h => h
  | .l _, _, n, _ => by cases n
  | .pr a c, _, n, h => by
    have n : (a.nl && c.nl) = true := n
    rw [Bool.and_eq_true] at n
    exact ⟨Ty.fit.z' n.1 h.1, Ty.fit.z' n.2 h.2⟩
  | .ar _ _, _, n, h => fun i hi => Ty.fit.z' n (h i hi)
  | .u, _, _, _ => trivial
  | .f, _, _, _ => trivial
theorem Ty.fit.z {B S : Int} {t : Ty} {x : t.D} (h : Ty.fit B S t x) (n : t.nl = true := by rfl) : Ty.fit 0 S t x := Ty.fit.z' n h
theorem oo {p : Prop} (h : p := by omega) : p := h
end Go.Am
end
section
namespace Go.Am
theorem Tot.eqn {ρ : Type} {o : Option ρ} {Q : ρ → Prop} (h : Tot o Q) : Tot o fun r => Q r ∧ o = Option.some r := by
  obtain ⟨r, e, h⟩ := h
  exact ⟨r, e, h, e⟩
theorem Tot.same {α ρ : Type} {o : Option α} {f : α → Option ρ} {w : α} {Q : ρ → Prop} (e : o = Option.some w) (h : Tot (f w) Q) : Tot (o.bind f) Q := by
  rw [e]; exact h
def Par {ρ : Type} (o : Option ρ) (Q : ρ → Prop) : Prop := ∀ r, o = Option.some r → Q r
section
variable {α β ρ σ : Type} {Q : ρ → Prop} {u v : Option ρ}
theorem Par.bind {o : Option α} {f : α → Option ρ} (h : ∀ a, o = Option.some a → Par (f a) Q) : Par (o.bind f) Q := by
  intro r hr
  cases o with
  | none => cases hr
  | some a => exact h a rfl r hr
theorem Par.map {o : Option α} {f : α → ρ} (h : Par o fun a => Q (f a)) : Par (Option.map f o) Q := by
  intro r hr
  cases o with
  | none => cases hr
  | some a => injection hr with hr; subst hr; exact h a rfl
theorem Par.some {r : ρ} (h : Q r) : Par (Option.some r) Q := by
  intro r' e; injection e with e; subst e; exact h
theorem Par.none : Par (Option.none : Option ρ) Q := by
  intro r e; cases e
theorem Par.mono {o : Option ρ} {P : ρ → Prop} (h : Par o P) (h2 : ∀ r, P r → Q r) : Par o Q := fun r e => h2 r (h r e)
theorem Par.ite {c : Bool} (h1 : c = true → Par u Q) (h2 : c = false → Par v Q) : Par (if c = true then u else v) Q := by
  cases c with
  | true => exact h1 rfl
  | false => exact h2 rfl
theorem Par.itf {c : Bool} (h1 : c = false → Par u Q) (h2 : c = true → Par v Q) : Par (if c = false then u else v) Q := by
  cases c with
  | true => exact h2 rfl
  | false => exact h1 rfl
theorem Par.not {c : Bool} (h1 : c = false → Par u Q) (h2 : c = true → Par v Q) : Par (if J3V c = true then u else v) Q := by
  cases c with
  | true => exact h2 rfl
  | false => exact h1 rfl
theorem Par.nof {c : Bool} (h1 : c = true → Par u Q) (h2 : c = false → Par v Q) : Par (if J3V c = false then u else v) Q := by
  cases c with
  | true => exact h1 rfl
  | false => exact h2 rfl
variable {a c : Int}
theorem Par.by {p : Prop} {x : Bool} (hp : x = true ↔ p) (h1 : p → Par u Q) (h2 : ¬p → Par v Q) : Par (if x = true then u else v) Q := .ite (fun h => h1 (hp.1 h)) fun h => h2 fun h3 => by rw [hp.2 h3] at h; cases h
theorem Par.byf {p : Prop} {x : Bool} (hp : x = true ↔ p) (h1 : ¬p → Par u Q) (h2 : p → Par v Q) : Par (if x = false then u else v) Q := .itf (fun h => h1 fun h3 => by rw [hp.2 h3] at h; cases h) fun h => h2 (hp.1 h)
theorem Par.lt (h1 : a < c → Par u Q) (h2 : ¬a < c → Par v Q) : Par (if ltI a c = true then u else v) Q := .by J5a h1 h2
theorem Par.gt (h1 : c < a → Par u Q) (h2 : ¬c < a → Par v Q) : Par (if gtI a c = true then u else v) Q := .by JaT h1 h2
theorem Par.le (h1 : a ≤ c → Par u Q) (h2 : ¬a ≤ c → Par v Q) : Par (if leI a c = true then u else v) Q := .by JiI h1 h2
theorem Par.ge (h1 : c ≤ a → Par u Q) (h2 : ¬c ≤ a → Par v Q) : Par (if geI a c = true then u else v) Q := .by J5L h1 h2
theorem Par.eq (h1 : a = c → Par u Q) (h2 : ¬a = c → Par v Q) : Par (if eqI a c = true then u else v) Q := .by Jet h1 h2
theorem Par.ne (h1 : ¬a = c → Par u Q) (h2 : a = c → Par v Q) : Par (if neI a c = true then u else v) Q := .by J8x h1 (fun h => h2 (Decidable.of_not_not h))
theorem Par.ltf (h1 : ¬a < c → Par u Q) (h2 : a < c → Par v Q) : Par (if ltI a c = false then u else v) Q := .byf J5a h1 h2
theorem Par.gtf (h1 : ¬c < a → Par u Q) (h2 : c < a → Par v Q) : Par (if gtI a c = false then u else v) Q := .byf JaT h1 h2
theorem Par.gef (h1 : ¬c ≤ a → Par u Q) (h2 : c ≤ a → Par v Q) : Par (if geI a c = false then u else v) Q := .byf J5L h1 h2
theorem Par.nef (h1 : a = c → Par u Q) (h2 : ¬a = c → Par v Q) : Par (if neI a c = false then u else v) Q := .byf J8x (fun h => h1 (Decidable.of_not_not h)) h2
end
theorem Jlu {α : Type} {l : List α} {i : Int} {r : α} (h : idx l i = Option.some r) : 0 ≤ i ∧ l[i.toNat]? = Option.some r := by
  unfold idx at h; split at h
  · exact ⟨by assumption, h⟩
  · cases h
def Jaa {α : Type} (P : α → Prop) (l : List α) (i : Int) : Prop := 0 ≤ i ∧ ∀ x ∈ l.take i.toNat, P x
theorem JcC {α : Type} {P : α → Prop} {l : List α} : Jaa P l 0 := ⟨by omega, fun x h => by simp at h⟩
theorem J7A {α : Type} {P : α → Prop} {l : List α} {i j : Int} {x : α} (h : Jaa P l i) (e : idx l i = Option.some x) (hx : P x) (hj : j = i + 1) : Jaa P l j := by
  obtain ⟨h0, h⟩ := h
  obtain ⟨_, e⟩ := Jlu e
  subst hj
  refine ⟨by omega, fun y hy => ?_⟩
  have : (i + 1).toNat = i.toNat + 1 := by omega
  rw [this, List.take_add_one, e] at hy
  rcases List.mem_append.1 hy with hy | hy
  · exact h y hy
  · simp at hy; subst hy; exact hx
theorem J8N {α : Type} {P : α → Prop} {l : List α} {i : Int} (h : Jaa P l i) (hi : ¬i < J6 l) : ∀ x ∈ l, P x := fun x hx => h.2 x (by
  rw [List.take_of_length_le]
  · exact hx
  · unfold J6 at hi; omega)
end Go.Am
end
section
namespace Go.Am
set_option maxRecDepth 20000
set_option linter.unusedVariables false
theorem J8b {ρ : Type} {o : Option ρ} {v : ρ} (h : Tot o fun y => y = v) : o = Option.some v := by obtain ⟨y, e, rfl⟩ := h; exact e
theorem J16 {ρ : Type} {o : Option ρ} {v : ρ} (h : o = Option.some v) : Tot o fun y => y = v := ⟨v, h, rfl⟩
structure J84 (c : J7) : Prop where
  at0 : 0 ≤ c.2
  len : J6 c.1 ≤ 1000000
  byte : ∀ a ∈ c.1, 0 ≤ a ∧ a ≤ 255
  hi : c.2 ≤ J6 c.1
structure J80 (c d : J7) : Prop where
  list : d.1 = c.1
  mono : c.2 ≤ d.2
  hi : c.2 ≤ J6 c.1 → d.2 ≤ J6 c.1
theorem J84.to {c d : J7} (h : J84 c) (t : J80 c d) : J84 d := ⟨Int.le_trans h.at0 t.mono, by rw [t.list]; exact h.len, by rw [t.list]; exact h.byte, by rw [t.list]; exact t.hi h.hi⟩
theorem J80.refl (c : J7) : J80 c c := ⟨rfl, Int.le_refl _, id⟩
theorem J80.trans {a b c : J7} (h : J80 a b) (k : J80 b c) : J80 a c := ⟨k.list.trans h.list, Int.le_trans h.mono k.mono, fun e => by have := k.hi (by rw [h.list]; exact h.hi e); rwa [h.list] at this⟩
theorem J6j {α : Type} {l : List α} {i : Int} (h0 : 0 ≤ i := by omega) (h1 : i < J6 l := by omega) : Tot (idx l i) fun r => l[i.toNat]? = some r ∧ r ∈ l := by
  have hl : i.toNat < l.length := by unfold J6 at h1; omega
  refine ⟨l[i.toNat], ?_, List.getElem?_eq_getElem hl, List.getElem_mem hl⟩
  unfold idx
  rw [if_pos (by unfold J6 at h1; omega)]
  exact List.getElem?_eq_getElem hl
theorem Jdh (rec : (Int × J7) → Option (Int × J7)) (n : Int) (c : J7) (hc : J84 c) (hn : n ≤ 256) :
    Tot (J09 rec (n, c)) fun y => J80 c y.2 ∧ (c.2 < J6 c.1 → 1 ≤ n → c.2 < y.2.2) ∧ 0 ≤ y.1 ∧ (1 ≤ n → y.1 < n) := by
  unfold J09
  dsimp only
  have h0 := hc.at0
  have hl := hc.len
  refine .gef (fun c1 => .lt (fun c2 => .some ⟨.refl _, fun _ h => by omega, Int.le_refl _, fun h => by dsimp only; omega⟩) fun c2 => ?_) fun c1 => .some ⟨.refl _, fun h => by omega, Int.le_refl _, fun h => by dsimp only; omega⟩
  refine .bind (J6j (by omega) (by omega)) fun y hy => .gt (fun c3 => by omega) fun c3 => ?_
  obtain ⟨b0, b1⟩ := hc.byte y hy.2
  have e1 := Jq9 y
  have e2 := JaW c.2 1
  refine .bind (JnV (show ¬n = 0 by omega)) fun r hr =>   .some ⟨⟨rfl, by show c.2 ≤ J10 .i64 c.2 1; omega, fun _ => by show J10 .i64 c.2 1 ≤ J6 c.1; omega⟩, fun _ _ => by show c.2 < J10 .i64 c.2 1; omega, ?_, fun _ => ?_⟩
  · show 0 ≤ r
    rw [hr]; exact Jb1.1 (by omega)
  · show r < n
    rw [hr]; exact Jb1.2.1 (by omega)
theorem J8I (n : Int) (c : J7) (hc : J84 c) : Tot (J0a (n, c)) fun y => J80 c y.2 ∧ (c.2 < J6 c.1 → 1 ≤ n → c.2 < y.2.2) ∧ 0 ≤ y.1 ∧ (1 ≤ n → y.1 < n) := by
  have e0 : J0a (n, c) = J09 (J8V J09 99) (n, c) := rfl
  rw [e0]
  by_cases hn : n ≤ 256
  · exact Jdh _ n c hc hn
  · have e3 : ∀ x, J8V J09 99 x = J09 (J8V J09 98) x := fun _ => rfl
    generalize J8V J09 99 = rec at e3 ⊢
    unfold J09
    dsimp only
    have h0 := hc.at0
    have hl := hc.len
    refine .gef (fun c1 => .lt (fun c2 => by omega) fun c2 => ?_) fun c1 => .some ⟨.refl _, fun h => by omega, Int.le_refl _, fun h => by dsimp only; omega⟩
    refine .bind (J6j (by omega) (by omega)) fun y hy => .gt (fun c3 => ?_) fun c3 => by omega
    obtain ⟨b0, b1⟩ := hc.byte y hy.2
    have e1 := Jq9 y
    have e2 := JaW c.2 1
    have hd : J84 (c.1, J10 .i64 c.2 1) := hc.to ⟨rfl, by show c.2 ≤ J10 .i64 c.2 1; omega, fun _ => by show J10 .i64 c.2 1 ≤ J6 c.1; omega⟩
    rw [e3]
    refine .bind (Jdh _ 256 _ hd (Int.le_refl _)) fun z hz => ?_
    have hz2 := hz.2.2.2 (by decide)
    have hz1 := hz.2.2.1
    have hz3 := hz.1.mono
    have hz4 := hz.1.list
    have hz5 := hz.1.hi (by show J10 .i64 c.2 1 ≤ J6 c.1; omega)
    dsimp only at hz3 hz4 hz5
    have e4 := Jrb 256 (cvI .i64 y)
    have e5 := JaW (JkG .i64 256 (cvI .i64 y)) z.1
    refine .bind (JnV (show ¬n = 0 by omega)) fun r hr => .some ⟨⟨hz4, by show c.2 ≤ z.2.2; omega, fun _ => hz5⟩, fun _ _ => by show c.2 < z.2.2; omega, ?_, fun _ => ?_⟩
    · show 0 ≤ r
      rw [hr]; exact Jb1.1 (by omega)
    · show r < n
      rw [hr]; exact Jb1.2.1 (by omega)
theorem JoY (l : List Int) (k : Int) (hk : 0 ≤ k) (hk2 : k ≤ 1000000) (hb : ∀ a ∈ l, 0 ≤ a ∧ a ≤ 255) : Tot (J3n (l, k)) fun y => J84 y ∧ y.2 = 0 ∧ J6 y.1 ≤ k := by
  unfold J3n
  dsimp only
  refine .gt (fun c => .bind (Jrw hk (by omega)) fun y hy => .some ⟨⟨Int.le_refl _, by show J6 y ≤ 1000000; omega, fun a ha => hb a (by rw [hy.1] at ha; exact List.mem_of_mem_take ha), J5S⟩, rfl, by show J6 y ≤ k; omega⟩)
    fun c => .some ⟨⟨Int.le_refl _, by show J6 l ≤ 1000000; omega, hb, J5S⟩, rfl, by show J6 l ≤ k; omega⟩
theorem Jp8 (c : J7) (hc : J84 c) : J1B c = some (Jek .i64 (J6 c.1) c.2, c) := rfl
theorem JlN (c : J7) (hc : J84 c) : Tot (J0X c) fun y => J80 c y.2 ∧ y.1.length = 256 := by
  unfold J0X
  refine .bind (Jrp (B := 256) (S := 0) (t := .i .u8) (z := (0 : Int)) (Jr4 .u8 0) (by decide) (by decide) (by decide) (by decide)) fun y2 h2 => .bind (J8I 256 c hc) fun y3 h3 => ?_
  have hl : J6 y2 = 256 := h2.2
  refine J7E (τ := Int × List Int) (fun q => (cvI .u8 y3.1, q.1, y3.2, q.2)) (fun q => 0 ≤ q.1 ∧ q.1 ≤ 256 ∧ J6 q.2 = 256) (fun q => 256 - q.1) ?_ (0, y2) rfl ⟨Int.le_refl _, by show (0 : Int) ≤ 256; decide, hl⟩
  rintro ⟨i, l⟩ ⟨g1, g2, g3⟩
  dsimp only at g1 g2 g3
  unfold J5o
  dsimp only
  have hll : l.length = 256 := by unfold J6 at g3; omega
  refine .lt (fun c1 => .bind (JnY (by omega) (by omega)) fun _ _ => .bind (P := fun _ => True) ⟨l[i.toNat]'(by omega), List.getElem?_eq_getElem (by omega), trivial⟩ fun _ _ => .some ⟨(J10 .i64 i 1, J5m l i.toNat (cvI .u8 y3.1)), rfl, ?_, ?_⟩) fun c1 => .inr ?_
  · have := JaW i 1
    refine ⟨?_, ?_, ?_⟩
    · show 0 ≤ J10 .i64 i 1; omega
    · show J10 .i64 i 1 ≤ 256; omega
    · show J6 (J5m l i.toNat _) = 256; rw [JgI]; exact g3
  · have := JaW i 1
    show 256 - J10 .i64 i 1 < 256 - i ∧ 0 ≤ 256 - i
    omega
  · refine .bind (J8I 256 y3.2 (hc.to h3.1)) fun y7 h7 => .bind (J8I 256 y7.2 ((hc.to h3.1).to h7.1)) fun y8 h8 => ?_
    have k7 := h7.2.2.1
    have k8 := h7.2.2.2 (by decide)
    refine .bind (JnY (by omega) (by omega)) fun _ _ => .bind (P := fun _ => True) ⟨l[y7.1.toNat]'(by omega), List.getElem?_eq_getElem (by omega), trivial⟩ fun _ _ => .some ⟨(h3.1.trans h7.1).trans h8.1, ?_⟩
    show (toStr (J5m l y7.1.toNat _)).length = 256
    have e1 : J6 (toStr (J5m l y7.1.toNat (cvI .u8 y8.1))) = 256 := by rw [Jm2, JgI]; exact g3
    unfold J6 at e1
    omega
end Go.Am
end
section
namespace Go.Am
set_option maxRecDepth 20000
set_option linter.unusedVariables false
set_option linter.unusedSimpArgs false
theorem J6m {σ ρ : Type} {L : σ → Option (σ ⊕ ρ)} {Q : ρ → Prop} (e : Int → σ) (n : Int) (I : Int → Prop) (hn : 0 ≤ n) (h0 : I 0)
    (h : ∀ i, 0 ≤ i → i ≤ n → I i → Tot (L (e i)) fun r => match r with | .inl z => z = e (i + 1) ∧ I (i + 1) ∧ i < n | .inr y => Q y) : Tot (J0W L (e 0)) Q := by
  refine J7E (τ := Int) e (fun i => 0 ≤ i ∧ i ≤ n ∧ I i) (fun i => n - i) ?_ 0 rfl ⟨Int.le_refl _, hn, h0⟩
  rintro i ⟨g1, g2, g3⟩
  refine (h i g1 g2 g3).mono fun r hr => ?_
  cases r with
  | inl z => exact ⟨i + 1, hr.1, ⟨by omega, by have := hr.2.2; omega, hr.2.1⟩, by omega, by omega⟩
  | inr y => exact hr
theorem J6s {i : Int} (h0 : 0 ≤ i) (h1 : i < 4611686018427387904) : J10 .i64 i 1 = i + 1 := by have := JaW i 1; omega
theorem Jrl {i : Int} (h0 : 0 ≤ i) (h1 : i < 4611686018427387904) : Jek .i64 i 1 = i - 1 := by have := Jo1 i 1; omega
def Jg1 (f : FT) : FT × Bool :=
  if f.1 = 1 then ((f.1, f.2.1, 0, 0, 0, 0), true) else if f.1 = 6 then ((f.1, f.2.1, 0, 0, 0, 0), true)
  else if f.1 = 2 then ((f.1, f.2.1, 0, f.2.2.2.1, 0, 0), true) else if f.1 = 3 then ((f.1, f.2.1, 0, 0, f.2.2.2.2.1, 0), true)
  else if f.1 = 4 then ((f.1, f.2.1, f.2.2.1, 0, f.2.2.2.2.1, f.2.2.2.2.2), true) else if f.1 = 5 then ((f.1, f.2.1, f.2.2.1, 0, 0, 0), true)
  else ((f.1, f.2.1, 0, 0, 0, 0), false)
structure J4U (n w : Int) (f : FT) : Prop where
  kind : (Jg1 f).2 = true
  used : (Jg1 f).1 = f
  after : w < f.2.1
  most : f.2.1 ≤ 1099511627776
  p0 : 0 ≤ f.2.2.1
  p1 : f.2.2.1 < n
  t0 : 0 ≤ f.2.2.2.1
  t1 : f.2.2.2.1 < n
  b0 : 0 ≤ f.2.2.2.2.1
  b1 : f.2.2.2.2.1 < 256
  mask : f.1 = 4 → ¬f.2.2.2.2.2 = 0
structure VD (x : DT) : Prop where
  p1 : 1 ≤ J6 x.1
  p64 : J6 x.1 ≤ 64
  w0 : 0 ≤ x.2.1
  w1 : x.2.1 ≤ 1099511627776
  f64 : J6 x.2.2.2.2 ≤ 64
  page : ∀ s ∈ x.1, J6 s = 256
  rng : ∀ p ∈ x.2.2.1, 0 ≤ p ∧ p < J6 x.1
  adj : ∀ (i : Nat) a b, x.2.2.1[i]? = some a → x.2.2.1[i + 1]? = some b → a < b
  flt : ∀ f ∈ x.2.2.2.2, J4U (J6 x.1) x.2.1 f
theorem Jl9 (f : FT) : J1q f = some (Jg1 f) := by
  unfold J1q Jg1
  simp only [eqI, decide_eq_true_eq]
  repeat' split
  all_goals rfl
theorem Jjt (x : DT) (f : FT) : Tot (J0l (x, f)) fun y => (y = true ↔ J4U (J6 x.1) x.2.1 f) := by
  unfold J0l JX
  dsimp only
  rw [Jl9]
  refine .bind (J16 rfl) fun y2 e => ?_
  subst e
  have no : ∀ {p : Prop}, ¬p → (false = true ↔ p) := fun h => ⟨nofun, fun k => absurd k h⟩
  refine .ite (fun k => .by JoS (fun c1 => .gt (fun c2 => .le (fun c3 => ?_) fun c => .some (no fun h => c h.most)) fun c => .some (no fun h => c h.after)) fun c => .some (no fun h => c h.used)) fun k => .some (no fun h => by rw [h.kind] at k; cases k)
  refine .bind (P := fun y => (y = true ↔ 0 ≤ f.2.2.1 ∧ f.2.2.1 < J6 x.1)) (.ge (fun c => .some (J5a.trans ⟨fun h => ⟨c, h⟩, fun h => h.2⟩)) fun c => .some (no fun h => c h.1)) fun y3 h3 => ?_
  refine .by h3 (fun c4 => ?_) fun c => .some (no fun h => c ⟨h.p0, h.p1⟩)
  refine .bind (P := fun y => (y = true ↔ 0 ≤ f.2.2.2.1 ∧ f.2.2.2.1 < J6 x.1)) (.ge (fun c => .some (J5a.trans ⟨fun h => ⟨c, h⟩, fun h => h.2⟩)) fun c => .some (no fun h => c h.1)) fun y4 h4 => ?_
  refine .by h4 (fun c5 => ?_) fun c => .some (no fun h => c ⟨h.t0, h.t1⟩)
  refine .ge (fun c6 => .lt (fun c7 => .nef (fun c8 => .some (J8x.trans ⟨fun h => ?_, fun h => h.mask c8⟩)) fun c8 => .some ⟨fun _ => ?_, fun _ => rfl⟩) fun c => .some (no fun h => c h.b1)) fun c => .some (no fun h => c h.b0)
  · exact ⟨k, c1, c2, c3, c4.1, c4.2, c5.1, c5.2, c6, c7, fun _ => h⟩
  · exact ⟨k, c1, c2, c3, c4.1, c4.2, c5.1, c5.2, c6, c7, fun h => absurd h c8⟩
theorem Jm3 (l : List (List UInt8)) (hl : J6 l ≤ 1000000) : Tot (JA l) fun y => (y = true ↔ ¬∀ s ∈ l, J6 s = 256) := by
  unfold JA JQ
  refine .bind (P := fun y => (0 ≤ y ↔ ¬∀ s ∈ l, J6 s = 256)) ?_ fun y h => .some (J5L.trans h)
  refine J6m (fun i => (l, J6 l, i)) (J6 l) (fun i => Jaa (fun s => J6 s = 256) l i) J5S JcC fun i g1 g2 g3 => ?_
  unfold J1O J1C
  dsimp only
  refine .lt (fun c => .bind (J6j g1 c).eqn fun a ha => .bind (J16 rfl) fun y e => ?_) fun c => .some ⟨fun h => absurd h (show ¬(0:Int) ≤ -1 by decide), fun h => absurd (J8N g3 c) h⟩
  subst e
  refine .ne (fun d => .some ⟨fun _ h => d (h a ha.1.2), fun _ => g1⟩) fun d => .some ⟨by rw [J6s g1 (by omega)], J7A g3 ha.2 d rfl, c⟩
theorem JnC (x : DT) (l : List FT) (hl : J6 l ≤ 1000000) : Tot (Jr (l, x)) fun y => (y.1 = true ↔ ¬∀ f ∈ l, J4U (J6 x.1) x.2.1 f) := by
  unfold Jr JE
  dsimp only
  refine .bind (P := fun y => (0 ≤ y.1 ↔ ¬∀ f ∈ l, J4U (J6 x.1) x.2.1 f)) ?_ fun y h => .some (J5L.trans h)
  refine J6m (fun i => (l, J6 l, i, x)) (J6 l) (fun i => Jaa (J4U (J6 x.1) x.2.1) l i) J5S JcC fun i g1 g2 g3 => ?_
  unfold J1j J1A
  dsimp only
  refine .lt (fun c => .bind (J6j g1 c).eqn fun a ha => .bind (P := fun z => (z.1 = true ↔ ¬J4U (J6 x.1) x.2.1 a) ∧ z.2 = x) (.bind (Jjt x a) fun y hy => .some ⟨by unfold J3V; rw [← hy]; cases y <;> simp, rfl⟩) fun y e => ?_)
    fun c => .some ⟨fun h => absurd h (show ¬(0:Int) ≤ -1 by decide), fun h => absurd (J8N g3 c) h⟩
  refine .by e.1 (fun d => .some ⟨fun _ h => d (h a ha.1.2), fun _ => g1⟩) fun d => .some ⟨by rw [J6s g1 (by omega), e.2], J7A g3 ha.2 (Classical.not_not.1 (fun h => d h)) rfl, c⟩
structure Asc (n : Int) (l : List Int) (i : Int) : Prop where
  rng : Jaa (fun p => 0 ≤ p ∧ p < n) l i
  adj : ∀ (j : Nat) a b, ((j : Int) + 1 < i) → l[j]? = some a → l[j + 1]? = some b → a < b
theorem Asc.next {n : Int} {l : List Int} {i b : Int} (h : Asc n l i) (e : idx l i = some b) (hb : 0 ≤ b ∧ b < n) (hp : 0 < i → ∀ a, l[(i - 1).toNat]? = some a → a < b) : Asc n l (i + 1) := by
  obtain ⟨e0, e1⟩ := Jlu e
  refine ⟨J7A h.rng e hb rfl, fun j a b' hj ha hb' => ?_⟩
  by_cases hji : (j : Int) + 1 < i
  · exact h.adj j a b' hji ha hb'
  · have e2 : j + 1 = i.toNat := by omega
    rw [e2, e1] at hb'
    injection hb' with hb'; subst hb'
    refine hp (by omega) a ?_
    rw [show (i - 1).toNat = j by omega]; exact ha
theorem Asc.all {n : Int} {l : List Int} {i : Int} (h : Asc n l i) (hi : ¬i < J6 l) : (∀ p ∈ l, 0 ≤ p ∧ p < n) ∧ ∀ (j : Nat) a b, l[j]? = some a → l[j + 1]? = some b → a < b :=
  ⟨J8N h.rng hi, fun j a b ha hb => h.adj j a b (by have := (List.getElem?_eq_some_iff.1 hb).1; unfold J6 at hi; omega) ha hb⟩
theorem Jfa (x : DT) (hu : J6 x.2.2.1 ≤ 1000000000000) : Tot (J0P x) fun y => (y = true ↔ VD x) := by
  unfold J0P
  have no : ∀ {p : Prop}, ¬p → (false = true ↔ p) := fun h => ⟨nofun, fun k => absurd k h⟩
  refine .ltf (fun c1 => .gtf (fun c2 => .ltf (fun c3 => .gtf (fun c4 => .gt (fun c => .some (no fun h => by have := h.f64; omega)) fun c5 => ?_) fun c => .some (no fun h => by have := h.w1; omega)) fun c => .some (no fun h => by have := h.w0; omega)) fun c => .some (no fun h => by have := h.p64; omega)) fun c => .some (no fun h => by have := h.p1; omega)
  refine J6m (fun i => (x.2.2.1, J6 x.2.2.1, i, x)) (J6 x.2.2.1) (fun i => Asc (J6 x.1) x.2.2.1 i) J5S ⟨JcC, fun j a b h => by omega⟩ fun i g1 g2 g3 => ?_
  unfold J7t JX
  dsimp only
  refine .lt (fun c => .bind (J6j g1 c).eqn fun b hb => ?_) fun c => .inr ?_
  · refine .bind (P := fun y => (y = true ↔ 0 ≤ b ∧ b < J6 x.1)) (.ge (fun c => .some (J5a.trans ⟨fun h => ⟨c, h⟩, fun h => h.2⟩)) fun c => .some (no fun h => c h.1)) fun y4 h4 => ?_
    refine .nof (fun k => ?_) fun k => .some (no fun h => by rw [h4.2 (h.rng b hb.1.2)] at k; cases k)
    refine .gt (fun d => ?_) fun d => .some ⟨by rw [J6s g1 (by omega)], g3.next hb.2 (h4.1 k) (fun h => absurd h d), c⟩
    rw [Jrl g1 (by omega)]
    refine .bind (J6j (show 0 ≤ i - 1 by omega) (by omega)) fun a ha => .ge (fun d2 => .some (no fun h => ?_)) fun d2 => .some ⟨by rw [J6s g1 (by omega)], g3.next hb.2 (h4.1 k) (fun _ a' ha' => by rw [ha.1] at ha'; injection ha' with ha'; omega), c⟩
    have := h.adj (i - 1).toNat a b ha.1 (by rw [show (i - 1).toNat + 1 = i.toNat by omega]; exact hb.1.1)
    omega
  · obtain ⟨r1, r2⟩ := g3.all c
    refine .bind (Jm3 x.1 (by omega)) fun y6 h6 => .not (fun k => ?_) fun k => .some (no fun h => h6.1 k h.page)
    have hpg : ∀ s ∈ x.1, J6 s = 256 := Classical.not_not.1 fun h => by rw [h6.2 h] at k; cases k
    refine .bind (JnC x x.2.2.2.2 (by omega)) fun y7 h7 => .some ?_
    unfold J3V
    constructor
    · intro h
      refine ⟨by omega, by omega, by omega, by omega, by omega, hpg, r1, r2, Classical.not_not.1 fun h' => ?_⟩
      rw [h7.2 h'] at h; cases h
    · intro h
      cases hy : y7.1 with
      | false => rfl
      | true => exact absurd h.flt (h7.1 hy)
end Go.Am
end
section
namespace Go.Am
set_option maxRecDepth 20000
set_option linter.unusedVariables false
set_option linter.unusedSimpArgs false
noncomputable section
open Classical
def J94 : DT := ([], 0, [], false, [])
def J1v : List UInt8 := List.replicate 256 0
def usD (x : DT) (p : Int) : Int := if VD x then if x.2.2.2.1 = true then 10 else if 0 ≤ p ∧ p < J6 x.1 then 0 else 1 else 15
theorem JnP {x : DT} {p : Int} (hv : VD x) (hd : x.2.2.2.1 = false) : usD x p = if 0 ≤ p ∧ p < J6 x.1 then 0 else 1 := by
  unfold usD
  rw [if_pos hv, if_neg (by rw [hd]; decide)]
theorem Jmu {x : DT} {p : Int} (hv : VD x) (hd : x.2.2.2.1 = true) : usD x p = 10 := by
  unfold usD
  rw [if_pos hv, if_pos hd]
theorem Jpo {x : DT} {p : Int} (hv : ¬VD x) : usD x p = 15 := by
  unfold usD
  rw [if_neg hv]
theorem Jlo (x : DT) (p : Int) (hu : J6 x.2.2.1 ≤ 1000000000000) : J0E (x, p) = some (usD x p) := by
  refine J8b ?_
  unfold J0E JX
  dsimp only
  refine .bind (Jfa x hu) fun y hy => .not (fun k => .some ?_) fun k => ?_
  · rw [Jpo fun h => by rw [hy.2 h] at k; cases k]
  · refine .ite (fun d => .some (by rw [Jmu (hy.1 k) d])) fun d => ?_
    rw [JnP (hy.1 k) d]
    refine .bind (P := fun y => (y = true ↔ 0 ≤ p ∧ p < J6 x.1)) (.ge (fun c => .some (J5a.trans ⟨fun h => ⟨c, h⟩, fun h => h.2⟩)) fun c => .some ⟨nofun, fun h => absurd h.1 c⟩) fun y3 h3 => ?_
    refine .not (fun k => .some ?_) fun k => .some ?_
    · rw [if_neg fun h => by rw [h3.2 h] at k; cases k]
    · rw [if_pos (h3.1 k)]
def JdU (n : Int) : DT × Int := if 1 ≤ n ∧ n ≤ 64 then ((List.replicate n.toNat J1v, 0, [], false, []), 0) else (J94, 1)
theorem Jlv : J2h ([0], 256) = some J1v := by decide +kernel
theorem Jlb (n : Int) (h0 : 1 ≤ n) (h1 : n ≤ 64) : J1M n = some (List.replicate n.toNat J1v) := by
  unfold J1M
  rw [Jlv]
  show Option.bind (Jeb ([J1v], n)) _ = _
  unfold Jeb
  dsimp only
  rw [if_pos ⟨h0, by omega⟩]
  rfl
theorem JlM (n : Int) : J1f n = some (JdU n) := by
  refine J8b ?_
  unfold J1f JdU
  refine .ltf (fun c => .gt (fun d => .some (by rw [if_neg (by omega)]; rfl)) fun d => ?_) fun c => .some (by rw [if_neg (by omega)]; rfl)
  rw [if_pos ⟨by omega, by omega⟩]
  exact .bind (J16 (Jlb n (by omega) (by omega))) fun y e => .some (by rw [e])
theorem Jmd : (mkS 1 256 256 0 : Option (List Int)) = some (List.replicate 256 0) := rfl
theorem Jli : toStr (List.replicate 256 0) = J1v := by decide +kernel
theorem JlS : J1v.length = 256 := List.length_replicate
theorem Jgv (n : Nat) (w : Int) (h1 : 1 ≤ n) (h2 : n ≤ 64) (hw : 0 ≤ w) (hw1 : w ≤ 1099511627776) : VD (List.replicate n J1v, w, [], false, []) where
  p1 := by show 1 ≤ J6 _; unfold J6; rw [List.length_replicate]; omega
  p64 := by show J6 _ ≤ 64; unfold J6; rw [List.length_replicate]; omega
  w0 := hw
  w1 := hw1
  f64 := by show J6 ([] : List FT) ≤ 64; decide
  page := fun s hs => by rw [List.eq_of_mem_replicate hs]; unfold J6; rw [JlS]; rfl
  rng := fun p hp => by cases hp
  adj := fun i a b h => by simp at h
  flt := fun f hf => by cases hf
def Jkx (x : DT) (f : FT) : DT × Int := if VD x then if J4U (J6 x.1) x.2.1 f then if J6 x.2.2.2.2 = 64 then (J94, 21) else ((x.1, x.2.1, x.2.2.1, x.2.2.2.1, x.2.2.2.2 ++ [f]), 0) else (J94, 1) else (J94, 15)
theorem JqJ (l : List FT) (h : J6 l ≤ 100) : cloS 48 l = some l := by
  unfold cloS
  have : J3l l.length 48 = true := by unfold J3l; unfold J6 at h; simp only [decide_eq_true_eq]; omega
  rw [if_pos this]
theorem Jov (l m : List FT) (h : J6 l ≤ 100) (h2 : J6 m ≤ 100) : Jev 48 l m = some (l ++ m) := by
  unfold Jev
  have : J3l (l.length + m.length) 48 = true := by unfold J3l; unfold J6 at h h2; simp only [decide_eq_true_eq]; omega
  rw [if_pos this]
theorem JpG (x : DT) (f : FT) (hu : J6 x.2.2.1 ≤ 1000000000000) : J1r (x, f) = some (Jkx x f) := by
  refine J8b ?_
  unfold J1r Jkx
  dsimp only
  refine .bind (Jfa x hu) fun y hy => .not (fun k => .some ?_) fun k => ?_
  · rw [if_neg fun h => by rw [hy.2 h] at k; cases k]; rfl
  have hv := hy.1 k
  rw [if_pos hv]
  refine .bind (Jjt x f) fun y hy => .not (fun k => .some ?_) fun k => ?_
  · rw [if_neg fun h => by rw [hy.2 h] at k; cases k]; rfl
  rw [if_pos (hy.1 k)]
  refine .eq (fun c => .some (by rw [if_pos c]; rfl)) fun c => ?_
  rw [if_neg c]
  have := hv.f64
  refine .bind (J16 (JqJ _ (by omega))) fun y e => ?_
  subst e
  exact .bind (J16 (Jov _ _ (by omega) (show (1 : Int) ≤ 100 by decide))) fun y e => .some (by rw [e])
def Jdi (x : DT) (p : Int) : List UInt8 × Int := if usD x p = 0 then if p ∈ x.2.2.1 then ([], 11) else (x.1.getD p.toNat [], 0) else ([], usD x p)
theorem Jjs {x : DT} {p : Int} (h : usD x p = 0) : VD x ∧ x.2.2.2.1 = false ∧ 0 ≤ p ∧ p < J6 x.1 := by
  unfold usD at h
  split at h
  · rename_i hv
    split at h
    · cases h
    · rename_i hd
      split at h
      · rename_i hp; exact ⟨hv, by cases hx : x.2.2.2.1 <;> simp_all, hp.1, hp.2⟩
      · cases h
  · cases h
theorem Jkk {x : DT} {p : Int} (hv : VD x) (hd : x.2.2.2.1 = false) (h0 : 0 ≤ p) (h1 : p < J6 x.1) : usD x p = 0 := by
  unfold usD
  rw [if_pos hv, if_neg (by rw [hd]; decide), if_pos ⟨h0, h1⟩]
theorem JoB (l : List Int) (p : Int) (hl : J6 l ≤ 1000000000000) : Tot (J0c (l, p)) fun y => (y = true ↔ p ∈ l) := by
  unfold J0c J0Q
  refine .bind (P := fun y => (0 ≤ y ↔ p ∈ l)) ?_ fun y h => .some (J5L.trans h)
  refine J6m (fun i => (l, p, J6 l, i)) (J6 l) (fun i => Jaa (fun a => ¬p = a) l i) J5S JcC fun i g1 g2 g3 => ?_
  unfold J43
  dsimp only
  refine .lt (fun c => .bind (J6j g1 c).eqn fun a ha => .eq (fun d => .some ⟨fun _ => d ▸ ha.1.2, fun _ => g1⟩) fun d => .some ⟨by rw [J6s g1 (by omega)], J7A g3 ha.2 d rfl, c⟩)
    fun c => .some ⟨fun h => absurd h (show ¬(0 : Int) ≤ -1 by decide), fun h => absurd rfl (J8N g3 c p h)⟩
theorem JiY {α : Type} {l : List α} {i : Nat} {a d : α} (h : l[i]? = some a) : l.getD i d = a := by rw [List.getD_eq_getElem?_getD, h]; rfl
theorem Jj4 (x : DT) (p : Int) (hu : J6 x.2.2.1 ≤ 1000000000000) : J0M (x, p) = some (Jdi x p) := by
  refine J8b ?_
  unfold J0M Jdi
  dsimp only
  refine .bind (J16 (Jlo x p hu)) fun y e => ?_
  subst e
  refine .ne (fun c => .some (by rw [if_neg c])) fun c => ?_
  rw [if_pos c]
  obtain ⟨hv, _, h0, h1⟩ := Jjs c
  refine .bind (JoB _ p hu) fun y hy => .ite (fun k => .some (by rw [if_pos (hy.1 k)])) fun k => ?_
  rw [if_neg fun h => by rw [hy.2 h] at k; cases k]
  exact .bind (J6j h0 h1) fun a ha => .some (by rw [JiY ha.1])
end
end Go.Am
end
section
namespace Go.Am
set_option maxRecDepth 20000
set_option linter.unusedVariables false
set_option linter.unusedSimpArgs false
noncomputable section
open Classical
theorem JcK : ∀ (l : List Int), (∀ (i : Nat) a b, l[i]? = some a → l[i + 1]? = some b → a < b) → l.Pairwise (· < ·)
  | [], _ => .nil
  | [a], _ => List.pairwise_singleton _ _
  | a :: b :: l, h => by
    have ih := JcK (b :: l) fun i x y hx hy => h (i + 1) x y (by simpa using hx) (by simpa using hy)
    have hab : a < b := h 0 a b rfl rfl
    refine List.pairwise_cons.2 ⟨fun c hc => ?_, ih⟩
    rcases List.mem_cons.1 hc with rfl | hc
    · exact hab
    · exact Int.lt_trans hab ((List.pairwise_cons.1 ih).1 c hc)
theorem JjE {l : List Int} (h : l.Pairwise (· < ·)) (i : Nat) (a b : Int) (ha : l[i]? = some a) (hb : l[i + 1]? = some b) : a < b := by
  obtain ⟨h1, rfl⟩ := List.getElem?_eq_some_iff.1 ha
  obtain ⟨h2, rfl⟩ := List.getElem?_eq_some_iff.1 hb
  exact List.pairwise_iff_getElem.1 h i (i + 1) h1 h2 (Nat.lt_succ_self _)
theorem Jiu (p : Int) : ∀ {l : List Int}, l.Pairwise (· < ·) → l.take (l.countP (· < p)) = l.filter (· < p) ∧ l.drop (l.countP (· < p)) = l.filter (fun a => !(decide (a < p)))
  | [], _ => ⟨rfl, rfl⟩
  | a :: l, h => by
    obtain ⟨h1, h2⟩ := List.pairwise_cons.1 h
    obtain ⟨i1, i2⟩ := Jiu p h2
    by_cases ha : a < p
    · simp only [List.countP_cons, ha, decide_true, if_true, List.take_succ_cons, List.drop_succ_cons, List.filter_cons, Bool.not_true, Bool.false_eq_true, if_false]
      exact ⟨by rw [i1], by rw [i2]⟩
    · have hn : ∀ b ∈ a :: l, ¬b < p := fun b hb => by
        rcases List.mem_cons.1 hb with rfl | hb
        · exact ha
        · have := h1 b hb; omega
      have h0 : (a :: l).countP (fun b => decide (b < p)) = 0 := List.countP_eq_zero.2 fun b hb => by simpa using hn b hb
      rw [h0]
      refine ⟨?_, ?_⟩
      · rw [List.take_zero]; exact (List.filter_eq_nil_iff.2 fun b hb => by simpa using hn b hb).symm
      · rw [List.drop_zero]; exact (List.filter_eq_self.2 fun b hb => by simpa using hn b hb).symm
def J81 (l : List Int) (p : Int) : List Int := l.filter (· < p) ++ p :: l.filter (p < ·)
theorem JoC {l : List Int} {p : Int} (h : l.Pairwise (· < ·)) (hp : p ∉ l) : l.take (l.countP (· < p)) ++ p :: l.drop (l.countP (· < p)) = J81 l p := by
  obtain ⟨h1, h2⟩ := Jiu p h
  rw [h1, h2]
  unfold J81
  congr 2
  refine List.filter_congr fun b hb => ?_
  have : b ≠ p := fun e => hp (e ▸ hb)
  by_cases hb' : b < p
  · simp only [hb', decide_true, Bool.not_true]; exact (decide_eq_false (by omega)).symm
  · simp only [hb', decide_false, Bool.not_false]; exact (decide_eq_true (by omega)).symm
theorem JoR {l : List Int} {p : Int} (h : l.Pairwise (· < ·)) : (J81 l p).Pairwise (· < ·) := by
  unfold J81
  refine List.pairwise_append.2 ⟨h.filter _, List.pairwise_cons.2 ⟨fun b hb => by simpa using (List.mem_filter.1 hb).2, h.filter _⟩, fun a ha b hb => ?_⟩
  have h1 : a < p := by simpa using (List.mem_filter.1 ha).2
  rcases List.mem_cons.1 hb with rfl | hb
  · exact h1
  · have h2 : p < b := by simpa using (List.mem_filter.1 hb).2
    omega
theorem JiS : ∀ {l : List Int} {p : Int}, l.Pairwise (· < ·) → p ∈ l → J81 l p = l
  | [], _, _, h => by cases h
  | a :: l, p, h, hp => by
    obtain ⟨h1, h2⟩ := List.pairwise_cons.1 h
    unfold J81
    by_cases e : p = a
    · subst e
      have e1 : (p :: l).filter (· < p) = [] := List.filter_eq_nil_iff.2 fun b hb => by
        rcases List.mem_cons.1 hb with rfl | hb
        · simp
        · have := h1 b hb; simp; omega
      have e2 : (p :: l).filter (p < ·) = l := by
        rw [List.filter_cons, if_neg (by simp)]
        exact List.filter_eq_self.2 fun b hb => by simpa using h1 b hb
      rw [e1, e2]; rfl
    · have hp' : p ∈ l := (List.mem_cons.1 hp).resolve_left e
      have hap : a < p := h1 p hp'
      rw [List.filter_cons, if_pos (by simpa using hap), List.filter_cons, if_neg (by simp; omega)]
      have := JiS h2 hp'
      unfold J81 at this
      rw [List.cons_append, this]
theorem JoO {l : List Int} {p a : Int} (h : a ∈ J81 l p) : a = p ∨ a ∈ l := by
  unfold J81 at h
  rcases List.mem_append.1 h with h | h
  · exact .inr (List.mem_filter.1 h).1
  · rcases List.mem_cons.1 h with h | h
    · exact .inl h
    · exact .inr (List.mem_filter.1 h).1
structure VP (n : Int) (y : DT) : Prop where
  len : J6 y.1 = n
  page : ∀ s ∈ y.1, s.length = 256
  rng : ∀ p ∈ y.2.2.1, 0 ≤ p ∧ p < n
  srt : y.2.2.1.Pairwise (· < ·)
theorem VD.vp {x : DT} (h : VD x) : VP (J6 x.1) x := ⟨rfl, fun s hs => by have := h.page s hs; unfold J6 at this; omega, h.rng, JcK _ h.adj⟩
theorem JiF : ∀ (l : List Int) (n : Nat), l.Pairwise (· < ·) → (∀ p ∈ l, 0 ≤ p ∧ p < (n : Int)) → l.length ≤ n := by
  intro l n h hr
  have key : ∀ (l : List Int) (k : Int), l.Pairwise (· < ·) → (∀ p ∈ l, k ≤ p ∧ p < (n : Int)) → (l.length : Int) ≤ max 0 (n - k) := by
    intro l
    induction l with
    | nil => intro k _ _; simp; omega
    | cons a l ih =>
      intro k h hr
      obtain ⟨h1, h2⟩ := List.pairwise_cons.1 h
      have ha := hr a List.mem_cons_self
      have := ih (a + 1) h2 fun p hp => ⟨by have := h1 p hp; omega, (hr p (List.mem_cons_of_mem _ hp)).2⟩
      rw [List.length_cons]
      omega
  have := key l 0 h hr
  omega
theorem VD.unr {x : DT} (h : VD x) : J6 x.2.2.1 ≤ 64 := by
  have := JiF x.2.2.1 x.1.length h.vp.srt (fun p hp => h.rng p hp)
  have := h.p64
  unfold J6 at *; omega
theorem VP.unr {n : Int} {y : DT} (h : VP n y) (hn : n ≤ 64) : y.2.2.1.length ≤ 64 := by
  have hl := h.len
  have := JiF y.2.2.1 y.1.length h.srt (fun p hp => by have := h.rng p hp; unfold J6 at hl; omega)
  unfold J6 at hl; omega
theorem VP.set {n : Int} {y : DT} (h : VP n y) (t : Nat) {s : List UInt8} (hs : s.length = 256) : VP n (J5l y t s) where
  len := by show J6 (y.1.set t s) = n; unfold J6; rw [List.length_set]; exact h.len
  page := fun z hz => by
    rcases List.mem_or_eq_of_mem_set hz with hz | rfl
    · exact h.page z hz
    · exact hs
  rng := fun p hp => h.rng p (List.mem_filter.1 hp).1
  srt := h.srt.filter _
theorem Jps (l : List UInt8) (b : Nat) (m : Int) : (JgU l b m).length = l.length := by unfold JgU; simp
theorem VP.getD {n : Int} {y : DT} (h : VP n y) {p : Int} (h0 : 0 ≤ p) (h1 : p < n) : y.1[p.toNat]? = some (y.1.getD p.toNat []) ∧ (y.1.getD p.toNat []).length = 256 := by
  have hl : p.toNat < y.1.length := by have := h.len; unfold J6 at this; omega
  have e : y.1[p.toNat]? = some (y.1.getD p.toNat []) := by rw [List.getD_eq_getElem?_getD, List.getElem?_eq_getElem hl]; rfl
  exact ⟨e, h.page _ (List.mem_of_getElem? e)⟩
def J5q (x : DT) (f : FT) : DT :=
  if f.1 = 4 then (x.1.set f.2.2.1.toNat (JgU (x.1.getD f.2.2.1.toNat []) f.2.2.2.2.1.toNat f.2.2.2.2.2), x.2)
  else if f.1 = 5 then (x.1, x.2.1, J81 x.2.2.1 f.2.2.1, x.2.2.2)
  else if f.1 = 6 then (x.1, x.2.1, x.2.2.1, true, x.2.2.2.2)
  else x
theorem Jpy {n : Int} {y : DT} (h : VP n y) (f : FT) : J0F y f = J5q y f := by
  unfold J0F J5q
  split
  · rfl
  · split
    · by_cases hc : f.2.2.1 ∈ y.2.2.1
      · rw [if_pos (List.contains_iff_mem.2 hc), JiS h.srt hc]
      · rw [if_neg (fun k => hc (List.contains_iff_mem.1 k)), JoC h.srt hc]
    · rfl
theorem VP.harm {n w : Int} {y : DT} (h : VP n y) {f : FT} (hf : J4U n w f) : VP n (J5q y f) := by
  unfold J5q
  split
  · refine ⟨?_, fun z hz => ?_, h.rng, h.srt⟩
    · show J6 (List.set _ _ _) = n; unfold J6; rw [List.length_set]; exact h.len
    · rcases List.mem_or_eq_of_mem_set hz with hz | rfl
      · exact h.page z hz
      · rw [Jps]; exact (h.getD hf.p0 hf.p1).2
  · split
    · exact ⟨h.len, h.page, fun p hp => (JoO hp).elim (fun e => e ▸ ⟨hf.p0, hf.p1⟩) (h.rng p), JoR h.srt⟩
    · split
      · exact ⟨h.len, h.page, h.rng, h.srt⟩
      · exact h
theorem Jkn (y : DT) (f : FT) : (J5q y f).2.1 = y.2.1 ∧ (J5q y f).2.2.2.2 = y.2.2.2.2 ∧ (J5q y f).1.length = y.1.length := by
  unfold J5q
  split
  · exact ⟨rfl, rfl, List.length_set ..⟩
  · split
    · exact ⟨rfl, rfl, rfl⟩
    · split <;> exact ⟨rfl, rfl, rfl⟩
def Byt (l : List FT) : Prop := ∀ f ∈ l, 0 ≤ f.2.2.2.2.2 ∧ f.2.2.2.2.2 ≤ 255
theorem Jqc {n w : Int} {y : DT} (h : VP n y) (hn : n ≤ 64) {f : FT} (hf : J4U n w f) (hm : 0 ≤ f.2.2.2.2.2 ∧ f.2.2.2.2.2 ≤ 255) : HOk y f where
  len := by have := h.len; unfold J6 at this; omega
  ulen := by have := h.unr hn; omega
  sorted := fun _ => h.srt.imp fun h => Int.le_of_lt h
  page := fun _ => ⟨hf.p0, by have := h.len; have := hf.p1; have := hf.p0; unfold J6 at *; omega⟩
  byte := fun _ => ⟨hf.b0, by rw [(h.getD hf.p0 hf.p1).2]; have := hf.b0; have := hf.b1; omega⟩
  mask := fun _ => hm
theorem Jf8 {n w : Int} (hn : n ≤ 64) : ∀ {l : List FT} {y : DT}, VP n y → (∀ f ∈ l, J4U n w f) → Byt l → l.foldlM J0O y = some (l.foldl J5q y) ∧ VP n (l.foldl J5q y) ∧ (l.foldl J5q y).2.1 = y.2.1 ∧ (l.foldl J5q y).2.2.2.2 = y.2.2.2.2
  | [], y, h, _, _ => ⟨rfl, h, rfl, rfl⟩
  | f :: l, y, h, hf, hb => by
    have h1 := h.harm (hf f List.mem_cons_self)
    have e : J0O y f = some (J5q y f) := by
      unfold J0O
      rw [if_pos (Jqc h hn (hf f List.mem_cons_self) (hb f List.mem_cons_self)), Jpy h]
    obtain ⟨i1, i2, i3, i4⟩ := Jf8 hn h1 (fun g hg => hf g (List.mem_cons_of_mem _ hg)) (fun g hg => hb g (List.mem_cons_of_mem _ hg))
    obtain ⟨k1, k2, _⟩ := Jkn y f
    refine ⟨?_, i2, i3.trans k1, i4.trans k2⟩
    rw [List.foldlM_cons, e]
    exact i1
def JdY (e : Int × Int) (x : DT) (p : Int) (s : List UInt8) : DT :=
  if e.1 = 1 then x else if e.1 = 2 then J5l x e.2.toNat s else if e.1 = 3 then J5l x p.toNat (s.take e.2.toNat ++ (x.1.getD p.toNat []).drop e.2.toNat) else J5l x p.toNat s
def wM (x : DT) (p : Int) (s : List UInt8) : DT := (J60 x).foldl J5q (JdY (J3H (J60 x)) (J4H x) p s)
theorem JeN {P : FT → Prop} : ∀ {l : List FT}, (∀ f ∈ l, P f) → (J3H l = (0, 0) ∧ ∀ f ∈ l, f.1 ≠ 1 ∧ f.1 ≠ 2 ∧ f.1 ≠ 3) ∨ J3H l = (1, 0) ∨ (∃ f, P f ∧ J3H l = (2, f.2.2.2.1)) ∨ ∃ f, P f ∧ J3H l = (3, f.2.2.2.2.1)
  | [], _ => .inl ⟨rfl, fun f h => by cases h⟩
  | f :: l, h => by
    unfold J3H
    split
    · exact .inr (.inl rfl)
    · split
      · exact .inr (.inr (.inl ⟨f, h f List.mem_cons_self, rfl⟩))
      · split
        · exact .inr (.inr (.inr ⟨f, h f List.mem_cons_self, rfl⟩))
        · rename_i h1 h2 h3
          rcases JeN (fun g hg => h g (List.mem_cons_of_mem _ hg)) with ⟨e, hh⟩ | e
          · exact .inl ⟨e, fun g hg => by
              rcases List.mem_cons.1 hg with rfl | hg
              · exact ⟨h1, h2, h3⟩
              · exact hh g hg⟩
          · exact .inr e
theorem Jiq {x : DT} {f : FT} (h : f ∈ J60 x) : f ∈ x.2.2.2.2 ∧ f.2.1 = x.2.1 + 1 := by
  unfold J60 at h
  obtain ⟨h1, h2⟩ := List.mem_filter.1 h
  exact ⟨h1, by simpa using h2⟩
theorem Jhn {x : DT} {f : FT} (h : f ∈ (J4H x).2.2.2.2) : f ∈ x.2.2.2.2 ∧ ¬f.2.1 = x.2.1 + 1 := by
  unfold J4H at h
  obtain ⟨h1, h2⟩ := List.mem_filter.1 h
  exact ⟨h1, by simpa using h2⟩
theorem Jqp {n w : Int} {y : DT} (h : VP n y) (hn : n ≤ 64) {l : List FT} (hf : ∀ f ∈ l, J4U n w f) {p : Int} (h0 : 0 ≤ p) (h1 : p < n) {s : List UInt8} (hs : s.length = 256) :
    JmK (J3H l) y p s = some (JdY (J3H l) y p s) ∧ VP n (JdY (J3H l) y p s) ∧ (JdY (J3H l) y p s).2.1 = y.2.1 ∧ (JdY (J3H l) y p s).2.2.2.2 = y.2.2.2.2 := by
  have hlen := h.len
  have hul := h.unr hn
  have hll : (y.1.length : Int) = n := hlen
  have hset : ∀ (t : Int) (z : List UInt8), 0 ≤ t → t < n → z.length = 256 → J7k y t z = some (J5l y t.toNat z) := fun t z ht0 ht1 hz => by
    unfold J7k
    rw [if_pos ⟨ht0, by omega, by omega, by omega⟩]
  rcases JeN hf with ⟨e, _⟩ | e | ⟨f, hf', e⟩ | ⟨f, hf', e⟩ <;> rw [e] <;> unfold JmK JdY <;> dsimp only
  · rw [if_neg (by decide), if_neg (by decide), if_neg (by decide), if_neg (by decide), if_neg (by decide), if_neg (by decide)]
    exact ⟨hset p s h0 h1 hs, h.set _ hs, rfl, rfl⟩
  · rw [if_pos rfl, if_pos rfl]; exact ⟨rfl, h, rfl, rfl⟩
  · rw [if_neg (by decide), if_pos rfl, if_neg (by decide), if_pos rfl]
    exact ⟨hset _ s hf'.t0 hf'.t1 hs, h.set _ hs, rfl, rfl⟩
  · rw [if_neg (by decide), if_neg (by decide), if_pos rfl, if_neg (by decide), if_neg (by decide), if_pos rfl]
    obtain ⟨_, g⟩ := h.getD h0 h1
    have b0 := hf'.b0
    have b1 := hf'.b1
    have hz : (s.take f.2.2.2.2.1.toNat ++ (y.1.getD p.toNat []).drop f.2.2.2.2.1.toNat).length = 256 := by
      rw [List.length_append, List.length_take, List.length_drop, g]; omega
    refine ⟨?_, h.set _ hz, rfl, rfl⟩
    unfold Jg4
    rw [if_pos ⟨b0, by omega, h0, by omega, by omega, g⟩]
    exact hset p _ h0 h1 hz
theorem JfV {x : DT} (hv : VD x) (hb : Byt x.2.2.2.2) {p : Int} (h0 : 0 ≤ p) (h1 : p < J6 x.1) {s : List UInt8} (hs : s.length = 256) (hw : x.2.1 < 1099511627776) :
    J9L x p s = some (wM x p s) ∧ VD (wM x p s) ∧ Byt (wM x p s).2.2.2.2 ∧ J6 (wM x p s).1 = J6 x.1 ∧ (wM x p s).2.1 = x.2.1 + 1 ∧ (wM x p s).2.2.2.2 = x.2.2.2.2.filter (fun f => !(f.2.1 == x.2.1 + 1)) := by
  have hvr : VP (J6 x.1) (J4H x) := ⟨rfl, hv.vp.page, hv.vp.rng, hv.vp.srt⟩
  have hn : ∀ f ∈ J60 x, J4U (J6 x.1) x.2.1 f := fun f hf => hv.flt f (Jiq hf).1
  obtain ⟨e1, e2, e3, e4⟩ := Jqp hvr hv.p64 hn h0 h1 hs
  obtain ⟨f1, f2, f3, f4⟩ := Jf8 hv.p64 e2 hn (fun f hf => hb f (Jiq hf).1)
  have k3 : (wM x p s).2.1 = x.2.1 + 1 := f3.trans e3
  have k4 : (wM x p s).2.2.2.2 = (J4H x).2.2.2.2 := f4.trans e4
  refine ⟨?_, ?_, ?_, f2.len, k3, k4⟩
  · unfold J9L
    rw [e1, Option.bind_some]
    exact f1
  · have hl := f2.len
    refine ⟨?_, ?_, ?_, ?_, ?_, ?_, ?_, ?_, ?_⟩
    · show 1 ≤ J6 (wM x p s).1; rw [show J6 (wM x p s).1 = J6 x.1 from hl]; exact hv.p1
    · show J6 (wM x p s).1 ≤ 64; rw [show J6 (wM x p s).1 = J6 x.1 from hl]; exact hv.p64
    · rw [k3]; have := hv.w0; omega
    · rw [k3]; omega
    · rw [k4]
      have : (J4H x).2.2.2.2.length ≤ x.2.2.2.2.length := List.length_filter_le _ _
      have := hv.f64
      unfold J6 at *; omega
    · intro z hz; have := f2.page z hz; unfold J6; omega
    · intro q hq; rw [show J6 (wM x p s).1 = J6 x.1 from hl]; exact f2.rng q hq
    · exact JjE f2.srt
    · intro f hf
      rw [k4] at hf
      obtain ⟨m1, m2⟩ := Jhn hf
      have := hv.flt f m1
      rw [show J6 (wM x p s).1 = J6 x.1 from hl, k3]
      exact ⟨this.kind, this.used, by have := this.after; omega, this.most, this.p0, this.p1, this.t0, this.t1, this.b0, this.b1, this.mask⟩
  · intro f hf; rw [k4] at hf; exact hb f (Jhn hf).1
def wrD (x : DT) (p : Int) (s : List UInt8) : DT × Int := if usD x p = 0 then if s.length = 256 then if x.2.1 = 1099511627776 then (J94, 21) else (wM x p s, 0) else (J94, 2) else (J94, usD x p)
theorem Jcb (x : DT) (p : Int) (s : List UInt8) (hu : J6 x.2.2.1 ≤ 1000000000000) (hb : Byt x.2.2.2.2) : J02 (x, p, s) = some (wrD x p s) := by
  unfold J02 Jdn
  dsimp only
  rw [Jlo x p hu, Option.bind_some]
  unfold wrD
  by_cases h : usD x p = 0
  · rw [if_neg (by simpa using h), if_pos h]
    by_cases hs : s.length = 256
    · rw [if_neg (by simpa using hs), if_pos hs]
      by_cases hw : x.2.1 = 1099511627776
      · rw [if_pos hw, if_pos hw]; rfl
      · rw [if_neg hw, if_neg hw]
        obtain ⟨hv, _, h0, h1⟩ := Jjs h
        have w1 := hv.w1
        have f64 := hv.f64
        unfold J6 at f64
        rw [if_pos ⟨hv.w0, by omega, by omega⟩, (JfV hv hb h0 h1 hs (by omega)).1]
        rfl
    · rw [if_pos (by simpa using hs), if_neg hs]; rfl
  · rw [if_pos (by simpa using h), if_neg h]; rfl
theorem JgO {x : DT} (hv : VD x) (hd : x.2.2.2.1 = false) {p : Int} (h0 : 0 ≤ p) (h1 : p < J6 x.1) {s : List UInt8} (hs : s.length = 256) (hw : x.2.1 < 1099511627776) : wrD x p s = (wM x p s, 0) := by
  unfold wrD
  rw [if_pos (Jkk hv hd h0 h1), if_pos hs, if_neg (by omega)]
end
end Go.Am
end
section
namespace Go.Am
section
variable (P : Program)
def J5p : Nat → TypeId → Bool
  | 0, _ => false
  | n + 1, t => match P.underlying t with
    | some .bool => true
    | some (.int _) => true
    | some .string => true
    | some (.slice e) => J5p n e && decide (t < P.types.size ∧ 0 < P.cellsOf e)
    | some (.struct fs) => fs.toList.all (fun f => J5p n f.type) && decide (t < P.types.size)
    | some (.array _ e) => J5p n e && decide (t < P.types.size)
    | _ => false
def J2u : Nat → TypeId → List PV → Prop
  | 0, _, _ => False
  | n + 1, t, pvs => match P.underlying t with
    | some .bool => ∃ b, pvs = [.b b]
    | some (.int k) => ∃ z, pvs = [.i k z] ∧ (Lit.int k z).wf = true
    | some .string => ∃ l, pvs = [.s l] ∧ l.length ≤ maxLen
    | some (.slice e) => ∃ rows, pvs = [.sl (P.cellsOf e) rows] ∧ rows.length ≤ maxLen ∧ ∀ row ∈ rows, row.length = P.cellsOf e ∧ J2u n e row
    | some (.struct fs) => pvs.length = P.cellsOf t ∧ ∀ f ∈ fs.toList, J2u n f.type ((pvs.drop f.offset).take (P.cellsOf f.type))
    | some (.array m e) => pvs.length = P.cellsOf t ∧ ∀ i, i < m → J2u n e ((pvs.drop (i * P.cellsOf e)).take (P.cellsOf e))
    | _ => False
end
section
variable {H : Type} {enc : TypeId × Value → H} {P : Program} {w : World} {base : Nat} {sp : Nat → Bool} {held : Bool}
def JjL (w : World) (pvs : List PV) (cs : List Value) : Prop :=
  pvs.length = cs.length ∧ ∀ (i : Nat) p v, pvs[i]? = some p → cs[i]? = some v → Ji w (fun r _ => r < w.heap.size) p v
theorem JeQ {a : Addr} {v : Value} (h : w.cell? a = some v) : a.spot = none ∧ cellAt w a.block a.off = some v ∧ a.block < w.heap.size := by
  unfold World.cell? at h
  unfold cellAt
  split at h
  · rename_i c t fz hb
    split at h
    · cases h
    · rename_i hs
      refine ⟨by simpa using hs, by rw [hb]; exact h, ?_⟩
      have := Array.getElem?_eq_some_iff.1 hb
      exact this.1
  · cases h
theorem Jmw {a : Addr} {n : Nat} {cs : List Value} (h : w.cells? base a n = some cs) : cs.length = n ∧ ∀ i v, cs[i]? = some v → w.cell? (a.add i) = some v := by
  unfold World.cells? at h
  split at h
  · have hl := mapM_some_length h
    refine ⟨by simpa using hl, fun i v hv => ?_⟩
    have hi : i < n := by
      have := (List.getElem?_eq_some_iff.1 hv).1
      simp at hl; omega
    have := mapM_some_get h i i (by simp [hi])
    rw [this, hv]
  · cases h
theorem Jcy {α : Type} (Q : Nat → α → Prop) : ∀ (m : Nat), (∀ i, i < m → ∃ x, Q i x) → ∃ xs : List α, xs.length = m ∧ ∀ i x, xs[i]? = some x → Q i x
  | 0, _ => ⟨[], rfl, fun i x h => by simp at h⟩
  | m + 1, h => by
    obtain ⟨xs, hl, hx⟩ := Jcy Q m (fun i hi => h i (by omega))
    obtain ⟨y, hy⟩ := h m (by omega)
    refine ⟨xs ++ [y], by simp [hl], fun i x hi => ?_⟩
    rcases Nat.lt_or_ge i xs.length with hlt | hge
    · rw [List.getElem?_append_left hlt] at hi; exact hx i x hi
    · rw [List.getElem?_append_right hge] at hi
      have : i - xs.length = 0 := by
        have := (List.getElem?_eq_some_iff.1 hi).1
        simp at this; omega
      rw [this] at hi
      simp at hi; subst hi
      obtain rfl : i = m := by omega
      exact hy
theorem J9I {α : Type} : ∀ (xs : List (List α)) (j : Nat) (y : List α), xs[j]? = some y → (xs.flatten.drop ((xs.take j).map List.length).sum).take y.length = y
  | [], j, y, h => by simp at h
  | x :: xs, 0, y, h => by simp at h; subst h; simp
  | x :: xs, j + 1, y, h => by
    simp at h
    have := J9I xs j y h
    simp only [List.take_succ_cons, List.map_cons, List.sum_cons, List.flatten_cons, List.drop_length_add_append]
    exact this
theorem Jop (hl : laidOutB P = true) (hm : mapsRowed P = true) : ∀ (n : Nat) (t : TypeId) (cs : List Value) (x : DataW H × List MemPlace) (fuel : Nat), J5p P n t = true → DataW.trod enc P w base sp held fuel t cs = some x →
    ∃ pvs, J2u P n t pvs ∧ JjL w pvs cs := by
  have K := kids_rows hl hm
  intro n
  induction n with
  | zero => intro t cs x fuel hp; simp [J5p] at hp
  | succ n ih =>
    intro t cs x fuel hp h
    unfold J5p at hp
    unfold J2u
    split at hp
    · rename_i ht
      obtain ⟨b, rfl, _⟩ := DataW.trod_bool ht h
      refine ⟨[.b b], by simp, rfl, fun i p v h1 h2 => ?_⟩
      match i with
      | 0 => simp at h1 h2; subst h1 h2; exact .b _
      | i + 1 => simp at h1
    · rename_i k ht
      obtain ⟨z, rfl, _, hwf⟩ := DataW.trod_int ht h
      refine ⟨[.i k z], by simpa using hwf, rfl, fun i p v h1 h2 => ?_⟩
      match i with
      | 0 => simp at h1 h2; subst h1 h2; exact .i _ _
      | i + 1 => simp at h1
    · rename_i ht
      obtain ⟨s, rfl, _, hsz⟩ := DataW.trod_string ht h
      refine ⟨[.s s.data.toList], ⟨_, rfl, by rw [Array.length_toList]; exact hsz⟩, rfl, fun i p v h1 h2 => ?_⟩
      match i with
      | 0 => simp at h1 h2; subst h1 h2; exact .s _
      | i + 1 => simp at h1
    · rename_i e ht
      simp only [Bool.and_eq_true, decide_eq_true_eq] at hp
      rcases DataW.trod_slice ht h with ⟨rfl, _⟩ | ⟨a, len, cap, elems, rest, n0, _, rfl, _, _, hlc, hcm, hel, hat, _⟩
      · refine ⟨[.sl (P.cellsOf e) []], ⟨[], rfl, Nat.zero_le _, by simp⟩, rfl, fun i p v h1 h2 => ?_⟩
        match i with
        | 0 => simp at h1 h2; subst h1 h2; exact .sl0 _ _ _
        | i + 1 => simp at h1
      ·
        have hrow : ∀ i, i < len → ∃ row : List PV, (row.length = P.cellsOf e ∧ J2u P n e row) ∧ ∀ j p, row[j]? = some p → ∃ v, w.cell? (a.add (i * P.cellsOf e) |>.add j) = some v ∧ Ji w (fun r _ => r < w.heap.size) p v := by
          intro i hi
          have h1 := hat i hi
          have h2 : ∃ y, elems[i]? = some y := ⟨_, List.getElem?_eq_getElem (by omega)⟩
          obtain ⟨y, hy⟩ := h2
          rw [hy, Option.bind_eq_some_iff] at h1
          obtain ⟨cs', hc, ht'⟩ := h1
          obtain ⟨row, q1, q2, q3⟩ := ih e cs' y n0 hp.1 ht'
          obtain ⟨c1, c2⟩ := Jmw hc
          refine ⟨row, ⟨by omega, q1⟩, fun j p hj => ?_⟩
          have hlt : j < cs'.length := by have := (List.getElem?_eq_some_iff.1 hj).1; omega
          have hv := List.getElem?_eq_getElem hlt
          exact ⟨_, c2 j _ hv, q3 j p _ hj hv⟩
        obtain ⟨rows, hrl, hrows⟩ := Jcy _ len hrow
        refine ⟨[.sl (P.cellsOf e) rows], ⟨rows, rfl, by omega, fun row hr => ?_⟩, rfl, fun i p v h1 h2 => ?_⟩
        · obtain ⟨i, hi⟩ := List.getElem?_of_mem hr
          exact (hrows i row hi).1
        match i with
        | i + 1 => simp at h1
        | 0 =>
          simp at h1 h2; subst h1 h2
          by_cases h0 : ∃ (i j : Nat) (row : List PV) (p : PV), rows[i]? = some row ∧ row[j]? = some p
          · obtain ⟨i0, j0, row0, p0, hr0, hp0⟩ := h0
            have spot : a.spot = none ∨ P.cellsOf e = 0 := by
              rcases Nat.eq_zero_or_pos (P.cellsOf e) with hz | hpos
              · exact .inr hz
              · have hlen : 0 < len := by have := (List.getElem?_eq_some_iff.1 hr0).1; omega
                have hr00 := List.getElem?_eq_getElem (l := rows) (i := 0) (by omega)
                have q := hrows 0 _ hr00
                have hj0 := List.getElem?_eq_getElem (l := rows[0]'(by omega)) (i := 0) (by omega)
                obtain ⟨v, hv, _⟩ := q.2 0 _ hj0
                rw [Nat.zero_mul] at hv
                exact .inl (by simpa [Addr.add] using (JeQ hv).1)
            rcases spot with spot | hz
            · have cell : ∀ (i j : Nat) (row : List PV) (p : PV), rows[i]? = some row → row[j]? = some p → ∃ v, (a.block < w.heap.size ∧ cellAt w a.block (a.off + i * P.cellsOf e + j) = some v) ∧ Ji w (fun r _ => r < w.heap.size) p v := by
                intro i j row p hi hj
                obtain ⟨v, hv, hr⟩ := (hrows i row hi).2 j p hj
                obtain ⟨s1, s2, s3⟩ := JeQ hv
                refine ⟨v, ?_, hr⟩
                have e1 : ((a.add (i * P.cellsOf e)).add j).block = a.block := by unfold Addr.add; split <;> split <;> rfl
                have e2 : ((a.add (i * P.cellsOf e)).add j).off = a.off + i * P.cellsOf e + j := by
                  unfold Addr.add
                  split <;> split <;> simp_all
                rw [e1] at s3
                rw [e1, e2] at s2
                exact ⟨s3, s2⟩
              have ea : a = ⟨a.block, a.off, none⟩ := by cases a; simp_all
              rw [ea, ← hrl]
              refine .sl _ rows a.block a.off cap (fun i j => ((cellAt w a.block (a.off + i * P.cellsOf e + j)).getD default)) (by omega) (fun row hr => ?_) (fun i j row p hi hj => ?_) (fun i j row p hi hj => ?_)
              · obtain ⟨i, hi⟩ := List.getElem?_of_mem hr
                exact (hrows i row hi).1.1
              · obtain ⟨v, ⟨h3, h4⟩, _⟩ := cell i j row p hi hj
                exact ⟨h3, by rw [h4]; rfl⟩
              · obtain ⟨v, ⟨h3, h4⟩, h5⟩ := cell i j row p hi hj
                rw [h4]; exact h5
            · have := (hrows i0 row0 hr0).1.1
              have := (List.getElem?_eq_some_iff.1 hp0).1
              omega
          ·
            rcases Nat.eq_zero_or_pos len with hz | hpos
            · have : rows = [] := by cases rows <;> simp_all
              subst this
              subst hz
              exact .sl0 _ _ _
            · exfalso
              have hr00 := List.getElem?_eq_getElem (l := rows) (i := 0) (by omega)
              have q := (hrows 0 _ hr00).1.1
              exact h0 ⟨0, 0, _, _, hr00, List.getElem?_eq_getElem (by omega)⟩
    · rename_i fs ht
      simp only [Bool.and_eq_true, decide_eq_true_eq, List.all_eq_true] at hp
      obtain ⟨xs, n0, _, _, hcl, hxl, hat⟩ := DataW.trod_struct ht h
      obtain ⟨_, ksum, koff⟩ := K.struct hp.2 ht
      have hf : ∀ i, i < fs.toList.length → ∃ ys : List PV, ∀ f, fs.toList[i]? = some f → J2u P n f.type ys ∧ JjL w ys ((cs.drop f.offset).take (P.cellsOf f.type)) := by
        intro i hi
        have hfi := List.getElem?_eq_getElem hi
        have hmem := List.mem_of_getElem? hfi
        have hfa : fs[i]? = some (fs.toList[i]) := by rw [← Array.getElem?_toList]; exact hfi
        have h1 := hat i _ hfa
        have h2 : ∃ y, xs[i]? = some y := ⟨_, List.getElem?_eq_getElem (by simpa [hxl] using hi)⟩
        obtain ⟨y, hy⟩ := h2
        rw [hy] at h1
        obtain ⟨ys, q1, q2⟩ := ih _ _ _ _ (hp.1 _ hmem) h1
        refine ⟨ys, fun f hff => ?_⟩
        rw [hfi] at hff; injection hff with hff; subst hff
        exact ⟨q1, q2⟩
      obtain ⟨yss, hyl, hys⟩ := Jcy _ _ hf
      have hlen : ∀ (j : Nat) (f : Field), fs.toList[j]? = some f → ∀ ys : List PV, yss[j]? = some ys → ys.length = P.cellsOf f.type := by
        intro j f hj ys hy
        have q := (hys j ys hy f hj).2.1
        have o := koff j f hj
        rw [q, List.length_take, List.length_drop, hcl, ksum, o]
        have : ((fs.toList.take j).map fun f => P.cellsOf f.type).sum + P.cellsOf f.type ≤ (fs.toList.map fun f => P.cellsOf f.type).sum := by
          have e1 : fs.toList = fs.toList.take j ++ (f :: fs.toList.drop (j + 1)) := by
            have hjl := (List.getElem?_eq_some_iff.1 hj)
            obtain ⟨hjl, he⟩ := hjl
            rw [← he, ← List.drop_eq_getElem_cons hjl, List.take_append_drop]
          conv => rhs; rw [e1]
          simp only [List.map_append, List.map_cons, List.sum_append, List.sum_cons]
          omega
        omega
      have hmapl : yss.map List.length = fs.toList.map fun f => P.cellsOf f.type := by
        apply List.ext_getElem?
        intro j
        rw [List.getElem?_map, List.getElem?_map]
        cases hy : yss[j]? with
        | none =>
          have : fs.toList[j]? = none := by rw [List.getElem?_eq_none_iff] at hy ⊢; omega
          rw [this]; rfl
        | some ys =>
          have hj : j < fs.toList.length := by have := (List.getElem?_eq_some_iff.1 hy).1; omega
          have hfj := List.getElem?_eq_getElem hj
          rw [hfj]
          simp only [Option.map_some]
          rw [hlen j _ hfj ys hy]
      have hoff : ∀ (j : Nat) (f : Field), fs.toList[j]? = some f → ((yss.take j).map List.length).sum = f.offset := by
        intro j f hj
        rw [koff j f hj, List.map_take, hmapl, ← List.map_take]
      refine ⟨yss.flatten, ⟨?_, fun f hf => ?_⟩, ?_, fun i p v h1 h2 => ?_⟩
      · rw [List.length_flatten, hmapl, ksum]
      · obtain ⟨j, hj⟩ := List.getElem?_of_mem hf
        have hjl : j < yss.length := by have := (List.getElem?_eq_some_iff.1 hj).1; omega
        have hyj := List.getElem?_eq_getElem hjl
        have := J9I yss j _ hyj
        rw [hoff j f hj, hlen j f hj _ hyj] at this
        rw [this]
        exact (hys j _ hyj f hj).1
      · rw [List.length_flatten, hmapl, hcl, ksum]
      ·
        have key : ∀ (l : List (List PV)) (i : Nat) p, l.flatten[i]? = some p → ∃ j ys k, l[j]? = some ys ∧ ys[k]? = some p ∧ i = ((l.take j).map List.length).sum + k := by
          intro l
          induction l with
          | nil => intro i p h; simp at h
          | cons y l ihl =>
            intro i p h
            rw [List.flatten_cons] at h
            rcases Nat.lt_or_ge i y.length with hlt | hge
            · rw [List.getElem?_append_left hlt] at h
              exact ⟨0, y, i, rfl, h, by simp⟩
            · rw [List.getElem?_append_right hge] at h
              obtain ⟨j, ys, k, a1, a2, a3⟩ := ihl _ _ h
              exact ⟨j + 1, ys, k, by simpa using a1, a2, by simp only [List.take_succ_cons, List.map_cons, List.sum_cons]; omega⟩
        obtain ⟨j, ys, k, a1, a2, a3⟩ := key _ _ _ h1
        have hj : j < fs.toList.length := by have := (List.getElem?_eq_some_iff.1 a1).1; omega
        have hfj := List.getElem?_eq_getElem hj
        have q := (hys j ys a1 _ hfj).2
        refine q.2 k p v a2 ?_
        have hk : k < P.cellsOf (fs.toList[j]).type := by have := (List.getElem?_eq_some_iff.1 a2).1; rw [hlen j _ hfj ys a1] at this; exact this
        rw [List.getElem?_take_of_lt hk, List.getElem?_drop, ← hoff j _ hfj, ← a3]
        exact h2
    · rename_i m e ht
      simp only [Bool.and_eq_true, decide_eq_true_eq] at hp
      obtain ⟨xs, n0, _, _, hcl, hxl, hat⟩ := DataW.trod_array ht h
      obtain ⟨_, ksz⟩ := K.array hp.2 ht
      have hf : ∀ i, i < m → ∃ ys : List PV, J2u P n e ys ∧ JjL w ys ((cs.drop (i * P.cellsOf e)).take (P.cellsOf e)) := by
        intro i hi
        have h1 := hat i hi
        have h2 : ∃ y, xs[i]? = some y := ⟨_, List.getElem?_eq_getElem (by omega)⟩
        obtain ⟨y, hy⟩ := h2
        rw [hy] at h1
        exact ih _ _ _ _ hp.1 h1
      obtain ⟨yss, hyl, hys⟩ := Jcy _ _ hf
      have hlen : ∀ (j : Nat) ys, yss[j]? = some ys → ys.length = P.cellsOf e := by
        intro j ys hy
        have q := (hys j ys hy).2.1
        have hj : j < m := by have := (List.getElem?_eq_some_iff.1 hy).1; omega
        rw [q, List.length_take, List.length_drop, hcl, ksz]
        have : j * P.cellsOf e + P.cellsOf e ≤ m * P.cellsOf e := by rw [← Nat.succ_mul]; exact Nat.mul_le_mul_right _ hj
        omega
      have hall : ∀ y ∈ yss, y.length = P.cellsOf e := fun y hy => by
        obtain ⟨j, hj⟩ := List.getElem?_of_mem hy
        exact hlen j y hj
      have hsum : ∀ l : List (List PV), (∀ y ∈ l, y.length = P.cellsOf e) → (l.map List.length).sum = l.length * P.cellsOf e := by
        intro l
        induction l with
        | nil => intro _; simp
        | cons y l ihl => intro hh; simp [hh y (by simp), ihl (fun z hz => hh z (by simp [hz])), Nat.succ_mul, Nat.add_comm]
      have hoff : ∀ j, j ≤ m → ((yss.take j).map List.length).sum = j * P.cellsOf e := by
        intro j hj
        rw [hsum _ (fun y hy => hall y (List.mem_of_mem_take hy)), List.length_take, hyl, Nat.min_eq_left hj]
      refine ⟨yss.flatten, ⟨?_, fun j hj => ?_⟩, ?_, fun i p v h1 h2 => ?_⟩
      · rw [List.length_flatten, hsum _ hall, hyl, ksz]
      · have hyj := List.getElem?_eq_getElem (l := yss) (i := j) (by omega)
        have := J9I yss j _ hyj
        rw [hoff j (by omega), hlen j _ hyj] at this
        rw [this]
        exact (hys j _ hyj).1
      · rw [List.length_flatten, hsum _ hall, hcl, hyl, ksz]
      · have key : ∀ (l : List (List PV)) (i : Nat) p, l.flatten[i]? = some p → ∃ j ys k, l[j]? = some ys ∧ ys[k]? = some p ∧ i = ((l.take j).map List.length).sum + k := by
          intro l
          induction l with
          | nil => intro i p h; simp at h
          | cons y l ihl =>
            intro i p h
            rw [List.flatten_cons] at h
            rcases Nat.lt_or_ge i y.length with hlt | hge
            · rw [List.getElem?_append_left hlt] at h
              exact ⟨0, y, i, rfl, h, by simp⟩
            · rw [List.getElem?_append_right hge] at h
              obtain ⟨j, ys, k, a1, a2, a3⟩ := ihl _ _ h
              exact ⟨j + 1, ys, k, by simpa using a1, a2, by simp only [List.take_succ_cons, List.map_cons, List.sum_cons]; omega⟩
        obtain ⟨j, ys, k, a1, a2, a3⟩ := key _ _ _ h1
        have hj : j < m := by have := (List.getElem?_eq_some_iff.1 a1).1; omega
        have q := (hys j ys a1).2
        refine q.2 k p v a2 ?_
        have hk : k < P.cellsOf e := by have := (List.getElem?_eq_some_iff.1 a2).1; rw [hlen j ys a1] at this; exact this
        rw [List.getElem?_take_of_lt hk, List.getElem?_drop, ← hoff j (by omega), ← a3]
        exact h2
    · cases hp
end
end Go.Am
end
section
namespace Go.Am
open Go.ChangeShapes Go.WideShapes Go.ChangeAt Go.RowKit
def gh0 (w : World) : Gh := ⟨fun _ => none, fun r _ => r < w.heap.size⟩
theorem Jes (g : Gh) (w : World) (b r o : Nat) : ¬ Wr1 ⟨[], g, w⟩ b r o := by
  unfold Wr1; simp
theorem Jro (w : World) : Inv ⟨[], gh0 w, w⟩ where
  box := fun b cs h => by simp at h
  arr := fun b wm esz rows h => by simp at h
  apart := fun b1 b2 r o h => absurd h (Jes _ _ _ _ _)
  const := fun r o h => ⟨h, fun b => Jes _ _ _ _ _⟩
def J7D (w w' : World) : Prop := J75 (fun _ _ => False) w w'
theorem J7D.kept {w w' : World} (h : J7D w w') (may : MemPlace → Prop) : w.keptBut w' may := by
  obtain ⟨h1, h2, h3, h4, h5⟩ := h
  refine ⟨h4, h5, fun i hi => ?_⟩
  have hg := Array.getElem?_eq_getElem hi
  cases hw : w.heap[i]? with
  | none => rw [hg] at hw; cases hw
  | some x =>
    cases x with
    | cells c e fz =>
      obtain ⟨c', q1, q2, q3⟩ := h2 i c e fz hw
      rw [q1]
      exact ⟨rfl, rfl, q2, fun j _ => q3 j (fun hf => hf)⟩
    | map es clock =>
      have := h3 i _ hw (fun c e fz he => by cases he)
      rw [this]
      exact .inr ⟨rfl, rfl⟩
    | _ =>
      have := h3 i _ hw (fun c e fz he => by cases he)
      rw [this]
theorem J7D.same {w w' : World} (h : J7D w w') {p : MemPlace} (hp : p.block < w.heap.size) : w.sameAt w' p := by
  obtain ⟨h1, h2, h3, h4, h5⟩ := h
  cases p with
  | cell b off =>
    have hb : b < w.heap.size := hp
    have hg := Array.getElem?_eq_getElem hb
    show w'.cell? ⟨b, off, none⟩ = w.cell? ⟨b, off, none⟩
    rw [J1D, J1D]
    unfold cellAt
    cases hw : w.heap[b]? with
    | none => rw [hg] at hw; cases hw
    | some x =>
      cases x with
      | cells c e fz =>
        obtain ⟨c', q1, q2, q3⟩ := h2 b c e fz hw
        rw [q1]
        exact q3 off (fun hf => hf)
      | _ =>
        have := h3 b _ hw (fun c e fz he => by cases he)
        rw [this]
  | map b =>
    have hb : b < w.heap.size := hp
    have hg := Array.getElem?_eq_getElem hb
    show w'.heap[b]? = w.heap[b]?
    cases hw : w.heap[b]? with
    | none => rw [hg] at hw; cases hw
    | some x =>
      cases x with
      | cells c e fz =>
        obtain ⟨c', q1, q2, q3⟩ := h2 b c e fz hw
        rw [q1]
        have : c' = c := by
          apply Array.ext_getElem?
          intro i
          exact q3 i (fun hf => hf)
        rw [this]
      | _ => exact h3 b _ hw (fun c e fz he => by cases he)
theorem J7D.frozen {w w' : World} (h : J7D w w') {a : Addr} (hp : a.block < w.heap.size) : w'.frozen? a = w.frozen? a := by
  obtain ⟨h1, h2, h3, h4, h5⟩ := h
  have hg := Array.getElem?_eq_getElem hp
  unfold World.frozen?
  cases hw : w.heap[a.block]? with
  | none => rw [hg] at hw; cases hw
  | some x =>
    cases x with
    | cells c e fz =>
      obtain ⟨c', q1, q2, q3⟩ := h2 a.block c e fz hw
      rw [q1]
    | _ =>
      have := h3 a.block _ hw (fun c e fz he => by cases he)
      rw [this]
theorem JlO {P : Program} {F : Orc} (hF : J26 P F) {f : FuncId} {args : List AV} {vals : Array Value} {w : World} (hl : args.length = vals.size)
    (hr : ∀ (i : Nat) x v, args[i]? = some x → vals[i]? = some v → Jc ⟨[], gh0 w, w⟩ x v) (h : F f args [] = some (.p (.b true), [])) :
    Calls P f vals w fun e w' => e = .returned (.bool true) ∧ J7D w w' := by
  refine ((hF _ _ _ _ h).2 (gh0 w) w vals (Jro w) hl hr).mono fun e w' ⟨v, g', he, _, ht, hrel⟩ => ?_
  cases hrel with
  | p _ _ hrel =>
    cases hrel with
    | b =>
      refine ⟨he, ?_⟩
      obtain ⟨k1, k2, k3, k4⟩ := ht.keep
      refine ⟨k1, fun r c e fz hr => ?_, k3, k4⟩
      obtain ⟨c', q1, q2, q3⟩ := k2 r c e fz hr
      exact ⟨c', q1, q2, fun o _ => q3 o (fun ⟨b, hb⟩ => Jes _ _ _ _ _ hb)⟩
section
variable {H : Type} {enc : TypeId × Value → H} {P : Program}
theorem J9r (hl : laidOutB P = true) (hm : mapsRowed P = true) (hsz : ∀ {t e : TypeId}, t < P.types.size → P.underlying t = some (.slice e) → 0 < P.cellsOf e) {W W' : World} {sp : Nat → Bool} :
    ∀ {ts : List TypeId} {vs : List Value} {ds : List (DataW H)} {ps : List MemPlace}, (∀ t ∈ ts, t < P.types.size) → DataW.TrodAll enc P W 0 (fun _ => true) true ts vs ds ps →
      (∀ p ∈ ps, W.sameAt W' p) → (∀ p ∈ ps, sp p.block = true) → DataW.TrodAll enc P W' 0 sp true ts vs ds ps
  | [], [], [], _, _, h, _, _ => h
  | [], _ :: _, _, _, _, h, _, _ => h.elim
  | [], [], _ :: _, _, _, h, _, _ => h.elim
  | _ :: _, [], _, _, _, h, _, _ => h.elim
  | _ :: _, _ :: _, [], _, _, h, _, _ => h.elim
  | t :: ts, v :: vs, d :: ds, _, hT, ⟨p, q, ⟨n, h1⟩, h2, rfl⟩, hs, hp => by
    refine ⟨p, q, ⟨n, DataW.trod_stays (kids_rows hl hm) hsz (fun h => by cases h) (hT t (by simp)) h1 (fun x hx => hs x (by simp [hx])) (fun x hx => hp x (by simp [hx]))⟩, ?_, rfl⟩
    exact J9r hl hm hsz (fun x hx => hT x (by simp [hx])) h2 (fun x hx => hs x (by simp [hx])) (fun x hx => hp x (by simp [hx]))
def J69 (P : Program) : Bool := (List.range P.types.size).all fun t => match P.underlying t with
  | some (.slice e) => decide (0 < P.cellsOf e)
  | _ => true
theorem JhG (h : J69 P = true) {t e : TypeId} (ht : t < P.types.size) (he : P.underlying t = some (.slice e)) : 0 < P.cellsOf e := by
  unfold J69 at h
  rw [List.all_eq_true] at h
  have := h t (by simpa using ht)
  rw [he] at this
  simpa using this
theorem JnL {fn : Func} {s : ChangeSpec} {tb : TypeId} (hl : laidOutB P = true) (hm : mapsRowed P = true) (hsz : J69 P = true) (hpar : ∀ t ∈ fn.params.toList, t < P.types.size)
    (hres : fn.resultTypes = #[tb]) (htb : P.underlying tb = some .bool) (hvars : s.vars = []) {apart fresh handsOn again : Bool} {W W' : World} {args : Array Value} {ds gs : List (DataW H)} {before : List MemPlace}
    (hfn : gs = [] → s.fn H (ds ++ gs) = { results := [.lit (.bool true)], args := ds })
    (hW : DataW.Whole enc P fn.params.toList s.vars apart W args.toList ds gs before) (hst : J7D W W') : s.post enc P fn apart fresh handsOn again W args (.bool true) W' := by
  have hW0 := hW
  have hlt := hW.lt
  obtain ⟨p, q, h1, h2, rfl, hz, hn⟩ := hW
  rw [hvars] at h2
  obtain ⟨rfl, rfl⟩ := trodVars_none h2
  rw [List.append_nil] at hW0 hlt hz hn
  have hf := hfn rfl
  have hargs : ∀ sp : Nat → Bool, (∀ x ∈ p, sp x.block = true) → DataW.TrodAll enc P W' 0 sp true fn.params.toList args.toList ds p := fun sp hp =>
    J9r hl hm (fun ht he => JhG hsz ht he) hpar h1 (fun x hx => hst.same (hlt x hx)) hp
  have hr : ∀ (b : Nat) (sp : Nat → Bool) (hd : Bool), DataW.TrodAll enc P W' b sp hd fn.resultTypes.toList ((Value.bool true).resultList fn.resultTypes.size) [.lit (.bool true)] [] := by
    intro b sp hd
    rw [hres]
    exact trodAll_cons_mk (shut_bool htb _) trodAll_mk0
  refine ⟨ds, [], p, [], p, [], hW0, ?_, ?_, ?_, hst.kept _, fun _ => ⟨?_, ?_⟩⟩
  · rw [hf]; exact hr _ _ _
  · rw [hf]; exact hargs _ (fun x hx => by simpa using hlt x hx)
  · rw [hf, hvars]; rfl
  · exact ok_one hres rfl (okWide_bool_mk htb _)
  · refine ⟨_, [], [] ++ p, ⟨[] ++ p, [], trodAll_append (hargs _ (fun _ _ => rfl)) (hr _ _ _), by rw [hvars]; rfl, by simp, fun b off hp => ?_, fun ha => by simpa using hn ha⟩, fun x hx _ => by simpa using hx⟩
    have hp' : MemPlace.cell b off ∈ p := by simpa using hp
    rw [hst.frozen (a := ⟨b, off, none⟩) (hlt _ hp')]
    exact hz b off hp'
def Jkd (P : Program) (t : TypeId) (pvs : List PV) : AV := match P.underlying t with
  | some (.struct _) => .data pvs
  | some (.array _ _) => .data pvs
  | _ => match pvs with
    | [c] => .p c
    | _ => .unk
theorem Jpm (hl : laidOutB P = true) (hm : mapsRowed P = true) {n : Nat} {t : TypeId} {w : World} {r : Reach} {base : Nat} {sp : Nat → Bool} {v : Value} {d : DataW H} {ps : List MemPlace} (hp : J5p P n t = true)
    (hv : Value.okWide P w r base t v) (h : DataW.Trod enc P w 0 sp true t v d ps) : ∃ pvs, J2u P n t pvs ∧ Jc ⟨[], gh0 w, w⟩ (Jkd P t pvs) v := by
  obtain ⟨fuel, h⟩ := h
  obtain ⟨pvs, q1, q2, q3⟩ := Jop hl hm n t _ _ fuel hp h
  refine ⟨pvs, q1, ?_⟩
  cases n with
  | zero => simp [J5p] at hp
  | succ n =>
    unfold J5p at hp
    unfold Value.okWide at hv
    unfold Jkd
    have one : ∀ {c : PV}, pvs = [c] → (∀ cs, v ≠ .agg cs) → Jc ⟨[], gh0 w, w⟩ (.p c) v := by
      intro c hc hne
      subst hc
      refine .p _ _ (q3 0 c v rfl ?_)
      cases v <;> first | rfl | exact absurd rfl (hne _)
    unfold J2u at q1
    split at hp
    · rename_i ht
      rw [ht] at q1 hv ⊢
      obtain ⟨b, rfl⟩ := q1
      exact one rfl (fun cs he => by subst he; simp [Cell.okWide, Cell.ok, ht] at hv)
    · rename_i k ht
      rw [ht] at q1 hv ⊢
      obtain ⟨z, rfl, _⟩ := q1
      exact one rfl (fun cs he => by subst he; simp [Cell.okWide, Cell.ok, ht] at hv)
    · rename_i ht
      rw [ht] at q1 hv ⊢
      obtain ⟨z, rfl, _⟩ := q1
      exact one rfl (fun cs he => by subst he; simp [Cell.okWide, Cell.ok, ht] at hv)
    · rename_i e ht
      rw [ht] at q1 hv ⊢
      obtain ⟨rows, rfl, _⟩ := q1
      exact one rfl (fun cs he => by subst he; simp [Cell.okWide, Cell.ok, ht] at hv)
    · rename_i fs ht
      rw [ht] at hv ⊢
      obtain ⟨cs, rfl, _⟩ := hv
      exact .data _ _ (by simpa [Value.cells] using q2) (fun i x v h1 h2 => q3 i x v h1 (by simpa [Value.cells] using h2))
    · rename_i m e ht
      rw [ht] at hv ⊢
      obtain ⟨cs, rfl, _⟩ := hv
      exact .data _ _ (by simpa [Value.cells] using q2) (fun i x v h1 h2 => q3 i x v h1 (by simpa [Value.cells] using h2))
    · cases hp
end
end Go.Am
end
section
namespace Go.Am
section
variable (P : Program) {α β : Type}
def Rd (n : Nat) (t : TypeId) (r : α → List PV) (Q : α → Prop) : Prop := ∀ pvs, J2u P n t pvs → ∃ x, pvs = r x ∧ Q x
def fieldsOf (t : TypeId) : Option (List (TypeId × Nat)) := match P.underlying t with
  | some (.struct fs) => some (fs.toList.map fun f => (f.type, f.offset))
  | _ => none
variable {P}
theorem JpK {n : Nat} {t : TypeId} {k : IntKind} (ht : P.underlying t = some (.int k)) : Rd P (n + 1) t (r_i k) fun z => k.min ≤ z ∧ z ≤ k.max := by
  intro pvs h
  unfold J2u at h
  rw [ht] at h
  obtain ⟨z, rfl, hz⟩ := h
  refine ⟨z, rfl, ?_⟩
  simpa [Lit.wf, IntKind.has] using hz
theorem Rd.mono {n : Nat} {t : TypeId} {r : α → List PV} {Q Q' : α → Prop} (h : Rd P n t r Q) (hq : ∀ x, Q x → Q' x) : Rd P n t r Q' := fun pvs hp => by
  obtain ⟨x, e, q⟩ := h pvs hp
  exact ⟨x, e, hq x q⟩
theorem Jp0 {n : Nat} {t : TypeId} (ht : P.underlying t = some .bool) : Rd P (n + 1) t r_b fun _ => True := by
  intro pvs h
  unfold J2u at h
  rw [ht] at h
  obtain ⟨z, rfl⟩ := h
  exact ⟨z, rfl, trivial⟩
theorem Jq8 {n : Nat} {t : TypeId} (ht : P.underlying t = some .string) : Rd P (n + 1) t r_s fun l => l.length ≤ maxLen := by
  intro pvs h
  unfold J2u at h
  rw [ht] at h
  obtain ⟨z, rfl, hz⟩ := h
  exact ⟨z, rfl, hz⟩
theorem JnH {n : Nat} {t e : TypeId} {r : α → List PV} {Q : α → Prop} {k : Nat} (ht : P.underlying t = some (.slice e)) (hk : P.cellsOf e = k) (he : Rd P n e r Q) :
    Rd P (n + 1) t (Jrq k r) fun l => l.length ≤ maxLen ∧ ∀ x ∈ l, Q x := by
  intro pvs h
  unfold J2u at h
  rw [ht] at h
  obtain ⟨rows, rfl, hl, hr⟩ := h
  have key : ∀ rows : List (List PV), (∀ row ∈ rows, row.length = P.cellsOf e ∧ J2u P n e row) → ∃ l : List α, rows = l.map r ∧ ∀ x ∈ l, Q x := by
    intro rows
    induction rows with
    | nil => intro _; exact ⟨[], rfl, by simp⟩
    | cons row rows ih =>
      intro hh
      obtain ⟨l, rfl, hl⟩ := ih (fun r hr => hh r (by simp [hr]))
      obtain ⟨x, rfl, hx⟩ := he row (hh row (by simp)).2
      refine ⟨x :: l, rfl, fun y hy => ?_⟩
      rcases List.mem_cons.1 hy with rfl | hy
      · exact hx
      · exact hl y hy
  obtain ⟨l, rfl, hq⟩ := key rows hr
  exact ⟨l, by rw [hk]; rfl, by simpa using hl, hq⟩
theorem Jmv {n m : Nat} {t e : TypeId} {r : α → List PV} {Q : α → Prop} {k : Nat} (ht : P.underlying t = some (.array m e)) (hk : P.cellsOf e = k) (hm : P.cellsOf t = m * k) (he : Rd P n e r Q) :
    Rd P (n + 1) t (J5r (n := m) r) fun v => ∀ (i : Nat) (h : i < m), Q v[i] := by
  intro pvs h
  unfold J2u at h
  rw [ht] at h
  obtain ⟨hl, hr⟩ := h
  rw [hm] at hl
  have key : ∀ (m : Nat) (pvs : List PV), pvs.length = m * k → (∀ i, i < m → J2u P n e ((pvs.drop (i * k)).take k)) → ∃ l : List α, l.length = m ∧ pvs = (l.map r).flatten ∧ ∀ (i : Nat) (h : i < l.length), Q l[i] := by
    intro m
    induction m with
    | zero =>
      intro pvs h _
      refine ⟨[], rfl, ?_, by simp⟩
      rw [Nat.zero_mul] at h
      simpa using h
    | succ m ih =>
      intro pvs h hh
      rw [Nat.succ_mul] at h
      obtain ⟨l, h1, h2, h3⟩ := ih (pvs.drop k) (by rw [List.length_drop]; omega) (fun i hi => by
        have := hh (i + 1) (by omega)
        rw [List.drop_drop]
        rw [Nat.succ_mul, Nat.add_comm] at this
        exact this)
      obtain ⟨x, e1, hx⟩ := he _ (hh 0 (by omega))
      rw [Nat.zero_mul, List.drop_zero] at e1
      refine ⟨x :: l, by simp [h1], ?_, fun i hi => ?_⟩
      · rw [List.map_cons, List.flatten_cons, ← e1, ← h2, List.take_append_drop]
      · cases i with
        | zero => exact hx
        | succ i => exact h3 i (by simpa using hi)
  obtain ⟨l, h1, h2, h3⟩ := key m pvs hl (fun i hi => by have := hr i hi; rwa [hk] at this)
  refine ⟨⟨l.toArray, by simpa using h1⟩, ?_, fun i hi => ?_⟩
  · rw [h2]; rfl
  · have := h3 i (by omega)
    simpa using this
theorem JkQ {m n : Nat} {t : TypeId} {fl : List (TypeId × Nat)} {pvs : List PV} (hm : m = n + 1) (ht : fieldsOf P t = some fl) (h : J2u P m t pvs) :
    pvs.length = P.cellsOf t ∧ ∀ x ∈ fl, J2u P n x.1 ((pvs.drop x.2).take (P.cellsOf x.1)) := by
  subst hm
  unfold J2u at h
  unfold fieldsOf at ht
  split at ht
  · rename_i fs hfs
    rw [hfs] at h
    injection ht with ht
    subst ht
    refine ⟨h.1, fun x hx => ?_⟩
    obtain ⟨f, hf, rfl⟩ := List.mem_map.1 hx
    exact h.2 f hf
  · cases ht
end
end Go.Am
end
section
namespace Go.Am
section
variable (P : Program)
def J7p (p : Ty → TypeId → Bool) : Nat → List (TypeId × Nat) → Ty → Bool
  | _, [], .u => true
  | _, [], _ => false
  | o, [f], a => decide (f.2 = o) && p a f.1 && decide (P.cellsOf f.1 = a.sz)
  | o, f :: g :: r, .pr a c => decide (f.2 = o) && p a f.1 && decide (P.cellsOf f.1 = a.sz) && J7p p (o + a.sz) (g :: r) c
  | _, _ :: _ :: _, _ => false
def Jcu : Nat → Ty → TypeId → Bool
  | 0, _, _ => false
  | n + 1, ty, t => match fieldsOf P t with
    | some fs => J7p P (Jcu n) 0 fs ty && decide (P.cellsOf t = ty.sz)
    | none => match P.underlying t, ty with
      | some .bool, .b => true
      | some (.int k), .i k' => decide (k = k')
      | some .string, .s => true
      | some (.slice e), .l a => Jcu n a e && decide (P.cellsOf e = a.sz)
      | some (.array m e), .ar m' a => decide (m = m') && Jcu n a e && decide (P.cellsOf e = a.sz) && decide (P.cellsOf t = m * a.sz)
      | _, _ => false
def Ty.inR : (t : Ty) → t.D → Prop
  | .b, _ => True
  | .i k, z => k.min ≤ z ∧ z ≤ k.max
  | .s, z => List.length z ≤ maxLen
  | .l t, z => List.length z ≤ maxLen ∧ ∀ x ∈ (z : List t.D), t.inR x
  | .pr a c, x => a.inR x.1 ∧ c.inR x.2
  | .ar n t, v => ∀ (i : Nat) (h : i < n), t.inR ((v : Vector t.D n)[i])
  | .u, _ => True
  | .f, _ => True
end
section
variable {P : Program}
theorem Jjc {n : Nat} (ih : ∀ ty t, Jcu P n ty t = true → Rd P n t (cel ty) ty.inR) : ∀ (o : Nat) (fs : List (TypeId × Nat)) (ty : Ty) (pvs : List PV), J7p P (Jcu P n) o fs ty = true →
    (∀ x ∈ fs, J2u P n x.1 ((pvs.drop x.2).take (P.cellsOf x.1))) → ∃ x : ty.D, (pvs.drop o).take ty.sz = cel ty x ∧ ty.inR x
  | o, [], ty, pvs, h, _ => by
    cases ty with
    | u => exact ⟨(), by simp [Ty.sz, cel], trivial⟩
    | _ => simp [J7p] at h
  | o, [f], ty, pvs, h, hf => by
    simp only [J7p, Bool.and_eq_true, decide_eq_true_eq] at h
    obtain ⟨⟨h1, h2⟩, h3⟩ := h
    have := hf f (by simp)
    rw [h1, h3] at this
    obtain ⟨x, e, q⟩ := ih ty f.1 h2 _ this
    exact ⟨x, e, q⟩
  | o, f :: g :: r, ty, pvs, h, hf => by
    cases ty with
    | pr a c =>
      simp only [J7p, Bool.and_eq_true, decide_eq_true_eq] at h
      obtain ⟨⟨⟨h1, h2⟩, h3⟩, h4⟩ := h
      have := hf f (by simp)
      rw [h1, h3] at this
      obtain ⟨x, e, q⟩ := ih a f.1 h2 _ this
      obtain ⟨y, e', q'⟩ := Jjc ih (o + a.sz) (g :: r) c pvs h4 (fun z hz => hf z (by simp [List.mem_cons.1 hz]))
      refine ⟨(x, y), ?_, q, q'⟩
      simp only [cel, Ty.sz]
      rw [← e, ← e', ← List.drop_drop, List.take_add]
    | _ => simp [J7p] at h
theorem rdT : ∀ (n : Nat) (ty : Ty) (t : TypeId), Jcu P n ty t = true → Rd P n t (cel ty) ty.inR
  | 0, _, _, h => by cases h
  | n + 1, ty, t, h => by
    unfold Jcu at h
    split at h
    · rename_i fs hfs
      simp only [Bool.and_eq_true, decide_eq_true_eq] at h
      intro pvs hp
      obtain ⟨hl, hf⟩ := JkQ rfl hfs hp
      obtain ⟨x, e, q⟩ := Jjc (rdT n) 0 fs ty pvs h.1 hf
      rw [List.drop_zero, ← h.2, ← hl, List.take_length] at e
      exact ⟨x, e, q⟩
    · split at h
      · rename_i ht; exact Jp0 ht
      · rename_i k k' ht
        simp only [decide_eq_true_eq] at h; subst h
        exact JpK ht
      · rename_i ht; exact Jq8 ht
      · rename_i e a ht
        simp only [Bool.and_eq_true, decide_eq_true_eq] at h
        exact JnH ht h.2 (rdT n a e h.1)
      · rename_i m e m' a ht
        simp only [Bool.and_eq_true, decide_eq_true_eq] at h
        obtain ⟨⟨⟨h1, h2⟩, h3⟩, h4⟩ := h
        subst h1
        exact Jmv ht h3 h4 (rdT n a e h2)
      · cases h
def JlZ (P : Program) (t : TypeId) : Bool := match P.underlying t with
  | some (.struct _) => true
  | some (.array _ _) => true
  | _ => false
def Jqj (agg : Bool) (t : Ty) (x : t.D) : TA := if agg = true then .dt t x else .c (.d t x)
theorem Jqb (L : Nat → Nat) {t : TypeId} {ty : Ty} {agg : Bool} (ha : JlZ P t = agg) (h1 : agg = false → ty.sz = 1) (x : ty.D) : Jkd P t (cel ty x) = J01 L (Jqj agg ty x) := by
  unfold Jkd JlZ at *
  generalize P.underlying t = u at ha ⊢
  rcases u with _ | d
  · subst ha
    dsimp only
    rw [Jgx (h1 rfl) x]
    rfl
  · cases d <;> first
      | (subst ha; rfl)
      | (subst ha; dsimp only; rw [Jgx (h1 rfl) x]; rfl)
theorem Jqo {F : Orc} {f : FuncId} {g : Sig} {S : (tyL g.ti).D → Option (tyL g.to).D} {xs : List TA} {x : (tyL g.ti).D} {y : (tyL g.to).D} (he : EOk F (sigE f g S)) (hx : JbN g xs [] = some x) (hS : S x = some y)
    (hv : JcQ g y = some (.a (.c (.d .b true)), [])) : F f (xs.map (J01 (lns []))) [] = some (.p (.b true), []) := by
  have h : (sigE f g S).go xs [] (fun v out => some (v, out)) = some (TV.a (.c (.d .b true)), ([] : List (Bool × TB))) := by
    simp only [sigE, hx, hS, Option.bind_some, hv]
    cases g.same <;> rfl
  obtain ⟨v, out, h1, _, h3⟩ := he.ok h
  injection h3 with h3; injection h3 with h4 h5; subst h4 h5
  exact h1
end
end Go.Am
end
section
namespace Go.Am
set_option maxRecDepth 20000
set_option linter.unusedVariables false
set_option linter.unusedSimpArgs false
open Classical
theorem Jny (n w k : Int) (hw : w < k) (hk : k ≤ 1099511627776) (hn : 1 ≤ n) : J4U n w (1, k, 0, 0, 0, 0) := ⟨rfl, rfl, hw, hk, by show (0 : Int) ≤ 0; omega, by show (0 : Int) < n; omega, by show (0 : Int) ≤ 0; omega, by show (0 : Int) < n; omega, by show (0 : Int) ≤ 0; omega, by show (0 : Int) < 256; omega, fun h => by cases h⟩
theorem JpX {x : DT} {f : FT} (hv : VD x) (hf : J4U (J6 x.1) x.2.1 f) (hl : J6 x.2.2.2.2 < 64) : Jkx x f = ((x.1, x.2.1, x.2.2.1, x.2.2.2.1, x.2.2.2.2 ++ [f]), 0) := by
  unfold Jkx
  rw [if_pos hv, if_pos hf, if_neg (by omega)]
theorem JqC {x : DT} {f : FT} (hv : VD x) (hf : J4U (J6 x.1) x.2.1 f) (hl : J6 x.2.2.2.2 < 64) : VD (x.1, x.2.1, x.2.2.1, x.2.2.2.1, x.2.2.2.2 ++ [f]) where
  p1 := hv.p1
  p64 := hv.p64
  w0 := hv.w0
  w1 := hv.w1
  f64 := by show J6 (x.2.2.2.2 ++ [f]) ≤ 64; rw [Jni, Jms]; omega
  page := hv.page
  rng := hv.rng
  adj := hv.adj
  flt := fun g hg => by
    rcases List.mem_append.1 hg with hg | hg
    · exact hv.flt g hg
    · rw [List.mem_singleton.1 hg]; exact hf
theorem Joa : (mkS 1 255 255 0 : Option (List Int)) = some (List.replicate 255 0) := rfl
theorem Jl5 (a b : List UInt8) (h : a.length + b.length ≤ 1000000) : Je8 a b = some (a ++ b) := by unfold Je8; rw [if_pos (by omega)]
theorem Jpu : J1X () = some true := by
  refine J8b ?_
  unfold J1X
  refine .bind (J16 (JlM 1)) fun y2 e2 => ?_
  have n1 : JdU 1 = ((List.replicate 1 J1v, 0, [], false, []), 0) := by unfold JdU; rw [if_pos (by decide)]; rfl
  rw [n1] at e2
  subst e2
  have v2 := Jgv 1 0 (by decide) (by decide) (by decide) (by decide)
  have hf := Jny (J6 (List.replicate 1 J1v)) 0 2 (by decide) (by decide) (by decide)
  refine .bind (J16 (JpG _ _ (by show (0 : Int) ≤ _; decide))) fun y3 e3 => ?_
  rw [JpX v2 hf (by show (0 : Int) < 64; decide)] at e3
  subst e3
  have v3 := JqC v2 hf (by show (0 : Int) < 64; decide)
  refine .bind (J16 Joa) fun y4 e4 => .bind (J16 (Jl5 _ _ (by subst e4; simp [toStr]))) fun y5 e5 => .bind (J16 Joa) fun y6 e6 => .bind (J16 (Jl5 _ _ (by subst e6; simp [toStr]))) fun y7 e7 => ?_
  have l5 : y5.length = 256 := by subst e5; subst e4; simp [toStr]
  have l7 : y7.length = 256 := by subst e7; subst e6; simp [toStr]
  clear e4 e5 e6 e7
  have hb : Byt [((1, 2, 0, 0, 0, 0) : FT)] := fun f hf => by rw [List.mem_singleton.1 hf]; exact ⟨by decide, by decide⟩
  refine .bind (J16 (Jcb _ _ _ (by show (0 : Int) ≤ _; decide) hb)) fun y8 e8 => ?_
  rw [JgO v3 rfl (by decide) (by show (0 : Int) < 1; decide) l5 (by show (0 : Int) < _; decide)] at e8
  obtain ⟨-, v4, b4, p4, -, -⟩ := JfV v3 hb (p := 0) (by decide) (by show (0 : Int) < 1; decide) l5 (by show (0 : Int) < _; decide)
  have w4 : wM ((List.replicate 1 J1v, 0, [], false, [] ++ [(1, 2, 0, 0, 0, 0)]) : DT) 0 y5 = ([y5], 1, [], false, [(1, 2, 0, 0, 0, 0)]) := rfl
  have w4' : wM ((List.replicate 1 J1v, 0, [], false, [(1, 2, 0, 0, 0, 0)]) : DT) 0 y5 = ([y5], 1, [], false, [(1, 2, 0, 0, 0, 0)]) := rfl
  dsimp only at v4
  rw [w4] at v4
  rw [w4] at e8
  subst e8
  refine .bind (J16 (Jcb _ _ _ (by show (0 : Int) ≤ _; decide) hb)) fun y9 e9 => ?_
  rw [JgO v4 rfl (by decide) (by show (0 : Int) < 1; decide) l7 (by show (1 : Int) < _; decide)] at e9
  obtain ⟨-, v5, -, -, -, -⟩ := JfV v4 hb (p := 0) (by decide) (by show (0 : Int) < 1; decide) l7 (by show (1 : Int) < _; decide)
  have w5 : wM (([y5], 1, [], false, [(1, 2, 0, 0, 0, 0)]) : DT) 0 y7 = ([y5], 2, [], false, []) := rfl
  rw [w5] at v5 e9
  subst e9
  refine .bind (J16 (Jj4 _ _ (by show (0 : Int) ≤ _; decide))) fun y10 e10 => ?_
  have r10 : Jdi ([y5], 2, [], false, []) 0 = (y5, 0) := by
    unfold Jdi
    rw [if_pos (Jkk v5 rfl (by decide) (by show (0 : Int) < 1; decide)), if_neg (by simp)]
    rfl
  rw [r10] at e10
  subst e10
  exact .some (by simp [eqI, eqS])
theorem Jnz {x0 : List Int} (w0 : Ty.inR (.l (.i .u8)) x0) : ∀ a ∈ x0, 0 ≤ a ∧ a ≤ 255 := fun a ha => by
  have := w0.2 a ha
  simpa [Ty.inR, IntKind.min, IntKind.max, IntKind.signed, IntKind.bits] using this
structure Qt (d : DT) : Prop where
  vd : VD d
  live : d.2.2.2.1 = false
  flt : d.2.2.2.2 = []
  unr : d.2.2.1 = []
theorem JnF {d : DT} (h : Qt d) {p : Int} (h0 : 0 ≤ p) (h1 : p < J6 d.1) {s : List UInt8} (hs : s.length = 256) (hw : d.2.1 < 1099511627776) :
    J02 (d, p, s) = some ((d.1.set p.toNat s, d.2.1 + 1, [], false, []), 0) ∧ Qt (d.1.set p.toNat s, d.2.1 + 1, [], false, []) := by
  have hb : Byt d.2.2.2.2 := by rw [h.flt]; exact fun f hf => by cases hf
  have e := Jcb d p s (by have := h.vd.unr; omega) hb
  rw [JgO h.vd h.live h0 h1 hs hw] at e
  have hv := (JfV h.vd hb h0 h1 hs hw).2.1
  have e2 : wM d p s = (d.1.set p.toNat s, d.2.1 + 1, [], false, []) := by
    have hn : J60 d = [] := by unfold J60; rw [h.flt]; rfl
    unfold wM
    rw [hn]
    show J5l (J4H d) p.toNat s = _
    unfold J5l J4H
    rw [h.flt, h.unr, h.live]
    rfl
  rw [e2] at e hv
  exact ⟨e, hv, rfl, rfl, rfl⟩
theorem JoV {d : DT} (h : Qt d) {p : Int} (h0 : 0 ≤ p) (h1 : p < J6 d.1) : J0M (d, p) = some (d.1.getD p.toNat [], 0) := by
  rw [Jj4 d p (by have := h.vd.unr; omega)]
  unfold Jdi
  rw [if_pos (Jkk h.vd h.live h0 h1), if_neg (by rw [h.unr]; simp)]
theorem Jjd {α : Type} {n : Nat} (v : Vector α n) (i j : Nat) (x : α) (hj : j < n) : (J88 v i x)[j] = if i = j then x else v[j] := by
  unfold J88
  rw [Vector.getElem_setIfInBounds]
theorem J9C {x0 : List Int} (w0 : Ty.inR (.l (.i .u8)) x0) : J2q x0 = some true := by
  refine J8b ?_
  unfold J2q
  refine .bind (J16 Jpu) fun y2 d2 => .not (fun c => by rw [d2] at c; cases c) fun _ => ?_
  refine .bind (JoY x0 200 (by decide) (by decide) (Jnz w0)) fun c h3 => .bind (J16 (JlM 4)) fun y4 e4 => ?_
  have n4 : JdU 4 = ((List.replicate 4 J1v, 0, [], false, []), 0) := by unfold JdU; rw [if_pos (by decide)]; rfl
  rw [n4] at e4
  subst e4
  refine .ne (fun c => absurd rfl c) fun _ => ?_
  have q0 : Qt (List.replicate 4 J1v, 0, [], false, []) := ⟨Jgv 4 0 (by decide) (by decide) (by decide) (by decide), rfl, rfl, rfl⟩
  obtain ⟨hc, hc0, hcl⟩ := h3
  refine J7E (τ := Int × Vector (List UInt8) 4) (fun q => (q.1, c, (List.replicate 4 J1v, 0, [], false, []), q.2)) (fun q => 0 ≤ q.1 ∧ q.1 ≤ 4 ∧ ∀ (j : Nat) (hj : j < 4), (j : Int) < q.1 → q.2[j] = J1v) (fun q => 4 - q.1) ?_ (0, Vector.replicate 4 []) rfl ⟨Int.le_refl _, by show (0 : Int) ≤ 4; decide, fun j _ h => by have : (j : Int) < 0 := h; omega⟩
  rintro ⟨i, v⟩ ⟨g1, g2, g3⟩
  dsimp only at g1 g2 g3
  unfold J53
  dsimp only
  refine .lt (fun k => .bind (J16 Jmd) fun y6 e6 => .bind (JfJ (by omega) (by omega)) fun _ _ => .bind (P := fun _ => True) ⟨v[i.toNat]'(by omega), by unfold vat; exact Vector.getElem?_eq_getElem (by omega), trivial⟩ fun _ _ => .some ⟨(J10 .i64 i 1, J88 v i.toNat (toStr y6)), rfl, ⟨?_, ?_, ?_⟩, ?_⟩) fun k => .inr ?_
  · show 0 ≤ J10 .i64 i 1; rw [J6s g1 (by omega)]; omega
  · show J10 .i64 i 1 ≤ 4; rw [J6s g1 (by omega)]; omega
  · intro j hj hij
    show (J88 v i.toNat (toStr y6))[j] = J1v
    have hij' : (j : Int) < J10 .i64 i 1 := hij
    rw [J6s g1 (by omega)] at hij'
    rw [Jjd]
    split
    · rw [e6, Jli]
    · exact g3 j hj (by omega)
  · show 4 - J10 .i64 i 1 < 4 - i ∧ 0 ≤ 4 - i
    rw [J6s g1 (by omega)]; omega
  have g4 : ∀ (j : Nat) (hj : j < 4), v[j] = J1v := fun j hj => g3 j hj (by omega)
  refine J7E (τ := Int × J7 × DT × Vector (List UInt8) 4) (fun q => q)
    (fun q => J84 q.2.1 ∧ J6 q.2.1.1 ≤ 200 ∧ q.1 ≤ q.2.1.2 ∧ q.2.2.1.2.1 = q.1 ∧ Qt q.2.2.1 ∧ J6 q.2.2.1.1 = 4 ∧ ∀ (j : Nat) (hj : j < 4), q.2.2.1.1[j]? = some q.2.2.2[j]) (fun q => J6 q.2.1.1 - q.2.1.2) ?_ (0, c, (List.replicate 4 J1v, 0, [], false, []), v) rfl
    ⟨hc, hcl, by show 0 ≤ c.2; omega, rfl, q0, rfl, fun j hj => by show (List.replicate 4 J1v)[j]? = some v[j]; rw [g4 j hj, List.getElem?_replicate, if_pos hj]⟩
  rintro ⟨n, c, d, v⟩ ⟨hc, hcl, hn, hw, hq, hl, hv⟩
  dsimp only at hc hcl hn hw hq hl hv
  unfold J5d
  dsimp only
  refine .bind (J16 (Jp8 c hc)) fun y10 e10 => ?_
  subst e10
  have hc0 := hc.at0
  have hnn := hq.vd.w0
  have es := Jo1 (J6 c.1) c.2
  have hl0 : (0 : Int) ≤ J6 c.1 := J5S
  have hhi := hc.hi
  dsimp only
  refine .gt (fun k => ?_) fun k => .inr ?_
  · refine .bind (J8I 4 c hc) fun y11 h11 => ?_
    have k1 := h11.2.1 (by omega) (by decide)
    have k2 := h11.2.2.1
    have k3 := h11.2.2.2 (by decide)
    refine .bind (JlN y11.2 (hc.to h11.1)) fun y12 h12 => ?_
    obtain ⟨e13, q13⟩ := JnF hq (p := y11.1) k2 (by omega) h12.2 (by omega)
    refine .bind (J16 e13) fun y13 e => ?_
    subst e
    have hp : y11.1.toNat < 4 := by omega
    refine .ne (fun c => absurd rfl c) fun _ => .bind (JfJ (by omega) (by omega)) fun _ _ => .bind (P := fun _ => True) ⟨v[y11.1.toNat]'hp, by unfold vat; exact Vector.getElem?_eq_getElem hp, trivial⟩ fun _ _ => .some
      ⟨(J10 .i64 n 1, y12.2, (d.1.set y11.1.toNat y12.1, d.2.1 + 1, [], false, []), J88 v y11.1.toNat y12.1), rfl, ?_, ?_⟩
    · have t := h11.1.trans h12.1
      have m1 := h12.1.mono
      refine ⟨hc.to t, by rw [t.list]; exact hcl, ?_, ?_, q13, ?_, fun j hj => ?_⟩
      · show J10 .i64 n 1 ≤ y12.2.2; rw [J6s (by omega) (by omega)]; omega
      · show d.2.1 + 1 = J10 .i64 n 1; rw [J6s (by omega) (by omega), hw]
      · show J6 (d.1.set _ _) = 4; unfold J6 at hl ⊢; rw [List.length_set]; exact hl
      · show (d.1.set y11.1.toNat y12.1)[j]? = some (J88 v y11.1.toNat y12.1)[j]
        rw [Jjd, List.getElem?_set]
        have hdl : d.1.length = 4 := by unfold J6 at hl; omega
        split
        · rw [if_pos (by omega)]
        · exact hv j hj
    · have t := h11.1.trans h12.1
      have m1 := h12.1.mono
      show J6 y12.2.1 - y12.2.2 < J6 c.1 - c.2 ∧ 0 ≤ J6 c.1 - c.2
      rw [t.list]
      omega
  · refine J6m (fun i => (n, i, c, d, v)) 4 (fun _ => True) (by decide) trivial fun i g1 g2 _ => ?_
    unfold J58
    dsimp only
    refine .lt (fun k => .bind (J16 (JoV hq g1 (by omega))) fun y17 e17 => ?_) fun k => .some (Jet.2 hw)
    subst e17
    refine .nef (fun _ => .bind (JfJ (by omega) (by omega)) fun _ _ => .bind (J16 (v := v[i.toNat]'(by omega)) (by unfold vat; exact Vector.getElem?_eq_getElem (by omega))) fun y19 e19 => ?_) fun c => absurd rfl c
    have hvi := hv i.toNat (by omega)
    have : neS (d.1.getD i.toNat []) y19 = false := by rw [JiY hvi, e19]; simp [neS]
    dsimp only
    rw [this]
    exact .some ⟨by rw [J6s g1 (by omega)], trivial, k⟩
end Go.Am
end
section
namespace Go.Am
theorem Jhz {α : Type} {n : Nat} : ∀ {l m : List (List α)}, (∀ x ∈ l, x.length = n) → (∀ x ∈ m, x.length = n) → l.length = m.length → l.flatten = m.flatten → l = m
  | [], [], _, _, _, _ => rfl
  | [], _ :: _, _, _, h, _ => by simp at h
  | _ :: _, [], _, _, h, _ => by simp at h
  | x :: l, y :: m, hl, hm, h, e => by
    simp only [List.flatten_cons] at e
    have h1 := hl x List.mem_cons_self
    have h2 := hm y List.mem_cons_self
    obtain ⟨e1, e2⟩ := List.append_inj e (by omega)
    subst e1
    rw [Jhz (fun z hz => hl z (List.mem_cons_of_mem _ hz)) (fun z hz => hm z (List.mem_cons_of_mem _ hz)) (by simpa using h) e2]
theorem Jcj {α β : Type} {f : α → β} (hf : ∀ x y, f x = f y → x = y) : ∀ {l m : List α}, l.map f = m.map f → l = m
  | [], [], _ => rfl
  | [], _ :: _, h => by simp at h
  | _ :: _, [], h => by simp at h
  | x :: l, y :: m, h => by
    simp only [List.map_cons, List.cons.injEq] at h
    rw [hf _ _ h.1, Jcj hf h.2]
theorem J8d : ∀ (t : Ty) (x y : t.D), cel t x = cel t y → x = y
  | .b, x, y, h => by simp only [cel, List.cons.injEq, PV.b.injEq, and_true] at h; exact h
  | .i k, x, y, h => by simp only [cel, List.cons.injEq, PV.i.injEq, and_true, true_and] at h; exact h
  | .s, x, y, h => by simp only [cel, List.cons.injEq, PV.s.injEq, and_true] at h; exact h
  | .l t, x, y, h => by
    simp only [cel, List.cons.injEq, PV.sl.injEq, and_true, true_and] at h
    exact Jcj (J8d t) h
  | .pr a c, x, y, h => by
    simp only [cel] at h
    obtain ⟨e1, e2⟩ := List.append_inj h (by rw [J05, J05])
    exact Prod.ext (J8d a _ _ e1) (J8d c _ _ e2)
  | .ar n t, x, y, h => by
    have h2 : (x.toList.map (cel t)).flatten = (y.toList.map (cel t)).flatten := h
    have h3 := Jhz (n := t.sz) (fun z hz => by obtain ⟨q, _, rfl⟩ := List.mem_map.1 hz; exact J05 t q) (fun z hz => by obtain ⟨q, _, rfl⟩ := List.mem_map.1 hz; exact J05 t q) (by simp) h2
    exact Vector.toList_inj.1 (Jcj (J8d t) h3)
  | .u, _, _, _ => rfl
  | .f, _, _, _ => rfl
open Classical in
noncomputable def unc (t : Ty) (cs : List PV) : Option t.D := if h : ∃ x : t.D, cel t x = cs then some (Classical.choose h) else none
theorem Jqv (t : Ty) (x : t.D) : unc t (cel t x) = some x := by
  unfold unc
  have h : ∃ z : t.D, cel t z = cel t x := ⟨x, rfl⟩
  rw [dif_pos h, J8d t _ _ (Classical.choose_spec h)]
theorem Jhu {t : Ty} {cs : List PV} {x : t.D} (h : unc t cs = some x) : cel t x = cs := by
  unfold unc at h
  split at h
  · rename_i hx; injection h with h; rw [← h]; exact Classical.choose_spec hx
  · cases h
noncomputable def JjO (t : Ty) (S : t.D × Int × List UInt8 → Option t.D) : Prm
  | [.data cs, .p (.i .i64 n), .p (.s l)], blks => (unc t cs).bind fun x => (S (x, n, l)).map fun y => (.data (cel t y), blks)
  | _, _ => none
noncomputable def Jc6 (t : Ty) (S : t.D × Int × List UInt8 → Option (t.D × Int)) : Prm
  | [.data cs, .p (.i .i64 n), .p (.s l)], blks => (unc t cs).bind fun x => (S (x, n, l)).map fun y => (.tup [.data (cel t y.1), .p (.i .i64 y.2)], blks)
  | _, _ => none
theorem Jow {t : Ty} {S : t.D × Int × List UInt8 → Option (t.D × Int)} (x : t.D) (n : Int) (l : List UInt8) (blks : List Blk) : Jc6 t S [.data (cel t x), .p (.i .i64 n), .p (.s l)] blks = (S (x, n, l)).map fun y => (.tup [.data (cel t y.1), .p (.i .i64 y.2)], blks) := by
  show (unc t (cel t x)).bind _ = _
  rw [Jqv]; rfl
theorem JoI {P : Program} {f : FuncId} {t : Ty} {S : t.D × Int × List UInt8 → Option t.D}
    (hw : ∀ x n l y blks, S (x, n, l) = some y → J1z P f [.data (cel t x), .p (.i .i64 n), .p (.s l)] blks (.data (cel t y), blks)) (args : List AV) (blks : List Blk) (r : Res) (h : JjO t S args blks = some r) : J1z P f args blks r := by
  unfold JjO at h
  split at h
  · rename_i cs n l
    obtain ⟨x, hx, h⟩ := Option.bind_eq_some_iff.1 h
    obtain ⟨y, hy, rfl⟩ := Option.map_eq_some_iff.1 h
    have := hw _ _ _ _ blks hy
    rwa [Jhu hx] at this
  · cases h
theorem Jp5 {P : Program} {f : FuncId} {t : Ty} {S : t.D × Int × List UInt8 → Option (t.D × Int)}
    (hw : ∀ x n l y blks, S (x, n, l) = some y → J1z P f [.data (cel t x), .p (.i .i64 n), .p (.s l)] blks (.tup [.data (cel t y.1), .p (.i .i64 y.2)], blks)) (args : List AV) (blks : List Blk) (r : Res) (h : Jc6 t S args blks = some r) : J1z P f args blks r := by
  unfold Jc6 at h
  split at h
  · rename_i cs n l
    obtain ⟨x, hx, h⟩ := Option.bind_eq_some_iff.1 h
    obtain ⟨y, hy, rfl⟩ := Option.map_eq_some_iff.1 h
    have := hw _ _ _ _ blks hy
    rwa [Jhu hx] at this
  · cases h
def Jnd (t : Ty) : Sig := ⟨[.dt t, .c (.d (.i .i64)), .c (.d .s)], [], [t, .i .i64, .s], .a (.dt t), [], [], [t]⟩
def JjU (t : Ty) : Sig := ⟨[.dt t, .c (.d (.i .i64)), .c (.d .s)], [], [t, .i .i64, .s], .tup [.dt t, .c (.d (.i .i64))], [], [], [t, .i .i64]⟩
theorem JpV (t : Ty) (x : t.D × Int × List UInt8) : J11 (Jnd t) x = some ([.dt t x.1, .c (.d (.i .i64) x.2.1), .c (.d .s x.2.2)], []) := by
  have h : ∀ r, lf1 t (⟨t, x.1⟩ :: r) = some (x.1, r) := Jhw t x.1
  show (match mkL mkA [.dt t, .c (.d (.i .i64)), .c (.d .s)] [(⟨t, x.1⟩ : Lf), ⟨.i .i64, x.2.1⟩, ⟨.s, x.2.2⟩] with
    | some (xs, l) => match mkL mkB (Jnd t).blks l with
      | some (bl, []) => some (xs, bl)
      | _ => none
    | none => none) = _
  simp only [mkL, mkA, mkC, h]
  rfl
theorem Jpw {T : J1y} {f : FuncId} {t : Ty} {S : t.D × Int × List UInt8 → Option (t.D × Int)} (hf : T f = some (.prim (Jc6 t S))) : EOk (AF T) (sigE f (JjU t) S) := by
  refine J8u rfl fun x xs bl y hx hy => ?_
  rw [show J11 (JjU t) x = J11 (Jnd t) x from rfl, JpV t x] at hx
  injection hx with hx; injection hx with h1 h2; subst h1 h2
  refine ⟨.tup [.dt t y.1, .c (.d (.i .i64) y.2)], [], ?_, ?_⟩
  · rw [JeA hf]
    refine (Jow x.1 x.2.1 x.2.2 []).trans ?_
    rw [show S (x.1, x.2.1, x.2.2) = some y from hy]
    rfl
  · show (if (ShV.tup [.dt t, .c (.d (.i .i64))] = (JjU t).res ∧ ([] : List ShB) = (JjU t).out) then asL [t, .i .i64] [⟨t, y.1⟩, ⟨.i .i64, y.2⟩] else none) = some y
    rw [if_pos ⟨rfl, rfl⟩]
    simp [asL, Jc8]
    rfl
end Go.Am
end
section
set_option linter.unusedSimpArgs false
set_option linter.unusedVariables false
namespace Go.Am
open Go.RowKit
theorem JjT {σ : List Blk} {g : Gh} {w w' : World} (hi : Inv ⟨σ, g, w⟩) (hb : Below w.heap.size w w') (p : Nat → Nat → Prop) (hp : ∀ r o, p r o → w.heap.size ≤ r ∧ r < w'.heap.size) :
    Inv ⟨σ, J4R g p, w'⟩ ∧ Jn ⟨σ, g, w⟩ ⟨σ, J4R g p, w'⟩ := by
  have hk : ∀ (r : Nat) x, w.heap[r]? = some x → w'.heap[r]? = some x := fun r x h => by rw [hb.block r (J06 h)]; exact h
  have hc : ∀ r o v, cellAt w r o = some v → cellAt w' r o = some v := by
    intro r o v h
    have hr : r < w.heap.size := by
      unfold cellAt at h
      split at h
      · rename_i hx; exact J06 hx
      · cases h
    unfold cellAt at h ⊢
    rw [hb.block r hr]
    exact h
  have t : Jn ⟨σ, g, w⟩ ⟨σ, J4R g p, w'⟩ := by
    refine ⟨⟨hb.size, fun r c e fz h => ⟨c, hk r _ h, rfl, fun _ _ => rfl⟩, fun r x h _ => hk r x h, hb.os, hb.output⟩, fun _ _ h => .inl h, fun r o h => ?_, fun r o ⟨b, hb⟩ => .inl ⟨b, hb⟩, Nat.le_refl _, fun _ cs h => ⟨⟨cs, h, rfl⟩, rfl⟩,
      fun _ wm _ rows h => ⟨wm, rows, h, id, Nat.le_refl _, fun _ => rfl⟩⟩
    rcases h with h | h
    · exact .inl h
    · exact .inr (.inr (hp r o h).1)
  refine ⟨J3v hi t (fun _ => False) (fun _ _ => ⟨rfl, rfl⟩) (fun _ r o v _ _ h => hc r o v h) (fun _ _ h => h.elim) (fun _ _ _ _ h => h.elim)
    (fun _ _ _ _ h => h.elim) ?_ (fun _ _ _ _ h => h.elim) ?_, t⟩
  · intro r o hc
    rcases hc with hc | hc
    · exact Nat.lt_of_lt_of_le (hi.const r o hc).1 hb.size
    · exact (hp r o hc).2
  · intro r o b hc hn _ h
    rcases hc with hc | hc
    · exact hn hc
    · have h1 : r < w.heap.size := J6B hi b r o h
      have h2 := (hp r o hc).1
      omega
def Jcl (args : List AV) (blks : List Blk) : Option Res :=
  match args with
  | [.p (.sl 1 [[.s l]]), .p (.i .i64 n)] => if 1 ≤ n ∧ n ≤ 1000 then some (.p (.sl 1 (List.replicate n.toNat [.s l])), blks) else none
  | _ => none
theorem JpB {P : Program} {f : FuncId} (hf : ∃ fn, P.funcs[f]? = some fn ∧ fn.body.isSome = true ∧ (fn.name == "runtime.NumGoroutine") = false)
    (hw : ∀ (b o xc n : Nat) (v : Value) (w : World), 1 ≤ n → n ≤ 1000 → w.cell? ⟨b, o, none⟩ = some v → v.oneCell' = true →
      Calls P f #[.slice (some ⟨b, o, none⟩) 1 xc, .int .i64 n] w fun e w' => e = .returned (.slice (some ⟨w.heap.size, 0, none⟩) n n) ∧ Below w.heap.size w w' ∧ ∀ j, j < n → w'.cell? ⟨w.heap.size, j, none⟩ = some v) :
    ∀ args blks r, Jcl args blks = some r → J1z P f args blks r := by
  intro args blks r h
  unfold Jcl at h
  split at h
  · rename_i l n
    split at h
    · rename_i hn
      injection h with h
      subst h
      refine ⟨hf, fun g w vals hi hl hr => ?_⟩
      obtain ⟨v0, v1, rfl⟩ : ∃ v0 v1, vals = #[v0, v1] := by
        obtain ⟨x⟩ := vals
        match x, hl with
        | [a, b], _ => exact ⟨a, b, rfl⟩
      have h0 : Jc ⟨blks, g, w⟩ (.p (.sl 1 [[.s l]])) v0 := hr 0 _ _ rfl rfl
      have h1 : Jc ⟨blks, g, w⟩ (.p (.i .i64 n)) v1 := hr 1 _ _ rfl rfl
      obtain ⟨k, rfl⟩ : ∃ k : Nat, n = (k : Int) := ⟨n.toNat, by omega⟩
      cases h1 with
      | p _ _ h1 =>
      cases h1
      cases h0 with
      | p _ _ h0 =>
      cases h0 with
      | sl _ _ r o cap vals c1 c2 c3 c4 =>
        have hc := (c3 0 0 [.s l] (.s l) rfl rfl).2
        have hv := c4 0 0 [.s l] (.s l) rfl rfl
        generalize vals 0 0 = u at hc hv
        cases hv
        refine (hw r o cap k (.string ⟨l.toArray⟩) w (by omega) (by omega) (by rw [J1D]; exact hc) rfl).mono ?_
        rintro e w' ⟨rfl, hb, hcs⟩
        have hlt : w.heap.size < w'.heap.size := by
          have h0 := hcs 0 (by omega)
          rw [J1D] at h0
          unfold cellAt at h0
          split at h0
          · rename_i hx; exact J06 hx
          · cases h0
        obtain ⟨i2, t2⟩ := JjT hi hb (fun r o => r = w.heap.size) (fun r o h => ⟨Nat.le_of_eq h.symm, by rw [h]; exact hlt⟩)
        refine ⟨_, _, rfl, i2, t2, .p _ _ ?_⟩
        simp only [Int.toNat_natCast]
        have hx : Ji w' (J4R g fun r o => r = w.heap.size).C (.sl 1 (List.replicate k [.s l])) (.slice (some ⟨w.heap.size, 0, none⟩) (List.replicate k [PV.s l]).length k) := by
          refine .sl 1 _ w.heap.size 0 k (fun _ _ => .string ⟨l.toArray⟩) (by simp) (fun row h => by rw [List.eq_of_mem_replicate h]; rfl) (fun i j row x hrow hx => ?_) (fun i j row x hrow hx => ?_)
          · rw [List.getElem?_replicate] at hrow
            split at hrow
            · rename_i hi
              injection hrow with hrow
              subst hrow
              cases j with
              | zero =>
                refine ⟨.inr rfl, ?_⟩
                rw [← J1D]
                simpa using hcs i hi
              | succ j => simp at hx
            · cases hrow
          · rw [List.getElem?_replicate] at hrow
            split at hrow
            · injection hrow with hrow
              subst hrow
              cases j with
              | zero => simp at hx; subst hx; exact .s _
              | succ j => simp at hx
            · cases hrow
        rw [List.length_replicate] at hx
        exact hx
    · cases h
  · cases h
end Go.Am
end
section
namespace Go.Am
open Go.RowKit
structure Up (B : Nat) (w w' : World) : Prop where
  size : w.heap.size ≤ w'.heap.size
  block : ∀ k, k < B → w'.heap[k]? = w.heap[k]?
  os : w'.os = w.os
  output : w'.output = w.output
theorem Up.refl (B : Nat) (w : World) : Up B w w := ⟨Nat.le_refl _, fun _ _ => rfl, rfl, rfl⟩
theorem Up.trans {B : Nat} {a b c : World} (h : Up B a b) (k : Up B b c) : Up B a c :=
  ⟨Nat.le_trans h.size k.size, fun i hi => (k.block i hi).trans (h.block i hi), k.os.trans h.os, k.output.trans h.output⟩
theorem Up.mono {B B' : Nat} {a b : World} (h : Up B a b) (hB : B' ≤ B) : Up B' a b := ⟨h.size, fun k hk => h.block k (Nat.lt_of_lt_of_le hk hB), h.os, h.output⟩
theorem Up.of_below {B : Nat} {a b : World} (h : Below B a b) : Up B a b := ⟨h.size, h.block, h.os, h.output⟩
theorem Up.drew {B : Nat} {a b : World} (h : Up B a b) : Up B a b.drew := ⟨h.size, h.block, h.os, h.output⟩
theorem Up.alloc {B : Nat} {a b : World} (h : Up B a b) (hB : B ≤ b.heap.size) (o : Obj) : Up B a (b.alloc o) :=
  h.trans (.of_below ((Below.refl B b).alloc hB o))
theorem Up.setCell {B : Nat} {a b : World} (h : Up B a b) {p : Addr} (hp : B ≤ p.block) (u : Value) : Up B a (b.setCell p u) :=
  h.trans (.of_below ((Below.refl B b).setCell hp u))
theorem Up.cellAt {B : Nat} {a b : World} (h : Up B a b) {r o : Nat} (hr : r < B) : cellAt b r o = cellAt a r o := by
  unfold Go.Am.cellAt; rw [h.block r hr]
theorem J40 {w : World} {r o : Nat} {v : Value} (h : cellAt w r o = some v) : r < w.heap.size := by
  unfold cellAt at h
  split at h
  · rename_i hx; exact J06 hx
  · cases h
theorem Ji.keeps {w w' : World} {C C' : Nat → Nat → Prop} (hs : ∀ r o u, C r o → cellAt w r o = some u → C' r o ∧ cellAt w' r o = some u) {x : PV} {v : Value} (h : Ji w C x v) : Ji w' C' x v := by
  induction h with
  | b x => exact .b x
  | i k n => exact .i k n
  | s l => exact .s l
  | np => exact .np
  | nf => exact .nf
  | sl0 e a c => exact .sl0 e a c
  | sl esz rows r o cap vals h1 h2 h3 _ ih => exact .sl esz rows r o cap vals h1 h2 (fun i j row x hi hj => hs _ _ _ (h3 i j row x hi hj).1 (h3 i j row x hi hj).2) ih
  | slc esz rows a _ ih => exact .slc esz rows a ih
theorem Ji.up {w w' : World} {C C' : Nat → Nat → Prop} (hu : Up w.heap.size w w') (hC : ∀ r o, C r o → r < w.heap.size → C' r o) {x : PV} {v : Value} (h : Ji w C x v) : Ji w' C' x v :=
  h.keeps fun r o u hc hu' => ⟨hC r o hc (J40 hu'), by rw [hu.cellAt (J40 hu')]; exact hu'⟩
theorem Joj {g g' : Gh} {w w' : World} (t : Jn ⟨[], g, w⟩ ⟨[], g', w'⟩) : Up w.heap.size w w' := by
  have hno : ∀ r o, ¬ Wr (⟨[], g, w⟩ : Sn) r o := fun r o ⟨b, hb⟩ => by simp [Wr1] at hb
  obtain ⟨h1, h2, h3, h4, h5⟩ := t.keep
  refine ⟨h1, fun k hk => ?_, h4, h5⟩
  have hk' : w.heap[k]? = some w.heap[k] := Array.getElem?_eq_getElem hk
  cases e : w.heap[k] with
  | cells c t' fz =>
    rw [e] at hk'
    obtain ⟨c', e1, e2, e3⟩ := h2 k c t' fz hk'
    have : c' = c := Array.ext_getElem? fun i => e3 i (hno k i)
    show w'.heap[k]? = w.heap[k]?
    rw [hk', ← this]; exact e1
  | _ => rw [e] at hk'; show w'.heap[k]? = w.heap[k]?; rw [hk']; exact h3 k _ hk' (fun _ _ _ h => by cases h)
def ghC (C : Nat → Nat → Prop) (w : World) : Gh := J4R ⟨fun _ => none, fun _ _ => False⟩ fun r o => C r o ∧ r < w.heap.size
theorem Jpe (C : Nat → Nat → Prop) (w : World) : Inv ⟨[], ghC C w, w⟩ :=
  ⟨fun b cs h => by simp at h, fun b wm e r h => by simp at h, fun b1 b2 r o h => by simp [Wr1] at h, fun r o h => by
    rcases h with h | h
    · exact h.elim
    · exact ⟨h.2, fun b hb => by simp [Wr1] at hb⟩⟩
theorem Jl1 {P : Program} {f : FuncId} {args : List AV} {r : AV} {blks : List Blk} (h : J1z P f args [] (r, blks)) (hb : blks = []) {w : World} (C : Nat → Nat → Prop) {vals : Array Value} (hl : args.length = vals.size)
    (ha : ∀ (i : Nat) x v, args[i]? = some x → vals[i]? = some v → Jc ⟨[], ghC C w, w⟩ x v) :
    Calls P f vals w fun e w' => ∃ v g', e = .returned v ∧ Up w.heap.size w w' ∧ Jc ⟨[], g', w'⟩ r v ∧ ∀ r o, g'.C r o → C r o ∨ w.heap.size ≤ r := by
  subst hb
  refine (h.2 (ghC C w) w vals (Jpe C w) hl ha).mono ?_
  rintro e w' ⟨v, g', he, hi, t, hr⟩
  refine ⟨v, g', he, Joj t, hr, fun r o hc => ?_⟩
  rcases t.cnew r o hc with h | ⟨b, hb⟩ | h
  · rcases h with h | h
    · exact h.elim
    · exact .inl h.1
  · simp [Wr1] at hb
  · exact .inr h
theorem Jnj {σ : List Blk} {g : Gh} {w w' : World} (hi : Inv ⟨σ, g, w⟩) (hb : Up w.heap.size w w') (p : Nat → Nat → Prop) (hp : ∀ r o, p r o → w.heap.size ≤ r ∧ r < w'.heap.size) :
    Inv ⟨σ, J4R g p, w'⟩ ∧ Jn ⟨σ, g, w⟩ ⟨σ, J4R g p, w'⟩ := by
  have hk : ∀ (r : Nat) x, w.heap[r]? = some x → w'.heap[r]? = some x := fun r x h => by rw [hb.block r (J06 h)]; exact h
  have hc : ∀ r o v, cellAt w r o = some v → cellAt w' r o = some v := fun r o v h => by rw [hb.cellAt (J40 h)]; exact h
  have t : Jn ⟨σ, g, w⟩ ⟨σ, J4R g p, w'⟩ := by
    refine ⟨⟨hb.size, fun r c e fz h => ⟨c, hk r _ h, rfl, fun _ _ => rfl⟩, fun r x h _ => hk r x h, hb.os, hb.output⟩, fun _ _ h => .inl h, fun r o h => ?_, fun r o ⟨b, hb⟩ => .inl ⟨b, hb⟩, Nat.le_refl _, fun _ cs h => ⟨⟨cs, h, rfl⟩, rfl⟩,
      fun _ wm _ rows h => ⟨wm, rows, h, id, Nat.le_refl _, fun _ => rfl⟩⟩
    rcases h with h | h
    · exact .inl h
    · exact .inr (.inr (hp r o h).1)
  refine ⟨J3v hi t (fun _ => False) (fun _ _ => ⟨rfl, rfl⟩) (fun _ r o v _ _ h => hc r o v h) (fun _ _ h => h.elim) (fun _ _ _ _ h => h.elim)
    (fun _ _ _ _ h => h.elim) ?_ (fun _ _ _ _ h => h.elim) ?_, t⟩
  · intro r o hc
    rcases hc with hc | hc
    · exact Nat.lt_of_lt_of_le (hi.const r o hc).1 hb.size
    · exact (hp r o hc).2
  · intro r o b hc hn _ h
    rcases hc with hc | hc
    · exact hn hc
    · have h1 : r < w.heap.size := J6B hi b r o h
      have h2 := (hp r o hc).1
      omega
end Go.Am
end
section
namespace Go.Am
def Jqi : Sig := ⟨[.c (.d (.l .s)), .c (.d (.i .i64))], [], [.l .s, .i .i64], .a (.c (.d (.l .s))), [], [], [.l .s]⟩
theorem Jor (l : List (List UInt8)) (n : Int) (y : List (List UInt8)) (hy : Jeb (l, n) = some y) : Jcl [.p (.sl 1 (l.map (cel .s))), .p (.i .i64 n)] [] = some (AV.p (.sl 1 (y.map (cel .s))), []) := by
  unfold Jeb at hy
  dsimp only at hy
  split at hy
  · rename_i l
    split at hy
    · rename_i hn
      injection hy with hy; subst hy
      show (if 1 ≤ n ∧ n ≤ 1000 then some (AV.p (.sl 1 (List.replicate n.toNat [.s l])), ([] : List Blk)) else none) = _
      rw [if_pos hn, List.map_replicate]
      rfl
    · cases hy
  · cases hy
theorem Joz {T : J1y} {f : FuncId} (hf : T f = some (.prim Jcl)) : EOk (AF T) (sigE f Jqi Jeb) := by
  refine J8u rfl fun x xs bl y hx hy => ?_
  rw [show J11 Jqi x = some ([.c (.d (.l .s) x.1), .c (.d (.i .i64) x.2)], []) from rfl] at hx
  injection hx with hx; injection hx with h1 h2; subst h1 h2
  refine ⟨.a (.c (.d (.l .s) y)), [], ?_, rfl⟩
  rw [JeA hf]
  exact Jor x.1 x.2 y hy
end Go.Am
end
section
namespace Go.Am
set_option maxRecDepth 20000
def lkA {α : Type} (f : FuncId) : List (FuncId × α) → Option α
  | [] => none
  | (g, a) :: r => if f = g then some a else lkA f r
noncomputable def fns : List (FuncId × AFn) := [(J0z, erF J31), (J1t, erF J3N), (J04, erF J49), (J0m, erF J30), (J0x, erF J35), (JB, erF J0j), (Jx, erF J08), (JL, erF J0J), (JI, erF J0t), (J0B, erF J4h), (J0i, erF J3L), (J1m, erF J4k), (J0r, erF J5z), (J1b, erF J3M), (J0s, erF J1P), (J0d, erF J1o), (J07, erF J4M), (i_draw_Codes_Next, erF J36), (Jz, erF J2C), (J1K, erF J7h), (J2G, erF J6f), (J0R, erF J33), (J1x, erF J6C), (J0L, erF J4F), (J3W, erF JaC), (J4L, erF J9s), (J2A, erF J9n), (J4c, erF J8G), (J4m, erF J8m), (J62, erF JbE), (J7W, erF JbA), (J3e, erF J8o), (J7b, erF Jal), (J5f, erF J7w), (J2w, erF J9q), (J7f, erF J9Z), (J4J, erF J9j), (J5E, erF J5D), (J2r, erF J2o), (J6i, erF J6c), (J3t, erF J9l), (J5H, erF J5F), (J4Z, erF J74), (J6u, erF J6w), (J5G, erF J5C), (J9m, erF J9o), (J7O, erF J7L), (J9J, erF Jas), (Jap, erF J9V), (J6h, erF J6g)]
noncomputable def fks : List (FuncId × J4P) := [(Jy, J7g J4 48)]
noncomputable def fps : List (FuncId × Prm) := [(J0b, Jcl), (J1J, JgW), (J9Y, JjO J3 JpN)]
abbrev PS := FuncId → Option (List AV → List Blk → Option Res)
noncomputable def JV (p : PS) : J1y := fun f => JpM (lkA f fns) (lkA f fks) (lkA f fps) (p f)
theorem Jbi (p : PS) : JV p J0z = some (.fn (erF J31)) := rfl
theorem JdI (p : PS) : JV p J1t = some (.fn (erF J3N)) := rfl
theorem JdX (p : PS) : JV p J04 = some (.fn (erF J49)) := rfl
theorem Jbs (p : PS) : JV p J0m = some (.fn (erF J30)) := rfl
theorem Jb7 (p : PS) : JV p J0x = some (.fn (erF J35)) := rfl
theorem J3J (p : PS) : JV p JB = some (.fn (erF J0j)) := rfl
theorem J3f (p : PS) : JV p Jx = some (.fn (erF J08)) := rfl
theorem J4O (p : PS) : JV p JL = some (.fn (erF J0J)) := rfl
theorem J4j (p : PS) : JV p JI = some (.fn (erF J0t)) := rfl
theorem JeH (p : PS) : JV p J0B = some (.fn (erF J4h)) := rfl
theorem Jdx (p : PS) : JV p J0i = some (.fn (erF J3L)) := rfl
theorem JeC (p : PS) : JV p J1m = some (.fn (erF J4k)) := rfl
theorem Jg8 (p : PS) : JV p J0r = some (.fn (erF J5z)) := rfl
theorem JcR (p : PS) : JV p J1b = some (.fn (erF J3M)) := rfl
theorem J7X (p : PS) : JV p J0s = some (.fn (erF J1P)) := rfl
theorem J6E (p : PS) : JV p J0d = some (.fn (erF J1o)) := rfl
theorem JfE (p : PS) : JV p J07 = some (.fn (erF J4M)) := rfl
theorem Jb9 (p : PS) : JV p i_draw_Codes_Next = some (.fn (erF J36)) := rfl
theorem Jao (p : PS) : JV p Jz = some (.fn (erF J2C)) := rfl
theorem Jbb (p : PS) : JV p J0R = some (.fn (erF J33)) := rfl
theorem Jkh (p : PS) : JV p J1x = some (.fn (erF J6C)) := rfl
theorem JfH (p : PS) : JV p J0L = some (.fn (erF J4F)) := rfl
theorem J9A (p : PS) : JV p J2r = some (.fn (erF J2o)) := rfl
theorem J5A (p : PS) : JV p J0b = some (.prim (Jcl)) := rfl
theorem Jcd (p : PS) : JV p J1J = some (.prim (JgW)) := rfl
theorem J4r (p : PS) : JV p Jy = some (.fork (J7g J4 48)) := rfl
end Go.Am
end
