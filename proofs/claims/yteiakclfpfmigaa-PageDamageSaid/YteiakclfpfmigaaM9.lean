/-
  Parts of a proof: YteiakclfpfmigaaLaws2, AmIn, AmLaw.
-/
import Derived.ChangeArms
import Derived.OpenShut
import Derived.ChangeBears
import Derived.ChangeStays
import Derived.Handed
import Derived.RowKit3
import Derived.WalkKit
import Derived.ProofKit
import Derived.Test.YteiakclfpfmigaaM4
import Derived.Test.YteiakclfpfmigaaM8
set_option linter.unusedSimpArgs false
set_option linter.unusedVariables false

section
namespace Go.Am
set_option maxRecDepth 16000

theorem xzero {x y : Nat} (h : x ^^^ y = 0) : x = y := by
  have e : x = (x ^^^ y) ^^^ y := by rw [Nat.xor_assoc, Nat.xor_self, Nat.xor_zero]
  rw [e, h, Nat.zero_xor]

theorem xleft {a b c : Nat} (h : a ^^^ b = a ^^^ c) : b = c := by
  have e : ∀ z, z = a ^^^ (a ^^^ z) := fun z => by rw [← Nat.xor_assoc, Nat.xor_self, Nat.zero_xor]
  rw [e b, h, ← e c]

theorem xright {a b c : Nat} (h : b ^^^ a = c ^^^ a) : b = c := xleft (a := a) (by rw [Nat.xor_comm a b, h, Nat.xor_comm])

theorem P32_top {z : Nat} (h : z < 2 ^ 32) (h0 : gb z = 0) : z = 0 := by
  unfold gb at h0
  split at h0
  · have h1 : z / 2 = P32 := xzero h0
    have h2 : P32 = 2197175160 := rfl
    omega
  · omega

theorem gb_inj {x y : Nat} (hx : x < 2 ^ 32) (hy : y < 2 ^ 32) (h : gb x = gb y) : x = y := by
  have h1 : gb (x ^^^ y) = 0 := by rw [gb_xor, h, Nat.xor_self]
  exact xzero (P32_top (Nat.xor_lt_two_pow hx hy) h1)

theorem gN_inj : ∀ {j x y : Nat}, x < 2 ^ 32 → y < 2 ^ 32 → gN j x = gN j y → x = y
  | 0, _, _, _, _, h => h
  | j + 1, _, _, hx, hy, h => gb_inj hx hy (gN_inj (j := j) (gb_lt hx) (gb_lt hy) h)

theorem crcL_inj : ∀ {l : List UInt8} {x y : Nat}, x < 2 ^ 32 → y < 2 ^ 32 → crcL l x = crcL l y → x = y
  | [], _, _, _, _, h => h
  | b :: r, x, y, hx, hy, h => by
    have h1 := crcL_inj (l := r) (gN_lt (Nat.xor_lt_two_pow hx (u8_lt32 b))) (gN_lt (Nat.xor_lt_two_pow hy (u8_lt32 b))) h
    have h2 := gN_inj (Nat.xor_lt_two_pow hx (u8_lt32 b)) (Nat.xor_lt_two_pow hy (u8_lt32 b)) h1
    exact xright h2

theorem crcL_set : ∀ {l : List UInt8} {k : Nat} {c : UInt8} {x : Nat} (h : k < l.length), x < 2 ^ 32 → l[k] ≠ c → crcL (l.set k c) x ≠ crcL l x
  | [], _, _, _, h, _, _ => by simp at h
  | b :: r, 0, c, x, _, hx, hc => by
    intro h
    have h1 := crcL_inj (l := r) (gN_lt (Nat.xor_lt_two_pow hx (u8_lt32 c))) (gN_lt (Nat.xor_lt_two_pow hx (u8_lt32 b))) h
    have h2 := gN_inj (Nat.xor_lt_two_pow hx (u8_lt32 c)) (Nat.xor_lt_two_pow hx (u8_lt32 b)) h1
    have h3 := xleft h2
    exact hc (UInt8.toNat_inj.1 h3).symm
  | b :: r, k + 1, c, x, h, hx, hc => by
    intro h1
    exact crcL_set (l := r) (k := k) (by simpa using h) (gN_lt (Nat.xor_lt_two_pow hx (u8_lt32 b))) (by simpa using hc) h1

theorem crc_set {l : List UInt8} {k : Nat} {c : UInt8} (h : k < l.length) (hc : l[k] ≠ c) : crc (l.set k c) ≠ crc l := by
  intro h1
  exact crcL_set h (by decide) hc (xright h1)

/-! ### The checksum of blank bytes -/

def hb (c : Nat) : Nat := if c < 2147483648 then 2 * c else 2 * (c ^^^ P32) + 1

theorem xorP_lt {c : Nat} (h1 : c < 2 ^ 32) (h : ¬ c < 2147483648) : c ^^^ P32 < 2147483648 := by
  have e1 : c = 2 ^ 31 * 1 + (c - 2 ^ 31) := by omega
  have h2 : c - 2 ^ 31 < 2 ^ 31 := by omega
  have e2 : (c ^^^ P32) / 2 ^ 31 = c / 2 ^ 31 ^^^ P32 / 2 ^ 31 := Nat.xor_div_two_pow
  have e3 : c / 2 ^ 31 = 1 := by omega
  have e4 : P32 / 2 ^ 31 = 1 := by decide
  rw [e3, e4, Nat.xor_self] at e2
  have : (c ^^^ P32) < 2 ^ 31 := by
    rcases Nat.div_eq_zero_iff.1 e2 with h | h
    · exact absurd h (by decide)
    · exact h
  omega

theorem hb_lt {c : Nat} (h : c < 2 ^ 32) : hb c < 2 ^ 32 := by
  unfold hb
  split
  · omega
  · have := xorP_lt h (by assumption); omega

theorem gb_hb {c : Nat} (h : c < 2 ^ 32) : gb (hb c) = c := by
  unfold hb
  split
  · unfold gb
    rw [if_neg (by omega)]; omega
  · have := xorP_lt h (by assumption)
    unfold gb
    rw [if_pos (by omega), show (2 * (c ^^^ P32) + 1) / 2 = c ^^^ P32 by omega, Nat.xor_assoc, Nat.xor_self, Nat.xor_zero]

def hN : Nat → Nat → Nat
  | 0, c => c
  | j + 1, c => hN j (hb c)

theorem hN_lt : ∀ {j c : Nat}, c < 2 ^ 32 → hN j c < 2 ^ 32
  | 0, _, h => h
  | j + 1, _, h => hN_lt (j := j) (hb_lt h)

theorem gN_hN : ∀ {j c : Nat}, c < 2 ^ 32 → gN j (hN j c) = c
  | 0, _, _ => rfl
  | j + 1, c, h => by
    have e : gN (j + 1) (hN (j + 1) c) = gN 1 (gN j (hN j (hb c))) := by
      rw [show j + 1 = j + 1 from rfl, gN_add j 1]; rfl
    rw [e, gN_hN (j := j) (hb_lt h)]
    exact gb_hb h

def farB : Nat → Nat → Bool
  | 0, _ => true
  | m + 1, y => decide (256 ≤ hN 8 y) && farB m (hN 8 y)

theorem far_ok : ∀ {n y : Nat}, y < 2 ^ 32 → farB n y = true → ∀ m, 1 ≤ m → m ≤ n → ∀ b, b < 256 → gN (8 * m) b ≠ y
  | 0, _, _, _, m, h1, h2, _, _ => by omega
  | n + 1, y, hy, h, m, h1, h2, b, hb => by
    simp only [farB, Bool.and_eq_true, decide_eq_true_eq] at h
    intro he
    have e : gN (8 * m) b = gN 8 (gN (8 * (m - 1)) b) := by
      rw [← gN_add]; congr 1; omega
    rw [e] at he
    have h3 : gN (8 * (m - 1)) b = hN 8 y := gN_inj (j := 8) (gN_lt (by omega)) (hN_lt hy) (by rw [he, gN_hN hy])
    by_cases hm : m = 1
    · subst hm
      have h4 : b = hN 8 y := h3
      omega
    · exact far_ok (hN_lt hy) h.2 (m - 1) (by omega) (by omega) b hb h3

def blankD : Nat := crcL (List.replicate 244 0) 4294967295 ^^^ 4294967295

theorem far_D : farB 244 blankD = true := by decide +kernel
theorem blankD_lt : blankD < 2 ^ 32 := by decide +kernel
theorem crc_zeros : crc (List.replicate 244 0) = blankD := rfl
theorem numS_D : numS (blankD : Int) 4 = [205, 49, 157, 19] := by decide +kernel

theorem crcL_zeros : ∀ (m x : Nat), crcL (List.replicate m 0) x = gN (8 * m) x
  | 0, _ => rfl
  | m + 1, x => by
    rw [List.replicate_succ, crcL, crcL_zeros m, show 8 * (m + 1) = 8 + 8 * m by omega, gN_add]
    congr 2
    exact Nat.xor_zero x

theorem crcL_app : ∀ (a b : List UInt8) (x : Nat), crcL (a ++ b) x = crcL b (crcL a x)
  | [], _, _ => rfl
  | c :: a, b, x => crcL_app a b _

theorem crc_zeros_set {k : Nat} {c : UInt8} (hk : k < 244) : crc ((List.replicate 244 0).set k c) ≠ 0 := by
  intro h
  have h1 : crcL ((List.replicate 244 0).set k c) 4294967295 = 4294967295 := xzero h
  have e1 : (List.replicate 244 (0 : UInt8)).set k c = List.replicate k 0 ++ c :: List.replicate (243 - k) 0 := by
    rw [List.set_eq_take_append_cons_drop, if_pos (by simpa using hk), List.take_replicate, List.drop_replicate]
    congr 2
    · congr 1; omega
    · congr 1; omega
  rw [e1, crcL_app, crcL_zeros, crcL, crcL_zeros, ← gN_add, gN_xor] at h1
  have h2 : gN (8 + 8 * (243 - k)) (gN (8 * k) 4294967295) = crcL (List.replicate 244 0) 4294967295 := by
    rw [← gN_add, crcL_zeros]; congr 1; omega
  rw [h2] at h1
  have h3 : gN (8 * (244 - k)) c.toNat = blankD := by
    rw [show 8 * (244 - k) = 8 + 8 * (243 - k) by omega]
    have : gN (8 + 8 * (243 - k)) c.toNat = crcL (List.replicate 244 0) 4294967295 ^^^ (crcL (List.replicate 244 0) 4294967295 ^^^ gN (8 + 8 * (243 - k)) c.toNat) := by
      rw [← Nat.xor_assoc, Nat.xor_self, Nat.zero_xor]
    rw [this, h1]; rfl
  exact far_ok blankD_lt far_D (244 - k) (by omega) (by omega) _ (UInt8.toNat_lt c) h3

/-! ### Four bytes as a number -/

theorem numS4 (l : List UInt8) (h : l.length = 4) : ∃ n : Nat, n < 2 ^ 32 ∧ numS (n : Int) 4 = l := by
  match l, h with
  | [a, b, c, d], _ =>
    have ha := UInt8.toNat_lt a; have hb := UInt8.toNat_lt b; have hc := UInt8.toNat_lt c; have hd := UInt8.toNat_lt d
    refine ⟨a.toNat + 256 * b.toNat + 65536 * c.toNat + 16777216 * d.toNat, by omega, ?_⟩
    generalize hn : a.toNat + 256 * b.toNat + 65536 * c.toNat + 16777216 * d.toNat = n
    have hn2 : n < 2 ^ 64 := by omega
    have key : ∀ (i : Nat) (u : UInt8), n / 2 ^ (8 * i) % 256 = u.toNat → UInt8.ofNat (byteAt (n : Int) i).toNat = u := by
      intro i u hu
      rw [byteAt_num hn2, Int.toNat_natCast, hu, UInt8.ofNat_toNat]
    have k0 := key 0 a (by simp only [Nat.mul_zero, Nat.pow_zero, Nat.div_one]; omega)
    have k1 := key 1 b (by simp only [Nat.reduceMul, Nat.reducePow]; omega)
    have k2 := key 2 c (by simp only [Nat.reduceMul, Nat.reducePow]; omega)
    have k3 := key 3 d (by simp only [Nat.reduceMul, Nat.reducePow]; omega)
    show [UInt8.ofNat (byteAt (n : Int) 0).toNat, UInt8.ofNat (byteAt (n : Int) 1).toNat, UInt8.ofNat (byteAt (n : Int) 2).toNat, UInt8.ofNat (byteAt (n : Int) 3).toNat] = _
    rw [k0, k1, k2, k3]

theorem numS4_inj {a b : Nat} (ha : a < 2 ^ 32) (hb : b < 2 ^ 32) (h : numS (a : Int) 4 = numS (b : Int) 4) : a = b := by
  have key : ∀ i : Nat, i < 4 → a / 2 ^ (8 * i) % 256 = b / 2 ^ (8 * i) % 256 := by
    intro i hi
    have h2 : (numS (a : Int) 4)[i]? = (numS (b : Int) 4)[i]? := by rw [h]
    rw [numS_get hi, numS_get hi] at h2
    injection h2 with h2
    have h3 := congrArg (fun u : UInt8 => (u.toNat : Int)) h2
    simp only [byteAt_nat] at h3
    rw [byteAt_num (by omega), byteAt_num (by omega)] at h3
    omega
  have k0 := key 0 (by omega); have k1 := key 1 (by omega); have k2 := key 2 (by omega); have k3 := key 3 (by omega)
  simp only [Nat.mul_zero, Nat.pow_zero, Nat.div_one, Nat.reduceMul, Nat.reducePow] at k0 k1 k2 k3
  omega

/-! ### What decoding answers -/

theorem decode_position {x : List UInt8} (hx : x.length = 256) (h : x.take 8 ≠ x.drop 248) : ∃ r, S_page_Decode x = some r ∧ r.2 = 27 := by
  unfold S_page_Decode
  have e0 : (((x.length : Nat) : Int) != 256) = false := by rw [hx]; rfl
  have e1 : slcS x none (some 8) = some (x.take 8) := slc_to x (b := 8) (by omega)
  have e2 : slcS x (some 248) none = some (x.drop 248) := slc_from x (a := 248) (by omega)
  have nb : (x == blk) = false := by
    have : x ≠ blk := fun e => h (by rw [e, blk_take, blk_drop])
    simpa using this
  have hp : (x.take 8 == x.drop 248) = false := by simpa using h
  simp only [e0, Bool.false_eq_true, if_false, blank_bytes, Option.bind_some, nb, e1, e2, hp]
  exact ⟨_, rfl, rfl⟩

theorem decode_sum {x : List UInt8} (hx : x.length = 256) (h : x.take 8 = x.drop 248) (hb : x ≠ blk) (hs : (x.drop 244).take 4 ≠ numS ((crc (x.take 244) : Nat) : Int) 4) : ∃ r, S_page_Decode x = some r ∧ r.2 = 3 := by
  unfold S_page_Decode
  have e0 : (((x.length : Nat) : Int) != 256) = false := by rw [hx]; rfl
  have e1 : slcS x none (some 8) = some (x.take 8) := slc_to x (b := 8) (by omega)
  have e2 : slcS x (some 248) none = some (x.drop 248) := slc_from x (a := 248) (by omega)
  have e3 : slcS x none (some 244) = some (x.take 244) := slc_to x (b := 244) (by omega)
  have nb : (x == blk) = false := by simpa using hb
  have hp : (x.take 8 == x.drop 248) = true := by simpa using h
  obtain ⟨n, hn, hl⟩ := numS4 ((x.drop 244).take 4) (by simp; omega)
  have e4 : S_page_number x 244 4 = some (n : Int) := by
    have e : x = x.take 244 ++ (numS (n : Int) 4 ++ x.drop 248) := by
      rw [hl, show x.drop 248 = (x.drop 244).drop 4 by rw [List.drop_drop], List.take_append_drop, List.take_append_drop]
    have g := get_num (x.take 244) (x.drop 248) (n := n) (k := 4) (by omega) (by omega) (by omega) (by omega) (by rw [← e]; omega)
    rw [← e, List.length_take, hx] at g
    have g' : S_codec_Get x 244 4 = some ((n : Int), 0) := g
    simp only [S_page_number, g', Option.bind_some]
  have hc := crc_lt (x.take 244)
  have e5 := sum_form (x.take 244) (by simp; omega)
  have e6 : IntKind.wrap .i64 ((crc (x.take 244) : Nat) : Int) = ((crc (x.take 244) : Nat) : Int) := wrap64 (by omega) (by omega)
  have e7 : (((n : Nat) : Int) != ((crc (x.take 244) : Nat) : Int)) = true := by
    have : n ≠ crc (x.take 244) := fun e => hs (by rw [← hl, e])
    have h2 : ((n : Nat) : Int) ≠ ((crc (x.take 244) : Nat) : Int) := by omega
    simpa using h2
  simp only [e0, Bool.false_eq_true, if_false, blank_bytes, Option.bind_some, nb, e1, e2, hp, if_true, e3, e4, e5, e6, e7]
  exact ⟨_, rfl, rfl⟩

theorem set_ne {α : Type} {l : List α} {k : Nat} {c : α} (h : k < l.length) (hc : l[k] ≠ c) : l.set k c ≠ l := by
  intro e
  have : (l.set k c)[k]'(by simpa using h) = l[k] := by simp only [e]
  rw [List.getElem_set_self] at this
  exact hc this.symm

/-- What keeps damage from passing unseen. -/
structure Firm (s : List UInt8) : Prop where
  len : s.length = 256
  ends : s.take 8 = s.drop 248
  blank : ∀ (k : Nat) (c : UInt8) (h : k < s.length), 8 ≤ k → k < 248 → s[k] ≠ c → s.set k c ≠ blk
  body : ∀ (k : Nat) (c : UInt8) (h : k < s.length), k < 244 → s[k] ≠ c → (s.drop 244).take 4 ≠ numS ((crc ((s.take 244).set k c) : Nat) : Int) 4
  sum : ∀ (k : Nat) (c : UInt8), k < 4 → ((s.drop 244).take 4)[k]? ≠ some c → ((s.drop 244).take 4).set k c ≠ numS ((crc (s.take 244) : Nat) : Int) 4

theorem damaged {s : List UInt8} (hs : Firm s) {k : Nat} {c : UInt8} (hk : k < s.length) (hc : s[k] ≠ c) : ∃ r, S_page_Decode (s.set k c) = some r ∧ r.2 ≠ 0 ∧ r.2 ≠ 7 := by
  have hl := hs.len
  have hx : (s.set k c).length = 256 := by simp [hl]
  have t8 : (s.set k c).take 8 = (s.take 8).set k c := List.take_set
  by_cases h8 : k < 8
  · have d : (s.set k c).drop 248 = s.drop 248 := by rw [List.drop_set, if_pos (by omega)]
    obtain ⟨r, e, h⟩ := decode_position hx (by
      rw [t8, d, ← hs.ends]
      exact set_ne (by simp; omega) (by simpa using hc))
    exact ⟨r, e, by omega, by omega⟩
  · have t8' : (s.take 8).set k c = s.take 8 := List.set_eq_of_length_le (by simp; omega)
    by_cases h248 : 248 ≤ k
    · have d : (s.set k c).drop 248 = (s.drop 248).set (k - 248) c := by rw [List.drop_set, if_neg (by omega)]
      obtain ⟨r, e, h⟩ := decode_position hx (by
        rw [t8, t8', d, hs.ends]
        refine fun e => set_ne (l := s.drop 248) (k := k - 248) (by simp; omega) ?_ e.symm
        rw [List.getElem_drop]
        have : 248 + (k - 248) = k := by omega
        simpa [this] using hc)
      exact ⟨r, e, by omega, by omega⟩
    · have d : (s.set k c).drop 248 = s.drop 248 := by rw [List.drop_set, if_pos (by omega)]
      have hends : (s.set k c).take 8 = (s.set k c).drop 248 := by rw [t8, t8', d, hs.ends]
      have hnb := hs.blank k c hk (by omega) (by omega) hc
      have hsum : ((s.set k c).drop 244).take 4 ≠ numS ((crc ((s.set k c).take 244) : Nat) : Int) 4 := by
        have t244 : (s.set k c).take 244 = (s.take 244).set k c := List.take_set
        by_cases h244 : k < 244
        · rw [List.drop_set, if_pos (by omega), t244]
          exact hs.body k c hk h244 hc
        · have e9 : (s.take 244).set k c = s.take 244 := List.set_eq_of_length_le (by simp; omega)
          rw [List.drop_set, if_neg (by omega), t244, e9, List.take_set]
          refine hs.sum (k - 244) c (by omega) ?_
          rw [List.getElem?_take_of_lt (by omega), List.getElem?_drop, show 244 + (k - 244) = k by omega, List.getElem?_eq_getElem hk]
          exact fun e => hc (Option.some.inj e)
      obtain ⟨r, e, h⟩ := decode_sum hx hends hnb hsum
      exact ⟨r, e, by omega, by omega⟩

theorem blk_firm : Firm blk := by
  have hd : (blk.drop 244).take 4 = List.replicate 4 0 := by decide +kernel
  have ht : blk.take 244 = List.replicate 244 0 := by decide +kernel
  have h0 : List.replicate 4 (0 : UInt8) = numS ((0 : Nat) : Int) 4 := by decide +kernel
  refine ⟨blk_len, by rw [blk_take, blk_drop], fun k c h _ _ hc => set_ne h hc, fun k c h hk hc => ?_, fun k c hk hc => ?_⟩
  · rw [hd, ht, h0]
    exact fun e => crc_zeros_set hk (numS4_inj (by decide) (crc_lt _) e).symm
  · rw [hd, ht, crc_zeros, numS_D]
    match k, hk with
    | 0, _ => exact fun e => absurd (congrArg (fun l : List UInt8 => l[1]?) e) (by simp)
    | 1, _ => exact fun e => absurd (congrArg (fun l : List UInt8 => l[0]?) e) (by simp)
    | 2, _ => exact fun e => absurd (congrArg (fun l : List UInt8 => l[0]?) e) (by simp)
    | 3, _ => exact fun e => absurd (congrArg (fun l : List UInt8 => l[0]?) e) (by simp)

theorem enc_255 {p : T_api_Page} (hp : PageOk p) (h0 : p.LSN = 0) {j : Nat} (hj : j < 16) : (encOf p)[12 + 13 * j]? = some 255 := by
  obtain ⟨A, R, hcell, hA⟩ := cell_there hp (numS ((crc (bodyB p) : Nat) : Int) 4 ++ numS p.LSN 8) hj
  have hset : p.Cells[j].Set = false := by
    cases hh : p.Cells[j].Set with
    | false => rfl
    | true => exact ((hp.cells j hj).2.2 hh h0).elim
  unfold encOf
  rw [List.append_assoc, hcell, List.getElem?_append_right (by omega), hA, Nat.sub_self]
  simp only [cellB, hset, Bool.false_eq_true, if_false, List.append_assoc]
  rw [List.getElem?_append_left (by rw [numS_length]; omega), numS_get (by omega)]
  decide +kernel

theorem enc_firm {p : T_api_Page} (hp : PageOk p) : Firm (encOf p) := by
  have hlen := encOf_len hp
  have hbl := body_len hp
  have t8 : (encOf p).take 8 = numS p.LSN 8 := by
    unfold encOf
    simp only [bodyB, List.append_assoc]
    rw [List.take_append_of_le_length (by rw [numS_length]; omega), List.take_of_length_le (by rw [numS_length]; omega)]
  have d248 : (encOf p).drop 248 = numS p.LSN 8 := by
    unfold encOf
    rw [List.drop_append, List.drop_of_length_le (by simp [hbl, numS_length]), List.nil_append]
    simp [hbl, numS_length]
  have t244 : (encOf p).take 244 = bodyB p := by
    unfold encOf
    rw [List.append_assoc, List.take_append_of_le_length (by omega), List.take_of_length_le (by omega)]
  have d244 : ((encOf p).drop 244).take 4 = numS ((crc (bodyB p) : Nat) : Int) 4 := by
    unfold encOf
    rw [List.append_assoc, List.drop_append, List.drop_of_length_le (by omega), List.nil_append, hbl, Nat.sub_self, List.drop_zero,
      List.take_append_of_le_length (by rw [numS_length]; omega), List.take_of_length_le (by rw [numS_length]; omega)]
  refine ⟨hlen, by rw [t8, d248], fun k c h h8 h248 hc e => ?_, fun k c h hk hc => ?_, fun k c hk hc => ?_⟩
  · have hl : p.LSN = 0 := by
      have h1 : ((encOf p).set k c).take 8 = blk.take 8 := by rw [e]
      rw [List.take_set, List.set_eq_of_length_le (by simp; omega), t8, blk_take] at h1
      exact numS_inj hp.lsn0 hp.lsn1 (by omega) (by omega) h1
    have b12 : blk[12]? = some 0 := by decide +kernel
    have b25 : blk[25]? = some 0 := by decide +kernel
    have s12 := enc_255 hp hl (j := 0) (by omega)
    have s25 := enc_255 hp hl (j := 1) (by omega)
    by_cases hk : k = 12
    · have : ((encOf p).set k c)[25]? = some 255 := by rw [List.getElem?_set_ne (by omega)]; exact s25
      rw [e, b25] at this
      exact absurd this (by decide)
    · have : ((encOf p).set k c)[12]? = some 255 := by rw [List.getElem?_set_ne (by omega)]; exact s12
      rw [e, b12] at this
      exact absurd this (by decide)
  · rw [d244, t244]
    intro e
    have h1 := numS4_inj (crc_lt _) (crc_lt _) e
    refine crc_set (l := bodyB p) (k := k) (c := c) (by omega) ?_ h1.symm
    have h2 : (bodyB p)[k]? = (encOf p)[k]? := by rw [← t244, List.getElem?_take_of_lt hk]
    rw [List.getElem?_eq_getElem (by omega), List.getElem?_eq_getElem h] at h2
    injection h2 with h2
    rw [h2]; exact hc
  · rw [d244, t244] at *
    refine set_ne (by rw [numS_length]; exact hk) ?_
    rw [List.getElem?_eq_getElem (by rw [numS_length]; exact hk)] at hc
    exact fun e => hc (by rw [e])

theorem xor8 {a b : Nat} (ha : a < 256) (hb : b < 256) : xorI .u8 (a : Int) (b : Int) = ((a ^^^ b : Nat) : Int) := by
  show IntKind.wrap .u8 (((BitVec.ofInt 8 (a : Int) ^^^ BitVec.ofInt 8 (b : Int)).toNat : Nat) : Int) = _
  have h1 : (BitVec.ofInt 8 (a : Int)).toNat = a := by rw [BitVec.toNat_ofInt]; omega
  have h2 : (BitVec.ofInt 8 (b : Int)).toNat = b := by rw [BitVec.toNat_ofInt]; omega
  have h3 : a ^^^ b < 2 ^ 8 := Nat.xor_lt_two_pow ha hb
  rw [BitVec.toNat_xor, h1, h2]
  rw [show IntKind.wrap .u8 ((a ^^^ b : Nat) : Int) = ((a ^^^ b : Nat) : Int) % 256 from rfl]
  omega

theorem L_law02_PageDamage {l : List Int} {at_ by_ : Int} (h : List.length l ≤ maxLen ∧ ∀ x ∈ l, 0 ≤ x ∧ x ≤ 255) (ha : 0 ≤ at_ ∧ at_ ≤ 255) (hb : 0 ≤ by_ ∧ by_ ≤ 255) : S_law02_PageDamage l at_ by_ = some true := by
  obtain ⟨b0, a1, hb0⟩ := new_ok' h (n := 100) (by omega)
  have a1' : S_draw_New l 100 = some b0 := a1
  obtain ⟨i, b1, a3, hb1, i0, i1⟩ := next_ok hb0 (n := 64) (by omega) (by omega)
  obtain ⟨p, b2, a4, hb2, hp, _⟩ := page_draw hb1 i0 i1
  unfold S_law02_PageDamage
  simp only [awake_ok, a1', a3, a4, encode_ok hp, blank_bytes, Option.bind_some, if_true]
  by_cases h0 : by_ = 0
  · have d : (by_ == 0) = true := by simpa using h0
    simp only [d, if_true]
  · have d : (by_ == 0) = false := by simpa using h0
    simp only [d, Bool.false_eq_true, if_false]
    have hF : ∀ s ∈ [encOf p, blk], Firm s := by
      intro s hs
      simp only [List.mem_cons, List.not_mem_nil, or_false] at hs
      rcases hs with rfl | rfl
      · exact enc_firm hp
      · exact blk_firm
    have hL : [encOf p, blk].length = 2 := rfl
    generalize [encOf p, blk] = L at hF hL
    obtain ⟨k, rfl⟩ : ∃ k : Nat, at_ = (k : Int) := ⟨at_.toNat, by omega⟩
    obtain ⟨y, rfl⟩ : ∃ y : Nat, by_ = (y : Int) := ⟨by_.toNat, by omega⟩
    refine all_rounds (f := fun j => S_law02_PageDamage_0 (k : Int) (y : Int) L (L.length : Int) j) (l := L) (by omega) (fun j hj => ?_) ?_
    · have e1 : ((j : Nat) : Int) < (L.length : Int) := by omega
      have e2 : idx L (j : Int) = some L[j] := by rw [idx_nat, List.getElem?_eq_getElem hj]
      have hS := hF L[j] (List.getElem_mem hj)
      generalize L[j] = s at hS e2
      have hl := hS.len
      have n1 : (((s.length : Nat) : Int) != 256) = false := by rw [hl]; rfl
      have e3 : IntKind.wrap .i64 (k : Int) = (k : Int) := wrap64 (by omega) (by omega)
      have e4 := slc_to s (b := k) (by omega)
      have hk : k < s.length := by omega
      have e5 : slcS s (some (IntKind.wrap .i64 ((k : Int) + 1))) none = some (s.drop (k + 1)) := by
        rw [succ64 (by omega)]; exact slc_from s (a := k + 1) (by omega)
      have hu := UInt8.toNat_lt s[k]
      have e6 : toStr [xorI .u8 ((s[k].toNat : Nat) : Int) (y : Int)] = [UInt8.ofNat (s[k].toNat ^^^ y)] := by
        rw [xor8 hu (by omega)]; simp [toStr]
      have e7 : catS (s.take k) [UInt8.ofNat (s[k].toNat ^^^ y)] = some (s.take k ++ [UInt8.ofNat (s[k].toNat ^^^ y)]) := cat_big (by simp only [List.length_take, List.length_cons, List.length_nil]; omega)
      have e8 : catS (s.take k ++ [UInt8.ofNat (s[k].toNat ^^^ y)]) (s.drop (k + 1)) = some (s.set k (UInt8.ofNat (s[k].toNat ^^^ y))) := by
        rw [cat_big (by simp only [List.length_append, List.length_take, List.length_cons, List.length_nil, List.length_drop]; omega), List.set_eq_take_append_cons_drop, if_pos hk]
        simp
      have hc : s[k] ≠ UInt8.ofNat (s[k].toNat ^^^ y) := by
        intro e
        have h1 := congrArg UInt8.toNat e
        have h3 : s[k].toNat ^^^ y < 2 ^ 8 := Nat.xor_lt_two_pow hu (by omega)
        rw [UInt8.toNat_ofNat', Nat.mod_eq_of_lt h3] at h1
        have h4 : s[k].toNat ^^^ 0 = s[k].toNat ^^^ y := by rw [Nat.xor_zero]; exact h1
        have := xleft h4
        omega
      obtain ⟨r, e9, r0, r7⟩ := damaged hS hk hc
      have d0 : (r.2 == 0) = false := by simpa using r0
      have d7 : (r.2 == 7) = false := by simpa using r7
      simp only [S_law02_PageDamage_0, e1, decide_true, if_true, e2, n1, Bool.false_eq_true, if_false, e3, e4, sid_nat hk, e5, e6, e7, e8, e9, d0, d7, Option.bind_some, succ64 (show j < 1000000 by omega)]
    · have e1 : ¬ ((L.length : Nat) : Int) < (L.length : Int) := by omega
      simp only [S_law02_PageDamage_0, e1, decide_false, Bool.false_eq_true, if_false, S_law02_PageDamage_1, Option.map_some]

end Go.Am
end

section
namespace Go.Am

section
variable (P : Program)

/-- A type of bools, numbers, strings, and of slices, arrays and structs of these. -/
def plainT : Nat → TypeId → Bool
  | 0, _ => false
  | n + 1, t => match P.underlying t with
    | some .bool => true
    | some (.int _) => true
    | some .string => true
    | some (.slice e) => plainT n e && decide (t < P.types.size ∧ 0 < P.cellsOf e)
    | some (.struct fs) => fs.toList.all (fun f => plainT n f.type) && decide (t < P.types.size)
    | some (.array _ e) => plainT n e && decide (t < P.types.size)
    | _ => false

/-- Cells of a value of such a type. -/
def pvTy : Nat → TypeId → List PV → Prop
  | 0, _, _ => False
  | n + 1, t, pvs => match P.underlying t with
    | some .bool => ∃ b, pvs = [.b b]
    | some (.int k) => ∃ z, pvs = [.i k z] ∧ (Lit.int k z).wf = true
    | some .string => ∃ l, pvs = [.s l] ∧ l.length ≤ maxLen
    | some (.slice e) => ∃ rows, pvs = [.sl (P.cellsOf e) rows] ∧ rows.length ≤ maxLen ∧ ∀ row ∈ rows, row.length = P.cellsOf e ∧ pvTy n e row
    | some (.struct fs) => pvs.length = P.cellsOf t ∧ ∀ f ∈ fs.toList, pvTy n f.type ((pvs.drop f.offset).take (P.cellsOf f.type))
    | some (.array m e) => pvs.length = P.cellsOf t ∧ ∀ i, i < m → pvTy n e ((pvs.drop (i * P.cellsOf e)).take (P.cellsOf e))
    | _ => False

end

section
variable {H : Type} {enc : TypeId × Value → H} {P : Program} {w : World} {base : Nat} {sp : Nat → Bool} {held : Bool}

def okAll (w : World) (pvs : List PV) (cs : List Value) : Prop :=
  pvs.length = cs.length ∧ ∀ (i : Nat) p v, pvs[i]? = some p → cs[i]? = some v → RelP w (fun r _ => r < w.heap.size) p v

theorem cell_spot {a : Addr} {v : Value} (h : w.cell? a = some v) : a.spot = none ∧ cellAt w a.block a.off = some v ∧ a.block < w.heap.size := by
  unfold World.cell? at h
  unfold cellAt
  split at h
  · rename_i c t fz hb
    split at h
    · cases h
    · rename_i hs
      refine ⟨by simpa using hs, by rw [hb]; exact h, ?_⟩
      have := Array.getElem?_eq_some_iff.1 hb
      exact this.1
  · cases h

theorem cells_at {a : Addr} {n : Nat} {cs : List Value} (h : w.cells? base a n = some cs) : cs.length = n ∧ ∀ i v, cs[i]? = some v → w.cell? (a.add i) = some v := by
  unfold World.cells? at h
  split at h
  · have hl := mapM_some_length h
    refine ⟨by simpa using hl, fun i v hv => ?_⟩
    have hi : i < n := by
      have := (List.getElem?_eq_some_iff.1 hv).1
      simp at hl; omega
    have := mapM_some_get h i i (by simp [hi])
    rw [this, hv]
  · cases h

/-- A list built from pieces of lists of one length. -/
theorem pieces {α : Type} (Q : Nat → α → Prop) : ∀ (m : Nat), (∀ i, i < m → ∃ x, Q i x) → ∃ xs : List α, xs.length = m ∧ ∀ i x, xs[i]? = some x → Q i x
  | 0, _ => ⟨[], rfl, fun i x h => by simp at h⟩
  | m + 1, h => by
    obtain ⟨xs, hl, hx⟩ := pieces Q m (fun i hi => h i (by omega))
    obtain ⟨y, hy⟩ := h m (by omega)
    refine ⟨xs ++ [y], by simp [hl], fun i x hi => ?_⟩
    rcases Nat.lt_or_ge i xs.length with hlt | hge
    · rw [List.getElem?_append_left hlt] at hi; exact hx i x hi
    · rw [List.getElem?_append_right hge] at hi
      have : i - xs.length = 0 := by
        have := (List.getElem?_eq_some_iff.1 hi).1
        simp at this; omega
      rw [this] at hi
      simp at hi; subst hi
      obtain rfl : i = m := by omega
      exact hy

/-- Blocks of cells put one behind the other. -/
theorem flat_part {α : Type} : ∀ (xs : List (List α)) (j : Nat) (y : List α), xs[j]? = some y → (xs.flatten.drop ((xs.take j).map List.length).sum).take y.length = y
  | [], j, y, h => by simp at h
  | x :: xs, 0, y, h => by simp at h; subst h; simp
  | x :: xs, j + 1, y, h => by
    simp at h
    have := flat_part xs j y h
    simp only [List.take_succ_cons, List.map_cons, List.sum_cons, List.flatten_cons, List.drop_length_add_append]
    exact this

theorem trod_pv (hl : laidOutB P = true) (hm : mapsRowed P = true) : ∀ (n : Nat) (t : TypeId) (cs : List Value) (x : DataW H × List MemPlace) (fuel : Nat), plainT P n t = true → DataW.trod enc P w base sp held fuel t cs = some x →
    ∃ pvs, pvTy P n t pvs ∧ okAll w pvs cs := by
  have K := kids_rows hl hm
  intro n
  induction n with
  | zero => intro t cs x fuel hp; simp [plainT] at hp
  | succ n ih =>
    intro t cs x fuel hp h
    unfold plainT at hp
    unfold pvTy
    split at hp
    · rename_i ht
      obtain ⟨b, rfl, _⟩ := DataW.trod_bool ht h
      refine ⟨[.b b], by simp, rfl, fun i p v h1 h2 => ?_⟩
      match i with
      | 0 => simp at h1 h2; subst h1 h2; exact .b _
      | i + 1 => simp at h1
    · rename_i k ht
      obtain ⟨z, rfl, _, hwf⟩ := DataW.trod_int ht h
      refine ⟨[.i k z], by simpa using hwf, rfl, fun i p v h1 h2 => ?_⟩
      match i with
      | 0 => simp at h1 h2; subst h1 h2; exact .i _ _
      | i + 1 => simp at h1
    · rename_i ht
      obtain ⟨s, rfl, _, hsz⟩ := DataW.trod_string ht h
      refine ⟨[.s s.data.toList], ⟨_, rfl, by rw [Array.length_toList]; exact hsz⟩, rfl, fun i p v h1 h2 => ?_⟩
      match i with
      | 0 => simp at h1 h2; subst h1 h2; exact .s _
      | i + 1 => simp at h1
    · rename_i e ht
      simp only [Bool.and_eq_true, decide_eq_true_eq] at hp
      rcases DataW.trod_slice ht h with ⟨rfl, _⟩ | ⟨a, len, cap, elems, rest, n0, _, rfl, _, _, hlc, hcm, hel, hat, _⟩
      · refine ⟨[.sl (P.cellsOf e) []], ⟨[], rfl, Nat.zero_le _, by simp⟩, rfl, fun i p v h1 h2 => ?_⟩
        match i with
        | 0 => simp at h1 h2; subst h1 h2; exact .sl0 _ _ _
        | i + 1 => simp at h1
      · -- the rows
        have hrow : ∀ i, i < len → ∃ row : List PV, (row.length = P.cellsOf e ∧ pvTy P n e row) ∧ ∀ j p, row[j]? = some p → ∃ v, w.cell? (a.add (i * P.cellsOf e) |>.add j) = some v ∧ RelP w (fun r _ => r < w.heap.size) p v := by
          intro i hi
          have h1 := hat i hi
          have h2 : ∃ y, elems[i]? = some y := ⟨_, List.getElem?_eq_getElem (by omega)⟩
          obtain ⟨y, hy⟩ := h2
          rw [hy, Option.bind_eq_some_iff] at h1
          obtain ⟨cs', hc, ht'⟩ := h1
          obtain ⟨row, q1, q2, q3⟩ := ih e cs' y n0 hp.1 ht'
          obtain ⟨c1, c2⟩ := cells_at hc
          refine ⟨row, ⟨by omega, q1⟩, fun j p hj => ?_⟩
          have hlt : j < cs'.length := by have := (List.getElem?_eq_some_iff.1 hj).1; omega
          have hv := List.getElem?_eq_getElem hlt
          exact ⟨_, c2 j _ hv, q3 j p _ hj hv⟩
        obtain ⟨rows, hrl, hrows⟩ := pieces _ len hrow
        refine ⟨[.sl (P.cellsOf e) rows], ⟨rows, rfl, by omega, fun row hr => ?_⟩, rfl, fun i p v h1 h2 => ?_⟩
        · obtain ⟨i, hi⟩ := List.getElem?_of_mem hr
          exact (hrows i row hi).1
        match i with
        | i + 1 => simp at h1
        | 0 =>
          simp at h1 h2; subst h1 h2
          by_cases h0 : ∃ (i j : Nat) (row : List PV) (p : PV), rows[i]? = some row ∧ row[j]? = some p
          · obtain ⟨i0, j0, row0, p0, hr0, hp0⟩ := h0
            have spot : a.spot = none ∨ P.cellsOf e = 0 := by
              rcases Nat.eq_zero_or_pos (P.cellsOf e) with hz | hpos
              · exact .inr hz
              · have hlen : 0 < len := by have := (List.getElem?_eq_some_iff.1 hr0).1; omega
                have hr00 := List.getElem?_eq_getElem (l := rows) (i := 0) (by omega)
                have q := hrows 0 _ hr00
                have hj0 := List.getElem?_eq_getElem (l := rows[0]'(by omega)) (i := 0) (by omega)
                obtain ⟨v, hv, _⟩ := q.2 0 _ hj0
                rw [Nat.zero_mul] at hv
                exact .inl (by simpa [Addr.add] using (cell_spot hv).1)
            rcases spot with spot | hz
            · have cell : ∀ (i j : Nat) (row : List PV) (p : PV), rows[i]? = some row → row[j]? = some p → ∃ v, (a.block < w.heap.size ∧ cellAt w a.block (a.off + i * P.cellsOf e + j) = some v) ∧ RelP w (fun r _ => r < w.heap.size) p v := by
                intro i j row p hi hj
                obtain ⟨v, hv, hr⟩ := (hrows i row hi).2 j p hj
                obtain ⟨s1, s2, s3⟩ := cell_spot hv
                refine ⟨v, ?_, hr⟩
                have e1 : ((a.add (i * P.cellsOf e)).add j).block = a.block := by unfold Addr.add; split <;> split <;> rfl
                have e2 : ((a.add (i * P.cellsOf e)).add j).off = a.off + i * P.cellsOf e + j := by
                  unfold Addr.add
                  split <;> split <;> simp_all
                rw [e1] at s3
                rw [e1, e2] at s2
                exact ⟨s3, s2⟩
              have ea : a = ⟨a.block, a.off, none⟩ := by cases a; simp_all
              rw [ea, ← hrl]
              refine .sl _ rows a.block a.off cap (fun i j => ((cellAt w a.block (a.off + i * P.cellsOf e + j)).getD default)) (by omega) (fun row hr => ?_) (fun i j row p hi hj => ?_) (fun i j row p hi hj => ?_)
              · obtain ⟨i, hi⟩ := List.getElem?_of_mem hr
                exact (hrows i row hi).1.1
              · obtain ⟨v, ⟨h3, h4⟩, _⟩ := cell i j row p hi hj
                exact ⟨h3, by rw [h4]; rfl⟩
              · obtain ⟨v, ⟨h3, h4⟩, h5⟩ := cell i j row p hi hj
                rw [h4]; exact h5
            · have := (hrows i0 row0 hr0).1.1
              have := (List.getElem?_eq_some_iff.1 hp0).1
              omega
          · -- no cells: no rows, or rows of no size
            rcases Nat.eq_zero_or_pos len with hz | hpos
            · have : rows = [] := by cases rows <;> simp_all
              subst this
              subst hz
              exact .sl0 _ _ _
            · exfalso
              have hr00 := List.getElem?_eq_getElem (l := rows) (i := 0) (by omega)
              have q := (hrows 0 _ hr00).1.1
              exact h0 ⟨0, 0, _, _, hr00, List.getElem?_eq_getElem (by omega)⟩
    · rename_i fs ht
      simp only [Bool.and_eq_true, decide_eq_true_eq, List.all_eq_true] at hp
      obtain ⟨xs, n0, _, _, hcl, hxl, hat⟩ := DataW.trod_struct ht h
      obtain ⟨_, ksum, koff⟩ := K.struct hp.2 ht
      have hf : ∀ i, i < fs.toList.length → ∃ ys : List PV, ∀ f, fs.toList[i]? = some f → pvTy P n f.type ys ∧ okAll w ys ((cs.drop f.offset).take (P.cellsOf f.type)) := by
        intro i hi
        have hfi := List.getElem?_eq_getElem hi
        have hmem := List.mem_of_getElem? hfi
        have hfa : fs[i]? = some (fs.toList[i]) := by rw [← Array.getElem?_toList]; exact hfi
        have h1 := hat i _ hfa
        have h2 : ∃ y, xs[i]? = some y := ⟨_, List.getElem?_eq_getElem (by simpa [hxl] using hi)⟩
        obtain ⟨y, hy⟩ := h2
        rw [hy] at h1
        obtain ⟨ys, q1, q2⟩ := ih _ _ _ _ (hp.1 _ hmem) h1
        refine ⟨ys, fun f hff => ?_⟩
        rw [hfi] at hff; injection hff with hff; subst hff
        exact ⟨q1, q2⟩
      obtain ⟨yss, hyl, hys⟩ := pieces _ _ hf
      -- lengths
      have hlen : ∀ (j : Nat) (f : Field), fs.toList[j]? = some f → ∀ ys : List PV, yss[j]? = some ys → ys.length = P.cellsOf f.type := by
        intro j f hj ys hy
        have q := (hys j ys hy f hj).2.1
        have o := koff j f hj
        rw [q, List.length_take, List.length_drop, hcl, ksum, o]
        have : ((fs.toList.take j).map fun f => P.cellsOf f.type).sum + P.cellsOf f.type ≤ (fs.toList.map fun f => P.cellsOf f.type).sum := by
          have e1 : fs.toList = fs.toList.take j ++ (f :: fs.toList.drop (j + 1)) := by
            have hjl := (List.getElem?_eq_some_iff.1 hj)
            obtain ⟨hjl, he⟩ := hjl
            rw [← he, ← List.drop_eq_getElem_cons hjl, List.take_append_drop]
          conv => rhs; rw [e1]
          simp only [List.map_append, List.map_cons, List.sum_append, List.sum_cons]
          omega
        omega
      have hmapl : yss.map List.length = fs.toList.map fun f => P.cellsOf f.type := by
        apply List.ext_getElem?
        intro j
        rw [List.getElem?_map, List.getElem?_map]
        cases hy : yss[j]? with
        | none =>
          have : fs.toList[j]? = none := by rw [List.getElem?_eq_none_iff] at hy ⊢; omega
          rw [this]; rfl
        | some ys =>
          have hj : j < fs.toList.length := by have := (List.getElem?_eq_some_iff.1 hy).1; omega
          have hfj := List.getElem?_eq_getElem hj
          rw [hfj]
          simp only [Option.map_some]
          rw [hlen j _ hfj ys hy]
      have hoff : ∀ (j : Nat) (f : Field), fs.toList[j]? = some f → ((yss.take j).map List.length).sum = f.offset := by
        intro j f hj
        rw [koff j f hj, List.map_take, hmapl, ← List.map_take]
      refine ⟨yss.flatten, ⟨?_, fun f hf => ?_⟩, ?_, fun i p v h1 h2 => ?_⟩
      · rw [List.length_flatten, hmapl, ksum]
      · obtain ⟨j, hj⟩ := List.getElem?_of_mem hf
        have hjl : j < yss.length := by have := (List.getElem?_eq_some_iff.1 hj).1; omega
        have hyj := List.getElem?_eq_getElem hjl
        have := flat_part yss j _ hyj
        rw [hoff j f hj, hlen j f hj _ hyj] at this
        rw [this]
        exact (hys j _ hyj f hj).1
      · rw [List.length_flatten, hmapl, hcl, ksum]
      · -- the field that holds cell i
        have key : ∀ (l : List (List PV)) (i : Nat) p, l.flatten[i]? = some p → ∃ j ys k, l[j]? = some ys ∧ ys[k]? = some p ∧ i = ((l.take j).map List.length).sum + k := by
          intro l
          induction l with
          | nil => intro i p h; simp at h
          | cons y l ihl =>
            intro i p h
            rw [List.flatten_cons] at h
            rcases Nat.lt_or_ge i y.length with hlt | hge
            · rw [List.getElem?_append_left hlt] at h
              exact ⟨0, y, i, rfl, h, by simp⟩
            · rw [List.getElem?_append_right hge] at h
              obtain ⟨j, ys, k, a1, a2, a3⟩ := ihl _ _ h
              exact ⟨j + 1, ys, k, by simpa using a1, a2, by simp only [List.take_succ_cons, List.map_cons, List.sum_cons]; omega⟩
        obtain ⟨j, ys, k, a1, a2, a3⟩ := key _ _ _ h1
        have hj : j < fs.toList.length := by have := (List.getElem?_eq_some_iff.1 a1).1; omega
        have hfj := List.getElem?_eq_getElem hj
        have q := (hys j ys a1 _ hfj).2
        refine q.2 k p v a2 ?_
        have hk : k < P.cellsOf (fs.toList[j]).type := by have := (List.getElem?_eq_some_iff.1 a2).1; rw [hlen j _ hfj ys a1] at this; exact this
        rw [List.getElem?_take_of_lt hk, List.getElem?_drop, ← hoff j _ hfj, ← a3]
        exact h2
    · rename_i m e ht
      simp only [Bool.and_eq_true, decide_eq_true_eq] at hp
      obtain ⟨xs, n0, _, _, hcl, hxl, hat⟩ := DataW.trod_array ht h
      obtain ⟨_, ksz⟩ := K.array hp.2 ht
      have hf : ∀ i, i < m → ∃ ys : List PV, pvTy P n e ys ∧ okAll w ys ((cs.drop (i * P.cellsOf e)).take (P.cellsOf e)) := by
        intro i hi
        have h1 := hat i hi
        have h2 : ∃ y, xs[i]? = some y := ⟨_, List.getElem?_eq_getElem (by omega)⟩
        obtain ⟨y, hy⟩ := h2
        rw [hy] at h1
        exact ih _ _ _ _ hp.1 h1
      obtain ⟨yss, hyl, hys⟩ := pieces _ _ hf
      have hlen : ∀ (j : Nat) ys, yss[j]? = some ys → ys.length = P.cellsOf e := by
        intro j ys hy
        have q := (hys j ys hy).2.1
        have hj : j < m := by have := (List.getElem?_eq_some_iff.1 hy).1; omega
        rw [q, List.length_take, List.length_drop, hcl, ksz]
        have : j * P.cellsOf e + P.cellsOf e ≤ m * P.cellsOf e := by rw [← Nat.succ_mul]; exact Nat.mul_le_mul_right _ hj
        omega
      have hall : ∀ y ∈ yss, y.length = P.cellsOf e := fun y hy => by
        obtain ⟨j, hj⟩ := List.getElem?_of_mem hy
        exact hlen j y hj
      have hsum : ∀ l : List (List PV), (∀ y ∈ l, y.length = P.cellsOf e) → (l.map List.length).sum = l.length * P.cellsOf e := by
        intro l
        induction l with
        | nil => intro _; simp
        | cons y l ihl => intro hh; simp [hh y (by simp), ihl (fun z hz => hh z (by simp [hz])), Nat.succ_mul, Nat.add_comm]
      have hoff : ∀ j, j ≤ m → ((yss.take j).map List.length).sum = j * P.cellsOf e := by
        intro j hj
        rw [hsum _ (fun y hy => hall y (List.mem_of_mem_take hy)), List.length_take, hyl, Nat.min_eq_left hj]
      refine ⟨yss.flatten, ⟨?_, fun j hj => ?_⟩, ?_, fun i p v h1 h2 => ?_⟩
      · rw [List.length_flatten, hsum _ hall, hyl, ksz]
      · have hyj := List.getElem?_eq_getElem (l := yss) (i := j) (by omega)
        have := flat_part yss j _ hyj
        rw [hoff j (by omega), hlen j _ hyj] at this
        rw [this]
        exact (hys j _ hyj).1
      · rw [List.length_flatten, hsum _ hall, hcl, hyl, ksz]
      · have key : ∀ (l : List (List PV)) (i : Nat) p, l.flatten[i]? = some p → ∃ j ys k, l[j]? = some ys ∧ ys[k]? = some p ∧ i = ((l.take j).map List.length).sum + k := by
          intro l
          induction l with
          | nil => intro i p h; simp at h
          | cons y l ihl =>
            intro i p h
            rw [List.flatten_cons] at h
            rcases Nat.lt_or_ge i y.length with hlt | hge
            · rw [List.getElem?_append_left hlt] at h
              exact ⟨0, y, i, rfl, h, by simp⟩
            · rw [List.getElem?_append_right hge] at h
              obtain ⟨j, ys, k, a1, a2, a3⟩ := ihl _ _ h
              exact ⟨j + 1, ys, k, by simpa using a1, a2, by simp only [List.take_succ_cons, List.map_cons, List.sum_cons]; omega⟩
        obtain ⟨j, ys, k, a1, a2, a3⟩ := key _ _ _ h1
        have hj : j < m := by have := (List.getElem?_eq_some_iff.1 a1).1; omega
        have q := (hys j ys a1).2
        refine q.2 k p v a2 ?_
        have hk : k < P.cellsOf e := by have := (List.getElem?_eq_some_iff.1 a2).1; rw [hlen j ys a1] at this; exact this
        rw [List.getElem?_take_of_lt hk, List.getElem?_drop, ← hoff j (by omega), ← a3]
        exact h2
    · cases hp

end
end Go.Am
end

section
namespace Go.Am
open Go.ChangeShapes Go.WideShapes Go.ChangeAt Go.RowKit

def gh0 (w : World) : Gh := ⟨fun _ => none, fun r _ => r < w.heap.size⟩

theorem wr1_nil (g : Gh) (w : World) (b r o : Nat) : ¬ Wr1 ⟨[], g, w⟩ b r o := by
  unfold Wr1; simp

theorem inv0 (w : World) : Inv ⟨[], gh0 w, w⟩ where
  box := fun b cs h => by simp at h
  arr := fun b wm esz rows h => by simp at h
  apart := fun b1 b2 r o h => absurd h (wr1_nil _ _ _ _ _)
  const := fun r o h => ⟨h, fun b => wr1_nil _ _ _ _ _⟩

/-- Nothing of the old memory is changed. -/
def Still (w w' : World) : Prop := Keep (fun _ _ => False) w w'

theorem Still.kept {w w' : World} (h : Still w w') (may : MemPlace → Prop) : w.keptBut w' may := by
  obtain ⟨h1, h2, h3, h4, h5⟩ := h
  refine ⟨h4, h5, fun i hi => ?_⟩
  have hg := Array.getElem?_eq_getElem hi
  cases hw : w.heap[i]? with
  | none => rw [hg] at hw; cases hw
  | some x =>
    cases x with
    | cells c e fz =>
      obtain ⟨c', q1, q2, q3⟩ := h2 i c e fz hw
      rw [q1]
      exact ⟨rfl, rfl, q2, fun j _ => q3 j (fun hf => hf)⟩
    | map es clock =>
      have := h3 i _ hw (fun c e fz he => by cases he)
      rw [this]
      exact .inr ⟨rfl, rfl⟩
    | _ =>
      have := h3 i _ hw (fun c e fz he => by cases he)
      rw [this]

theorem Still.same {w w' : World} (h : Still w w') {p : MemPlace} (hp : p.block < w.heap.size) : w.sameAt w' p := by
  obtain ⟨h1, h2, h3, h4, h5⟩ := h
  cases p with
  | cell b off =>
    have hb : b < w.heap.size := hp
    have hg := Array.getElem?_eq_getElem hb
    show w'.cell? ⟨b, off, none⟩ = w.cell? ⟨b, off, none⟩
    rw [cell_at, cell_at]
    unfold cellAt
    cases hw : w.heap[b]? with
    | none => rw [hg] at hw; cases hw
    | some x =>
      cases x with
      | cells c e fz =>
        obtain ⟨c', q1, q2, q3⟩ := h2 b c e fz hw
        rw [q1]
        exact q3 off (fun hf => hf)
      | _ =>
        have := h3 b _ hw (fun c e fz he => by cases he)
        rw [this]
  | map b =>
    have hb : b < w.heap.size := hp
    have hg := Array.getElem?_eq_getElem hb
    show w'.heap[b]? = w.heap[b]?
    cases hw : w.heap[b]? with
    | none => rw [hg] at hw; cases hw
    | some x =>
      cases x with
      | cells c e fz =>
        obtain ⟨c', q1, q2, q3⟩ := h2 b c e fz hw
        rw [q1]
        have : c' = c := by
          apply Array.ext_getElem?
          intro i
          exact q3 i (fun hf => hf)
        rw [this]
      | _ => exact h3 b _ hw (fun c e fz he => by cases he)

theorem Still.frozen {w w' : World} (h : Still w w') {a : Addr} (hp : a.block < w.heap.size) : w'.frozen? a = w.frozen? a := by
  obtain ⟨h1, h2, h3, h4, h5⟩ := h
  have hg := Array.getElem?_eq_getElem hp
  unfold World.frozen?
  cases hw : w.heap[a.block]? with
  | none => rw [hg] at hw; cases hw
  | some x =>
    cases x with
    | cells c e fz =>
      obtain ⟨c', q1, q2, q3⟩ := h2 a.block c e fz hw
      rw [q1]
    | _ =>
      have := h3 a.block _ hw (fun c e fz he => by cases he)
      rw [this]

theorem law_calls {P : Program} {F : Orc} (hF : SoundF P F) {f : FuncId} {args : List AV} {vals : Array Value} {w : World} (hl : args.length = vals.size)
    (hr : ∀ (i : Nat) x v, args[i]? = some x → vals[i]? = some v → RelA ⟨[], gh0 w, w⟩ x v) (h : F f args [] = some (.p (.b true), [])) :
    Calls P f vals w fun e w' => e = .returned (.bool true) ∧ Still w w' := by
  refine ((hF _ _ _ _ h).2 (gh0 w) w vals (inv0 w) hl hr).mono fun e w' ⟨v, g', he, _, ht, hrel⟩ => ?_
  cases hrel with
  | p _ _ hrel =>
    cases hrel with
    | b => 
      refine ⟨he, ?_⟩
      obtain ⟨k1, k2, k3, k4⟩ := ht.keep
      refine ⟨k1, fun r c e fz hr => ?_, k3, k4⟩
      obtain ⟨c', q1, q2, q3⟩ := k2 r c e fz hr
      exact ⟨c', q1, q2, fun o _ => q3 o (fun ⟨b, hb⟩ => wr1_nil _ _ _ _ _ hb)⟩

section
variable {H : Type} {enc : TypeId × Value → H} {P : Program}

theorem trodAll_stays (hl : laidOutB P = true) (hm : mapsRowed P = true) (hsz : ∀ {t e : TypeId}, t < P.types.size → P.underlying t = some (.slice e) → 0 < P.cellsOf e) {W W' : World} {sp : Nat → Bool} :
    ∀ {ts : List TypeId} {vs : List Value} {ds : List (DataW H)} {ps : List MemPlace}, (∀ t ∈ ts, t < P.types.size) → DataW.TrodAll enc P W 0 (fun _ => true) true ts vs ds ps →
      (∀ p ∈ ps, W.sameAt W' p) → (∀ p ∈ ps, sp p.block = true) → DataW.TrodAll enc P W' 0 sp true ts vs ds ps
  | [], [], [], _, _, h, _, _ => h
  | [], _ :: _, _, _, _, h, _, _ => h.elim
  | [], [], _ :: _, _, _, h, _, _ => h.elim
  | _ :: _, [], _, _, _, h, _, _ => h.elim
  | _ :: _, _ :: _, [], _, _, h, _, _ => h.elim
  | t :: ts, v :: vs, d :: ds, _, hT, ⟨p, q, ⟨n, h1⟩, h2, rfl⟩, hs, hp => by
    refine ⟨p, q, ⟨n, DataW.trod_stays (kids_rows hl hm) hsz (fun h => by cases h) (hT t (by simp)) h1 (fun x hx => hs x (by simp [hx])) (fun x hx => hp x (by simp [hx]))⟩, ?_, rfl⟩
    exact trodAll_stays hl hm hsz (fun x hx => hT x (by simp [hx])) h2 (fun x hx => hs x (by simp [hx])) (fun x hx => hp x (by simp [hx]))

/-- Every slice type has cells. -/
def slicesSized (P : Program) : Bool := (List.range P.types.size).all fun t => match P.underlying t with
  | some (.slice e) => decide (0 < P.cellsOf e)
  | _ => true

theorem slices_sized (h : slicesSized P = true) {t e : TypeId} (ht : t < P.types.size) (he : P.underlying t = some (.slice e)) : 0 < P.cellsOf e := by
  unfold slicesSized at h
  rw [List.all_eq_true] at h
  have := h t (by simpa using ht)
  rw [he] at this
  simpa using this

/-- A law's answer, and its arguments read again. -/
theorem law_post {fn : Func} {s : ChangeSpec} {tb : TypeId} (hl : laidOutB P = true) (hm : mapsRowed P = true) (hsz : slicesSized P = true) (hpar : ∀ t ∈ fn.params.toList, t < P.types.size)
    (hres : fn.resultTypes = #[tb]) (htb : P.underlying tb = some .bool) (hvars : s.vars = []) {apart fresh handsOn again : Bool} {W W' : World} {args : Array Value} {ds gs : List (DataW H)} {before : List MemPlace}
    (hfn : gs = [] → s.fn H (ds ++ gs) = { results := [.lit (.bool true)], args := ds })
    (hW : DataW.Whole enc P fn.params.toList s.vars apart W args.toList ds gs before) (hst : Still W W') : s.post enc P fn apart fresh handsOn again W args (.bool true) W' := by
  have hW0 := hW
  have hlt := hW.lt
  obtain ⟨p, q, h1, h2, rfl, hz, hn⟩ := hW
  rw [hvars] at h2
  obtain ⟨rfl, rfl⟩ := trodVars_none h2
  rw [List.append_nil] at hW0 hlt hz hn
  have hf := hfn rfl
  have hargs : ∀ sp : Nat → Bool, (∀ x ∈ p, sp x.block = true) → DataW.TrodAll enc P W' 0 sp true fn.params.toList args.toList ds p := fun sp hp =>
    trodAll_stays hl hm (fun ht he => slices_sized hsz ht he) hpar h1 (fun x hx => hst.same (hlt x hx)) hp
  have hr : ∀ (b : Nat) (sp : Nat → Bool) (hd : Bool), DataW.TrodAll enc P W' b sp hd fn.resultTypes.toList ((Value.bool true).resultList fn.resultTypes.size) [.lit (.bool true)] [] := by
    intro b sp hd
    rw [hres]
    exact trodAll_cons_mk (shut_bool htb _) trodAll_mk0
  refine ⟨ds, [], p, [], p, [], hW0, ?_, ?_, ?_, hst.kept _, fun _ => ⟨?_, ?_⟩⟩
  · rw [hf]; exact hr _ _ _
  · rw [hf]; exact hargs _ (fun x hx => by simpa using hlt x hx)
  · rw [hf, hvars]; rfl
  · exact ok_one hres rfl (okWide_bool_mk htb _)
  · refine ⟨_, [], [] ++ p, ⟨[] ++ p, [], trodAll_append (hargs _ (fun _ _ => rfl)) (hr _ _ _), by rw [hvars]; rfl, by simp, fun b off hp => ?_, fun ha => by simpa using hn ha⟩, fun x hx _ => by simpa using hx⟩
    have hp' : MemPlace.cell b off ∈ p := by simpa using hp
    rw [hst.frozen (a := ⟨b, off, none⟩) (hlt _ hp')]
    exact hz b off hp'


/-- What an argument is to the abstract machine. -/
def avOf (P : Program) (t : TypeId) (pvs : List PV) : AV := match P.underlying t with
  | some (.struct _) => .data pvs
  | some (.array _ _) => .data pvs
  | _ => match pvs with
    | [c] => .p c
    | _ => .unk

theorem arg_rel (hl : laidOutB P = true) (hm : mapsRowed P = true) {n : Nat} {t : TypeId} {w : World} {r : Reach} {base : Nat} {sp : Nat → Bool} {v : Value} {d : DataW H} {ps : List MemPlace} (hp : plainT P n t = true)
    (hv : Value.okWide P w r base t v) (h : DataW.Trod enc P w 0 sp true t v d ps) : ∃ pvs, pvTy P n t pvs ∧ RelA ⟨[], gh0 w, w⟩ (avOf P t pvs) v := by
  obtain ⟨fuel, h⟩ := h
  obtain ⟨pvs, q1, q2, q3⟩ := trod_pv hl hm n t _ _ fuel hp h
  refine ⟨pvs, q1, ?_⟩
  cases n with
  | zero => simp [plainT] at hp
  | succ n =>
    unfold plainT at hp
    unfold Value.okWide at hv
    unfold avOf
    have one : ∀ {c : PV}, pvs = [c] → (∀ cs, v ≠ .agg cs) → RelA ⟨[], gh0 w, w⟩ (.p c) v := by
      intro c hc hne
      subst hc
      refine .p _ _ (q3 0 c v rfl ?_)
      cases v <;> first | rfl | exact absurd rfl (hne _)
    unfold pvTy at q1
    split at hp
    · rename_i ht
      rw [ht] at q1 hv ⊢
      obtain ⟨b, rfl⟩ := q1
      exact one rfl (fun cs he => by subst he; simp [Cell.okWide, Cell.ok, ht] at hv)
    · rename_i k ht
      rw [ht] at q1 hv ⊢
      obtain ⟨z, rfl, _⟩ := q1
      exact one rfl (fun cs he => by subst he; simp [Cell.okWide, Cell.ok, ht] at hv)
    · rename_i ht
      rw [ht] at q1 hv ⊢
      obtain ⟨z, rfl, _⟩ := q1
      exact one rfl (fun cs he => by subst he; simp [Cell.okWide, Cell.ok, ht] at hv)
    · rename_i e ht
      rw [ht] at q1 hv ⊢
      obtain ⟨rows, rfl, _⟩ := q1
      exact one rfl (fun cs he => by subst he; simp [Cell.okWide, Cell.ok, ht] at hv)
    · rename_i fs ht
      rw [ht] at hv ⊢
      obtain ⟨cs, rfl, _⟩ := hv
      exact .data _ _ (by simpa [Value.cells] using q2) (fun i x v h1 h2 => q3 i x v h1 (by simpa [Value.cells] using h2))
    · rename_i m e ht
      rw [ht] at hv ⊢
      obtain ⟨cs, rfl, _⟩ := hv
      exact .data _ _ (by simpa [Value.cells] using q2) (fun i x v h1 h2 => q3 i x v h1 (by simpa [Value.cells] using h2))
    · cases hp

end
end Go.Am
end

