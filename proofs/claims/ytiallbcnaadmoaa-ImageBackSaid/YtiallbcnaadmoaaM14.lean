/-
  Parts of a proof.
-/
import Derived.Shelf.Strings.Repeat
import Derived.Shelf.Strings.Builder1
import Derived.Shelf.Lays
import Derived.Test.YtiallbcnaadmoaaProg
import Derived.Lib.Agree
import Derived.KernelRfl
import Derived.WalkKit
import Derived.BigCall
import Derived.Test.YtiallbcnaadmoaaM7
set_option linter.unusedSimpArgs false
set_option linter.unusedVariables false
section
namespace Go.Proofs
open Go.Shelf Go.RowKit
def Try.ρA : Ren where
 f := fun
  | 105 => 131
  | 212 => 188
  | 99 => 113
  | 165 => 189
  | 166 => 106
  | 170 => 190
  | 169 => 109
  | 263 => 221
  | 264 => 222
  | 206 => 177
  | 240 => 175
  | 241 => 223
  | 276 => 217
  | 277 => 245
  | 167 => 176
  | n => n
 t := fun
  | 9 => 9
  | 3 => 3
  | 4 => 4
  | 20 => 20
  | 0 => 0
  | 46 => 213
  | 109 => 218
  | 5 => 5
  | 72 => 140
  | 76 => 143
  | 51 => 159
  | 146 => 254
  | 53 => 211
  | 148 => 256
  | 70 => 138
  | 37 => 22
  | 75 => 142
  | 127 => 212
  | 164 => 250
  | 80 => 55
  | n => n
 g := fun n => n
theorem Try.laysRep : Lays.n105 Try.prog Try.ρA where
 mixed := by kernel_rfl
 f99 := by kernel_rfl
 f105 := by kernel_rfl
 f165 := by kernel_rfl
 f166 := by kernel_rfl
 f169 := by kernel_rfl
 f170 := by kernel_rfl
 f206 := by kernel_rfl
 f212 := by kernel_rfl
 f240 := by kernel_rfl
 f241 := by kernel_rfl
 f263 := by kernel_rfl
 f264 := by kernel_rfl
 f276 := by kernel_rfl
 f277 := by kernel_rfl
 t0 := Try.underlying0
 a0 := Try.isAgg0
 z0 := Try.sizeOf0
 v0 := Try.zeroValue0
 t3 := Try.underlying3
 a3 := Try.isAgg3
 z3 := Try.sizeOf3
 v3 := Try.zeroValue3
 t4 := Try.underlying4
 a4 := Try.isAgg4
 z4 := Try.sizeOf4
 v4 := Try.zeroValue4
 t5 := Try.underlying5
 a5 := Try.isAgg5
 z5 := Try.sizeOf5
 v5 := Try.zeroValue5
 t9 := Try.underlying9
 a9 := Try.isAgg9
 z9 := Try.sizeOf9
 v9 := Try.zeroValue9
 t20 := Try.underlying20
 a20 := Try.isAgg20
 z20 := Try.sizeOf20
 v20 := Try.zeroValue20
 t37 := Try.underlying22
 a37 := Try.isAgg22
 z37 := Try.sizeOf22
 v37 := Try.zeroValue22
 t46 := Try.underlying213
 a46 := Try.isAgg213
 z46 := Try.sizeOf213
 v46 := Try.zeroValue213
 t51 := Try.underlying159
 a51 := Try.isAgg159
 z51 := Try.sizeOf159
 v51 := Try.zeroValue159
 t53 := Try.underlying211
 a53 := Try.isAgg211
 z53 := Try.sizeOf211
 v53 := Try.zeroValue211
 t70 := Try.underlying138
 a70 := Try.isAgg138
 z70 := Try.sizeOf138
 v70 := Try.zeroValue138
 t72 := Try.underlying140
 a72 := Try.isAgg140
 z72 := Try.sizeOf140
 v72 := Try.zeroValue140
 t75 := Try.underlying142
 a75 := Try.isAgg142
 z75 := Try.sizeOf142
 v75 := Try.zeroValue142
 t76 := Try.underlying143
 a76 := Try.isAgg143
 z76 := Try.sizeOf143
 v76 := Try.zeroValue143
 t109 := Try.underlying218
 a109 := Try.isAgg218
 z109 := Try.sizeOf218
 v109 := Try.zeroValue218
 t127 := Try.underlying212
 a127 := Try.isAgg212
 z127 := Try.sizeOf212
 v127 := Try.zeroValue212
 t146 := Try.underlying254
 a146 := Try.isAgg254
 z146 := Try.sizeOf254
 v146 := Try.zeroValue254
 t148 := Try.underlying256
 a148 := Try.isAgg256
 z148 := Try.sizeOf256
 v148 := Try.zeroValue256
 t164 := Try.underlying250
 a164 := Try.isAgg250
 z164 := Try.sizeOf250
 v164 := Try.zeroValue250
theorem Try.laysWB : Lays.n167 Try.prog Try.ρA where
 mixed := by kernel_rfl
 f167 := by kernel_rfl
 f240 := by kernel_rfl
 f276 := by kernel_rfl
 t0 := Try.underlying0
 a0 := Try.isAgg0
 z0 := Try.sizeOf0
 v0 := Try.zeroValue0
 t4 := Try.underlying4
 a4 := Try.isAgg4
 z4 := Try.sizeOf4
 v4 := Try.zeroValue4
 t5 := Try.underlying5
 a5 := Try.isAgg5
 z5 := Try.sizeOf5
 v5 := Try.zeroValue5
 t9 := Try.underlying9
 a9 := Try.isAgg9
 z9 := Try.sizeOf9
 v9 := Try.zeroValue9
 t20 := Try.underlying20
 a20 := Try.isAgg20
 z20 := Try.sizeOf20
 v20 := Try.zeroValue20
 t37 := Try.underlying22
 a37 := Try.isAgg22
 z37 := Try.sizeOf22
 v37 := Try.zeroValue22
 t70 := Try.underlying138
 a70 := Try.isAgg138
 z70 := Try.sizeOf138
 v70 := Try.zeroValue138
 t72 := Try.underlying140
 a72 := Try.isAgg140
 z72 := Try.sizeOf140
 v72 := Try.zeroValue140
 t75 := Try.underlying142
 a75 := Try.isAgg142
 z75 := Try.sizeOf142
 v75 := Try.zeroValue142
 t164 := Try.underlying250
 a164 := Try.isAgg250
 z164 := Try.sizeOf250
 v164 := Try.zeroValue250
theorem Try.extraRep : Builder.Extra Try.prog Try.ρA where
 sizeBuilder := by kernel_rfl
 liesBuilder := by kernel_rfl
 t5 := Try.laysRep.t5
 a5 := Try.laysRep.a5
 z5 := Try.laysRep.z5
 v5 := Try.laysRep.v5
 infoByte := by kernel_rfl
 cellsByte := by kernel_rfl
 sizeByte := by kernel_rfl
 neB5 := by decide
theorem Try.WriteByte (B b : Nat) (bs : List Value) (c : Int) (w : World) (h : Lib.IsBuilder 140 5 B b bs w) (hlen : bs.length + 1 ≤ 140737488355328) (hBw : B ≤ w.heap.size) :
  Calls Try.prog 176 #[.pointer (some ⟨b, 0, none⟩), .int .u8 c] w fun e w' => e = .returned .nilIface ∧ (Lib.BuilderAt 140 5 B b (.pointer (some ⟨b, 0, none⟩)) (bs ++ [.int .u8 c]) w' ∧ Below B w w') :=
 Any.Builder_WriteByte Try.laysWB Try.extraRep B b bs c w h hlen hBw
theorem Try.WriteString (B b : Nat) (bs : List Value) (s : ByteArray) (w : World) (h : Lib.IsBuilder 140 5 B b bs w) (hlen : bs.length + s.size ≤ 140737488355328) (hBw : B ≤ w.heap.size) :
  Calls Try.prog 106 #[.pointer (some ⟨b, 0, none⟩), .string s] w fun e w' => e = .returned (.tuple #[.int .i64 s.size, .nilIface]) ∧ (Lib.BuilderAt 140 5 B b (.pointer (some ⟨b, 0, none⟩)) (bs ++ Lib.strCells s) w' ∧ Below B w w') :=
 Any.Builder_WriteString { Try.laysRep with } Try.extraRep B b bs s w h hlen hBw
theorem Try.String (B b : Nat) (l : List UInt8) (w : World) (h : Lib.IsBuilder 140 5 B b (Lib.byteCells l) w) (hBw : B ≤ w.heap.size) :
  Calls Try.prog 109 #[.pointer (some ⟨b, 0, none⟩)] w fun e w' => e = .returned (.string ⟨l.toArray⟩) ∧ Below B w w' :=
 Any.Builder_String_any { Try.laysRep with } Try.extraRep B b l w h hBw
theorem JjI (l : List UInt8) (n : Int) (k : Nat) : Lib.byteCells (l ++ Am.Jj n k) ++ [.int .u8 (Am.J5U n k)] = Lib.byteCells (l ++ Am.Jj n (k + 1)) := by
 rw [Am.Jkn, ← List.append_assoc, Lib.byteCells_append (l ++ Am.Jj n k)]
 congr 1
 show [Value.int .u8 _] = [Value.int .u8 ((UInt8.ofNat (Am.J5U n k).toNat).toNat : Int)]
 rw [Am.Jjy]
set_option maxHeartbeats 6400000 in
set_option maxRecDepth 100000 in
theorem Try.put (s : ByteArray) (n : Int) (k : Nat) (hk : 1 ≤ k) (hk8 : k ≤ 8) (hs : s.size + 8 ≤ 140737488355328) (w : World) :
  Calls Try.prog 108 #[.string s, .int .i64 n, .int .i64 k] w fun e w' => e = .returned (.string ⟨(s.data.toList ++ Am.Jj n k).toArray⟩) ∧ Below w.heap.size w w' := by
 have hLn : s.data.toList.length = s.size := (Lib.size_eq s).symm
 have h0 : Lib.IsBuilder 140 5 w.heap.size w.heap.size [] (w.alloc (.cells #[.pointer none, .slice none 0 0] 140)) := Lib.fresh_isBuilder 140 5 w
 have b0 : Below w.heap.size w (w.alloc (.cells #[.pointer none, .slice none 0 0] 140)) := (Below.refl _ w).alloc (Nat.le_refl _) _
 go_enter Try.func108, Try.ntmps108
 go_wp2_with (go_at_call 106; refine (Try.WriteString w.heap.size w.heap.size [] s _ h0 (by simp; omega) b0.size).mono ?_)
 rintro e W1 ⟨rfl, h1, b1⟩
 have h1' : Lib.IsBuilder 140 5 w.heap.size w.heap.size (Lib.byteCells (s.data.toList ++ Am.Jj n 0)) W1 := by
  rw [List.nil_append, Lib.strCells_eq] at h1
  have e0 : Am.Jj n 0 = [] := rfl
  rw [e0, List.append_nil]
  exact Or.inr h1
 have hb1 := b0.trans b1
 clear h1 b1 h0 b0
 go_wp2
 go_loopw [19] (fun i wr => ∃ j : Nat, j ≤ k ∧ i = .int .i64 j ∧ Lib.IsBuilder 140 5 w.heap.size w.heap.size (Lib.byteCells (s.data.toList ++ Am.Jj n j)) wr ∧ Below w.heap.size w wr)
  (fun i _ => k - (intOf i).toNat)
 case atStart => exact ⟨0, Nat.zero_le _, rfl, h1', hb1⟩
 case round =>
  obtain ⟨j, hj, rfl, hI, hb⟩ := hrel
  by_cases hjk : j < k
  ·go_wp2_with (go_at_call 176; refine (Try.WriteByte w.heap.size w.heap.size _ _ _ hI (by rw [Lib.byteCells_length, List.length_append, Am.Jp]; omega) hb.size).mono ?_; rintro e W2 ⟨rfl, h2, b2⟩)
   have e1 : Am.J5U n j = IntKind.u64.wrap n / 2 ^ (8 * j) % 256 := by
    show ((IntKind.wrap .u64 n).fdiv (2 ^ (8 * j))) % 256 = _
    rw [Int.fdiv_eq_ediv_of_nonneg _ (Int.le_of_lt (Int.pow_pos (by decide)))]
   rw [← e1, JjI] at h2
   exact ⟨⟨j + 1, by omega, by simp, Or.inr h2, hb.trans b2⟩, by simp [intOf]; omega⟩
  ·obtain rfl : j = k := by omega
   go_wp2_with (go_at_call 109; refine (Try.String w.heap.size w.heap.size _ _ hI hb.size).mono ?_; rintro e W2 ⟨rfl, b2⟩)
   go_wp2
   go_ret
   exact ⟨rfl, hb.trans b2⟩
theorem Try.put_out (s : ByteArray) (n k : Int) (hk : k < 1 ∨ 8 < k) (w : World) :
  Calls Try.prog 108 #[.string s, .int .i64 n, .int .i64 k] w fun e w' => e = .returned (.string s) ∧ Below w.heap.size w w' := by
 go_enter Try.func108, Try.ntmps108
 go_wp2
 all_goals (go_ret; exact ⟨rfl, Below.refl _ _⟩)
theorem Ja5 (l : List UInt8) : ∀ c, Lib.repeatL l c = (List.replicate c l).flatten
 | 0 => rfl
 | c + 1 => by rw [Lib.repeatL, Ja5 l c, List.replicate_succ, List.flatten_cons]
theorem Jmk (l : List UInt8) : (⟨l.toArray⟩ : ByteArray).data.toList = l := rfl
theorem JgB (args : List Am.AV) (blks : List Am.Blk) (r : Am.Res) (h : Am.JmC args blks = some r) : Am.J74 Try.prog 131 args blks r := by
 unfold Am.JmC at h
 split at h
 ·rename_i bl l n
  obtain ⟨x, hx, rfl⟩ := Option.map_eq_some_iff.1 h
  unfold Am.Jka at hx
  split at hx
  ·rename_i hc
   obtain ⟨h0, h1, h2⟩ := hc
   injection hx with hx
   subst hx
   refine Am.JjP (xs := [.s l, .i .i64 n]) (vs := [.string ⟨l.toArray⟩, .int .i64 n]) (v := .string ⟨((List.replicate n.toNat l).flatten).toArray⟩) ⟨_, Try.func131, by decide, by decide⟩ rfl rfl fun w => ?_
   have h3 := Any.strings_Repeat Try.laysRep Try.extraRep ⟨l.toArray⟩ n.toNat w (by omega) (by rw [Lib.size_eq]; exact h2)
   rw [Jmk, Ja5, show ((n.toNat : Nat) : Int) = n by omega] at h3
   exact h3
  ·cases hx
 ·cases h
theorem JnB (args : List Am.AV) (blks : List Am.Blk) (r : Am.Res) (h : Am.Jnw args blks = some r) : Am.J74 Try.prog 108 args blks r := by
 unfold Am.Jnw at h
 split at h
 ·rename_i bl l n k
  obtain ⟨x, hx, rfl⟩ := Option.map_eq_some_iff.1 h
  unfold Am.Jfr at hx
  split at hx
  ·rename_i hc
   injection hx with hx
   subst hx
   exact Am.JjP (xs := [.s l, .i .i64 n, .i .i64 k]) (vs := [.string ⟨l.toArray⟩, .int .i64 n, .int .i64 k]) (v := .string ⟨l.toArray⟩) ⟨_, Try.func108, by decide, by decide⟩ rfl rfl fun w => Try.put_out _ n k hc w
  ·rename_i hc
   split at hx
   ·rename_i h2
    injection hx with hx
    subst hx
    refine Am.JjP (xs := [.s l, .i .i64 n, .i .i64 k]) (vs := [.string ⟨l.toArray⟩, .int .i64 n, .int .i64 k]) (v := .string ⟨(l ++ Am.Jj n k.toNat).toArray⟩) ⟨_, Try.func108, by decide, by decide⟩ rfl rfl fun w => ?_
    have h3 := Try.put ⟨l.toArray⟩ n k.toNat (by omega) (by omega) (by rw [Lib.size_eq]; exact h2) w
    rw [Jmk, show ((k.toNat : Nat) : Int) = k by omega] at h3
    exact h3
   ·cases hx
 ·cases h
end Go.Proofs
end
