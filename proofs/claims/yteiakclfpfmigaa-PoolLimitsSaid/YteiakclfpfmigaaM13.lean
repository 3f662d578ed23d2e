/-
  Parts of a proof: YteiakclfpfmigaaPrm.
-/
import Derived.Shelf.Strings.Repeat
import Derived.Shelf.Strings.Builder1
import Derived.Shelf.Lays
import Derived.Test.YteiakclfpfmigaaProg
import Derived.Lib.Agree
import Derived.KernelRfl
import Derived.WalkKit
import Derived.BigCall
import Derived.Test.YteiakclfpfmigaaM7
import Derived.Test.YteiakclfpfmigaaM12
set_option linter.unusedSimpArgs false
set_option linter.unusedVariables false
section
namespace Go.Proofs
open Go.Shelf Go.RowKit
def Try.ρA : Ren where
  f := fun
    | 105 => 93
    | 212 => 120
    | 99 => 121
    | 165 => 122
    | 166 => 116
    | 170 => 123
    | 169 => 118
    | 263 => 136
    | 264 => 137
    | 206 => 138
    | 240 => 135
    | 241 => 139
    | 276 => 142
    | 277 => 143
    | 167 => 117
    | n => n
  t := fun
    | 9 => 9
    | 3 => 3
    | 4 => 4
    | 20 => 20
    | 0 => 0
    | 46 => 149
    | 109 => 170
    | 5 => 5
    | 72 => 162
    | 76 => 165
    | 51 => 136
    | 146 => 180
    | 53 => 168
    | 148 => 182
    | 70 => 160
    | 37 => 22
    | 75 => 164
    | 127 => 179
    | 164 => 184
    | 80 => 76
    | n => n
  g := fun n => n
theorem Try.laysRep : Lays.n105 Try.prog Try.ρA where
  mixed := by kernel_rfl
  f99 := by kernel_rfl
  f105 := by kernel_rfl
  f165 := by kernel_rfl
  f166 := by kernel_rfl
  f169 := by kernel_rfl
  f170 := by kernel_rfl
  f206 := by kernel_rfl
  f212 := by kernel_rfl
  f240 := by kernel_rfl
  f241 := by kernel_rfl
  f263 := by kernel_rfl
  f264 := by kernel_rfl
  f276 := by kernel_rfl
  f277 := by kernel_rfl
  t0 := Try.underlying0
  a0 := Try.isAgg0
  z0 := Try.sizeOf0
  v0 := Try.zeroValue0
  t3 := Try.underlying3
  a3 := Try.isAgg3
  z3 := Try.sizeOf3
  v3 := Try.zeroValue3
  t4 := Try.underlying4
  a4 := Try.isAgg4
  z4 := Try.sizeOf4
  v4 := Try.zeroValue4
  t5 := Try.underlying5
  a5 := Try.isAgg5
  z5 := Try.sizeOf5
  v5 := Try.zeroValue5
  t9 := Try.underlying9
  a9 := Try.isAgg9
  z9 := Try.sizeOf9
  v9 := Try.zeroValue9
  t20 := Try.underlying20
  a20 := Try.isAgg20
  z20 := Try.sizeOf20
  v20 := Try.zeroValue20
  t37 := Try.underlying22
  a37 := Try.isAgg22
  z37 := Try.sizeOf22
  v37 := Try.zeroValue22
  t46 := Try.underlying149
  a46 := Try.isAgg149
  z46 := Try.sizeOf149
  v46 := Try.zeroValue149
  t51 := Try.underlying136
  a51 := Try.isAgg136
  z51 := Try.sizeOf136
  v51 := Try.zeroValue136
  t53 := Try.underlying168
  a53 := Try.isAgg168
  z53 := Try.sizeOf168
  v53 := Try.zeroValue168
  t70 := Try.underlying160
  a70 := Try.isAgg160
  z70 := Try.sizeOf160
  v70 := Try.zeroValue160
  t72 := Try.underlying162
  a72 := Try.isAgg162
  z72 := Try.sizeOf162
  v72 := Try.zeroValue162
  t75 := Try.underlying164
  a75 := Try.isAgg164
  z75 := Try.sizeOf164
  v75 := Try.zeroValue164
  t76 := Try.underlying165
  a76 := Try.isAgg165
  z76 := Try.sizeOf165
  v76 := Try.zeroValue165
  t109 := Try.underlying170
  a109 := Try.isAgg170
  z109 := Try.sizeOf170
  v109 := Try.zeroValue170
  t127 := Try.underlying179
  a127 := Try.isAgg179
  z127 := Try.sizeOf179
  v127 := Try.zeroValue179
  t146 := Try.underlying180
  a146 := Try.isAgg180
  z146 := Try.sizeOf180
  v146 := Try.zeroValue180
  t148 := Try.underlying182
  a148 := Try.isAgg182
  z148 := Try.sizeOf182
  v148 := Try.zeroValue182
  t164 := Try.underlying184
  a164 := Try.isAgg184
  z164 := Try.sizeOf184
  v164 := Try.zeroValue184
theorem Try.laysWB : Lays.n167 Try.prog Try.ρA where
  mixed := by kernel_rfl
  f167 := by kernel_rfl
  f240 := by kernel_rfl
  f276 := by kernel_rfl
  t0 := Try.underlying0
  a0 := Try.isAgg0
  z0 := Try.sizeOf0
  v0 := Try.zeroValue0
  t4 := Try.underlying4
  a4 := Try.isAgg4
  z4 := Try.sizeOf4
  v4 := Try.zeroValue4
  t5 := Try.underlying5
  a5 := Try.isAgg5
  z5 := Try.sizeOf5
  v5 := Try.zeroValue5
  t9 := Try.underlying9
  a9 := Try.isAgg9
  z9 := Try.sizeOf9
  v9 := Try.zeroValue9
  t20 := Try.underlying20
  a20 := Try.isAgg20
  z20 := Try.sizeOf20
  v20 := Try.zeroValue20
  t37 := Try.underlying22
  a37 := Try.isAgg22
  z37 := Try.sizeOf22
  v37 := Try.zeroValue22
  t70 := Try.underlying160
  a70 := Try.isAgg160
  z70 := Try.sizeOf160
  v70 := Try.zeroValue160
  t72 := Try.underlying162
  a72 := Try.isAgg162
  z72 := Try.sizeOf162
  v72 := Try.zeroValue162
  t75 := Try.underlying164
  a75 := Try.isAgg164
  z75 := Try.sizeOf164
  v75 := Try.zeroValue164
  t164 := Try.underlying184
  a164 := Try.isAgg184
  z164 := Try.sizeOf184
  v164 := Try.zeroValue184
theorem Try.extraRep : Builder.Extra Try.prog Try.ρA where
  sizeBuilder := by kernel_rfl
  liesBuilder := by kernel_rfl
  t5 := Try.laysRep.t5
  a5 := Try.laysRep.a5
  z5 := Try.laysRep.z5
  v5 := Try.laysRep.v5
  infoByte := by kernel_rfl
  cellsByte := by kernel_rfl
  sizeByte := by kernel_rfl
  neB5 := by decide
theorem Try.WriteByte (B b : Nat) (bs : List Value) (c : Int) (w : World) (h : Lib.IsBuilder 162 5 B b bs w) (hlen : bs.length + 1 ≤ 140737488355328) (hBw : B ≤ w.heap.size) :
    Calls Try.prog 117 #[.pointer (some ⟨b, 0, none⟩), .int .u8 c] w fun e w' => e = .returned .nilIface ∧ (Lib.BuilderAt 162 5 B b (.pointer (some ⟨b, 0, none⟩)) (bs ++ [.int .u8 c]) w' ∧ Below B w w') :=
  Any.Builder_WriteByte Try.laysWB Try.extraRep B b bs c w h hlen hBw
theorem Try.WriteString (B b : Nat) (bs : List Value) (s : ByteArray) (w : World) (h : Lib.IsBuilder 162 5 B b bs w) (hlen : bs.length + s.size ≤ 140737488355328) (hBw : B ≤ w.heap.size) :
    Calls Try.prog 116 #[.pointer (some ⟨b, 0, none⟩), .string s] w fun e w' => e = .returned (.tuple #[.int .i64 s.size, .nilIface]) ∧ (Lib.BuilderAt 162 5 B b (.pointer (some ⟨b, 0, none⟩)) (bs ++ Lib.strCells s) w' ∧ Below B w w') :=
  Any.Builder_WriteString { Try.laysRep with } Try.extraRep B b bs s w h hlen hBw
theorem Try.String (B b : Nat) (l : List UInt8) (w : World) (h : Lib.IsBuilder 162 5 B b (Lib.byteCells l) w) (hBw : B ≤ w.heap.size) :
    Calls Try.prog 118 #[.pointer (some ⟨b, 0, none⟩)] w fun e w' => e = .returned (.string ⟨l.toArray⟩) ∧ Below B w w' :=
  Any.Builder_String_any { Try.laysRep with } Try.extraRep B b l w h hBw
theorem JbK (l : List UInt8) (n : Int) (k : Nat) : Lib.byteCells (l ++ Am.J17 n k) ++ [.int .u8 (Am.J53 n k)] = Lib.byteCells (l ++ Am.J17 n (k + 1)) := by
  rw [Am.Jgx, ← List.append_assoc, Lib.byteCells_append (l ++ Am.J17 n k)]
  congr 1
  show [Value.int .u8 _] = [Value.int .u8 ((UInt8.ofNat (Am.J53 n k).toNat).toNat : Int)]
  rw [Am.Jfj]
set_option maxHeartbeats 6400000 in
set_option maxRecDepth 100000 in
theorem Try.put (s : ByteArray) (n : Int) (k : Nat) (hk : 1 ≤ k) (hk8 : k ≤ 8) (hs : s.size + 8 ≤ 140737488355328) (w : World) :
    Calls Try.prog 82 #[.string s, .int .i64 n, .int .i64 k] w fun e w' => e = .returned (.string ⟨(s.data.toList ++ Am.J17 n k).toArray⟩) ∧ Below w.heap.size w w' := by
  have hLn : s.data.toList.length = s.size := (Lib.size_eq s).symm
  have h0 : Lib.IsBuilder 162 5 w.heap.size w.heap.size [] (w.alloc (.cells #[.pointer none, .slice none 0 0] 162)) := Lib.fresh_isBuilder 162 5 w
  have b0 : Below w.heap.size w (w.alloc (.cells #[.pointer none, .slice none 0 0] 162)) := (Below.refl _ w).alloc (Nat.le_refl _) _
  go_enter Try.func82, Try.ntmps82
  go_wp2_with (go_at_call 116; refine (Try.WriteString w.heap.size w.heap.size [] s _ h0 (by simp; omega) b0.size).mono ?_)
  rintro e W1 ⟨rfl, h1, b1⟩
  have h1' : Lib.IsBuilder 162 5 w.heap.size w.heap.size (Lib.byteCells (s.data.toList ++ Am.J17 n 0)) W1 := by
    rw [List.nil_append, Lib.strCells_eq] at h1
    have e0 : Am.J17 n 0 = [] := rfl
    rw [e0, List.append_nil]
    exact Or.inr h1
  have hb1 := b0.trans b1
  clear h1 b1 h0 b0
  go_wp2
  go_loopw [19] (fun i wr => ∃ j : Nat, j ≤ k ∧ i = .int .i64 j ∧ Lib.IsBuilder 162 5 w.heap.size w.heap.size (Lib.byteCells (s.data.toList ++ Am.J17 n j)) wr ∧ Below w.heap.size w wr)
    (fun i _ => k - (intOf i).toNat)
  case atStart => exact ⟨0, Nat.zero_le _, rfl, h1', hb1⟩
  case round =>
    obtain ⟨j, hj, rfl, hI, hb⟩ := hrel
    by_cases hjk : j < k
    · go_wp2_with (go_at_call 117; refine (Try.WriteByte w.heap.size w.heap.size _ _ _ hI (by rw [Lib.byteCells_length, List.length_append, Am.J2L]; omega) hb.size).mono ?_; rintro e W2 ⟨rfl, h2, b2⟩)
      have e1 : Am.J53 n j = IntKind.u64.wrap n / 2 ^ (8 * j) % 256 := by
        show ((IntKind.wrap .u64 n).fdiv (2 ^ (8 * j))) % 256 = _
        rw [Int.fdiv_eq_ediv_of_nonneg _ (Int.le_of_lt (Int.pow_pos (by decide)))]
      rw [← e1, JbK] at h2
      exact ⟨⟨j + 1, by omega, by simp, Or.inr h2, hb.trans b2⟩, by simp [intOf]; omega⟩
    · obtain rfl : j = k := by omega
      go_wp2_with (go_at_call 118; refine (Try.String w.heap.size w.heap.size _ _ hI hb.size).mono ?_; rintro e W2 ⟨rfl, b2⟩)
      go_wp2
      go_ret
      exact ⟨rfl, hb.trans b2⟩
theorem Try.put_out (s : ByteArray) (n k : Int) (hk : k < 1 ∨ 8 < k) (w : World) :
    Calls Try.prog 82 #[.string s, .int .i64 n, .int .i64 k] w fun e w' => e = .returned (.string s) ∧ Below w.heap.size w w' := by
  go_enter Try.func82, Try.ntmps82
  go_wp2
  all_goals (go_ret; exact ⟨rfl, Below.refl _ _⟩)
theorem J5p (l : List UInt8) : ∀ c, Lib.repeatL l c = (List.replicate c l).flatten
  | 0 => rfl
  | c + 1 => by rw [Lib.repeatL, J5p l c, List.replicate_succ, List.flatten_cons]
theorem Jdm (l : List UInt8) : (⟨l.toArray⟩ : ByteArray).data.toList = l := rfl
theorem J9G (args : List Am.AV) (blks : List Am.Blk) (r : Am.Res) (h : Am.JdI args blks = some r) : Am.J47 Try.prog 93 args blks r := by
  unfold Am.JdI at h
  split at h
  · rename_i bl l n
    obtain ⟨x, hx, rfl⟩ := Option.map_eq_some_iff.1 h
    unfold Am.JbR at hx
    split at hx
    · rename_i hc
      obtain ⟨h0, h1, h2⟩ := hc
      injection hx with hx
      subst hx
      refine Am.JbL (xs := [.s l, .i .i64 n]) (vs := [.string ⟨l.toArray⟩, .int .i64 n]) (v := .string ⟨((List.replicate n.toNat l).flatten).toArray⟩) ⟨_, Try.func93, by decide, by decide⟩ rfl rfl fun w => ?_
      have h3 := Any.strings_Repeat Try.laysRep Try.extraRep ⟨l.toArray⟩ n.toNat w (by omega) (by rw [Lib.size_eq]; exact h2)
      rw [Jdm, J5p, show ((n.toNat : Nat) : Int) = n by omega] at h3
      exact h3
    · cases hx
  · cases h
theorem JdT (args : List Am.AV) (blks : List Am.Blk) (r : Am.Res) (h : Am.Jdv args blks = some r) : Am.J47 Try.prog 82 args blks r := by
  unfold Am.Jdv at h
  split at h
  · rename_i bl l n k
    obtain ⟨x, hx, rfl⟩ := Option.map_eq_some_iff.1 h
    unfold Am.Jbv at hx
    split at hx
    · rename_i hc
      injection hx with hx
      subst hx
      exact Am.JbL (xs := [.s l, .i .i64 n, .i .i64 k]) (vs := [.string ⟨l.toArray⟩, .int .i64 n, .int .i64 k]) (v := .string ⟨l.toArray⟩) ⟨_, Try.func82, by decide, by decide⟩ rfl rfl fun w => Try.put_out _ n k hc w
    · rename_i hc
      split at hx
      · rename_i h2
        injection hx with hx
        subst hx
        refine Am.JbL (xs := [.s l, .i .i64 n, .i .i64 k]) (vs := [.string ⟨l.toArray⟩, .int .i64 n, .int .i64 k]) (v := .string ⟨(l ++ Am.J17 n k.toNat).toArray⟩) ⟨_, Try.func82, by decide, by decide⟩ rfl rfl fun w => ?_
        have h3 := Try.put ⟨l.toArray⟩ n k.toNat (by omega) (by omega) (by rw [Lib.size_eq]; exact h2) w
        rw [Jdm, show ((k.toNat : Nat) : Int) = k by omega] at h3
        exact h3
      · cases hx
  · cases h
end Go.Proofs
end
