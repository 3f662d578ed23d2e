/-
  Parts of a proof: YteiakclfpfmigaaKS4, YteiakclfpfmigaaKS5, YteiakclfpfmigaaKSz, YteiakclfpfmigaaPlain, YteiakclfpfmigaaPlain2, YteiakclfpfmigaaCrc.
-/
import Derived.Test.YteiakclfpfmigaaM8
set_option linter.unusedSimpArgs false
set_option linter.unusedVariables false
section
namespace Go.Am
set_option maxRecDepth 8000
set_option maxHeartbeats 4000000
set_option linter.unusedSimpArgs false
set_option linter.unusedVariables false
noncomputable section
variable (p : FuncId → Option (List AV → List Blk → Option Res))
def Jdr  (r : Bool) : Option Res := some (.p (.b r), [])
def J2H (x0 : Jk) : Option (Bool) :=
  Option.bind (J58 x0.Page) fun r1 =>
  if r1 then
    if (decide (x0.Slot ≥ 0)) then
      if (decide (x0.Slot < 16)) then
        Option.bind (J1q x0.Before) fun r7 =>
        if r7 then
          Option.bind (J1q x0.After) fun r11 =>
          some r11
        else
          some false
      else
        some false
    else
      some false
  else
    some false
theorem JfP {x0 : Jk} {o : Bool} (h : J2H x0 = some o) :
    rk (J2 p) J6n 0 [] (X (J2 p) J1s ⟨[(0, .data (Jf x0))], []⟩) = Jdr o := by
  unfold J2H at h
  obtain ⟨r1, h2, h⟩ := bi h
  have f3 := JiY p h2
  try simp only [Nf] at f3
  try simp only [↓Da, Ua, J1s, Ja, J8, *, ↓reduceIte, Nat.reduceEqDiff, Nat.reduceAdd, Nat.reduceLT, Nat.reduceMul]
  rcases Jb h with ⟨h4, h⟩ | ⟨h4, h⟩
  · try simp only [↓Da, Ua, J1s, Ja, J8, *, ↓reduceIte, Nat.reduceEqDiff, Nat.reduceAdd, Nat.reduceLT, Nat.reduceMul]
    rcases Jb h with ⟨h5, h⟩ | ⟨h5, h⟩
    · try simp only [↓Da, Ua, J1s, Ja, J8, *, ↓reduceIte, Nat.reduceEqDiff, Nat.reduceAdd, Nat.reduceLT, Nat.reduceMul]
      rcases Jb h with ⟨h6, h⟩ | ⟨h6, h⟩
      · obtain ⟨r7, h8, h⟩ := bi h
        have f9 := Jaz p h8
        try simp only [Nf] at f9
        try simp only [↓Da, Ua, J1s, Ja, J8, *, ↓reduceIte, Nat.reduceEqDiff, Nat.reduceAdd, Nat.reduceLT, Nat.reduceMul]
        rcases Jb h with ⟨h10, h⟩ | ⟨h10, h⟩
        · obtain ⟨r11, h12, h⟩ := bi h
          have f13 := Jaz p h12
          try simp only [Nf] at f13
          obtain rfl := sj h
          try simp only [↓Da, Ua, J1s, Ja, J8, J7C, *, ↓reduceIte, Nat.reduceEqDiff, Nat.reduceAdd, Nat.reduceLT, Nat.reduceMul]
          rfl
        · obtain rfl := sj h
          try simp only [↓Da, Ua, J1s, Ja, J8, J7C, *, ↓reduceIte, Nat.reduceEqDiff, Nat.reduceAdd, Nat.reduceLT, Nat.reduceMul]
          rfl
      · obtain rfl := sj h
        try simp only [↓Da, Ua, J1s, Ja, J8, J7C, *, ↓reduceIte, Nat.reduceEqDiff, Nat.reduceAdd, Nat.reduceLT, Nat.reduceMul]
        rfl
    · obtain rfl := sj h
      try simp only [↓Da, Ua, J1s, Ja, J8, J7C, *, ↓reduceIte, Nat.reduceEqDiff, Nat.reduceAdd, Nat.reduceLT, Nat.reduceMul]
      rfl
  · obtain rfl := sj h
    try simp only [↓Da, Ua, J1s, Ja, J8, J7C, *, ↓reduceIte, Nat.reduceEqDiff, Nat.reduceAdd, Nat.reduceLT, Nat.reduceMul]
    rfl
theorem Jjx {x0 : Jk} {o : Bool} (h : J2H x0 = some o) : AF (J2 p) J0C [.data (Jf x0)] [] = Jdr o :=
  (J0s (J2 p) (Jjk p) rfl).trans (JfP p h)
theorem Jd8 {x0 : Jk} {o : Bool} (h : J2H x0 = some o) : ∀ ws new st, (Jo (AF (J2 p)) J0C ([.data (Jf x0)], ws) 0 new).run st = some ⟨.p (.b o), ws⟩ := JN rfl (Jjx p h) rfl
def J5C  (r : J3 × T_pagemenddraw_Codes) : Option Res := some (.data (J4 r.1), [.box (List.map AV.p (J0 r.2))])
def J3s (x12 : Int) (x51 : Bool) (b0 : T_pagemenddraw_Codes) (b1 : J3) (b2 : J3) : Option (J3 × T_pagemenddraw_Codes) :=
  if x51 then
    Option.bind (J1Y b0) fun r2 =>
    some ((⟨b2.LSN, b2.Kind, b2.Tx, b2.PrevTx, b2.PrevPage, b2.Ref, b2.Change, r2.1⟩ : J3), r2.2)
  else
    if ((x12 : Int) == 7) then
      Option.bind (Js b0 4) fun r6 =>
      Option.bind (Js r6.2 10) fun r9 =>
      some ((⟨b2.LSN, b2.Kind, b2.Tx, b2.PrevTx, b2.PrevPage, r9.1, (⟨r6.1, b2.Change.Slot, b2.Change.Before, b2.Change.After⟩ : Jk), b2.Blob⟩ : J3), r9.2)
    else
      some (b2, b0)
theorem J9J {x12 : Int} {x51 : Bool} {b0 : T_pagemenddraw_Codes} {b1 : J3} {b2 : J3} {o : J3 × T_pagemenddraw_Codes} (h : J3s x12 x51 b0 b1 b2 = some o) :
    rk (J2 p) J1J 1 [.bl 0, .sq (.seq (.reg false [] [⟨.load true 13 (.t 3), some 66, none⟩,
    ⟨.store 13 (.t 2) (.t 66), none, none⟩])
  (.ret))] (X (J2 p) J3o ⟨[(0, .ptr 0 0), (2, .ptr 1 0), (3, .ptr 2 0), (12, .p (.i .i64 x12)), (51, .p (.b x51))], [.box (List.map AV.p (J0 b0)), .box (List.map AV.p (J4 b1)), .box (List.map AV.p (J4 b2))]⟩) = J5C o := by
  unfold J3s at h
  rcases Jb h with ⟨h1, h⟩ | ⟨h1, h⟩
  · obtain ⟨r2, h3, h⟩ := bi h
    have f4 : ∀ ws new s, JB ws s [0] [List.map AV.p (J0 b0)] → (Jo (AF (J2 p)) J2V ([.ptr 0 0], ws) 0 new).run s = some ⟨.p (.s r2.1), ws ++ [(0, .box (List.map AV.p (J0 r2.2)))]⟩ := Jw (args' := [.ptr 0 0]) (bs := [0]) (css := [List.map AV.p (J0 b0)]) (css' := [List.map AV.p (J0 r2.2)]) rfl rfl rfl (by simp [Ji, J6]) (JaX p h3) rfl rfl (by simp [Ji, J6])
    try simp only [Nf] at f4
    obtain rfl := sj h
    try simp only [↓Da, Ua, J3o, Ja, J8, Jh, Jd, J4i, *, ↓reduceIte, Nat.reduceEqDiff, Nat.reduceAdd, Nat.reduceLT, Nat.reduceMul]
    rfl
  · try simp only [↓Da, Ua, J3o, Ja, J8, Jh, Jd, *, ↓reduceIte, Nat.reduceEqDiff, Nat.reduceAdd, Nat.reduceLT, Nat.reduceMul]
    rcases Jb h with ⟨h5, h⟩ | ⟨h5, h⟩
    · have h5n : ((x12 : Int) != 7) = false := by rw [bne, h5]; rfl
      obtain ⟨r6, h7, h⟩ := bi h
      have f8 : ∀ ws new s, JB ws s [0] [List.map AV.p (J0 b0)] → (Jo (AF (J2 p)) J9 ([.ptr 0 0, .p (.i .i64 4)], ws) 0 new).run s = some ⟨.p (.i .i64 r6.1), ws ++ [(0, .box (List.map AV.p (J0 r6.2)))]⟩ := Jw (args' := [.ptr 0 0, .p (.i .i64 4)]) (bs := [0]) (css := [List.map AV.p (J0 b0)]) (css' := [List.map AV.p (J0 r6.2)]) rfl rfl rfl (by simp [Ji, J6]) (Ju p h7) rfl rfl (by simp [Ji, J6])
      try simp only [Nf] at f8
      obtain ⟨r9, h10, h⟩ := bi h
      have f11 : ∀ ws new s, JB ws s [0] [List.map AV.p (J0 r6.2)] → (Jo (AF (J2 p)) J9 ([.ptr 0 0, .p (.i .i64 10)], ws) 0 new).run s = some ⟨.p (.i .i64 r9.1), ws ++ [(0, .box (List.map AV.p (J0 r9.2)))]⟩ := Jw (args' := [.ptr 0 0, .p (.i .i64 10)]) (bs := [0]) (css := [List.map AV.p (J0 r6.2)]) (css' := [List.map AV.p (J0 r9.2)]) rfl rfl rfl (by simp [Ji, J6]) (Ju p h10) rfl rfl (by simp [Ji, J6])
      try simp only [Nf] at f11
      have f12 : spl (J4 b2) 6 ((r_i .i64) r6.1) = some (J4 (⟨b2.LSN, b2.Kind, b2.Tx, b2.PrevTx, b2.PrevPage, b2.Ref, (⟨r6.1, b2.Change.Slot, b2.Change.Before, b2.Change.After⟩ : Jk), b2.Blob⟩ : J3)) := by
        have e0 := (Jnd (J0H b2) (J8n b2.Change r6.1) (J81 b2 _))
        exact e0
      try simp only [Nf] at f12
      obtain rfl := sj h
      try simp only [↓Da, Ua, J3o, Ja, J8, Jh, Jd, J4i, *, ↓reduceIte, Nat.reduceEqDiff, Nat.reduceAdd, Nat.reduceLT, Nat.reduceMul]
      rfl
    · have h5n : ((x12 : Int) != 7) = true := by rw [bne, h5]; rfl
      obtain rfl := sj h
      try simp only [↓Da, Ua, J3o, Ja, J8, Jh, Jd, J4i, *, ↓reduceIte, Nat.reduceEqDiff, Nat.reduceAdd, Nat.reduceLT, Nat.reduceMul]
      rfl
def J2p (x12 : Int) (x39 : Bool) (b0 : T_pagemenddraw_Codes) (b1 : J3) (b2 : J3) : Option (J3 × T_pagemenddraw_Codes) :=
  if x39 then
    Option.bind (Js b0 5) fun r2 =>
    Option.bind (Js r2.2 9) fun r5 =>
    some ((⟨b2.LSN, b2.Kind, (IntKind.wrap .i64 (1 + r2.1)), (IntKind.wrap .i64 (1 + r5.1)), b2.PrevPage, b2.Ref, b2.Change, b2.Blob⟩ : J3), r5.2)
  else
    if ((x12 : Int) == 6) then
      J3s x12 true b0 b1 b2
    else
      J3s x12 ((x12 : Int) == 8) b0 b1 b2
theorem J7Q {x12 : Int} {x39 : Bool} {b0 : T_pagemenddraw_Codes} {b1 : J3} {b2 : J3} {o : J3 × T_pagemenddraw_Codes} (h : J2p x12 x39 b0 b1 b2 = some o) :
    rk (J2 p) J1J 1 [.bl 0, .sq (.seq (.reg false [] [⟨.load true 13 (.t 3), some 66, none⟩,
    ⟨.store 13 (.t 2) (.t 66), none, none⟩])
  (.ret))] (X (J2 p) J3q ⟨[(0, .ptr 0 0), (2, .ptr 1 0), (3, .ptr 2 0), (12, .p (.i .i64 x12)), (39, .p (.b x39))], [.box (List.map AV.p (J0 b0)), .box (List.map AV.p (J4 b1)), .box (List.map AV.p (J4 b2))]⟩) = J5C o := by
  unfold J2p at h
  rcases Jb h with ⟨h1, h⟩ | ⟨h1, h⟩
  · obtain ⟨r2, h3, h⟩ := bi h
    have f4 : ∀ ws new s, JB ws s [0] [List.map AV.p (J0 b0)] → (Jo (AF (J2 p)) J9 ([.ptr 0 0, .p (.i .i64 5)], ws) 0 new).run s = some ⟨.p (.i .i64 r2.1), ws ++ [(0, .box (List.map AV.p (J0 r2.2)))]⟩ := Jw (args' := [.ptr 0 0, .p (.i .i64 5)]) (bs := [0]) (css := [List.map AV.p (J0 b0)]) (css' := [List.map AV.p (J0 r2.2)]) rfl rfl rfl (by simp [Ji, J6]) (Ju p h3) rfl rfl (by simp [Ji, J6])
    try simp only [Nf] at f4
    obtain ⟨r5, h6, h⟩ := bi h
    have f7 : ∀ ws new s, JB ws s [0] [List.map AV.p (J0 r2.2)] → (Jo (AF (J2 p)) J9 ([.ptr 0 0, .p (.i .i64 9)], ws) 0 new).run s = some ⟨.p (.i .i64 r5.1), ws ++ [(0, .box (List.map AV.p (J0 r5.2)))]⟩ := Jw (args' := [.ptr 0 0, .p (.i .i64 9)]) (bs := [0]) (css := [List.map AV.p (J0 r2.2)]) (css' := [List.map AV.p (J0 r5.2)]) rfl rfl rfl (by simp [Ji, J6]) (Ju p h6) rfl rfl (by simp [Ji, J6])
    try simp only [Nf] at f7
    obtain rfl := sj h
    try simp only [↓Da, Ua, J3q, Ja, J8, Jh, Jd, J4i, *, ↓reduceIte, Nat.reduceEqDiff, Nat.reduceAdd, Nat.reduceLT, Nat.reduceMul]
    rfl
  · try simp only [↓Da, Ua, J3q, Ja, J8, Jh, Jd, *, ↓reduceIte, Nat.reduceEqDiff, Nat.reduceAdd, Nat.reduceLT, Nat.reduceMul]
    rcases Jb h with ⟨h8, h⟩ | ⟨h8, h⟩
    · have h8n : ((x12 : Int) != 6) = false := by rw [bne, h8]; rfl
      try simp only [↓Da, Ua, J3q, Ja, J8, Jh, Jd, *, ↓reduceIte, Nat.reduceEqDiff, Nat.reduceAdd, Nat.reduceLT, Nat.reduceMul]
      have e0 := J9J p h
      exact e0
    · have h8n : ((x12 : Int) != 6) = true := by rw [bne, h8]; rfl
      try simp only [↓Da, Ua, J3q, Ja, J8, Jh, Jd, *, ↓reduceIte, Nat.reduceEqDiff, Nat.reduceAdd, Nat.reduceLT, Nat.reduceMul]
      have e0 := J9J p h
      exact e0
def J3t (x12 : Int) (x13 : Bool) (b0 : T_pagemenddraw_Codes) (b1 : J3) (b2 : J3) : Option (J3 × T_pagemenddraw_Codes) :=
  if x13 then
    Option.bind (Js b0 5) fun r2 =>
    Option.bind (Js r2.2 9) fun r5 =>
    Option.bind (Js r5.2 10) fun r8 =>
    Option.bind (J3V r8.2) fun r11 =>
    if ((b2.Kind : Int) == 2) then
      Option.bind (Js r11.2 (IntKind.wrap .i64 (1 + r5.1))) fun r15 =>
      some ((⟨b2.LSN, b2.Kind, (IntKind.wrap .i64 (1 + r2.1)), (IntKind.wrap .i64 (1 + r5.1)), r8.1, (IntKind.wrap .i64 (1 + r15.1)), r11.1, b2.Blob⟩ : J3), r15.2)
    else
      some ((⟨b2.LSN, b2.Kind, (IntKind.wrap .i64 (1 + r2.1)), (IntKind.wrap .i64 (1 + r5.1)), r8.1, b2.Ref, r11.1, b2.Blob⟩ : J3), r11.2)
  else
    if ((x12 : Int) == 3) then
      J2p x12 true b0 b1 b2
    else
      if ((x12 : Int) == 4) then
        J2p x12 true b0 b1 b2
      else
        J2p x12 ((x12 : Int) == 5) b0 b1 b2
theorem J9O {x12 : Int} {x13 : Bool} {b0 : T_pagemenddraw_Codes} {b1 : J3} {b2 : J3} {o : J3 × T_pagemenddraw_Codes} (h : J3t x12 x13 b0 b1 b2 = some o) :
    rk (J2 p) J1J 1 [.bl 0, .sq (.seq (.reg false [] [⟨.load true 13 (.t 3), some 66, none⟩,
    ⟨.store 13 (.t 2) (.t 66), none, none⟩])
  (.ret))] (X (J2 p) J12 ⟨[(0, .ptr 0 0), (2, .ptr 1 0), (3, .ptr 2 0), (12, .p (.i .i64 x12)), (13, .p (.b x13))], [.box (List.map AV.p (J0 b0)), .box (List.map AV.p (J4 b1)), .box (List.map AV.p (J4 b2))]⟩) = J5C o := by
  unfold J3t at h
  rcases Jb h with ⟨h1, h⟩ | ⟨h1, h⟩
  · obtain ⟨r2, h3, h⟩ := bi h
    have f4 : ∀ ws new s, JB ws s [0] [List.map AV.p (J0 b0)] → (Jo (AF (J2 p)) J9 ([.ptr 0 0, .p (.i .i64 5)], ws) 0 new).run s = some ⟨.p (.i .i64 r2.1), ws ++ [(0, .box (List.map AV.p (J0 r2.2)))]⟩ := Jw (args' := [.ptr 0 0, .p (.i .i64 5)]) (bs := [0]) (css := [List.map AV.p (J0 b0)]) (css' := [List.map AV.p (J0 r2.2)]) rfl rfl rfl (by simp [Ji, J6]) (Ju p h3) rfl rfl (by simp [Ji, J6])
    try simp only [Nf] at f4
    obtain ⟨r5, h6, h⟩ := bi h
    have f7 : ∀ ws new s, JB ws s [0] [List.map AV.p (J0 r2.2)] → (Jo (AF (J2 p)) J9 ([.ptr 0 0, .p (.i .i64 9)], ws) 0 new).run s = some ⟨.p (.i .i64 r5.1), ws ++ [(0, .box (List.map AV.p (J0 r5.2)))]⟩ := Jw (args' := [.ptr 0 0, .p (.i .i64 9)]) (bs := [0]) (css := [List.map AV.p (J0 r2.2)]) (css' := [List.map AV.p (J0 r5.2)]) rfl rfl rfl (by simp [Ji, J6]) (Ju p h6) rfl rfl (by simp [Ji, J6])
    try simp only [Nf] at f7
    obtain ⟨r8, h9, h⟩ := bi h
    have f10 : ∀ ws new s, JB ws s [0] [List.map AV.p (J0 r5.2)] → (Jo (AF (J2 p)) J9 ([.ptr 0 0, .p (.i .i64 10)], ws) 0 new).run s = some ⟨.p (.i .i64 r8.1), ws ++ [(0, .box (List.map AV.p (J0 r8.2)))]⟩ := Jw (args' := [.ptr 0 0, .p (.i .i64 10)]) (bs := [0]) (css := [List.map AV.p (J0 r5.2)]) (css' := [List.map AV.p (J0 r8.2)]) rfl rfl rfl (by simp [Ji, J6]) (Ju p h9) rfl rfl (by simp [Ji, J6])
    try simp only [Nf] at f10
    obtain ⟨r11, h12, h⟩ := bi h
    have f13 : ∀ ws new s, JB ws s [0] [List.map AV.p (J0 r8.2)] → (Jo (AF (J2 p)) J3W ([.ptr 0 0], ws) 0 new).run s = some ⟨.data (Jf r11.1), ws ++ [(0, .box (List.map AV.p (J0 r11.2)))]⟩ := Jw (args' := [.ptr 0 0]) (bs := [0]) (css := [List.map AV.p (J0 r8.2)]) (css' := [List.map AV.p (J0 r11.2)]) rfl rfl rfl (by simp [Ji, J6]) (JeY p h12) rfl rfl (by simp [Ji, J6])
    try simp only [Nf] at f13
    try simp only [↓Da, Ua, J12, Ja, J8, Jh, Jd, *, ↓reduceIte, Nat.reduceEqDiff, Nat.reduceAdd, Nat.reduceLT, Nat.reduceMul]
    rcases Jb h with ⟨h14, h⟩ | ⟨h14, h⟩
    · have h14n : ((b2.Kind : Int) != 2) = false := by rw [bne, h14]; rfl
      obtain ⟨r15, h16, h⟩ := bi h
      have f17 : ∀ ws new s, JB ws s [0] [List.map AV.p (J0 r11.2)] → (Jo (AF (J2 p)) J9 ([.ptr 0 0, .p (.i .i64 (IntKind.wrap .i64 (1 + r5.1)))], ws) 0 new).run s = some ⟨.p (.i .i64 r15.1), ws ++ [(0, .box (List.map AV.p (J0 r15.2)))]⟩ := Jw (args' := [.ptr 0 0, .p (.i .i64 (IntKind.wrap .i64 (1 + r5.1)))]) (bs := [0]) (css := [List.map AV.p (J0 r11.2)]) (css' := [List.map AV.p (J0 r15.2)]) rfl rfl rfl (by simp [Ji, J6]) (Ju p h16) rfl rfl (by simp [Ji, J6])
      try simp only [Nf] at f17
      obtain rfl := sj h
      try simp only [↓Da, Ua, J12, Ja, J8, Jh, Jd, J4i, *, ↓reduceIte, Nat.reduceEqDiff, Nat.reduceAdd, Nat.reduceLT, Nat.reduceMul]
      rfl
    · have h14n : ((b2.Kind : Int) != 2) = true := by rw [bne, h14]; rfl
      obtain rfl := sj h
      try simp only [↓Da, Ua, J12, Ja, J8, Jh, Jd, J4i, *, ↓reduceIte, Nat.reduceEqDiff, Nat.reduceAdd, Nat.reduceLT, Nat.reduceMul]
      rfl
  · try simp only [↓Da, Ua, J12, Ja, J8, Jh, Jd, *, ↓reduceIte, Nat.reduceEqDiff, Nat.reduceAdd, Nat.reduceLT, Nat.reduceMul]
    rcases Jb h with ⟨h18, h⟩ | ⟨h18, h⟩
    · have h18n : ((x12 : Int) != 3) = false := by rw [bne, h18]; rfl
      try simp only [↓Da, Ua, J12, Ja, J8, Jh, Jd, *, ↓reduceIte, Nat.reduceEqDiff, Nat.reduceAdd, Nat.reduceLT, Nat.reduceMul]
      have e0 := J7Q p h
      exact e0
    · have h18n : ((x12 : Int) != 3) = true := by rw [bne, h18]; rfl
      try simp only [↓Da, Ua, J12, Ja, J8, Jh, Jd, *, ↓reduceIte, Nat.reduceEqDiff, Nat.reduceAdd, Nat.reduceLT, Nat.reduceMul]
      rcases Jb h with ⟨h19, h⟩ | ⟨h19, h⟩
      · have h19n : ((x12 : Int) != 4) = false := by rw [bne, h19]; rfl
        try simp only [↓Da, Ua, J12, Ja, J8, Jh, Jd, *, ↓reduceIte, Nat.reduceEqDiff, Nat.reduceAdd, Nat.reduceLT, Nat.reduceMul]
        have e0 := J7Q p h
        exact e0
      · have h19n : ((x12 : Int) != 4) = true := by rw [bne, h19]; rfl
        try simp only [↓Da, Ua, J12, Ja, J8, Jh, Jd, *, ↓reduceIte, Nat.reduceEqDiff, Nat.reduceAdd, Nat.reduceLT, Nat.reduceMul]
        have e0 := J7Q p h
        exact e0
def J4k (b0 : T_pagemenddraw_Codes) : Option (J3 × T_pagemenddraw_Codes) :=
  Option.bind (Js b0 90) fun r1 =>
  Option.bind (Js r1.2 8) fun r4 =>
  if (((IntKind.wrap .i64 (1 + r4.1)) : Int) == 1) then
    J3t (IntKind.wrap .i64 (1 + r4.1)) true r4.2 (⟨0, 0, 0, 0, 0, 0, (⟨0, 0, (⟨false, ([] : List UInt8)⟩ : Jm), (⟨false, ([] : List UInt8)⟩ : Jm)⟩ : Jk), ([] : List UInt8)⟩ : J3) (⟨(IntKind.wrap .i64 (10 + r1.1)), (IntKind.wrap .i64 (1 + r4.1)), 0, 0, 0, 0, (⟨0, 0, (⟨false, ([] : List UInt8)⟩ : Jm), (⟨false, ([] : List UInt8)⟩ : Jm)⟩ : Jk), ([] : List UInt8)⟩ : J3)
  else
    J3t (IntKind.wrap .i64 (1 + r4.1)) (((IntKind.wrap .i64 (1 + r4.1)) : Int) == 2) r4.2 (⟨0, 0, 0, 0, 0, 0, (⟨0, 0, (⟨false, ([] : List UInt8)⟩ : Jm), (⟨false, ([] : List UInt8)⟩ : Jm)⟩ : Jk), ([] : List UInt8)⟩ : J3) (⟨(IntKind.wrap .i64 (10 + r1.1)), (IntKind.wrap .i64 (1 + r4.1)), 0, 0, 0, 0, (⟨0, 0, (⟨false, ([] : List UInt8)⟩ : Jm), (⟨false, ([] : List UInt8)⟩ : Jm)⟩ : Jk), ([] : List UInt8)⟩ : J3)
theorem JcT {b0 : T_pagemenddraw_Codes} {o : J3 × T_pagemenddraw_Codes} (h : J4k b0 = some o) :
    rk (J2 p) J1J 1 [] (X (J2 p) J36 ⟨[(0, .ptr 0 0)], [.box (List.map AV.p (J0 b0))]⟩) = J5C o := by
  unfold J4k at h
  obtain ⟨r1, h2, h⟩ := bi h
  have f3 : ∀ ws new s, JB ws s [0] [List.map AV.p (J0 b0)] → (Jo (AF (J2 p)) J9 ([.ptr 0 0, .p (.i .i64 90)], ws) 0 new).run s = some ⟨.p (.i .i64 r1.1), ws ++ [(0, .box (List.map AV.p (J0 r1.2)))]⟩ := Jw (args' := [.ptr 0 0, .p (.i .i64 90)]) (bs := [0]) (css := [List.map AV.p (J0 b0)]) (css' := [List.map AV.p (J0 r1.2)]) rfl rfl rfl (by simp [Ji, J6]) (Ju p h2) rfl rfl (by simp [Ji, J6])
  try simp only [Nf] at f3
  obtain ⟨r4, h5, h⟩ := bi h
  have f6 : ∀ ws new s, JB ws s [0] [List.map AV.p (J0 r1.2)] → (Jo (AF (J2 p)) J9 ([.ptr 0 0, .p (.i .i64 8)], ws) 0 new).run s = some ⟨.p (.i .i64 r4.1), ws ++ [(0, .box (List.map AV.p (J0 r4.2)))]⟩ := Jw (args' := [.ptr 0 0, .p (.i .i64 8)]) (bs := [0]) (css := [List.map AV.p (J0 r1.2)]) (css' := [List.map AV.p (J0 r4.2)]) rfl rfl rfl (by simp [Ji, J6]) (Ju p h5) rfl rfl (by simp [Ji, J6])
  try simp only [Nf] at f6
  try simp only [↓Da, Ua, J36, Ja, J8, Jh, Jd, *, ↓reduceIte, Nat.reduceEqDiff, Nat.reduceAdd, Nat.reduceLT, Nat.reduceMul]
  rcases Jb h with ⟨h7, h⟩ | ⟨h7, h⟩
  · have h7n : (((IntKind.wrap .i64 (1 + r4.1)) : Int) != 1) = false := by rw [bne, h7]; rfl
    try simp only [↓Da, Ua, J36, Ja, J8, Jh, Jd, *, ↓reduceIte, Nat.reduceEqDiff, Nat.reduceAdd, Nat.reduceLT, Nat.reduceMul]
    have e0 := J9O p h
    exact e0
  · have h7n : (((IntKind.wrap .i64 (1 + r4.1)) : Int) != 1) = true := by rw [bne, h7]; rfl
    try simp only [↓Da, Ua, J36, Ja, J8, Jh, Jd, *, ↓reduceIte, Nat.reduceEqDiff, Nat.reduceAdd, Nat.reduceLT, Nat.reduceMul]
    have e0 := J9O p h
    exact e0
theorem Jfv {b0 : T_pagemenddraw_Codes} {o : J3 × T_pagemenddraw_Codes} (h : J4k b0 = some o) : AF (J2 p) J3c [.ptr 0 0] [.box (List.map AV.p (J0 b0))] = J5C o :=
  (J0s (J2 p) (JfE p) rfl).trans (JcT p h)
def J92 (b1 : Int) (b2 : Int) (r : T_api_Row) : Option Res := some (.tup [], [.box (List.map AV.p (J7 r)), .box [.p (.i .i64 b1)], .box [.p (.i .i64 b2)]])
def J3z (b0 : T_api_Row) (b1 : Int) (b2 : Int) : Option (T_api_Row) :=
  some (⟨b0.LSN, b1, b2⟩ : T_api_Row)
theorem JaD {b0 : T_api_Row} {b1 : Int} {b2 : Int} {o : T_api_Row} (h : J3z b0 b1 b2 = some o) :
    rk (J2 p) J2m 3 [] (X (J2 p) J3A ⟨[(0, .ptr 0 0), (1, .ptr 1 0), (2, .ptr 2 0)], [.box (List.map AV.p (J7 b0)), .box [.p (.i .i64 b1)], .box [.p (.i .i64 b2)]]⟩) = (J92 b1 b2) o := by
  unfold J3z at h
  obtain rfl := sj h
  try simp only [↓Da, Ua, Ra, J3A, Je, Jc8, ↓reduceIte, Nat.reduceEqDiff, Nat.reduceAdd, Nat.reduceLT, Nat.reduceMul, Nat.reduceBEq]
  rfl
theorem Jc7 {b0 : T_api_Row} {b1 : Int} {b2 : Int} {o : T_api_Row} (h : J3z b0 b1 b2 = some o) : AF (J2 p) J0l [.ptr 0 0, .ptr 1 0, .ptr 2 0] [.box (List.map AV.p (J7 b0)), .box [.p (.i .i64 b1)], .box [.p (.i .i64 b2)]] = (J92 b1 b2) o :=
  (J0s (J2 p) (Jca p) rfl).trans (JaD p h)
def J4t (b0 : Int) (b1 : Int) (r : T_api_Index) : Option Res := some (.data (J5 r), [.box [.p (.i .i64 b0)], .box [.p (.i .i64 b1)]])
def J0p (x0 : T_api_Index) (x1 : Int) (b0 : Int) (b1 : Int) : Option (T_api_Index) :=
  Option.bind (J1b x0.Rows) fun r1 =>
  Option.bind (idx r1 x1) fun y4 =>
  Option.bind (J3z y4 b0 b1) fun r8 =>
  Option.bind (some (List.set r1 (Int.toNat x1) r8)) fun m11 =>
  some (⟨m11⟩ : T_api_Index)
theorem J74 {x0 : T_api_Index} {x1 : Int} {b0 : Int} {b1 : Int} {o : T_api_Index} (h : J0p x0 x1 b0 b1 = some o) :
    rk (J2 p) J3h 2 [] (X (J2 p) J38 ⟨[(0, .data (J5 x0)), (1, .p (.i .i64 x1)), (2, .fn J0l [] [.ptr 0 0, .ptr 1 0])], [.box [.p (.i .i64 b0)], .box [.p (.i .i64 b1)]]⟩) = (J4t b0 b1) o := by
  unfold J0p at h
  obtain ⟨r1, h2, h⟩ := bi h
  have f3 : ∀ ws new s, (Jo (AF (J2 p)) J0I ([.p (.sl 3 (List.map J7 x0.Rows))], ws) 1 new).run s = some ⟨.slr new 0 (List.length r1), ws ++ [(new, .arr true 3 (List.map J7 r1))]⟩ := JiP rfl (J7c p h2)
  try simp only [Nf, J1, Jl] at f3
  obtain ⟨y4, h5, h⟩ := bi h
  have f6 := J7S (r := J7) h5
  try simp only [Nf, J1, Jl] at f6
  have f7 : (0 ≤ (x1 : Int) ∧ (x1 : Int) < (((List.length r1) : Nat) : Int)) = True := eq_true (by have e0 := Jai h5; (try simp only [List.length_cons, List.length_nil, Nat.zero_add] at e0); omega)
  obtain ⟨r8, h9, h⟩ := bi h
  have f15 : ((List.map J7 r1))[(Int.toNat x1)]? = some (J7 y4) := J7S h5
  have f10 : ∀ ws new s, (J7E ws 4).run s = some (.arr true 3 (List.map J7 r1)) → ((List.length r1) : Nat) = List.length (List.map J7 r1) → JB ws s [0, 1] [[.p (.i .i64 b0)], [.p (.i .i64 b1)]] → (Jo (AF (J2 p)) J0l ([.ep 4 (List.length r1) (Int.toNat x1) 0, .ptr 0 0, .ptr 1 0], ws) 0 new).run s = some ⟨.tup [], ws ++ [(4, .arr true 3 (List.set (List.map J7 r1) (Int.toNat x1) (J7 r8))), (0, .box ([.p (.i .i64 b0)])), (1, .box ([.p (.i .i64 b1)]))]⟩ := fun ws new s h1 h2 h3 => JgY (args' := [.ptr 0 0, .ptr 1 0, .ptr 2 0]) (bs := [0, 1]) (css := [[.p (.i .i64 b0)], [.p (.i .i64 b1)]]) (css' := [[.p (.i .i64 b0)], [.p (.i .i64 b1)]]) (row := (J7 y4)) (row' := J7 r8) rfl rfl (by first | rfl | simp [ren.renL, ren, J32]) (by simp [Ji, J6]) (Jc7 p h9) rfl rfl (by simp [Ji, J6]) ws new s h1 h2 f15 h3
  try simp only [Nf, J1, Jl] at f10
  obtain ⟨m11, h12, h⟩ := bi h
  have f13 : List.set (List.map J7 r1) (Int.toNat x1) (J7 r8) = List.map J7 m11 := by
    rw [← Option.some.inj h12, List.map_set]
  try simp only [Nf, J1, Jl] at f13
  have g14 : List.length m11 = List.length r1 := by rw [← Option.some.inj h12, List.length_set]
  obtain rfl := sj h
  try simp only [↓Da, Ua, J38, J1, Jl, Jay, *, ↓reduceIte, Nat.reduceEqDiff, Nat.reduceAdd, Nat.reduceLT, Nat.reduceMul]
  rfl
theorem J4u {x0 : T_api_Index} {x1 : Int} {b0 : Int} {b1 : Int} {o : T_api_Index} (h : J0p x0 x1 b0 b1 = some o) : AF (J2 p) J1r [.data (J5 x0), .p (.i .i64 x1), .fn J0l [] [.ptr 0 0, .ptr 1 0]] [.box [.p (.i .i64 b0)], .box [.p (.i .i64 b1)]] = (J4t b0 b1) o :=
  (J0s (J2 p) (JaA p) rfl).trans (J74 p h)
def J9A  (r : T_api_Index × Int) : Option Res := some (.tup [.data (J5 r.1), .p (.i .i64 r.2)], [])
def J2n (x0 : T_api_Index) (x1 : Int) (x2 : Int) (x3 : Int) : Option (T_api_Index × Int) :=
  Option.bind (J0J x0) fun r1 =>
  if r1 then
    Option.bind (J1h x0 x1) fun r5 =>
    if r5 then
      Option.bind (J0t x2) fun r9 =>
      if r9 then
        Option.bind (J0t x3) fun r13 =>
        if r13 then
          if ((x2 : Int) == 0) then
            if ((x3 : Int) != 0) then
              some ((⟨([] : List T_api_Row)⟩ : T_api_Index), 1)
            else
              Option.bind (J0p x0 x1 x2 x3) fun r19 =>
              some (r19, 0)
          else
            Option.bind (J0p x0 x1 x2 x3) fun r22 =>
            some (r22, 0)
        else
          some ((⟨([] : List T_api_Row)⟩ : T_api_Index), 1)
      else
        some ((⟨([] : List T_api_Row)⟩ : T_api_Index), 1)
    else
      some ((⟨([] : List T_api_Row)⟩ : T_api_Index), 1)
  else
    some ((⟨([] : List T_api_Row)⟩ : T_api_Index), 28)
theorem JbY {x0 : T_api_Index} {x1 : Int} {x2 : Int} {x3 : Int} {o : T_api_Index × Int} (h : J2n x0 x1 x2 x3 = some o) :
    rk (J2 p) J3r 0 [] (X (J2 p) JZ ⟨[(0, .data (J5 x0)), (1, .p (.i .i64 x1)), (2, .p (.i .i64 x2)), (3, .p (.i .i64 x3))], []⟩) = J9A o := by
  unfold J2n at h
  obtain ⟨r1, h2, h⟩ := bi h
  have f3 := J62 p h2
  try simp only [Nf, J1] at f3
  try simp only [↓Da, Ua, JZ, J1, Je, *, ↓reduceIte, Nat.reduceEqDiff, Nat.reduceAdd, Nat.reduceLT, Nat.reduceMul]
  rcases Jb h with ⟨h4, h⟩ | ⟨h4, h⟩
  · obtain ⟨r5, h6, h⟩ := bi h
    have f7 := JaT p h6
    try simp only [Nf, J1] at f7
    try simp only [↓Da, Ua, JZ, J1, Je, *, ↓reduceIte, Nat.reduceEqDiff, Nat.reduceAdd, Nat.reduceLT, Nat.reduceMul]
    rcases Jb h with ⟨h8, h⟩ | ⟨h8, h⟩
    · obtain ⟨r9, h10, h⟩ := bi h
      have f11 := J4F p h10
      try simp only [Nf, J1] at f11
      try simp only [↓Da, Ua, JZ, J1, Je, *, ↓reduceIte, Nat.reduceEqDiff, Nat.reduceAdd, Nat.reduceLT, Nat.reduceMul]
      rcases Jb h with ⟨h12, h⟩ | ⟨h12, h⟩
      · obtain ⟨r13, h14, h⟩ := bi h
        have f15 := J4F p h14
        try simp only [Nf, J1] at f15
        try simp only [↓Da, Ua, JZ, J1, Je, *, ↓reduceIte, Nat.reduceEqDiff, Nat.reduceAdd, Nat.reduceLT, Nat.reduceMul]
        rcases Jb h with ⟨h16, h⟩ | ⟨h16, h⟩
        · try try rw [h4] at h16
          try simp only [↓Da, Ua, JZ, J1, Je, *, ↓reduceIte, Nat.reduceEqDiff, Nat.reduceAdd, Nat.reduceLT, Nat.reduceMul]
          rcases Jb h with ⟨h17, h⟩ | ⟨h17, h⟩
          · have h17n : ((x2 : Int) != 0) = false := by rw [bne, h17]; rfl
            try simp only [↓Da, Ua, JZ, J1, Je, *, ↓reduceIte, Nat.reduceEqDiff, Nat.reduceAdd, Nat.reduceLT, Nat.reduceMul]
            rcases Jb h with ⟨h18, h⟩ | ⟨h18, h⟩
            · obtain rfl := sj h
              try simp only [↓Da, Ua, JZ, J1, Je, J2q, *, ↓reduceIte, Nat.reduceEqDiff, Nat.reduceAdd, Nat.reduceLT, Nat.reduceMul]
              rfl
            · obtain ⟨r19, h20, h⟩ := bi h
              have f21 : ∀ ws new s, JB ws s [1, 2] [[.p (.i .i64 x2)], [.p (.i .i64 x3)]] → (Jo (AF (J2 p)) J1r ([.data (J5 x0), .p (.i .i64 x1), .fn J0l [] [.ptr 1 0, .ptr 2 0]], ws) 0 new).run s = some ⟨.data (J5 r19), ws ++ [(1, .box ([.p (.i .i64 x2)])), (2, .box ([.p (.i .i64 x3)]))]⟩ := Jw (args' := [.data (J5 x0), .p (.i .i64 x1), .fn J0l [] [.ptr 0 0, .ptr 1 0]]) (bs := [1, 2]) (css := [[.p (.i .i64 x2)], [.p (.i .i64 x3)]]) (css' := [[.p (.i .i64 x2)], [.p (.i .i64 x3)]]) rfl rfl rfl (by simp [Ji, J6]) (J4u p h20) rfl rfl (by simp [Ji, J6])
              try simp only [Nf, J1] at f21
              obtain rfl := sj h
              try simp only [↓Da, Ua, JZ, J1, Je, J2q, *, ↓reduceIte, Nat.reduceEqDiff, Nat.reduceAdd, Nat.reduceLT, Nat.reduceMul]
              rfl
          · have h17n : ((x2 : Int) != 0) = true := by rw [bne, h17]; rfl
            obtain ⟨r22, h23, h⟩ := bi h
            have f24 : ∀ ws new s, JB ws s [1, 2] [[.p (.i .i64 x2)], [.p (.i .i64 x3)]] → (Jo (AF (J2 p)) J1r ([.data (J5 x0), .p (.i .i64 x1), .fn J0l [] [.ptr 1 0, .ptr 2 0]], ws) 0 new).run s = some ⟨.data (J5 r22), ws ++ [(1, .box ([.p (.i .i64 x2)])), (2, .box ([.p (.i .i64 x3)]))]⟩ := Jw (args' := [.data (J5 x0), .p (.i .i64 x1), .fn J0l [] [.ptr 0 0, .ptr 1 0]]) (bs := [1, 2]) (css := [[.p (.i .i64 x2)], [.p (.i .i64 x3)]]) (css' := [[.p (.i .i64 x2)], [.p (.i .i64 x3)]]) rfl rfl rfl (by simp [Ji, J6]) (J4u p h23) rfl rfl (by simp [Ji, J6])
            try simp only [Nf, J1] at f24
            obtain rfl := sj h
            try simp only [↓Da, Ua, JZ, J1, Je, J2q, *, ↓reduceIte, Nat.reduceEqDiff, Nat.reduceAdd, Nat.reduceLT, Nat.reduceMul]
            rfl
        · try try rw [h4] at h16
          obtain rfl := sj h
          try simp only [↓Da, Ua, JZ, J1, Je, J2q, *, ↓reduceIte, Nat.reduceEqDiff, Nat.reduceAdd, Nat.reduceLT, Nat.reduceMul]
          rfl
      · obtain rfl := sj h
        try simp only [↓Da, Ua, JZ, J1, Je, J2q, *, ↓reduceIte, Nat.reduceEqDiff, Nat.reduceAdd, Nat.reduceLT, Nat.reduceMul]
        rfl
    · obtain rfl := sj h
      try simp only [↓Da, Ua, JZ, J1, Je, J2q, *, ↓reduceIte, Nat.reduceEqDiff, Nat.reduceAdd, Nat.reduceLT, Nat.reduceMul]
      rfl
  · obtain rfl := sj h
    try simp only [↓Da, Ua, JZ, J1, Je, J2q, *, ↓reduceIte, Nat.reduceEqDiff, Nat.reduceAdd, Nat.reduceLT, Nat.reduceMul]
    rfl
theorem Je3 {x0 : T_api_Index} {x1 : Int} {x2 : Int} {x3 : Int} {o : T_api_Index × Int} (h : J2n x0 x1 x2 x3 = some o) : AF (J2 p) J3w [.data (J5 x0), .p (.i .i64 x1), .p (.i .i64 x2), .p (.i .i64 x3)] [] = J9A o :=
  (J0s (J2 p) (Je8 p) rfl).trans (JbY p h)
theorem JdM {x0 : T_api_Index} {x1 : Int} {x2 : Int} {x3 : Int} {o : T_api_Index × Int} (h : J2n x0 x1 x2 x3 = some o) : ∀ ws new st, (Jo (AF (J2 p)) J3w ([.data (J5 x0), .p (.i .i64 x1), .p (.i .i64 x2), .p (.i .i64 x3)], ws) 0 new).run st = some ⟨.tup [.data (J5 o.1), .p (.i .i64 o.2)], ws⟩ := JN rfl (Je3 p h) rfl
def JbW  (r : T_api_Index × Int) : Option Res := some (.tup [.data (J5 r.1), .p (.i .i64 r.2)], [])
def J4c (x0 : T_api_Index) (x1 : Int) (x2 : Int) (x3 : Int) : Option (T_api_Index × Int) :=
  Option.bind (J2B x0) fun r1 =>
  if r1 then
    if (decide (x1 < 0)) then
      some ((⟨([] : List T_api_Row)⟩ : T_api_Index), 1)
    else
      if (decide (x1 ≥ ((List.length x0.Rows : Nat) : Int))) then
        some ((⟨([] : List T_api_Row)⟩ : T_api_Index), 1)
      else
        Option.bind (J4w x2) fun r7 =>
        if r7 then
          Option.bind (J4w x3) fun r11 =>
          if r11 then
            if ((x2 : Int) == 0) then
              if ((x3 : Int) != 0) then
                some ((⟨([] : List T_api_Row)⟩ : T_api_Index), 1)
              else
                Option.bind (idx x0.Rows x1) fun y17 =>
                Option.bind (J5p x0 x1 (⟨y17.LSN, x2, x3⟩ : T_api_Row)) fun r20 =>
                some (r20, 0)
            else
              Option.bind (idx x0.Rows x1) fun y23 =>
              Option.bind (J5p x0 x1 (⟨y23.LSN, x2, x3⟩ : T_api_Row)) fun r26 =>
              some (r26, 0)
          else
            some ((⟨([] : List T_api_Row)⟩ : T_api_Index), 1)
        else
          some ((⟨([] : List T_api_Row)⟩ : T_api_Index), 1)
  else
    some ((⟨([] : List T_api_Row)⟩ : T_api_Index), 28)
theorem Jef {x0 : T_api_Index} {x1 : Int} {x2 : Int} {x3 : Int} {o : T_api_Index × Int} (h : J4c x0 x1 x2 x3 = some o) :
    rk (J2 p) J5j 0 [] (X (J2 p) J0c ⟨[(0, .data (J5 x0)), (1, .p (.i .i64 x1)), (2, .p (.i .i64 x2)), (3, .p (.i .i64 x3))], []⟩) = JbW o := by
  unfold J4c at h
  obtain ⟨r1, h2, h⟩ := bi h
  have f3 := J85 p h2
  try simp only [Nf, J1] at f3
  try simp only [↓Da, Ua, J0c, J1, Je, *, ↓reduceIte, Nat.reduceEqDiff, Nat.reduceAdd, Nat.reduceLT, Nat.reduceMul]
  rcases Jb h with ⟨h4, h⟩ | ⟨h4, h⟩
  · try simp only [↓Da, Ua, J0c, J1, Je, *, ↓reduceIte, Nat.reduceEqDiff, Nat.reduceAdd, Nat.reduceLT, Nat.reduceMul]
    rcases Jb h with ⟨h5, h⟩ | ⟨h5, h⟩
    · obtain rfl := sj h
      try simp only [↓Da, Ua, J0c, J1, Je, J39, *, ↓reduceIte, Nat.reduceEqDiff, Nat.reduceAdd, Nat.reduceLT, Nat.reduceMul]
      rfl
    · try simp only [↓Da, Ua, J0c, J1, Je, *, ↓reduceIte, Nat.reduceEqDiff, Nat.reduceAdd, Nat.reduceLT, Nat.reduceMul]
      rcases Jb h with ⟨h6, h⟩ | ⟨h6, h⟩
      · obtain rfl := sj h
        try simp only [↓Da, Ua, J0c, J1, Je, J39, *, ↓reduceIte, Nat.reduceEqDiff, Nat.reduceAdd, Nat.reduceLT, Nat.reduceMul]
        rfl
      · obtain ⟨r7, h8, h⟩ := bi h
        have f9 := J9a p h8
        try simp only [Nf, J1] at f9
        try simp only [↓Da, Ua, J0c, J1, Je, *, ↓reduceIte, Nat.reduceEqDiff, Nat.reduceAdd, Nat.reduceLT, Nat.reduceMul]
        rcases Jb h with ⟨h10, h⟩ | ⟨h10, h⟩
        · obtain ⟨r11, h12, h⟩ := bi h
          have f13 := J9a p h12
          try simp only [Nf, J1] at f13
          try simp only [↓Da, Ua, J0c, J1, Je, *, ↓reduceIte, Nat.reduceEqDiff, Nat.reduceAdd, Nat.reduceLT, Nat.reduceMul]
          rcases Jb h with ⟨h14, h⟩ | ⟨h14, h⟩
          · try try rw [h4] at h14
            try simp only [↓Da, Ua, J0c, J1, Je, *, ↓reduceIte, Nat.reduceEqDiff, Nat.reduceAdd, Nat.reduceLT, Nat.reduceMul]
            rcases Jb h with ⟨h15, h⟩ | ⟨h15, h⟩
            · have h15n : ((x2 : Int) != 0) = false := by rw [bne, h15]; rfl
              try simp only [↓Da, Ua, J0c, J1, Je, *, ↓reduceIte, Nat.reduceEqDiff, Nat.reduceAdd, Nat.reduceLT, Nat.reduceMul]
              rcases Jb h with ⟨h16, h⟩ | ⟨h16, h⟩
              · obtain rfl := sj h
                try simp only [↓Da, Ua, J0c, J1, Je, J39, *, ↓reduceIte, Nat.reduceEqDiff, Nat.reduceAdd, Nat.reduceLT, Nat.reduceMul]
                rfl
              · obtain ⟨y17, h18, h⟩ := bi h
                have f19 := J2R (r := J7) h18
                try simp only [Nf, J1] at f19
                obtain ⟨r20, h21, h⟩ := bi h
                have f22 := JcY p h21
                try simp only [Nf, J1] at f22
                obtain rfl := sj h
                try simp only [↓Da, Ua, J0c, J1, Je, J39, *, ↓reduceIte, Nat.reduceEqDiff, Nat.reduceAdd, Nat.reduceLT, Nat.reduceMul]
                rfl
            · have h15n : ((x2 : Int) != 0) = true := by rw [bne, h15]; rfl
              obtain ⟨y23, h24, h⟩ := bi h
              have f25 := J2R (r := J7) h24
              try simp only [Nf, J1] at f25
              obtain ⟨r26, h27, h⟩ := bi h
              have f28 := JcY p h27
              try simp only [Nf, J1] at f28
              obtain rfl := sj h
              try simp only [↓Da, Ua, J0c, J1, Je, J39, *, ↓reduceIte, Nat.reduceEqDiff, Nat.reduceAdd, Nat.reduceLT, Nat.reduceMul]
              rfl
          · try try rw [h4] at h14
            obtain rfl := sj h
            try simp only [↓Da, Ua, J0c, J1, Je, J39, *, ↓reduceIte, Nat.reduceEqDiff, Nat.reduceAdd, Nat.reduceLT, Nat.reduceMul]
            rfl
        · obtain rfl := sj h
          try simp only [↓Da, Ua, J0c, J1, Je, J39, *, ↓reduceIte, Nat.reduceEqDiff, Nat.reduceAdd, Nat.reduceLT, Nat.reduceMul]
          rfl
  · obtain rfl := sj h
    try simp only [↓Da, Ua, J0c, J1, Je, J39, *, ↓reduceIte, Nat.reduceEqDiff, Nat.reduceAdd, Nat.reduceLT, Nat.reduceMul]
    rfl
theorem JhE {x0 : T_api_Index} {x1 : Int} {x2 : Int} {x3 : Int} {o : T_api_Index × Int} (h : J4c x0 x1 x2 x3 = some o) : AF (J2 p) J5n [.data (J5 x0), .p (.i .i64 x1), .p (.i .i64 x2), .p (.i .i64 x3)] [] = JbW o :=
  (J0s (J2 p) (Ji1 p) rfl).trans (Jef p h)
theorem Ji4 {x0 : T_api_Index} {x1 : Int} {x2 : Int} {x3 : Int} {o : T_api_Index × Int} (h : J4c x0 x1 x2 x3 = some o) : ∀ ws new st, (Jo (AF (J2 p)) J5n ([.data (J5 x0), .p (.i .i64 x1), .p (.i .i64 x2), .p (.i .i64 x3)], ws) 0 new).run st = some ⟨.tup [.data (J5 o.1), .p (.i .i64 o.2)], ws⟩ := JN rfl (JhE p h) rfl
def J4f  (r : (List UInt8) × Int) : Option Res := some (.tup [.p (.s r.1), .p (.i .i64 r.2)], [])
def JdR (x15 : List T_api_Row) (x16 : Int) (B0 : List PV) (o : ((List UInt8) × Int) ⊕ ((List UInt8) × Int)) : Option Res := match o with
  | .inl s => rk (J2 p) J15 0 [.bl 0, .td 1 [2, 3, 4], .sq (.keep [4] J2r)] (X (J2 p) (.lp 1 [4, 15, 16, 17] J1P) ⟨[(4, .p (.s s.1)), (15, .p (.sl 3 (List.map J7 x15))), (16, .p (.i .i64 x16)), (17, .p (.i .i64 s.2))], [.box (List.map AV.p B0)]⟩)
  | .inr o => J4f o
def J65 (x4 : List UInt8) : Option ((List UInt8) × Int) :=
  some (x4, 0)
theorem JdJ {x4 : List UInt8} {B0 : List PV} {o : (List UInt8) × Int} (h : J65 x4 = some o) :
    rk (J2 p) J15 0 [] (X (J2 p) J2r ⟨[(4, .p (.s x4))], [.box (List.map AV.p B0)]⟩) = J4f o := by
  unfold J65 at h
  obtain rfl := sj h
  try simp only [↓Da, Ua, J2r, JaF, ↓reduceIte, Nat.reduceEqDiff, Nat.reduceAdd, Nat.reduceLT, Nat.reduceMul]
  rfl
def J2t (x15 : List T_api_Row) (x16 : Int) (x4 : List UInt8) (x17 : Int) : Option ((((List UInt8) × Int) ⊕ ((List UInt8) × Int))) :=
  if (decide (x17 < x16)) then
    Option.bind (idx x15 x17) fun y2 =>
    Option.bind (J45 x4 y2.LSN 8) fun r5 =>
    Option.bind (J45 r5 y2.Image 8) fun r9 =>
    Option.bind (J45 r9 y2.ImageLSN 8) fun r13 =>
    some (.inl (r13, (IntKind.wrap .i64 (x17 + 1))))
  else
    Option.map (fun o => .inr o) (J65 x4)
theorem J9Z {x15 : List T_api_Row} {x16 : Int} {x4 : List UInt8} {x17 : Int} {B0 : List PV} {o : (((List UInt8) × Int) ⊕ ((List UInt8) × Int))} (h : J2t x15 x16 x4 x17 = some o) :
    rk (J2 p) J15 0 [.lo 1 [4, 15, 16, 17] J1P, .bl 0, .td 1 [2, 3, 4], .sq (.keep [4] J2r)] (X (J2 p) J1P ⟨[(4, .p (.s x4)), (15, .p (.sl 3 (List.map J7 x15))), (16, .p (.i .i64 x16)), (17, .p (.i .i64 x17))], [.box (List.map AV.p B0)]⟩) = (JdR p x15 x16 B0) o := by
  unfold J2t at h
  rcases Jb h with ⟨h1, h⟩ | ⟨h1, h⟩
  · obtain ⟨y2, h3, h⟩ := bi h
    have f4 := J2R (r := J7) h3
    try simp only [Nf] at f4
    obtain ⟨r5, h6, h⟩ := bi h
    have f7 := Jar p h6
    try simp only [Nf] at f7
    have f8 : ∀ ws k new s, Jn ((Jo (AF (J2 p)) J47 ([.p (.s x4), .p (.i .i64 y2.LSN), .p (.i .i64 8)], ws) k new).reads s) = [] := J4h rfl
    try simp only [Nf] at f8
    obtain ⟨r9, h10, h⟩ := bi h
    have f11 := Jar p h10
    try simp only [Nf] at f11
    have f12 : ∀ ws k new s, Jn ((Jo (AF (J2 p)) J47 ([.p (.s r5), .p (.i .i64 y2.Image), .p (.i .i64 8)], ws) k new).reads s) = [] := J4h rfl
    try simp only [Nf] at f12
    obtain ⟨r13, h14, h⟩ := bi h
    have f15 := Jar p h14
    try simp only [Nf] at f15
    have f16 : ∀ ws k new s, Jn ((Jo (AF (J2 p)) J47 ([.p (.s r9), .p (.i .i64 y2.ImageLSN), .p (.i .i64 8)], ws) k new).reads s) = [] := J4h rfl
    try simp only [Nf] at f16
    obtain rfl := sj h
    try simp only [↓Da, Ua, Ra, J1P, Je, *, ↓reduceIte, Nat.reduceEqDiff, Nat.reduceAdd, Nat.reduceLT, Nat.reduceMul, Nat.reduceBEq]
    rfl
  · obtain ⟨o', h', rfl⟩ := mi h
    try simp only [↓Da, Ua, Ra, J1P, Je, *, ↓reduceIte, Nat.reduceEqDiff, Nat.reduceAdd, Nat.reduceLT, Nat.reduceMul, Nat.reduceBEq]
    have e0 := JdJ p (B0 := B0) h'
    exact e0
def J9Q (x15 : List T_api_Row) (x16 : Int) (s : (List UInt8) × Int) : Option ((List UInt8) × Int) :=
  J00 (fun s => J2t x15 x16 s.1 s.2) s
theorem JcO {x15 : List T_api_Row} {x16 : Int} {B0 : List PV} {s : (List UInt8) × Int} {o : (List UInt8) × Int} (h : J9Q x15 x16 s = some o) :
    rk (J2 p) J15 0 [.bl 0, .td 1 [2, 3, 4], .sq (.keep [4] J2r)] (X (J2 p) (.lp 1 [4, 15, 16, 17] J1P) ⟨[(4, .p (.s s.1)), (15, .p (.sl 3 (List.map J7 x15))), (16, .p (.i .i64 x16)), (17, .p (.i .i64 s.2))], [.box (List.map AV.p B0)]⟩) = J4f o := by
  have h0 : J00 (fun s => J2t x15 x16 s.1 s.2) s = some o := h
  exact J2k (P := fun (s : (List UInt8) × Int) (o : (List UInt8) × Int) => rk (J2 p) J15 0 [.bl 0, .td 1 [2, 3, 4], .sq (.keep [4] J2r)] (X (J2 p) (.lp 1 [4, 15, 16, 17] J1P) ⟨[(4, .p (.s s.1)), (15, .p (.sl 3 (List.map J7 x15))), (16, .p (.i .i64 x16)), (17, .p (.i .i64 s.2))], [.box (List.map AV.p B0)]⟩) = J4f o) (fun s r hs => by rw [J2e]; exact J9Z p hs) (fun s s1 r hs ih => by rw [J2e]; exact (J9Z p hs).trans ih) h0
def J1K (x0 : T_api_Index) : Option ((List UInt8) × Int) :=
  Option.bind (J0J x0) fun r1 =>
  if r1 then
    Option.bind (J45 ([]) ((List.length x0.Rows : Nat) : Int) 2) fun r5 =>
    J9Q x0.Rows ((List.length x0.Rows : Nat) : Int) (r5, 0)
  else
    some (([] : List UInt8), 28)
theorem JcH {x0 : T_api_Index} {o : (List UInt8) × Int} (h : J1K x0 = some o) :
    rk (J2 p) J15 0 [] (X (J2 p) J33 ⟨[(0, .data (J5 x0))], []⟩) = J4f o := by
  unfold J1K at h
  obtain ⟨r1, h2, h⟩ := bi h
  have f3 := J62 p h2
  try simp only [Nf, J1] at f3
  try simp only [↓Da, Ua, J33, J1, Je, *, ↓reduceIte, Nat.reduceEqDiff, Nat.reduceAdd, Nat.reduceLT, Nat.reduceMul]
  rcases Jb h with ⟨h4, h⟩ | ⟨h4, h⟩
  · obtain ⟨r5, h6, h⟩ := bi h
    have f7 := Jar p h6
    try simp only [Nf, J1] at f7
    try simp only [↓Da, Ua, J33, J1, Je, *, ↓reduceIte, Nat.reduceEqDiff, Nat.reduceAdd, Nat.reduceLT, Nat.reduceMul]
    have e0 := JcO p (B0 := (J5 x0)) h
    exact e0
  · obtain rfl := sj h
    try simp only [↓Da, Ua, J33, J1, Je, JaF, *, ↓reduceIte, Nat.reduceEqDiff, Nat.reduceAdd, Nat.reduceLT, Nat.reduceMul]
    rfl
theorem Jf5 {x0 : T_api_Index} {o : (List UInt8) × Int} (h : J1K x0 = some o) : AF (J2 p) J4p [.data (J5 x0)] [] = J4f o :=
  (J0s (J2 p) (JfO p) rfl).trans (JcH p h)
theorem JfN {x0 : T_api_Index} {o : (List UInt8) × Int} (h : J1K x0 = some o) : ∀ ws new st, (Jo (AF (J2 p)) J4p ([.data (J5 x0)], ws) 0 new).run st = some ⟨.tup [.p (.s o.1), .p (.i .i64 o.2)], ws⟩ := JN rfl (Jf5 p h) rfl
def J6r  (r : (List UInt8) × Int) : Option Res := some (.tup [.p (.s r.1), .p (.i .i64 r.2)], [])
def JhT (b0 : T_api_Index) (o : ((List UInt8) × Int) ⊕ ((List UInt8) × Int)) : Option Res := match o with
  | .inl s => rk (J2 p) J25 0 [.bl 0, .sq (.keep [4] J4b)] (X (J2 p) (.lp 1 [1, 4, 5] J34) ⟨[(1, .ptr 0 0), (4, .p (.s s.1)), (5, .p (.i .i64 s.2))], [.box (List.map AV.p (J5 b0))]⟩)
  | .inr o => J6r o
def J80 (x4 : List UInt8) : Option ((List UInt8) × Int) :=
  some (x4, 0)
theorem JhZ {x4 : List UInt8} {B0 : List PV} {o : (List UInt8) × Int} (h : J80 x4 = some o) :
    rk (J2 p) J25 0 [] (X (J2 p) J4b ⟨[(4, .p (.s x4))], [.box (List.map AV.p B0)]⟩) = J6r o := by
  unfold J80 at h
  obtain rfl := sj h
  try simp only [↓Da, Ua, J4b, JdB, ↓reduceIte, Nat.reduceEqDiff, Nat.reduceAdd, Nat.reduceLT, Nat.reduceMul]
  rfl
def J4d (b0 : T_api_Index) (x4 : List UInt8) (x5 : Int) : Option ((((List UInt8) × Int) ⊕ ((List UInt8) × Int))) :=
  if (decide (x5 < ((List.length b0.Rows : Nat) : Int))) then
    Option.bind (idx b0.Rows x5) fun y2 =>
    Option.bind (J2h x4 y2.LSN 8) fun r5 =>
    Option.bind (J2h r5 y2.Image 8) fun r8 =>
    Option.bind (J2h r8 y2.ImageLSN 8) fun r11 =>
    some (.inl (r11, (IntKind.wrap .i64 (x5 + 1))))
  else
    Option.map (fun o => .inr o) (J80 x4)
theorem JbU {b0 : T_api_Index} {x4 : List UInt8} {x5 : Int} {o : (((List UInt8) × Int) ⊕ ((List UInt8) × Int))} (h : J4d b0 x4 x5 = some o) :
    rk (J2 p) J25 0 [.lo 1 [1, 4, 5] J34, .bl 0, .sq (.keep [4] J4b)] (X (J2 p) J34 ⟨[(1, .ptr 0 0), (4, .p (.s x4)), (5, .p (.i .i64 x5))], [.box (List.map AV.p (J5 b0))]⟩) = (JhT p b0) o := by
  unfold J4d at h
  rcases Jb h with ⟨h1, h⟩ | ⟨h1, h⟩
  · obtain ⟨y2, h3, h⟩ := bi h
    have f4 := J2R (r := J7) h3
    try simp only [Nf, J1] at f4
    obtain ⟨r5, h6, h⟩ := bi h
    have f7 := Jaw p h6
    try simp only [Nf, J1] at f7
    obtain ⟨r8, h9, h⟩ := bi h
    have f10 := Jaw p h9
    try simp only [Nf, J1] at f10
    obtain ⟨r11, h12, h⟩ := bi h
    have f13 := Jaw p h12
    try simp only [Nf, J1] at f13
    obtain rfl := sj h
    try simp only [↓Da, Ua, J34, J1, Je, *, ↓reduceIte, Nat.reduceEqDiff, Nat.reduceAdd, Nat.reduceLT, Nat.reduceMul]
    rfl
  · obtain ⟨o', h', rfl⟩ := mi h
    try simp only [↓Da, Ua, J34, J1, Je, *, ↓reduceIte, Nat.reduceEqDiff, Nat.reduceAdd, Nat.reduceLT, Nat.reduceMul]
    have e0 := JhZ p (B0 := (J5 b0)) h'
    exact e0
def JbO (b0 : T_api_Index) (s : (List UInt8) × Int) : Option ((List UInt8) × Int) :=
  J00 (fun s => J4d b0 s.1 s.2) s
theorem JfJ {b0 : T_api_Index} {s : (List UInt8) × Int} {o : (List UInt8) × Int} (h : JbO b0 s = some o) :
    rk (J2 p) J25 0 [.bl 0, .sq (.keep [4] J4b)] (X (J2 p) (.lp 1 [1, 4, 5] J34) ⟨[(1, .ptr 0 0), (4, .p (.s s.1)), (5, .p (.i .i64 s.2))], [.box (List.map AV.p (J5 b0))]⟩) = J6r o := by
  have h0 : J00 (fun s => J4d b0 s.1 s.2) s = some o := h
  exact J2k (P := fun (s : (List UInt8) × Int) (o : (List UInt8) × Int) => rk (J2 p) J25 0 [.bl 0, .sq (.keep [4] J4b)] (X (J2 p) (.lp 1 [1, 4, 5] J34) ⟨[(1, .ptr 0 0), (4, .p (.s s.1)), (5, .p (.i .i64 s.2))], [.box (List.map AV.p (J5 b0))]⟩) = J6r o) (fun s r hs => by rw [J2e]; exact JbU p hs) (fun s s1 r hs ih => by rw [J2e]; exact (JbU p hs).trans ih) h0
def J3u (x0 : T_api_Index) : Option ((List UInt8) × Int) :=
  Option.bind (J2B x0) fun r1 =>
  if r1 then
    Option.bind (J2h ([]) ((List.length x0.Rows : Nat) : Int) 2) fun r5 =>
    JbO x0 (r5, 0)
  else
    some (([] : List UInt8), 28)
theorem JfD {x0 : T_api_Index} {o : (List UInt8) × Int} (h : J3u x0 = some o) :
    rk (J2 p) J25 0 [] (X (J2 p) J5k ⟨[(0, .data (J5 x0))], []⟩) = J6r o := by
  unfold J3u at h
  obtain ⟨r1, h2, h⟩ := bi h
  have f3 := J85 p h2
  try simp only [Nf, J1] at f3
  try simp only [↓Da, Ua, J5k, J1, Je, *, ↓reduceIte, Nat.reduceEqDiff, Nat.reduceAdd, Nat.reduceLT, Nat.reduceMul]
  rcases Jb h with ⟨h4, h⟩ | ⟨h4, h⟩
  · obtain ⟨r5, h6, h⟩ := bi h
    have f7 := Jaw p h6
    try simp only [Nf, J1] at f7
    try simp only [↓Da, Ua, J5k, J1, Je, *, ↓reduceIte, Nat.reduceEqDiff, Nat.reduceAdd, Nat.reduceLT, Nat.reduceMul]
    have e0 := JfJ p h
    exact e0
  · obtain rfl := sj h
    try simp only [↓Da, Ua, J5k, J1, Je, JdB, *, ↓reduceIte, Nat.reduceEqDiff, Nat.reduceAdd, Nat.reduceLT, Nat.reduceMul]
    rfl
theorem JiV {x0 : T_api_Index} {o : (List UInt8) × Int} (h : J3u x0 = some o) : AF (J2 p) J6p [.data (J5 x0)] [] = J6r o :=
  (J0s (J2 p) (JjE p) rfl).trans (JfD p h)
theorem Jjr {x0 : T_api_Index} {o : (List UInt8) × Int} (h : J3u x0 = some o) : ∀ ws new st, (Jo (AF (J2 p)) J6p ([.data (J5 x0)], ws) 0 new).run st = some ⟨.tup [.p (.s o.1), .p (.i .i64 o.2)], ws⟩ := JN rfl (JiV p h) rfl
def J0O  (r : Bool) : Option Res := some (.p (.b r), [])
def J8r (b0 : J3) : Option (Bool) :=
  if (decide (((List.length b0.Blob : Nat) : Int) ≤ 8192)) then
    Option.bind (J0W b0) fun r2 =>
    if r2 then
      Option.bind (J2H b0.Change) fun r6 =>
      some r6
    else
      some false
  else
    some false
theorem Jic {b0 : J3} {o : Bool} (h : J8r b0 = some o) :
    rk (J2 p) J0q 0 [] (X (J2 p) JJ ⟨[(1, .ptr 0 0), (3, .ptr 1 0)], [.box (List.map AV.p (J4 b0)), .box [.p (.b true), .p (.b false), .p (.b true), .p (.b false), .p (.b false), .fn JH [] [], .fn J0C [] []]]⟩) = J0O o := by
  unfold J8r at h
  rcases Jb h with ⟨h1, h⟩ | ⟨h1, h⟩
  · obtain ⟨r2, h3, h⟩ := bi h
    have f4 := J7T p h3
    try simp only [Nf, Jj, Jc, Jg] at f4
    try simp only [↓Da, Ua, JJ, Jj, Jc, Jg, *, ↓reduceIte, Nat.reduceEqDiff, Nat.reduceAdd, Nat.reduceLT, Nat.reduceMul]
    rcases Jb h with ⟨h5, h⟩ | ⟨h5, h⟩
    · obtain ⟨r6, h7, h⟩ := bi h
      have f8 := Jd8 p h7
      try simp only [Nf, Jj, Jc, Jg] at f8
      obtain rfl := sj h
      try simp only [↓Da, Ua, JJ, Jj, Jc, Jg, JG, *, ↓reduceIte, Nat.reduceEqDiff, Nat.reduceAdd, Nat.reduceLT, Nat.reduceMul]
      rfl
    · obtain rfl := sj h
      try simp only [↓Da, Ua, JJ, Jj, Jc, Jg, JG, *, ↓reduceIte, Nat.reduceEqDiff, Nat.reduceAdd, Nat.reduceLT, Nat.reduceMul]
      rfl
  · obtain rfl := sj h
    try simp only [↓Da, Ua, JJ, Jj, Jc, Jg, JG, *, ↓reduceIte, Nat.reduceEqDiff, Nat.reduceAdd, Nat.reduceLT, Nat.reduceMul]
    rfl
def J5J (x47 : Bool) (b0 : J3) : Option (Bool) :=
  if x47 then
    some false
  else
    if ((b0.Ref : Int) != 0) then
      some false
    else
      if (b0.Blob == []) then
        J8r b0
      else
        some false
theorem J9L {x47 : Bool} {b0 : J3} {o : Bool} (h : J5J x47 b0 = some o) :
    rk (J2 p) J0q 0 [.bl 0, .sq (.keep [1, 3] JJ)] (X (J2 p) Jx ⟨[(1, .ptr 0 0), (3, .ptr 1 0), (47, .p (.b x47))], [.box (List.map AV.p (J4 b0)), .box [.p (.b true), .p (.b false), .p (.b true), .p (.b false), .p (.b false), .fn JH [] [], .fn J0C [] []]]⟩) = J0O o := by
  unfold J5J at h
  rcases Jb h with ⟨h1, h⟩ | ⟨h1, h⟩
  · obtain rfl := sj h
    try simp only [↓Da, Ua, Jx, Jj, Jc, Jg, JG, *, ↓reduceIte, Nat.reduceEqDiff, Nat.reduceAdd, Nat.reduceLT, Nat.reduceMul]
    rfl
  · try simp only [↓Da, Ua, Jx, Jj, Jc, Jg, *, ↓reduceIte, Nat.reduceEqDiff, Nat.reduceAdd, Nat.reduceLT, Nat.reduceMul]
    rcases Jb h with ⟨h2, h⟩ | ⟨h2, h⟩
    · obtain rfl := sj h
      try simp only [↓Da, Ua, Jx, Jj, Jc, Jg, JG, *, ↓reduceIte, Nat.reduceEqDiff, Nat.reduceAdd, Nat.reduceLT, Nat.reduceMul]
      rfl
    · try simp only [↓Da, Ua, Jx, Jj, Jc, Jg, *, ↓reduceIte, Nat.reduceEqDiff, Nat.reduceAdd, Nat.reduceLT, Nat.reduceMul]
      rcases Jb h with ⟨h3, h⟩ | ⟨h3, h⟩
      · try simp only [↓Da, Ua, Jx, Jj, Jc, Jg, *, ↓reduceIte, Nat.reduceEqDiff, Nat.reduceAdd, Nat.reduceLT, Nat.reduceMul]
        have e0 := Jic p h
        exact e0
      · obtain rfl := sj h
        try simp only [↓Da, Ua, Jx, Jj, Jc, Jg, JG, *, ↓reduceIte, Nat.reduceEqDiff, Nat.reduceAdd, Nat.reduceLT, Nat.reduceMul]
        rfl
def J76 (b0 : J3) : Option (Bool) :=
  if (decide (b0.Tx < 1)) then
    J5J true b0
  else
    if (decide (b0.Tx > 1073741824)) then
      J5J true b0
    else
      J5J false b0
theorem JiM {b0 : J3} {o : Bool} (h : J76 b0 = some o) :
    rk (J2 p) J0q 0 [] (X (J2 p) J0d ⟨[(1, .ptr 0 0), (3, .ptr 1 0)], [.box (List.map AV.p (J4 b0)), .box [.p (.b true), .p (.b false), .p (.b true), .p (.b false), .p (.b false), .fn JH [] [], .fn J0C [] []]]⟩) = J0O o := by
  unfold J76 at h
  rcases Jb h with ⟨h1, h⟩ | ⟨h1, h⟩
  · try simp only [↓Da, Ua, J0d, Jj, Jc, Jg, *, ↓reduceIte, Nat.reduceEqDiff, Nat.reduceAdd, Nat.reduceLT, Nat.reduceMul]
    have e0 := J9L p h
    exact e0
  · try simp only [↓Da, Ua, J0d, Jj, Jc, Jg, *, ↓reduceIte, Nat.reduceEqDiff, Nat.reduceAdd, Nat.reduceLT, Nat.reduceMul]
    rcases Jb h with ⟨h2, h⟩ | ⟨h2, h⟩
    · try simp only [↓Da, Ua, J0d, Jj, Jc, Jg, *, ↓reduceIte, Nat.reduceEqDiff, Nat.reduceAdd, Nat.reduceLT, Nat.reduceMul]
      have e0 := J9L p h
      exact e0
    · try simp only [↓Da, Ua, J0d, Jj, Jc, Jg, *, ↓reduceIte, Nat.reduceEqDiff, Nat.reduceAdd, Nat.reduceLT, Nat.reduceMul]
      have e0 := J9L p h
      exact e0
def J7w (b0 : J3) : Option (Bool) :=
  if (decide (((List.length b0.Blob : Nat) : Int) ≤ 8192)) then
    Option.bind (J5g b0) fun r2 =>
    if r2 then
      Option.bind (J2H b0.Change) fun r6 =>
      some r6
    else
      some false
  else
    some false
theorem Jgq {b0 : J3} {o : Bool} (h : J7w b0 = some o) :
    rk (J2 p) J0q 0 [] (X (J2 p) JJ ⟨[(1, .ptr 0 0), (3, .ptr 1 0)], [.box (List.map AV.p (J4 b0)), .box [.p (.b true), .p (.b true), .p (.b true), .p (.b true), .p (.b false), .fn J1B [] [], .fn J0C [] []]]⟩) = J0O o := by
  unfold J7w at h
  rcases Jb h with ⟨h1, h⟩ | ⟨h1, h⟩
  · obtain ⟨r2, h3, h⟩ := bi h
    have f4 := JhU p h3
    try simp only [Nf, Jj, Jc, Jg] at f4
    try simp only [↓Da, Ua, JJ, Jj, Jc, Jg, *, ↓reduceIte, Nat.reduceEqDiff, Nat.reduceAdd, Nat.reduceLT, Nat.reduceMul]
    rcases Jb h with ⟨h5, h⟩ | ⟨h5, h⟩
    · obtain ⟨r6, h7, h⟩ := bi h
      have f8 := Jd8 p h7
      try simp only [Nf, Jj, Jc, Jg] at f8
      obtain rfl := sj h
      try simp only [↓Da, Ua, JJ, Jj, Jc, Jg, JG, *, ↓reduceIte, Nat.reduceEqDiff, Nat.reduceAdd, Nat.reduceLT, Nat.reduceMul]
      rfl
    · obtain rfl := sj h
      try simp only [↓Da, Ua, JJ, Jj, Jc, Jg, JG, *, ↓reduceIte, Nat.reduceEqDiff, Nat.reduceAdd, Nat.reduceLT, Nat.reduceMul]
      rfl
  · obtain rfl := sj h
    try simp only [↓Da, Ua, JJ, Jj, Jc, Jg, JG, *, ↓reduceIte, Nat.reduceEqDiff, Nat.reduceAdd, Nat.reduceLT, Nat.reduceMul]
    rfl
def J4N (x47 : Bool) (b0 : J3) : Option (Bool) :=
  if x47 then
    some false
  else
    if (b0.Blob == []) then
      J7w b0
    else
      some false
theorem J99 {x47 : Bool} {b0 : J3} {o : Bool} (h : J4N x47 b0 = some o) :
    rk (J2 p) J0q 0 [.bl 0, .sq (.keep [1, 3] JJ)] (X (J2 p) Jx ⟨[(1, .ptr 0 0), (3, .ptr 1 0), (47, .p (.b x47))], [.box (List.map AV.p (J4 b0)), .box [.p (.b true), .p (.b true), .p (.b true), .p (.b true), .p (.b false), .fn J1B [] [], .fn J0C [] []]]⟩) = J0O o := by
  unfold J4N at h
  rcases Jb h with ⟨h1, h⟩ | ⟨h1, h⟩
  · obtain rfl := sj h
    try simp only [↓Da, Ua, Jx, Jj, Jc, Jg, JG, *, ↓reduceIte, Nat.reduceEqDiff, Nat.reduceAdd, Nat.reduceLT, Nat.reduceMul]
    rfl
  · try simp only [↓Da, Ua, Jx, Jj, Jc, Jg, *, ↓reduceIte, Nat.reduceEqDiff, Nat.reduceAdd, Nat.reduceLT, Nat.reduceMul]
    rcases Jb h with ⟨h2, h⟩ | ⟨h2, h⟩
    · try simp only [↓Da, Ua, Jx, Jj, Jc, Jg, *, ↓reduceIte, Nat.reduceEqDiff, Nat.reduceAdd, Nat.reduceLT, Nat.reduceMul]
      have e0 := Jgq p h
      exact e0
    · obtain rfl := sj h
      try simp only [↓Da, Ua, Jx, Jj, Jc, Jg, JG, *, ↓reduceIte, Nat.reduceEqDiff, Nat.reduceAdd, Nat.reduceLT, Nat.reduceMul]
      rfl
def J60 (b0 : J3) : Option (Bool) :=
  if (decide (b0.Tx < 1)) then
    J4N true b0
  else
    if (decide (b0.Tx > 1073741824)) then
      J4N true b0
    else
      J4N ((b0.PrevTx : Int) == 0) b0
theorem Jgg {b0 : J3} {o : Bool} (h : J60 b0 = some o) :
    rk (J2 p) J0q 0 [] (X (J2 p) J0d ⟨[(1, .ptr 0 0), (3, .ptr 1 0)], [.box (List.map AV.p (J4 b0)), .box [.p (.b true), .p (.b true), .p (.b true), .p (.b true), .p (.b false), .fn J1B [] [], .fn J0C [] []]]⟩) = J0O o := by
  unfold J60 at h
  rcases Jb h with ⟨h1, h⟩ | ⟨h1, h⟩
  · try simp only [↓Da, Ua, J0d, Jj, Jc, Jg, *, ↓reduceIte, Nat.reduceEqDiff, Nat.reduceAdd, Nat.reduceLT, Nat.reduceMul]
    have e0 := J99 p h
    exact e0
  · try simp only [↓Da, Ua, J0d, Jj, Jc, Jg, *, ↓reduceIte, Nat.reduceEqDiff, Nat.reduceAdd, Nat.reduceLT, Nat.reduceMul]
    rcases Jb h with ⟨h2, h⟩ | ⟨h2, h⟩
    · try simp only [↓Da, Ua, J0d, Jj, Jc, Jg, *, ↓reduceIte, Nat.reduceEqDiff, Nat.reduceAdd, Nat.reduceLT, Nat.reduceMul]
      have e0 := J99 p h
      exact e0
    · try simp only [↓Da, Ua, J0d, Jj, Jc, Jg, *, ↓reduceIte, Nat.reduceEqDiff, Nat.reduceAdd, Nat.reduceLT, Nat.reduceMul]
      have e0 := J99 p h
      exact e0
def J7u (b0 : J3) : Option (Bool) :=
  if (decide (((List.length b0.Blob : Nat) : Int) ≤ 8192)) then
    Option.bind (J0W b0) fun r2 =>
    if r2 then
      Option.bind (J5z b0.Change) fun r6 =>
      some r6
    else
      some false
  else
    some false
theorem Jgm {b0 : J3} {o : Bool} (h : J7u b0 = some o) :
    rk (J2 p) J0q 0 [] (X (J2 p) JJ ⟨[(1, .ptr 0 0), (3, .ptr 1 0)], [.box (List.map AV.p (J4 b0)), .box [.p (.b true), .p (.b true), .p (.b false), .p (.b false), .p (.b false), .fn JH [] [], .fn J0m [] []]]⟩) = J0O o := by
  unfold J7u at h
  rcases Jb h with ⟨h1, h⟩ | ⟨h1, h⟩
  · obtain ⟨r2, h3, h⟩ := bi h
    have f4 := J7T p h3
    try simp only [Nf, Jj, Jc, Jg] at f4
    try simp only [↓Da, Ua, JJ, Jj, Jc, Jg, *, ↓reduceIte, Nat.reduceEqDiff, Nat.reduceAdd, Nat.reduceLT, Nat.reduceMul]
    rcases Jb h with ⟨h5, h⟩ | ⟨h5, h⟩
    · obtain ⟨r6, h7, h⟩ := bi h
      have f8 := JfR p h7
      try simp only [Nf, Jj, Jc, Jg] at f8
      obtain rfl := sj h
      try simp only [↓Da, Ua, JJ, Jj, Jc, Jg, JG, *, ↓reduceIte, Nat.reduceEqDiff, Nat.reduceAdd, Nat.reduceLT, Nat.reduceMul]
      rfl
    · obtain rfl := sj h
      try simp only [↓Da, Ua, JJ, Jj, Jc, Jg, JG, *, ↓reduceIte, Nat.reduceEqDiff, Nat.reduceAdd, Nat.reduceLT, Nat.reduceMul]
      rfl
  · obtain rfl := sj h
    try simp only [↓Da, Ua, JJ, Jj, Jc, Jg, JG, *, ↓reduceIte, Nat.reduceEqDiff, Nat.reduceAdd, Nat.reduceLT, Nat.reduceMul]
    rfl
def J4O (x47 : Bool) (b0 : J3) : Option (Bool) :=
  if x47 then
    some false
  else
    if ((b0.PrevPage : Int) != 0) then
      some false
    else
      if ((b0.Ref : Int) != 0) then
        some false
      else
        if (b0.Blob == []) then
          J7u b0
        else
          some false
theorem J95 {x47 : Bool} {b0 : J3} {o : Bool} (h : J4O x47 b0 = some o) :
    rk (J2 p) J0q 0 [.bl 0, .sq (.keep [1, 3] JJ)] (X (J2 p) Jx ⟨[(1, .ptr 0 0), (3, .ptr 1 0), (47, .p (.b x47))], [.box (List.map AV.p (J4 b0)), .box [.p (.b true), .p (.b true), .p (.b false), .p (.b false), .p (.b false), .fn JH [] [], .fn J0m [] []]]⟩) = J0O o := by
  unfold J4O at h
  rcases Jb h with ⟨h1, h⟩ | ⟨h1, h⟩
  · obtain rfl := sj h
    try simp only [↓Da, Ua, Jx, Jj, Jc, Jg, JG, *, ↓reduceIte, Nat.reduceEqDiff, Nat.reduceAdd, Nat.reduceLT, Nat.reduceMul]
    rfl
  · try simp only [↓Da, Ua, Jx, Jj, Jc, Jg, *, ↓reduceIte, Nat.reduceEqDiff, Nat.reduceAdd, Nat.reduceLT, Nat.reduceMul]
    rcases Jb h with ⟨h2, h⟩ | ⟨h2, h⟩
    · obtain rfl := sj h
      try simp only [↓Da, Ua, Jx, Jj, Jc, Jg, JG, *, ↓reduceIte, Nat.reduceEqDiff, Nat.reduceAdd, Nat.reduceLT, Nat.reduceMul]
      rfl
    · try simp only [↓Da, Ua, Jx, Jj, Jc, Jg, *, ↓reduceIte, Nat.reduceEqDiff, Nat.reduceAdd, Nat.reduceLT, Nat.reduceMul]
      rcases Jb h with ⟨h3, h⟩ | ⟨h3, h⟩
      · obtain rfl := sj h
        try simp only [↓Da, Ua, Jx, Jj, Jc, Jg, JG, *, ↓reduceIte, Nat.reduceEqDiff, Nat.reduceAdd, Nat.reduceLT, Nat.reduceMul]
        rfl
      · try simp only [↓Da, Ua, Jx, Jj, Jc, Jg, *, ↓reduceIte, Nat.reduceEqDiff, Nat.reduceAdd, Nat.reduceLT, Nat.reduceMul]
        rcases Jb h with ⟨h4, h⟩ | ⟨h4, h⟩
        · try simp only [↓Da, Ua, Jx, Jj, Jc, Jg, *, ↓reduceIte, Nat.reduceEqDiff, Nat.reduceAdd, Nat.reduceLT, Nat.reduceMul]
          have e0 := Jgm p h
          exact e0
        · obtain rfl := sj h
          try simp only [↓Da, Ua, Jx, Jj, Jc, Jg, JG, *, ↓reduceIte, Nat.reduceEqDiff, Nat.reduceAdd, Nat.reduceLT, Nat.reduceMul]
          rfl
def J3E (b0 : J3) : Option (Bool) :=
  if (decide (b0.Tx < 1)) then
    J4O true b0
  else
    if (decide (b0.Tx > 1073741824)) then
      J4O true b0
    else
      J4O ((b0.PrevTx : Int) == 0) b0
theorem J96 {b0 : J3} {o : Bool} (h : J3E b0 = some o) :
    rk (J2 p) J0q 0 [] (X (J2 p) J0d ⟨[(1, .ptr 0 0), (3, .ptr 1 0)], [.box (List.map AV.p (J4 b0)), .box [.p (.b true), .p (.b true), .p (.b false), .p (.b false), .p (.b false), .fn JH [] [], .fn J0m [] []]]⟩) = J0O o := by
  unfold J3E at h
  rcases Jb h with ⟨h1, h⟩ | ⟨h1, h⟩
  · try simp only [↓Da, Ua, J0d, Jj, Jc, Jg, *, ↓reduceIte, Nat.reduceEqDiff, Nat.reduceAdd, Nat.reduceLT, Nat.reduceMul]
    have e0 := J95 p h
    exact e0
  · try simp only [↓Da, Ua, J0d, Jj, Jc, Jg, *, ↓reduceIte, Nat.reduceEqDiff, Nat.reduceAdd, Nat.reduceLT, Nat.reduceMul]
    rcases Jb h with ⟨h2, h⟩ | ⟨h2, h⟩
    · try simp only [↓Da, Ua, J0d, Jj, Jc, Jg, *, ↓reduceIte, Nat.reduceEqDiff, Nat.reduceAdd, Nat.reduceLT, Nat.reduceMul]
      have e0 := J95 p h
      exact e0
    · try simp only [↓Da, Ua, J0d, Jj, Jc, Jg, *, ↓reduceIte, Nat.reduceEqDiff, Nat.reduceAdd, Nat.reduceLT, Nat.reduceMul]
      have e0 := J95 p h
      exact e0
def J7s (b0 : J3) : Option (Bool) :=
  if (decide (((List.length b0.Blob : Nat) : Int) ≤ 8192)) then
    Option.bind (J0W b0) fun r2 =>
    if r2 then
      Option.bind (J5z b0.Change) fun r6 =>
      some r6
    else
      some false
  else
    some false
theorem Jgk {b0 : J3} {o : Bool} (h : J7s b0 = some o) :
    rk (J2 p) J0q 0 [] (X (J2 p) JJ ⟨[(1, .ptr 0 0), (3, .ptr 1 0)], [.box (List.map AV.p (J4 b0)), .box [.p (.b false), .p (.b false), .p (.b false), .p (.b false), .p (.b true), .fn JH [] [], .fn J0m [] []]]⟩) = J0O o := by
  unfold J7s at h
  rcases Jb h with ⟨h1, h⟩ | ⟨h1, h⟩
  · obtain ⟨r2, h3, h⟩ := bi h
    have f4 := J7T p h3
    try simp only [Nf, Jj, Jc, Jg] at f4
    try simp only [↓Da, Ua, JJ, Jj, Jc, Jg, *, ↓reduceIte, Nat.reduceEqDiff, Nat.reduceAdd, Nat.reduceLT, Nat.reduceMul]
    rcases Jb h with ⟨h5, h⟩ | ⟨h5, h⟩
    · obtain ⟨r6, h7, h⟩ := bi h
      have f8 := JfR p h7
      try simp only [Nf, Jj, Jc, Jg] at f8
      obtain rfl := sj h
      try simp only [↓Da, Ua, JJ, Jj, Jc, Jg, JG, *, ↓reduceIte, Nat.reduceEqDiff, Nat.reduceAdd, Nat.reduceLT, Nat.reduceMul]
      rfl
    · obtain rfl := sj h
      try simp only [↓Da, Ua, JJ, Jj, Jc, Jg, JG, *, ↓reduceIte, Nat.reduceEqDiff, Nat.reduceAdd, Nat.reduceLT, Nat.reduceMul]
      rfl
  · obtain rfl := sj h
    try simp only [↓Da, Ua, JJ, Jj, Jc, Jg, JG, *, ↓reduceIte, Nat.reduceEqDiff, Nat.reduceAdd, Nat.reduceLT, Nat.reduceMul]
    rfl
def J7y (x47 : Bool) (b0 : J3) : Option (Bool) :=
  if x47 then
    some false
  else
    if ((b0.Tx : Int) != 0) then
      some false
    else
      if ((b0.PrevTx : Int) != 0) then
        some false
      else
        if ((b0.PrevPage : Int) != 0) then
          some false
        else
          if ((b0.Ref : Int) != 0) then
            some false
          else
            J7s b0
theorem Jgn {x47 : Bool} {b0 : J3} {o : Bool} (h : J7y x47 b0 = some o) :
    rk (J2 p) J0q 0 [.bl 0, .sq (.keep [1, 3] JJ)] (X (J2 p) Jx ⟨[(1, .ptr 0 0), (3, .ptr 1 0), (47, .p (.b x47))], [.box (List.map AV.p (J4 b0)), .box [.p (.b false), .p (.b false), .p (.b false), .p (.b false), .p (.b true), .fn JH [] [], .fn J0m [] []]]⟩) = J0O o := by
  unfold J7y at h
  rcases Jb h with ⟨h1, h⟩ | ⟨h1, h⟩
  · obtain rfl := sj h
    try simp only [↓Da, Ua, Jx, Jj, Jc, Jg, JG, *, ↓reduceIte, Nat.reduceEqDiff, Nat.reduceAdd, Nat.reduceLT, Nat.reduceMul]
    rfl
  · try simp only [↓Da, Ua, Jx, Jj, Jc, Jg, *, ↓reduceIte, Nat.reduceEqDiff, Nat.reduceAdd, Nat.reduceLT, Nat.reduceMul]
    rcases Jb h with ⟨h2, h⟩ | ⟨h2, h⟩
    · obtain rfl := sj h
      try simp only [↓Da, Ua, Jx, Jj, Jc, Jg, JG, *, ↓reduceIte, Nat.reduceEqDiff, Nat.reduceAdd, Nat.reduceLT, Nat.reduceMul]
      rfl
    · try simp only [↓Da, Ua, Jx, Jj, Jc, Jg, *, ↓reduceIte, Nat.reduceEqDiff, Nat.reduceAdd, Nat.reduceLT, Nat.reduceMul]
      rcases Jb h with ⟨h3, h⟩ | ⟨h3, h⟩
      · obtain rfl := sj h
        try simp only [↓Da, Ua, Jx, Jj, Jc, Jg, JG, *, ↓reduceIte, Nat.reduceEqDiff, Nat.reduceAdd, Nat.reduceLT, Nat.reduceMul]
        rfl
      · try simp only [↓Da, Ua, Jx, Jj, Jc, Jg, *, ↓reduceIte, Nat.reduceEqDiff, Nat.reduceAdd, Nat.reduceLT, Nat.reduceMul]
        rcases Jb h with ⟨h4, h⟩ | ⟨h4, h⟩
        · obtain rfl := sj h
          try simp only [↓Da, Ua, Jx, Jj, Jc, Jg, JG, *, ↓reduceIte, Nat.reduceEqDiff, Nat.reduceAdd, Nat.reduceLT, Nat.reduceMul]
          rfl
        · try simp only [↓Da, Ua, Jx, Jj, Jc, Jg, *, ↓reduceIte, Nat.reduceEqDiff, Nat.reduceAdd, Nat.reduceLT, Nat.reduceMul]
          rcases Jb h with ⟨h5, h⟩ | ⟨h5, h⟩
          · obtain rfl := sj h
            try simp only [↓Da, Ua, Jx, Jj, Jc, Jg, JG, *, ↓reduceIte, Nat.reduceEqDiff, Nat.reduceAdd, Nat.reduceLT, Nat.reduceMul]
            rfl
          · try simp only [↓Da, Ua, Jx, Jj, Jc, Jg, *, ↓reduceIte, Nat.reduceEqDiff, Nat.reduceAdd, Nat.reduceLT, Nat.reduceMul]
            have e0 := Jgk p h
            exact e0
def J4P (b0 : J3) : Option (Bool) :=
  J7y false b0
theorem JaU {b0 : J3} {o : Bool} (h : J4P b0 = some o) :
    rk (J2 p) J0q 0 [] (X (J2 p) J0d ⟨[(1, .ptr 0 0), (3, .ptr 1 0)], [.box (List.map AV.p (J4 b0)), .box [.p (.b false), .p (.b false), .p (.b false), .p (.b false), .p (.b true), .fn JH [] [], .fn J0m [] []]]⟩) = J0O o := by
  unfold J4P at h
  try simp only [↓Da, Ua, J0d, ↓reduceIte, Nat.reduceEqDiff, Nat.reduceAdd, Nat.reduceLT, Nat.reduceMul]
  have e0 := Jgn p h
  exact e0
def J5Y (b0 : J3) : Option (Bool) :=
  if (decide (((List.length b0.Blob : Nat) : Int) ≤ 8192)) then
    Option.bind (J0W b0) fun r2 =>
    if r2 then
      Option.bind (J4e b0.Change) fun r6 =>
      some r6
    else
      some false
  else
    some false
theorem JgK {b0 : J3} {o : Bool} (h : J5Y b0 = some o) :
    rk (J2 p) J0q 0 [] (X (J2 p) JJ ⟨[(1, .ptr 0 0), (3, .ptr 1 0)], [.box (List.map AV.p (J4 b0)), .box [.p (.b false), .p (.b false), .p (.b false), .p (.b true), .p (.b false), .fn JH [] [], .fn J1x [] []]]⟩) = J0O o := by
  unfold J5Y at h
  rcases Jb h with ⟨h1, h⟩ | ⟨h1, h⟩
  · obtain ⟨r2, h3, h⟩ := bi h
    have f4 := J7T p h3
    try simp only [Nf, Jj, Jc, Jg] at f4
    try simp only [↓Da, Ua, JJ, Jj, Jc, Jg, *, ↓reduceIte, Nat.reduceEqDiff, Nat.reduceAdd, Nat.reduceLT, Nat.reduceMul]
    rcases Jb h with ⟨h5, h⟩ | ⟨h5, h⟩
    · obtain ⟨r6, h7, h⟩ := bi h
      have f8 := Jhv p h7
      try simp only [Nf, Jj, Jc, Jg] at f8
      obtain rfl := sj h
      try simp only [↓Da, Ua, JJ, Jj, Jc, Jg, JG, *, ↓reduceIte, Nat.reduceEqDiff, Nat.reduceAdd, Nat.reduceLT, Nat.reduceMul]
      rfl
    · obtain rfl := sj h
      try simp only [↓Da, Ua, JJ, Jj, Jc, Jg, JG, *, ↓reduceIte, Nat.reduceEqDiff, Nat.reduceAdd, Nat.reduceLT, Nat.reduceMul]
      rfl
  · obtain rfl := sj h
    try simp only [↓Da, Ua, JJ, Jj, Jc, Jg, JG, *, ↓reduceIte, Nat.reduceEqDiff, Nat.reduceAdd, Nat.reduceLT, Nat.reduceMul]
    rfl
def J5Z (x47 : Bool) (b0 : J3) : Option (Bool) :=
  if x47 then
    some false
  else
    if ((b0.Tx : Int) != 0) then
      some false
    else
      if ((b0.PrevTx : Int) != 0) then
        some false
      else
        if ((b0.PrevPage : Int) != 0) then
          some false
        else
          if (b0.Blob == []) then
            J5Y b0
          else
            some false
theorem Jge {x47 : Bool} {b0 : J3} {o : Bool} (h : J5Z x47 b0 = some o) :
    rk (J2 p) J0q 0 [.bl 0, .sq (.keep [1, 3] JJ)] (X (J2 p) Jx ⟨[(1, .ptr 0 0), (3, .ptr 1 0), (47, .p (.b x47))], [.box (List.map AV.p (J4 b0)), .box [.p (.b false), .p (.b false), .p (.b false), .p (.b true), .p (.b false), .fn JH [] [], .fn J1x [] []]]⟩) = J0O o := by
  unfold J5Z at h
  rcases Jb h with ⟨h1, h⟩ | ⟨h1, h⟩
  · obtain rfl := sj h
    try simp only [↓Da, Ua, Jx, Jj, Jc, Jg, JG, *, ↓reduceIte, Nat.reduceEqDiff, Nat.reduceAdd, Nat.reduceLT, Nat.reduceMul]
    rfl
  · try simp only [↓Da, Ua, Jx, Jj, Jc, Jg, *, ↓reduceIte, Nat.reduceEqDiff, Nat.reduceAdd, Nat.reduceLT, Nat.reduceMul]
    rcases Jb h with ⟨h2, h⟩ | ⟨h2, h⟩
    · obtain rfl := sj h
      try simp only [↓Da, Ua, Jx, Jj, Jc, Jg, JG, *, ↓reduceIte, Nat.reduceEqDiff, Nat.reduceAdd, Nat.reduceLT, Nat.reduceMul]
      rfl
    · try simp only [↓Da, Ua, Jx, Jj, Jc, Jg, *, ↓reduceIte, Nat.reduceEqDiff, Nat.reduceAdd, Nat.reduceLT, Nat.reduceMul]
      rcases Jb h with ⟨h3, h⟩ | ⟨h3, h⟩
      · obtain rfl := sj h
        try simp only [↓Da, Ua, Jx, Jj, Jc, Jg, JG, *, ↓reduceIte, Nat.reduceEqDiff, Nat.reduceAdd, Nat.reduceLT, Nat.reduceMul]
        rfl
      · try simp only [↓Da, Ua, Jx, Jj, Jc, Jg, *, ↓reduceIte, Nat.reduceEqDiff, Nat.reduceAdd, Nat.reduceLT, Nat.reduceMul]
        rcases Jb h with ⟨h4, h⟩ | ⟨h4, h⟩
        · obtain rfl := sj h
          try simp only [↓Da, Ua, Jx, Jj, Jc, Jg, JG, *, ↓reduceIte, Nat.reduceEqDiff, Nat.reduceAdd, Nat.reduceLT, Nat.reduceMul]
          rfl
        · try simp only [↓Da, Ua, Jx, Jj, Jc, Jg, *, ↓reduceIte, Nat.reduceEqDiff, Nat.reduceAdd, Nat.reduceLT, Nat.reduceMul]
          rcases Jb h with ⟨h5, h⟩ | ⟨h5, h⟩
          · try simp only [↓Da, Ua, Jx, Jj, Jc, Jg, *, ↓reduceIte, Nat.reduceEqDiff, Nat.reduceAdd, Nat.reduceLT, Nat.reduceMul]
            have e0 := JgK p h
            exact e0
          · obtain rfl := sj h
            try simp only [↓Da, Ua, Jx, Jj, Jc, Jg, JG, *, ↓reduceIte, Nat.reduceEqDiff, Nat.reduceAdd, Nat.reduceLT, Nat.reduceMul]
            rfl
def J4R (b0 : J3) : Option (Bool) :=
  J5Z false b0
theorem Jgh {b0 : J3} {o : Bool} (h : J4R b0 = some o) :
    rk (J2 p) J0q 0 [] (X (J2 p) J0d ⟨[(1, .ptr 0 0), (3, .ptr 1 0)], [.box (List.map AV.p (J4 b0)), .box [.p (.b false), .p (.b false), .p (.b false), .p (.b true), .p (.b false), .fn JH [] [], .fn J1x [] []]]⟩) = J0O o := by
  unfold J4R at h
  try simp only [↓Da, Ua, J0d, ↓reduceIte, Nat.reduceEqDiff, Nat.reduceAdd, Nat.reduceLT, Nat.reduceMul]
  have e0 := Jge p h
  exact e0
def J2C (x0 : J3) : Option (Bool) :=
  if (decide (x0.LSN < 1)) then
    some false
  else
    if (decide (x0.LSN > 1099511627776)) then
      some false
    else
      if (decide (x0.Kind < 1)) then
        some false
      else
        if (decide (x0.Kind > 8)) then
          some false
        else
          Option.bind (J2N x0.PrevTx x0) fun r5 =>
          if r5 then
            Option.bind (J2N x0.PrevPage x0) fun r9 =>
            if r9 then
              Option.bind (J2N x0.Ref x0) fun r13 =>
              if r13 then
                Option.bind (J5P) fun r17 =>
                if ((x0.Kind : Int) == 1) then
                  J76 x0
                else
                  if ((x0.Kind : Int) == 2) then
                    J60 x0
                  else
                    if ((x0.Kind : Int) == 3) then
                      J3E x0
                    else
                      if ((x0.Kind : Int) == 4) then
                        J3E x0
                      else
                        if ((x0.Kind : Int) == 5) then
                          J3E x0
                        else
                          if ((x0.Kind : Int) == 6) then
                            J4P x0
                          else
                            if ((x0.Kind : Int) == 7) then
                              J4R x0
                            else
                              if ((x0.Kind : Int) == 8) then
                                J4P x0
                              else
                                none
              else
                some false
            else
              some false
          else
            some false
theorem Jgp {x0 : J3} {o : Bool} (h : J2C x0 = some o) :
    rk (J2 p) J0q 0 [] (X (J2 p) JO ⟨[(0, .data (J4 x0))], []⟩) = J0O o := by
  unfold J2C at h
  rcases Jb h with ⟨h1, h⟩ | ⟨h1, h⟩
  · obtain rfl := sj h
    try simp only [↓Da, Ua, Ra, JO, Jj, Jc, Jg, JG, *, ↓reduceIte, Nat.reduceEqDiff, Nat.reduceAdd, Nat.reduceLT, Nat.reduceMul, Nat.reduceBEq]
    rfl
  · try simp only [↓Da, Ua, Ra, JO, Jj, Jc, Jg, *, ↓reduceIte, Nat.reduceEqDiff, Nat.reduceAdd, Nat.reduceLT, Nat.reduceMul, Nat.reduceBEq]
    rcases Jb h with ⟨h2, h⟩ | ⟨h2, h⟩
    · obtain rfl := sj h
      try simp only [↓Da, Ua, Ra, JO, Jj, Jc, Jg, JG, *, ↓reduceIte, Nat.reduceEqDiff, Nat.reduceAdd, Nat.reduceLT, Nat.reduceMul, Nat.reduceBEq]
      rfl
    · try simp only [↓Da, Ua, Ra, JO, Jj, Jc, Jg, *, ↓reduceIte, Nat.reduceEqDiff, Nat.reduceAdd, Nat.reduceLT, Nat.reduceMul, Nat.reduceBEq]
      rcases Jb h with ⟨h3, h⟩ | ⟨h3, h⟩
      · obtain rfl := sj h
        try simp only [↓Da, Ua, Ra, JO, Jj, Jc, Jg, JG, *, ↓reduceIte, Nat.reduceEqDiff, Nat.reduceAdd, Nat.reduceLT, Nat.reduceMul, Nat.reduceBEq]
        rfl
      · try simp only [↓Da, Ua, Ra, JO, Jj, Jc, Jg, *, ↓reduceIte, Nat.reduceEqDiff, Nat.reduceAdd, Nat.reduceLT, Nat.reduceMul, Nat.reduceBEq]
        rcases Jb h with ⟨h4, h⟩ | ⟨h4, h⟩
        · obtain rfl := sj h
          try simp only [↓Da, Ua, Ra, JO, Jj, Jc, Jg, JG, *, ↓reduceIte, Nat.reduceEqDiff, Nat.reduceAdd, Nat.reduceLT, Nat.reduceMul, Nat.reduceBEq]
          rfl
        · obtain ⟨r5, h6, h⟩ := bi h
          have f7 := Jao p h6
          try simp only [Nf, Jj, Jc, Jg] at f7
          try simp only [↓Da, Ua, Ra, JO, Jj, Jc, Jg, *, ↓reduceIte, Nat.reduceEqDiff, Nat.reduceAdd, Nat.reduceLT, Nat.reduceMul, Nat.reduceBEq]
          rcases Jb h with ⟨h8, h⟩ | ⟨h8, h⟩
          · obtain ⟨r9, h10, h⟩ := bi h
            have f11 := Jao p h10
            try simp only [Nf, Jj, Jc, Jg] at f11
            try simp only [↓Da, Ua, Ra, JO, Jj, Jc, Jg, *, ↓reduceIte, Nat.reduceEqDiff, Nat.reduceAdd, Nat.reduceLT, Nat.reduceMul, Nat.reduceBEq]
            rcases Jb h with ⟨h12, h⟩ | ⟨h12, h⟩
            · obtain ⟨r13, h14, h⟩ := bi h
              have f15 := Jao p h14
              try simp only [Nf, Jj, Jc, Jg] at f15
              try simp only [↓Da, Ua, Ra, JO, Jj, Jc, Jg, *, ↓reduceIte, Nat.reduceEqDiff, Nat.reduceAdd, Nat.reduceLT, Nat.reduceMul, Nat.reduceBEq]
              rcases Jb h with ⟨h16, h⟩ | ⟨h16, h⟩
              · obtain ⟨r17, h18, h⟩ := bi h
                have f19 := JkO p h18
                try simp only [Nf, Jj, Jc, Jg] at f19
                have f20 : ∀ ws k new s, Jn ((Jo (AF (J2 p)) J5S ([], ws) k new).reads s) = [] := J4h rfl
                try simp only [Nf, Jj, Jc, Jg] at f20
                try simp only [↓Da, Ua, Ra, JO, Jj, Jc, Jg, *, ↓reduceIte, Nat.reduceEqDiff, Nat.reduceAdd, Nat.reduceLT, Nat.reduceMul, Nat.reduceBEq]
                rcases Jb h with ⟨h21, h⟩ | ⟨h21, h⟩
                · have h21n : ((x0.Kind : Int) != 1) = false := by rw [bne, h21]; rfl
                  have h21k : x0.Kind = 1 := by simpa using h21
                  have f22 : (0 ≤ (x0.Kind : Int) ∧ (x0.Kind : Int) < ((9 : Nat) : Int)) = True := by rw [h21k]; decide
                  have f23 : Int.toNat x0.Kind * 7 = 7 := by rw [h21k]; rfl
                  clear h21k
                  try simp only [↓Da, Ua, Ra, JO, Jj, Jc, Jg, *, ↓reduceIte, Nat.reduceEqDiff, Nat.reduceAdd, Nat.reduceLT, Nat.reduceMul, Nat.reduceBEq]
                  have e0 := JiM p h
                  exact e0
                · have h21n : ((x0.Kind : Int) != 1) = true := by rw [bne, h21]; rfl
                  try simp only [↓Da, Ua, Ra, JO, Jj, Jc, Jg, *, ↓reduceIte, Nat.reduceEqDiff, Nat.reduceAdd, Nat.reduceLT, Nat.reduceMul, Nat.reduceBEq]
                  rcases Jb h with ⟨h24, h⟩ | ⟨h24, h⟩
                  · have h24n : ((x0.Kind : Int) != 2) = false := by rw [bne, h24]; rfl
                    have h24k : x0.Kind = 2 := by simpa using h24
                    have f25 : (0 ≤ (x0.Kind : Int) ∧ (x0.Kind : Int) < ((9 : Nat) : Int)) = True := by rw [h24k]; decide
                    have f26 : Int.toNat x0.Kind * 7 = 14 := by rw [h24k]; rfl
                    clear h24k
                    try simp only [↓Da, Ua, Ra, JO, Jj, Jc, Jg, *, ↓reduceIte, Nat.reduceEqDiff, Nat.reduceAdd, Nat.reduceLT, Nat.reduceMul, Nat.reduceBEq]
                    have e0 := Jgg p h
                    exact e0
                  · have h24n : ((x0.Kind : Int) != 2) = true := by rw [bne, h24]; rfl
                    try simp only [↓Da, Ua, Ra, JO, Jj, Jc, Jg, *, ↓reduceIte, Nat.reduceEqDiff, Nat.reduceAdd, Nat.reduceLT, Nat.reduceMul, Nat.reduceBEq]
                    rcases Jb h with ⟨h27, h⟩ | ⟨h27, h⟩
                    · have h27n : ((x0.Kind : Int) != 3) = false := by rw [bne, h27]; rfl
                      have h27k : x0.Kind = 3 := by simpa using h27
                      have f28 : (0 ≤ (x0.Kind : Int) ∧ (x0.Kind : Int) < ((9 : Nat) : Int)) = True := by rw [h27k]; decide
                      have f29 : Int.toNat x0.Kind * 7 = 21 := by rw [h27k]; rfl
                      clear h27k
                      try simp only [↓Da, Ua, Ra, JO, Jj, Jc, Jg, *, ↓reduceIte, Nat.reduceEqDiff, Nat.reduceAdd, Nat.reduceLT, Nat.reduceMul, Nat.reduceBEq]
                      have e0 := J96 p h
                      exact e0
                    · have h27n : ((x0.Kind : Int) != 3) = true := by rw [bne, h27]; rfl
                      try simp only [↓Da, Ua, Ra, JO, Jj, Jc, Jg, *, ↓reduceIte, Nat.reduceEqDiff, Nat.reduceAdd, Nat.reduceLT, Nat.reduceMul, Nat.reduceBEq]
                      rcases Jb h with ⟨h30, h⟩ | ⟨h30, h⟩
                      · have h30n : ((x0.Kind : Int) != 4) = false := by rw [bne, h30]; rfl
                        have h30k : x0.Kind = 4 := by simpa using h30
                        have f31 : (0 ≤ (x0.Kind : Int) ∧ (x0.Kind : Int) < ((9 : Nat) : Int)) = True := by rw [h30k]; decide
                        have f32 : Int.toNat x0.Kind * 7 = 28 := by rw [h30k]; rfl
                        clear h30k
                        try simp only [↓Da, Ua, Ra, JO, Jj, Jc, Jg, *, ↓reduceIte, Nat.reduceEqDiff, Nat.reduceAdd, Nat.reduceLT, Nat.reduceMul, Nat.reduceBEq]
                        have e0 := J96 p h
                        exact e0
                      · have h30n : ((x0.Kind : Int) != 4) = true := by rw [bne, h30]; rfl
                        try simp only [↓Da, Ua, Ra, JO, Jj, Jc, Jg, *, ↓reduceIte, Nat.reduceEqDiff, Nat.reduceAdd, Nat.reduceLT, Nat.reduceMul, Nat.reduceBEq]
                        rcases Jb h with ⟨h33, h⟩ | ⟨h33, h⟩
                        · have h33n : ((x0.Kind : Int) != 5) = false := by rw [bne, h33]; rfl
                          have h33k : x0.Kind = 5 := by simpa using h33
                          have f34 : (0 ≤ (x0.Kind : Int) ∧ (x0.Kind : Int) < ((9 : Nat) : Int)) = True := by rw [h33k]; decide
                          have f35 : Int.toNat x0.Kind * 7 = 35 := by rw [h33k]; rfl
                          clear h33k
                          try simp only [↓Da, Ua, Ra, JO, Jj, Jc, Jg, *, ↓reduceIte, Nat.reduceEqDiff, Nat.reduceAdd, Nat.reduceLT, Nat.reduceMul, Nat.reduceBEq]
                          have e0 := J96 p h
                          exact e0
                        · have h33n : ((x0.Kind : Int) != 5) = true := by rw [bne, h33]; rfl
                          try simp only [↓Da, Ua, Ra, JO, Jj, Jc, Jg, *, ↓reduceIte, Nat.reduceEqDiff, Nat.reduceAdd, Nat.reduceLT, Nat.reduceMul, Nat.reduceBEq]
                          rcases Jb h with ⟨h36, h⟩ | ⟨h36, h⟩
                          · have h36n : ((x0.Kind : Int) != 6) = false := by rw [bne, h36]; rfl
                            have h36k : x0.Kind = 6 := by simpa using h36
                            have f37 : (0 ≤ (x0.Kind : Int) ∧ (x0.Kind : Int) < ((9 : Nat) : Int)) = True := by rw [h36k]; decide
                            have f38 : Int.toNat x0.Kind * 7 = 42 := by rw [h36k]; rfl
                            clear h36k
                            try simp only [↓Da, Ua, Ra, JO, Jj, Jc, Jg, *, ↓reduceIte, Nat.reduceEqDiff, Nat.reduceAdd, Nat.reduceLT, Nat.reduceMul, Nat.reduceBEq]
                            have e0 := JaU p h
                            exact e0
                          · have h36n : ((x0.Kind : Int) != 6) = true := by rw [bne, h36]; rfl
                            try simp only [↓Da, Ua, Ra, JO, Jj, Jc, Jg, *, ↓reduceIte, Nat.reduceEqDiff, Nat.reduceAdd, Nat.reduceLT, Nat.reduceMul, Nat.reduceBEq]
                            rcases Jb h with ⟨h39, h⟩ | ⟨h39, h⟩
                            · have h39n : ((x0.Kind : Int) != 7) = false := by rw [bne, h39]; rfl
                              have h39k : x0.Kind = 7 := by simpa using h39
                              have f40 : (0 ≤ (x0.Kind : Int) ∧ (x0.Kind : Int) < ((9 : Nat) : Int)) = True := by rw [h39k]; decide
                              have f41 : Int.toNat x0.Kind * 7 = 49 := by rw [h39k]; rfl
                              clear h39k
                              try simp only [↓Da, Ua, Ra, JO, Jj, Jc, Jg, *, ↓reduceIte, Nat.reduceEqDiff, Nat.reduceAdd, Nat.reduceLT, Nat.reduceMul, Nat.reduceBEq]
                              have e0 := Jgh p h
                              exact e0
                            · have h39n : ((x0.Kind : Int) != 7) = true := by rw [bne, h39]; rfl
                              try simp only [↓Da, Ua, Ra, JO, Jj, Jc, Jg, *, ↓reduceIte, Nat.reduceEqDiff, Nat.reduceAdd, Nat.reduceLT, Nat.reduceMul, Nat.reduceBEq]
                              rcases Jb h with ⟨h42, h⟩ | ⟨h42, h⟩
                              · have h42n : ((x0.Kind : Int) != 8) = false := by rw [bne, h42]; rfl
                                have h42k : x0.Kind = 8 := by simpa using h42
                                have f43 : (0 ≤ (x0.Kind : Int) ∧ (x0.Kind : Int) < ((9 : Nat) : Int)) = True := by rw [h42k]; decide
                                have f44 : Int.toNat x0.Kind * 7 = 56 := by rw [h42k]; rfl
                                clear h42k
                                try simp only [↓Da, Ua, Ra, JO, Jj, Jc, Jg, *, ↓reduceIte, Nat.reduceEqDiff, Nat.reduceAdd, Nat.reduceLT, Nat.reduceMul, Nat.reduceBEq]
                                have e0 := JaU p h
                                exact e0
                              · have h42n : ((x0.Kind : Int) != 8) = true := by rw [bne, h42]; rfl
                                cases h
              · obtain rfl := sj h
                try simp only [↓Da, Ua, Ra, JO, Jj, Jc, Jg, JG, *, ↓reduceIte, Nat.reduceEqDiff, Nat.reduceAdd, Nat.reduceLT, Nat.reduceMul, Nat.reduceBEq]
                rfl
            · obtain rfl := sj h
              try simp only [↓Da, Ua, Ra, JO, Jj, Jc, Jg, JG, *, ↓reduceIte, Nat.reduceEqDiff, Nat.reduceAdd, Nat.reduceLT, Nat.reduceMul, Nat.reduceBEq]
              rfl
          · obtain rfl := sj h
            try simp only [↓Da, Ua, Ra, JO, Jj, Jc, Jg, JG, *, ↓reduceIte, Nat.reduceEqDiff, Nat.reduceAdd, Nat.reduceLT, Nat.reduceMul, Nat.reduceBEq]
            rfl
theorem JkK {x0 : J3} {o : Bool} (h : J2C x0 = some o) : AF (J2 p) J6N [.data (J4 x0)] [] = J0O o :=
  (J0s (J2 p) (Jkw p) rfl).trans (Jgp p h)
theorem JkW {x0 : J3} {o : Bool} (h : J2C x0 = some o) : ∀ ws new st, (Jo (AF (J2 p)) J6N ([.data (J4 x0)], ws) 0 new).run st = some ⟨.p (.b o), ws⟩ := JN rfl (JkK p h) rfl
end
end Go.Am
end
section
namespace Go.Am
set_option maxRecDepth 8000
set_option maxHeartbeats 4000000
set_option linter.unusedSimpArgs false
set_option linter.unusedVariables false
noncomputable section
variable (p : FuncId → Option (List AV → List Blk → Option Res))
def JeI  (r : Bool) : Option Res := some (.p (.b r), [])
def J2E (x0 : J3) : Option (Bool) :=
  Option.bind (J0w x0) fun r1 =>
  if r1.2 then
    if (r1.1 == x0) then
      if (decide (x0.LSN ≥ 1)) then
        if (decide (x0.LSN ≤ 1099511627776)) then
          Option.bind (J2O x0.PrevTx x0.LSN) fun r9 =>
          if r9 then
            Option.bind (J2O x0.PrevPage x0.LSN) fun r13 =>
            if r13 then
              Option.bind (J2O x0.Ref x0.LSN) fun r17 =>
              some r17
            else
              some false
          else
            some false
        else
          some false
      else
        some false
    else
      some false
  else
    some false
theorem JgH {x0 : J3} {o : Bool} (h : J2E x0 = some o) :
    rk (J2 p) J6S 0 [] (X (J2 p) J0P ⟨[(0, .data (J4 x0))], []⟩) = JeI o := by
  unfold J2E at h
  obtain ⟨r1, h2, h⟩ := bi h
  have f3 := Jkx p h2
  try simp only [Nf] at f3
  try simp only [↓Da, Ua, J0P, Ja, J8, Jh, *, ↓reduceIte, Nat.reduceEqDiff, Nat.reduceAdd, Nat.reduceLT, Nat.reduceMul]
  rcases Jb h with ⟨h4, h⟩ | ⟨h4, h⟩
  · try simp only [↓Da, Ua, J0P, Ja, J8, Jh, J2y, *, ↓reduceIte, Nat.reduceEqDiff, Nat.reduceAdd, Nat.reduceLT, Nat.reduceMul]
    rcases Jb h with ⟨h6, h⟩ | ⟨h6, h⟩
    · try simp only [↓Da, Ua, J0P, Ja, J8, Jh, J2y, *, ↓reduceIte, Nat.reduceEqDiff, Nat.reduceAdd, Nat.reduceLT, Nat.reduceMul]
      rcases Jb h with ⟨h7, h⟩ | ⟨h7, h⟩
      · try simp only [↓Da, Ua, J0P, Ja, J8, Jh, J2y, *, ↓reduceIte, Nat.reduceEqDiff, Nat.reduceAdd, Nat.reduceLT, Nat.reduceMul]
        rcases Jb h with ⟨h8, h⟩ | ⟨h8, h⟩
        · obtain ⟨r9, h10, h⟩ := bi h
          have f11 := Jaf p h10
          try simp only [Nf] at f11
          try simp only [↓Da, Ua, J0P, Ja, J8, Jh, J2y, *, ↓reduceIte, Nat.reduceEqDiff, Nat.reduceAdd, Nat.reduceLT, Nat.reduceMul]
          rcases Jb h with ⟨h12, h⟩ | ⟨h12, h⟩
          · obtain ⟨r13, h14, h⟩ := bi h
            have f15 := Jaf p h14
            try simp only [Nf] at f15
            try simp only [↓Da, Ua, J0P, Ja, J8, Jh, J2y, *, ↓reduceIte, Nat.reduceEqDiff, Nat.reduceAdd, Nat.reduceLT, Nat.reduceMul]
            rcases Jb h with ⟨h16, h⟩ | ⟨h16, h⟩
            · obtain ⟨r17, h18, h⟩ := bi h
              have f19 := Jaf p h18
              try simp only [Nf] at f19
              obtain rfl := sj h
              try simp only [↓Da, Ua, J0P, Ja, J8, Jh, J2y, J5N, *, ↓reduceIte, Nat.reduceEqDiff, Nat.reduceAdd, Nat.reduceLT, Nat.reduceMul]
              rfl
            · obtain rfl := sj h
              try simp only [↓Da, Ua, J0P, Ja, J8, Jh, J2y, J5N, *, ↓reduceIte, Nat.reduceEqDiff, Nat.reduceAdd, Nat.reduceLT, Nat.reduceMul]
              rfl
          · obtain rfl := sj h
            try simp only [↓Da, Ua, J0P, Ja, J8, Jh, J2y, J5N, *, ↓reduceIte, Nat.reduceEqDiff, Nat.reduceAdd, Nat.reduceLT, Nat.reduceMul]
            rfl
        · obtain rfl := sj h
          try simp only [↓Da, Ua, J0P, Ja, J8, Jh, J2y, J5N, *, ↓reduceIte, Nat.reduceEqDiff, Nat.reduceAdd, Nat.reduceLT, Nat.reduceMul]
          rfl
      · obtain rfl := sj h
        try simp only [↓Da, Ua, J0P, Ja, J8, Jh, J2y, J5N, *, ↓reduceIte, Nat.reduceEqDiff, Nat.reduceAdd, Nat.reduceLT, Nat.reduceMul]
        rfl
    · obtain rfl := sj h
      try simp only [↓Da, Ua, J0P, Ja, J8, Jh, J2y, J5N, *, ↓reduceIte, Nat.reduceEqDiff, Nat.reduceAdd, Nat.reduceLT, Nat.reduceMul]
      rfl
  · obtain rfl := sj h
    try simp only [↓Da, Ua, J0P, Ja, J8, Jh, J5N, *, ↓reduceIte, Nat.reduceEqDiff, Nat.reduceAdd, Nat.reduceLT, Nat.reduceMul]
    rfl
theorem JkT {x0 : J3} {o : Bool} (h : J2E x0 = some o) : AF (J2 p) J6W [.data (J4 x0)] [] = JeI o :=
  (J0s (J2 p) (JkN p) rfl).trans (JgH p h)
theorem Jkt {x0 : J3} {o : Bool} (h : J2E x0 = some o) : ∀ ws new st, (Jo (AF (J2 p)) J6W ([.data (J4 x0)], ws) 0 new).run st = some ⟨.p (.b o), ws⟩ := JN rfl (JkT p h) rfl
def Jac (b1 : J3) (r : T_api_Row) : Option Res := some (.tup [], [.box (List.map AV.p (J7 r)), .box (List.map AV.p (J4 b1))])
def J3R (b0 : T_api_Row) (b1 : J3) : Option (T_api_Row) :=
  some (⟨(Jf4 b0.LSN b1.Ref), b0.Image, b0.ImageLSN⟩ : T_api_Row)
theorem Jc6 {b0 : T_api_Row} {b1 : J3} {o : T_api_Row} (h : J3R b0 b1 = some o) :
    rk (J2 p) J3Q 2 [] (X (J2 p) J55 ⟨[(0, .ptr 0 0), (1, .ptr 1 0)], [.box (List.map AV.p (J7 b0)), .box (List.map AV.p (J4 b1))]⟩) = (Jac b1) o := by
  unfold J3R at h
  obtain rfl := sj h
  try simp only [↓Da, Ua, J55, Ja, J8, Jh, Je, JeO, ↓reduceIte, Nat.reduceEqDiff, Nat.reduceAdd, Nat.reduceLT, Nat.reduceMul]
  rfl
theorem JeV {b0 : T_api_Row} {b1 : J3} {o : T_api_Row} (h : J3R b0 b1 = some o) : AF (J2 p) J1e [.ptr 0 0, .ptr 1 0] [.box (List.map AV.p (J7 b0)), .box (List.map AV.p (J4 b1))] = (Jac b1) o :=
  (J0s (J2 p) (JeP p) rfl).trans (Jc6 p h)
def J5o (b0 : J3) (r : T_api_Index) : Option Res := some (.data (J5 r), [.box (List.map AV.p (J4 b0))])
def J07 (x0 : T_api_Index) (x1 : Int) (b0 : J3) : Option (T_api_Index) :=
  Option.bind (J1b x0.Rows) fun r1 =>
  Option.bind (idx r1 x1) fun y4 =>
  Option.bind (J3R y4 b0) fun r8 =>
  Option.bind (some (List.set r1 (Int.toNat x1) r8)) fun m11 =>
  some (⟨m11⟩ : T_api_Index)
theorem J7M {x0 : T_api_Index} {x1 : Int} {b0 : J3} {o : T_api_Index} (h : J07 x0 x1 b0 = some o) :
    rk (J2 p) J3h 1 [] (X (J2 p) J38 ⟨[(0, .data (J5 x0)), (1, .p (.i .i64 x1)), (2, .fn J1e [] [.ptr 0 0])], [.box (List.map AV.p (J4 b0))]⟩) = (J5o b0) o := by
  unfold J07 at h
  obtain ⟨r1, h2, h⟩ := bi h
  have f3 : ∀ ws new s, (Jo (AF (J2 p)) J0I ([.p (.sl 3 (List.map J7 x0.Rows))], ws) 1 new).run s = some ⟨.slr new 0 (List.length r1), ws ++ [(new, .arr true 3 (List.map J7 r1))]⟩ := JiP rfl (J7c p h2)
  try simp only [Nf, J1, Jj, Jc, Jg, Jl] at f3
  obtain ⟨y4, h5, h⟩ := bi h
  have f6 := J7S (r := J7) h5
  try simp only [Nf, J1, Jj, Jc, Jg, Jl] at f6
  have f7 : (0 ≤ (x1 : Int) ∧ (x1 : Int) < (((List.length r1) : Nat) : Int)) = True := eq_true (by have e0 := Jai h5; (try simp only [List.length_cons, List.length_nil, Nat.zero_add] at e0); omega)
  obtain ⟨r8, h9, h⟩ := bi h
  have f15 : ((List.map J7 r1))[(Int.toNat x1)]? = some (J7 y4) := J7S h5
  have f10 : ∀ ws new s, (J7E ws 3).run s = some (.arr true 3 (List.map J7 r1)) → ((List.length r1) : Nat) = List.length (List.map J7 r1) → JB ws s [0] [List.map AV.p (J4 b0)] → (Jo (AF (J2 p)) J1e ([.ep 3 (List.length r1) (Int.toNat x1) 0, .ptr 0 0], ws) 0 new).run s = some ⟨.tup [], ws ++ [(3, .arr true 3 (List.set (List.map J7 r1) (Int.toNat x1) (J7 r8))), (0, .box (List.map AV.p (J4 b0)))]⟩ := fun ws new s h1 h2 h3 => JgY (args' := [.ptr 0 0, .ptr 1 0]) (bs := [0]) (css := [List.map AV.p (J4 b0)]) (css' := [List.map AV.p (J4 b0)]) (row := (J7 y4)) (row' := J7 r8) rfl rfl (by first | rfl | simp [ren.renL, ren, J32]) (by simp [Ji, J6]) (JeV p h9) rfl rfl (by simp [Ji, J6]) ws new s h1 h2 f15 h3
  try simp only [Nf, J1, Jj, Jc, Jg, Jl] at f10
  obtain ⟨m11, h12, h⟩ := bi h
  have f13 : List.set (List.map J7 r1) (Int.toNat x1) (J7 r8) = List.map J7 m11 := by
    rw [← Option.some.inj h12, List.map_set]
  try simp only [Nf, J1, Jj, Jc, Jg, Jl] at f13
  have g14 : List.length m11 = List.length r1 := by rw [← Option.some.inj h12, List.length_set]
  obtain rfl := sj h
  try simp only [↓Da, Ua, J38, J1, Jj, Jc, Jg, Jl, Jay, *, ↓reduceIte, Nat.reduceEqDiff, Nat.reduceAdd, Nat.reduceLT, Nat.reduceMul]
  rfl
theorem J8w {x0 : T_api_Index} {x1 : Int} {b0 : J3} {o : T_api_Index} (h : J07 x0 x1 b0 = some o) : AF (J2 p) J1r [.data (J5 x0), .p (.i .i64 x1), .fn J1e [] [.ptr 0 0]] [.box (List.map AV.p (J4 b0))] = (J5o b0) o :=
  (J0s (J2 p) (JaA p) rfl).trans (J7M p h)
def JbQ  (r : T_api_Index × Int) : Option Res := some (.tup [.data (J5 r.1), .p (.i .i64 r.2)], [])
def J0V (x0 : T_api_Index) (x1 : J3) : Option (T_api_Index × Int) :=
  Option.bind (J0J x0) fun r1 =>
  if r1 then
    Option.bind (J2C x1) fun r5 =>
    if r5 then
      if ((x1.Kind : Int) != 7) then
        some (x0, 0)
      else
        Option.bind (J1h x0 x1.Change.Page) fun r11 =>
        if r11 then
          Option.bind (J07 x0 x1.Change.Page x1) fun r16 =>
          some (r16, 0)
        else
          some ((⟨([] : List T_api_Row)⟩ : T_api_Index), 1)
    else
      some ((⟨([] : List T_api_Row)⟩ : T_api_Index), 12)
  else
    some ((⟨([] : List T_api_Row)⟩ : T_api_Index), 28)
theorem Jek {x0 : T_api_Index} {x1 : J3} {o : T_api_Index × Int} (h : J0V x0 x1 = some o) :
    rk (J2 p) J5d 0 [] (X (J2 p) J0U ⟨[(0, .data (J5 x0)), (1, .data (J4 x1))], []⟩) = JbQ o := by
  unfold J0V at h
  obtain ⟨r1, h2, h⟩ := bi h
  have f3 := J62 p h2
  try simp only [Nf, J1] at f3
  try simp only [↓Da, Ua, J0U, J1, Ja, J8, Jh, Je, *, ↓reduceIte, Nat.reduceEqDiff, Nat.reduceAdd, Nat.reduceLT, Nat.reduceMul]
  rcases Jb h with ⟨h4, h⟩ | ⟨h4, h⟩
  · obtain ⟨r5, h6, h⟩ := bi h
    have f7 := JkW p h6
    try simp only [Nf, J1] at f7
    try simp only [↓Da, Ua, J0U, J1, Ja, J8, Jh, Je, *, ↓reduceIte, Nat.reduceEqDiff, Nat.reduceAdd, Nat.reduceLT, Nat.reduceMul]
    rcases Jb h with ⟨h8, h⟩ | ⟨h8, h⟩
    · try simp only [↓Da, Ua, J0U, J1, Ja, J8, Jh, Je, *, ↓reduceIte, Nat.reduceEqDiff, Nat.reduceAdd, Nat.reduceLT, Nat.reduceMul]
      rcases Jb h with ⟨h9, h⟩ | ⟨h9, h⟩
      · obtain rfl := sj h
        try simp only [↓Da, Ua, J0U, J1, Ja, J8, Jh, Je, J6y, *, ↓reduceIte, Nat.reduceEqDiff, Nat.reduceAdd, Nat.reduceLT, Nat.reduceMul]
        rfl
      · have f10 : sub (J4 x1) 6 1 = some ((r_i .i64) x1.Change.Page) := by
          have e0 := (J9u (J0H x1) (J1C x1.Change))
          exact e0
        try simp only [Nf, J1] at f10
        obtain ⟨r11, h12, h⟩ := bi h
        have f13 := JaT p h12
        try simp only [Nf, J1] at f13
        try simp only [↓Da, Ua, J0U, J1, Ja, J8, Jh, Je, *, ↓reduceIte, Nat.reduceEqDiff, Nat.reduceAdd, Nat.reduceLT, Nat.reduceMul]
        rcases Jb h with ⟨h14, h⟩ | ⟨h14, h⟩
        · try try rw [h4] at h14
          have f15 : sub (J4 x1) 6 1 = some ((r_i .i64) x1.Change.Page) := by
            have e0 := (J9u (J0H x1) (J1C x1.Change))
            exact e0
          try simp only [Nf, J1] at f15
          obtain ⟨r16, h17, h⟩ := bi h
          have f18 : ∀ ws new s, JB ws s [1] [List.map AV.p (J4 x1)] → (Jo (AF (J2 p)) J1r ([.data (J5 x0), .p (.i .i64 x1.Change.Page), .fn J1e [] [.ptr 1 0]], ws) 0 new).run s = some ⟨.data (J5 r16), ws ++ [(1, .box (List.map AV.p (J4 x1)))]⟩ := Jw (args' := [.data (J5 x0), .p (.i .i64 x1.Change.Page), .fn J1e [] [.ptr 0 0]]) (bs := [1]) (css := [List.map AV.p (J4 x1)]) (css' := [List.map AV.p (J4 x1)]) rfl rfl rfl (by simp [Ji, J6]) (J8w p h17) rfl rfl (by simp [Ji, J6])
          try simp only [Nf, J1] at f18
          obtain rfl := sj h
          try simp only [↓Da, Ua, J0U, J1, Ja, J8, Jh, Je, J6y, *, ↓reduceIte, Nat.reduceEqDiff, Nat.reduceAdd, Nat.reduceLT, Nat.reduceMul]
          rfl
        · try try rw [h4] at h14
          obtain rfl := sj h
          try simp only [↓Da, Ua, J0U, J1, Ja, J8, Jh, Je, J6y, *, ↓reduceIte, Nat.reduceEqDiff, Nat.reduceAdd, Nat.reduceLT, Nat.reduceMul]
          rfl
    · obtain rfl := sj h
      try simp only [↓Da, Ua, J0U, J1, Ja, J8, Jh, Je, J6y, *, ↓reduceIte, Nat.reduceEqDiff, Nat.reduceAdd, Nat.reduceLT, Nat.reduceMul]
      rfl
  · obtain rfl := sj h
    try simp only [↓Da, Ua, J0U, J1, Ja, J8, Jh, Je, J6y, *, ↓reduceIte, Nat.reduceEqDiff, Nat.reduceAdd, Nat.reduceLT, Nat.reduceMul]
    rfl
theorem Jho {x0 : T_api_Index} {x1 : J3} {o : T_api_Index × Int} (h : J0V x0 x1 = some o) : AF (J2 p) J3i [.data (J5 x0), .data (J4 x1)] [] = JbQ o :=
  (J0s (J2 p) (Jhc p) rfl).trans (Jek p h)
theorem J9r {x0 : T_api_Index} {x1 : J3} {o : T_api_Index × Int} (h : J0V x0 x1 = some o) : ∀ ws new st, (Jo (AF (J2 p)) J3i ([.data (J5 x0), .data (J4 x1)], ws) 0 new).run st = some ⟨.tup [.data (J5 o.1), .p (.i .i64 o.2)], ws⟩ := JN rfl (Jho p h) rfl
def Jf1  (r : T_api_Index × Int) : Option Res := some (.tup [.data (J5 r.1), .p (.i .i64 r.2)], [])
def J6A (x0 : T_api_Index) (x1 : J3) : Option (T_api_Index × Int) :=
  Option.bind (J2B x0) fun r1 =>
  if r1 then
    Option.bind (J2E x1) fun r5 =>
    if r5 then
      if ((x1.Kind : Int) != 7) then
        some (x0, 0)
      else
        if (decide (x1.Change.Page ≥ ((List.length x0.Rows : Nat) : Int))) then
          some ((⟨([] : List T_api_Row)⟩ : T_api_Index), 1)
        else
          Option.bind (idx x0.Rows x1.Change.Page) fun y13 =>
          Option.bind (J5p x0 x1.Change.Page (⟨(Jf4 y13.LSN x1.Ref), y13.Image, y13.ImageLSN⟩ : T_api_Row)) fun r17 =>
          some (r17, 0)
    else
      some ((⟨([] : List T_api_Row)⟩ : T_api_Index), 12)
  else
    some ((⟨([] : List T_api_Row)⟩ : T_api_Index), 28)
theorem JhJ {x0 : T_api_Index} {x1 : J3} {o : T_api_Index × Int} (h : J6A x0 x1 = some o) :
    rk (J2 p) J7H 0 [] (X (J2 p) J24 ⟨[(0, .data (J5 x0)), (1, .data (J4 x1))], []⟩) = Jf1 o := by
  unfold J6A at h
  obtain ⟨r1, h2, h⟩ := bi h
  have f3 := J85 p h2
  try simp only [Nf, J1] at f3
  try simp only [↓Da, Ua, J24, J1, Ja, J8, Jh, Je, *, ↓reduceIte, Nat.reduceEqDiff, Nat.reduceAdd, Nat.reduceLT, Nat.reduceMul]
  rcases Jb h with ⟨h4, h⟩ | ⟨h4, h⟩
  · obtain ⟨r5, h6, h⟩ := bi h
    have f7 := Jkt p h6
    try simp only [Nf, J1] at f7
    try simp only [↓Da, Ua, J24, J1, Ja, J8, Jh, Je, *, ↓reduceIte, Nat.reduceEqDiff, Nat.reduceAdd, Nat.reduceLT, Nat.reduceMul]
    rcases Jb h with ⟨h8, h⟩ | ⟨h8, h⟩
    · try simp only [↓Da, Ua, J24, J1, Ja, J8, Jh, Je, *, ↓reduceIte, Nat.reduceEqDiff, Nat.reduceAdd, Nat.reduceLT, Nat.reduceMul]
      rcases Jb h with ⟨h9, h⟩ | ⟨h9, h⟩
      · obtain rfl := sj h
        try simp only [↓Da, Ua, J24, J1, Ja, J8, Jh, Je, J8G, *, ↓reduceIte, Nat.reduceEqDiff, Nat.reduceAdd, Nat.reduceLT, Nat.reduceMul]
        rfl
      · have f10 : sub (J4 x1) 6 1 = some ((r_i .i64) x1.Change.Page) := by
          have e0 := (J9u (J0H x1) (J1C x1.Change))
          exact e0
        try simp only [Nf, J1] at f10
        try simp only [↓Da, Ua, J24, J1, Ja, J8, Jh, Je, *, ↓reduceIte, Nat.reduceEqDiff, Nat.reduceAdd, Nat.reduceLT, Nat.reduceMul]
        rcases Jb h with ⟨h11, h⟩ | ⟨h11, h⟩
        · obtain rfl := sj h
          try simp only [↓Da, Ua, J24, J1, Ja, J8, Jh, Je, J8G, *, ↓reduceIte, Nat.reduceEqDiff, Nat.reduceAdd, Nat.reduceLT, Nat.reduceMul]
          rfl
        · have f12 : sub (J4 x1) 6 1 = some ((r_i .i64) x1.Change.Page) := by
            have e0 := (J9u (J0H x1) (J1C x1.Change))
            exact e0
          try simp only [Nf, J1] at f12
          obtain ⟨y13, h14, h⟩ := bi h
          have f15 := J2R (r := J7) h14
          try simp only [Nf, J1] at f15
          have f16 : sub (J4 x1) 6 1 = some ((r_i .i64) x1.Change.Page) := by
            have e0 := (J9u (J0H x1) (J1C x1.Change))
            exact e0
          try simp only [Nf, J1] at f16
          obtain ⟨r17, h18, h⟩ := bi h
          have f19 := JcY p h18
          try simp only [Nf, J1] at f19
          obtain rfl := sj h
          try simp only [↓Da, Ua, J24, J1, Ja, J8, Jh, Je, J8G, *, ↓reduceIte, Nat.reduceEqDiff, Nat.reduceAdd, Nat.reduceLT, Nat.reduceMul]
          rfl
    · obtain rfl := sj h
      try simp only [↓Da, Ua, J24, J1, Ja, J8, Jh, Je, J8G, *, ↓reduceIte, Nat.reduceEqDiff, Nat.reduceAdd, Nat.reduceLT, Nat.reduceMul]
      rfl
  · obtain rfl := sj h
    try simp only [↓Da, Ua, J24, J1, Ja, J8, Jh, Je, J8G, *, ↓reduceIte, Nat.reduceEqDiff, Nat.reduceAdd, Nat.reduceLT, Nat.reduceMul]
    rfl
theorem Jla {x0 : T_api_Index} {x1 : J3} {o : T_api_Index × Int} (h : J6A x0 x1 = some o) : AF (J2 p) J7K [.data (J5 x0), .data (J4 x1)] [] = Jf1 o :=
  (J0s (J2 p) (Jln p) rfl).trans (JhJ p h)
theorem Jm7 {x0 : T_api_Index} {x1 : J3} {o : T_api_Index × Int} (h : J6A x0 x1 = some o) : ∀ ws new st, (Jo (AF (J2 p)) J7K ([.data (J5 x0), .data (J4 x1)], ws) 0 new).run st = some ⟨.tup [.data (J5 o.1), .p (.i .i64 o.2)], ws⟩ := JN rfl (Jla p h) rfl
def JeL  (r : Bool) : Option Res := some (.p (.b r), [])
def J5O  : Option (Bool) :=
  Option.bind (J1O 2) fun r1 =>
  Option.bind (J0V r1.1 (⟨9, 7, 0, 0, 0, 5, (⟨1, 0, (⟨false, ([] : List UInt8)⟩ : Jm), (⟨false, ([] : List UInt8)⟩ : Jm)⟩ : Jk), ([] : List UInt8)⟩ : J3)) fun r4 =>
  Option.bind (J0V r4.1 (⟨10, 7, 0, 0, 0, 3, (⟨1, 0, (⟨false, ([] : List UInt8)⟩ : Jm), (⟨false, ([] : List UInt8)⟩ : Jm)⟩ : Jk), ([] : List UInt8)⟩ : J3)) fun r7 =>
  if ((r1.2 : Int) == 0) then
    if ((r4.2 : Int) == 0) then
      if ((r7.2 : Int) == 0) then
        if ((((List.length r7.1.Rows : Nat) : Int) : Int) == 2) then
          Option.bind (idx r7.1.Rows 1) fun y14 =>
          some ((y14.LSN : Int) == 5)
        else
          some false
      else
        some false
    else
      some false
  else
    some false
theorem Jgj  {o : Bool} (h : J5O = some o) :
    rk (J2 p) J6P 0 [] (X (J2 p) J1F ⟨[], []⟩) = JeL o := by
  unfold J5O at h
  obtain ⟨r1, h2, h⟩ := bi h
  have f3 := JcD p h2
  try simp only [Nf, J1] at f3
  obtain ⟨r4, h5, h⟩ := bi h
  have f6 := J9r p h5
  try simp only [Nf, J1] at f6
  obtain ⟨r7, h8, h⟩ := bi h
  have f9 := J9r p h8
  try simp only [Nf, J1] at f9
  try simp only [↓Da, Ua, J1F, J1, Ja, J8, Jh, Je, *, ↓reduceIte, Nat.reduceEqDiff, Nat.reduceAdd, Nat.reduceLT, Nat.reduceMul]
  rcases Jb h with ⟨h10, h⟩ | ⟨h10, h⟩
  · have h10n : ((r1.2 : Int) != 0) = false := by rw [bne, h10]; rfl
    try simp only [↓Da, Ua, J1F, J1, Ja, J8, Jh, Je, *, ↓reduceIte, Nat.reduceEqDiff, Nat.reduceAdd, Nat.reduceLT, Nat.reduceMul]
    rcases Jb h with ⟨h11, h⟩ | ⟨h11, h⟩
    · have h11n : ((r4.2 : Int) != 0) = false := by rw [bne, h11]; rfl
      try simp only [↓Da, Ua, J1F, J1, Ja, J8, Jh, Je, *, ↓reduceIte, Nat.reduceEqDiff, Nat.reduceAdd, Nat.reduceLT, Nat.reduceMul]
      rcases Jb h with ⟨h12, h⟩ | ⟨h12, h⟩
      · have h12n : ((r7.2 : Int) != 0) = false := by rw [bne, h12]; rfl
        try simp only [↓Da, Ua, J1F, J1, Ja, J8, Jh, Je, *, ↓reduceIte, Nat.reduceEqDiff, Nat.reduceAdd, Nat.reduceLT, Nat.reduceMul]
        rcases Jb h with ⟨h13, h⟩ | ⟨h13, h⟩
        · have h13n : ((((List.length r7.1.Rows : Nat) : Int) : Int) != 2) = false := by rw [bne, h13]; rfl
          obtain ⟨y14, h15, h⟩ := bi h
          have f16 := J2R (r := J7) h15
          try simp only [Nf, J1] at f16
          obtain rfl := sj h
          try simp only [↓Da, Ua, J1F, J1, Ja, J8, Jh, Je, J82, *, ↓reduceIte, Nat.reduceEqDiff, Nat.reduceAdd, Nat.reduceLT, Nat.reduceMul]
          rfl
        · have h13n : ((((List.length r7.1.Rows : Nat) : Int) : Int) != 2) = true := by rw [bne, h13]; rfl
          obtain rfl := sj h
          try simp only [↓Da, Ua, J1F, J1, Ja, J8, Jh, Je, J82, *, ↓reduceIte, Nat.reduceEqDiff, Nat.reduceAdd, Nat.reduceLT, Nat.reduceMul]
          rfl
      · have h12n : ((r7.2 : Int) != 0) = true := by rw [bne, h12]; rfl
        obtain rfl := sj h
        try simp only [↓Da, Ua, J1F, J1, Ja, J8, Jh, Je, J82, *, ↓reduceIte, Nat.reduceEqDiff, Nat.reduceAdd, Nat.reduceLT, Nat.reduceMul]
        rfl
    · have h11n : ((r4.2 : Int) != 0) = true := by rw [bne, h11]; rfl
      obtain rfl := sj h
      try simp only [↓Da, Ua, J1F, J1, Ja, J8, Jh, Je, J82, *, ↓reduceIte, Nat.reduceEqDiff, Nat.reduceAdd, Nat.reduceLT, Nat.reduceMul]
      rfl
  · have h10n : ((r1.2 : Int) != 0) = true := by rw [bne, h10]; rfl
    obtain rfl := sj h
    try simp only [↓Da, Ua, J1F, J1, Ja, J8, Jh, Je, J82, *, ↓reduceIte, Nat.reduceEqDiff, Nat.reduceAdd, Nat.reduceLT, Nat.reduceMul]
    rfl
theorem JkI  {o : Bool} (h : J5O = some o) : AF (J2 p) J6H [] [] = JeL o :=
  (J0s (J2 p) (JkH p) rfl).trans (Jgj p h)
theorem Jkz  {o : Bool} (h : J5O = some o) : ∀ ws new st, (Jo (AF (J2 p)) J6H ([], ws) 0 new).run st = some ⟨.p (.b o), ws⟩ := JN rfl (JkI p h) rfl
def J2I  (r : Bool) : Option Res := some (.p (.b r), [])
def J03 (x3 : Int) (x4 : Int) (x5 : Int) (x6 : List UInt8) (x76 : List T_api_Index) (x77 : Int) (b1 : J3) (B0 : List PV) (B3 : List PV) (o : (Int × T_pagemenddraw_Codes) ⊕ (Bool)) : Option Res := match o with
  | .inl s => rk (J2 p) JC 0 [.bl 0, .td 4 [3, 14], .sq (.keep [3] Jv)] (X (J2 p) (.lp 4 [3, 4, 5, 6, 9, 15, 76, 77, 78] JE) ⟨[(3, .p (.i .i64 x3)), (4, .p (.i .i64 x4)), (5, .p (.i .i64 x5)), (6, .p (.s x6)), (9, .ptr 1 0), (15, .ptr 2 0), (76, .p (.sl 1 (List.map J5 x76))), (77, .p (.i .i64 x77)), (78, .p (.i .i64 s.1))], [.box (List.map AV.p B0), .box (List.map AV.p (J4 b1)), .box (List.map AV.p (J0 s.2)), .box (List.map AV.p B3)]⟩)
  | .inr o => J2I o
def JbX (x3 : Int) (x4 : Int) (x5 : Int) (x6 : List UInt8) (x76 : List T_api_Index) (x77 : Int) (x78 : Int) (x91 : List J3) (x92 : Int) (b1 : J3) (b2 : T_pagemenddraw_Codes) (b4 : T_api_Index) (B0 : List PV) (B3 : List PV) (o : (Int) ⊕ (((Int × T_pagemenddraw_Codes) ⊕ (Bool)))) : Option Res := match o with
  | .inl s => rk (J2 p) JC 0 [.bl 2, .td 5 [3, 4, 5, 6, 9, 14, 15, 18, 76, 77, 78], .sq (.keep [3, 4, 5, 6, 9, 15, 18, 76, 77, 78] J1z), .bl 1, .td 4 [3, 4, 5, 6, 9, 14, 15, 76, 77, 78], .sq (.keep [3, 4, 5, 6, 9, 15, 76, 77, 78] JQ), .lo 4 [3, 4, 5, 6, 9, 15, 76, 77, 78] JE, .bl 0, .td 4 [3, 14], .sq (.keep [3] Jv)] (X (J2 p) (.lp 5 [3, 4, 5, 6, 9, 15, 18, 76, 77, 78, 91, 92, 93] J0h) ⟨[(3, .p (.i .i64 x3)), (4, .p (.i .i64 x4)), (5, .p (.i .i64 x5)), (6, .p (.s x6)), (9, .ptr 1 0), (15, .ptr 2 0), (18, .ptr 4 0), (76, .p (.sl 1 (List.map J5 x76))), (77, .p (.i .i64 x77)), (78, .p (.i .i64 x78)), (91, .p (.sl 13 (List.map J4 x91))), (92, .p (.i .i64 x92)), (93, .p (.i .i64 s))], [.box (List.map AV.p B0), .box (List.map AV.p (J4 b1)), .box (List.map AV.p (J0 b2)), .box (List.map AV.p B3), .box (List.map AV.p (J5 b4))]⟩)
  | .inr o => (J03 p x3 x4 x5 x6 x76 x77 b1 B0 B3) o
def JbA (x3 : Int) (x4 : Int) (x5 : Int) (x6 : List UInt8) (x76 : List T_api_Index) (x77 : Int) (x78 : Int) (x134 : List (Vector Int 3)) (x135 : Int) (b1 : J3) (b2 : T_pagemenddraw_Codes) (b4 : T_api_Index) (B0 : List PV) (B3 : List PV) (o : (Int) ⊕ (((Int × T_pagemenddraw_Codes) ⊕ (Bool)))) : Option Res := match o with
  | .inl s => rk (J2 p) JC 0 [.bl 4, .td 5 [3, 4, 5, 6, 9, 14, 15, 18, 76, 77, 78], .sq (.keep [3, 4, 5, 6, 9, 15, 18, 76, 77, 78] J06), .bl 1, .td 4 [3, 4, 5, 6, 9, 14, 15, 76, 77, 78], .sq (.keep [3, 4, 5, 6, 9, 15, 76, 77, 78] JQ), .lo 4 [3, 4, 5, 6, 9, 15, 76, 77, 78] JE, .bl 0, .td 4 [3, 14], .sq (.keep [3] Jv)] (X (J2 p) (.lp 5 [3, 4, 5, 6, 9, 15, 18, 76, 77, 78, 134, 135, 136] J0f) ⟨[(3, .p (.i .i64 x3)), (4, .p (.i .i64 x4)), (5, .p (.i .i64 x5)), (6, .p (.s x6)), (9, .ptr 1 0), (15, .ptr 2 0), (18, .ptr 4 0), (76, .p (.sl 1 (List.map J5 x76))), (77, .p (.i .i64 x77)), (78, .p (.i .i64 x78)), (134, .p (.sl 3 (List.map (J1Q (r_i .i64)) x134))), (135, .p (.i .i64 x135)), (136, .p (.i .i64 s))], [.box (List.map AV.p B0), .box (List.map AV.p (J4 b1)), .box (List.map AV.p (J0 b2)), .box (List.map AV.p B3), .box (List.map AV.p (J5 b4))]⟩)
  | .inr o => (J03 p x3 x4 x5 x6 x76 x77 b1 B0 B3) o
def Jbz (x3 : Int) (x4 : Int) (x5 : Int) (x6 : List UInt8) (x76 : List T_api_Index) (x77 : Int) (x78 : Int) (x209 : List (List UInt8)) (x210 : Int) (b1 : J3) (b2 : T_pagemenddraw_Codes) (B0 : List PV) (B3 : List PV) (B4 : List PV) (o : (Int) ⊕ (((Int × T_pagemenddraw_Codes) ⊕ (Bool)))) : Option Res := match o with
  | .inl s => rk (J2 p) JC 0 [.bl 6, .bl 1, .td 4 [3, 4, 5, 6, 9, 14, 15, 76, 77, 78], .sq (.keep [3, 4, 5, 6, 9, 15, 76, 77, 78] JQ), .lo 4 [3, 4, 5, 6, 9, 15, 76, 77, 78] JE, .bl 0, .td 4 [3, 14], .sq (.keep [3] Jv)] (X (J2 p) (.lp 5 [3, 4, 5, 6, 9, 15, 76, 77, 78, 209, 210, 211] J0g) ⟨[(3, .p (.i .i64 x3)), (4, .p (.i .i64 x4)), (5, .p (.i .i64 x5)), (6, .p (.s x6)), (9, .ptr 1 0), (15, .ptr 2 0), (76, .p (.sl 1 (List.map J5 x76))), (77, .p (.i .i64 x77)), (78, .p (.i .i64 x78)), (209, .p (.sl 1 (List.map r_s x209))), (210, .p (.i .i64 x210)), (211, .p (.i .i64 s))], [.box (List.map AV.p B0), .box (List.map AV.p (J4 b1)), .box (List.map AV.p (J0 b2)), .box (List.map AV.p B3), .box (List.map AV.p B4)]⟩)
  | .inr o => (J03 p x3 x4 x5 x6 x76 x77 b1 B0 B3) o
def J4E (x3 : Int) (x4 : Int) (x5 : Int) (x6 : List UInt8) (x76 : List T_api_Index) (x77 : Int) (x78 : Int) (b1 : J3) (b2 : T_pagemenddraw_Codes) : Option (((Int × T_pagemenddraw_Codes) ⊕ (Bool))) :=
  some (.inl ((IntKind.wrap .i64 (x78 + 1)), b2))
theorem JbL {x3 : Int} {x4 : Int} {x5 : Int} {x6 : List UInt8} {x76 : List T_api_Index} {x77 : Int} {x78 : Int} {b1 : J3} {b2 : T_pagemenddraw_Codes} {B0 : List PV} {B3 : List PV} {o : ((Int × T_pagemenddraw_Codes) ⊕ (Bool))} (h : J4E x3 x4 x5 x6 x76 x77 x78 b1 b2 = some o) :
    rk (J2 p) JC 0 [.lo 4 [3, 4, 5, 6, 9, 15, 76, 77, 78] JE, .bl 0, .td 4 [3, 14], .sq (.keep [3] Jv)] (X (J2 p) JQ ⟨[(3, .p (.i .i64 x3)), (4, .p (.i .i64 x4)), (5, .p (.i .i64 x5)), (6, .p (.s x6)), (9, .ptr 1 0), (15, .ptr 2 0), (76, .p (.sl 1 (List.map J5 x76))), (77, .p (.i .i64 x77)), (78, .p (.i .i64 x78))], [.box (List.map AV.p B0), .box (List.map AV.p (J4 b1)), .box (List.map AV.p (J0 b2)), .box (List.map AV.p B3)]⟩) = (J03 p x3 x4 x5 x6 x76 x77 b1 B0 B3) o := by
  unfold J4E at h
  obtain rfl := sj h
  try simp only [↓Da, Ua, JQ, ↓reduceIte, Nat.reduceEqDiff, Nat.reduceAdd, Nat.reduceLT, Nat.reduceMul]
  rfl
def J1w (x3 : Int) (x4 : Int) (x5 : Int) (x6 : List UInt8) (x76 : List T_api_Index) (x77 : Int) (x78 : Int) (x209 : List (List UInt8)) (x210 : Int) (b1 : J3) (b2 : T_pagemenddraw_Codes) (x211 : Int) : Option (((Int) ⊕ (((Int × T_pagemenddraw_Codes) ⊕ (Bool))))) :=
  if (decide (x211 < x210)) then
    Option.bind (idx x209 x211) fun y2 =>
    Option.bind (J3b y2) fun r5 =>
    Option.bind (J5l y2) fun r8 =>
    if ((r5.2 : Int) != r8.2) then
      some (.inr (.inr false))
    else
      Option.bind (J2D r5.1 r8.1) fun r12 =>
      if r12 then
        some (.inl (IntKind.wrap .i64 (x211 + 1)))
      else
        some (.inr (.inr false))
  else
    Option.map (fun o => .inr o) (J4E x3 x4 x5 x6 x76 x77 x78 b1 b2)
theorem J8O {x3 : Int} {x4 : Int} {x5 : Int} {x6 : List UInt8} {x76 : List T_api_Index} {x77 : Int} {x78 : Int} {x209 : List (List UInt8)} {x210 : Int} {b1 : J3} {b2 : T_pagemenddraw_Codes} {x211 : Int} {B0 : List PV} {B3 : List PV} {B4 : List PV} {o : ((Int) ⊕ (((Int × T_pagemenddraw_Codes) ⊕ (Bool))))} (h : J1w x3 x4 x5 x6 x76 x77 x78 x209 x210 b1 b2 x211 = some o) :
    rk (J2 p) JC 0 [.lo 5 [3, 4, 5, 6, 9, 15, 76, 77, 78, 209, 210, 211] J0g, .bl 6, .bl 1, .td 4 [3, 4, 5, 6, 9, 14, 15, 76, 77, 78], .sq (.keep [3, 4, 5, 6, 9, 15, 76, 77, 78] JQ), .lo 4 [3, 4, 5, 6, 9, 15, 76, 77, 78] JE, .bl 0, .td 4 [3, 14], .sq (.keep [3] Jv)] (X (J2 p) J0g ⟨[(3, .p (.i .i64 x3)), (4, .p (.i .i64 x4)), (5, .p (.i .i64 x5)), (6, .p (.s x6)), (9, .ptr 1 0), (15, .ptr 2 0), (76, .p (.sl 1 (List.map J5 x76))), (77, .p (.i .i64 x77)), (78, .p (.i .i64 x78)), (209, .p (.sl 1 (List.map r_s x209))), (210, .p (.i .i64 x210)), (211, .p (.i .i64 x211))], [.box (List.map AV.p B0), .box (List.map AV.p (J4 b1)), .box (List.map AV.p (J0 b2)), .box (List.map AV.p B3), .box (List.map AV.p B4)]⟩) = (Jbz p x3 x4 x5 x6 x76 x77 x78 x209 x210 b1 b2 B0 B3 B4) o := by
  unfold J1w at h
  rcases Jb h with ⟨h1, h⟩ | ⟨h1, h⟩
  · obtain ⟨y2, h3, h⟩ := bi h
    have f4 := J2R (r := r_s) h3
    try simp only [Nf, J1] at f4
    obtain ⟨r5, h6, h⟩ := bi h
    have f7 := Jfh p h6
    try simp only [Nf, J1] at f7
    obtain ⟨r8, h9, h⟩ := bi h
    have f10 := Jjj p h9
    try simp only [Nf, J1] at f10
    try simp only [↓Da, Ua, J0g, J1, Je, *, ↓reduceIte, Nat.reduceEqDiff, Nat.reduceAdd, Nat.reduceLT, Nat.reduceMul]
    rcases Jb h with ⟨h11, h⟩ | ⟨h11, h⟩
    · obtain rfl := sj h
      try simp only [↓Da, Ua, J0g, J1, Je, JV, *, ↓reduceIte, Nat.reduceEqDiff, Nat.reduceAdd, Nat.reduceLT, Nat.reduceMul]
      rfl
    · obtain ⟨r12, h13, h⟩ := bi h
      have f14 := J8I p h13
      try simp only [Nf, J1] at f14
      try simp only [↓Da, Ua, J0g, J1, Je, *, ↓reduceIte, Nat.reduceEqDiff, Nat.reduceAdd, Nat.reduceLT, Nat.reduceMul]
      rcases Jb h with ⟨h15, h⟩ | ⟨h15, h⟩
      · obtain rfl := sj h
        try simp only [↓Da, Ua, J0g, J1, Je, *, ↓reduceIte, Nat.reduceEqDiff, Nat.reduceAdd, Nat.reduceLT, Nat.reduceMul]
        rfl
      · obtain rfl := sj h
        try simp only [↓Da, Ua, J0g, J1, Je, JV, *, ↓reduceIte, Nat.reduceEqDiff, Nat.reduceAdd, Nat.reduceLT, Nat.reduceMul]
        rfl
  · obtain ⟨o', h', rfl⟩ := mi h
    try simp only [↓Da, Ua, J0g, J1, Je, *, ↓reduceIte, Nat.reduceEqDiff, Nat.reduceAdd, Nat.reduceLT, Nat.reduceMul]
    have e0 := JbL p (B0 := B0) (B3 := B3) h'
    exact e0
def J6u (x3 : Int) (x4 : Int) (x5 : Int) (x6 : List UInt8) (x76 : List T_api_Index) (x77 : Int) (x78 : Int) (x209 : List (List UInt8)) (x210 : Int) (b1 : J3) (b2 : T_pagemenddraw_Codes) (s : Int) : Option (((Int × T_pagemenddraw_Codes) ⊕ (Bool))) :=
  J00 (fun s => J1w x3 x4 x5 x6 x76 x77 x78 x209 x210 b1 b2 s) s
theorem JaO {x3 : Int} {x4 : Int} {x5 : Int} {x6 : List UInt8} {x76 : List T_api_Index} {x77 : Int} {x78 : Int} {x209 : List (List UInt8)} {x210 : Int} {b1 : J3} {b2 : T_pagemenddraw_Codes} {B0 : List PV} {B3 : List PV} {B4 : List PV} {s : Int} {o : ((Int × T_pagemenddraw_Codes) ⊕ (Bool))} (h : J6u x3 x4 x5 x6 x76 x77 x78 x209 x210 b1 b2 s = some o) :
    rk (J2 p) JC 0 [.bl 6, .bl 1, .td 4 [3, 4, 5, 6, 9, 14, 15, 76, 77, 78], .sq (.keep [3, 4, 5, 6, 9, 15, 76, 77, 78] JQ), .lo 4 [3, 4, 5, 6, 9, 15, 76, 77, 78] JE, .bl 0, .td 4 [3, 14], .sq (.keep [3] Jv)] (X (J2 p) (.lp 5 [3, 4, 5, 6, 9, 15, 76, 77, 78, 209, 210, 211] J0g) ⟨[(3, .p (.i .i64 x3)), (4, .p (.i .i64 x4)), (5, .p (.i .i64 x5)), (6, .p (.s x6)), (9, .ptr 1 0), (15, .ptr 2 0), (76, .p (.sl 1 (List.map J5 x76))), (77, .p (.i .i64 x77)), (78, .p (.i .i64 x78)), (209, .p (.sl 1 (List.map r_s x209))), (210, .p (.i .i64 x210)), (211, .p (.i .i64 s))], [.box (List.map AV.p B0), .box (List.map AV.p (J4 b1)), .box (List.map AV.p (J0 b2)), .box (List.map AV.p B3), .box (List.map AV.p B4)]⟩) = (J03 p x3 x4 x5 x6 x76 x77 b1 B0 B3) o := by
  have h0 : J00 (fun s => J1w x3 x4 x5 x6 x76 x77 x78 x209 x210 b1 b2 s) s = some o := h
  exact J2k (P := fun (s : Int) (o : ((Int × T_pagemenddraw_Codes) ⊕ (Bool))) => rk (J2 p) JC 0 [.bl 6, .bl 1, .td 4 [3, 4, 5, 6, 9, 14, 15, 76, 77, 78], .sq (.keep [3, 4, 5, 6, 9, 15, 76, 77, 78] JQ), .lo 4 [3, 4, 5, 6, 9, 15, 76, 77, 78] JE, .bl 0, .td 4 [3, 14], .sq (.keep [3] Jv)] (X (J2 p) (.lp 5 [3, 4, 5, 6, 9, 15, 76, 77, 78, 209, 210, 211] J0g) ⟨[(3, .p (.i .i64 x3)), (4, .p (.i .i64 x4)), (5, .p (.i .i64 x5)), (6, .p (.s x6)), (9, .ptr 1 0), (15, .ptr 2 0), (76, .p (.sl 1 (List.map J5 x76))), (77, .p (.i .i64 x77)), (78, .p (.i .i64 x78)), (209, .p (.sl 1 (List.map r_s x209))), (210, .p (.i .i64 x210)), (211, .p (.i .i64 s))], [.box (List.map AV.p B0), .box (List.map AV.p (J4 b1)), .box (List.map AV.p (J0 b2)), .box (List.map AV.p B3), .box (List.map AV.p B4)]⟩) = (J03 p x3 x4 x5 x6 x76 x77 b1 B0 B3) o) (fun s r hs => by rw [J2e]; exact J8O p hs) (fun s s1 r hs ih => by rw [J2e]; exact (J8O p hs).trans ih) h0
def J3d (x3 : Int) (x4 : Int) (x5 : Int) (x6 : List UInt8) (x76 : List T_api_Index) (x77 : Int) (x78 : Int) (b1 : J3) (b2 : T_pagemenddraw_Codes) (b4 : T_api_Index) : Option (((Int × T_pagemenddraw_Codes) ⊕ (Bool))) :=
  Option.bind (J1K b4) fun r1 =>
  Option.bind (J3u b4) fun r4 =>
  if (r1.1 == r4.1) then
    if ((r1.2 : Int) != r4.2) then
      some (.inr false)
    else
      Option.bind (J0J b4) fun r9 =>
      Option.bind (J2B b4) fun r13 =>
      if (r9 == r13) then
        Option.bind (J3P b2 r4.1) fun r18 =>
        Option.bind (Js r18.2 (IntKind.wrap .i64 (((List.length r4.1 : Nat) : Int) + 1))) fun r21 =>
        Option.bind (J7D r4.1 none (some r21.1)) fun m24 =>
        J6u x3 x4 x5 x6 x76 x77 x78 ([x6, r4.1, r18.1, m24] : List (List UInt8)) ((List.length ([x6, r4.1, r18.1, m24] : List (List UInt8)) : Nat) : Int) b1 r21.2 0
      else
        some (.inr false)
  else
    some (.inr false)
theorem JbP {x3 : Int} {x4 : Int} {x5 : Int} {x6 : List UInt8} {x76 : List T_api_Index} {x77 : Int} {x78 : Int} {b1 : J3} {b2 : T_pagemenddraw_Codes} {b4 : T_api_Index} {B0 : List PV} {B3 : List PV} {o : ((Int × T_pagemenddraw_Codes) ⊕ (Bool))} (h : J3d x3 x4 x5 x6 x76 x77 x78 b1 b2 b4 = some o) :
    rk (J2 p) JC 0 [.bl 1, .td 4 [3, 4, 5, 6, 9, 14, 15, 76, 77, 78], .sq (.keep [3, 4, 5, 6, 9, 15, 76, 77, 78] JQ), .lo 4 [3, 4, 5, 6, 9, 15, 76, 77, 78] JE, .bl 0, .td 4 [3, 14], .sq (.keep [3] Jv)] (X (J2 p) J06 ⟨[(3, .p (.i .i64 x3)), (4, .p (.i .i64 x4)), (5, .p (.i .i64 x5)), (6, .p (.s x6)), (9, .ptr 1 0), (15, .ptr 2 0), (18, .ptr 4 0), (76, .p (.sl 1 (List.map J5 x76))), (77, .p (.i .i64 x77)), (78, .p (.i .i64 x78))], [.box (List.map AV.p B0), .box (List.map AV.p (J4 b1)), .box (List.map AV.p (J0 b2)), .box (List.map AV.p B3), .box (List.map AV.p (J5 b4))]⟩) = (J03 p x3 x4 x5 x6 x76 x77 b1 B0 B3) o := by
  unfold J3d at h
  obtain ⟨r1, h2, h⟩ := bi h
  have f3 := JfN p h2
  try simp only [Nf, J1] at f3
  obtain ⟨r4, h5, h⟩ := bi h
  have f6 := Jjr p h5
  try simp only [Nf, J1] at f6
  try simp only [↓Da, Ua, Ra, J06, J1, Jd, Je, *, ↓reduceIte, Nat.reduceEqDiff, Nat.reduceAdd, Nat.reduceLT, Nat.reduceMul, Nat.reduceBEq]
  rcases Jb h with ⟨h7, h⟩ | ⟨h7, h⟩
  · try simp only [↓Da, Ua, Ra, J06, J1, Jd, Je, *, ↓reduceIte, Nat.reduceEqDiff, Nat.reduceAdd, Nat.reduceLT, Nat.reduceMul, Nat.reduceBEq]
    rcases Jb h with ⟨h8, h⟩ | ⟨h8, h⟩
    · obtain rfl := sj h
      try simp only [↓Da, Ua, Ra, J06, J1, Jd, Je, JV, *, ↓reduceIte, Nat.reduceEqDiff, Nat.reduceAdd, Nat.reduceLT, Nat.reduceMul, Nat.reduceBEq]
      rfl
    · obtain ⟨r9, h10, h⟩ := bi h
      have f11 := J62 p h10
      try simp only [Nf, J1] at f11
      have f12 : ∀ ws k new s, Jn ((Jo (AF (J2 p)) J1j ([.data (J5 b4)], ws) k new).reads s) = [] := J4h rfl
      try simp only [Nf, J1] at f12
      obtain ⟨r13, h14, h⟩ := bi h
      have f15 := J85 p h14
      try simp only [Nf, J1] at f15
      have f16 : ∀ ws k new s, Jn ((Jo (AF (J2 p)) J2A ([.data (J5 b4)], ws) k new).reads s) = [] := J4h rfl
      try simp only [Nf, J1] at f16
      try simp only [↓Da, Ua, Ra, J06, J1, Jd, Je, *, ↓reduceIte, Nat.reduceEqDiff, Nat.reduceAdd, Nat.reduceLT, Nat.reduceMul, Nat.reduceBEq]
      rcases Jb h with ⟨h17, h⟩ | ⟨h17, h⟩
      · obtain ⟨r18, h19, h⟩ := bi h
        have f20 : ∀ ws new s, JB ws s [2] [List.map AV.p (J0 b2)] → (Jo (AF (J2 p)) J3S ([.ptr 2 0, .p (.s r4.1)], ws) 0 new).run s = some ⟨.p (.s r18.1), ws ++ [(2, .box (List.map AV.p (J0 r18.2)))]⟩ := Jw (args' := [.ptr 0 0, .p (.s r4.1)]) (bs := [2]) (css := [List.map AV.p (J0 b2)]) (css' := [List.map AV.p (J0 r18.2)]) rfl rfl rfl (by simp [Ji, J6]) (JeS p h19) rfl rfl (by simp [Ji, J6])
        try simp only [Nf, J1] at f20
        obtain ⟨r21, h22, h⟩ := bi h
        have f23 : ∀ ws new s, JB ws s [2] [List.map AV.p (J0 r18.2)] → (Jo (AF (J2 p)) J9 ([.ptr 2 0, .p (.i .i64 (IntKind.wrap .i64 (((List.length r4.1 : Nat) : Int) + 1)))], ws) 0 new).run s = some ⟨.p (.i .i64 r21.1), ws ++ [(2, .box (List.map AV.p (J0 r21.2)))]⟩ := Jw (args' := [.ptr 0 0, .p (.i .i64 (IntKind.wrap .i64 (((List.length r4.1 : Nat) : Int) + 1)))]) (bs := [2]) (css := [List.map AV.p (J0 r18.2)]) (css' := [List.map AV.p (J0 r21.2)]) rfl rfl rfl (by simp [Ji, J6]) (Ju p h22) rfl rfl (by simp [Ji, J6])
        try simp only [Nf, J1] at f23
        obtain ⟨m24, h25, h⟩ := bi h
        have f26 : J61 (.p (.s r4.1)) none (some (.p (.i .i64 r21.1))) = some (.p (.s m24)) := J9t (k := .i64) (lo := none) (hi := (some r21.1)) h25
        try simp only [Nf, J1] at f26
        try simp only [↓Da, Ua, Ra, J06, J1, Jd, Je, *, ↓reduceIte, Nat.reduceEqDiff, Nat.reduceAdd, Nat.reduceLT, Nat.reduceMul, Nat.reduceBEq]
        have e0 := JaO p (B0 := B0) (B3 := B3) (B4 := (J5 b4)) h
        exact e0
      · obtain rfl := sj h
        try simp only [↓Da, Ua, Ra, J06, J1, Jd, Je, JV, *, ↓reduceIte, Nat.reduceEqDiff, Nat.reduceAdd, Nat.reduceLT, Nat.reduceMul, Nat.reduceBEq]
        rfl
  · obtain rfl := sj h
    try simp only [↓Da, Ua, Ra, J06, J1, Jd, Je, JV, *, ↓reduceIte, Nat.reduceEqDiff, Nat.reduceAdd, Nat.reduceLT, Nat.reduceMul, Nat.reduceBEq]
    rfl
def J1A (x3 : Int) (x4 : Int) (x5 : Int) (x6 : List UInt8) (x76 : List T_api_Index) (x77 : Int) (x78 : Int) (x134 : List (Vector Int 3)) (x135 : Int) (b1 : J3) (b2 : T_pagemenddraw_Codes) (b4 : T_api_Index) (x136 : Int) : Option (((Int) ⊕ (((Int × T_pagemenddraw_Codes) ⊕ (Bool))))) :=
  if (decide (x136 < x135)) then
    Option.bind (idx x134 x136) fun y2 =>
    Option.bind (inb 3 0) fun u5 =>
    Option.bind (Jd0 y2 0) fun y8 =>
    Option.bind (inb 3 1) fun u11 =>
    Option.bind (Jd0 y2 1) fun y14 =>
    Option.bind (inb 3 2) fun u17 =>
    Option.bind (Jd0 y2 2) fun y20 =>
    Option.bind (J2n b4 y8 y14 y20) fun r23 =>
    Option.bind (J4c b4 y8 y14 y20) fun r29 =>
    if ((r23.2 : Int) != r29.2) then
      some (.inr (.inr false))
    else
      Option.bind (J2D r23.1 r29.1) fun r33 =>
      if r33 then
        some (.inl (IntKind.wrap .i64 (x136 + 1)))
      else
        some (.inr (.inr false))
  else
    Option.map (fun o => .inr o) (J3d x3 x4 x5 x6 x76 x77 x78 b1 b2 b4)
theorem J8z {x3 : Int} {x4 : Int} {x5 : Int} {x6 : List UInt8} {x76 : List T_api_Index} {x77 : Int} {x78 : Int} {x134 : List (Vector Int 3)} {x135 : Int} {b1 : J3} {b2 : T_pagemenddraw_Codes} {b4 : T_api_Index} {x136 : Int} {B0 : List PV} {B3 : List PV} {o : ((Int) ⊕ (((Int × T_pagemenddraw_Codes) ⊕ (Bool))))} (h : J1A x3 x4 x5 x6 x76 x77 x78 x134 x135 b1 b2 b4 x136 = some o) :
    rk (J2 p) JC 0 [.lo 5 [3, 4, 5, 6, 9, 15, 18, 76, 77, 78, 134, 135, 136] J0f, .bl 4, .td 5 [3, 4, 5, 6, 9, 14, 15, 18, 76, 77, 78], .sq (.keep [3, 4, 5, 6, 9, 15, 18, 76, 77, 78] J06), .bl 1, .td 4 [3, 4, 5, 6, 9, 14, 15, 76, 77, 78], .sq (.keep [3, 4, 5, 6, 9, 15, 76, 77, 78] JQ), .lo 4 [3, 4, 5, 6, 9, 15, 76, 77, 78] JE, .bl 0, .td 4 [3, 14], .sq (.keep [3] Jv)] (X (J2 p) J0f ⟨[(3, .p (.i .i64 x3)), (4, .p (.i .i64 x4)), (5, .p (.i .i64 x5)), (6, .p (.s x6)), (9, .ptr 1 0), (15, .ptr 2 0), (18, .ptr 4 0), (76, .p (.sl 1 (List.map J5 x76))), (77, .p (.i .i64 x77)), (78, .p (.i .i64 x78)), (134, .p (.sl 3 (List.map (J1Q (r_i .i64)) x134))), (135, .p (.i .i64 x135)), (136, .p (.i .i64 x136))], [.box (List.map AV.p B0), .box (List.map AV.p (J4 b1)), .box (List.map AV.p (J0 b2)), .box (List.map AV.p B3), .box (List.map AV.p (J5 b4))]⟩) = (JbA p x3 x4 x5 x6 x76 x77 x78 x134 x135 b1 b2 b4 B0 B3) o := by
  unfold J1A at h
  rcases Jb h with ⟨h1, h⟩ | ⟨h1, h⟩
  · obtain ⟨y2, h3, h⟩ := bi h
    have f4 := J2R (r := (J1Q (r_i .i64))) h3
    try simp only [Nf, J1] at f4
    obtain ⟨u5, h6, h⟩ := bi h
    have f7 : (0 ≤ (0 : Int) ∧ (0 : Int) < ((3 : Nat) : Int)) = True := eq_true (JjD h6)
    obtain ⟨y8, h9, h⟩ := bi h
    have f10 : sub ((J1Q (r_i .i64)) y2) (Int.toNat 0 * 1) 1 = some ((r_i .i64) y8) := by
      have e0 := (Jd5 (v := y2) (J8a .i64) (Jak h9).2)
      exact e0
    try simp only [Nf, J1] at f10
    obtain ⟨u11, h12, h⟩ := bi h
    have f13 : (0 ≤ (1 : Int) ∧ (1 : Int) < ((3 : Nat) : Int)) = True := eq_true (JjD h12)
    obtain ⟨y14, h15, h⟩ := bi h
    have f16 : sub ((J1Q (r_i .i64)) y2) (Int.toNat 1 * 1) 1 = some ((r_i .i64) y14) := by
      have e0 := (Jd5 (v := y2) (J8a .i64) (Jak h15).2)
      exact e0
    try simp only [Nf, J1] at f16
    obtain ⟨u17, h18, h⟩ := bi h
    have f19 : (0 ≤ (2 : Int) ∧ (2 : Int) < ((3 : Nat) : Int)) = True := eq_true (JjD h18)
    obtain ⟨y20, h21, h⟩ := bi h
    have f22 : sub ((J1Q (r_i .i64)) y2) (Int.toNat 2 * 1) 1 = some ((r_i .i64) y20) := by
      have e0 := (Jd5 (v := y2) (J8a .i64) (Jak h21).2)
      exact e0
    try simp only [Nf, J1] at f22
    obtain ⟨r23, h24, h⟩ := bi h
    have f25 := JdM p h24
    try simp only [Nf, J1] at f25
    have f26 : sub ((J1Q (r_i .i64)) y2) (Int.toNat 0 * 1) 1 = some ((r_i .i64) y8) := by
      have e0 := (Jd5 (v := y2) (J8a .i64) (Jak h9).2)
      exact e0
    try simp only [Nf, J1] at f26
    have f27 : sub ((J1Q (r_i .i64)) y2) (Int.toNat 1 * 1) 1 = some ((r_i .i64) y14) := by
      have e0 := (Jd5 (v := y2) (J8a .i64) (Jak h15).2)
      exact e0
    try simp only [Nf, J1] at f27
    have f28 : sub ((J1Q (r_i .i64)) y2) (Int.toNat 2 * 1) 1 = some ((r_i .i64) y20) := by
      have e0 := (Jd5 (v := y2) (J8a .i64) (Jak h21).2)
      exact e0
    try simp only [Nf, J1] at f28
    obtain ⟨r29, h30, h⟩ := bi h
    have f31 := Ji4 p h30
    try simp only [Nf, J1] at f31
    try simp only [↓Da, Ua, J0f, J1, J5f, Je, *, ↓reduceIte, Nat.reduceEqDiff, Nat.reduceAdd, Nat.reduceLT, Nat.reduceMul]
    rcases Jb h with ⟨h32, h⟩ | ⟨h32, h⟩
    · obtain rfl := sj h
      try simp only [↓Da, Ua, J0f, J1, J5f, Je, JV, *, ↓reduceIte, Nat.reduceEqDiff, Nat.reduceAdd, Nat.reduceLT, Nat.reduceMul]
      rfl
    · obtain ⟨r33, h34, h⟩ := bi h
      have f35 := J8I p h34
      try simp only [Nf, J1] at f35
      try simp only [↓Da, Ua, J0f, J1, J5f, Je, *, ↓reduceIte, Nat.reduceEqDiff, Nat.reduceAdd, Nat.reduceLT, Nat.reduceMul]
      rcases Jb h with ⟨h36, h⟩ | ⟨h36, h⟩
      · obtain rfl := sj h
        try simp only [↓Da, Ua, J0f, J1, J5f, Je, *, ↓reduceIte, Nat.reduceEqDiff, Nat.reduceAdd, Nat.reduceLT, Nat.reduceMul]
        rfl
      · obtain rfl := sj h
        try simp only [↓Da, Ua, J0f, J1, J5f, Je, JV, *, ↓reduceIte, Nat.reduceEqDiff, Nat.reduceAdd, Nat.reduceLT, Nat.reduceMul]
        rfl
  · obtain ⟨o', h', rfl⟩ := mi h
    try simp only [↓Da, Ua, J0f, J1, J5f, Je, *, ↓reduceIte, Nat.reduceEqDiff, Nat.reduceAdd, Nat.reduceLT, Nat.reduceMul]
    have e0 := JbP p (B0 := B0) (B3 := B3) h'
    exact e0
def J6v (x3 : Int) (x4 : Int) (x5 : Int) (x6 : List UInt8) (x76 : List T_api_Index) (x77 : Int) (x78 : Int) (x134 : List (Vector Int 3)) (x135 : Int) (b1 : J3) (b2 : T_pagemenddraw_Codes) (b4 : T_api_Index) (s : Int) : Option (((Int × T_pagemenddraw_Codes) ⊕ (Bool))) :=
  J00 (fun s => J1A x3 x4 x5 x6 x76 x77 x78 x134 x135 b1 b2 b4 s) s
theorem JaJ {x3 : Int} {x4 : Int} {x5 : Int} {x6 : List UInt8} {x76 : List T_api_Index} {x77 : Int} {x78 : Int} {x134 : List (Vector Int 3)} {x135 : Int} {b1 : J3} {b2 : T_pagemenddraw_Codes} {b4 : T_api_Index} {B0 : List PV} {B3 : List PV} {s : Int} {o : ((Int × T_pagemenddraw_Codes) ⊕ (Bool))} (h : J6v x3 x4 x5 x6 x76 x77 x78 x134 x135 b1 b2 b4 s = some o) :
    rk (J2 p) JC 0 [.bl 4, .td 5 [3, 4, 5, 6, 9, 14, 15, 18, 76, 77, 78], .sq (.keep [3, 4, 5, 6, 9, 15, 18, 76, 77, 78] J06), .bl 1, .td 4 [3, 4, 5, 6, 9, 14, 15, 76, 77, 78], .sq (.keep [3, 4, 5, 6, 9, 15, 76, 77, 78] JQ), .lo 4 [3, 4, 5, 6, 9, 15, 76, 77, 78] JE, .bl 0, .td 4 [3, 14], .sq (.keep [3] Jv)] (X (J2 p) (.lp 5 [3, 4, 5, 6, 9, 15, 18, 76, 77, 78, 134, 135, 136] J0f) ⟨[(3, .p (.i .i64 x3)), (4, .p (.i .i64 x4)), (5, .p (.i .i64 x5)), (6, .p (.s x6)), (9, .ptr 1 0), (15, .ptr 2 0), (18, .ptr 4 0), (76, .p (.sl 1 (List.map J5 x76))), (77, .p (.i .i64 x77)), (78, .p (.i .i64 x78)), (134, .p (.sl 3 (List.map (J1Q (r_i .i64)) x134))), (135, .p (.i .i64 x135)), (136, .p (.i .i64 s))], [.box (List.map AV.p B0), .box (List.map AV.p (J4 b1)), .box (List.map AV.p (J0 b2)), .box (List.map AV.p B3), .box (List.map AV.p (J5 b4))]⟩) = (J03 p x3 x4 x5 x6 x76 x77 b1 B0 B3) o := by
  have h0 : J00 (fun s => J1A x3 x4 x5 x6 x76 x77 x78 x134 x135 b1 b2 b4 s) s = some o := h
  exact J2k (P := fun (s : Int) (o : ((Int × T_pagemenddraw_Codes) ⊕ (Bool))) => rk (J2 p) JC 0 [.bl 4, .td 5 [3, 4, 5, 6, 9, 14, 15, 18, 76, 77, 78], .sq (.keep [3, 4, 5, 6, 9, 15, 18, 76, 77, 78] J06), .bl 1, .td 4 [3, 4, 5, 6, 9, 14, 15, 76, 77, 78], .sq (.keep [3, 4, 5, 6, 9, 15, 76, 77, 78] JQ), .lo 4 [3, 4, 5, 6, 9, 15, 76, 77, 78] JE, .bl 0, .td 4 [3, 14], .sq (.keep [3] Jv)] (X (J2 p) (.lp 5 [3, 4, 5, 6, 9, 15, 18, 76, 77, 78, 134, 135, 136] J0f) ⟨[(3, .p (.i .i64 x3)), (4, .p (.i .i64 x4)), (5, .p (.i .i64 x5)), (6, .p (.s x6)), (9, .ptr 1 0), (15, .ptr 2 0), (18, .ptr 4 0), (76, .p (.sl 1 (List.map J5 x76))), (77, .p (.i .i64 x77)), (78, .p (.i .i64 x78)), (134, .p (.sl 3 (List.map (J1Q (r_i .i64)) x134))), (135, .p (.i .i64 x135)), (136, .p (.i .i64 s))], [.box (List.map AV.p B0), .box (List.map AV.p (J4 b1)), .box (List.map AV.p (J0 b2)), .box (List.map AV.p B3), .box (List.map AV.p (J5 b4))]⟩) = (J03 p x3 x4 x5 x6 x76 x77 b1 B0 B3) o) (fun s r hs => by rw [J2e]; exact J8z p hs) (fun s s1 r hs ih => by rw [J2e]; exact (J8z p hs).trans ih) h0
def J3e (x3 : Int) (x4 : Int) (x5 : Int) (x6 : List UInt8) (x76 : List T_api_Index) (x77 : Int) (x78 : Int) (b1 : J3) (b2 : T_pagemenddraw_Codes) (b4 : T_api_Index) : Option (((Int × T_pagemenddraw_Codes) ⊕ (Bool))) :=
  Option.bind (Js b2 6) fun r4 =>
  Option.bind (Js r4.2 4) fun r7 =>
  Option.bind (Js r7.2 30) fun r10 =>
  Option.bind (Js r10.2 2) fun r16 =>
  J6v x3 x4 x5 x6 x76 x77 x78 ([(#v[x3, x4, x5] : Vector Int 3), (#v[(IntKind.wrap .i64 (r4.1 - 1)), r7.1, r10.1] : Vector Int 3), (#v[0, 0, r16.1] : Vector Int 3)] : List (Vector Int 3)) ((List.length ([(#v[x3, x4, x5] : Vector Int 3), (#v[(IntKind.wrap .i64 (r4.1 - 1)), r7.1, r10.1] : Vector Int 3), (#v[0, 0, r16.1] : Vector Int 3)] : List (Vector Int 3)) : Nat) : Int) b1 r16.2 b4 0
theorem JbS {x3 : Int} {x4 : Int} {x5 : Int} {x6 : List UInt8} {x76 : List T_api_Index} {x77 : Int} {x78 : Int} {b1 : J3} {b2 : T_pagemenddraw_Codes} {b4 : T_api_Index} {B0 : List PV} {B3 : List PV} {o : ((Int × T_pagemenddraw_Codes) ⊕ (Bool))} (h : J3e x3 x4 x5 x6 x76 x77 x78 b1 b2 b4 = some o) :
    rk (J2 p) JC 0 [.bl 1, .td 4 [3, 4, 5, 6, 9, 14, 15, 76, 77, 78], .sq (.keep [3, 4, 5, 6, 9, 15, 76, 77, 78] JQ), .lo 4 [3, 4, 5, 6, 9, 15, 76, 77, 78] JE, .bl 0, .td 4 [3, 14], .sq (.keep [3] Jv)] (X (J2 p) J1z ⟨[(3, .p (.i .i64 x3)), (4, .p (.i .i64 x4)), (5, .p (.i .i64 x5)), (6, .p (.s x6)), (9, .ptr 1 0), (15, .ptr 2 0), (18, .ptr 4 0), (76, .p (.sl 1 (List.map J5 x76))), (77, .p (.i .i64 x77)), (78, .p (.i .i64 x78))], [.box (List.map AV.p B0), .box (List.map AV.p (J4 b1)), .box (List.map AV.p (J0 b2)), .box (List.map AV.p B3), .box (List.map AV.p (J5 b4))]⟩) = (J03 p x3 x4 x5 x6 x76 x77 b1 B0 B3) o := by
  unfold J3e at h
  have f1 : spl (J1Q (r_i .i64) (Vector.replicate 3 0)) 0 [.i .i64 x3] = some (J1Q (r_i .i64) (#v[x3, 0, 0] : Vector Int 3)) := rfl
  have f2 : spl (J1Q (r_i .i64) (#v[x3, 0, 0] : Vector Int 3)) 1 [.i .i64 x4] = some (J1Q (r_i .i64) (#v[x3, x4, 0] : Vector Int 3)) := rfl
  have f3 : spl (J1Q (r_i .i64) (#v[x3, x4, 0] : Vector Int 3)) 2 [.i .i64 x5] = some (J1Q (r_i .i64) (#v[x3, x4, x5] : Vector Int 3)) := rfl
  obtain ⟨r4, h5, h⟩ := bi h
  have f6 : ∀ ws new s, JB ws s [2] [List.map AV.p (J0 b2)] → (Jo (AF (J2 p)) J9 ([.ptr 2 0, .p (.i .i64 6)], ws) 0 new).run s = some ⟨.p (.i .i64 r4.1), ws ++ [(2, .box (List.map AV.p (J0 r4.2)))]⟩ := Jw (args' := [.ptr 0 0, .p (.i .i64 6)]) (bs := [2]) (css := [List.map AV.p (J0 b2)]) (css' := [List.map AV.p (J0 r4.2)]) rfl rfl rfl (by simp [Ji, J6]) (Ju p h5) rfl rfl (by simp [Ji, J6])
  try simp only [Nf] at f6
  obtain ⟨r7, h8, h⟩ := bi h
  have f9 : ∀ ws new s, JB ws s [2] [List.map AV.p (J0 r4.2)] → (Jo (AF (J2 p)) J9 ([.ptr 2 0, .p (.i .i64 4)], ws) 0 new).run s = some ⟨.p (.i .i64 r7.1), ws ++ [(2, .box (List.map AV.p (J0 r7.2)))]⟩ := Jw (args' := [.ptr 0 0, .p (.i .i64 4)]) (bs := [2]) (css := [List.map AV.p (J0 r4.2)]) (css' := [List.map AV.p (J0 r7.2)]) rfl rfl rfl (by simp [Ji, J6]) (Ju p h8) rfl rfl (by simp [Ji, J6])
  try simp only [Nf] at f9
  obtain ⟨r10, h11, h⟩ := bi h
  have f12 : ∀ ws new s, JB ws s [2] [List.map AV.p (J0 r7.2)] → (Jo (AF (J2 p)) J9 ([.ptr 2 0, .p (.i .i64 30)], ws) 0 new).run s = some ⟨.p (.i .i64 r10.1), ws ++ [(2, .box (List.map AV.p (J0 r10.2)))]⟩ := Jw (args' := [.ptr 0 0, .p (.i .i64 30)]) (bs := [2]) (css := [List.map AV.p (J0 r7.2)]) (css' := [List.map AV.p (J0 r10.2)]) rfl rfl rfl (by simp [Ji, J6]) (Ju p h11) rfl rfl (by simp [Ji, J6])
  try simp only [Nf] at f12
  have f13 : spl (J1Q (r_i .i64) (Vector.replicate 3 0)) 0 [.i .i64 (IntKind.wrap .i64 (r4.1 - 1))] = some (J1Q (r_i .i64) (#v[(IntKind.wrap .i64 (r4.1 - 1)), 0, 0] : Vector Int 3)) := rfl
  have f14 : spl (J1Q (r_i .i64) (#v[(IntKind.wrap .i64 (r4.1 - 1)), 0, 0] : Vector Int 3)) 1 [.i .i64 r7.1] = some (J1Q (r_i .i64) (#v[(IntKind.wrap .i64 (r4.1 - 1)), r7.1, 0] : Vector Int 3)) := rfl
  have f15 : spl (J1Q (r_i .i64) (#v[(IntKind.wrap .i64 (r4.1 - 1)), r7.1, 0] : Vector Int 3)) 2 [.i .i64 r10.1] = some (J1Q (r_i .i64) (#v[(IntKind.wrap .i64 (r4.1 - 1)), r7.1, r10.1] : Vector Int 3)) := rfl
  obtain ⟨r16, h17, h⟩ := bi h
  have f18 : ∀ ws new s, JB ws s [2] [List.map AV.p (J0 r10.2)] → (Jo (AF (J2 p)) J9 ([.ptr 2 0, .p (.i .i64 2)], ws) 0 new).run s = some ⟨.p (.i .i64 r16.1), ws ++ [(2, .box (List.map AV.p (J0 r16.2)))]⟩ := Jw (args' := [.ptr 0 0, .p (.i .i64 2)]) (bs := [2]) (css := [List.map AV.p (J0 r10.2)]) (css' := [List.map AV.p (J0 r16.2)]) rfl rfl rfl (by simp [Ji, J6]) (Ju p h17) rfl rfl (by simp [Ji, J6])
  try simp only [Nf] at f18
  have f19 : spl (J1Q (r_i .i64) (Vector.replicate 3 0)) 0 [.i .i64 0] = some (J1Q (r_i .i64) (#v[0, 0, 0] : Vector Int 3)) := rfl
  have f20 : spl (J1Q (r_i .i64) (#v[0, 0, 0] : Vector Int 3)) 1 [.i .i64 0] = some (J1Q (r_i .i64) (#v[0, 0, 0] : Vector Int 3)) := rfl
  have f21 : spl (J1Q (r_i .i64) (#v[0, 0, 0] : Vector Int 3)) 2 [.i .i64 r16.1] = some (J1Q (r_i .i64) (#v[0, 0, r16.1] : Vector Int 3)) := rfl
  try simp only [↓Da, Ua, J1z, J5f, Jd, *, ↓reduceIte, Nat.reduceEqDiff, Nat.reduceAdd, Nat.reduceLT, Nat.reduceMul]
  have e0 := JaJ p (B0 := B0) (B3 := B3) h
  exact e0
def J1y (x3 : Int) (x4 : Int) (x5 : Int) (x6 : List UInt8) (x76 : List T_api_Index) (x77 : Int) (x78 : Int) (x91 : List J3) (x92 : Int) (b1 : J3) (b2 : T_pagemenddraw_Codes) (b4 : T_api_Index) (x93 : Int) : Option (((Int) ⊕ (((Int × T_pagemenddraw_Codes) ⊕ (Bool))))) :=
  if (decide (x93 < x92)) then
    Option.bind (idx x91 x93) fun y2 =>
    Option.bind (J0V b4 y2) fun r5 =>
    Option.bind (J6A b4 y2) fun r8 =>
    if ((r5.2 : Int) != r8.2) then
      some (.inr (.inr false))
    else
      Option.bind (J2D r5.1 r8.1) fun r12 =>
      if r12 then
        some (.inl (IntKind.wrap .i64 (x93 + 1)))
      else
        some (.inr (.inr false))
  else
    Option.map (fun o => .inr o) (J3e x3 x4 x5 x6 x76 x77 x78 b1 b2 b4)
theorem J8H {x3 : Int} {x4 : Int} {x5 : Int} {x6 : List UInt8} {x76 : List T_api_Index} {x77 : Int} {x78 : Int} {x91 : List J3} {x92 : Int} {b1 : J3} {b2 : T_pagemenddraw_Codes} {b4 : T_api_Index} {x93 : Int} {B0 : List PV} {B3 : List PV} {o : ((Int) ⊕ (((Int × T_pagemenddraw_Codes) ⊕ (Bool))))} (h : J1y x3 x4 x5 x6 x76 x77 x78 x91 x92 b1 b2 b4 x93 = some o) :
    rk (J2 p) JC 0 [.lo 5 [3, 4, 5, 6, 9, 15, 18, 76, 77, 78, 91, 92, 93] J0h, .bl 2, .td 5 [3, 4, 5, 6, 9, 14, 15, 18, 76, 77, 78], .sq (.keep [3, 4, 5, 6, 9, 15, 18, 76, 77, 78] J1z), .bl 1, .td 4 [3, 4, 5, 6, 9, 14, 15, 76, 77, 78], .sq (.keep [3, 4, 5, 6, 9, 15, 76, 77, 78] JQ), .lo 4 [3, 4, 5, 6, 9, 15, 76, 77, 78] JE, .bl 0, .td 4 [3, 14], .sq (.keep [3] Jv)] (X (J2 p) J0h ⟨[(3, .p (.i .i64 x3)), (4, .p (.i .i64 x4)), (5, .p (.i .i64 x5)), (6, .p (.s x6)), (9, .ptr 1 0), (15, .ptr 2 0), (18, .ptr 4 0), (76, .p (.sl 1 (List.map J5 x76))), (77, .p (.i .i64 x77)), (78, .p (.i .i64 x78)), (91, .p (.sl 13 (List.map J4 x91))), (92, .p (.i .i64 x92)), (93, .p (.i .i64 x93))], [.box (List.map AV.p B0), .box (List.map AV.p (J4 b1)), .box (List.map AV.p (J0 b2)), .box (List.map AV.p B3), .box (List.map AV.p (J5 b4))]⟩) = (JbX p x3 x4 x5 x6 x76 x77 x78 x91 x92 b1 b2 b4 B0 B3) o := by
  unfold J1y at h
  rcases Jb h with ⟨h1, h⟩ | ⟨h1, h⟩
  · obtain ⟨y2, h3, h⟩ := bi h
    have f4 := J2R (r := J4) h3
    try simp only [Nf, J1] at f4
    obtain ⟨r5, h6, h⟩ := bi h
    have f7 := J9r p h6
    try simp only [Nf, J1] at f7
    obtain ⟨r8, h9, h⟩ := bi h
    have f10 := Jm7 p h9
    try simp only [Nf, J1] at f10
    try simp only [↓Da, Ua, J0h, J1, Ja, J8, Jh, Je, *, ↓reduceIte, Nat.reduceEqDiff, Nat.reduceAdd, Nat.reduceLT, Nat.reduceMul]
    rcases Jb h with ⟨h11, h⟩ | ⟨h11, h⟩
    · obtain rfl := sj h
      try simp only [↓Da, Ua, J0h, J1, Ja, J8, Jh, Je, JV, *, ↓reduceIte, Nat.reduceEqDiff, Nat.reduceAdd, Nat.reduceLT, Nat.reduceMul]
      rfl
    · obtain ⟨r12, h13, h⟩ := bi h
      have f14 := J8I p h13
      try simp only [Nf, J1] at f14
      try simp only [↓Da, Ua, J0h, J1, Ja, J8, Jh, Je, *, ↓reduceIte, Nat.reduceEqDiff, Nat.reduceAdd, Nat.reduceLT, Nat.reduceMul]
      rcases Jb h with ⟨h15, h⟩ | ⟨h15, h⟩
      · obtain rfl := sj h
        try simp only [↓Da, Ua, J0h, J1, Ja, J8, Jh, Je, *, ↓reduceIte, Nat.reduceEqDiff, Nat.reduceAdd, Nat.reduceLT, Nat.reduceMul]
        rfl
      · obtain rfl := sj h
        try simp only [↓Da, Ua, J0h, J1, Ja, J8, Jh, Je, JV, *, ↓reduceIte, Nat.reduceEqDiff, Nat.reduceAdd, Nat.reduceLT, Nat.reduceMul]
        rfl
  · obtain ⟨o', h', rfl⟩ := mi h
    try simp only [↓Da, Ua, J0h, J1, Ja, J8, Jh, Je, *, ↓reduceIte, Nat.reduceEqDiff, Nat.reduceAdd, Nat.reduceLT, Nat.reduceMul]
    have e0 := JbS p (B0 := B0) (B3 := B3) h'
    exact e0
def J6D (x3 : Int) (x4 : Int) (x5 : Int) (x6 : List UInt8) (x76 : List T_api_Index) (x77 : Int) (x78 : Int) (x91 : List J3) (x92 : Int) (b1 : J3) (b2 : T_pagemenddraw_Codes) (b4 : T_api_Index) (s : Int) : Option (((Int × T_pagemenddraw_Codes) ⊕ (Bool))) :=
  J00 (fun s => J1y x3 x4 x5 x6 x76 x77 x78 x91 x92 b1 b2 b4 s) s
theorem JaR {x3 : Int} {x4 : Int} {x5 : Int} {x6 : List UInt8} {x76 : List T_api_Index} {x77 : Int} {x78 : Int} {x91 : List J3} {x92 : Int} {b1 : J3} {b2 : T_pagemenddraw_Codes} {b4 : T_api_Index} {B0 : List PV} {B3 : List PV} {s : Int} {o : ((Int × T_pagemenddraw_Codes) ⊕ (Bool))} (h : J6D x3 x4 x5 x6 x76 x77 x78 x91 x92 b1 b2 b4 s = some o) :
    rk (J2 p) JC 0 [.bl 2, .td 5 [3, 4, 5, 6, 9, 14, 15, 18, 76, 77, 78], .sq (.keep [3, 4, 5, 6, 9, 15, 18, 76, 77, 78] J1z), .bl 1, .td 4 [3, 4, 5, 6, 9, 14, 15, 76, 77, 78], .sq (.keep [3, 4, 5, 6, 9, 15, 76, 77, 78] JQ), .lo 4 [3, 4, 5, 6, 9, 15, 76, 77, 78] JE, .bl 0, .td 4 [3, 14], .sq (.keep [3] Jv)] (X (J2 p) (.lp 5 [3, 4, 5, 6, 9, 15, 18, 76, 77, 78, 91, 92, 93] J0h) ⟨[(3, .p (.i .i64 x3)), (4, .p (.i .i64 x4)), (5, .p (.i .i64 x5)), (6, .p (.s x6)), (9, .ptr 1 0), (15, .ptr 2 0), (18, .ptr 4 0), (76, .p (.sl 1 (List.map J5 x76))), (77, .p (.i .i64 x77)), (78, .p (.i .i64 x78)), (91, .p (.sl 13 (List.map J4 x91))), (92, .p (.i .i64 x92)), (93, .p (.i .i64 s))], [.box (List.map AV.p B0), .box (List.map AV.p (J4 b1)), .box (List.map AV.p (J0 b2)), .box (List.map AV.p B3), .box (List.map AV.p (J5 b4))]⟩) = (J03 p x3 x4 x5 x6 x76 x77 b1 B0 B3) o := by
  have h0 : J00 (fun s => J1y x3 x4 x5 x6 x76 x77 x78 x91 x92 b1 b2 b4 s) s = some o := h
  exact J2k (P := fun (s : Int) (o : ((Int × T_pagemenddraw_Codes) ⊕ (Bool))) => rk (J2 p) JC 0 [.bl 2, .td 5 [3, 4, 5, 6, 9, 14, 15, 18, 76, 77, 78], .sq (.keep [3, 4, 5, 6, 9, 15, 18, 76, 77, 78] J1z), .bl 1, .td 4 [3, 4, 5, 6, 9, 14, 15, 76, 77, 78], .sq (.keep [3, 4, 5, 6, 9, 15, 76, 77, 78] JQ), .lo 4 [3, 4, 5, 6, 9, 15, 76, 77, 78] JE, .bl 0, .td 4 [3, 14], .sq (.keep [3] Jv)] (X (J2 p) (.lp 5 [3, 4, 5, 6, 9, 15, 18, 76, 77, 78, 91, 92, 93] J0h) ⟨[(3, .p (.i .i64 x3)), (4, .p (.i .i64 x4)), (5, .p (.i .i64 x5)), (6, .p (.s x6)), (9, .ptr 1 0), (15, .ptr 2 0), (18, .ptr 4 0), (76, .p (.sl 1 (List.map J5 x76))), (77, .p (.i .i64 x77)), (78, .p (.i .i64 x78)), (91, .p (.sl 13 (List.map J4 x91))), (92, .p (.i .i64 x92)), (93, .p (.i .i64 s))], [.box (List.map AV.p B0), .box (List.map AV.p (J4 b1)), .box (List.map AV.p (J0 b2)), .box (List.map AV.p B3), .box (List.map AV.p (J5 b4))]⟩) = (J03 p x3 x4 x5 x6 x76 x77 b1 B0 B3) o) (fun s r hs => by rw [J2e]; exact J8H p hs) (fun s s1 r hs ih => by rw [J2e]; exact (J8H p hs).trans ih) h0
def J35 (x3 : Int) : Option (Bool) :=
  Option.bind (J1O x3) fun r1 =>
  Option.bind (J3Z x3) fun r4 =>
  if ((r4.2 : Int) == 0) then
    if ((r1.2 : Int) == r4.2) then
      Option.bind (J2D r1.1 (⟨r4.1.Rows⟩ : T_api_Index)) fun r9 =>
      some r9
    else
      some false
  else
    if ((r1.2 : Int) == r4.2) then
      Option.bind (J2D r1.1 r4.1) fun r14 =>
      some r14
    else
      some false
theorem Jbx {x3 : Int} {B0 : List PV} {B1 : List PV} {B2 : List PV} {B3 : List PV} {o : Bool} (h : J35 x3 = some o) :
    rk (J2 p) JC 0 [] (X (J2 p) Jv ⟨[(3, .p (.i .i64 x3))], [.box (List.map AV.p B0), .box (List.map AV.p B1), .box (List.map AV.p B2), .box (List.map AV.p B3)]⟩) = J2I o := by
  unfold J35 at h
  obtain ⟨r1, h2, h⟩ := bi h
  have f3 := JcD p h2
  try simp only [Nf, J1, Jl] at f3
  obtain ⟨r4, h5, h⟩ := bi h
  try simp only [↓Da, Ua, Jv, J1, Jl, *, ↓reduceIte, Nat.reduceEqDiff, Nat.reduceAdd, Nat.reduceLT, Nat.reduceMul]
  rcases Jb h with ⟨h6, h⟩ | ⟨h6, h⟩
  · have h6n : ((r4.2 : Int) != 0) = false := by rw [bne, h6]; rfl
    have f7 := JeC p h5 h6
    try simp only [Nf, J1, Jl] at f7
    try simp only [↓Da, Ua, Jv, J1, Jl, *, ↓reduceIte, Nat.reduceEqDiff, Nat.reduceAdd, Nat.reduceLT, Nat.reduceMul]
    rcases Jb h with ⟨h8, h⟩ | ⟨h8, h⟩
    · obtain ⟨r9, h10, h⟩ := bi h
      have f11 := J8I p h10
      try simp only [Nf, J1, Jl] at f11
      obtain rfl := sj h
      try simp only [↓Da, Ua, Jv, J1, Jl, JV, *, ↓reduceIte, Nat.reduceEqDiff, Nat.reduceAdd, Nat.reduceLT, Nat.reduceMul]
      rfl
    · obtain rfl := sj h
      try simp only [↓Da, Ua, Jv, J1, Jl, JV, *, ↓reduceIte, Nat.reduceEqDiff, Nat.reduceAdd, Nat.reduceLT, Nat.reduceMul]
      rfl
  · have h6n : ((r4.2 : Int) != 0) = true := by rw [bne, h6]; rfl
    have f12 := Jks p h5 h6
    try simp only [Nf, J1, Jl] at f12
    try simp only [↓Da, Ua, Jv, J1, Jl, *, ↓reduceIte, Nat.reduceEqDiff, Nat.reduceAdd, Nat.reduceLT, Nat.reduceMul]
    rcases Jb h with ⟨h13, h⟩ | ⟨h13, h⟩
    · obtain ⟨r14, h15, h⟩ := bi h
      have f16 := J8I p h15
      try simp only [Nf, J1, Jl] at f16
      obtain rfl := sj h
      try simp only [↓Da, Ua, Jv, J1, Jl, JV, *, ↓reduceIte, Nat.reduceEqDiff, Nat.reduceAdd, Nat.reduceLT, Nat.reduceMul]
      rfl
    · obtain rfl := sj h
      try simp only [↓Da, Ua, Jv, J1, Jl, JV, *, ↓reduceIte, Nat.reduceEqDiff, Nat.reduceAdd, Nat.reduceLT, Nat.reduceMul]
      rfl
def J19 (x3 : Int) (x4 : Int) (x5 : Int) (x6 : List UInt8) (x76 : List T_api_Index) (x77 : Int) (b1 : J3) (x78 : Int) (b2 : T_pagemenddraw_Codes) : Option (((Int × T_pagemenddraw_Codes) ⊕ (Bool))) :=
  if (decide (x78 < x77)) then
    Option.bind (idx x76 x78) fun y2 =>
    Option.bind (J4k b2) fun r5 =>
    Option.bind (Js r5.2 59) fun r9 =>
    Option.bind (Js r9.2 6) fun r13 =>
    J6D x3 x4 x5 x6 x76 x77 x78 ([b1, r5.1, (⟨60, 7, 0, 0, 0, r9.1, (⟨r13.1, 0, (⟨false, ([] : List UInt8)⟩ : Jm), (⟨false, ([] : List UInt8)⟩ : Jm)⟩ : Jk), ([] : List UInt8)⟩ : J3)] : List J3) ((List.length ([b1, r5.1, (⟨60, 7, 0, 0, 0, r9.1, (⟨r13.1, 0, (⟨false, ([] : List UInt8)⟩ : Jm), (⟨false, ([] : List UInt8)⟩ : Jm)⟩ : Jk), ([] : List UInt8)⟩ : J3)] : List J3) : Nat) : Int) b1 r13.2 y2 0
  else
    Option.map (fun o => .inr o) (J35 x3)
theorem J8N {x3 : Int} {x4 : Int} {x5 : Int} {x6 : List UInt8} {x76 : List T_api_Index} {x77 : Int} {b1 : J3} {x78 : Int} {b2 : T_pagemenddraw_Codes} {B0 : List PV} {B3 : List PV} {o : ((Int × T_pagemenddraw_Codes) ⊕ (Bool))} (h : J19 x3 x4 x5 x6 x76 x77 b1 x78 b2 = some o) :
    rk (J2 p) JC 0 [.lo 4 [3, 4, 5, 6, 9, 15, 76, 77, 78] JE, .bl 0, .td 4 [3, 14], .sq (.keep [3] Jv)] (X (J2 p) JE ⟨[(3, .p (.i .i64 x3)), (4, .p (.i .i64 x4)), (5, .p (.i .i64 x5)), (6, .p (.s x6)), (9, .ptr 1 0), (15, .ptr 2 0), (76, .p (.sl 1 (List.map J5 x76))), (77, .p (.i .i64 x77)), (78, .p (.i .i64 x78))], [.box (List.map AV.p B0), .box (List.map AV.p (J4 b1)), .box (List.map AV.p (J0 b2)), .box (List.map AV.p B3)]⟩) = (J03 p x3 x4 x5 x6 x76 x77 b1 B0 B3) o := by
  unfold J19 at h
  rcases Jb h with ⟨h1, h⟩ | ⟨h1, h⟩
  · obtain ⟨y2, h3, h⟩ := bi h
    have f4 := J2R (r := J5) h3
    try simp only [Nf, J1] at f4
    obtain ⟨r5, h6, h⟩ := bi h
    have f7 : ∀ ws new s, JB ws s [2] [List.map AV.p (J0 b2)] → (Jo (AF (J2 p)) J3c ([.ptr 2 0], ws) 0 new).run s = some ⟨.data (J4 r5.1), ws ++ [(2, .box (List.map AV.p (J0 r5.2)))]⟩ := Jw (args' := [.ptr 0 0]) (bs := [2]) (css := [List.map AV.p (J0 b2)]) (css' := [List.map AV.p (J0 r5.2)]) rfl rfl rfl (by simp [Ji, J6]) (Jfv p h6) rfl rfl (by simp [Ji, J6])
    try simp only [Nf, J1] at f7
    have f8 : ∀ ws k new s, JB ws s [2] [List.map AV.p (J0 b2)] → Jn ((Jo (AF (J2 p)) J3c ([.ptr 2 0], ws) k new).reads s) = [2] ++ ([2] ++ [2]) := J0Y (args' := [.ptr 0 0]) (bs := [2]) (css := [List.map AV.p (J0 b2)]) rfl rfl rfl (by simp [Ji, J6])
    try simp only [Nf, J1] at f8
    obtain ⟨r9, h10, h⟩ := bi h
    have f11 : ∀ ws new s, JB ws s [2] [List.map AV.p (J0 r5.2)] → (Jo (AF (J2 p)) J9 ([.ptr 2 0, .p (.i .i64 59)], ws) 0 new).run s = some ⟨.p (.i .i64 r9.1), ws ++ [(2, .box (List.map AV.p (J0 r9.2)))]⟩ := Jw (args' := [.ptr 0 0, .p (.i .i64 59)]) (bs := [2]) (css := [List.map AV.p (J0 r5.2)]) (css' := [List.map AV.p (J0 r9.2)]) rfl rfl rfl (by simp [Ji, J6]) (Ju p h10) rfl rfl (by simp [Ji, J6])
    try simp only [Nf, J1] at f11
    have f12 : ∀ ws k new s, JB ws s [2] [List.map AV.p (J0 r5.2)] → Jn ((Jo (AF (J2 p)) J9 ([.ptr 2 0, .p (.i .i64 59)], ws) k new).reads s) = [2] ++ ([2] ++ [2]) := J0Y (args' := [.ptr 0 0, .p (.i .i64 59)]) (bs := [2]) (css := [List.map AV.p (J0 r5.2)]) rfl rfl rfl (by simp [Ji, J6])
    try simp only [Nf, J1] at f12
    obtain ⟨r13, h14, h⟩ := bi h
    have f15 : ∀ ws new s, JB ws s [2] [List.map AV.p (J0 r9.2)] → (Jo (AF (J2 p)) J9 ([.ptr 2 0, .p (.i .i64 6)], ws) 0 new).run s = some ⟨.p (.i .i64 r13.1), ws ++ [(2, .box (List.map AV.p (J0 r13.2)))]⟩ := Jw (args' := [.ptr 0 0, .p (.i .i64 6)]) (bs := [2]) (css := [List.map AV.p (J0 r9.2)]) (css' := [List.map AV.p (J0 r13.2)]) rfl rfl rfl (by simp [Ji, J6]) (Ju p h14) rfl rfl (by simp [Ji, J6])
    try simp only [Nf, J1] at f15
    have f16 : ∀ ws k new s, JB ws s [2] [List.map AV.p (J0 r9.2)] → Jn ((Jo (AF (J2 p)) J9 ([.ptr 2 0, .p (.i .i64 6)], ws) k new).reads s) = [2] ++ ([2] ++ [2]) := J0Y (args' := [.ptr 0 0, .p (.i .i64 6)]) (bs := [2]) (css := [List.map AV.p (J0 r9.2)]) rfl rfl rfl (by simp [Ji, J6])
    try simp only [Nf, J1] at f16
    try simp only [↓Da, Ua, Ra, JE, J1, Ja, J8, Jh, Jd, Je, *, ↓reduceIte, Nat.reduceEqDiff, Nat.reduceAdd, Nat.reduceLT, Nat.reduceMul, Nat.reduceBEq]
    have e0 := JaR p (B0 := B0) (B3 := B3) h
    exact e0
  · obtain ⟨o', h', rfl⟩ := mi h
    try simp only [↓Da, Ua, Ra, JE, J1, Ja, J8, Jh, Jd, Je, *, ↓reduceIte, Nat.reduceEqDiff, Nat.reduceAdd, Nat.reduceLT, Nat.reduceMul, Nat.reduceBEq]
    have e0 := Jbx p (B0 := B0) (B1 := (J4 b1)) (B2 := (J0 b2)) (B3 := B3) h'
    exact e0
def J6B (x3 : Int) (x4 : Int) (x5 : Int) (x6 : List UInt8) (x76 : List T_api_Index) (x77 : Int) (b1 : J3) (s : Int × T_pagemenddraw_Codes) : Option (Bool) :=
  J00 (fun s => J19 x3 x4 x5 x6 x76 x77 b1 s.1 s.2) s
theorem JaP {x3 : Int} {x4 : Int} {x5 : Int} {x6 : List UInt8} {x76 : List T_api_Index} {x77 : Int} {b1 : J3} {B0 : List PV} {B3 : List PV} {s : Int × T_pagemenddraw_Codes} {o : Bool} (h : J6B x3 x4 x5 x6 x76 x77 b1 s = some o) :
    rk (J2 p) JC 0 [.bl 0, .td 4 [3, 14], .sq (.keep [3] Jv)] (X (J2 p) (.lp 4 [3, 4, 5, 6, 9, 15, 76, 77, 78] JE) ⟨[(3, .p (.i .i64 x3)), (4, .p (.i .i64 x4)), (5, .p (.i .i64 x5)), (6, .p (.s x6)), (9, .ptr 1 0), (15, .ptr 2 0), (76, .p (.sl 1 (List.map J5 x76))), (77, .p (.i .i64 x77)), (78, .p (.i .i64 s.1))], [.box (List.map AV.p B0), .box (List.map AV.p (J4 b1)), .box (List.map AV.p (J0 s.2)), .box (List.map AV.p B3)]⟩) = J2I o := by
  have h0 : J00 (fun s => J19 x3 x4 x5 x6 x76 x77 b1 s.1 s.2) s = some o := h
  exact J2k (P := fun (s : Int × T_pagemenddraw_Codes) (o : Bool) => rk (J2 p) JC 0 [.bl 0, .td 4 [3, 14], .sq (.keep [3] Jv)] (X (J2 p) (.lp 4 [3, 4, 5, 6, 9, 15, 76, 77, 78] JE) ⟨[(3, .p (.i .i64 x3)), (4, .p (.i .i64 x4)), (5, .p (.i .i64 x5)), (6, .p (.s x6)), (9, .ptr 1 0), (15, .ptr 2 0), (76, .p (.sl 1 (List.map J5 x76))), (77, .p (.i .i64 x77)), (78, .p (.i .i64 s.1))], [.box (List.map AV.p B0), .box (List.map AV.p (J4 b1)), .box (List.map AV.p (J0 s.2)), .box (List.map AV.p B3)]⟩) = J2I o) (fun s r hs => by rw [J2e]; exact J8N p hs) (fun s s1 r hs ih => by rw [J2e]; exact (J8N p hs).trans ih) h0
def J46 (x0 : List Int) (x1 : T_api_Index) (x2 : J3) (x3 : Int) (x4 : Int) (x5 : Int) (x6 : List UInt8) : Option (Bool) :=
  Option.bind (J5O) fun r1 =>
  if r1 then
    if (decide (((List.length x1.Rows : Nat) : Int) > 100)) then
      some true
    else
      if (decide (((List.length x6 : Nat) : Int) > 400)) then
        some true
      else
        Option.bind (J79 x0 120) fun r7 =>
        Option.bind (J5Q r7) fun r10 =>
        Option.bind (J8j r10.2 r10.1) fun r13 =>
        J6B x3 x4 x5 x6 ([x1, r10.1, r13.1] : List T_api_Index) ((List.length ([x1, r10.1, r13.1] : List T_api_Index) : Nat) : Int) x2 (0, r13.2)
  else
    if (decide (((List.length x1.Rows : Nat) : Int) > 100)) then
      some true
    else
      some (decide (((List.length x6 : Nat) : Int) > 400))
theorem JaQ {x0 : List Int} {x1 : T_api_Index} {x2 : J3} {x3 : Int} {x4 : Int} {x5 : Int} {x6 : List UInt8} {o : Bool} (h : J46 x0 x1 x2 x3 x4 x5 x6 = some o) :
    rk (J2 p) JC 0 [] (X (J2 p) J0i ⟨[(0, .p (.sl 1 (List.map (r_i .u8) x0))), (1, .data (J5 x1)), (2, .data (J4 x2)), (3, .p (.i .i64 x3)), (4, .p (.i .i64 x4)), (5, .p (.i .i64 x5)), (6, .p (.s x6))], []⟩) = J2I o := by
  unfold J46 at h
  obtain ⟨r1, h2, h⟩ := bi h
  have f3 := Jkz p h2
  try simp only [Nf, J1] at f3
  try simp only [↓Da, Ua, Ra, J0i, J1, Ja, J8, Jh, Jd, Je, *, ↓reduceIte, Nat.reduceEqDiff, Nat.reduceAdd, Nat.reduceLT, Nat.reduceMul, Nat.reduceBEq]
  rcases Jb h with ⟨h4, h⟩ | ⟨h4, h⟩
  · try simp only [↓Da, Ua, Ra, J0i, J1, Ja, J8, Jh, Jd, Je, *, ↓reduceIte, Nat.reduceEqDiff, Nat.reduceAdd, Nat.reduceLT, Nat.reduceMul, Nat.reduceBEq]
    rcases Jb h with ⟨h5, h⟩ | ⟨h5, h⟩
    · obtain rfl := sj h
      try simp only [↓Da, Ua, Ra, J0i, J1, Ja, J8, Jh, Jd, Je, JV, *, ↓reduceIte, Nat.reduceEqDiff, Nat.reduceAdd, Nat.reduceLT, Nat.reduceMul, Nat.reduceBEq]
      rfl
    · try simp only [↓Da, Ua, Ra, J0i, J1, Ja, J8, Jh, Jd, Je, *, ↓reduceIte, Nat.reduceEqDiff, Nat.reduceAdd, Nat.reduceLT, Nat.reduceMul, Nat.reduceBEq]
      rcases Jb h with ⟨h6, h⟩ | ⟨h6, h⟩
      · obtain rfl := sj h
        try simp only [↓Da, Ua, Ra, J0i, J1, Ja, J8, Jh, Jd, Je, JV, *, ↓reduceIte, Nat.reduceEqDiff, Nat.reduceAdd, Nat.reduceLT, Nat.reduceMul, Nat.reduceBEq]
        rfl
      · obtain ⟨r7, h8, h⟩ := bi h
        have f9 : ∀ ws new s, (Jo (AF (J2 p)) J8W ([.p (.sl 1 (List.map (r_i .u8) x0)), .p (.i .i64 120)], ws) 1 new).run s = some ⟨.ptr new 0, ws ++ [(new, .box (List.map AV.p (J0 r7)))]⟩ := JnS rfl (Jnx p h8) (J6 _)
        try simp only [Nf, J1] at f9
        obtain ⟨r10, h11, h⟩ := bi h
        have f12 : ∀ ws new s, JB ws s [2] [List.map AV.p (J0 r7)] → (Jo (AF (J2 p)) J6T ([.ptr 2 0], ws) 0 new).run s = some ⟨.data (J5 r10.1), ws ++ [(2, .box (List.map AV.p (J0 r10.2)))]⟩ := Jw (args' := [.ptr 0 0]) (bs := [2]) (css := [List.map AV.p (J0 r7)]) (css' := [List.map AV.p (J0 r10.2)]) rfl rfl rfl (by simp [Ji, J6]) (JkG p h11) rfl rfl (by simp [Ji, J6])
        try simp only [Nf, J1] at f12
        obtain ⟨r13, h14, h⟩ := bi h
        have f15 : ∀ ws new s, JB ws s [2] [List.map AV.p (J0 r10.2)] → (Jo (AF (J2 p)) J7l ([.ptr 2 0, .data (J5 r10.1)], ws) 0 new).run s = some ⟨.data (J5 r13.1), ws ++ [(2, .box (List.map AV.p (J0 r13.2)))]⟩ := Jw (args' := [.ptr 0 0, .data (J5 r10.1)]) (bs := [2]) (css := [List.map AV.p (J0 r10.2)]) (css' := [List.map AV.p (J0 r13.2)]) rfl rfl rfl (by simp [Ji, J6]) (JmJ p h14) rfl rfl (by simp [Ji, J6])
        try simp only [Nf, J1] at f15
        have f16 : ∀ ws k new s, JB ws s [2] [List.map AV.p (J0 r10.2)] → Jn ((Jo (AF (J2 p)) J7l ([.ptr 2 0, .data (J5 r10.1)], ws) k new).reads s) = [2] ++ ([2] ++ [2]) := J0Y (args' := [.ptr 0 0, .data (J5 r10.1)]) (bs := [2]) (css := [List.map AV.p (J0 r10.2)]) rfl rfl rfl (by simp [Ji, J6])
        try simp only [Nf, J1] at f16
        try simp only [↓Da, Ua, Ra, J0i, J1, Ja, J8, Jh, Jd, Je, *, ↓reduceIte, Nat.reduceEqDiff, Nat.reduceAdd, Nat.reduceLT, Nat.reduceMul, Nat.reduceBEq]
        have e0 := JaP p (B0 := (J5 x1)) (B3 := (J5 r10.1)) h
        exact e0
  · try simp only [↓Da, Ua, Ra, J0i, J1, Ja, J8, Jh, Jd, Je, *, ↓reduceIte, Nat.reduceEqDiff, Nat.reduceAdd, Nat.reduceLT, Nat.reduceMul, Nat.reduceBEq]
    rcases Jb h with ⟨h17, h⟩ | ⟨h17, h⟩
    · obtain rfl := sj h
      try simp only [↓Da, Ua, Ra, J0i, J1, Ja, J8, Jh, Jd, Je, JV, *, ↓reduceIte, Nat.reduceEqDiff, Nat.reduceAdd, Nat.reduceLT, Nat.reduceMul, Nat.reduceBEq]
      rfl
    · obtain rfl := sj h
      try simp only [↓Da, Ua, Ra, J0i, J1, Ja, J8, Jh, Jd, Je, JV, *, ↓reduceIte, Nat.reduceEqDiff, Nat.reduceAdd, Nat.reduceLT, Nat.reduceMul, Nat.reduceBEq]
      rfl
theorem JcX {x0 : List Int} {x1 : T_api_Index} {x2 : J3} {x3 : Int} {x4 : Int} {x5 : Int} {x6 : List UInt8} {o : Bool} (h : J46 x0 x1 x2 x3 x4 x5 x6 = some o) : AF (J2 p) J5q [.p (.sl 1 (List.map (r_i .u8) x0)), .data (J5 x1), .data (J4 x2), .p (.i .i64 x3), .p (.i .i64 x4), .p (.i .i64 x5), .p (.s x6)] [] = J2I o :=
  (J0s (J2 p) (JcK p) rfl).trans (JaQ p h)
end
end Go.Am
end
section
end
section
namespace Go.Am
theorem J0G {n : Int} (h1 : -9223372036854775808 ≤ n) (h2 : n ≤ 9223372036854775807) : IntKind.i64.wrap n = n := by
  simp [IntKind.wrap_i64]; omega
theorem Jan {n : Int} (h1 : 0 ≤ n) (h2 : n < 18446744073709551616) : IntKind.u64.wrap n = n := by
  rw [show IntKind.u64.wrap n = n % 18446744073709551616 by simp [IntKind.wrap, IntKind.bits, IntKind.signed]]; omega
theorem Jdb {α : Type} (l : List α) (k : Nat) : idx l (k : Int) = l[k]? := by simp [idx]
theorem Jhx {α : Type} {n : Nat} (v : Vector α n) (k : Nat) (h : k < n) : Jd0 v (k : Int) = some v[k] := by
  have e : (0 : Int) ≤ k ∧ (k : Int) < n := by omega
  simp [Jd0, e, h]
theorem J44 {k : Nat} (h : k < 1000000) : IntKind.i64.wrap ((k : Int) + 1) = ((k + 1 : Nat) : Int) := by
  rw [J0G (by omega) (by omega)]; simp
theorem J5v {σ ρ : Type} {f : σ → Option (σ ⊕ ρ)} (I : σ → Prop) (m : σ → Nat) (Q : ρ → Prop)
    (h : ∀ s, I s → (∃ s', f s = some (.inl s') ∧ I s' ∧ m s' < m s) ∨ (∃ r, f s = some (.inr r) ∧ Q r)) : ∀ s, I s → ∃ r, J00 f s = some r ∧ Q r := by
  have key : ∀ n s, m s ≤ n → I s → ∃ r, J00 f s = some r ∧ Q r := by
    intro n
    induction n with
    | zero =>
      intro s hm hs
      rcases h s hs with ⟨s', e, hs', hlt⟩ | ⟨r, e, hq⟩
      · omega
      · exact ⟨r, J7O e, hq⟩
    | succ n ih =>
      intro s hm hs
      rcases h s hs with ⟨s', e, hs', hlt⟩ | ⟨r, e, hq⟩
      · obtain ⟨r, hr, hq⟩ := ih s' (by omega) hs'
        exact ⟨r, (J9N e).trans hr, hq⟩
      · exact ⟨r, J7O e, hq⟩
  exact fun s hs => key (m s) s (Nat.le_refl _) hs
structure J0v (b : T_pagemenddraw_Codes) : Prop where
  at0 : 0 ≤ b.at_
  at1 : b.at_ ≤ b.l_.length
  len : b.l_.length ≤ 1000
  byte : ∀ x ∈ b.l_, 0 ≤ x ∧ x ≤ 255
theorem Jiw {b : T_pagemenddraw_Codes} (hb : J0v b) {n : Int} (h1 : 1 ≤ n) (h2 : n ≤ 256) (m : Nat) : ∃ r b', J0S (m + 1) b n = some (r, b') ∧ J0v b' ∧ 0 ≤ r ∧ r < n := by
  obtain ⟨ha, hb1, hl, hx⟩ := hb
  simp only [J0S, J2Y]
  by_cases hc : b.at_ ≥ (b.l_.length : Int)
  · exact ⟨0, b, by simp [hc], ⟨ha, hb1, hl, hx⟩, by omega, by omega⟩
  · obtain ⟨k, hk⟩ : ∃ k : Nat, b.at_ = (k : Int) := ⟨b.at_.toNat, by omega⟩
    have hk2 : k < b.l_.length := by omega
    have hy := hx _ (List.getElem_mem hk2)
    have e1 : ¬ n < 1 := by omega
    have e2 : ¬ n > 256 := by omega
    have e3 : idx b.l_ b.at_ = some b.l_[k] := by rw [hk, Jdb, List.getElem?_eq_getElem hk2]
    have e4 : ¬ n = 0 := by omega
    refine ⟨(b.l_[k]).tmod n, ⟨b.l_, b.at_ + 1⟩, ?_, ⟨by show 0 ≤ b.at_ + 1; omega, by show b.at_ + 1 ≤ (b.l_.length : Int); omega, hl, hx⟩, Int.tmod_nonneg _ hy.1, Int.tmod_lt_of_pos _ (by omega)⟩
    simp only [hc, decide_false, e1, e2, e3, Option.bind_some, JjF, e4, if_false, Bool.false_eq_true]
    rw [J0G (by omega) (by omega), J0G (by omega) (by omega)]
theorem J4T {b : T_pagemenddraw_Codes} (hb : J0v b) {n : Int} (h1 : 1 ≤ n) (h2 : n ≤ 256) : ∃ r b', Js b n = some (r, b') ∧ J0v b' ∧ 0 ≤ r ∧ r < n := Jiw hb h1 h2 11
theorem Jtc {l : List Int} (h : ∀ x ∈ l, 0 ≤ x ∧ x ≤ 255) {n : Nat} (hn : n ≤ 1000) : ∃ b, J79 l (n : Int) = some b ∧ J0v b := by
  unfold J79 J8J
  by_cases hc : (l.length : Int) > n
  · have : J7D l none (some (n : Int)) = some (l.take n) := by
      have e1 : (0 : Int) ≤ n ∧ n ≤ l.length := by omega
      have e2 : n ≤ l.length := by omega
      simp [J7D, JhQ, Jew, e2]
    refine ⟨⟨l.take n, 0⟩, by simp [hc, this], ⟨by show (0 : Int) ≤ 0; omega, by show (0 : Int) ≤ _; omega, by simp; omega, fun x hx => h x (List.mem_of_mem_take hx)⟩⟩
  · exact ⟨⟨l, 0⟩, by simp [hc], ⟨by show (0 : Int) ≤ 0; omega, by show (0 : Int) ≤ _; omega, by show l.length ≤ 1000; omega, h⟩⟩
theorem JfX {b : T_pagemenddraw_Codes} (hb : J0v b) {n : Int} (h0 : 0 ≤ n) (h1 : n ≤ 20) : ∃ s b', J3T n b = some (s, b') ∧ J0v b' := by
  have e0 : mkS 1 0 n (0 : Int) = some [] := by
    have : (0 : Int) ≤ n ∧ 1 * n ≤ 281474976710656 ∧ n ≤ 281474976710656 := by omega
    simp [mkS]; omega
  unfold J3T
  simp only [e0, Option.bind_some]
  obtain ⟨r, hr, hq⟩ := J5v (f := fun s : Int × T_pagemenddraw_Codes × List Int => J2W n s.1 s.2.1 s.2.2)
    (fun s => ∃ k : Nat, s.1 = k ∧ (k : Int) ≤ n ∧ J0v s.2.1 ∧ s.2.2.length = k) (fun s => (n - s.1).toNat) (fun r => J0v r.2)
    (fun s ⟨k, hk, hn, hc, hl⟩ => by
      obtain ⟨i, b, l⟩ := s
      simp only at hk hc hl
      subst hk
      by_cases hlt : (k : Int) < n
      · left
        obtain ⟨r, b', e1, hb', _, _⟩ := J4T hc (n := 3) (by omega) (by omega)
        have e2 : J5E (l.length + 1) 1 = true := by simp [J5E]; omega
        have e3 : ∀ z : Int, JcE 1 l [z] = some (l ++ [z]) := fun z => by simp only [JcE, List.length_cons, List.length_nil, Nat.zero_add, e2, if_true]
        refine ⟨⟨((k + 1 : Nat) : Int), b', l ++ [IntKind.wrap .u8 (IntKind.wrap .i64 (97 + r))]⟩, ?_, ⟨k + 1, rfl, by simp; omega, hb', by simp [hl]⟩, by simp; omega⟩
        simp only [J2W, hlt, decide_true, if_true, e1, e3, Option.bind_some, J44 (show k < 1000000 by omega)]
      · right
        refine ⟨(toStr l, b), ?_, hc⟩
        simp [J2W, J6G, hlt])
    (0, b, []) ⟨0, rfl, by simpa using h0, hb, rfl⟩
  exact ⟨r.1, r.2, hr, hq⟩
def JjA (c : Jm) : Prop := c.Data.length ≤ 12 ∧ (c.Set = false → c.Data = [])
theorem JoW {b : T_pagemenddraw_Codes} (hb : J0v b) : ∃ c b', J2T b = some (c, b') ∧ J0v b' ∧ JjA c := by
  obtain ⟨r, b1, e1, hb1, _, _⟩ := J4T hb (n := 3) (by omega) (by omega)
  unfold J2T
  simp only [e1, Option.bind_some]
  by_cases h0 : r = 0
  · exact ⟨⟨false, []⟩, b1, by simp [h0], hb1, by simp [JjA]⟩
  · have hd : ∃ s b', J1Y b1 = some (s, b') ∧ J0v b' := by
      unfold J1Y
      obtain ⟨r1, b2, e2, hb2, h21, h22⟩ := J4T hb1 (n := 5) (by omega) (by omega)
      obtain ⟨r2, b3, e3, hb3, _, _⟩ := J4T hb2 (n := 6) (by omega) (by omega)
      simp only [e2, e3, Option.bind_some]
      by_cases h6 : r2 = 0
      · obtain ⟨r3, b4, e4, hb4, h41, h42⟩ := J4T hb3 (n := 14) (by omega) (by omega)
        obtain ⟨s, b5, e5, hb5⟩ := JfX hb4 h41 (by omega)
        exact ⟨s, b5, by simp [h6, e4, e5], hb5⟩
      · obtain ⟨s, b5, e5, hb5⟩ := JfX hb3 h21 (by omega)
        exact ⟨s, b5, by simp [h6, e5], hb5⟩
    obtain ⟨s, b2, e2, hb2⟩ := hd
    have e3 : J7D s none (some (JhP (s.length : Int) 12)) = some (s.take (min s.length 12)) := by
      have e4 : JhP (s.length : Int) 12 = ((min s.length 12 : Nat) : Int) := by unfold JhP; split <;> omega
      have e5 : min s.length 12 ≤ s.length := by omega
      rw [e4]
      simp only [J7D, JhQ, Jew]
      have e6 : (0 : Int) ≤ ((min s.length 12 : Nat) : Int) ∧ ((min s.length 12 : Nat) : Int) ≤ ((s.length : Nat) : Int) := by omega
      simp only [e6, and_self, if_true, Int.toNat_natCast, List.drop_zero, Nat.sub_zero]
    refine ⟨⟨true, s.take (min s.length 12)⟩, b2, ?_, hb2, ?_⟩
    · simp only [e2, Option.bind_some, e3]
      simp [h0]
    · refine ⟨?_, fun h => by cases h⟩
      simp only [List.length_take]; omega
end Go.Am
end
section
namespace Go.Am
theorem Jg8 {l : List UInt8} {k : Nat} (h : k < l.length) : Jfi l (k : Int) = some ((l[k]).toNat : Int) := by
  have e : (0 : Int) ≤ k := by omega
  simp [Jfi, e, h]
end Go.Am
end
section
namespace Go.Am
theorem JgU {σ ρ : Type} {f g : σ → Option (σ ⊕ ρ)} (I : σ → Prop) (h1 : ∀ s, I s → f s = g s) (h2 : ∀ s s', I s → f s = some (.inl s') → I s') {s : σ} (hs : I s) : J00 f s = J00 g s := by
  have key : ∀ (f g : σ → Option (σ ⊕ ρ)), (∀ s, I s → f s = g s) → (∀ s s', I s → f s = some (.inl s') → I s') → ∀ r s, I s → J00 f s = some r → J00 g s = some r := by
    intro f g h1 h2 r s hs h
    exact J2k (P := fun s r => I s → J00 g s = some r) (fun s r e hs => J7O ((h1 s hs) ▸ e)) (fun s s' r e ih hs => (J9N ((h1 s hs) ▸ e)).trans (ih (h2 s s' hs e))) h hs
  cases hf : J00 f s with
  | some r => exact (key f g h1 h2 r s hs hf).symm
  | none =>
    cases hg : J00 g s with
    | none => rfl
    | some r => rw [key g f (fun s hs => (h1 s hs).symm) (fun s s' hs e => h2 s s' hs ((h1 s hs).trans e)) r s hs hg] at hf; cases hf
theorem Jdn {a b : List UInt8} (h : a.length + b.length ≤ 1000000000) : J9U a b = some (a ++ b) := by
  have e : a.length + b.length ≤ 4611686018427387904 := by omega
  simp [J9U, e]
theorem Jg1 (l : List UInt8) (n : Int) {k : Nat} (h1 : 1 ≤ k) (h8 : k ≤ 8) (hl : l.length ≤ 1000000) : J45 l n (k : Int) = some (l ++ J0R n k) := by
  have e1 : ¬ ((k : Int) < 1 ∨ 8 < (k : Int)) := by omega
  have e2 : l.length + 8 ≤ 140737488355328 := by omega
  show Jjm l n k = _
  rw [Jjm, if_neg e1, if_pos e2]
  simp
theorem Jlq {n : Int} (h1 : 0 ≤ n) (h2 : n < 1000000) : IntKind.wrap .u64 (IntKind.wrap .i64 n) = n := by
  rw [J0G (by omega) (by omega), Jan h1 (by omega)]
theorem Jbi (l : List UInt8) (n : Int) {k : Nat} (h1 : 1 ≤ k) (h8 : k ≤ 8) (hl : l.length ≤ 1000000) : J2h l n (k : Int) = some (l ++ J0R n k) := by
  have c1 : ¬ (k : Int) < 1 := by omega
  have c2 : ¬ (k : Int) > 8 := by omega
  have key : ∀ (m j : Nat), j + m = k → J00 (fun s : List UInt8 × Int => J5U n k s.1 s.2) (l ++ J0R n j, (j : Int)) = some (l ++ J0R n k) := by
    intro m
    induction m with
    | zero =>
      intro j hj
      obtain rfl : j = k := by omega
      have e1 : ¬ ((j : Nat) : Int) < (j : Int) := by omega
      refine J7O ?_
      simp only [J5U, e1, decide_false, Bool.false_eq_true, if_false, J9j, Option.map_some]
    | succ m ih =>
      intro j hj
      have e1 : ((j : Nat) : Int) < (k : Int) := by omega
      have e2 : IntKind.wrap .u64 (IntKind.wrap .i64 (8 * (j : Int))) = 8 * (j : Int) := Jlq (by omega) (by omega)
      have e3 : JlL .u64 (IntKind.wrap .u64 n) (8 * (j : Int)) = some ((IntKind.wrap .u64 n).fdiv (2 ^ (8 * j))) := by
        simp only [JlL]
        rw [if_neg (by omega)]
        have : min (8 * (j : Int)).toNat IntKind.u64.bits = 8 * j := by
          rw [show (8 * (j : Int)).toNat = 8 * j by omega]
          exact Nat.min_eq_left (by show 8 * j ≤ 64; omega)
        rw [this]
      have e4 : toStr [IntKind.wrap .u8 ((IntKind.wrap .u64 n).fdiv (2 ^ (8 * j)))] = [UInt8.ofNat (J6C n j).toNat] := rfl
      have e5 : J9U (l ++ J0R n j) [UInt8.ofNat (J6C n j).toNat] = some (l ++ J0R n (j + 1)) := by
        rw [Jdn (by rw [List.length_append, J2b]; simp; omega), JjR, List.append_assoc]
      refine (J9N (s' := (l ++ J0R n (j + 1), ((j + 1 : Nat) : Int))) ?_).trans (ih (j + 1) (by omega))
      simp only [J5U, e1, decide_true, if_true, e2, e3, Option.bind_some, e4, e5, J44 (show j < 1000000 by omega)]
  unfold J2h
  simp only [c1, c2, decide_false, Bool.false_eq_true, if_false]
  have h0 := key k 0 (by omega)
  have e : J0R n 0 = [] := rfl
  rw [e, List.append_nil] at h0
  exact h0
theorem Jn6 (s : List UInt8) (at_ : Int) {k : Int} (h1 : 1 ≤ k) (h8 : k ≤ 8) : J43 s at_ k = J0Q s at_ k := by
  have key : JaK s at_ k (0, 0) = JaN s at_ k (0, 0) := by
    refine JgU (fun q : Int × Int => 0 ≤ q.2 ∧ q.2 ≤ k) (fun q ⟨h0, h2⟩ => ?_) (fun q q' ⟨h0, h2⟩ e => ?_) ⟨by simp, by simp; omega⟩
    · have e2 : IntKind.wrap .u64 (IntKind.wrap .i64 (8 * q.2)) = 8 * q.2 := Jlq (by omega) (by omega)
      have e3 : IntKind.wrap .i64 (8 * q.2) = 8 * q.2 := J0G (by omega) (by omega)
      have e4 : IntKind.wrap .u64 (8 * q.2) = 8 * q.2 := Jan (by omega) (by omega)
      simp only [J6M, J1u, e3, e4]
      rfl
    · simp only [J6M] at e
      split at e
      · rename_i hlt
        simp only [decide_eq_true_eq] at hlt
        simp only [Option.bind_eq_some_iff, Option.some.injEq, Sum.inl.injEq] at e
        obtain ⟨_, _, _, _, rfl⟩ := e
        have e3 : IntKind.wrap .i64 (q.2 + 1) = q.2 + 1 := J0G (by omega) (by omega)
        simp only [e3]
        omega
      · simp [J9k] at e
  unfold J43 J0Q
  rw [key]
def P32 : Nat := 2197175160
def sl (b : Nat) : Nat := if b = 1 then P32 else 0
end Go.Am
end
