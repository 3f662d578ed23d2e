/-
  Parts of a proof: YteiakclfpfmigaaKS2, YteiakclfpfmigaaKSz, YteiakclfpfmigaaPlain, YteiakclfpfmigaaPlain2, YteiakclfpfmigaaCrc, YteiakclfpfmigaaPlain3, YteiakclfpfmigaaPlain4, YteiakclfpfmigaaBack, YteiakclfpfmigaaBack2, YteiakclfpfmigaaBack3, YteiakclfpfmigaaBack4, YteiakclfpfmigaaBack5, YteiakclfpfmigaaInj, YteiakclfpfmigaaInj2, YteiakclfpfmigaaRef, YteiakclfpfmigaaRef2, YteiakclfpfmigaaLaws.
-/
import Derived.Test.YteiakclfpfmigaaM7
set_option linter.unusedSimpArgs false
set_option linter.unusedVariables false
section
namespace Go.Am
set_option maxRecDepth 8000
set_option maxHeartbeats 4000000
set_option linter.unusedSimpArgs false
set_option linter.unusedVariables false
noncomputable section
variable (p : FuncId → Option (List AV → List Blk → Option Res))
def J9q  (r : Bool) : Option Res := some (.p (.b r), [])
def J37 (x0 : Jb) : Option (Bool) :=
  Option.bind (J1r x0) fun r1 =>
  if r1 then
    Option.bind (J2x x0) fun r5 =>
    some r5
  else
    some false
theorem Jb3 {x0 : Jb} {o : Bool} (h : J37 x0 = some o) :
    rk (J2 p) J3R 0 [] (X (J2 p) J36 ⟨[(0, .data (J7 x0))], []⟩) = J9q o := by
  unfold J37 at h
  obtain ⟨r1, h2, h⟩ := bi h
  have f3 := J8F p h2
  try simp only [Nf] at f3
  try simp only [↓Da, Ua, J36, J5, J0, J4, *, ↓reduceIte, Nat.reduceEqDiff, Nat.reduceAdd, Nat.reduceLT, Nat.reduceMul]
  rcases Ji h with ⟨h4, h⟩ | ⟨h4, h⟩
  · obtain ⟨r5, h6, h⟩ := bi h
    have f7 := J97 p h6
    try simp only [Nf] at f7
    obtain rfl := sj h
    try simp only [↓Da, Ua, J36, J5, J0, J4, J9b, *, ↓reduceIte, Nat.reduceEqDiff, Nat.reduceAdd, Nat.reduceLT, Nat.reduceMul]
    rfl
  · obtain rfl := sj h
    try simp only [↓Da, Ua, J36, J5, J0, J4, J9b, *, ↓reduceIte, Nat.reduceEqDiff, Nat.reduceAdd, Nat.reduceLT, Nat.reduceMul]
    rfl
theorem Je6 {x0 : Jb} {o : Bool} (h : J37 x0 = some o) : AF (J2 p) J3M [.data (J7 x0)] [] = J9q o :=
  (J2d (J2 p) (Je3 p) rfl).trans (Jb3 p h)
theorem JdF {x0 : Jb} {o : Bool} (h : J37 x0 = some o) : ∀ ws new st, (Jy (AF (J2 p)) J3M ([.data (J7 x0)], ws) 0 new).run st = some ⟨.p (.b o), ws⟩ := J01 rfl (Je6 p h) rfl
def J40  (r : Bool) : Option Res := some (.p (.b r), [])
def JbR (x36 : List T_api_Frame) (x37 : Int) (b0 : T_api_Pool) (o : (Int) ⊕ (Bool)) : Option Res := match o with
  | .inl s => rk (J2 p) J1l 0 [.bl 0, .td 1 [2], .sq (.keep [] J2q)] (X (J2 p) (.lp 1 [1, 36, 37, 38] JN) ⟨[(1, .ptr 0 0), (36, .p (.sl 37 (List.map J1 x36))), (37, .p (.i .i64 x37)), (38, .p (.i .i64 s))], [.box (List.map AV.p (J3 b0))]⟩)
  | .inr o => J40 o
def J55  : Option (Bool) :=
  some true
theorem JbQ {B0 : List PV} {o : Bool} (h : J55 = some o) :
    rk (J2 p) J1l 0 [] (X (J2 p) J2q ⟨[], [.box (List.map AV.p B0)]⟩) = J40 o := by
  unfold J55 at h
  obtain rfl := sj h
  try simp only [↓Da, Ua, J2q, J1o, ↓reduceIte, Nat.reduceEqDiff, Nat.reduceAdd, Nat.reduceLT, Nat.reduceMul]
  rfl
def J2t (x36 : List T_api_Frame) (x37 : Int) (b0 : T_api_Pool) (x38 : Int) : Option (((Int) ⊕ (Bool))) :=
  if (decide (x38 < x37)) then
    Option.bind (idx x36 x38) fun y2 =>
    Option.bind (J37 y2.Page) fun r5 =>
    if r5 then
      Option.bind (J1U b0 y2.Page.ID) fun r10 =>
      if ((r10 : Int) != x38) then
        some (.inr false)
      else
        if y2.Dirty then
          if (decide (y2.Rec < 1)) then
            some (.inr false)
          else
            if (decide (y2.Rec > y2.Page.LSN)) then
              some (.inr false)
            else
              some (.inl (IntKind.wrap .i64 (x38 + 1)))
        else
          if ((y2.Rec : Int) != 0) then
            some (.inr false)
          else
            some (.inl (IntKind.wrap .i64 (x38 + 1)))
    else
      some (.inr false)
  else
    Option.map (fun o => .inr o) (J55)
theorem J7D {x36 : List T_api_Frame} {x37 : Int} {b0 : T_api_Pool} {x38 : Int} {o : ((Int) ⊕ (Bool))} (h : J2t x36 x37 b0 x38 = some o) :
    rk (J2 p) J1l 0 [.lo 1 [1, 36, 37, 38] JN, .bl 0, .td 1 [2], .sq (.keep [] J2q)] (X (J2 p) JN ⟨[(1, .ptr 0 0), (36, .p (.sl 37 (List.map J1 x36))), (37, .p (.i .i64 x37)), (38, .p (.i .i64 x38))], [.box (List.map AV.p (J3 b0))]⟩) = (JbR p x36 x37 b0) o := by
  unfold J2t at h
  rcases Ji h with ⟨h1, h⟩ | ⟨h1, h⟩
  · obtain ⟨y2, h3, h⟩ := bi h
    have f4 := J46 (r := J1) h3
    try simp only [Nf] at f4
    obtain ⟨r5, h6, h⟩ := bi h
    have f7 := JdF p h6
    try simp only [Nf] at f7
    try simp only [↓Da, Ua, JN, J5, J0, J4, J9, J6, *, ↓reduceIte, Nat.reduceEqDiff, Nat.reduceAdd, Nat.reduceLT, Nat.reduceMul]
    rcases Ji h with ⟨h8, h⟩ | ⟨h8, h⟩
    · have f9 : sub (J1 y2) 0 1 = some ((r_i .i64) y2.Page.ID) := by
        have e0 := (J9E (J2C y2) (J4E y2.Page))
        exact e0
      try simp only [Nf] at f9
      obtain ⟨r10, h11, h⟩ := bi h
      have f12 := J7u p h11
      try simp only [Nf] at f12
      try simp only [↓Da, Ua, JN, J5, J0, J4, J9, J6, *, ↓reduceIte, Nat.reduceEqDiff, Nat.reduceAdd, Nat.reduceLT, Nat.reduceMul]
      rcases Ji h with ⟨h13, h⟩ | ⟨h13, h⟩
      · obtain rfl := sj h
        try simp only [↓Da, Ua, JN, J5, J0, J4, J9, J6, J1o, *, ↓reduceIte, Nat.reduceEqDiff, Nat.reduceAdd, Nat.reduceLT, Nat.reduceMul]
        rfl
      · try simp only [↓Da, Ua, JN, J5, J0, J4, J9, J6, *, ↓reduceIte, Nat.reduceEqDiff, Nat.reduceAdd, Nat.reduceLT, Nat.reduceMul]
        rcases Ji h with ⟨h14, h⟩ | ⟨h14, h⟩
        · try simp only [↓Da, Ua, JN, J5, J0, J4, J9, J6, *, ↓reduceIte, Nat.reduceEqDiff, Nat.reduceAdd, Nat.reduceLT, Nat.reduceMul]
          rcases Ji h with ⟨h15, h⟩ | ⟨h15, h⟩
          · obtain rfl := sj h
            try simp only [↓Da, Ua, JN, J5, J0, J4, J9, J6, J1o, *, ↓reduceIte, Nat.reduceEqDiff, Nat.reduceAdd, Nat.reduceLT, Nat.reduceMul]
            rfl
          · have f16 : sub (J1 y2) 1 1 = some ((r_i .i64) y2.Page.LSN) := by
              have e0 := (J9E (J2C y2) (J77 y2.Page))
              exact e0
            try simp only [Nf] at f16
            try simp only [↓Da, Ua, JN, J5, J0, J4, J9, J6, *, ↓reduceIte, Nat.reduceEqDiff, Nat.reduceAdd, Nat.reduceLT, Nat.reduceMul]
            rcases Ji h with ⟨h17, h⟩ | ⟨h17, h⟩
            · obtain rfl := sj h
              try simp only [↓Da, Ua, JN, J5, J0, J4, J9, J6, J1o, *, ↓reduceIte, Nat.reduceEqDiff, Nat.reduceAdd, Nat.reduceLT, Nat.reduceMul]
              rfl
            · obtain rfl := sj h
              try simp only [↓Da, Ua, JN, J5, J0, J4, J9, J6, *, ↓reduceIte, Nat.reduceEqDiff, Nat.reduceAdd, Nat.reduceLT, Nat.reduceMul]
              rfl
        · try simp only [↓Da, Ua, JN, J5, J0, J4, J9, J6, *, ↓reduceIte, Nat.reduceEqDiff, Nat.reduceAdd, Nat.reduceLT, Nat.reduceMul]
          rcases Ji h with ⟨h18, h⟩ | ⟨h18, h⟩
          · obtain rfl := sj h
            try simp only [↓Da, Ua, JN, J5, J0, J4, J9, J6, J1o, *, ↓reduceIte, Nat.reduceEqDiff, Nat.reduceAdd, Nat.reduceLT, Nat.reduceMul]
            rfl
          · obtain rfl := sj h
            try simp only [↓Da, Ua, JN, J5, J0, J4, J9, J6, *, ↓reduceIte, Nat.reduceEqDiff, Nat.reduceAdd, Nat.reduceLT, Nat.reduceMul]
            rfl
    · obtain rfl := sj h
      try simp only [↓Da, Ua, JN, J5, J0, J4, J9, J6, J1o, *, ↓reduceIte, Nat.reduceEqDiff, Nat.reduceAdd, Nat.reduceLT, Nat.reduceMul]
      rfl
  · obtain ⟨o', h', rfl⟩ := mi h
    try simp only [↓Da, Ua, JN, J5, J0, J4, J9, J6, *, ↓reduceIte, Nat.reduceEqDiff, Nat.reduceAdd, Nat.reduceLT, Nat.reduceMul]
    have e0 := JbQ p (B0 := (J3 b0)) h'
    exact e0
def J84 (x36 : List T_api_Frame) (x37 : Int) (b0 : T_api_Pool) (s : Int) : Option (Bool) :=
  JO (fun s => J2t x36 x37 b0 s) s
theorem Jas {x36 : List T_api_Frame} {x37 : Int} {b0 : T_api_Pool} {s : Int} {o : Bool} (h : J84 x36 x37 b0 s = some o) :
    rk (J2 p) J1l 0 [.bl 0, .td 1 [2], .sq (.keep [] J2q)] (X (J2 p) (.lp 1 [1, 36, 37, 38] JN) ⟨[(1, .ptr 0 0), (36, .p (.sl 37 (List.map J1 x36))), (37, .p (.i .i64 x37)), (38, .p (.i .i64 s))], [.box (List.map AV.p (J3 b0))]⟩) = J40 o := by
  have h0 : JO (fun s => J2t x36 x37 b0 s) s = some o := h
  exact J1S (P := fun (s : Int) (o : Bool) => rk (J2 p) J1l 0 [.bl 0, .td 1 [2], .sq (.keep [] J2q)] (X (J2 p) (.lp 1 [1, 36, 37, 38] JN) ⟨[(1, .ptr 0 0), (36, .p (.sl 37 (List.map J1 x36))), (37, .p (.i .i64 x37)), (38, .p (.i .i64 s))], [.box (List.map AV.p (J3 b0))]⟩) = J40 o) (fun s r hs => by rw [J1y]; exact J7D p hs) (fun s s1 r hs ih => by rw [J1y]; exact (J7D p hs).trans ih) h0
def J1E (x0 : T_api_Pool) : Option (Bool) :=
  if (decide (x0.Size < 1)) then
    some false
  else
    if (decide (x0.Size > 64)) then
      some false
    else
      if (decide (((List.length x0.Frames : Nat) : Int) > x0.Size)) then
        some false
      else
        if (decide (x0.Hand < 0)) then
          some false
        else
          if (decide (x0.Hand ≥ (Jb2 1 ((List.length x0.Frames : Nat) : Int)))) then
            some false
          else
            J84 x0.Frames ((List.length x0.Frames : Nat) : Int) x0 0
theorem JaA {x0 : T_api_Pool} {o : Bool} (h : J1E x0 = some o) :
    rk (J2 p) J1l 0 [] (X (J2 p) J0H ⟨[(0, .data (J3 x0))], []⟩) = J40 o := by
  unfold J1E at h
  rcases Ji h with ⟨h1, h⟩ | ⟨h1, h⟩
  · obtain rfl := sj h
    try simp only [↓Da, Ua, J0H, J5, J0, J4, J9, J6, J1o, *, ↓reduceIte, Nat.reduceEqDiff, Nat.reduceAdd, Nat.reduceLT, Nat.reduceMul]
    rfl
  · try simp only [↓Da, Ua, J0H, J5, J0, J4, J9, J6, *, ↓reduceIte, Nat.reduceEqDiff, Nat.reduceAdd, Nat.reduceLT, Nat.reduceMul]
    rcases Ji h with ⟨h2, h⟩ | ⟨h2, h⟩
    · obtain rfl := sj h
      try simp only [↓Da, Ua, J0H, J5, J0, J4, J9, J6, J1o, *, ↓reduceIte, Nat.reduceEqDiff, Nat.reduceAdd, Nat.reduceLT, Nat.reduceMul]
      rfl
    · try simp only [↓Da, Ua, J0H, J5, J0, J4, J9, J6, *, ↓reduceIte, Nat.reduceEqDiff, Nat.reduceAdd, Nat.reduceLT, Nat.reduceMul]
      rcases Ji h with ⟨h3, h⟩ | ⟨h3, h⟩
      · obtain rfl := sj h
        try simp only [↓Da, Ua, J0H, J5, J0, J4, J9, J6, J1o, *, ↓reduceIte, Nat.reduceEqDiff, Nat.reduceAdd, Nat.reduceLT, Nat.reduceMul]
        rfl
      · try simp only [↓Da, Ua, J0H, J5, J0, J4, J9, J6, *, ↓reduceIte, Nat.reduceEqDiff, Nat.reduceAdd, Nat.reduceLT, Nat.reduceMul]
        rcases Ji h with ⟨h4, h⟩ | ⟨h4, h⟩
        · obtain rfl := sj h
          try simp only [↓Da, Ua, J0H, J5, J0, J4, J9, J6, J1o, *, ↓reduceIte, Nat.reduceEqDiff, Nat.reduceAdd, Nat.reduceLT, Nat.reduceMul]
          rfl
        · try simp only [↓Da, Ua, J0H, J5, J0, J4, J9, J6, *, ↓reduceIte, Nat.reduceEqDiff, Nat.reduceAdd, Nat.reduceLT, Nat.reduceMul]
          rcases Ji h with ⟨h5, h⟩ | ⟨h5, h⟩
          · obtain rfl := sj h
            try simp only [↓Da, Ua, J0H, J5, J0, J4, J9, J6, J1o, *, ↓reduceIte, Nat.reduceEqDiff, Nat.reduceAdd, Nat.reduceLT, Nat.reduceMul]
            rfl
          · try simp only [↓Da, Ua, J0H, J5, J0, J4, J9, J6, *, ↓reduceIte, Nat.reduceEqDiff, Nat.reduceAdd, Nat.reduceLT, Nat.reduceMul]
            have e0 := Jas p h
            exact e0
theorem JdT {x0 : T_api_Pool} {o : Bool} (h : J1E x0 = some o) : AF (J2 p) J2E [.data (J3 x0)] [] = J40 o :=
  (J2d (J2 p) (JeF p) rfl).trans (JaA p h)
theorem J75 {x0 : T_api_Pool} {o : Bool} (h : J1E x0 = some o) : ∀ ws new st, (Jy (AF (J2 p)) J2E ([.data (J3 x0)], ws) 0 new).run st = some ⟨.p (.b o), ws⟩ := J01 rfl (JdT p h) rfl
def Jbe  (r : T_api_Pool × Int) : Option Res := some (.tup [.data (J3 r.1), .p (.i .i64 r.2)], [])
def J21 (x0 : T_api_Pool) (x1 : Jb) : Option (T_api_Pool × Int) :=
  Option.bind (J1E x0) fun r1 =>
  if r1 then
    Option.bind (J2b x1) fun r5 =>
    if ((r5.2 : Int) != 0) then
      some ((⟨0, ([] : List T_api_Frame), 0⟩ : T_api_Pool), r5.2)
    else
      Option.bind (J1U x0 x1.ID) fun r9 =>
      if (decide (r9 ≥ 0)) then
        some ((⟨0, ([] : List T_api_Frame), 0⟩ : T_api_Pool), 25)
      else
        if ((((List.length x0.Frames : Nat) : Int) : Int) == x0.Size) then
          some ((⟨0, ([] : List T_api_Frame), 0⟩ : T_api_Pool), 21)
        else
          Option.bind (J0a x0.Frames) fun r14 =>
          Option.bind (Jav 424 r14 ([(⟨x1, false, 0, true⟩ : T_api_Frame)] : List T_api_Frame)) fun m19 =>
          some ((⟨x0.Size, m19, x0.Hand⟩ : T_api_Pool), 0)
  else
    some ((⟨0, ([] : List T_api_Frame), 0⟩ : T_api_Pool), 15)
theorem Jc4 {x0 : T_api_Pool} {x1 : Jb} {o : T_api_Pool × Int} (h : J21 x0 x1 = some o) :
    rk (J2 p) J4U 0 [] (X (J2 p) J1t ⟨[(0, .data (J3 x0)), (1, .data (J7 x1))], []⟩) = Jbe o := by
  unfold J21 at h
  obtain ⟨r1, h2, h⟩ := bi h
  have f3 := J75 p h2
  try simp only [Nf, JH, JG] at f3
  try simp only [↓Da, Ua, Ra, J1t, JH, J0, J4, JG, J6, *, ↓reduceIte, Nat.reduceEqDiff, Nat.reduceAdd, Nat.reduceLT, Nat.reduceMul, Nat.reduceBEq]
  rcases Ji h with ⟨h4, h⟩ | ⟨h4, h⟩
  · obtain ⟨r5, h6, h⟩ := bi h
    have f7 := Jdd p h6
    try simp only [Nf, JH, JG] at f7
    try simp only [↓Da, Ua, Ra, J1t, JH, J0, J4, JG, J6, *, ↓reduceIte, Nat.reduceEqDiff, Nat.reduceAdd, Nat.reduceLT, Nat.reduceMul, Nat.reduceBEq]
    rcases Ji h with ⟨h8, h⟩ | ⟨h8, h⟩
    · obtain rfl := sj h
      try simp only [↓Da, Ua, Ra, J1t, JH, J0, J4, JG, J6, J5J, *, ↓reduceIte, Nat.reduceEqDiff, Nat.reduceAdd, Nat.reduceLT, Nat.reduceMul, Nat.reduceBEq]
      rfl
    · obtain ⟨r9, h10, h⟩ := bi h
      have f11 := J7u p h10
      try simp only [Nf, JH, JG] at f11
      try simp only [↓Da, Ua, Ra, J1t, JH, J0, J4, JG, J6, *, ↓reduceIte, Nat.reduceEqDiff, Nat.reduceAdd, Nat.reduceLT, Nat.reduceMul, Nat.reduceBEq]
      rcases Ji h with ⟨h12, h⟩ | ⟨h12, h⟩
      · obtain rfl := sj h
        try simp only [↓Da, Ua, Ra, J1t, JH, J0, J4, JG, J6, J5J, *, ↓reduceIte, Nat.reduceEqDiff, Nat.reduceAdd, Nat.reduceLT, Nat.reduceMul, Nat.reduceBEq]
        rfl
      · try simp only [↓Da, Ua, Ra, J1t, JH, J0, J4, JG, J6, *, ↓reduceIte, Nat.reduceEqDiff, Nat.reduceAdd, Nat.reduceLT, Nat.reduceMul, Nat.reduceBEq]
        rcases Ji h with ⟨h13, h⟩ | ⟨h13, h⟩
        · obtain rfl := sj h
          try simp only [↓Da, Ua, Ra, J1t, JH, J0, J4, JG, J6, J5J, *, ↓reduceIte, Nat.reduceEqDiff, Nat.reduceAdd, Nat.reduceLT, Nat.reduceMul, Nat.reduceBEq]
          rfl
        · obtain ⟨r14, h15, h⟩ := bi h
          have f16 := J5h p h15
          try simp only [Nf, JH, JG] at f16
          have f17 : ∀ ws k new s, Ja ((Jy (AF (J2 p)) JW ([.p (.sl 37 (List.map J1 x0.Frames))], ws) k new).reads s) = [] := J0F rfl
          try simp only [Nf, JH, JG] at f17
          obtain ⟨m19, h20, h⟩ := bi h
          have f18 : JaY 37 424 (.p (.slc 37 (List.map J1 r14))) (List.map J1 ([(⟨x1, false, 0, true⟩ : T_api_Frame)] : List T_api_Frame)) = some (List.map J1 m19) := Jjy J1 h20
          try simp only [Nf, JH, JG] at f18
          obtain rfl := sj h
          try simp only [↓Da, Ua, Ra, J1t, JH, J0, J4, JG, J6, J5J, *, ↓reduceIte, Nat.reduceEqDiff, Nat.reduceAdd, Nat.reduceLT, Nat.reduceMul, Nat.reduceBEq]
          rfl
  · obtain rfl := sj h
    try simp only [↓Da, Ua, Ra, J1t, JH, J0, J4, JG, J6, J5J, *, ↓reduceIte, Nat.reduceEqDiff, Nat.reduceAdd, Nat.reduceLT, Nat.reduceMul, Nat.reduceBEq]
    rfl
theorem JfS {x0 : T_api_Pool} {x1 : Jb} {o : T_api_Pool × Int} (h : J21 x0 x1 = some o) : AF (J2 p) J3B [.data (J3 x0), .data (J7 x1)] [] = Jbe o :=
  (J2d (J2 p) (Jgg p) rfl).trans (Jc4 p h)
theorem J8x {x0 : T_api_Pool} {x1 : Jb} {o : T_api_Pool × Int} (h : J21 x0 x1 = some o) : ∀ ws new st, (Jy (AF (J2 p)) J3B ([.data (J3 x0), .data (J7 x1)], ws) 0 new).run st = some ⟨.tup [.data (J3 o.1), .p (.i .i64 o.2)], ws⟩ := J01 rfl (JfS p h) rfl
def J3h  (r : T_api_Pool × Int × Int) : Option Res := some (.tup [.data (J3 r.1), .p (.i .i64 r.2.1), .p (.i .i64 r.2.2)], [])
def J7r (b0_0 : Int) (b1 : T_api_Pool) (o : (Int × (List T_api_Frame)) ⊕ (T_api_Pool × Int × Int)) : Option Res := match o with
  | .inl s => rk (J2 p) J10 0 [.bl 1, .sq (.keep [1, 2] J1Z)] (X (J2 p) (.lp 3 [1, 2] J1c) ⟨[(1, .ptr 0 0), (2, .ptr 1 0)], [.box [.p (.i .i64 b0_0), .slr 2 0 (List.length s.2), .p (.i .i64 s.1)], .box (List.map AV.p (J3 b1)), .arr true 37 (List.map J1 s.2)]⟩)
  | .inr o => J3h o
def J3y (b0_0 : Int) (b0_2 : Int) (b1 : T_api_Pool) (l2 : List T_api_Frame) : Option (T_api_Pool × Int × Int) :=
  Option.bind (idx l2 b0_2) fun y1 =>
  some ((⟨b0_0, l2, b0_2⟩ : T_api_Pool), y1.Page.ID, 0)
theorem Jbm {b0_0 : Int} {b0_2 : Int} {b1 : T_api_Pool} {l2 : List T_api_Frame} {w2 : Bool} {o : T_api_Pool × Int × Int} (h : J3y b0_0 b0_2 b1 l2 = some o) :
    rk (J2 p) J10 0 [] (X (J2 p) J1Z ⟨[(1, .ptr 0 0), (2, .ptr 1 0)], [.box [.p (.i .i64 b0_0), .slr 2 0 (List.length l2), .p (.i .i64 b0_2)], .box (List.map AV.p (J3 b1)), .arr w2 37 (List.map J1 l2)]⟩) = J3h o := by
  unfold J3y at h
  obtain ⟨y1, h2, h⟩ := bi h
  have f3 := J5s (r := J1) h2
  try simp only [Nf, JH, JG] at f3
  have f4 : (0 ≤ (b0_2 : Int) ∧ (b0_2 : Int) < (((List.length l2) : Nat) : Int)) = True := eq_true (by have e0 := J6b h2; (try simp only [List.length_cons, List.length_nil, Nat.zero_add] at e0); omega)
  have f5 : sub (J1 y1) 0 1 = some ((r_i .i64) y1.Page.ID) := by
    have e0 := (J9E (J2C y1) (J4E y1.Page))
    exact e0
  try simp only [Nf, JH, JG] at f5
  obtain rfl := sj h
  try simp only [↓Da, Ua, Ra, J1Z, JH, J0, J4, JG, J6, J6w, *, ↓reduceIte, Nat.reduceEqDiff, Nat.reduceAdd, Nat.reduceLT, Nat.reduceMul, Nat.reduceBEq]
  rfl
def J0S (b0_0 : Int) (b1 : T_api_Pool) (b0_2 : Int) (l2 : List T_api_Frame) : Option (((Int × (List T_api_Frame)) ⊕ (T_api_Pool × Int × Int))) :=
  Option.bind (idx l2 b0_2) fun y1 =>
  if y1.Used then
    Option.bind (some (List.set l2 (Int.toNat b0_2) (⟨y1.Page, y1.Dirty, y1.Rec, false⟩ : T_api_Frame))) fun m6 =>
    Option.bind (J7x (IntKind.wrap .i64 (b0_2 + 1)) (((List.length l2) : Nat) : Int)) fun q10 =>
    some (.inl (q10, m6))
  else
    Option.map (fun o => .inr o) (J3y b0_0 b0_2 b1 l2)
theorem J7q {b0_0 : Int} {b1 : T_api_Pool} {b0_2 : Int} {l2 : List T_api_Frame} {o : ((Int × (List T_api_Frame)) ⊕ (T_api_Pool × Int × Int))} (h : J0S b0_0 b1 b0_2 l2 = some o) :
    rk (J2 p) J10 0 [.lo 3 [1, 2] J1c, .bl 1, .sq (.keep [1, 2] J1Z)] (X (J2 p) J1c ⟨[(1, .ptr 0 0), (2, .ptr 1 0)], [.box [.p (.i .i64 b0_0), .slr 2 0 (List.length l2), .p (.i .i64 b0_2)], .box (List.map AV.p (J3 b1)), .arr true 37 (List.map J1 l2)]⟩) = (J7r p b0_0 b1) o := by
  unfold J0S at h
  obtain ⟨y1, h2, h⟩ := bi h
  have f3 := J5s (r := J1) h2
  try simp only [Nf, JH, JG] at f3
  have f4 : (0 ≤ (b0_2 : Int) ∧ (b0_2 : Int) < (((List.length l2) : Nat) : Int)) = True := eq_true (by have e0 := J6b h2; (try simp only [List.length_cons, List.length_nil, Nat.zero_add] at e0); omega)
  try simp only [↓Da, Ua, J1c, JH, J0, J4, JG, J6, *, ↓reduceIte, Nat.reduceEqDiff, Nat.reduceAdd, Nat.reduceLT, Nat.reduceMul]
  rcases Ji h with ⟨h5, h⟩ | ⟨h5, h⟩
  · obtain ⟨m6, h7, h⟩ := bi h
    have f8 : List.set (List.map J1 l2) (Int.toNat b0_2) (J1 (⟨y1.Page, y1.Dirty, y1.Rec, false⟩ : T_api_Frame)) = List.map J1 m6 := by
      rw [← Option.some.inj h7, List.map_set]
    try simp only [Nf, JH, JG] at f8
    have g9 : List.length m6 = List.length l2 := by rw [← Option.some.inj h7, List.length_set]
    obtain ⟨q10, h11, h⟩ := bi h
    obtain rfl := sj h
    try simp only [↓Da, Ua, J1c, JH, J0, J4, JG, J6, *, ↓reduceIte, Nat.reduceEqDiff, Nat.reduceAdd, Nat.reduceLT, Nat.reduceMul]
    try simp only [J7r, g9]
    try rfl
  · obtain ⟨o', h', rfl⟩ := mi h
    try simp only [↓Da, Ua, J1c, JH, J0, J4, JG, J6, *, ↓reduceIte, Nat.reduceEqDiff, Nat.reduceAdd, Nat.reduceLT, Nat.reduceMul]
    have e0 := Jbm p (w2 := true) h'
    exact e0
def J20 (b0_0 : Int) (b1 : T_api_Pool) (s : Int × (List T_api_Frame)) : Option (T_api_Pool × Int × Int) :=
  JO (fun s => J0S b0_0 b1 s.1 s.2) s
theorem Ja4 {b0_0 : Int} {b1 : T_api_Pool} {s : Int × (List T_api_Frame)} {o : T_api_Pool × Int × Int} (h : J20 b0_0 b1 s = some o) :
    rk (J2 p) J10 0 [.bl 1, .sq (.keep [1, 2] J1Z)] (X (J2 p) (.lp 3 [1, 2] J1c) ⟨[(1, .ptr 0 0), (2, .ptr 1 0)], [.box [.p (.i .i64 b0_0), .slr 2 0 (List.length s.2), .p (.i .i64 s.1)], .box (List.map AV.p (J3 b1)), .arr true 37 (List.map J1 s.2)]⟩) = J3h o := by
  have h0 : JO (fun s => J0S b0_0 b1 s.1 s.2) s = some o := h
  exact J1S (P := fun (s : Int × (List T_api_Frame)) (o : T_api_Pool × Int × Int) => rk (J2 p) J10 0 [.bl 1, .sq (.keep [1, 2] J1Z)] (X (J2 p) (.lp 3 [1, 2] J1c) ⟨[(1, .ptr 0 0), (2, .ptr 1 0)], [.box [.p (.i .i64 b0_0), .slr 2 0 (List.length s.2), .p (.i .i64 s.1)], .box (List.map AV.p (J3 b1)), .arr true 37 (List.map J1 s.2)]⟩) = J3h o) (fun s r hs => by rw [J1y]; exact J7q p hs) (fun s s1 r hs ih => by rw [J1y]; exact (J7q p hs).trans ih) h0
def J0z (x0 : T_api_Pool) : Option (T_api_Pool × Int × Int) :=
  Option.bind (J1E x0) fun r1 =>
  if r1 then
    if ((((List.length x0.Frames : Nat) : Int) : Int) == 0) then
      some ((⟨0, ([] : List T_api_Frame), 0⟩ : T_api_Pool), 0, 18)
    else
      Option.bind (J05 x0.Frames) fun r6 =>
      J20 x0.Size (⟨0, ([] : List T_api_Frame), 0⟩ : T_api_Pool) (x0.Hand, r6)
  else
    some ((⟨0, ([] : List T_api_Frame), 0⟩ : T_api_Pool), 0, 15)
theorem Jac {x0 : T_api_Pool} {o : T_api_Pool × Int × Int} (h : J0z x0 = some o) :
    rk (J2 p) J10 0 [] (X (J2 p) J1O ⟨[(0, .data (J3 x0))], []⟩) = J3h o := by
  unfold J0z at h
  obtain ⟨r1, h2, h⟩ := bi h
  have f3 := J75 p h2
  try simp only [Nf, JH, JG] at f3
  try simp only [↓Da, Ua, J1O, JH, J0, J4, JG, J6, *, ↓reduceIte, Nat.reduceEqDiff, Nat.reduceAdd, Nat.reduceLT, Nat.reduceMul]
  rcases Ji h with ⟨h4, h⟩ | ⟨h4, h⟩
  · try simp only [↓Da, Ua, J1O, JH, J0, J4, JG, J6, *, ↓reduceIte, Nat.reduceEqDiff, Nat.reduceAdd, Nat.reduceLT, Nat.reduceMul]
    rcases Ji h with ⟨h5, h⟩ | ⟨h5, h⟩
    · have h5n : ((((List.length x0.Frames : Nat) : Int) : Int) != 0) = false := by rw [bne, h5]; rfl
      obtain rfl := sj h
      try simp only [↓Da, Ua, J1O, JH, J0, J4, JG, J6, J6w, *, ↓reduceIte, Nat.reduceEqDiff, Nat.reduceAdd, Nat.reduceLT, Nat.reduceMul]
      rfl
    · have h5n : ((((List.length x0.Frames : Nat) : Int) : Int) != 0) = true := by rw [bne, h5]; rfl
      obtain ⟨r6, h7, h⟩ := bi h
      have f8 : ∀ ws new s, (Jy (AF (J2 p)) JI ([.p (.sl 37 (List.map J1 x0.Frames))], ws) 1 new).run s = some ⟨.slr new 0 (List.length r6), ws ++ [(new, .arr true 37 (List.map J1 r6))]⟩ := JbK rfl (J2O p h7)
      try simp only [Nf, JH, JG] at f8
      try simp only [↓Da, Ua, J1O, JH, J0, J4, JG, J6, *, ↓reduceIte, Nat.reduceEqDiff, Nat.reduceAdd, Nat.reduceLT, Nat.reduceMul]
      have e0 := Ja4 p h
      exact e0
  · obtain rfl := sj h
    try simp only [↓Da, Ua, J1O, JH, J0, J4, JG, J6, J6w, *, ↓reduceIte, Nat.reduceEqDiff, Nat.reduceAdd, Nat.reduceLT, Nat.reduceMul]
    rfl
theorem Jd8 {x0 : T_api_Pool} {o : T_api_Pool × Int × Int} (h : J0z x0 = some o) : AF (J2 p) J1N [.data (J3 x0)] [] = J3h o :=
  (J2d (J2 p) (Jd9 p) rfl).trans (Jac p h)
theorem J5l {x0 : T_api_Pool} {o : T_api_Pool × Int × Int} (h : J0z x0 = some o) : ∀ ws new st, (Jy (AF (J2 p)) J1N ([.data (J3 x0)], ws) 0 new).run st = some ⟨.tup [.data (J3 o.1), .p (.i .i64 o.2.1), .p (.i .i64 o.2.2)], ws⟩ := J01 rfl (Jd8 p h) rfl
def Jap  (r : Int) : Option Res := some (.p (.i .i64 r), [])
def J4n (x0 : T_api_Pool) (x1 : Int) : Option (Int) :=
  Option.bind (J1E x0) fun r1 =>
  if r1 then
    Option.bind (J1U x0 x1) fun r5 =>
    some r5
  else
    some (-1)
theorem JbN {x0 : T_api_Pool} {x1 : Int} {o : Int} (h : J4n x0 x1 = some o) :
    rk (J2 p) J4p 0 [] (X (J2 p) J3H ⟨[(0, .data (J3 x0)), (1, .p (.i .i64 x1))], []⟩) = Jap o := by
  unfold J4n at h
  obtain ⟨r1, h2, h⟩ := bi h
  have f3 := J75 p h2
  try simp only [Nf] at f3
  try simp only [↓Da, Ua, J3H, J5, J0, J4, J9, J6, *, ↓reduceIte, Nat.reduceEqDiff, Nat.reduceAdd, Nat.reduceLT, Nat.reduceMul]
  rcases Ji h with ⟨h4, h⟩ | ⟨h4, h⟩
  · obtain ⟨r5, h6, h⟩ := bi h
    have f7 := J7u p h6
    try simp only [Nf] at f7
    obtain rfl := sj h
    try simp only [↓Da, Ua, J3H, J5, J0, J4, J9, J6, Jal, *, ↓reduceIte, Nat.reduceEqDiff, Nat.reduceAdd, Nat.reduceLT, Nat.reduceMul]
    rfl
  · obtain rfl := sj h
    try simp only [↓Da, Ua, J3H, J5, J0, J4, J9, J6, Jal, *, ↓reduceIte, Nat.reduceEqDiff, Nat.reduceAdd, Nat.reduceLT, Nat.reduceMul]
    rfl
theorem JeV {x0 : T_api_Pool} {x1 : Int} {o : Int} (h : J4n x0 x1 = some o) : AF (J2 p) J4r [.data (J3 x0), .p (.i .i64 x1)] [] = Jap o :=
  (J2d (J2 p) (Jfp p) rfl).trans (JbN p h)
theorem JeQ {x0 : T_api_Pool} {x1 : Int} {o : Int} (h : J4n x0 x1 = some o) : ∀ ws new st, (Jy (AF (J2 p)) J4r ([.data (J3 x0), .p (.i .i64 x1)], ws) 0 new).run st = some ⟨.p (.i .i64 o), ws⟩ := J01 rfl (JeV p h) rfl
def J8H  (r : Bool) : Option Res := some (.p (.b r), [])
def J2J  : Option (Bool) :=
  Option.bind (J2T 2) fun r1 =>
  Option.bind (J21 r1.1 (⟨1, 0, (Vector.replicate 16 (⟨false, []⟩ : Je))⟩ : Jb)) fun r4 =>
  Option.bind (J21 r4.1 (⟨2, 0, (Vector.replicate 16 (⟨false, []⟩ : Je))⟩ : Jb)) fun r7 =>
  Option.bind (J0z r7.1) fun r10 =>
  if ((r1.2 : Int) == 0) then
    if ((r4.2 : Int) == 0) then
      if ((r7.2 : Int) == 0) then
        if ((r10.2.2 : Int) == 0) then
          if ((r10.2.1 : Int) == 1) then
            if ((((List.length r10.1.Frames : Nat) : Int) : Int) == 2) then
              Option.bind (idx r10.1.Frames 0) fun y19 =>
              if y19.Used then
                some false
              else
                Option.bind (idx r10.1.Frames 1) fun y23 =>
                some (!y23.Used)
            else
              some false
          else
            some false
        else
          some false
      else
        some false
    else
      some false
  else
    some false
theorem Ja0  {o : Bool} (h : J2J = some o) :
    rk (J2 p) J3k 0 [] (X (J2 p) JX ⟨[], []⟩) = J8H o := by
  unfold J2J at h
  obtain ⟨r1, h2, h⟩ := bi h
  have f3 := JbG p h2
  try simp only [Nf] at f3
  obtain ⟨r4, h5, h⟩ := bi h
  have f6 := J8x p h5
  try simp only [Nf] at f6
  obtain ⟨r7, h8, h⟩ := bi h
  have f9 := J8x p h8
  try simp only [Nf] at f9
  obtain ⟨r10, h11, h⟩ := bi h
  have f12 := J5l p h11
  try simp only [Nf] at f12
  try simp only [↓Da, Ua, JX, J5, J0, J4, J9, J6, *, ↓reduceIte, Nat.reduceEqDiff, Nat.reduceAdd, Nat.reduceLT, Nat.reduceMul]
  rcases Ji h with ⟨h13, h⟩ | ⟨h13, h⟩
  · have h13n : ((r1.2 : Int) != 0) = false := by rw [bne, h13]; rfl
    try simp only [↓Da, Ua, JX, J5, J0, J4, J9, J6, *, ↓reduceIte, Nat.reduceEqDiff, Nat.reduceAdd, Nat.reduceLT, Nat.reduceMul]
    rcases Ji h with ⟨h14, h⟩ | ⟨h14, h⟩
    · have h14n : ((r4.2 : Int) != 0) = false := by rw [bne, h14]; rfl
      try simp only [↓Da, Ua, JX, J5, J0, J4, J9, J6, *, ↓reduceIte, Nat.reduceEqDiff, Nat.reduceAdd, Nat.reduceLT, Nat.reduceMul]
      rcases Ji h with ⟨h15, h⟩ | ⟨h15, h⟩
      · have h15n : ((r7.2 : Int) != 0) = false := by rw [bne, h15]; rfl
        try simp only [↓Da, Ua, JX, J5, J0, J4, J9, J6, *, ↓reduceIte, Nat.reduceEqDiff, Nat.reduceAdd, Nat.reduceLT, Nat.reduceMul]
        rcases Ji h with ⟨h16, h⟩ | ⟨h16, h⟩
        · have h16n : ((r10.2.2 : Int) != 0) = false := by rw [bne, h16]; rfl
          try simp only [↓Da, Ua, JX, J5, J0, J4, J9, J6, *, ↓reduceIte, Nat.reduceEqDiff, Nat.reduceAdd, Nat.reduceLT, Nat.reduceMul]
          rcases Ji h with ⟨h17, h⟩ | ⟨h17, h⟩
          · have h17n : ((r10.2.1 : Int) != 1) = false := by rw [bne, h17]; rfl
            try simp only [↓Da, Ua, JX, J5, J0, J4, J9, J6, *, ↓reduceIte, Nat.reduceEqDiff, Nat.reduceAdd, Nat.reduceLT, Nat.reduceMul]
            rcases Ji h with ⟨h18, h⟩ | ⟨h18, h⟩
            · have h18n : ((((List.length r10.1.Frames : Nat) : Int) : Int) != 2) = false := by rw [bne, h18]; rfl
              obtain ⟨y19, h20, h⟩ := bi h
              have f21 := J46 (r := J1) h20
              try simp only [Nf] at f21
              try simp only [↓Da, Ua, JX, J5, J0, J4, J9, J6, *, ↓reduceIte, Nat.reduceEqDiff, Nat.reduceAdd, Nat.reduceLT, Nat.reduceMul]
              rcases Ji h with ⟨h22, h⟩ | ⟨h22, h⟩
              · obtain rfl := sj h
                try simp only [↓Da, Ua, JX, J5, J0, J4, J9, J6, J29, *, ↓reduceIte, Nat.reduceEqDiff, Nat.reduceAdd, Nat.reduceLT, Nat.reduceMul]
                rfl
              · obtain ⟨y23, h24, h⟩ := bi h
                have f25 := J46 (r := J1) h24
                try simp only [Nf] at f25
                obtain rfl := sj h
                try simp only [↓Da, Ua, JX, J5, J0, J4, J9, J6, J29, *, ↓reduceIte, Nat.reduceEqDiff, Nat.reduceAdd, Nat.reduceLT, Nat.reduceMul]
                rfl
            · have h18n : ((((List.length r10.1.Frames : Nat) : Int) : Int) != 2) = true := by rw [bne, h18]; rfl
              obtain rfl := sj h
              try simp only [↓Da, Ua, JX, J5, J0, J4, J9, J6, J29, *, ↓reduceIte, Nat.reduceEqDiff, Nat.reduceAdd, Nat.reduceLT, Nat.reduceMul]
              rfl
          · have h17n : ((r10.2.1 : Int) != 1) = true := by rw [bne, h17]; rfl
            obtain rfl := sj h
            try simp only [↓Da, Ua, JX, J5, J0, J4, J9, J6, J29, *, ↓reduceIte, Nat.reduceEqDiff, Nat.reduceAdd, Nat.reduceLT, Nat.reduceMul]
            rfl
        · have h16n : ((r10.2.2 : Int) != 0) = true := by rw [bne, h16]; rfl
          obtain rfl := sj h
          try simp only [↓Da, Ua, JX, J5, J0, J4, J9, J6, J29, *, ↓reduceIte, Nat.reduceEqDiff, Nat.reduceAdd, Nat.reduceLT, Nat.reduceMul]
          rfl
      · have h15n : ((r7.2 : Int) != 0) = true := by rw [bne, h15]; rfl
        obtain rfl := sj h
        try simp only [↓Da, Ua, JX, J5, J0, J4, J9, J6, J29, *, ↓reduceIte, Nat.reduceEqDiff, Nat.reduceAdd, Nat.reduceLT, Nat.reduceMul]
        rfl
    · have h14n : ((r4.2 : Int) != 0) = true := by rw [bne, h14]; rfl
      obtain rfl := sj h
      try simp only [↓Da, Ua, JX, J5, J0, J4, J9, J6, J29, *, ↓reduceIte, Nat.reduceEqDiff, Nat.reduceAdd, Nat.reduceLT, Nat.reduceMul]
      rfl
  · have h13n : ((r1.2 : Int) != 0) = true := by rw [bne, h13]; rfl
    obtain rfl := sj h
    try simp only [↓Da, Ua, JX, J5, J0, J4, J9, J6, J29, *, ↓reduceIte, Nat.reduceEqDiff, Nat.reduceAdd, Nat.reduceLT, Nat.reduceMul]
    rfl
theorem Jdq  {o : Bool} (h : J2J = some o) : AF (J2 p) J3m [] [] = J8H o :=
  (J2d (J2 p) (Jd6 p) rfl).trans (Ja0 p h)
theorem Jdp  {o : Bool} (h : J2J = some o) : ∀ ws new st, (Jy (AF (J2 p)) J3m ([], ws) 0 new).run st = some ⟨.p (.b o), ws⟩ := J01 rfl (Jdq p h) rfl
def Jbw  (r : T_api_Pool) : Option Res := some (.data (J3 r), [])
def J4b (x0 : T_api_Pool) (x1 : Int) : Option (T_api_Pool) :=
  Option.bind (J4n x0 x1) fun r1 =>
  if (decide (r1 ≥ 0)) then
    Option.bind (idx x0.Frames r1) fun y5 =>
    Option.bind (J0p x0.Frames r1 (⟨y5.Page, y5.Dirty, y5.Rec, true⟩ : T_api_Frame)) fun r8 =>
    some (⟨x0.Size, r8, x0.Hand⟩ : T_api_Pool)
  else
    some x0
theorem Jct {x0 : T_api_Pool} {x1 : Int} {o : T_api_Pool} (h : J4b x0 x1 = some o) :
    rk (J2 p) J4R 0 [] (X (J2 p) J47 ⟨[(0, .data (J3 x0)), (1, .p (.i .i64 x1))], []⟩) = Jbw o := by
  unfold J4b at h
  obtain ⟨r1, h2, h⟩ := bi h
  have f3 := JeQ p h2
  try simp only [Nf] at f3
  try simp only [↓Da, Ua, J47, J5, J0, J4, J9, J6, *, ↓reduceIte, Nat.reduceEqDiff, Nat.reduceAdd, Nat.reduceLT, Nat.reduceMul]
  rcases Ji h with ⟨h4, h⟩ | ⟨h4, h⟩
  · obtain ⟨y5, h6, h⟩ := bi h
    have f7 := J46 (r := J1) h6
    try simp only [Nf] at f7
    obtain ⟨r8, h9, h⟩ := bi h
    have f10 := J7X p h9
    try simp only [Nf] at f10
    obtain rfl := sj h
    try simp only [↓Da, Ua, J47, J5, J0, J4, J9, J6, Jbl, *, ↓reduceIte, Nat.reduceEqDiff, Nat.reduceAdd, Nat.reduceLT, Nat.reduceMul]
    rfl
  · obtain rfl := sj h
    try simp only [↓Da, Ua, J47, J5, J0, J4, J9, J6, Jbl, *, ↓reduceIte, Nat.reduceEqDiff, Nat.reduceAdd, Nat.reduceLT, Nat.reduceMul]
    rfl
theorem Jgw {x0 : T_api_Pool} {x1 : Int} {o : T_api_Pool} (h : J4b x0 x1 = some o) : AF (J2 p) J4X [.data (J3 x0), .p (.i .i64 x1)] [] = Jbw o :=
  (J2d (J2 p) (Jgz p) rfl).trans (Jct p h)
theorem JfR {x0 : T_api_Pool} {x1 : Int} {o : T_api_Pool} (h : J4b x0 x1 = some o) : ∀ ws new st, (Jy (AF (J2 p)) J4X ([.data (J3 x0), .p (.i .i64 x1)], ws) 0 new).run st = some ⟨.data (J3 o), ws⟩ := J01 rfl (Jgw p h) rfl
def JC  (r : Bool) : Option Res := some (.p (.b r), [])
def J8Q (x1 : List Int) (x5 : Int) (x7 : Int) (o : (Int × T_api_Pool) ⊕ (Bool)) : Option Res := match o with
  | .inl s => rk (J2 p) Jl 0 [.bl 0, .td 1 [1, 4, 5, 6, 7], .sq (.keep [1, 5, 6, 7] JU)] (X (J2 p) (.lp 1 [1, 5, 6, 7, 8] J0s) ⟨[(1, .p (.sl 1 (List.map (r_i .u8) x1))), (5, .p (.i .i64 x5)), (6, .ptr 0 0), (7, .p (.i .i64 x7)), (8, .p (.i .i64 s.1))], [.box (List.map AV.p (J3 s.2))]⟩)
  | .inr o => JC o
def J60 (x5 : Int) (x75 : List Int) (x76 : Int) (o : (Int × T_api_Pool × (List Bool)) ⊕ (Bool)) : Option Res := match o with
  | .inl s => rk (J2 p) Jl 0 [.bl 2, .sq (.keep [5, 6, 13] J15)] (X (J2 p) (.lp 2 [5, 6, 13, 75, 76, 77] J0M) ⟨[(5, .p (.i .i64 x5)), (6, .ptr 0 0), (13, .slr 1 0 (List.length s.2.2)), (75, .p (.sl 1 (List.map (r_i .u8) x75))), (76, .p (.i .i64 x76)), (77, .p (.i .i64 s.1))], [.box (List.map AV.p (J3 s.2.1)), .arr true 1 (List.map r_b s.2.2)]⟩)
  | .inr o => JC o
def J64 (x5 : Int) (x11 : Int) (x12 : Int) (l1 : List Bool) (b2 : T_api_Pool) (B0 : List PV) (w1 : Bool) (o : (Bool × Int) ⊕ (Bool)) : Option Res := match o with
  | .inl s => rk (J2 p) Jl 0 [.bl 4, .sq (.keep [5, 11, 12, 13, 16, 17] Jv)] (X (J2 p) (.lp 3 [5, 11, 12, 13, 16, 17, 18] J0f) ⟨[(5, .p (.i .i64 x5)), (11, .p (.i .i64 x11)), (12, .p (.i .i64 x12)), (13, .slr 1 0 (List.length l1)), (16, .ptr 2 0), (17, .p (.b s.1)), (18, .p (.i .i64 s.2))], [.box (List.map AV.p B0), .arr w1 1 (List.map r_b l1), .box (List.map AV.p (J3 b2))]⟩)
  | .inr o => JC o
def J1A (x5 : Int) (x11 : Int) (x12 : Int) (x17 : Bool) (x18 : Int) (l1 : List Bool) (b2 : T_api_Pool) : Option (((Bool × Int) ⊕ (Bool))) :=
  some (.inl (x17, (IntKind.wrap .i64 (x18 + 1))))
theorem J66 {x5 : Int} {x11 : Int} {x12 : Int} {x17 : Bool} {x18 : Int} {l1 : List Bool} {b2 : T_api_Pool} {B0 : List PV} {w1 : Bool} {o : ((Bool × Int) ⊕ (Bool))} (h : J1A x5 x11 x12 x17 x18 l1 b2 = some o) :
    rk (J2 p) Jl 0 [.lo 3 [5, 11, 12, 13, 16, 17, 18] J0f, .bl 4, .sq (.keep [5, 11, 12, 13, 16, 17] Jv)] (X (J2 p) J4y ⟨[(5, .p (.i .i64 x5)), (11, .p (.i .i64 x11)), (12, .p (.i .i64 x12)), (13, .slr 1 0 (List.length l1)), (16, .ptr 2 0), (17, .p (.b x17)), (18, .p (.i .i64 x18))], [.box (List.map AV.p B0), .arr w1 1 (List.map r_b l1), .box (List.map AV.p (J3 b2))]⟩) = (J64 p x5 x11 x12 l1 b2 B0 w1) o := by
  unfold J1A at h
  obtain rfl := sj h
  try simp only [↓Da, Ua, J4y, ↓reduceIte, Nat.reduceEqDiff, Nat.reduceAdd, Nat.reduceLT, Nat.reduceMul]
  rfl
def J8V (x11 : Int) (l1 : List Bool) (b2 : T_api_Pool) (B0 : List PV) (w1 : Bool) (o : (Int) ⊕ (Bool)) : Option Res := match o with
  | .inl s => rk (J2 p) Jl 0 [.bl 6, .sq (.keep [11, 16] J0d)] (X (J2 p) (.lp 3 [11, 13, 16, 19] J0t) ⟨[(11, .p (.i .i64 x11)), (13, .slr 1 0 (List.length l1)), (16, .ptr 2 0), (19, .p (.i .i64 s))], [.box (List.map AV.p B0), .arr w1 1 (List.map r_b l1), .box (List.map AV.p (J3 b2))]⟩)
  | .inr o => JC o
def J2h (x11 : Int) (b2 : T_api_Pool) : Option (Bool) :=
  Option.bind (J0z b2) fun r1 =>
  if ((r1.2.2 : Int) == 0) then
    if ((r1.2.1 : Int) == x11) then
      Option.bind (J3d b2 r1.1) fun r6 =>
      some r6
    else
      some false
  else
    some false
theorem J8L {x11 : Int} {b2 : T_api_Pool} {B0 : List PV} {B1 : Blk} {o : Bool} (h : J2h x11 b2 = some o) :
    rk (J2 p) Jl 0 [] (X (J2 p) J0d ⟨[(11, .p (.i .i64 x11)), (16, .ptr 2 0)], [.box (List.map AV.p B0), B1, .box (List.map AV.p (J3 b2))]⟩) = JC o := by
  unfold J2h at h
  obtain ⟨r1, h2, h⟩ := bi h
  have f3 := J5l p h2
  try simp only [Nf] at f3
  try simp only [↓Da, Ua, J0d, J5, J0, J4, J9, J6, *, ↓reduceIte, Nat.reduceEqDiff, Nat.reduceAdd, Nat.reduceLT, Nat.reduceMul]
  rcases Ji h with ⟨h4, h⟩ | ⟨h4, h⟩
  · have h4n : ((r1.2.2 : Int) != 0) = false := by rw [bne, h4]; rfl
    try simp only [↓Da, Ua, J0d, J5, J0, J4, J9, J6, *, ↓reduceIte, Nat.reduceEqDiff, Nat.reduceAdd, Nat.reduceLT, Nat.reduceMul]
    rcases Ji h with ⟨h5, h⟩ | ⟨h5, h⟩
    · obtain ⟨r6, h7, h⟩ := bi h
      have f8 := JdM p h7
      try simp only [Nf] at f8
      obtain rfl := sj h
      try simp only [↓Da, Ua, J0d, J5, J0, J4, J9, J6, JQ, *, ↓reduceIte, Nat.reduceEqDiff, Nat.reduceAdd, Nat.reduceLT, Nat.reduceMul]
      rfl
    · obtain rfl := sj h
      try simp only [↓Da, Ua, J0d, J5, J0, J4, J9, J6, JQ, *, ↓reduceIte, Nat.reduceEqDiff, Nat.reduceAdd, Nat.reduceLT, Nat.reduceMul]
      rfl
  · have h4n : ((r1.2.2 : Int) != 0) = true := by rw [bne, h4]; rfl
    obtain rfl := sj h
    try simp only [↓Da, Ua, J0d, J5, J0, J4, J9, J6, JQ, *, ↓reduceIte, Nat.reduceEqDiff, Nat.reduceAdd, Nat.reduceLT, Nat.reduceMul]
    rfl
def J16 (x11 : Int) (l1 : List Bool) (b2 : T_api_Pool) (x19 : Int) : Option (((Int) ⊕ (Bool))) :=
  if (decide (x19 < x11)) then
    Option.bind (idx l1 x19) fun y2 =>
    if y2 then
      some (.inl (IntKind.wrap .i64 (x19 + 1)))
    else
      some (.inr false)
  else
    Option.map (fun o => .inr o) (J2h x11 b2)
theorem J61 {x11 : Int} {l1 : List Bool} {b2 : T_api_Pool} {x19 : Int} {B0 : List PV} {w1 : Bool} {o : ((Int) ⊕ (Bool))} (h : J16 x11 l1 b2 x19 = some o) :
    rk (J2 p) Jl 0 [.lo 3 [11, 13, 16, 19] J0t, .bl 6, .sq (.keep [11, 16] J0d)] (X (J2 p) J0t ⟨[(11, .p (.i .i64 x11)), (13, .slr 1 0 (List.length l1)), (16, .ptr 2 0), (19, .p (.i .i64 x19))], [.box (List.map AV.p B0), .arr w1 1 (List.map r_b l1), .box (List.map AV.p (J3 b2))]⟩) = (J8V p x11 l1 b2 B0 w1) o := by
  unfold J16 at h
  rcases Ji h with ⟨h1, h⟩ | ⟨h1, h⟩
  · obtain ⟨y2, h3, h⟩ := bi h
    have f4 := J5s (r := r_b) h3
    try simp only [Nf] at f4
    have f5 : (0 ≤ (x19 : Int) ∧ (x19 : Int) < (((List.length l1) : Nat) : Int)) = True := eq_true (by have e0 := J6b h3; (try simp only [List.length_cons, List.length_nil, Nat.zero_add] at e0); omega)
    try simp only [↓Da, Ua, J0t, *, ↓reduceIte, Nat.reduceEqDiff, Nat.reduceAdd, Nat.reduceLT, Nat.reduceMul]
    rcases Ji h with ⟨h6, h⟩ | ⟨h6, h⟩
    · obtain rfl := sj h
      try simp only [↓Da, Ua, J0t, *, ↓reduceIte, Nat.reduceEqDiff, Nat.reduceAdd, Nat.reduceLT, Nat.reduceMul]
      rfl
    · obtain rfl := sj h
      try simp only [↓Da, Ua, J0t, JQ, *, ↓reduceIte, Nat.reduceEqDiff, Nat.reduceAdd, Nat.reduceLT, Nat.reduceMul]
      rfl
  · obtain ⟨o', h', rfl⟩ := mi h
    try simp only [↓Da, Ua, J0t, *, ↓reduceIte, Nat.reduceEqDiff, Nat.reduceAdd, Nat.reduceLT, Nat.reduceMul]
    have e0 := J8L p (B0 := B0) (B1 := .arr w1 1 (List.map r_b l1)) h'
    exact e0
def J3e (x11 : Int) (l1 : List Bool) (b2 : T_api_Pool) (s : Int) : Option (Bool) :=
  JO (fun s => J16 x11 l1 b2 s) s
theorem J5B {x11 : Int} {l1 : List Bool} {b2 : T_api_Pool} {B0 : List PV} {w1 : Bool} {s : Int} {o : Bool} (h : J3e x11 l1 b2 s = some o) :
    rk (J2 p) Jl 0 [.bl 6, .sq (.keep [11, 16] J0d)] (X (J2 p) (.lp 3 [11, 13, 16, 19] J0t) ⟨[(11, .p (.i .i64 x11)), (13, .slr 1 0 (List.length l1)), (16, .ptr 2 0), (19, .p (.i .i64 s))], [.box (List.map AV.p B0), .arr w1 1 (List.map r_b l1), .box (List.map AV.p (J3 b2))]⟩) = JC o := by
  have h0 : JO (fun s => J16 x11 l1 b2 s) s = some o := h
  exact J1S (P := fun (s : Int) (o : Bool) => rk (J2 p) Jl 0 [.bl 6, .sq (.keep [11, 16] J0d)] (X (J2 p) (.lp 3 [11, 13, 16, 19] J0t) ⟨[(11, .p (.i .i64 x11)), (13, .slr 1 0 (List.length l1)), (16, .ptr 2 0), (19, .p (.i .i64 s))], [.box (List.map AV.p B0), .arr w1 1 (List.map r_b l1), .box (List.map AV.p (J3 b2))]⟩) = JC o) (fun s r hs => by rw [J1y]; exact J61 p hs) (fun s s1 r hs ih => by rw [J1y]; exact (J61 p hs).trans ih) h0
def J2g (x5 : Int) (x11 : Int) (x12 : Int) (x17 : Bool) (l1 : List Bool) (b2 : T_api_Pool) : Option (Bool) :=
  if ((x12 : Int) != 0) then
    some false
  else
    if (decide (x11 < 0)) then
      some false
    else
      if (decide (x11 ≥ x5)) then
        some false
      else
        if x17 then
          if ((x11 : Int) != 0) then
            some false
          else
            J3e x11 l1 b2 0
        else
          Option.bind (idx l1 x11) fun y6 =>
          if y6 then
            some false
          else
            J3e x11 l1 b2 0
theorem J8S {x5 : Int} {x11 : Int} {x12 : Int} {x17 : Bool} {l1 : List Bool} {b2 : T_api_Pool} {B0 : List PV} {w1 : Bool} {o : Bool} (h : J2g x5 x11 x12 x17 l1 b2 = some o) :
    rk (J2 p) Jl 0 [] (X (J2 p) Jv ⟨[(5, .p (.i .i64 x5)), (11, .p (.i .i64 x11)), (12, .p (.i .i64 x12)), (13, .slr 1 0 (List.length l1)), (16, .ptr 2 0), (17, .p (.b x17))], [.box (List.map AV.p B0), .arr w1 1 (List.map r_b l1), .box (List.map AV.p (J3 b2))]⟩) = JC o := by
  unfold J2g at h
  rcases Ji h with ⟨h1, h⟩ | ⟨h1, h⟩
  · obtain rfl := sj h
    try simp only [↓Da, Ua, Jv, JQ, *, ↓reduceIte, Nat.reduceEqDiff, Nat.reduceAdd, Nat.reduceLT, Nat.reduceMul]
    rfl
  · try simp only [↓Da, Ua, Jv, *, ↓reduceIte, Nat.reduceEqDiff, Nat.reduceAdd, Nat.reduceLT, Nat.reduceMul]
    rcases Ji h with ⟨h2, h⟩ | ⟨h2, h⟩
    · obtain rfl := sj h
      try simp only [↓Da, Ua, Jv, JQ, *, ↓reduceIte, Nat.reduceEqDiff, Nat.reduceAdd, Nat.reduceLT, Nat.reduceMul]
      rfl
    · try simp only [↓Da, Ua, Jv, *, ↓reduceIte, Nat.reduceEqDiff, Nat.reduceAdd, Nat.reduceLT, Nat.reduceMul]
      rcases Ji h with ⟨h3, h⟩ | ⟨h3, h⟩
      · obtain rfl := sj h
        try simp only [↓Da, Ua, Jv, JQ, *, ↓reduceIte, Nat.reduceEqDiff, Nat.reduceAdd, Nat.reduceLT, Nat.reduceMul]
        rfl
      · try simp only [↓Da, Ua, Jv, *, ↓reduceIte, Nat.reduceEqDiff, Nat.reduceAdd, Nat.reduceLT, Nat.reduceMul]
        rcases Ji h with ⟨h4, h⟩ | ⟨h4, h⟩
        · try simp only [↓Da, Ua, Jv, *, ↓reduceIte, Nat.reduceEqDiff, Nat.reduceAdd, Nat.reduceLT, Nat.reduceMul]
          rcases Ji h with ⟨h5, h⟩ | ⟨h5, h⟩
          · obtain rfl := sj h
            try simp only [↓Da, Ua, Jv, JQ, *, ↓reduceIte, Nat.reduceEqDiff, Nat.reduceAdd, Nat.reduceLT, Nat.reduceMul]
            rfl
          · try simp only [↓Da, Ua, Jv, *, ↓reduceIte, Nat.reduceEqDiff, Nat.reduceAdd, Nat.reduceLT, Nat.reduceMul]
            have e0 := J5B p (B0 := B0) (w1 := w1) h
            exact e0
        · obtain ⟨y6, h7, h⟩ := bi h
          have f8 := J5s (r := r_b) h7
          try simp only [Nf] at f8
          have f9 : (0 ≤ (x11 : Int) ∧ (x11 : Int) < (((List.length l1) : Nat) : Int)) = True := eq_true (by have e0 := J6b h7; (try simp only [List.length_cons, List.length_nil, Nat.zero_add] at e0); omega)
          try simp only [↓Da, Ua, Jv, *, ↓reduceIte, Nat.reduceEqDiff, Nat.reduceAdd, Nat.reduceLT, Nat.reduceMul]
          rcases Ji h with ⟨h10, h⟩ | ⟨h10, h⟩
          · obtain rfl := sj h
            try simp only [↓Da, Ua, Jv, JQ, *, ↓reduceIte, Nat.reduceEqDiff, Nat.reduceAdd, Nat.reduceLT, Nat.reduceMul]
            rfl
          · try simp only [↓Da, Ua, Jv, *, ↓reduceIte, Nat.reduceEqDiff, Nat.reduceAdd, Nat.reduceLT, Nat.reduceMul]
            have e0 := J5B p (B0 := B0) (w1 := w1) h
            exact e0
def J0N (x5 : Int) (x11 : Int) (x12 : Int) (l1 : List Bool) (b2 : T_api_Pool) (x17 : Bool) (x18 : Int) : Option (((Bool × Int) ⊕ (Bool))) :=
  if (decide (x18 < x5)) then
    if x17 then
      Option.bind (idx l1 x18) fun y3 =>
      J1A x5 x11 x12 y3 x18 l1 b2
    else
      J1A x5 x11 x12 false x18 l1 b2
  else
    Option.map (fun o => .inr o) (J2g x5 x11 x12 x17 l1 b2)
theorem J62 {x5 : Int} {x11 : Int} {x12 : Int} {l1 : List Bool} {b2 : T_api_Pool} {x17 : Bool} {x18 : Int} {B0 : List PV} {w1 : Bool} {o : ((Bool × Int) ⊕ (Bool))} (h : J0N x5 x11 x12 l1 b2 x17 x18 = some o) :
    rk (J2 p) Jl 0 [.lo 3 [5, 11, 12, 13, 16, 17, 18] J0f, .bl 4, .sq (.keep [5, 11, 12, 13, 16, 17] Jv)] (X (J2 p) J0f ⟨[(5, .p (.i .i64 x5)), (11, .p (.i .i64 x11)), (12, .p (.i .i64 x12)), (13, .slr 1 0 (List.length l1)), (16, .ptr 2 0), (17, .p (.b x17)), (18, .p (.i .i64 x18))], [.box (List.map AV.p B0), .arr w1 1 (List.map r_b l1), .box (List.map AV.p (J3 b2))]⟩) = (J64 p x5 x11 x12 l1 b2 B0 w1) o := by
  unfold J0N at h
  rcases Ji h with ⟨h1, h⟩ | ⟨h1, h⟩
  · try simp only [↓Da, Ua, J0f, *, ↓reduceIte, Nat.reduceEqDiff, Nat.reduceAdd, Nat.reduceLT, Nat.reduceMul]
    rcases Ji h with ⟨h2, h⟩ | ⟨h2, h⟩
    · obtain ⟨y3, h4, h⟩ := bi h
      have f5 := J5s (r := r_b) h4
      try simp only [Nf] at f5
      have f6 : (0 ≤ (x18 : Int) ∧ (x18 : Int) < (((List.length l1) : Nat) : Int)) = True := eq_true (by have e0 := J6b h4; (try simp only [List.length_cons, List.length_nil, Nat.zero_add] at e0); omega)
      try simp only [↓Da, Ua, J0f, *, ↓reduceIte, Nat.reduceEqDiff, Nat.reduceAdd, Nat.reduceLT, Nat.reduceMul]
      have e0 := J66 p (B0 := B0) (w1 := w1) h
      exact e0
    · try simp only [↓Da, Ua, J0f, *, ↓reduceIte, Nat.reduceEqDiff, Nat.reduceAdd, Nat.reduceLT, Nat.reduceMul]
      have e0 := J66 p (B0 := B0) (w1 := w1) h
      exact e0
  · obtain ⟨o', h', rfl⟩ := mi h
    try simp only [↓Da, Ua, J0f, *, ↓reduceIte, Nat.reduceEqDiff, Nat.reduceAdd, Nat.reduceLT, Nat.reduceMul]
    have e0 := J8S p (B0 := B0) (w1 := w1) h'
    exact e0
def J4C (x5 : Int) (x11 : Int) (x12 : Int) (l1 : List Bool) (b2 : T_api_Pool) (s : Bool × Int) : Option (Bool) :=
  JO (fun s => J0N x5 x11 x12 l1 b2 s.1 s.2) s
theorem J7Y {x5 : Int} {x11 : Int} {x12 : Int} {l1 : List Bool} {b2 : T_api_Pool} {B0 : List PV} {w1 : Bool} {s : Bool × Int} {o : Bool} (h : J4C x5 x11 x12 l1 b2 s = some o) :
    rk (J2 p) Jl 0 [.bl 4, .sq (.keep [5, 11, 12, 13, 16, 17] Jv)] (X (J2 p) (.lp 3 [5, 11, 12, 13, 16, 17, 18] J0f) ⟨[(5, .p (.i .i64 x5)), (11, .p (.i .i64 x11)), (12, .p (.i .i64 x12)), (13, .slr 1 0 (List.length l1)), (16, .ptr 2 0), (17, .p (.b s.1)), (18, .p (.i .i64 s.2))], [.box (List.map AV.p B0), .arr w1 1 (List.map r_b l1), .box (List.map AV.p (J3 b2))]⟩) = JC o := by
  have h0 : JO (fun s => J0N x5 x11 x12 l1 b2 s.1 s.2) s = some o := h
  exact J1S (P := fun (s : Bool × Int) (o : Bool) => rk (J2 p) Jl 0 [.bl 4, .sq (.keep [5, 11, 12, 13, 16, 17] Jv)] (X (J2 p) (.lp 3 [5, 11, 12, 13, 16, 17, 18] J0f) ⟨[(5, .p (.i .i64 x5)), (11, .p (.i .i64 x11)), (12, .p (.i .i64 x12)), (13, .slr 1 0 (List.length l1)), (16, .ptr 2 0), (17, .p (.b s.1)), (18, .p (.i .i64 s.2))], [.box (List.map AV.p B0), .arr w1 1 (List.map r_b l1), .box (List.map AV.p (J3 b2))]⟩) = JC o) (fun s r hs => by rw [J1y]; exact J62 p hs) (fun s s1 r hs ih => by rw [J1y]; exact (J62 p hs).trans ih) h0
def J2e (x5 : Int) (b0 : T_api_Pool) (l1 : List Bool) : Option (Bool) :=
  Option.bind (J0z b0) fun r1 =>
  J4C x5 r1.2.1 r1.2.2 l1 r1.1 (true, 0)
theorem J8W {x5 : Int} {b0 : T_api_Pool} {l1 : List Bool} {w1 : Bool} {o : Bool} (h : J2e x5 b0 l1 = some o) :
    rk (J2 p) Jl 0 [] (X (J2 p) J15 ⟨[(5, .p (.i .i64 x5)), (6, .ptr 0 0), (13, .slr 1 0 (List.length l1))], [.box (List.map AV.p (J3 b0)), .arr w1 1 (List.map r_b l1)]⟩) = JC o := by
  unfold J2e at h
  obtain ⟨r1, h2, h⟩ := bi h
  have f3 := J5l p h2
  try simp only [Nf] at f3
  try simp only [↓Da, Ua, J15, J5, J0, J4, J9, J6, *, ↓reduceIte, Nat.reduceEqDiff, Nat.reduceAdd, Nat.reduceLT, Nat.reduceMul]
  have e0 := J7Y p (B0 := (J3 b0)) (w1 := w1) h
  exact e0
def J17 (x5 : Int) (x75 : List Int) (x76 : Int) (x77 : Int) (b0 : T_api_Pool) (l1 : List Bool) : Option (((Int × T_api_Pool × (List Bool)) ⊕ (Bool))) :=
  if (decide (x77 < x76)) then
    Option.bind (idx x75 x77) fun y2 =>
    Option.bind (J7x (IntKind.wrap .i64 y2) x5) fun q5 =>
    Option.bind (idx l1 q5) fun y7 =>
    Option.bind (some (List.set l1 (Int.toNat q5) true)) fun m11 =>
    Option.bind (J4b b0 q5) fun r15 =>
    some (.inl ((IntKind.wrap .i64 (x77 + 1)), r15, m11))
  else
    Option.map (fun o => .inr o) (J2e x5 b0 l1)
theorem J65 {x5 : Int} {x75 : List Int} {x76 : Int} {x77 : Int} {b0 : T_api_Pool} {l1 : List Bool} {o : ((Int × T_api_Pool × (List Bool)) ⊕ (Bool))} (h : J17 x5 x75 x76 x77 b0 l1 = some o) :
    rk (J2 p) Jl 0 [.lo 2 [5, 6, 13, 75, 76, 77] J0M, .bl 2, .sq (.keep [5, 6, 13] J15)] (X (J2 p) J0M ⟨[(5, .p (.i .i64 x5)), (6, .ptr 0 0), (13, .slr 1 0 (List.length l1)), (75, .p (.sl 1 (List.map (r_i .u8) x75))), (76, .p (.i .i64 x76)), (77, .p (.i .i64 x77))], [.box (List.map AV.p (J3 b0)), .arr true 1 (List.map r_b l1)]⟩) = (J60 p x5 x75 x76) o := by
  unfold J17 at h
  rcases Ji h with ⟨h1, h⟩ | ⟨h1, h⟩
  · obtain ⟨y2, h3, h⟩ := bi h
    have f4 := J46 (r := (r_i .u8)) h3
    try simp only [Nf] at f4
    obtain ⟨q5, h6, h⟩ := bi h
    obtain ⟨y7, h8, h⟩ := bi h
    have f9 := J5s (r := r_b) h8
    try simp only [Nf] at f9
    have f10 : (0 ≤ (q5 : Int) ∧ (q5 : Int) < (((List.length l1) : Nat) : Int)) = True := eq_true (by have e0 := J6b h8; (try simp only [List.length_cons, List.length_nil, Nat.zero_add] at e0); omega)
    obtain ⟨m11, h12, h⟩ := bi h
    have f13 : List.set (List.map r_b l1) (Int.toNat q5) (r_b true) = List.map r_b m11 := by
      rw [← Option.some.inj h12, List.map_set]
    try simp only [Nf] at f13
    have g14 : List.length m11 = List.length l1 := by rw [← Option.some.inj h12, List.length_set]
    obtain ⟨r15, h16, h⟩ := bi h
    have f17 := JfR p h16
    try simp only [Nf] at f17
    obtain rfl := sj h
    try simp only [↓Da, Ua, J0M, J5, J0, J4, J9, J6, *, ↓reduceIte, Nat.reduceEqDiff, Nat.reduceAdd, Nat.reduceLT, Nat.reduceMul]
    try simp only [J60, g14]
    try rfl
  · obtain ⟨o', h', rfl⟩ := mi h
    try simp only [↓Da, Ua, J0M, J5, J0, J4, J9, J6, *, ↓reduceIte, Nat.reduceEqDiff, Nat.reduceAdd, Nat.reduceLT, Nat.reduceMul]
    have e0 := J8W p (w1 := true) h'
    exact e0
def J4B (x5 : Int) (x75 : List Int) (x76 : Int) (s : Int × T_api_Pool × (List Bool)) : Option (Bool) :=
  JO (fun s => J17 x5 x75 x76 s.1 s.2.1 s.2.2) s
theorem J7T {x5 : Int} {x75 : List Int} {x76 : Int} {s : Int × T_api_Pool × (List Bool)} {o : Bool} (h : J4B x5 x75 x76 s = some o) :
    rk (J2 p) Jl 0 [.bl 2, .sq (.keep [5, 6, 13] J15)] (X (J2 p) (.lp 2 [5, 6, 13, 75, 76, 77] J0M) ⟨[(5, .p (.i .i64 x5)), (6, .ptr 0 0), (13, .slr 1 0 (List.length s.2.2)), (75, .p (.sl 1 (List.map (r_i .u8) x75))), (76, .p (.i .i64 x76)), (77, .p (.i .i64 s.1))], [.box (List.map AV.p (J3 s.2.1)), .arr true 1 (List.map r_b s.2.2)]⟩) = JC o := by
  have h0 : JO (fun s => J17 x5 x75 x76 s.1 s.2.1 s.2.2) s = some o := h
  exact J1S (P := fun (s : Int × T_api_Pool × (List Bool)) (o : Bool) => rk (J2 p) Jl 0 [.bl 2, .sq (.keep [5, 6, 13] J15)] (X (J2 p) (.lp 2 [5, 6, 13, 75, 76, 77] J0M) ⟨[(5, .p (.i .i64 x5)), (6, .ptr 0 0), (13, .slr 1 0 (List.length s.2.2)), (75, .p (.sl 1 (List.map (r_i .u8) x75))), (76, .p (.i .i64 x76)), (77, .p (.i .i64 s.1))], [.box (List.map AV.p (J3 s.2.1)), .arr true 1 (List.map r_b s.2.2)]⟩) = JC o) (fun s r hs => by rw [J1y]; exact J65 p hs) (fun s s1 r hs ih => by rw [J1y]; exact (J65 p hs).trans ih) h0
def J2i (x1 : List Int) (x5 : Int) (x7 : Int) (b0 : T_api_Pool) : Option (Bool) :=
  Option.bind (J0z b0) fun r1 =>
  if ((x7 : Int) != 0) then
    some false
  else
    if ((r1.2.2 : Int) != 0) then
      some false
    else
      if ((r1.2.1 : Int) != 0) then
        some false
      else
        Option.bind (mkS 1 x5 x5 false) fun m7 =>
        J4B x5 x1 ((List.length x1 : Nat) : Int) (0, r1.1, m7)
theorem J8M {x1 : List Int} {x5 : Int} {x7 : Int} {b0 : T_api_Pool} {o : Bool} (h : J2i x1 x5 x7 b0 = some o) :
    rk (J2 p) Jl 0 [] (X (J2 p) JU ⟨[(1, .p (.sl 1 (List.map (r_i .u8) x1))), (5, .p (.i .i64 x5)), (6, .ptr 0 0), (7, .p (.i .i64 x7))], [.box (List.map AV.p (J3 b0))]⟩) = JC o := by
  unfold J2i at h
  obtain ⟨r1, h2, h⟩ := bi h
  have f3 := J5l p h2
  try simp only [Nf] at f3
  try simp only [↓Da, Ua, JU, J5, J0, J4, J9, J6, *, ↓reduceIte, Nat.reduceEqDiff, Nat.reduceAdd, Nat.reduceLT, Nat.reduceMul]
  rcases Ji h with ⟨h4, h⟩ | ⟨h4, h⟩
  · obtain rfl := sj h
    try simp only [↓Da, Ua, JU, J5, J0, J4, J9, J6, JQ, *, ↓reduceIte, Nat.reduceEqDiff, Nat.reduceAdd, Nat.reduceLT, Nat.reduceMul]
    rfl
  · try simp only [↓Da, Ua, JU, J5, J0, J4, J9, J6, *, ↓reduceIte, Nat.reduceEqDiff, Nat.reduceAdd, Nat.reduceLT, Nat.reduceMul]
    rcases Ji h with ⟨h5, h⟩ | ⟨h5, h⟩
    · obtain rfl := sj h
      try simp only [↓Da, Ua, JU, J5, J0, J4, J9, J6, JQ, *, ↓reduceIte, Nat.reduceEqDiff, Nat.reduceAdd, Nat.reduceLT, Nat.reduceMul]
      rfl
    · try simp only [↓Da, Ua, JU, J5, J0, J4, J9, J6, *, ↓reduceIte, Nat.reduceEqDiff, Nat.reduceAdd, Nat.reduceLT, Nat.reduceMul]
      rcases Ji h with ⟨h6, h⟩ | ⟨h6, h⟩
      · obtain rfl := sj h
        try simp only [↓Da, Ua, JU, J5, J0, J4, J9, J6, JQ, *, ↓reduceIte, Nat.reduceEqDiff, Nat.reduceAdd, Nat.reduceLT, Nat.reduceMul]
        rfl
      · obtain ⟨m7, h8, h⟩ := bi h
        have f9 : (0 ≤ (x5 : Int) ∧ (x5 : Int) ≤ x5 ∧ ((1 : Nat) : Int) * x5 ≤ 281474976710656 ∧ (x5 : Int) ≤ 281474976710656) = True := eq_true (JbV h8).1
        have f10 : List.replicate (Int.toNat x5) (r_b false) = List.map r_b m7 := by rw [(JbV h8).2, List.map_replicate]
        try simp only [Nf] at f10
        have g11 : List.length m7 = Int.toNat x5 := by rw [(JbV h8).2, List.length_replicate]
        try simp only [↓Da, Ua, JU, J5, J0, J4, J9, J6, *, ↓reduceIte, Nat.reduceEqDiff, Nat.reduceAdd, Nat.reduceLT, Nat.reduceMul]
        have e0 := J7T p h
        try simp only [g11] at e0
        exact e0
def J18 (x1 : List Int) (x5 : Int) (x7 : Int) (x8 : Int) (b0 : T_api_Pool) : Option (((Int × T_api_Pool) ⊕ (Bool))) :=
  if (decide (x8 < x5)) then
    Option.bind (J21 b0 (⟨x8, 0, (Vector.replicate 16 (⟨false, []⟩ : Je))⟩ : Jb)) fun r2 =>
    if ((r2.2 : Int) != 0) then
      some (.inr false)
    else
      some (.inl ((IntKind.wrap .i64 (x8 + 1)), r2.1))
  else
    Option.map (fun o => .inr o) (J2i x1 x5 x7 b0)
theorem J63 {x1 : List Int} {x5 : Int} {x7 : Int} {x8 : Int} {b0 : T_api_Pool} {o : ((Int × T_api_Pool) ⊕ (Bool))} (h : J18 x1 x5 x7 x8 b0 = some o) :
    rk (J2 p) Jl 0 [.lo 1 [1, 5, 6, 7, 8] J0s, .bl 0, .td 1 [1, 4, 5, 6, 7], .sq (.keep [1, 5, 6, 7] JU)] (X (J2 p) J0s ⟨[(1, .p (.sl 1 (List.map (r_i .u8) x1))), (5, .p (.i .i64 x5)), (6, .ptr 0 0), (7, .p (.i .i64 x7)), (8, .p (.i .i64 x8))], [.box (List.map AV.p (J3 b0))]⟩) = (J8Q p x1 x5 x7) o := by
  unfold J18 at h
  rcases Ji h with ⟨h1, h⟩ | ⟨h1, h⟩
  · obtain ⟨r2, h3, h⟩ := bi h
    have f4 := J8x p h3
    try simp only [Nf] at f4
    try simp only [↓Da, Ua, J0s, J5, J0, J4, J9, J6, *, ↓reduceIte, Nat.reduceEqDiff, Nat.reduceAdd, Nat.reduceLT, Nat.reduceMul]
    rcases Ji h with ⟨h5, h⟩ | ⟨h5, h⟩
    · obtain rfl := sj h
      try simp only [↓Da, Ua, J0s, J5, J0, J4, J9, J6, JQ, *, ↓reduceIte, Nat.reduceEqDiff, Nat.reduceAdd, Nat.reduceLT, Nat.reduceMul]
      rfl
    · obtain rfl := sj h
      try simp only [↓Da, Ua, J0s, J5, J0, J4, J9, J6, *, ↓reduceIte, Nat.reduceEqDiff, Nat.reduceAdd, Nat.reduceLT, Nat.reduceMul]
      rfl
  · obtain ⟨o', h', rfl⟩ := mi h
    try simp only [↓Da, Ua, J0s, J5, J0, J4, J9, J6, *, ↓reduceIte, Nat.reduceEqDiff, Nat.reduceAdd, Nat.reduceLT, Nat.reduceMul]
    have e0 := J8M p h'
    exact e0
def J67 (x1 : List Int) (x5 : Int) (x7 : Int) (s : Int × T_api_Pool) : Option (Bool) :=
  JO (fun s => J18 x1 x5 x7 s.1 s.2) s
theorem J7M {x1 : List Int} {x5 : Int} {x7 : Int} {s : Int × T_api_Pool} {o : Bool} (h : J67 x1 x5 x7 s = some o) :
    rk (J2 p) Jl 0 [.bl 0, .td 1 [1, 4, 5, 6, 7], .sq (.keep [1, 5, 6, 7] JU)] (X (J2 p) (.lp 1 [1, 5, 6, 7, 8] J0s) ⟨[(1, .p (.sl 1 (List.map (r_i .u8) x1))), (5, .p (.i .i64 x5)), (6, .ptr 0 0), (7, .p (.i .i64 x7)), (8, .p (.i .i64 s.1))], [.box (List.map AV.p (J3 s.2))]⟩) = JC o := by
  have h0 : JO (fun s => J18 x1 x5 x7 s.1 s.2) s = some o := h
  exact J1S (P := fun (s : Int × T_api_Pool) (o : Bool) => rk (J2 p) Jl 0 [.bl 0, .td 1 [1, 4, 5, 6, 7], .sq (.keep [1, 5, 6, 7] JU)] (X (J2 p) (.lp 1 [1, 5, 6, 7, 8] J0s) ⟨[(1, .p (.sl 1 (List.map (r_i .u8) x1))), (5, .p (.i .i64 x5)), (6, .ptr 0 0), (7, .p (.i .i64 x7)), (8, .p (.i .i64 s.1))], [.box (List.map AV.p (J3 s.2))]⟩) = JC o) (fun s r hs => by rw [J1y]; exact J63 p hs) (fun s s1 r hs ih => by rw [J1y]; exact (J63 p hs).trans ih) h0
def J2M (x0 : Int) (x1 : List Int) : Option (Bool) :=
  Option.bind (J2J) fun r1 =>
  if r1 then
    if (decide (((List.length x1 : Nat) : Int) > 60)) then
      some true
    else
      Option.bind (J7x (IntKind.wrap .i64 x0) 8) fun q6 =>
      Option.bind (J2T (IntKind.wrap .i64 (2 + q6))) fun r8 =>
      J67 x1 (IntKind.wrap .i64 (2 + q6)) r8.2 (0, r8.1)
  else
    some (decide (((List.length x1 : Nat) : Int) > 60))
theorem J80 {x0 : Int} {x1 : List Int} {o : Bool} (h : J2M x0 x1 = some o) :
    rk (J2 p) Jl 0 [] (X (J2 p) J0O ⟨[(0, .p (.i .u8 x0)), (1, .p (.sl 1 (List.map (r_i .u8) x1)))], []⟩) = JC o := by
  unfold J2M at h
  obtain ⟨r1, h2, h⟩ := bi h
  have f3 := Jdp p h2
  try simp only [Nf] at f3
  try simp only [↓Da, Ua, J0O, J5, J0, J4, J9, J6, *, ↓reduceIte, Nat.reduceEqDiff, Nat.reduceAdd, Nat.reduceLT, Nat.reduceMul]
  rcases Ji h with ⟨h4, h⟩ | ⟨h4, h⟩
  · try simp only [↓Da, Ua, J0O, J5, J0, J4, J9, J6, *, ↓reduceIte, Nat.reduceEqDiff, Nat.reduceAdd, Nat.reduceLT, Nat.reduceMul]
    rcases Ji h with ⟨h5, h⟩ | ⟨h5, h⟩
    · obtain rfl := sj h
      try simp only [↓Da, Ua, J0O, J5, J0, J4, J9, J6, JQ, *, ↓reduceIte, Nat.reduceEqDiff, Nat.reduceAdd, Nat.reduceLT, Nat.reduceMul]
      rfl
    · obtain ⟨q6, h7, h⟩ := bi h
      obtain ⟨r8, h9, h⟩ := bi h
      have f10 := JbG p h9
      try simp only [Nf] at f10
      try simp only [↓Da, Ua, J0O, J5, J0, J4, J9, J6, *, ↓reduceIte, Nat.reduceEqDiff, Nat.reduceAdd, Nat.reduceLT, Nat.reduceMul]
      have e0 := J7M p h
      exact e0
  · obtain rfl := sj h
    try simp only [↓Da, Ua, J0O, J5, J0, J4, J9, J6, JQ, *, ↓reduceIte, Nat.reduceEqDiff, Nat.reduceAdd, Nat.reduceLT, Nat.reduceMul]
    rfl
theorem Ja1 {x0 : Int} {x1 : List Int} {o : Bool} (h : J2M x0 x1 = some o) : AF (J2 p) J3L [.p (.i .u8 x0), .p (.sl 1 (List.map (r_i .u8) x1))] [] = JC o :=
  (J2d (J2 p) (J9X p) rfl).trans (J80 p h)
end
end Go.Am
end
section
end
section
namespace Go.Am
theorem J71 {n : Int} (h1 : -9223372036854775808 ≤ n) (h2 : n ≤ 9223372036854775807) : IntKind.i64.wrap n = n := by
  simp [IntKind.wrap_i64]; omega
theorem Jk8 {α : Type} (l : List α) (k : Nat) : idx l (k : Int) = l[k]? := by simp [idx]
theorem J5v {α : Type} {n : Nat} (v : Vector α n) (k : Nat) (h : k < n) : J6x v (k : Int) = some v[k] := by
  have e : (0 : Int) ≤ k ∧ (k : Int) < n := by omega
  simp [J6x, e, h]
theorem J9J {n k : Nat} (h : k < n) : inb n (k : Int) = some () := by
  have e : (0 : Int) ≤ k ∧ (k : Int) < n := by omega
  simp [inb, e]
theorem J1X {k : Nat} (h : k < 1000000) : IntKind.i64.wrap ((k : Int) + 1) = ((k + 1 : Nat) : Int) := by
  rw [J71 (by omega) (by omega)]; simp
theorem J1F {σ ρ : Type} {f : σ → Option (σ ⊕ ρ)} (I : σ → Prop) (m : σ → Nat) (Q : ρ → Prop)
    (h : ∀ s, I s → (∃ s', f s = some (.inl s') ∧ I s' ∧ m s' < m s) ∨ (∃ r, f s = some (.inr r) ∧ Q r)) : ∀ s, I s → ∃ r, JO f s = some r ∧ Q r := by
  have key : ∀ n s, m s ≤ n → I s → ∃ r, JO f s = some r ∧ Q r := by
    intro n
    induction n with
    | zero =>
      intro s hm hs
      rcases h s hs with ⟨s', e, hs', hlt⟩ | ⟨r, e, hq⟩
      · omega
      · exact ⟨r, J2v e, hq⟩
    | succ n ih =>
      intro s hm hs
      rcases h s hs with ⟨s', e, hs', hlt⟩ | ⟨r, e, hq⟩
      · obtain ⟨r, hr, hq⟩ := ih s' (by omega) hs'
        exact ⟨r, (J4i e).trans hr, hq⟩
      · exact ⟨r, J2v e, hq⟩
  exact fun s hs => key (m s) s (Nat.le_refl _) hs
def J4I (lsn : Int) (c : Je) : Prop := c.Data.length ≤ 12 ∧ (c.Set = false → c.Data = []) ∧ (c.Set = true → lsn ≠ 0)
structure J7Z (p : Jb) : Prop where
  id0 : 0 ≤ p.ID
  id1 : p.ID < 64
  lsn0 : 0 ≤ p.LSN
  lsn1 : p.LSN ≤ 1099511627776
  cells : ∀ (i : Nat) (h : i < 16), J4I p.LSN (p.Cells[i])
theorem Jek {id lsn : Int} (h0 : 0 ≤ id) (h1 : id < 64) (h2 : 0 ≤ lsn) (h3 : lsn ≤ 1099511627776) : J7Z ⟨id, lsn, Vector.replicate 16 ⟨false, []⟩⟩ :=
  ⟨h0, h1, h2, h3, fun i h => by simp [J4I]⟩
end Go.Am
end
section
namespace Go.Am
theorem Jmj (x : Int) : ∃ k : Nat, J2U .u32 x 15 = (k : Int) ∧ k < 16 := by
  have h : (BitVec.ofInt 32 x &&& BitVec.ofInt 32 15).toNat ≤ 15 := by
    rw [BitVec.toNat_and]
    exact Nat.and_le_right
  refine ⟨(BitVec.ofInt 32 x &&& BitVec.ofInt 32 15).toNat, ?_, by omega⟩
  show (((BitVec.ofInt 32 x &&& BitVec.ofInt 32 15).toNat : Nat) : Int) % 4294967296 = _
  omega
theorem Jdm : ∃ v, J1j = some v := by
  have inner : ∀ (k : Nat) (b0 b1 : Vector Int 16), k < 16 → ∀ r : Int, ∃ o, J4h k k b0 b1 (r, 0) = some o ∧ ∃ v, o = .inl (((k + 1 : Nat) : Int), v) := by
    intro k b0 b1 hk r
    refine J1F (f := fun s : Int × Int => J04 k k b0 b1 s.1 s.2) (fun s => ∃ j : Nat, s.2 = j ∧ j ≤ 4) (fun s => (4 - s.2).toNat) _ (fun s ⟨j, hj, h4⟩ => ?_) (r, 0) ⟨0, rfl, by omega⟩
    obtain ⟨x, j'⟩ := s
    simp only at hj
    subst hj
    by_cases hlt : j < 4
    · left
      have e1 : ((j : Nat) : Int) < 4 := by omega
      have e2 : J7v .u32 x 1 = some (x.fdiv (2 ^ (min (1 : Int).toNat IntKind.u32.bits))) := rfl
      by_cases hb : J2U .u32 x 1 = 1
      · exact ⟨⟨_, ((j + 1 : Nat) : Int)⟩, by simp only [J04, e1, decide_true, if_true, hb, beq_self_eq_true, e2, Option.bind_some, J1X (show j < 1000000 by omega)]; rfl, ⟨j + 1, rfl, by omega⟩, by simp; omega⟩
      · have e3 : (J2U .u32 x 1 == 1) = false := by simpa using hb
        exact ⟨⟨_, ((j + 1 : Nat) : Int)⟩, by simp only [J04, e1, decide_true, if_true, e3, Bool.false_eq_true, if_false, e2, Option.bind_some, J1X (show j < 1000000 by omega)]; rfl, ⟨j + 1, rfl, by omega⟩, by simp; omega⟩
    · right
      have e1 : ¬ ((j : Nat) : Int) < 4 := by omega
      exact ⟨.inl (((k + 1 : Nat) : Int), JbX b1 k x), by simp only [J04, e1, decide_false, Bool.false_eq_true, if_false, J23, J26, J9J hk, J5v _ k hk, Option.bind_some, Option.map_some, J1X (show k < 1000000 by omega)], _, rfl⟩
  obtain ⟨v, hv, _⟩ := J1F (f := fun s : Int × Vector Int 16 => J0j (Vector.replicate 16 0) s.1 s.2) (fun s => ∃ j : Nat, s.1 = j ∧ j ≤ 16) (fun s => (16 - s.1).toNat) (fun _ => True) (fun s ⟨j, hj, h4⟩ => by
    obtain ⟨j', b1⟩ := s
    simp only at hj
    subst hj
    by_cases hlt : j < 16
    · left
      have e1 : ((j : Nat) : Int) < 16 := by omega
      obtain ⟨o, ho, v, rfl⟩ := inner j (Vector.replicate 16 0) b1 hlt (IntKind.wrap .u32 (j : Int))
      exact ⟨⟨((j + 1 : Nat) : Int), v⟩, by simp only [J0j, e1, decide_true, if_true]; exact ho, ⟨j + 1, rfl, by omega⟩, by simp; omega⟩
    · right
      have e1 : ¬ ((j : Nat) : Int) < 16 := by omega
      exact ⟨b1, by simp only [J0j, e1, decide_false, Bool.false_eq_true, if_false, J25, Option.map_some], trivial⟩) (0, Vector.replicate 16 0) ⟨0, rfl, by omega⟩
  exact ⟨v, hv⟩
theorem JfK {l : List UInt8} {k : Nat} (h : k < l.length) : JbU l (k : Int) = some ((l[k]).toNat : Int) := by
  have e : (0 : Int) ≤ k := by omega
  simp [JbU, e, h]
theorem JlC (l : List UInt8) (hl : l.length ≤ 1000) : ∃ r, J1H l = some r := by
  obtain ⟨v, hv⟩ := Jdm
  obtain ⟨r, hr, _⟩ := J1F (f := fun s : Int × Int => J1q l (l.length : Int) v s.1 s.2) (fun s => ∃ j : Nat, s.2 = j ∧ j ≤ l.length) (fun s => (l.length - s.2).toNat) (fun _ => True) (fun s ⟨j, hj, h4⟩ => by
    obtain ⟨x, j'⟩ := s
    simp only at hj
    subst hj
    by_cases hlt : j < l.length
    · left
      have e1 : ((j : Nat) : Int) < (l.length : Int) := by omega
      have e2 : ∀ z : Int, J7v .u32 z 4 = some (z.fdiv (2 ^ (min (4 : Int).toNat IntKind.u32.bits))) := fun _ => rfl
      have e3 : ∀ z : Int, ∃ y, inb 16 (J2U .u32 z 15) = some () ∧ J6x v (J2U .u32 z 15) = some y := by
        intro z
        obtain ⟨k, hk, hk2⟩ := Jmj z
        rw [hk]
        exact ⟨_, J9J hk2, J5v _ k hk2⟩
      obtain ⟨y1, a1, a2⟩ := e3 (J43 .u32 x (IntKind.wrap .u32 (((l[j]).toNat : Nat) : Int)))
      obtain ⟨y2, a3, a4⟩ := e3 (J43 .u32 ((J43 .u32 x (IntKind.wrap .u32 (((l[j]).toNat : Nat) : Int))).fdiv (2 ^ (min (4 : Int).toNat IntKind.u32.bits))) y1)
      exact ⟨⟨_, ((j + 1 : Nat) : Int)⟩, by simp only [J1q, e1, decide_true, if_true, JfK hlt, Option.bind_some, e2, a1, a2, a3, a4, J1X (show j < 1000000 by omega)]; rfl, ⟨j + 1, rfl, by omega⟩, by simp; omega⟩
    · right
      have e1 : ¬ ((j : Nat) : Int) < (l.length : Int) := by omega
      exact ⟨_, by simp only [J1q, e1, decide_false, Bool.false_eq_true, if_false, J4l, Option.map_some]; rfl, trivial⟩) (4294967295, 0) ⟨0, rfl, by omega⟩
  exact ⟨r, by unfold J1H; rw [hv]; exact hr⟩
theorem J9d (l : List UInt8) (n : Int) {k : Nat} (h1 : 1 ≤ k) (h8 : k ≤ 8) (hl : l.length ≤ 1000) : J2X l n (k : Int) = some (l ++ J1m n k) := by
  have e1 : ¬ ((k : Int) < 1 ∨ 8 < (k : Int)) := by omega
  have e2 : l.length + 8 ≤ 140737488355328 := by omega
  show Jcf l n k = _
  rw [Jcf, if_neg e1, if_pos e2]
  simp
theorem Jet {a b : List UInt8} (ha : a.length ≤ 1000) (hb : b.length ≤ 1000) : J7y a b = some (a ++ b) := by
  have e : a.length + b.length ≤ 4611686018427387904 := by omega
  simp [J7y, e]
theorem JdI {n : Int} (h0 : 0 ≤ n) (h1 : n ≤ 1000) : J2l [0] n = some (List.replicate n.toNat 0) := by
  show Jcg [0] n = _
  have e : (0 : Int) ≤ n ∧ n ≤ 9223372036854775807 ∧ ([0] : List UInt8).length * n.toNat ≤ 140737488355328 := by
    refine ⟨h0, by omega, ?_⟩
    simp; omega
  rw [Jcg, if_pos e]
  have : ∀ k : Nat, (List.replicate k ([0] : List UInt8)).flatten = List.replicate k 0 := by
    intro k
    induction k with
    | zero => rfl
    | succ k ih => rw [List.replicate_succ, List.flatten_cons, ih]; rfl
  rw [this]
theorem JhI (p : Jb) : ∃ b, J2x p = some b ∧ (b = true → ∀ (i : Nat) (h : i < 16), (p.Cells[i]).Data.length ≤ 12) ∧ ((∀ (i : Nat) (h : i < 16), J4I p.LSN p.Cells[i]) → b = true) := by
  refine J1F (f := fun s : Int => JT p.Cells p s) (fun s => ∃ j : Nat, s = j ∧ j ≤ 16 ∧ ∀ (i : Nat) (h : i < 16), i < j → (p.Cells[i]).Data.length ≤ 12) (fun s => (16 - s).toNat)
    (fun b => (b = true → ∀ (i : Nat) (h : i < 16), (p.Cells[i]).Data.length ≤ 12) ∧ ((∀ (i : Nat) (h : i < 16), J4I p.LSN p.Cells[i]) → b = true)) (fun s ⟨j, hj, h4, hc⟩ => ?_) 0 ⟨0, rfl, by omega, fun i h hh => by omega⟩
  subst hj
  by_cases hlt : j < 16
  · have e1 : ((j : Nat) : Int) < 16 := by omega
    have e2 := J5v p.Cells j hlt
    have e3 := J1X (show j < 1000000 by omega)
    have bad : ¬ J4I p.LSN p.Cells[j] → (∀ (i : Nat) (h : i < 16), J4I p.LSN p.Cells[i]) → false = true := fun h1 h2 => (h1 (h2 j hlt)).elim
    by_cases h12 : (((p.Cells[j]).Data.length : Nat) : Int) > 12
    · right
      exact ⟨false, by simp only [JT, e1, decide_true, if_true, e2, Option.bind_some, h12], fun h => (by cases h), bad fun h => by have := h.1; omega⟩
    · have nxt : ∀ (i : Nat) (h : i < 16), i < j + 1 → (p.Cells[i]).Data.length ≤ 12 := by
        intro i hi hij
        by_cases hh : i < j
        · exact hc i hi hh
        · obtain rfl : i = j := by omega
          omega
      by_cases hs : (p.Cells[j]).Set = true
      · by_cases hl : p.LSN = 0
        · right
          exact ⟨false, by simp only [JT, e1, decide_true, if_true, e2, Option.bind_some, h12, decide_false, Bool.false_eq_true, if_false, hs, hl, beq_self_eq_true], fun h => (by cases h), bad fun h => h.2.2 hs hl⟩
        · left
          have e4 : (p.LSN == 0) = false := by simpa using hl
          exact ⟨((j + 1 : Nat) : Int), by simp only [JT, e1, decide_true, if_true, e2, Option.bind_some, h12, decide_false, Bool.false_eq_true, if_false, hs, e4, e3], ⟨j + 1, rfl, by omega, nxt⟩, by omega⟩
      · have hs' : (p.Cells[j]).Set = false := by simpa using hs
        by_cases hd : (p.Cells[j]).Data = []
        · left
          exact ⟨((j + 1 : Nat) : Int), by simp only [JT, e1, decide_true, if_true, e2, Option.bind_some, h12, decide_false, Bool.false_eq_true, if_false, hs', hd, beq_self_eq_true, e3]; rfl, ⟨j + 1, rfl, by omega, nxt⟩, by omega⟩
        · right
          have e4 : ((p.Cells[j]).Data == []) = false := by simpa using hd
          exact ⟨false, by simp only [JT, e1, decide_true, if_true, e2, Option.bind_some, h12, decide_false, Bool.false_eq_true, if_false, hs', e4], fun h => (by cases h), bad fun h => hd (h.2.1 hs')⟩
  · right
    have e1 : ¬ ((j : Nat) : Int) < 16 := by omega
    exact ⟨true, by simp only [JT, e1, decide_false, Bool.false_eq_true, if_false, J3V, Option.map_some], fun _ i h => hc i h (by omega), fun _ => rfl⟩
end Go.Am
end
section
namespace Go.Am
def P32 : Nat := 2197175160
def gb (c : Nat) : Nat := if c % 2 = 1 then c / 2 ^^^ P32 else c / 2
def gN : Nat → Nat → Nat
  | 0, c => c
  | j + 1, c => gN j (gb c)
def sl (b : Nat) : Nat := if b = 1 then P32 else 0
theorem Jbz (c : Nat) : gb c = c / 2 ^^^ sl (c % 2) := by
  unfold gb sl
  split
  · rfl
  · rw [Nat.xor_zero]
theorem JkU (x y : Nat) : gb (x ^^^ y) = gb x ^^^ gb y := by
  have e1 : (x ^^^ y) / 2 = x / 2 ^^^ y / 2 := by have := @Nat.xor_div_two_pow x y 1; simpa using this
  have e2 : (x ^^^ y) % 2 = x % 2 ^^^ y % 2 := by have := @Nat.xor_mod_two_pow x y 1; simpa using this
  simp only [Jbz, e1, e2]
  have e3 : sl (x % 2 ^^^ y % 2) = sl (x % 2) ^^^ sl (y % 2) := by
    rcases Nat.mod_two_eq_zero_or_one x with h | h <;> rcases Nat.mod_two_eq_zero_or_one y with h' | h' <;> rw [h, h'] <;> decide
  rw [e3]
  ac_rfl
theorem Jbt : ∀ (j x y : Nat), gN j (x ^^^ y) = gN j x ^^^ gN j y
  | 0, _, _ => rfl
  | j + 1, x, y => by simp only [gN]; rw [JkU, Jbt j]
theorem Jhw : ∀ (i j x : Nat), gN (i + j) x = gN j (gN i x)
  | 0, j, x => by simp [gN]
  | i + 1, j, x => by rw [Nat.succ_add]; simp only [gN]; exact Jhw i j _
theorem Jft (c : Nat) : gN 4 c = c / 16 ^^^ (sl (c / 8 % 2) ^^^ gN 1 (sl (c / 4 % 2)) ^^^ gN 2 (sl (c / 2 % 2)) ^^^ gN 3 (sl (c % 2))) := by
  have s1 : gN 4 c = gN 3 (c / 2) ^^^ gN 3 (sl (c % 2)) := by
    rw [← Jbt, ← Jbz]; rfl
  have s2 : gN 3 (c / 2) = gN 2 (c / 4) ^^^ gN 2 (sl (c / 2 % 2)) := by
    rw [← Jbt, show c / 4 = c / 2 / 2 by omega, ← Jbz]; rfl
  have s3 : gN 2 (c / 4) = gN 1 (c / 8) ^^^ gN 1 (sl (c / 4 % 2)) := by
    rw [← Jbt, show c / 8 = c / 4 / 2 by omega, ← Jbz]; rfl
  have s4 : gN 1 (c / 8) = c / 16 ^^^ sl (c / 8 % 2) := by
    rw [show c / 16 = c / 8 / 2 by omega, ← Jbz]; rfl
  rw [s1, s2, s3, s4]
  ac_rfl
theorem Ji1 (c : Nat) : gN 4 c = c / 16 ^^^ gN 4 (c % 16) := by
  rw [Jft c, Jft (c % 16)]
  have a0 : c % 16 / 16 = 0 := by omega
  have a1 : c % 16 / 8 % 2 = c / 8 % 2 := by omega
  have a2 : c % 16 / 4 % 2 = c / 4 % 2 := by omega
  have a3 : c % 16 / 2 % 2 = c / 2 % 2 := by omega
  have a4 : c % 16 % 2 = c % 2 := by omega
  rw [a0, a1, a2, a3, a4, Nat.zero_xor]
theorem Jhl : P32 < 2 ^ 32 := by decide
theorem Jjp {c : Nat} (h : c < 2 ^ 32) : gb c < 2 ^ 32 := by
  unfold gb
  split
  · exact Nat.xor_lt_two_pow (by omega) Jhl
  · omega
theorem Jbn : ∀ {j c : Nat}, c < 2 ^ 32 → gN j c < 2 ^ 32
  | 0, _, h => h
  | j + 1, _, h => Jbn (j := j) (Jjp h)
theorem J7F (n : Nat) (h : n < 2 ^ 32) : IntKind.wrap .u32 (n : Int) = (n : Int) := by
  rw [show IntKind.wrap .u32 (n : Int) = (n : Int) % 4294967296 from rfl]; omega
theorem JbT {n : Nat} (h : n < 2 ^ 32) : (BitVec.ofInt 32 (n : Int)).toNat = n := by
  rw [BitVec.toNat_ofInt]; omega
theorem JaO {x y : Nat} (hx : x < 2 ^ 32) (hy : y < 2 ^ 32) : J43 .u32 (x : Int) (y : Int) = ((x ^^^ y : Nat) : Int) := by
  show IntKind.wrap .u32 (((BitVec.ofInt 32 (x : Int) ^^^ BitVec.ofInt 32 (y : Int)).toNat : Nat) : Int) = _
  rw [BitVec.toNat_xor, JbT hx, JbT hy, J7F _ (Nat.xor_lt_two_pow hx hy)]
theorem Jeo {x : Nat} (hx : x < 2 ^ 32) (k : Nat) (hk : k ≤ 20) : J2U .u32 (x : Int) ((2 ^ k - 1 : Nat) : Int) = ((x % 2 ^ k : Nat) : Int) := by
  show IntKind.wrap .u32 (((BitVec.ofInt 32 (x : Int) &&& BitVec.ofInt 32 ((2 ^ k - 1 : Nat) : Int)).toNat : Nat) : Int) = _
  have h2 : 2 ^ k - 1 < 2 ^ 32 := by
    have : (2 : Nat) ^ k ≤ 2 ^ 20 := Nat.pow_le_pow_right (by omega) hk
    omega
  rw [BitVec.toNat_and, JbT hx, JbT h2, Nat.and_two_pow_sub_one_eq_mod, J7F _ (Nat.lt_of_le_of_lt (Nat.mod_le _ _) hx)]
theorem JmU {x : Nat} (hx : x < 2 ^ 32) : J2U .u32 (x : Int) 1 = ((x % 2 : Nat) : Int) := Jeo hx 1 (by omega)
theorem JlP {x : Nat} (hx : x < 2 ^ 32) : J2U .u32 (x : Int) 15 = ((x % 16 : Nat) : Int) := Jeo hx 4 (by omega)
theorem JmO (x : Nat) : J7v .u32 (x : Int) 1 = some ((x / 2 : Nat) : Int) := by
  show some ((x : Int).fdiv 2) = _
  rw [Int.fdiv_eq_ediv_of_nonneg _ (by omega)]; simp
theorem JmJ (x : Nat) : J7v .u32 (x : Int) 4 = some ((x / 16 : Nat) : Int) := by
  show some ((x : Int).fdiv 16) = _
  rw [Int.fdiv_eq_ediv_of_nonneg _ (by omega)]; simp
def JdK : List UInt8 → Nat → Nat
  | [], c => c
  | b :: r, c => JdK r (gN 8 (c ^^^ b.toNat))
theorem J9R (b : UInt8) : b.toNat < 2 ^ 32 := by have := UInt8.toNat_lt b; omega
theorem Jfs : ∀ {l : List UInt8} {c : Nat}, c < 2 ^ 32 → JdK l c < 2 ^ 32
  | [], _, h => h
  | b :: r, _, h => Jfs (l := r) (Jbn (Nat.xor_lt_two_pow h (J9R b)))
def crc (l : List UInt8) : Nat := JdK l 4294967295 ^^^ 4294967295
theorem Jlw (l : List UInt8) : crc l < 2 ^ 32 := Nat.xor_lt_two_pow (Jfs (by decide)) (by decide)
theorem Jib {x : Nat} (hx : x < 2 ^ 32) : JiV .u32 (x : Int) = ((x ^^^ 4294967295 : Nat) : Int) := by
  show IntKind.wrap .u32 (((BitVec.ofInt 32 4294967295 ^^^ BitVec.ofInt 32 (x : Int)).toNat : Nat) : Int) = _
  rw [BitVec.toNat_xor, JbT hx, show (4294967295 : Int) = ((4294967295 : Nat) : Int) by rfl, JbT (by decide), Nat.xor_comm, J7F _ (Nat.xor_lt_two_pow hx (by decide))]
theorem Jbu : ∃ v, J1j = some v ∧ ∀ (i : Nat) (h : i < 16), v[i] = ((gN 4 i : Nat) : Int) := by
  have inner : ∀ (k : Nat) (b0 b1 : Vector Int 16), k < 16 → ∀ (m j c : Nat), c < 2 ^ 32 → j + m = 4 → JO (fun s : Int × Int => J04 k k b0 b1 s.1 s.2) ((c : Int), (j : Int)) = some (.inl (((k + 1 : Nat) : Int), JbX b1 k ((gN m c : Nat) : Int))) := by
    intro k b0 b1 hk m
    induction m with
    | zero =>
      intro j c hc hj
      obtain rfl : j = 4 := by omega
      refine J2v ?_
      have e1 : ¬ (((4 : Nat) : Nat) : Int) < 4 := by omega
      simp only [J04, e1, decide_false, Bool.false_eq_true, if_false, J23, J26, J9J hk, J5v _ k hk, Option.bind_some, Option.map_some, J1X (show k < 1000000 by omega), gN]
    | succ m ih =>
      intro j c hc hj
      have e1 : ((j : Nat) : Int) < 4 := by omega
      refine (J4i (s' := (((gb c : Nat) : Int), ((j + 1 : Nat) : Int))) ?_).trans (ih (j + 1) (gb c) (Jjp hc) (by omega))
      have e2 := JmU hc
      simp only [J04, e1, decide_true, if_true, e2, JmO, Option.bind_some, J1X (show j < 1000000 by omega)]
      unfold gb
      by_cases hb : c % 2 = 1
      · simp only [hb, if_true, Int.natCast_one, beq_self_eq_true]
        rw [show (2197175160 : Int) = ((P32 : Nat) : Int) by rfl, JaO (by omega) Jhl]
      · have e3 : (((c % 2 : Nat) : Int) == 1) = false := by simp; omega
        simp only [hb, if_false, e3, Bool.false_eq_true]
  refine J1F (f := fun s : Int × Vector Int 16 => J0j (Vector.replicate 16 0) s.1 s.2) (fun s => ∃ j : Nat, s.1 = j ∧ j ≤ 16 ∧ ∀ (i : Nat) (h : i < 16), i < j → s.2[i] = ((gN 4 i : Nat) : Int)) (fun s => (16 - s.1).toNat) (fun v => ∀ (i : Nat) (h : i < 16), v[i] = ((gN 4 i : Nat) : Int)) (fun s ⟨j, hj, h4, hv⟩ => ?_) (0, Vector.replicate 16 0) ⟨0, rfl, by omega, fun i h hh => by omega⟩
  obtain ⟨j', b1⟩ := s
  simp only at hj hv
  subst hj
  by_cases hlt : j < 16
  · left
    have e1 : ((j : Nat) : Int) < 16 := by omega
    have ho := inner j (Vector.replicate 16 0) b1 hlt 4 0 j (by omega) (by omega)
    refine ⟨⟨((j + 1 : Nat) : Int), JbX b1 j ((gN 4 j : Nat) : Int)⟩, by simp only [J0j, e1, decide_true, if_true, J7F j (by omega)]; exact ho, ⟨j + 1, rfl, by omega, fun i h hh => ?_⟩, by simp; omega⟩
    simp only [JbX, Int.toNat_natCast, Vector.getElem_setIfInBounds]
    by_cases hij : j = i
    · subst hij; simp
    · rw [if_neg hij]; exact hv i h (by omega)
  · right
    obtain rfl : j = 16 := by omega
    have e1 : ¬ (((16 : Nat) : Nat) : Int) < 16 := by omega
    exact ⟨b1, by simp only [J0j, e1, decide_false, Bool.false_eq_true, if_false, J25, Option.map_some], fun i h => hv i h h⟩
theorem JiB (l : List UInt8) (hl : l.length ≤ 100000) : J1H l = some ((crc l : Nat) : Int) := by
  obtain ⟨v, hv, ht⟩ := Jbu
  have outer : ∀ (m j c : Nat), c < 2 ^ 32 → j + m = l.length → JO (fun s : Int × Int => J1q l (l.length : Int) v s.1 s.2) ((c : Int), (j : Int)) = some (((JdK (l.drop j) c ^^^ 4294967295 : Nat) : Int)) := by
    intro m
    induction m with
    | zero =>
      intro j c hc hj
      obtain rfl : j = l.length := by omega
      refine J2v ?_
      have e1 : ¬ ((l.length : Nat) : Int) < ((l.length : Nat) : Int) := by omega
      simp only [J1q, e1, decide_false, Bool.false_eq_true, if_false, J4l, Option.map_some, Jib hc, List.drop_length, JdK]
    | succ m ih =>
      intro j c hc hj
      have hlt : j < l.length := by omega
      have e1 : ((j : Nat) : Int) < ((l.length : Nat) : Int) := by omega
      have hx := Nat.xor_lt_two_pow hc (J9R l[j])
      have step : ∀ x : Nat, x < 2 ^ 32 → inb 16 (J2U .u32 (x : Int) 15) = some () ∧ J6x v (J2U .u32 (x : Int) 15) = some ((gN 4 (x % 16) : Nat) : Int) ∧ J43 .u32 ((x / 16 : Nat) : Int) ((gN 4 (x % 16) : Nat) : Int) = ((gN 4 x : Nat) : Int) := by
        intro x hx
        have h16 : x % 16 < 16 := by omega
        rw [JlP hx]
        refine ⟨J9J h16, by rw [J5v _ _ h16, ht _ h16], ?_⟩
        rw [JaO (by omega) (Jbn (by omega)), ← Ji1]
      refine (J4i (s' := (((gN 8 (c ^^^ (l[j]).toNat) : Nat) : Int), ((j + 1 : Nat) : Int))) ?_).trans ((ih (j + 1) _ (Jbn hx) (by omega)).trans ?_)
      · obtain ⟨a1, a2, a3⟩ := step _ hx
        obtain ⟨b1, b2, b3⟩ := step (gN 4 (c ^^^ (l[j]).toNat)) (Jbn hx)
        simp only [J1q, e1, decide_true, if_true, JfK hlt, Option.bind_some, J7F _ (J9R l[j]), JaO hc (J9R l[j]), JmJ, a1, a2, a3, b1, b2, b3, J1X (show j < 1000000 by omega)]
        rw [← Jhw 4 4]
      · rw [List.drop_eq_getElem_cons hlt]
        rfl
  unfold J1H
  rw [hv]
  exact outer l.length 0 4294967295 (by decide) (by omega)
end Go.Am
end
section
namespace Go.Am
end Go.Am
end
section
namespace Go.Am
def blk : List UInt8 := List.replicate 256 0
end Go.Am
end
section
namespace Go.Am
end Go.Am
end
section
namespace Go.Am
def J8u (c : Je) : List UInt8 := J1m (if c.Set then (c.Data.length : Int) else 255) 1 ++ c.Data ++ List.replicate (12 - c.Data.length) 0
theorem JgT {c : Je} (h : c.Data.length ≤ 12) : (J8u c).length = 13 := by
  simp only [J8u, List.length_append, J2Y, List.length_replicate]; omega
theorem Jhb (b : T_page_builder) (c : Je) (hc : c.Data.length ≤ 12) (hb : b.s_.length ≤ 300) : J1D b c = some ⟨b.s_ ++ J8u c⟩ := by
  have go : ∀ x : Int, J1e x b c = some ⟨b.s_ ++ (J1m x 1 ++ c.Data ++ List.replicate (12 - c.Data.length) 0)⟩ := by
    intro x
    have e0 : IntKind.wrap .i64 (12 - ((c.Data.length : Nat) : Int)) = ((12 - c.Data.length : Nat) : Int) := by rw [J71 (by omega) (by omega)]; omega
    have e1 := J9d b.s_ x (k := 1) (by omega) (by omega) (by omega)
    have e2 : J7y (b.s_ ++ J1m x 1) c.Data = some (b.s_ ++ J1m x 1 ++ c.Data) := Jet (by rw [List.length_append, J2Y]; omega) (by omega)
    have e3 := JdI (n := ((12 - c.Data.length : Nat) : Int)) (by omega) (by omega)
    rw [Int.toNat_natCast] at e3
    have e4 : J7y (b.s_ ++ J1m x 1 ++ c.Data) (List.replicate (12 - c.Data.length) 0) = some (b.s_ ++ J1m x 1 ++ c.Data ++ List.replicate (12 - c.Data.length) 0) := Jet (by simp only [List.length_append, J2Y]; omega) (by simp; omega)
    unfold J1e
    rw [show (1 : Int) = ((1 : Nat) : Int) by rfl, e1, Option.bind_some, e2, Option.bind_some, e0, e3, Option.bind_some, e4, Option.bind_some]
    simp only [List.append_assoc]
  unfold J1D J8u
  cases hs : c.Set with
  | true => simp only [if_true]; exact go _
  | false => simp only [Bool.false_eq_true, if_false]; exact go _
end Go.Am
end
section
namespace Go.Am
def J5T (l : List Je) : List UInt8 := (l.map J8u).flatten
theorem J8m : ∀ {l : List Je}, (∀ c ∈ l, c.Data.length ≤ 12) → (J5T l).length = 13 * l.length
  | [], _ => rfl
  | c :: l, h => by
    have h1 := JgT (h c (by simp))
    have h2 := J8m (l := l) fun d hd => h d (by simp [hd])
    simp only [J5T, List.map_cons, List.flatten_cons, List.length_append, List.length_cons] at h2 ⊢
    omega
theorem Jfn (l : List Je) (c : Je) : J5T (l ++ [c]) = J5T l ++ J8u c := by simp [J5T]
def J49 (p : Jb) : List UInt8 := J1m p.LSN 8 ++ J1m p.ID 4 ++ J5T p.Cells.toList ++ List.replicate 24 0
theorem JeR {p : Jb} (hp : J7Z p) : ∃ c, J1H (J49 p) = some c ∧ J2b p = some (J49 p ++ J1m (IntKind.wrap .i64 c) 4 ++ J1m p.LSN 8, 0) := by
  have hd : ∀ c ∈ p.Cells.toList, c.Data.length ≤ 12 := by
    intro c hc
    obtain ⟨i, hi, rfl⟩ := List.getElem_of_mem hc
    have h16 : i < 16 := by simpa using hi
    have := (hp.cells i h16).1
    simpa using this
  have loop := J1F (f := fun s : Int × T_page_builder => J1W p.Cells p s.1 s.2) (fun s => ∃ j : Nat, s.1 = j ∧ j ≤ 16 ∧ s.2.s_ = J1m p.LSN 8 ++ J1m p.ID 4 ++ J5T (p.Cells.toList.take j)) (fun s => (16 - s.1).toNat)
    (fun r => ∃ c, J1H (J49 p) = some c ∧ r = (J49 p ++ J1m (IntKind.wrap .i64 c) 4 ++ J1m p.LSN 8, 0)) (fun s ⟨j, hj, h4, ht⟩ => by
    obtain ⟨j', b⟩ := s
    simp only at hj ht
    subst hj
    have hl : (J5T (p.Cells.toList.take j)).length = 13 * j := by
      rw [J8m fun c hc => hd c (List.mem_of_mem_take hc)]
      simp; omega
    have hbl : b.s_.length = 12 + 13 * j := by rw [ht]; simp only [List.length_append, J2Y, hl]
    by_cases hlt : j < 16
    · left
      have e1 : ((j : Nat) : Int) < 16 := by omega
      have e2 := Jhb b p.Cells[j] (hp.cells j hlt).1 (by omega)
      have e3 : p.Cells.toList.take (j + 1) = p.Cells.toList.take j ++ [p.Cells[j]] := by
        rw [List.take_add_one, List.getElem?_eq_getElem (by simpa using hlt)]
        simp
      exact ⟨⟨((j + 1 : Nat) : Int), ⟨b.s_ ++ J8u p.Cells[j]⟩⟩, by simp only [J1W, e1, decide_true, if_true, J5v _ j hlt, Option.bind_some, e2, J1X (show j < 1000000 by omega)], ⟨j + 1, rfl, by omega, by show b.s_ ++ _ = _; rw [ht, e3, Jfn]; simp only [List.append_assoc]⟩, by simp; omega⟩
    · right
      obtain rfl : j = 16 := by omega
      have e1 : ¬ (((16 : Nat) : Nat) : Int) < 16 := by omega
      have e5 : p.Cells.toList.take 16 = p.Cells.toList := List.take_of_length_le (by simp)
      rw [e5] at ht
      have a0 : IntKind.wrap .i64 (244 - ((b.s_.length : Nat) : Int)) = 24 := by rw [hbl, J71 (by omega) (by omega)]; omega
      have a1 : J2l [0] 24 = some (List.replicate 24 0) := JdI (n := 24) (by omega) (by omega)
      have a6 : b.s_ ++ List.replicate 24 0 = J49 p := by rw [ht]; rfl
      have a7 : (J49 p).length = 244 := by rw [← a6]; simp [hbl]
      have a2 : J7y b.s_ (List.replicate 24 0) = some (J49 p) := by rw [← a6]; exact Jet (by omega) (by simp)
      obtain ⟨r, a3⟩ := JlC (J49 p) (by omega)
      have a4 := J9d (J49 p) (IntKind.wrap .i64 r) (k := 4) (by omega) (by omega) (by omega)
      have a5 := J9d (J49 p ++ J1m (IntKind.wrap .i64 r) 4) p.LSN (k := 8) (by omega) (by omega) (by simp [a7, J2Y])
      refine ⟨_, ?_, r, a3, rfl⟩
      simp only [J1W, e1, decide_false, Bool.false_eq_true, if_false, J4D, a0, a1, a2, a3, Option.bind_some]
      rw [show (4 : Int) = ((4 : Nat) : Int) by rfl, a4, Option.bind_some, show (8 : Int) = ((8 : Nat) : Int) by rfl, a5]
      rfl) (0, ⟨J1m p.LSN 8 ++ J1m p.ID 4⟩) ⟨0, rfl, by omega, by simp [J5T]⟩
  obtain ⟨r, hr, c, hc, rfl⟩ := loop
  refine ⟨c, hc, ?_⟩
  obtain ⟨d, e2, _, hd2⟩ := JhI p
  have hd3 := hd2 hp.cells
  subst hd3
  have e1 : J1r p = some true := by
    have i0 := hp.id0; have i1 := hp.id1; have l0 := hp.lsn0; have l1 := hp.lsn1
    simp [J1r, J3a, i0, i1, l0, l1]
  have a1 := J9d [] p.LSN (k := 8) (by omega) (by omega) (by simp)
  have a2 := J9d ([] ++ J1m p.LSN 8) p.ID (k := 4) (by omega) (by omega) (by simp [J2Y])
  unfold J2b
  simp only [e1, e2, Option.bind_some, if_true]
  rw [show (8 : Int) = ((8 : Nat) : Int) by rfl, a1, Option.bind_some, show (4 : Int) = ((4 : Nat) : Int) by rfl, a2, Option.bind_some, List.nil_append]
  exact hr
end Go.Am
end
section
namespace Go.Am
theorem JiX {p : Jb} (hp : J7Z p) : (J49 p).length = 244 := by
  have hd : ∀ c ∈ p.Cells.toList, c.Data.length ≤ 12 := by
    intro c hc
    obtain ⟨i, hi, rfl⟩ := List.getElem_of_mem hc
    have h16 : i < 16 := by simpa using hi
    have := (hp.cells i h16).1
    simpa using this
  unfold J49
  simp only [List.length_append, J2Y, List.length_replicate]
  rw [J8m hd]
  simp
end Go.Am
end
section
namespace Go.Am
end Go.Am
end
section
namespace Go.Am
end Go.Am
end
section
namespace Go.Am
def Jgn (p : Jb) : Prop := ∀ (i : Nat) (h : i < 16), J4I p.LSN p.Cells[i]
theorem JgN (p : Jb) : ∃ b, J2x p = some b ∧ (b = true ↔ Jgn p) := by
  refine J1F (f := fun s : Int => JT p.Cells p s) (fun s => ∃ j : Nat, s = j ∧ j ≤ 16 ∧ ∀ (i : Nat) (h : i < 16), i < j → J4I p.LSN p.Cells[i]) (fun s => (16 - s).toNat)
    (fun b => b = true ↔ Jgn p) (fun s ⟨j, hj, h4, hc⟩ => ?_) 0 ⟨0, rfl, by omega, fun i h hh => by omega⟩
  subst hj
  by_cases hlt : j < 16
  · have e1 : ((j : Nat) : Int) < 16 := by omega
    have e2 := J5v p.Cells j hlt
    have e3 := J1X (show j < 1000000 by omega)
    have bad : ¬ J4I p.LSN p.Cells[j] → (false = true ↔ Jgn p) := fun h1 => ⟨fun h => (by cases h), fun h2 => (h1 (h2 j hlt)).elim⟩
    have nxt : J4I p.LSN p.Cells[j] → ∀ (i : Nat) (h : i < 16), i < j + 1 → J4I p.LSN p.Cells[i] := by
      intro hok i hi hij
      by_cases hh : i < j
      · exact hc i hi hh
      · obtain rfl : i = j := by omega
        exact hok
    by_cases h12 : (((p.Cells[j]).Data.length : Nat) : Int) > 12
    · right
      exact ⟨false, by simp only [JT, e1, decide_true, if_true, e2, Option.bind_some, h12], bad fun h => by have := h.1; omega⟩
    · by_cases hs : (p.Cells[j]).Set = true
      · by_cases hl : p.LSN = 0
        · right
          exact ⟨false, by simp only [JT, e1, decide_true, if_true, e2, Option.bind_some, h12, decide_false, Bool.false_eq_true, if_false, hs, hl, beq_self_eq_true], bad fun h => h.2.2 hs hl⟩
        · left
          have e4 : (p.LSN == 0) = false := by simpa using hl
          exact ⟨((j + 1 : Nat) : Int), by simp only [JT, e1, decide_true, if_true, e2, Option.bind_some, h12, decide_false, Bool.false_eq_true, if_false, hs, e4, e3], ⟨j + 1, rfl, by omega, nxt ⟨by omega, (fun h => by rw [hs] at h; cases h), fun _ => hl⟩⟩, by omega⟩
      · have hs' : (p.Cells[j]).Set = false := by simpa using hs
        by_cases hd : (p.Cells[j]).Data = []
        · left
          exact ⟨((j + 1 : Nat) : Int), by simp only [JT, e1, decide_true, if_true, e2, Option.bind_some, h12, decide_false, Bool.false_eq_true, if_false, hs', hd, beq_self_eq_true, e3]; rfl, ⟨j + 1, rfl, by omega, nxt ⟨by omega, fun _ => hd, fun h => (hs h).elim⟩⟩, by omega⟩
        · right
          have e4 : ((p.Cells[j]).Data == []) = false := by simpa using hd
          exact ⟨false, by simp only [JT, e1, decide_true, if_true, e2, Option.bind_some, h12, decide_false, Bool.false_eq_true, if_false, hs', e4], bad fun h => hd (h.2.1 hs')⟩
  · right
    have e1 : ¬ ((j : Nat) : Int) < 16 := by omega
    exact ⟨true, by simp only [JT, e1, decide_false, Bool.false_eq_true, if_false, J3V, Option.map_some], fun _ i h => hc i h (by omega), fun _ => rfl⟩
end Go.Am
end
section
namespace Go.Am
theorem JgD (p : Jb) : ∃ b, J1r p = some b ∧ (b = true ↔ (0 ≤ p.ID ∧ p.ID < 64 ∧ 0 ≤ p.LSN ∧ p.LSN ≤ 1099511627776)) := by
  unfold J1r J3a
  by_cases h1 : p.ID ≥ 0
  · by_cases h2 : p.ID < 64
    · by_cases h3 : p.LSN ≥ 0
      · refine ⟨decide (p.LSN ≤ 1099511627776), by simp only [h1, h2, h3, decide_true, if_true, Option.bind_some], ?_⟩
        rw [decide_eq_true_eq]
        exact ⟨fun h => ⟨h1, h2, h3, h⟩, fun h => h.2.2.2⟩
      · exact ⟨false, by simp only [h1, h2, h3, decide_true, decide_false, if_true, Bool.false_eq_true, if_false, Option.bind_some], by simp; omega⟩
    · exact ⟨false, by simp only [h1, h2, decide_true, decide_false, if_true, Bool.false_eq_true, if_false, Option.bind_some], by simp; omega⟩
  · exact ⟨false, by simp only [h1, decide_false, Bool.false_eq_true, if_false, Option.bind_some], by simp; omega⟩
theorem JgV (p : Jb) : ∃ b, J37 p = some b ∧ (b = true ↔ J7Z p) := by
  obtain ⟨a, h1, h2⟩ := JgD p
  obtain ⟨b, h3, h4⟩ := JgN p
  unfold J37
  simp only [h1, h3, Option.bind_some]
  cases a with
  | false =>
    refine ⟨false, rfl, fun h => (by cases h), fun h => ?_⟩
    have := h2.2 ⟨h.id0, h.id1, h.lsn0, h.lsn1⟩
    cases this
  | true =>
    obtain ⟨i0, i1, l0, l1⟩ := h2.1 rfl
    refine ⟨b, rfl, fun h => ⟨i0, i1, l0, l1, h4.1 h⟩, fun h => h4.2 h.cells⟩
def Jmg (p : Jb) : List UInt8 := J49 p ++ J1m ((crc (J49 p) : Nat) : Int) 4 ++ J1m p.LSN 8
theorem Jhp {p : Jb} (hp : J7Z p) : J2b p = some (Jmg p, 0) := by
  obtain ⟨c, h1, h2⟩ := JeR hp
  rw [JiB _ (by rw [JiX hp]; omega)] at h1
  injection h1 with h1
  subst h1
  have hc := Jlw (J49 p)
  rw [J71 (by omega) (by omega)] at h2
  exact h2
end Go.Am
end
section
namespace Go.Am
set_option maxRecDepth 16000
theorem bind_none {α β : Type} {o : Option α} {f : α → Option β} (h : Option.bind o f = none) (h2 : ∀ x, o = some x → f x ≠ none) : o = none := by
  cases o with
  | none => rfl
  | some x => exact (h2 x rfl h).elim
end Go.Am
end
section
namespace Go.Am
set_option maxRecDepth 16000
theorem Jgt {α ρ : Type} {f : Int → Option (Int ⊕ ρ)} {l : List α} {out : ρ} (hl : l.length < 1000000) (h1 : ∀ (k : Nat) (h : k < l.length), f (k : Int) = some (.inl ((k + 1 : Nat) : Int))) (h2 : f (l.length : Int) = some (.inr out)) : JO f 0 = some out := by
  obtain ⟨b, hb, rfl⟩ := J1F (f := f) (fun q => ∃ j : Nat, q = j ∧ j ≤ l.length) (fun q => (l.length - q).toNat) (fun b => b = out) (fun q ⟨j, hj, h4⟩ => by
    subst hj
    by_cases hlt : j < l.length
    · left
      exact ⟨((j + 1 : Nat) : Int), h1 j hlt, ⟨j + 1, rfl, by omega⟩, by omega⟩
    · right
      obtain rfl : j = l.length := by omega
      exact ⟨out, h2, rfl⟩) 0 ⟨0, rfl, by omega⟩
  exact hb
end Go.Am
end
